/- Walks: each Go function returns what its Lean function says. By program. -/
import Derived.Test.YtbhancgonaleoaaGreatDoorMatrixOfFormFa
import Derived.Test.YtbhancgonaleoaaGreatDoorMatrixOfFormW3
set_option linter.unusedVariables false
set_option maxRecDepth 100000
set_option maxHeartbeats 1000000
namespace Go.VK
open Go.RowKit
open Go.Proofs
open Go.IntKind
attribute [local irreducible] CW RW RA CV Y Yw Yc Ys RetOf
attribute [local irreducible] F_laws_szNormalForm F_laws_toNormalForm F_spec_l1In F_spec_l10Valid F_spec_l9Same F_spec_l1Even F_spec_l1Root F_spec_l1Half F_spec_l2Low F_spec_l1All F_spec_l1Good F_spec_l2C_ring F_spec_l1Mul F_spec_l2C_mul F_spec_l1Add F_spec_l2C_add F_spec_l2C_times F_spec_l1Neg F_spec_l2Neg F_spec_l1Turn F_spec_l2Power F_spec_l6One F_spec_l9Pauli F_spec_l1Conj F_spec_l2Conj F_spec_l3Adj F_spec_l9Bloch F_spec_l6Bit F_spec_l6Cell F_spec_l6Gate F_spec_l2C_run F_spec_l3Unit F_spec_l6Op F_spec_l9Word F_spec_l9Words F_spec_l10Gates F_spec_l10Circuit F_spec_MatrixOfForm F_impl_within F_impl_IsValidForm F_impl_isCoef F_impl_IsValidRing F_impl_isEven F_impl_IsValidDyadic F_impl_ringIf F_impl_MulRing F_impl_DivRootTwo F_impl_DyadicOf F_impl_MulDyadic F_impl_MulRootTwo F_impl_raised F_impl_combined F_impl_AddRing F_impl_AddDyadic F_impl_mulBloch F_impl_whole F_impl_small F_impl_isDim F_impl_matrixOf F_impl_isTwo F_impl_IsValidGate F_impl_MulOmega F_impl_phase F_impl_bitOf F_impl_flipped F_impl_comesFrom F_impl_entry F_impl_GateMatrix_1 F_impl_GateMatrix F_slices_IndexFunc_impl_Dyadic_impl_Dyadic F_slices_ContainsFunc_impl_Dyadic_impl_Dyadic F_impl_IsValidMatrix_1 F_impl_IsValidMatrix F_impl_IdentityMatrix_1 F_impl_IdentityMatrix F_impl_Matrix_at F_impl_MulMatrix_1 F_impl_MulMatrix F_impl_Conjugate F_impl_ConjDyadic F_impl_Adjoint_1 F_impl_Adjoint F_slices_Equal_impl_Dyadic_impl_Dyadic F_impl_EqualMatrices F_impl_IsUnitary F_impl_IsOneQubit F_impl_TraceOf F_impl_blochCell F_impl_BlochOf F_impl_blochGate F_slices_IndexFunc_SSimpl_Dyadic_impl_Dyadic F_slices_ContainsFunc_SSimpl_Dyadic_impl_Dyadic F_impl_cliffordList_1 F_impl_cliffordList F_impl_CliffordWord F_impl_wordGates F_impl_syllableGates F_impl_formGates F_slices_IndexFunc_impl_Gate_impl_Gate F_slices_ContainsFunc_impl_Gate_impl_Gate F_impl_IsValidCircuit_1 F_impl_IsValidCircuit F_impl_applied F_impl_OperatorOf F_impl_ScaleMatrix_1 F_impl_ScaleMatrix F_impl_MatrixOfForm F_laws_eqRing F_laws_eqDyadic F_laws_eqDyadicS F_laws_eqMatrix F_laws_markDyadicS F_laws_markMatrix F_laws_heldDyadicS F_laws_heldMatrix F_laws_FnExactMatrixOfForm
theorem c_slices_IndexFunc_SSimpl_Dyadic_impl_Dyadic (s : List (List TDyadic)) (f_ : (List TDyadic) → Option (Bool)) (B : Option Addr) (c n : Nat) (D : List (Hd × (List TDyadic))) (kf : Nat) (caps : Array Value) (Rf : List Ro) (w0 : World) (hn : s.length = n) (hD : D.map Prod.snd = s) (hk : callB Tryz.prog kf = true) (hp : ∀ (w : World) (x : List TDyadic) (B_x : Option Addr) (c_x : Nat), ST w [] w [] (⟨B_x, (x.flatMap eN0)⟩ :: Rf) → ∀ (y : Bool), f_ x = some y → CV Tryz.prog kf ((.slice B_x x.length c_x) :: caps.toList).toArray w (fun v w' => v = .bool y ∧ ST w [] w' [] [])) (hS : ST w0 [] w0 [] (⟨B, (D.flatMap eN3)⟩ :: ((D.flatMap eN1) ++ Rf))) {r_ : Int} (hF : F_slices_IndexFunc_SSimpl_Dyadic_impl_Dyadic s f_ = some r_) :
  CV Tryz.prog 108 #[.slice B n c, .func (.func kf) #[] caps] w0 (fun v w' => v = vi r_ ∧ ST w0 [] w' [] []) := by
 subst hn
 unfold F_slices_IndexFunc_SSimpl_Dyadic_impl_Dyadic at hF
 refine cv_of_cw 19 Tryz.func108 rfl Tryz.ntmps108 rfl ?_
 refine cw_seq (cw_region ?_)
 refine sQ 4 (Y_assign (v := vi 0) rfl rfl) (rw_nil (cw_seq (cw_seq (cw_region ?_))))
 refine sQ 6 (Y_move (v := .slice B s.length c) rfl rfl) ?_
 refine sQ 7 (Y_len (B := B) (m := s.length) (c := c) k_sl_58_28 rfl rfl) ?_
 refine sQ 8 (Y_move (v := vi 0) rfl rfl) (rw_nil ?_)
 obtain ⟨hN, hF⟩ := chk_inv hF
 obtain ⟨z, hz, hF1⟩ := bind_inv hF
 refine cw_block ?_
 refine cw_loop (fun k f w => ∃ (i : Nat), FF f [(0, .slice B s.length c), (1, .func (.func kf) #[] caps), (7, vi (s.length : Int)), (8, vi (i : Int))] ∧ ST w0 [] w [] (⟨B, (D.flatMap eN3)⟩ :: ((D.flatMap eN1) ++ Rf)) ∧ i + k = s.length ∧ forX (F_slices_IndexFunc_SSimpl_Dyadic_impl_Dyadic_l1 s f_) k i () = some z) s.length ⟨0, (FF.cons rfl (FF.cons rfl (FF.cons rfl (FF.cons rfl FF.nil)))), (hS.sel [] rfl rfl), Nat.zero_add _, hz⟩ ?_
 rintro k_ f w ⟨i, hf, hS1, hik, hL⟩
 refine cw_seq (cw_region ?_)
 refine sQ 9 (Y_lt (k := .i64) (a := (i : Int)) (b := (s.length : Int)) rfl (hf.get 8 3 rfl) (hf.get 7 2 rfl)) (rw_nil (cw_seq ?_))
 refine cw_cond (b := (decide ((i : Int) < (s.length : Int)))) rfl (fun hlt => ?_) (fun hlt => ?_)
 ·skip
  have hlt1 : i < s.length := by have h := of_decide_eq_true hlt; omega
  obtain ⟨k_1, rfl⟩ : ∃ k2, k_ = k2 + 1 := ⟨k_ - 1, by omega⟩
  obtain ⟨y1, hb, hL1⟩ := forX_go hL
  unfold F_slices_IndexFunc_SSimpl_Dyadic_impl_Dyadic_l1 at hb
  refine cw_skip (cw_seq (cw_block (cw_seq (cw_region ?_))))
  refine sQ 10 (Y_move (v := vi (i : Int)) rfl (hf.get 8 3 rfl)) ?_
  refine sQ 5 (Y_assign (v := vi (i : Int)) rfl rfl) (rw_nil (cw_seq (cw_region ?_)))
  refine sQ 11 (Y_move (v := .func (.func kf) #[] caps) rfl (hf.get 1 1 rfl)) ?_
  refine sQ 12 (Y_move (v := .slice B s.length c) rfl (hf.get 0 0 rfl)) ?_
  refine sQ 13 (Y_move (v := vi (i : Int)) rfl rfl) ?_
  obtain ⟨x1, hx, hb⟩ := bind_inv hb
  obtain ⟨⟨B1, c1⟩, hp1⟩ := getI_snd hD hx
  refine sQ 14 (Y_index (B := B) (m := s.length) (c := c) (k := .i64) (i := (i : Int)) k_sl_58_28 k_sz_28_1 rfl rfl rfl (gi_isSome encD_SDyadic_len rfl (hS1.rf (i := 0) rfl) hp1) (getI_nn hp1) (getI_ltI hp1 (dl_len hD))) ?_
  have hm : (⟨B1, (x1.flatMap eN0)⟩ : Ro) ∈ ((⟨B, (D.flatMap eN3)⟩ :: ((D.flatMap eN1) ++ Rf)) : List Ro) := app_mem (fun r_ (h : r_ ∈ ((D.flatMap eN1) : List Ro)) => mOd (i := 1) (show r_ ∈ ((((D.flatMap eN1) ++ Rf)) : List Ro) from mAl _ h)) (row_mem (rw_ := eN1) hp1 _ (mem_at (i := 0) rfl))
  have hS2 : ST w0 [] _ [] (⟨B1, (x1.flatMap eN0)⟩ :: ⟨B, (D.flatMap eN3)⟩ :: ((D.flatMap eN1) ++ Rf)) := ST.subR hS1 (subc hm (fun _ h => h))
  refine sQ 15 (Y_load1 (B := B) (i := (i : Int).toNat * 1) (cs := (D.flatMap eN3)) (v := .slice B1 x1.length c1) k_sc_28 rfl rfl (hS2.rf (i := 1) rfl) (gi_at0 encD_SDyadic_len hp1 rfl)) ?_
  obtain ⟨r_1, hc, hb⟩ := bind_inv hb
  refine sc 16 rfl rfl (Yc_clos (g := kf) (vs := (.slice B1 x1.length c1) :: caps.toList) hk rfl rfl (clo_args (mc rfl mn)) (hp _ x1 B1 c1 (hS2.innR0 (srcR (mem_at (i := 0) rfl) (fun x h => Or.inl (app_mem (fun r_ (h : r_ ∈ (Rf : List Ro)) => mOd (i := 2) (show r_ ∈ ((((D.flatMap eN1) ++ Rf)) : List Ro) from mAr _ (h))) h)))) r_1 hc)) ?_
  rintro _ w_ ⟨rfl, hd⟩
  have hS3 := hS2.out00 hd
  refine rw_nil ?_
  refine cw_cond (b := r_1) rfl (fun hb1 => ?_) (fun hb1 => ?_)
  ·skip
   have hF2 := ct hb hb1
   refine cw_seq (cw_region ?_)
   refine sQ 17 (Y_move (v := vi (i : Int)) rfl rfl) ?_
   refine sQ 4 (Y_assign (v := vi (i : Int)) rfl rfl) (rw_nil (cw_ret ?_))
   obtain rfl := some_inj hF2
   obtain rfl := some_inj hL1
   obtain rfl := some_inj hF1
   exact ret1 Tryz.results108 (v1 := vi (i : Int)) (resAt_tmp rfl) ⟨rfl, (hS3.sN [])⟩
  ·skip
   have hF3 := cf' hb hb1
   refine cw_skip (cw_region ?_)
   refine sQ 18 (Y_add (k := .i64) (a := (i : Int)) (b := 1) rfl (hf.get 8 3 rfl) rfl) ?_
   refine sQ 8 (Y_move (v := vi (i64.wrap ((i : Int) + 1))) rfl rfl) (rw_nil ?_)
   obtain rfl := some_inj hF3
   have hS4 : ST w0 [] _ [] (⟨B, (D.flatMap eN3)⟩ :: ((D.flatMap eN1) ++ Rf)) := ST.subR hS3 (subc (mem_at (i := 1) rfl) (suba (fun r_ (h : r_ ∈ ((D.flatMap eN1) : List Ro)) => mOd (i := 2) (show r_ ∈ ((((D.flatMap eN1) ++ Rf)) : List Ro) from mAl _ h)) (fun r_ (h : r_ ∈ (Rf : List Ro)) => mOd (i := 2) (show r_ ∈ ((((D.flatMap eN1) ++ Rf)) : List Ro) from mAr _ (h)))))
   exact ⟨k_1, Nat.lt_succ_self _, i + 1, (FF.cons (hf.get 0 0 rfl) (FF.cons (hf.get 1 1 rfl) (FF.cons (hf.get 7 2 rfl) (FF.cons (congrArg (Value.int .i64) (wr_succ hlt1 hN)) FF.nil)))), (hS4.sel [] rfl rfl), (by omega), hL1⟩
 ·skip
  obtain rfl : k_ = 0 := by have h := of_decide_eq_false hlt; omega
  refine cw_exit rfl ?_
  obtain rfl := some_inj hL
  refine cw_seq (cw_region ?_)
  refine sQ 4 (Y_assign (v := vi (-1)) rfl rfl) (rw_nil (cw_ret ?_))
  obtain rfl := some_inj hF1
  exact ret1 Tryz.results108 (v1 := vi (-1)) (resAt_tmp rfl) ⟨rfl, (hS1.sN [])⟩

theorem c_slices_ContainsFunc_SSimpl_Dyadic_impl_Dyadic (s : List (List TDyadic)) (f_ : (List TDyadic) → Option (Bool)) (B : Option Addr) (c n : Nat) (D : List (Hd × (List TDyadic))) (kf : Nat) (caps : Array Value) (Rf : List Ro) (w0 : World) (hn : s.length = n) (hD : D.map Prod.snd = s) (hk : callB Tryz.prog kf = true) (hp : ∀ (w : World) (x : List TDyadic) (B_x : Option Addr) (c_x : Nat), ST w [] w [] (⟨B_x, (x.flatMap eN0)⟩ :: Rf) → ∀ (y : Bool), f_ x = some y → CV Tryz.prog kf ((.slice B_x x.length c_x) :: caps.toList).toArray w (fun v w' => v = .bool y ∧ ST w [] w' [] [])) (hS : ST w0 [] w0 [] (⟨B, (D.flatMap eN3)⟩ :: ((D.flatMap eN1) ++ Rf))) {r_ : Bool} (hF : F_slices_ContainsFunc_SSimpl_Dyadic_impl_Dyadic s f_ = some r_) :
  CV Tryz.prog 68 #[.slice B n c, .func (.func kf) #[] caps] w0 (fun v w' => v = .bool r_ ∧ ST w0 [] w' [] []) := by
 subst hn
 unfold F_slices_ContainsFunc_SSimpl_Dyadic_impl_Dyadic at hF
 refine cv_of_cw 9 Tryz.func68 rfl Tryz.ntmps68 rfl ?_
 refine cw_seq (cw_region ?_)
 refine sQ 4 (Y_assign (v := .bool false) rfl rfl) (rw_nil (cw_seq (cw_region ?_)))
 refine sQ 5 (Y_move (v := .slice B s.length c) rfl rfl) ?_
 refine sQ 6 (Y_move (v := .func (.func kf) #[] caps) rfl rfl) ?_
 obtain ⟨r_1, hc, hF⟩ := bind_inv hF
 refine sc 7 rfl rfl (Yc_func (g := 108) (vs := [.slice B s.length c, .func (.func kf) #[] caps]) k_call_108 rfl (mc rfl (mc rfl mn)) (c_slices_IndexFunc_SSimpl_Dyadic_impl_Dyadic s f_ B c s.length D kf caps Rf _ (dl_fl hD (dl_len hD)) hD hk hp (hS.innS (subc (mem_at (i := 0) rfl) (fun _ h => mOd (i := 1) h))) hc)) ?_
 rintro _ w_ ⟨rfl, hd⟩
 have hS1 := hS.out00 hd
 refine sQ 8 (Y_ge (k := .i64) (a := r_1) (b := 0) rfl rfl rfl) ?_
 refine sQ 4 (Y_assign (v := .bool (decide (0 ≤ r_1))) rfl rfl) (rw_nil (cw_ret ?_))
 obtain rfl := some_inj hF
 exact ret1 Tryz.results68 (v1 := .bool (decide (0 ≤ r_1))) (resAt_tmp rfl) ⟨rfl, (hS1.sN [])⟩

theorem c_impl_cliffordList_1 (own : List TDyadic) (p : List TDyadic) (B : Option Addr) (c n : Nat) (B1 : Option Addr) (B2 : Option Addr) (c1 n1 : Nat) (w0 : World) (hn : own.length = n) (hn1 : p.length = n1) (hS : ST w0 [] w0 [] [⟨B, (own.flatMap eN0)⟩, ⟨B1, [.slice B2 n1 c1]⟩, ⟨B2, (p.flatMap eN0)⟩]) {r_ : Bool} (hF : F_impl_cliffordList_1 own p = some r_) :
  CV Tryz.prog 69 #[.slice B n c, pt B1 0] w0 (fun v w' => v = .bool r_ ∧ ST w0 [] w' [] []) := by
 subst hn
 subst hn1
 unfold F_impl_cliffordList_1 at hF
 refine cv_of_cw 7 Tryz.func69 rfl Tryz.ntmps69 rfl ?_
 refine cw_seq (cw_region ?_)
 refine sQ 3 (Y_assign (v := .bool false) rfl rfl) (rw_nil (cw_seq (cw_region ?_)))
 refine sQ 4 (Y_move (v := .slice B own.length c) rfl rfl) ?_
 refine sQ 5 (Y_load1 (B := B1) (i := 0) (cs := [.slice B2 p.length c1]) (v := .slice B2 p.length c1) k_sc_28 rfl rfl (hS.rf (i := 1) rfl) rfl) ?_
 obtain ⟨r_1, hc, hF⟩ := bind_inv hF
 refine sc 6 rfl rfl (Yc_func (g := 29) (vs := [.slice B own.length c, .slice B2 p.length c1]) k_call_29 rfl (mc rfl (mc rfl mn)) (c_slices_Equal_impl_Dyadic_impl_Dyadic own p B c own.length B2 c1 p.length _ rfl rfl (hS.inn0 [(true, 0), (true, 2)] rfl) hc)) ?_
 rintro _ w_ ⟨rfl, hd⟩
 have hS1 := hS.out00 hd
 refine sQ 3 (Y_assign (v := .bool r_1) rfl rfl) (rw_nil (cw_ret ?_))
 obtain rfl := some_inj hF
 exact ret1 Tryz.results69 (v1 := .bool r_1) (resAt_tmp rfl) ⟨rfl, (hS1.sN [])⟩

theorem c_impl_cliffordList   (w0 : World)  (hS : ST w0 [] w0 [] [⟨(aD 0), [vi 1, vi 0, vi 0, vi 0, vi 2]⟩]) {r_ : List (List UInt8)} {r_1 : List (List TDyadic)} (hF : F_impl_cliffordList = some (r_, r_1)) :
  CV Tryz.prog 28 #[] w0 (fun v w' => ∃ (B : Option Addr) (c : Nat) (B1 : Option Addr) (c1 : Nat) (D : List (Hd × (List TDyadic))), v = .tuple #[.slice B r_.length c, .slice B1 r_1.length c1] ∧ D.map Prod.snd = r_1 ∧ Org w0 [] [⟨(aD 0), [vi 1, vi 0, vi 0, vi 0, vi 2]⟩] (((D.flatMap eN1) ++ [])) ∧ ST w0 [] w' [⟨B, 9, (r_.flatMap encS), c * 1⟩, ⟨B1, 28, (D.flatMap eN3), c1 * 1⟩] (((D.flatMap eN1) ++ []))) := by
 unfold F_impl_cliffordList at hF
 refine cv_of_cw 80 Tryz.func28 rfl Tryz.ntmps28 rfl ?_
 refine cw_seq (cw_region ?_)
 refine sQ 0 (Y_assign (v := .slice none 0 0) rfl rfl) ?_
 refine sQ 1 (Y_assign (v := .slice none 0 0) rfl rfl) (rw_nil (cw_seq (cw_region ?_)))
 refine sS 13 (Ys_bslice0 (s := 5) (e := 65) hS k_sl_28_65 k_sz_65_5 rfl) ?_
 rintro _ w_ ⟨b, rfl, hS1⟩
 refine sQ 2 (Y_assign (v := .slice (aD b) 0 0) rfl rfl) (rw_nil (cw_seq (cw_seq (cw_region ?_))))
 refine sQ 14 (Y_move (v := vi 0) rfl rfl) (rw_nil ?_)
 obtain ⟨z, hz, hF1⟩ := bind_inv hF
 refine cw_block ?_
 refine cw_loop (fun k f w => ∃ (i : Nat) (one_ : List TDyadic) (B2 : Option Addr) (c2 : Nat), FF f [(2, .slice B2 one_.length c2), (14, vi (i : Int))] ∧ ST w0 [] w [⟨B2, 65, (one_.flatMap eN0), c2 * 5⟩] [⟨(aD 0), [vi 1, vi 0, vi 0, vi 0, vi 2]⟩] ∧ i + k = 9 ∧ forN F_impl_cliffordList_l1 k i one_ = some z) 9 ⟨0, [], aD b, 0, (FF.cons rfl (FF.cons rfl FF.nil)), (hS1.sel [0] rfl rfl), Nat.zero_add _, hz⟩ ?_
 rintro k_ f w ⟨i, one_, B2, c2, hf, hS2, hik, hL⟩
 refine cw_seq (cw_region ?_)
 refine sQ 15 (Y_lt (k := .i64) (a := (i : Int)) (b := 9) rfl (hf.get 14 1 rfl) rfl) (rw_nil (cw_seq ?_))
 refine cw_cond (b := (decide ((i : Int) < 9))) rfl (fun hlt => ?_) (fun hlt => ?_)
 ·skip
  have hlt1 : i < 9 := by have h := of_decide_eq_true hlt; omega
  obtain ⟨k_1, rfl⟩ : ∃ k2, k_ = k2 + 1 := ⟨k_ - 1, by omega⟩
  obtain ⟨y, hb, hL1⟩ := forN_go hL
  unfold F_impl_cliffordList_l1 at hb
  refine cw_skip (cw_seq (cw_block (cw_seq (cw_region ?_))))
  refine sQ 16 (Y_move (v := vi (i : Int)) rfl (hf.get 14 1 rfl)) ?_
  refine sQ 3 (Y_assign (v := vi (i : Int)) rfl rfl) (rw_nil (cw_region ?_))
  refine sQ 17 (Y_move (v := .slice B2 one_.length c2) rfl (hf.get 2 0 rfl)) ?_
  refine sQ 18 (Y_move (v := vi (i : Int)) rfl rfl) ?_
  refine sQ 19 (Y_rem (k := .i64) (a := (i : Int)) (b := 4) rfl rfl rfl (by decide)) ?_
  refine sQ 20 (Y_eq (k := .i64) (a := (Int.tmod (i : Int) 4)) (b := 0) rfl rfl rfl) ?_
  obtain ⟨r_2, hc, hb⟩ := bind_inv hb
  refine sc 21 rfl rfl (Yc_func (g := 66) (vs := [.bool ((Int.tmod (i : Int) 4) == 0)]) k_call_66 rfl (mc rfl mn) (c_impl_small ((Int.tmod (i : Int) 4) == 0) _  (hS2.inn0 [] rfl) hc)) ?_
  rintro _ w_1 ⟨rfl, hd⟩
  have hS3 := hS2.out00 hd
  obtain ⟨r_3, hc1, hb⟩ := bind_inv hb
  refine sc 22 rfl rfl (Yc_func (g := 65) (vs := [vi r_2]) k_call_65 rfl (mc rfl mn) (c_impl_whole r_2 _  (hS3.inn0 [] rfl) hc1)) ?_
  rintro _ w_2 ⟨rfl, hd1⟩
  have hS4 := hS3.out00 hd1
  refine sS 23 (Ys_bslice (s := 5) (len := 1) (vs := [(0, gD_ r_3)]) (cs := kD_ r_3) (zs := kZ_) (m := 5) hS4 k_sl_28_65 k_sz_65_5 k_zc_65 rfl (mpc rfl mpn) rfl rfl rfl (by kernel_rfl) (by kernel_rfl) rfl) ?_
  rintro _ w_3 ⟨b1, rfl, hS5⟩
  obtain ⟨hap, hb⟩ := chk_inv hb
  refine sS 24 (Ys_append (s := 5) (by' := 40) (i := 0) (nn := one_.length) (c := c2) (k := 1) (len := (one_ ++ [r_3]).length) (B := B2) (xs := ([r_3].flatMap eN0)) (cs' := ((one_ ++ [r_3]).flatMap eN0)) hS5 k_sl_28_65 k_sz_65_5 k_by_65_40 k_zero_65 rfl (by decide) rfl rfl rfl rfl (fm_lenn (l := one_) eN2 rfl) rfl (hS5.cf (i := 1) rfl) (fm_lenn (l := [r_3]) eN2 rfl) (fm_one' (enc := eN0) enc_Dyadic_one [r_3]) (by have := hap; omega) (by have := hap; simp only [maxLen]; omega) (fm_app _ _) (app_len (l := one_) (l' := [r_3]) rfl rfl)) ?_
  rintro _ w_4 ⟨B3, c3, rfl, hS6⟩
  refine sQ 2 (Y_assign (v := .slice B3 ((one_ ++ [r_3]).length) c3) rfl rfl) (rw_nil (cw_region ?_))
  refine sQ 25 (Y_add (k := .i64) (a := (i : Int)) (b := 1) rfl (hf.get 14 1 rfl) rfl) ?_
  refine sQ 14 (Y_move (v := vi (i64.wrap ((i : Int) + 1))) rfl rfl) (rw_nil ?_)
  obtain rfl := some_inj hb
  exact ⟨k_1, Nat.lt_succ_self _, i + 1, (one_ ++ [r_3]), B3, c3, (FF.cons rfl (FF.cons (congrArg (Value.int .i64) (wr_succ hlt1 (show 9 ≤ 9223372036854775807 by decide))) FF.nil)), (hS6.sel [0] rfl rfl), (by omega), hL1⟩
 ·skip
  obtain rfl : k_ = 0 := by have h := of_decide_eq_false hlt; omega
  refine cw_exit rfl ?_
  obtain rfl := some_inj hL
  refine cw_seq (cw_region ?_)
  refine sS 26 (Ys_bslice (s := 1) (len := 1) (vs := [(0, .string (bstr ([] : List UInt8)))]) (cs := [.string (bstr ([] : List UInt8))]) (zs := [.string (bstr ([] : List UInt8))]) (m := 1) hS2 k_sl_57_9 k_sz_9_1 k_zc_9 rfl (mpc rfl mpn) rfl rfl rfl (by kernel_rfl) (by kernel_rfl) rfl) ?_
  rintro _ w_5 ⟨b2, rfl, hS7⟩
  refine sQ 27 (Y_move (v := .slice B2 one_.length c2) rfl (hf.get 2 0 rfl)) ?_
  have ho : Org w0 [] [⟨(aD 0), [vi 1, vi 0, vi 0, vi 0, vi 2]⟩] [⟨B2, (one_.flatMap eN0)⟩] := ST.orgOwn hS7 (i := 0) rfl
  have hcap : one_.length ≤ c2 := (hS7.lencap (i := 0) rfl (fm_lenn (l := one_) eN2 rfl) rfl rfl)
  have hS8 : ST w0 [] _ [⟨aD b2, 9, ([([] : List UInt8)].flatMap encS), 1 * 1⟩] [⟨B2, (one_.flatMap eN0)⟩, ⟨(aD 0), [vi 1, vi 0, vi 0, vi 0, vi 2]⟩] := hS7.freeze (i := 0) rfl
  refine sS 28 (Ys_bslice (s := 1) (len := 1) (vs := [(0, .slice B2 one_.length c2)]) (cs := [.slice B2 one_.length c2]) (zs := [.slice none 0 0]) (m := 1) hS8 k_sl_58_28 k_sz_28_1 k_zc_28 rfl (mpc rfl mpn) rfl rfl rfl (by kernel_rfl) (by kernel_rfl) rfl) ?_
  rintro _ w_6 ⟨b3, rfl, hS9⟩
  have hm : ∀ r ∈ (([((B2, c2), one_)] : List (Hd × (List TDyadic))).flatMap eN1), r ∈ ([⟨B2, (one_.flatMap eN0)⟩, ⟨(aD 0), [vi 1, vi 0, vi 0, vi 0, vi 2]⟩] : List Ro) := (fsub_cons (subc (mem_at (i := 0) rfl) (fun _ h => by cases h)) fsub_nil)
  have ho1 : Org w0 [] [⟨(aD 0), [vi 1, vi 0, vi 0, vi 0, vi 2]⟩] (([((B2, c2), one_)] : List (Hd × (List TDyadic))).flatMap eN1) := (forg_cons (org_cons ho org_nil) forg_nil)
  have hS10 : ST w0 [] _ [⟨aD b2, 9, ([([] : List UInt8)].flatMap encS), 1 * 1⟩, ⟨aD b3, 28, (([((B2, c2), one_)] : List (Hd × (List TDyadic))).flatMap eN3), 1 * 1⟩] (⟨B2, (one_.flatMap eN0)⟩ :: ⟨(aD 0), [vi 1, vi 0, vi 0, vi 0, vi 2]⟩ :: ((([((B2, c2), one_)] : List (Hd × (List TDyadic))).flatMap eN1) ++ [])) := ST.subR hS9 (subc (mem_at (i := 0) rfl) (subc (mem_at (i := 1) rfl) (suba hm (fun _ h => by cases h))))
  refine sQ 4 (Y_assign (v := .slice (aD b2) 1 1) rfl rfl) ?_
  refine sQ 5 (Y_assign (v := .slice (aD b3) 1 1) rfl rfl) (rw_nil (cw_seq (cw_region ?_)))
  obtain ⟨r_4, hc2, hF1⟩ := bind_inv hF1
  refine sc 29 rfl rfl (Yc_func (g := 67) (vs := [vi 1]) k_call_67 rfl (mc rfl mn) (c_impl_blochGate 1 _  (hS10.inn0 [(true, 1)] rfl) hc2)) ?_
  rintro _ w_7 ⟨B4, c4, rfl, hd2⟩
  have hS11 := hS10.out0 hd2
  refine sQ 30 (Y_field1 (v := .slice B4 r_4.Cells.length c4) k_fd_30_0_0_28 k_sc_28 rfl rfl rfl) ?_
  obtain ⟨r_5, hc3, hF1⟩ := bind_inv hF1
  refine sc 31 rfl rfl (Yc_func (g := 67) (vs := [vi 5]) k_call_67 rfl (mc rfl mn) (c_impl_blochGate 5 _  (hS11.inn0 [(true, 1)] rfl) hc3)) ?_
  rintro _ w_8 ⟨B5, c5, rfl, hd3⟩
  have hS12 := hS11.out0 hd3
  refine sQ 32 (Y_field1 (v := .slice B5 r_5.Cells.length c5) k_fd_30_0_0_28 k_sc_28 rfl rfl rfl) ?_
  refine sQ 6 (Y_assign (v := .slice B4 r_4.Cells.length c4) rfl rfl) ?_
  refine sQ 7 (Y_assign (v := .slice B5 r_5.Cells.length c5) rfl rfl) (rw_nil (cw_seq (cw_seq (cw_region ?_))))
  refine sQ 8 (Y_assign (v := vi 0) rfl rfl) (rw_nil ?_)
  obtain ⟨z1, hz1, hF2⟩ := bind_inv hF1
  have ho5 : Org w0 [] [⟨(aD 0), [vi 1, vi 0, vi 0, vi 0, vi 2]⟩] [⟨B4, (r_4.Cells.flatMap eN0)⟩] := ST.orgOwn hS12 (i := 2) rfl
  have hcap1 : r_4.Cells.length ≤ c4 := (hS12.lencap (i := 2) rfl (fm_lenn (l := r_4.Cells) eN2 rfl) rfl rfl)
  have hS14 : ST w0 [] _ [⟨aD b2, 9, ([([] : List UInt8)].flatMap encS), 1 * 1⟩, ⟨aD b3, 28, (([((B2, c2), one_)] : List (Hd × (List TDyadic))).flatMap eN3), 1 * 1⟩, ⟨B5, 65, (r_5.Cells.flatMap eN0), c5 * 5⟩] (⟨B4, (r_4.Cells.flatMap eN0)⟩ :: ⟨B2, (one_.flatMap eN0)⟩ :: ⟨(aD 0), [vi 1, vi 0, vi 0, vi 0, vi 2]⟩ :: ((([((B2, c2), one_)] : List (Hd × (List TDyadic))).flatMap eN1) ++ [])) := hS12.freeze (i := 2) rfl
  have ho6 : Org w0 [] [⟨(aD 0), [vi 1, vi 0, vi 0, vi 0, vi 2]⟩] [⟨B5, (r_5.Cells.flatMap eN0)⟩] := ST.orgOwn hS14 (i := 2) rfl
  have hcap2 : r_5.Cells.length ≤ c5 := (hS14.lencap (i := 2) rfl (fm_lenn (l := r_5.Cells) eN2 rfl) rfl rfl)
  have hS15 : ST w0 [] _ [⟨aD b2, 9, ([([] : List UInt8)].flatMap encS), 1 * 1⟩, ⟨aD b3, 28, (([((B2, c2), one_)] : List (Hd × (List TDyadic))).flatMap eN3), 1 * 1⟩] (⟨B5, (r_5.Cells.flatMap eN0)⟩ :: ⟨B4, (r_4.Cells.flatMap eN0)⟩ :: ⟨B2, (one_.flatMap eN0)⟩ :: ⟨(aD 0), [vi 1, vi 0, vi 0, vi 0, vi 2]⟩ :: ((([((B2, c2), one_)] : List (Hd × (List TDyadic))).flatMap eN1) ++ [])) := hS14.freeze (i := 2) rfl
  refine cw_block ?_
  refine cw_loop (fun k f w => ∃ (words : List (List UInt8)) (list : List (List TDyadic)) (at_1 : Int) (B6 : Option Addr) (c6 : Nat) (B7 : Option Addr) (c7 : Nat) (D1 : List (Hd × (List TDyadic))), FF f [(4, .slice B6 words.length c6), (5, .slice B7 list.length c7), (6, .slice B4 r_4.Cells.length c4), (7, .slice B5 r_5.Cells.length c5), (8, vi at_1)] ∧ D1.map Prod.snd = list ∧ Org w0 [] [⟨(aD 0), [vi 1, vi 0, vi 0, vi 0, vi 2]⟩] (D1.flatMap eN1) ∧ Org w0 [] [⟨(aD 0), [vi 1, vi 0, vi 0, vi 0, vi 2]⟩] [⟨B4, (r_4.Cells.flatMap eN0)⟩] ∧ r_4.Cells.length ≤ c4 ∧ Org w0 [] [⟨(aD 0), [vi 1, vi 0, vi 0, vi 0, vi 2]⟩] [⟨B5, (r_5.Cells.flatMap eN0)⟩] ∧ r_5.Cells.length ≤ c5 ∧ ST w0 [] w [⟨B6, 9, (words.flatMap encS), c6 * 1⟩, ⟨B7, 28, (D1.flatMap eN3), c7 * 1⟩] (⟨B5, (r_5.Cells.flatMap eN0)⟩ :: ⟨B4, (r_4.Cells.flatMap eN0)⟩ :: ⟨B2, (one_.flatMap eN0)⟩ :: ⟨(aD 0), [vi 1, vi 0, vi 0, vi 0, vi 2]⟩ :: ((D1.flatMap eN1) ++ [])) ∧ whX (F_impl_cliffordList_l2 r_4 r_5) k (words, list, at_1) = some z1) fuel ⟨[([] : List UInt8)], ([one_] : List (List TDyadic)), 0, aD b2, 1, aD b3, 1, ([((B2, c2), one_)] : List (Hd × (List TDyadic))), (FF.cons rfl (FF.cons rfl (FF.cons rfl (FF.cons rfl (FF.cons rfl FF.nil))))), (show List.map Prod.snd ([((B2, c2), one_)] : List (Hd × (List TDyadic))) = ([one_] : List (List TDyadic)) from rfl), ho1, ho5, (len_le rfl hcap1), ho6, (len_le rfl hcap2), (hS15.sel [0, 1] rfl rfl), hz1⟩ ?_
  rintro k_2 f w ⟨words, list, at_1, B6, c6, B7, c7, D1, hf1, hD1, ho2, ho3, hq, ho4, hq1, hS13, hL2⟩
  obtain ⟨k_3, y1, rfl, hb1, hL3⟩ := whX_go hL2
  unfold F_impl_cliffordList_l2 at hb1
  refine cw_seq (cw_seq (cw_region ?_))
  refine sQ 33 (Y_move (v := vi at_1) rfl (hf1.get 8 4 rfl)) ?_
  refine sQ 34 (Y_move (v := .slice B6 words.length c6) rfl (hf1.get 4 0 rfl)) ?_
  refine sQ 35 (Y_len (B := B6) (m := words.length) (c := c6) k_sl_57_9 rfl rfl) ?_
  refine sQ 36 (Y_lt (k := .i64) (a := at_1) (b := (words.length : Int)) rfl rfl rfl) (rw_nil ?_)
  refine cw_cond (b := (decide (at_1 < (words.length : Int)))) rfl (fun hb2 => ?_) (fun hb2 => ?_)
  ·skip
   have hF3 := ct hb1 hb2
   refine cw_skip (cw_seq (cw_block (cw_seq (cw_region ?_))))
   refine sQ 39 (Y_move (v := .slice B4 r_4.Cells.length c4) rfl (hf1.get 6 2 rfl)) ?_
   refine sQ 40 (Y_move (v := .slice B5 r_5.Cells.length c5) rfl (hf1.get 7 3 rfl)) ?_
   refine sS 41 (Ys_bslice (s := 1) (len := 2) (vs := [(0, .slice B4 r_4.Cells.length c4), (1, .slice B5 r_5.Cells.length c5)]) (cs := [.slice B4 r_4.Cells.length c4, .slice B5 r_5.Cells.length c5]) (zs := [.slice none 0 0, .slice none 0 0]) (m := 2) hS13 k_sl_58_28 k_sz_28_1 k_zc_28 rfl (mpc rfl (mpc rfl mpn)) rfl rfl rfl (by kernel_rfl) (by kernel_rfl) rfl) ?_
   rintro _ w_9 ⟨b4, rfl, hS16⟩
   have hm1 : ∀ r ∈ (([((B4, c4), r_4.Cells), ((B5, c5), r_5.Cells)] : List (Hd × (List TDyadic))).flatMap eN1), r ∈ ((⟨B5, (r_5.Cells.flatMap eN0)⟩ :: ⟨B4, (r_4.Cells.flatMap eN0)⟩ :: ⟨B2, (one_.flatMap eN0)⟩ :: ⟨(aD 0), [vi 1, vi 0, vi 0, vi 0, vi 2]⟩ :: ((D1.flatMap eN1) ++ [])) : List Ro) := (fsub_cons (subc (mem_at (i := 1) rfl) (fun _ h => by cases h)) (fsub_cons (subc (mem_at (i := 0) rfl) (fun _ h => by cases h)) fsub_nil))
   have ho7 : Org w0 [] [⟨(aD 0), [vi 1, vi 0, vi 0, vi 0, vi 2]⟩] (([((B4, c4), r_4.Cells), ((B5, c5), r_5.Cells)] : List (Hd × (List TDyadic))).flatMap eN1) := (forg_cons (org_cons ho3 org_nil) (forg_cons (org_cons ho4 org_nil) forg_nil))
   have hS17 : ST w0 [] _ [⟨B6, 9, (words.flatMap encS), c6 * 1⟩, ⟨B7, 28, (D1.flatMap eN3), c7 * 1⟩, ⟨aD b4, 28, (([((B4, c4), r_4.Cells), ((B5, c5), r_5.Cells)] : List (Hd × (List TDyadic))).flatMap eN3), 2 * 1⟩] (⟨B5, (r_5.Cells.flatMap eN0)⟩ :: ⟨B4, (r_4.Cells.flatMap eN0)⟩ :: ⟨B2, (one_.flatMap eN0)⟩ :: ⟨(aD 0), [vi 1, vi 0, vi 0, vi 0, vi 2]⟩ :: ((([((B4, c4), r_4.Cells), ((B5, c5), r_5.Cells)] : List (Hd × (List TDyadic))).flatMap eN1) ++ ((D1.flatMap eN1) ++ []))) := ST.subR hS16 (subc (mem_at (i := 0) rfl) (subc (mem_at (i := 1) rfl) (subc (mem_at (i := 2) rfl) (subc (mem_at (i := 3) rfl) (suba hm1 (suba (fun r_ (h : r_ ∈ ((D1.flatMap eN1) : List Ro)) => mOd (i := 4) (show r_ ∈ ((((D1.flatMap eN1) ++ [])) : List Ro) from mAl _ h)) (fun _ h => by cases h)))))))
   refine sQ 42 (Y_len (B := aD b4) (m := 2) (c := 2) k_sl_58_28 rfl rfl) ?_
   refine sQ 43 (Y_move (v := vi 0) rfl rfl) (rw_nil ?_)
   obtain ⟨z2, hz2, hF4⟩ := bind_inv hF3
   have hS19 : ST w0 [] _ [⟨B6, 9, (words.flatMap encS), c6 * 1⟩, ⟨B7, 28, (D1.flatMap eN3), c7 * 1⟩, ⟨aD b4, 28, (([((B4, c4), r_4.Cells), ((B5, c5), r_5.Cells)] : List (Hd × (List TDyadic))).flatMap eN3), 2 * 1⟩] (⟨B5, (r_5.Cells.flatMap eN0)⟩ :: ⟨B4, (r_4.Cells.flatMap eN0)⟩ :: ⟨B2, (one_.flatMap eN0)⟩ :: ⟨(aD 0), [vi 1, vi 0, vi 0, vi 0, vi 2]⟩ :: ((D1.flatMap eN1) ++ ((([((B4, c4), r_4.Cells), ((B5, c5), r_5.Cells)] : List (Hd × (List TDyadic))).flatMap eN1) ++ []))) := ST.subR hS17 (subc (mem_at (i := 0) rfl) (subc (mem_at (i := 1) rfl) (subc (mem_at (i := 2) rfl) (subc (mem_at (i := 3) rfl) (suba (fun r_ (h : r_ ∈ ((D1.flatMap eN1) : List Ro)) => mOd (i := 4) (show r_ ∈ ((((([((B4, c4), r_4.Cells), ((B5, c5), r_5.Cells)] : List (Hd × (List TDyadic))).flatMap eN1) ++ ((D1.flatMap eN1) ++ []))) : List Ro) from mAr _ (mAl _ h))) (suba (fun r_ (h : r_ ∈ ((([((B4, c4), r_4.Cells), ((B5, c5), r_5.Cells)] : List (Hd × (List TDyadic))).flatMap eN1) : List Ro)) => mOd (i := 4) (show r_ ∈ ((((([((B4, c4), r_4.Cells), ((B5, c5), r_5.Cells)] : List (Hd × (List TDyadic))).flatMap eN1) ++ ((D1.flatMap eN1) ++ []))) : List Ro) from mAl _ h)) (fun _ h => by cases h)))))))
   refine cw_block ?_
   refine cw_loop (fun k f w => ∃ (i2 : Nat) (words1 : List (List UInt8)) (list1 : List (List TDyadic)) (B8 : Option Addr) (c8 : Nat) (B9 : Option Addr) (c9 : Nat) (D2 : List (Hd × (List TDyadic))) (D3 : List (Hd × (List TDyadic))), FF f [(4, .slice B8 words1.length c8), (5, .slice B9 list1.length c9), (6, .slice B4 r_4.Cells.length c4), (7, .slice B5 r_5.Cells.length c5), (8, vi at_1), (41, .slice (aD b4) (([r_4.Cells, r_5.Cells] : List (List TDyadic)).length) 2), (42, vi 2), (43, vi (i2 : Int))] ∧ D2.map Prod.snd = list1 ∧ Org w0 [] [⟨(aD 0), [vi 1, vi 0, vi 0, vi 0, vi 2]⟩] (D2.flatMap eN1) ∧ D3.map Prod.snd = ([r_4.Cells, r_5.Cells] : List (List TDyadic)) ∧ Org w0 [] [⟨(aD 0), [vi 1, vi 0, vi 0, vi 0, vi 2]⟩] (D3.flatMap eN1) ∧ ST w0 [] w [⟨B8, 9, (words1.flatMap encS), c8 * 1⟩, ⟨B9, 28, (D2.flatMap eN3), c9 * 1⟩, ⟨aD b4, 28, (D3.flatMap eN3), 2 * 1⟩] (⟨B5, (r_5.Cells.flatMap eN0)⟩ :: ⟨B4, (r_4.Cells.flatMap eN0)⟩ :: ⟨B2, (one_.flatMap eN0)⟩ :: ⟨(aD 0), [vi 1, vi 0, vi 0, vi 0, vi 2]⟩ :: ((D2.flatMap eN1) ++ ((D3.flatMap eN1) ++ []))) ∧ i2 + k = 2 ∧ forN (F_impl_cliffordList_l3 r_4 r_5 at_1) k i2 (words1, list1) = some z2) 2 ⟨0, words, list, B6, c6, B7, c7, D1, ([((B4, c4), r_4.Cells), ((B5, c5), r_5.Cells)] : List (Hd × (List TDyadic))), (FF.cons (hf1.get 4 0 rfl) (FF.cons (hf1.get 5 1 rfl) (FF.cons (hf1.get 6 2 rfl) (FF.cons (hf1.get 7 3 rfl) (FF.cons (hf1.get 8 4 rfl) (FF.cons rfl (FF.cons rfl (FF.cons rfl FF.nil)))))))), hD1, ho2, (show List.map Prod.snd ([((B4, c4), r_4.Cells), ((B5, c5), r_5.Cells)] : List (Hd × (List TDyadic))) = ([r_4.Cells, r_5.Cells] : List (List TDyadic)) from rfl), ho7, (hS19.sel [0, 1, 2] rfl rfl), Nat.zero_add _, hz2⟩ ?_
   rintro k_4 f w ⟨i2, words1, list1, B8, c8, B9, c9, D2, D3, hf2, hD2, ho8, hD3, ho9, hS18, hik2, hL4⟩
   refine cw_seq (cw_region ?_)
   refine sQ 44 (Y_lt (k := .i64) (a := (i2 : Int)) (b := 2) rfl (hf2.get 43 7 rfl) (hf2.get 42 6 rfl)) (rw_nil (cw_seq ?_))
   refine cw_cond (b := (decide ((i2 : Int) < 2))) rfl (fun hlt2 => ?_) (fun hlt2 => ?_)
   ·skip
    have hlt3 : i2 < 2 := by have h := of_decide_eq_true hlt2; omega
    obtain ⟨k_5, rfl⟩ : ∃ k2, k_4 = k2 + 1 := ⟨k_4 - 1, by omega⟩
    obtain ⟨y2, hb3, hL5⟩ := forN_go hL4
    unfold F_impl_cliffordList_l3 at hb3
    refine cw_skip (cw_seq ?_)
    obtain ⟨z3, hz3, hF5⟩ := bind_inv hb3
    refine cw_mid (fun f w => ∃ (words2 : List (List UInt8)) (list2 : List (List TDyadic)) (B10 : Option Addr) (c10 : Nat) (B11 : Option Addr) (c11 : Nat) (D4 : List (Hd × (List TDyadic))) (D5 : List (Hd × (List TDyadic))), (words2, list2) = z3 ∧ FF f [(4, .slice B10 words2.length c10), (5, .slice B11 list2.length c11), (6, .slice B4 r_4.Cells.length c4), (7, .slice B5 r_5.Cells.length c5), (8, vi at_1), (41, .slice (aD b4) (([r_4.Cells, r_5.Cells] : List (List TDyadic)).length) 2), (42, vi 2), (43, vi (i2 : Int))] ∧ D4.map Prod.snd = list2 ∧ Org w0 [] [⟨(aD 0), [vi 1, vi 0, vi 0, vi 0, vi 2]⟩] (D4.flatMap eN1) ∧ D5.map Prod.snd = ([r_4.Cells, r_5.Cells] : List (List TDyadic)) ∧ Org w0 [] [⟨(aD 0), [vi 1, vi 0, vi 0, vi 0, vi 2]⟩] (D5.flatMap eN1) ∧ ST w0 [] w [⟨B10, 9, (words2.flatMap encS), c10 * 1⟩, ⟨B11, 28, (D4.flatMap eN3), c11 * 1⟩, ⟨aD b4, 28, (D5.flatMap eN3), 2 * 1⟩] (⟨B5, (r_5.Cells.flatMap eN0)⟩ :: ⟨B4, (r_4.Cells.flatMap eN0)⟩ :: ⟨B2, (one_.flatMap eN0)⟩ :: ⟨(aD 0), [vi 1, vi 0, vi 0, vi 0, vi 2]⟩ :: ((D4.flatMap eN1) ++ ((D5.flatMap eN1) ++ [])))) ?_ ?_
    ·skip
     refine cw_block (cw_seq (cw_region ?_))
     refine sQ 45 (Y_move (v := vi (i2 : Int)) rfl (hf2.get 43 7 rfl)) ?_
     obtain ⟨x, hx, hz3⟩ := bind_inv hz3
     obtain ⟨⟨B12, c12⟩, hp⟩ := getI_snd hD3 hx
     refine sQ 46 (Y_index (B := aD b4) (m := ([r_4.Cells, r_5.Cells] : List (List TDyadic)).length) (c := 2) (k := .i64) (i := (i2 : Int)) k_sl_58_28 k_sz_28_1 rfl (hf2.get 41 5 rfl) (hf2.get 43 7 rfl) (gi_isSome encD_SDyadic_len rfl (hS18.cf (i := 2) rfl) hp) (getI_nn hp) (getI_ltI hp (dl_len hD3))) ?_
     have hm2 : (⟨B12, (x.flatMap eN0)⟩ : Ro) ∈ ((⟨B5, (r_5.Cells.flatMap eN0)⟩ :: ⟨B4, (r_4.Cells.flatMap eN0)⟩ :: ⟨B2, (one_.flatMap eN0)⟩ :: ⟨(aD 0), [vi 1, vi 0, vi 0, vi 0, vi 2]⟩ :: ((D2.flatMap eN1) ++ ((D3.flatMap eN1) ++ []))) : List Ro) := app_mem (fun r_ (h : r_ ∈ ((D3.flatMap eN1) : List Ro)) => mOd (i := 4) (show r_ ∈ ((((D2.flatMap eN1) ++ ((D3.flatMap eN1) ++ []))) : List Ro) from mAr _ (mAl _ h))) (row_mem (rw_ := eN1) hp _ (mem_at (i := 0) rfl))
     have hS21 : ST w0 [] _ [⟨B8, 9, (words1.flatMap encS), c8 * 1⟩, ⟨B9, 28, (D2.flatMap eN3), c9 * 1⟩, ⟨aD b4, 28, (D3.flatMap eN3), 2 * 1⟩] (⟨B12, (x.flatMap eN0)⟩ :: ⟨B5, (r_5.Cells.flatMap eN0)⟩ :: ⟨B4, (r_4.Cells.flatMap eN0)⟩ :: ⟨B2, (one_.flatMap eN0)⟩ :: ⟨(aD 0), [vi 1, vi 0, vi 0, vi 0, vi 2]⟩ :: ((D2.flatMap eN1) ++ ((D3.flatMap eN1) ++ []))) := ST.subR hS18 (subc hm2 (fun _ h => h))
     refine sQ 47 (Y_load1 (B := aD b4) (i := (i2 : Int).toNat * 1) (cs := (D3.flatMap eN3)) (v := .slice B12 x.length c12) k_sc_28 rfl rfl (hS21.cf (i := 2) rfl) (gi_at0 encD_SDyadic_len hp rfl)) ?_
     refine sQ 9 (Y_assign (v := vi (i2 : Int)) rfl rfl) ?_
     refine sQ 10 (Y_assign (v := .slice B12 x.length c12) rfl rfl) (rw_nil (cw_seq (cw_region ?_)))
     refine sQ 49 (Y_move (v := .slice B12 x.length c12) rfl rfl) ?_
     refine sQ 50 (Y_move (v := .slice B9 list1.length c9) rfl (hf2.get 5 1 rfl)) ?_
     refine sQ 51 (Y_move (v := vi at_1) rfl (hf2.get 8 4 rfl)) ?_
     obtain ⟨x1, hx1, hz3⟩ := bind_inv hz3
     obtain ⟨⟨B13, c13⟩, hp1⟩ := getI_snd hD2 hx1
     refine sQ 52 (Y_index (B := B9) (m := list1.length) (c := c9) (k := .i64) (i := at_1) k_sl_58_28 k_sz_28_1 rfl rfl rfl (gi_isSome encD_SDyadic_len rfl (hS21.cf (i := 1) rfl) hp1) (getI_nn hp1) (getI_ltI hp1 (dl_len hD2))) ?_
     have hm3 : (⟨B13, (x1.flatMap eN0)⟩ : Ro) ∈ ((⟨B12, (x.flatMap eN0)⟩ :: ⟨B5, (r_5.Cells.flatMap eN0)⟩ :: ⟨B4, (r_4.Cells.flatMap eN0)⟩ :: ⟨B2, (one_.flatMap eN0)⟩ :: ⟨(aD 0), [vi 1, vi 0, vi 0, vi 0, vi 2]⟩ :: ((D2.flatMap eN1) ++ ((D3.flatMap eN1) ++ []))) : List Ro) := app_mem (fun r_ (h : r_ ∈ ((D2.flatMap eN1) : List Ro)) => mOd (i := 5) (show r_ ∈ ((((D2.flatMap eN1) ++ ((D3.flatMap eN1) ++ []))) : List Ro) from mAl _ h)) (row_mem (rw_ := eN1) hp1 _ (mem_at (i := 0) rfl))
     have hS22 : ST w0 [] _ [⟨B8, 9, (words1.flatMap encS), c8 * 1⟩, ⟨B9, 28, (D2.flatMap eN3), c9 * 1⟩, ⟨aD b4, 28, (D3.flatMap eN3), 2 * 1⟩] (⟨B13, (x1.flatMap eN0)⟩ :: ⟨B12, (x.flatMap eN0)⟩ :: ⟨B5, (r_5.Cells.flatMap eN0)⟩ :: ⟨B4, (r_4.Cells.flatMap eN0)⟩ :: ⟨B2, (one_.flatMap eN0)⟩ :: ⟨(aD 0), [vi 1, vi 0, vi 0, vi 0, vi 2]⟩ :: ((D2.flatMap eN1) ++ ((D3.flatMap eN1) ++ []))) := ST.subR hS21 (subc hm3 (fun _ h => h))
     refine sQ 53 (Y_load1 (B := B9) (i := at_1.toNat * 1) (cs := (D2.flatMap eN3)) (v := .slice B13 x1.length c13) k_sc_28 rfl rfl (hS22.cf (i := 1) rfl) (gi_at0 encD_SDyadic_len hp1 rfl)) ?_
     obtain ⟨⟨r_6, r_7⟩, hc4, hz3⟩ := bind_inv hz3
     refine sc 54 rfl rfl (Yc_func (g := 62) (vs := [.slice B12 x.length c12, .slice B13 x1.length c13]) k_call_62 rfl (mc rfl (mc rfl mn)) (c_impl_mulBloch x x1 B12 c12 x.length B13 c13 x1.length _ rfl rfl (hS22.inn0 [(true, 1), (true, 0)] rfl) hc4)) ?_
     rintro _ w_10 ⟨B14, c14, rfl, hd4⟩
     have hS23 := hS22.out0 hd4
     refine sQ 48 (Y_move (v := .tuple #[.slice B14 r_6.length c14, .bool r_7]) rfl rfl) ?_
     refine sQ 55 (Y_extract (v := .slice B14 r_6.length c14) rfl rfl rfl) ?_
     refine sQ 56 (Y_extract (v := .bool r_7) rfl rfl rfl) ?_
     refine sS 11 (Ys_alloc (T := 28) (cs := [.slice none 0 0]) (m := 1) hS23 k_zero_28 rfl rfl rfl) ?_
     rintro _ w_11 ⟨b5, rfl, hS24⟩
     refine s0 (Ys_store (i := 4) (s := 1) (B := aD b5) (T' := 28) (v := .slice B14 r_6.length c14) (vs := [.slice B14 r_6.length c14]) (k := 0) (cs' := [.slice B14 r_6.length c14]) hS24 k_sz_28_1 rfl rfl rfl rfl rfl rfl rfl (lB rfl) rfl rfl) ?_
     rintro _ w_12 ⟨rfl, hS25⟩
     refine sQ 12 (Y_assign (v := .bool r_7) rfl rfl) (rw_nil (cw_seq (cw_region ?_)))
     refine sQ 57 (Y_move (v := .slice B9 list1.length c9) rfl (hf2.get 5 1 rfl)) ?_
     refine sQ 58 (Y_makeFunc (cs := [pt (aD b5) 0]) rfl rfl (mc rfl mn)) ?_
     obtain ⟨r_8, hc5, hz3⟩ := bind_inv hz3
     refine sc 59 rfl rfl (Yc_func (g := 68) (vs := [.slice B9 list1.length c9, .func (.func 69) #[] #[pt (aD b5) 0]]) k_call_68 rfl (mc rfl (mc rfl mn)) (c_slices_ContainsFunc_SSimpl_Dyadic_impl_Dyadic list1 (fun x_0 => F_impl_cliffordList_1 x_0 r_6) B9 c9 list1.length D2 69 (#[pt (aD b5) 0]) [⟨aD b5, [.slice B14 r_6.length c14]⟩, ⟨B14, (r_6.flatMap eN0)⟩] _ (dl_fl hD2 (dl_len hD2)) hD2 k_call_69 (fun w x_0 B_0 c_0 hw y_0 h_ => c_impl_cliffordList_1 x_0 r_6 B_0 c_0 x_0.length (aD b5) B14 c14 r_6.length w rfl rfl hw h_) (hS25.innR0 (srcO (i := 1) rfl (srcG (fun r_ (h : r_ ∈ ((D2.flatMap eN1) : List Ro)) => mOd (i := 6) (show r_ ∈ ((((D2.flatMap eN1) ++ ((D3.flatMap eN1) ++ []))) : List Ro) from mAl _ h)) (srcO (i := 4) rfl (srcO (i := 3) rfl (fun _ h => by cases h)))))) hc5)) ?_
     rintro _ w_13 ⟨rfl, hd5⟩
     have hS26 := hS25.out00 hd5
     refine sQ 60 (Y_not (p := r_8) rfl rfl) (rw_nil ?_)
     refine cw_cond (b := (!r_8)) rfl (fun hb4 => ?_) (fun hb4 => ?_)
     ·skip
      have hF6 := ct hz3 hb4
      obtain ⟨x2, hx2, hF6⟩ := bind_inv hF6
      obtain ⟨hss, hF6⟩ := chk_inv hF6
      obtain ⟨hsa, hF6⟩ := chk_inv hF6
      obtain ⟨hap1, hF6⟩ := chk_inv hF6
      obtain ⟨hap2, hF6⟩ := chk_inv hF6
      have ho15 : Org w0 [] [⟨(aD 0), [vi 1, vi 0, vi 0, vi 0, vi 2]⟩] [⟨B14, (r_6.flatMap eN0)⟩] := ST.orgOwn hS26 (i := 3) rfl
      have hcap4 : r_6.length ≤ c14 := (hS26.lencap (i := 3) rfl (fm_lenn (l := r_6) eN2 rfl) rfl rfl)
      have hS30 : ST w0 [] _ [⟨B8, 9, (words1.flatMap encS), c8 * 1⟩, ⟨B9, 28, (D2.flatMap eN3), c9 * 1⟩, ⟨aD b4, 28, (D3.flatMap eN3), 2 * 1⟩, ⟨aD b5, 28, [.slice B14 r_6.length c14], 1⟩] (⟨B14, (r_6.flatMap eN0)⟩ :: ⟨B13, (x1.flatMap eN0)⟩ :: ⟨B12, (x.flatMap eN0)⟩ :: ⟨B5, (r_5.Cells.flatMap eN0)⟩ :: ⟨B4, (r_4.Cells.flatMap eN0)⟩ :: ⟨B2, (one_.flatMap eN0)⟩ :: ⟨(aD 0), [vi 1, vi 0, vi 0, vi 0, vi 2]⟩ :: ((D2.flatMap eN1) ++ ((D3.flatMap eN1) ++ []))) := hS26.freeze (i := 3) rfl
      refine cw_mid (fun f w => ∃ (B17 : Option Addr) (c17 : Nat) (B18 : Option Addr) (c18 : Nat) (D6 : List (Hd × (List TDyadic))), FF f [(4, .slice B17 ((words1 ++ [(x2 ++ (List.drop (i2 : Int).toNat (List.take (i64.wrap ((i2 : Int) + 1)).toNat ([72, 83] : List UInt8))))]).length) c17), (5, .slice B18 ((list1 ++ ([r_6] : List (List TDyadic))).length) c18), (6, .slice B4 r_4.Cells.length c4), (7, .slice B5 r_5.Cells.length c5), (8, vi at_1), (41, .slice (aD b4) (([r_4.Cells, r_5.Cells] : List (List TDyadic)).length) 2), (42, vi 2), (43, vi (i2 : Int))] ∧ D6.map Prod.snd = (list1 ++ ([r_6] : List (List TDyadic))) ∧ Org w0 [] [⟨(aD 0), [vi 1, vi 0, vi 0, vi 0, vi 2]⟩] (D6.flatMap eN1) ∧ ST w0 [] w [⟨B17, 9, ((words1 ++ [(x2 ++ (List.drop (i2 : Int).toNat (List.take (i64.wrap ((i2 : Int) + 1)).toNat ([72, 83] : List UInt8))))]).flatMap encS), c17 * 1⟩, ⟨B18, 28, (D6.flatMap eN3), c18 * 1⟩, ⟨aD b4, 28, (D3.flatMap eN3), 2 * 1⟩] (⟨B14, (r_6.flatMap eN0)⟩ :: ⟨B13, (x1.flatMap eN0)⟩ :: ⟨B12, (x.flatMap eN0)⟩ :: ⟨B5, (r_5.Cells.flatMap eN0)⟩ :: ⟨B4, (r_4.Cells.flatMap eN0)⟩ :: ⟨B2, (one_.flatMap eN0)⟩ :: ⟨(aD 0), [vi 1, vi 0, vi 0, vi 0, vi 2]⟩ :: ((D6.flatMap eN1) ++ ((D3.flatMap eN1) ++ [])))) ?_ ?_
      ·skip
       refine ra_start (ST.subR (hS30.se [2, 3]) (R' := (⟨B14, (r_6.flatMap eN0)⟩ :: ⟨B13, (x1.flatMap eN0)⟩ :: ⟨B12, (x.flatMap eN0)⟩ :: ⟨B5, (r_5.Cells.flatMap eN0)⟩ :: ⟨B4, (r_4.Cells.flatMap eN0)⟩ :: ⟨B2, (one_.flatMap eN0)⟩ :: ⟨(aD 0), [vi 1, vi 0, vi 0, vi 0, vi 2]⟩ :: ((D3.flatMap eN1) ++ []))) (subc (mem_at (i := 0) rfl) (subc (mem_at (i := 1) rfl) (subc (mem_at (i := 2) rfl) (subc (mem_at (i := 3) rfl) (subc (mem_at (i := 4) rfl) (subc (mem_at (i := 5) rfl) (subc (mem_at (i := 6) rfl) (suba (fun r_ (h : r_ ∈ ((D3.flatMap eN1) : List Ro)) => mOd (i := 7) (show r_ ∈ ((((D2.flatMap eN1) ++ ((D3.flatMap eN1) ++ []))) : List Ro) from mAr _ (mAl _ h))) (fun _ h => by cases h)))))))))).fn (by kernel_rfl) ?_
       have hS32 := hS30.drew
       refine rq 0 61 (v := .slice B8 words1.length c8) rfl (ST.subR (hS32.se [2, 3]) (R' := (⟨B14, (r_6.flatMap eN0)⟩ :: ⟨B13, (x1.flatMap eN0)⟩ :: ⟨B12, (x.flatMap eN0)⟩ :: ⟨B5, (r_5.Cells.flatMap eN0)⟩ :: ⟨B4, (r_4.Cells.flatMap eN0)⟩ :: ⟨B2, (one_.flatMap eN0)⟩ :: ⟨(aD 0), [vi 1, vi 0, vi 0, vi 0, vi 2]⟩ :: ((D3.flatMap eN1) ++ []))) (subc (mem_at (i := 0) rfl) (subc (mem_at (i := 1) rfl) (subc (mem_at (i := 2) rfl) (subc (mem_at (i := 3) rfl) (subc (mem_at (i := 4) rfl) (subc (mem_at (i := 5) rfl) (subc (mem_at (i := 6) rfl) (suba (fun r_ (h : r_ ∈ ((D3.flatMap eN1) : List Ro)) => mOd (i := 7) (show r_ ∈ ((((D2.flatMap eN1) ++ ((D3.flatMap eN1) ++ []))) : List Ro) from mAr _ (mAl _ h))) (fun _ h => by cases h)))))))))) (fun w' hw' => (Y_move (v := .slice B8 words1.length c8) rfl (hf2.get 4 0 rfl))) ?_
       refine rq 1 62 (v := .slice B8 words1.length c8) rfl (ST.subR (hS32.se [2, 3]) (R' := (⟨B14, (r_6.flatMap eN0)⟩ :: ⟨B13, (x1.flatMap eN0)⟩ :: ⟨B12, (x.flatMap eN0)⟩ :: ⟨B5, (r_5.Cells.flatMap eN0)⟩ :: ⟨B4, (r_4.Cells.flatMap eN0)⟩ :: ⟨B2, (one_.flatMap eN0)⟩ :: ⟨(aD 0), [vi 1, vi 0, vi 0, vi 0, vi 2]⟩ :: ((D3.flatMap eN1) ++ []))) (subc (mem_at (i := 0) rfl) (subc (mem_at (i := 1) rfl) (subc (mem_at (i := 2) rfl) (subc (mem_at (i := 3) rfl) (subc (mem_at (i := 4) rfl) (subc (mem_at (i := 5) rfl) (subc (mem_at (i := 6) rfl) (suba (fun r_ (h : r_ ∈ ((D3.flatMap eN1) : List Ro)) => mOd (i := 7) (show r_ ∈ ((((D2.flatMap eN1) ++ ((D3.flatMap eN1) ++ []))) : List Ro) from mAr _ (mAl _ h))) (fun _ h => by cases h)))))))))) (fun w' hw' => (Y_move (v := .slice B8 words1.length c8) rfl (hf2.get 4 0 rfl))) ?_
       refine rq 2 63 (v := vi at_1) rfl (ST.subR (hS32.se [2, 3]) (R' := (⟨B14, (r_6.flatMap eN0)⟩ :: ⟨B13, (x1.flatMap eN0)⟩ :: ⟨B12, (x.flatMap eN0)⟩ :: ⟨B5, (r_5.Cells.flatMap eN0)⟩ :: ⟨B4, (r_4.Cells.flatMap eN0)⟩ :: ⟨B2, (one_.flatMap eN0)⟩ :: ⟨(aD 0), [vi 1, vi 0, vi 0, vi 0, vi 2]⟩ :: ((D3.flatMap eN1) ++ []))) (subc (mem_at (i := 0) rfl) (subc (mem_at (i := 1) rfl) (subc (mem_at (i := 2) rfl) (subc (mem_at (i := 3) rfl) (subc (mem_at (i := 4) rfl) (subc (mem_at (i := 5) rfl) (subc (mem_at (i := 6) rfl) (suba (fun r_ (h : r_ ∈ ((D3.flatMap eN1) : List Ro)) => mOd (i := 7) (show r_ ∈ ((((D2.flatMap eN1) ++ ((D3.flatMap eN1) ++ []))) : List Ro) from mAr _ (mAl _ h))) (fun _ h => by cases h)))))))))) (fun w' hw' => (Y_move (v := vi at_1) rfl (hf2.get 8 4 rfl))) ?_
       refine rq 5 66 (v := vi (i2 : Int)) rfl (ST.subR (hS32.se [2, 3]) (R' := (⟨B14, (r_6.flatMap eN0)⟩ :: ⟨B13, (x1.flatMap eN0)⟩ :: ⟨B12, (x.flatMap eN0)⟩ :: ⟨B5, (r_5.Cells.flatMap eN0)⟩ :: ⟨B4, (r_4.Cells.flatMap eN0)⟩ :: ⟨B2, (one_.flatMap eN0)⟩ :: ⟨(aD 0), [vi 1, vi 0, vi 0, vi 0, vi 2]⟩ :: ((D3.flatMap eN1) ++ []))) (subc (mem_at (i := 0) rfl) (subc (mem_at (i := 1) rfl) (subc (mem_at (i := 2) rfl) (subc (mem_at (i := 3) rfl) (subc (mem_at (i := 4) rfl) (subc (mem_at (i := 5) rfl) (subc (mem_at (i := 6) rfl) (suba (fun r_ (h : r_ ∈ ((D3.flatMap eN1) : List Ro)) => mOd (i := 7) (show r_ ∈ ((((D2.flatMap eN1) ++ ((D3.flatMap eN1) ++ []))) : List Ro) from mAr _ (mAl _ h))) (fun _ h => by cases h)))))))))) (fun w' hw' => (Y_move (v := vi (i2 : Int)) rfl rfl)) ?_
       refine rq 6 67 (v := vi (i2 : Int)) rfl (ST.subR (hS32.se [2, 3]) (R' := (⟨B14, (r_6.flatMap eN0)⟩ :: ⟨B13, (x1.flatMap eN0)⟩ :: ⟨B12, (x.flatMap eN0)⟩ :: ⟨B5, (r_5.Cells.flatMap eN0)⟩ :: ⟨B4, (r_4.Cells.flatMap eN0)⟩ :: ⟨B2, (one_.flatMap eN0)⟩ :: ⟨(aD 0), [vi 1, vi 0, vi 0, vi 0, vi 2]⟩ :: ((D3.flatMap eN1) ++ []))) (subc (mem_at (i := 0) rfl) (subc (mem_at (i := 1) rfl) (subc (mem_at (i := 2) rfl) (subc (mem_at (i := 3) rfl) (subc (mem_at (i := 4) rfl) (subc (mem_at (i := 5) rfl) (subc (mem_at (i := 6) rfl) (suba (fun r_ (h : r_ ∈ ((D3.flatMap eN1) : List Ro)) => mOd (i := 7) (show r_ ∈ ((((D2.flatMap eN1) ++ ((D3.flatMap eN1) ++ []))) : List Ro) from mAr _ (mAl _ h))) (fun _ h => by cases h)))))))))) (fun w' hw' => (Y_move (v := vi (i2 : Int)) rfl rfl)) ?_
       refine rq 7 68 (v := vi (i64.wrap ((i2 : Int) + 1))) rfl (ST.subR (hS32.se [2, 3]) (R' := (⟨B14, (r_6.flatMap eN0)⟩ :: ⟨B13, (x1.flatMap eN0)⟩ :: ⟨B12, (x.flatMap eN0)⟩ :: ⟨B5, (r_5.Cells.flatMap eN0)⟩ :: ⟨B4, (r_4.Cells.flatMap eN0)⟩ :: ⟨B2, (one_.flatMap eN0)⟩ :: ⟨(aD 0), [vi 1, vi 0, vi 0, vi 0, vi 2]⟩ :: ((D3.flatMap eN1) ++ []))) (subc (mem_at (i := 0) rfl) (subc (mem_at (i := 1) rfl) (subc (mem_at (i := 2) rfl) (subc (mem_at (i := 3) rfl) (subc (mem_at (i := 4) rfl) (subc (mem_at (i := 5) rfl) (subc (mem_at (i := 6) rfl) (suba (fun r_ (h : r_ ∈ ((D3.flatMap eN1) : List Ro)) => mOd (i := 7) (show r_ ∈ ((((D2.flatMap eN1) ++ ((D3.flatMap eN1) ++ []))) : List Ro) from mAr _ (mAl _ h))) (fun _ h => by cases h)))))))))) (fun w' hw' => (Y_add (k := .i64) (a := (i2 : Int)) (b := 1) rfl rfl rfl)) ?_
       refine rq 8 69 (v := .string (bstr (List.drop (i2 : Int).toNat (List.take (i64.wrap ((i2 : Int) + 1)).toNat ([72, 83] : List UInt8))))) rfl (ST.subR (hS32.se [2, 3]) (R' := (⟨B14, (r_6.flatMap eN0)⟩ :: ⟨B13, (x1.flatMap eN0)⟩ :: ⟨B12, (x.flatMap eN0)⟩ :: ⟨B5, (r_5.Cells.flatMap eN0)⟩ :: ⟨B4, (r_4.Cells.flatMap eN0)⟩ :: ⟨B2, (one_.flatMap eN0)⟩ :: ⟨(aD 0), [vi 1, vi 0, vi 0, vi 0, vi 2]⟩ :: ((D3.flatMap eN1) ++ []))) (subc (mem_at (i := 0) rfl) (subc (mem_at (i := 1) rfl) (subc (mem_at (i := 2) rfl) (subc (mem_at (i := 3) rfl) (subc (mem_at (i := 4) rfl) (subc (mem_at (i := 5) rfl) (subc (mem_at (i := 6) rfl) (suba (fun r_ (h : r_ ∈ ((D3.flatMap eN1) : List Ro)) => mOd (i := 7) (show r_ ∈ ((((D2.flatMap eN1) ++ ((D3.flatMap eN1) ++ []))) : List Ro) from mAr _ (mAl _ h))) (fun _ h => by cases h)))))))))) (fun w' hw' => (Y_sslice (a := ([72, 83] : List UInt8)) (k := .i64) (k' := .i64) (l := (i2 : Int)) (h := (i64.wrap ((i2 : Int) + 1))) k_str_9 rfl rfl rfl rfl hss)) ?_
       refine rq 12 73 (v := .slice B9 list1.length c9) rfl (ST.subR (hS32.se [2, 3]) (R' := (⟨B14, (r_6.flatMap eN0)⟩ :: ⟨B13, (x1.flatMap eN0)⟩ :: ⟨B12, (x.flatMap eN0)⟩ :: ⟨B5, (r_5.Cells.flatMap eN0)⟩ :: ⟨B4, (r_4.Cells.flatMap eN0)⟩ :: ⟨B2, (one_.flatMap eN0)⟩ :: ⟨(aD 0), [vi 1, vi 0, vi 0, vi 0, vi 2]⟩ :: ((D3.flatMap eN1) ++ []))) (subc (mem_at (i := 0) rfl) (subc (mem_at (i := 1) rfl) (subc (mem_at (i := 2) rfl) (subc (mem_at (i := 3) rfl) (subc (mem_at (i := 4) rfl) (subc (mem_at (i := 5) rfl) (subc (mem_at (i := 6) rfl) (suba (fun r_ (h : r_ ∈ ((D3.flatMap eN1) : List Ro)) => mOd (i := 7) (show r_ ∈ ((((D2.flatMap eN1) ++ ((D3.flatMap eN1) ++ []))) : List Ro) from mAr _ (mAl _ h))) (fun _ h => by cases h)))))))))) (fun w' hw' => (Y_move (v := .slice B9 list1.length c9) rfl (hf2.get 5 1 rfl))) ?_
       refine rq 13 74 (v := .slice B14 r_6.length c14) rfl (ST.subR (hS32.se [2, 3]) (R' := (⟨B14, (r_6.flatMap eN0)⟩ :: ⟨B13, (x1.flatMap eN0)⟩ :: ⟨B12, (x.flatMap eN0)⟩ :: ⟨B5, (r_5.Cells.flatMap eN0)⟩ :: ⟨B4, (r_4.Cells.flatMap eN0)⟩ :: ⟨B2, (one_.flatMap eN0)⟩ :: ⟨(aD 0), [vi 1, vi 0, vi 0, vi 0, vi 2]⟩ :: ((D3.flatMap eN1) ++ []))) (subc (mem_at (i := 0) rfl) (subc (mem_at (i := 1) rfl) (subc (mem_at (i := 2) rfl) (subc (mem_at (i := 3) rfl) (subc (mem_at (i := 4) rfl) (subc (mem_at (i := 5) rfl) (subc (mem_at (i := 6) rfl) (suba (fun r_ (h : r_ ∈ ((D3.flatMap eN1) : List Ro)) => mOd (i := 7) (show r_ ∈ ((((D2.flatMap eN1) ++ ((D3.flatMap eN1) ++ []))) : List Ro) from mAr _ (mAl _ h))) (fun _ h => by cases h)))))))))) (fun w' hw' => (Y_load1 (B := aD b5) (i := 0) (cs := [.slice B14 r_6.length c14]) (v := .slice B14 r_6.length c14) k_sc_28 rfl rfl (ST.cf hw' (i := 1) rfl) rfl)) ?_
       refine rA [3, 14] ?_
       refine ra_y 64 (i := 3) (v := pt B8 (at_1.toNat * 1)) rfl rfl rfl (Y_index (B := B8) (m := words1.length) (c := c8) (k := .i64) (i := at_1) k_sl_57_9 k_sz_9_1 rfl rfl rfl (gi_isSome encS_len rfl (hS32.cf (i := 0) rfl) hx2) (getI_nn hx2) (getI_ltI hx2 rfl)) (ST.subR (hS32.se [2, 3]) (R' := (⟨B14, (r_6.flatMap eN0)⟩ :: ⟨B13, (x1.flatMap eN0)⟩ :: ⟨B12, (x.flatMap eN0)⟩ :: ⟨B5, (r_5.Cells.flatMap eN0)⟩ :: ⟨B4, (r_4.Cells.flatMap eN0)⟩ :: ⟨B2, (one_.flatMap eN0)⟩ :: ⟨(aD 0), [vi 1, vi 0, vi 0, vi 0, vi 2]⟩ :: ((D3.flatMap eN1) ++ []))) (subc (mem_at (i := 0) rfl) (subc (mem_at (i := 1) rfl) (subc (mem_at (i := 2) rfl) (subc (mem_at (i := 3) rfl) (subc (mem_at (i := 4) rfl) (subc (mem_at (i := 5) rfl) (subc (mem_at (i := 6) rfl) (suba (fun r_ (h : r_ ∈ ((D3.flatMap eN1) : List Ro)) => mOd (i := 7) (show r_ ∈ ((((D2.flatMap eN1) ++ ((D3.flatMap eN1) ++ []))) : List Ro) from mAr _ (mAl _ h))) (fun _ h => by cases h)))))))))) ?_ ?_
       ·skip
        refine rA [4, 14] ?_
        refine ra_y 65 (i := 4) (v := .string (bstr x2)) rfl rfl rfl (Y_load1 (B := B8) (i := at_1.toNat * 1) (cs := (words1.flatMap encS)) (v := .string (bstr x2)) k_sc_9 rfl rfl (hS32.cf (i := 0) rfl) (gi_at0 encS_len hx2 rfl)) (ST.subR (hS32.se [2, 3]) (R' := (⟨B14, (r_6.flatMap eN0)⟩ :: ⟨B13, (x1.flatMap eN0)⟩ :: ⟨B12, (x.flatMap eN0)⟩ :: ⟨B5, (r_5.Cells.flatMap eN0)⟩ :: ⟨B4, (r_4.Cells.flatMap eN0)⟩ :: ⟨B2, (one_.flatMap eN0)⟩ :: ⟨(aD 0), [vi 1, vi 0, vi 0, vi 0, vi 2]⟩ :: ((D3.flatMap eN1) ++ []))) (subc (mem_at (i := 0) rfl) (subc (mem_at (i := 1) rfl) (subc (mem_at (i := 2) rfl) (subc (mem_at (i := 3) rfl) (subc (mem_at (i := 4) rfl) (subc (mem_at (i := 5) rfl) (subc (mem_at (i := 6) rfl) (suba (fun r_ (h : r_ ∈ ((D3.flatMap eN1) : List Ro)) => mOd (i := 7) (show r_ ∈ ((((D2.flatMap eN1) ++ ((D3.flatMap eN1) ++ []))) : List Ro) from mAr _ (mAl _ h))) (fun _ h => by cases h)))))))))) ?_ ?_
        ·skip
         refine ra_q 9 70 (v := .string (bstr (x2 ++ (List.drop (i2 : Int).toNat (List.take (i64.wrap ((i2 : Int) + 1)).toNat ([72, 83] : List UInt8)))))) rfl rfl rfl (by kernel_rfl) (by kernel_rfl) (by kernel_rfl) (ST.subR (hS32.se [2, 3]) (R' := (⟨B14, (r_6.flatMap eN0)⟩ :: ⟨B13, (x1.flatMap eN0)⟩ :: ⟨B12, (x.flatMap eN0)⟩ :: ⟨B5, (r_5.Cells.flatMap eN0)⟩ :: ⟨B4, (r_4.Cells.flatMap eN0)⟩ :: ⟨B2, (one_.flatMap eN0)⟩ :: ⟨(aD 0), [vi 1, vi 0, vi 0, vi 0, vi 2]⟩ :: ((D3.flatMap eN1) ++ []))) (subc (mem_at (i := 0) rfl) (subc (mem_at (i := 1) rfl) (subc (mem_at (i := 2) rfl) (subc (mem_at (i := 3) rfl) (subc (mem_at (i := 4) rfl) (subc (mem_at (i := 5) rfl) (subc (mem_at (i := 6) rfl) (suba (fun r_ (h : r_ ∈ ((D3.flatMap eN1) : List Ro)) => mOd (i := 7) (show r_ ∈ ((((D2.flatMap eN1) ++ ((D3.flatMap eN1) ++ []))) : List Ro) from mAr _ (mAl _ h))) (fun _ h => by cases h)))))))))) (fun w' hw' => (Y_sadd (a := x2) (b := (List.drop (i2 : Int).toNat (List.take (i64.wrap ((i2 : Int) + 1)).toNat ([72, 83] : List UInt8)))) rfl rfl rfl hsa)) ?_
         refine rA [10, 14] ?_
         refine ra_s 71 (i := 10) rfl rfl rfl (Ys_bslice (s := 1) (len := 1) (vs := [(0, .string (bstr (x2 ++ (List.drop (i2 : Int).toNat (List.take (i64.wrap ((i2 : Int) + 1)).toNat ([72, 83] : List UInt8))))))]) (cs := [.string (bstr (x2 ++ (List.drop (i2 : Int).toNat (List.take (i64.wrap ((i2 : Int) + 1)).toNat ([72, 83] : List UInt8)))))]) (zs := [.string (bstr ([] : List UInt8))]) (m := 1) hS32 k_sl_57_9 k_sz_9_1 k_zc_9 rfl (mpc rfl mpn) rfl rfl rfl (by kernel_rfl) (by kernel_rfl) rfl) ?_ ?_
         ·rintro _ w_14 ⟨b6, rfl, hS33⟩
          refine ⟨(ST.subR (hS33.se [2, 3]) (R' := (⟨B14, (r_6.flatMap eN0)⟩ :: ⟨B13, (x1.flatMap eN0)⟩ :: ⟨B12, (x.flatMap eN0)⟩ :: ⟨B5, (r_5.Cells.flatMap eN0)⟩ :: ⟨B4, (r_4.Cells.flatMap eN0)⟩ :: ⟨B2, (one_.flatMap eN0)⟩ :: ⟨(aD 0), [vi 1, vi 0, vi 0, vi 0, vi 2]⟩ :: ((D3.flatMap eN1) ++ []))) (subc (mem_at (i := 0) rfl) (subc (mem_at (i := 1) rfl) (subc (mem_at (i := 2) rfl) (subc (mem_at (i := 3) rfl) (subc (mem_at (i := 4) rfl) (subc (mem_at (i := 5) rfl) (subc (mem_at (i := 6) rfl) (suba (fun r_ (h : r_ ∈ ((D3.flatMap eN1) : List Ro)) => mOd (i := 7) (show r_ ∈ ((((D2.flatMap eN1) ++ ((D3.flatMap eN1) ++ []))) : List Ro) from mAr _ (mAl _ h))) (fun _ h => by cases h)))))))))), ?_⟩
          refine rA [11, 14] ?_
          refine ra_s 72 (i := 11) rfl rfl rfl (Ys_append (s := 1) (by' := 16) (i := 0) (nn := words1.length) (c := c8) (k := 1) (len := (words1 ++ [(x2 ++ (List.drop (i2 : Int).toNat (List.take (i64.wrap ((i2 : Int) + 1)).toNat ([72, 83] : List UInt8))))]).length) (B := B8) (xs := ([(x2 ++ (List.drop (i2 : Int).toNat (List.take (i64.wrap ((i2 : Int) + 1)).toNat ([72, 83] : List UInt8))))].flatMap encS)) (cs' := ((words1 ++ [(x2 ++ (List.drop (i2 : Int).toNat (List.take (i64.wrap ((i2 : Int) + 1)).toNat ([72, 83] : List UInt8))))]).flatMap encS)) hS33 k_sl_57_9 k_sz_9_1 k_by_9_16 k_zero_9 rfl (by decide) rfl rfl rfl rfl (fm_lenn (l := words1) encS_len rfl) rfl (hS33.cf (i := 4) rfl) (fm_lenn (l := [(x2 ++ (List.drop (i2 : Int).toNat (List.take (i64.wrap ((i2 : Int) + 1)).toNat ([72, 83] : List UInt8))))]) encS_len rfl) (fm_one' (enc := encS) encS_one [(x2 ++ (List.drop (i2 : Int).toNat (List.take (i64.wrap ((i2 : Int) + 1)).toNat ([72, 83] : List UInt8))))]) (by have := hap1; omega) (by have := hap1; simp only [maxLen]; omega) (fm_app _ _) (app_len (l := words1) (l' := [(x2 ++ (List.drop (i2 : Int).toNat (List.take (i64.wrap ((i2 : Int) + 1)).toNat ([72, 83] : List UInt8))))]) rfl rfl)) ?_ ?_
          ·rintro _ w_15 ⟨B15, c15, rfl, hS34⟩
           refine ⟨(ST.subR (hS34.se [2, 3]) (R' := (⟨B14, (r_6.flatMap eN0)⟩ :: ⟨B13, (x1.flatMap eN0)⟩ :: ⟨B12, (x.flatMap eN0)⟩ :: ⟨B5, (r_5.Cells.flatMap eN0)⟩ :: ⟨B4, (r_4.Cells.flatMap eN0)⟩ :: ⟨B2, (one_.flatMap eN0)⟩ :: ⟨(aD 0), [vi 1, vi 0, vi 0, vi 0, vi 2]⟩ :: ((D3.flatMap eN1) ++ []))) (subc (mem_at (i := 0) rfl) (subc (mem_at (i := 1) rfl) (subc (mem_at (i := 2) rfl) (subc (mem_at (i := 3) rfl) (subc (mem_at (i := 4) rfl) (subc (mem_at (i := 5) rfl) (subc (mem_at (i := 6) rfl) (suba (fun r_ (h : r_ ∈ ((D3.flatMap eN1) : List Ro)) => mOd (i := 7) (show r_ ∈ ((((D2.flatMap eN1) ++ ((D3.flatMap eN1) ++ []))) : List Ro) from mAr _ (mAl _ h))) (fun _ h => by cases h)))))))))), ?_⟩
           refine rA [14] ?_
           refine ra_s 75 (i := 14) rfl rfl rfl (Ys_bslice (s := 1) (len := 1) (vs := [(0, .slice B14 r_6.length c14)]) (cs := [.slice B14 r_6.length c14]) (zs := [.slice none 0 0]) (m := 1) hS34 k_sl_58_28 k_sz_28_1 k_zc_28 rfl (mpc rfl mpn) rfl rfl rfl (by kernel_rfl) (by kernel_rfl) rfl) ?_ ?_
           ·rintro _ w_16 ⟨b7, rfl, hS35⟩
            have hm5 : ∀ r ∈ (([((B14, c14), r_6)] : List (Hd × (List TDyadic))).flatMap eN1), r ∈ ((⟨B14, (r_6.flatMap eN0)⟩ :: ⟨B13, (x1.flatMap eN0)⟩ :: ⟨B12, (x.flatMap eN0)⟩ :: ⟨B5, (r_5.Cells.flatMap eN0)⟩ :: ⟨B4, (r_4.Cells.flatMap eN0)⟩ :: ⟨B2, (one_.flatMap eN0)⟩ :: ⟨(aD 0), [vi 1, vi 0, vi 0, vi 0, vi 2]⟩ :: ((D2.flatMap eN1) ++ ((D3.flatMap eN1) ++ []))) : List Ro) := (fsub_cons (subc (mem_at (i := 0) rfl) (fun _ h => by cases h)) fsub_nil)
            have ho17 : Org w0 [] [⟨(aD 0), [vi 1, vi 0, vi 0, vi 0, vi 2]⟩] (([((B14, c14), r_6)] : List (Hd × (List TDyadic))).flatMap eN1) := (forg_cons (org_cons ho15 org_nil) forg_nil)
            have hS36 : ST w0 [] _ [⟨B15, 9, ((words1 ++ [(x2 ++ (List.drop (i2 : Int).toNat (List.take (i64.wrap ((i2 : Int) + 1)).toNat ([72, 83] : List UInt8))))]).flatMap encS), c15 * 1⟩, ⟨B9, 28, (D2.flatMap eN3), c9 * 1⟩, ⟨aD b4, 28, (D3.flatMap eN3), 2 * 1⟩, ⟨aD b5, 28, [.slice B14 r_6.length c14], 1⟩, ⟨aD b6, 9, ([(x2 ++ (List.drop (i2 : Int).toNat (List.take (i64.wrap ((i2 : Int) + 1)).toNat ([72, 83] : List UInt8))))].flatMap encS), 1 * 1⟩, ⟨aD b7, 28, (([((B14, c14), r_6)] : List (Hd × (List TDyadic))).flatMap eN3), 1 * 1⟩] (⟨B14, (r_6.flatMap eN0)⟩ :: ⟨B13, (x1.flatMap eN0)⟩ :: ⟨B12, (x.flatMap eN0)⟩ :: ⟨B5, (r_5.Cells.flatMap eN0)⟩ :: ⟨B4, (r_4.Cells.flatMap eN0)⟩ :: ⟨B2, (one_.flatMap eN0)⟩ :: ⟨(aD 0), [vi 1, vi 0, vi 0, vi 0, vi 2]⟩ :: ((([((B14, c14), r_6)] : List (Hd × (List TDyadic))).flatMap eN1) ++ ((D2.flatMap eN1) ++ ((D3.flatMap eN1) ++ [])))) := ST.subR hS35 (subc (mem_at (i := 0) rfl) (subc (mem_at (i := 1) rfl) (subc (mem_at (i := 2) rfl) (subc (mem_at (i := 3) rfl) (subc (mem_at (i := 4) rfl) (subc (mem_at (i := 5) rfl) (subc (mem_at (i := 6) rfl) (suba hm5 (suba (fun r_ (h : r_ ∈ ((D2.flatMap eN1) : List Ro)) => mOd (i := 7) (show r_ ∈ ((((D2.flatMap eN1) ++ ((D3.flatMap eN1) ++ []))) : List Ro) from mAl _ h)) (suba (fun r_ (h : r_ ∈ ((D3.flatMap eN1) : List Ro)) => mOd (i := 7) (show r_ ∈ ((((D2.flatMap eN1) ++ ((D3.flatMap eN1) ++ []))) : List Ro) from mAr _ (mAl _ h))) (fun _ h => by cases h)))))))))))
            refine ⟨(ST.subR (hS36.se [2, 3]) (R' := (⟨B14, (r_6.flatMap eN0)⟩ :: ⟨B13, (x1.flatMap eN0)⟩ :: ⟨B12, (x.flatMap eN0)⟩ :: ⟨B5, (r_5.Cells.flatMap eN0)⟩ :: ⟨B4, (r_4.Cells.flatMap eN0)⟩ :: ⟨B2, (one_.flatMap eN0)⟩ :: ⟨(aD 0), [vi 1, vi 0, vi 0, vi 0, vi 2]⟩ :: ((D3.flatMap eN1) ++ []))) (subc (mem_at (i := 0) rfl) (subc (mem_at (i := 1) rfl) (subc (mem_at (i := 2) rfl) (subc (mem_at (i := 3) rfl) (subc (mem_at (i := 4) rfl) (subc (mem_at (i := 5) rfl) (subc (mem_at (i := 6) rfl) (suba (fun r_ (h : r_ ∈ ((D3.flatMap eN1) : List Ro)) => mOd (i := 7) (show r_ ∈ ((((([((B14, c14), r_6)] : List (Hd × (List TDyadic))).flatMap eN1) ++ ((D2.flatMap eN1) ++ ((D3.flatMap eN1) ++ [])))) : List Ro) from mAr _ (mAr _ (mAl _ h)))) (fun _ h => by cases h)))))))))), ?_⟩
            refine rA [15] ?_
            refine ra_s 76 (i := 15) rfl rfl rfl (Ys_append (s := 1) (by' := 24) (i := 1) (nn := list1.length) (c := c9) (k := 1) (len := (list1 ++ ([r_6] : List (List TDyadic))).length) (B := B9) (xs := (([((B14, c14), r_6)] : List (Hd × (List TDyadic))).flatMap eN3)) (cs' := ((D2 ++ ([((B14, c14), r_6)] : List (Hd × (List TDyadic)))).flatMap eN3)) hS36 k_sl_58_28 k_sz_28_1 k_by_28_24 k_zero_28 rfl (by decide) rfl rfl rfl rfl (fm_lenn (l := D2) encD_SDyadic_len (dl_len hD2)) rfl (hS36.cf (i := 5) rfl) (fm_lenn (l := ([((B14, c14), r_6)] : List (Hd × (List TDyadic)))) encD_SDyadic_len rfl) (fm_one' (enc := eN3) encD_SDyadic_one ([((B14, c14), r_6)] : List (Hd × (List TDyadic)))) (by have := hap2; omega) (by have := hap2; simp only [maxLen]; omega) (fm_app _ _) (dl_sum (dl_len hD2) rfl (dl_app hD2 (show List.map Prod.snd ([((B14, c14), r_6)] : List (Hd × (List TDyadic))) = ([r_6] : List (List TDyadic)) from rfl)))) ?_ ?_
            ·rintro _ w_17 ⟨B16, c16, rfl, hS37⟩
             have ho18 : Org w0 [] [⟨(aD 0), [vi 1, vi 0, vi 0, vi 0, vi 2]⟩] ((D2 ++ ([((B14, c14), r_6)] : List (Hd × (List TDyadic)))).flatMap eN1) := (forg_app ho8 ho17)
             have hS38 : ST w0 [] _ [⟨B15, 9, ((words1 ++ [(x2 ++ (List.drop (i2 : Int).toNat (List.take (i64.wrap ((i2 : Int) + 1)).toNat ([72, 83] : List UInt8))))]).flatMap encS), c15 * 1⟩, ⟨B16, 28, ((D2 ++ ([((B14, c14), r_6)] : List (Hd × (List TDyadic)))).flatMap eN3), c16 * 1⟩, ⟨aD b4, 28, (D3.flatMap eN3), 2 * 1⟩, ⟨aD b5, 28, [.slice B14 r_6.length c14], 1⟩, ⟨aD b6, 9, ([(x2 ++ (List.drop (i2 : Int).toNat (List.take (i64.wrap ((i2 : Int) + 1)).toNat ([72, 83] : List UInt8))))].flatMap encS), 1 * 1⟩, ⟨aD b7, 28, (([((B14, c14), r_6)] : List (Hd × (List TDyadic))).flatMap eN3), 1 * 1⟩] (⟨B14, (r_6.flatMap eN0)⟩ :: ⟨B13, (x1.flatMap eN0)⟩ :: ⟨B12, (x.flatMap eN0)⟩ :: ⟨B5, (r_5.Cells.flatMap eN0)⟩ :: ⟨B4, (r_4.Cells.flatMap eN0)⟩ :: ⟨B2, (one_.flatMap eN0)⟩ :: ⟨(aD 0), [vi 1, vi 0, vi 0, vi 0, vi 2]⟩ :: (((D2 ++ ([((B14, c14), r_6)] : List (Hd × (List TDyadic)))).flatMap eN1) ++ ((([((B14, c14), r_6)] : List (Hd × (List TDyadic))).flatMap eN1) ++ ((D3.flatMap eN1) ++ [])))) := ST.subR hS37 (subc (mem_at (i := 0) rfl) (subc (mem_at (i := 1) rfl) (subc (mem_at (i := 2) rfl) (subc (mem_at (i := 3) rfl) (subc (mem_at (i := 4) rfl) (subc (mem_at (i := 5) rfl) (subc (mem_at (i := 6) rfl) (suba (fsub_app (fun r_ (h : r_ ∈ ((D2.flatMap eN1) : List Ro)) => mOd (i := 7) (show r_ ∈ ((((([((B14, c14), r_6)] : List (Hd × (List TDyadic))).flatMap eN1) ++ ((D2.flatMap eN1) ++ ((D3.flatMap eN1) ++ [])))) : List Ro) from mAr _ (mAl _ h))) (fun r_ (h : r_ ∈ ((([((B14, c14), r_6)] : List (Hd × (List TDyadic))).flatMap eN1) : List Ro)) => mOd (i := 7) (show r_ ∈ ((((([((B14, c14), r_6)] : List (Hd × (List TDyadic))).flatMap eN1) ++ ((D2.flatMap eN1) ++ ((D3.flatMap eN1) ++ [])))) : List Ro) from mAl _ h))) (suba (fun r_ (h : r_ ∈ ((([((B14, c14), r_6)] : List (Hd × (List TDyadic))).flatMap eN1) : List Ro)) => mOd (i := 7) (show r_ ∈ ((((([((B14, c14), r_6)] : List (Hd × (List TDyadic))).flatMap eN1) ++ ((D2.flatMap eN1) ++ ((D3.flatMap eN1) ++ [])))) : List Ro) from mAl _ h)) (suba (fun r_ (h : r_ ∈ ((D3.flatMap eN1) : List Ro)) => mOd (i := 7) (show r_ ∈ ((((([((B14, c14), r_6)] : List (Hd × (List TDyadic))).flatMap eN1) ++ ((D2.flatMap eN1) ++ ((D3.flatMap eN1) ++ [])))) : List Ro) from mAr _ (mAr _ (mAl _ h)))) (fun _ h => by cases h)))))))))))
             refine ⟨(ST.subR (hS38.se [2, 3]) (R' := (⟨B14, (r_6.flatMap eN0)⟩ :: ⟨B13, (x1.flatMap eN0)⟩ :: ⟨B12, (x.flatMap eN0)⟩ :: ⟨B5, (r_5.Cells.flatMap eN0)⟩ :: ⟨B4, (r_4.Cells.flatMap eN0)⟩ :: ⟨B2, (one_.flatMap eN0)⟩ :: ⟨(aD 0), [vi 1, vi 0, vi 0, vi 0, vi 2]⟩ :: ((D3.flatMap eN1) ++ []))) (subc (mem_at (i := 0) rfl) (subc (mem_at (i := 1) rfl) (subc (mem_at (i := 2) rfl) (subc (mem_at (i := 3) rfl) (subc (mem_at (i := 4) rfl) (subc (mem_at (i := 5) rfl) (subc (mem_at (i := 6) rfl) (suba (fun r_ (h : r_ ∈ ((D3.flatMap eN1) : List Ro)) => mOd (i := 7) (show r_ ∈ (((((D2 ++ ([((B14, c14), r_6)] : List (Hd × (List TDyadic)))).flatMap eN1) ++ ((([((B14, c14), r_6)] : List (Hd × (List TDyadic))).flatMap eN1) ++ ((D3.flatMap eN1) ++ [])))) : List Ro) from mAr _ (mAr _ (mAl _ h)))) (fun _ h => by cases h)))))))))), ?_⟩
             refine ra_q 16 4 (v := .slice B15 ((words1 ++ [(x2 ++ (List.drop (i2 : Int).toNat (List.take (i64.wrap ((i2 : Int) + 1)).toNat ([72, 83] : List UInt8))))]).length) c15) rfl rfl rfl (by kernel_rfl) (by kernel_rfl) (by kernel_rfl) (ST.subR (hS38.se [2, 3]) (R' := (⟨B14, (r_6.flatMap eN0)⟩ :: ⟨B13, (x1.flatMap eN0)⟩ :: ⟨B12, (x.flatMap eN0)⟩ :: ⟨B5, (r_5.Cells.flatMap eN0)⟩ :: ⟨B4, (r_4.Cells.flatMap eN0)⟩ :: ⟨B2, (one_.flatMap eN0)⟩ :: ⟨(aD 0), [vi 1, vi 0, vi 0, vi 0, vi 2]⟩ :: ((D3.flatMap eN1) ++ []))) (subc (mem_at (i := 0) rfl) (subc (mem_at (i := 1) rfl) (subc (mem_at (i := 2) rfl) (subc (mem_at (i := 3) rfl) (subc (mem_at (i := 4) rfl) (subc (mem_at (i := 5) rfl) (subc (mem_at (i := 6) rfl) (suba (fun r_ (h : r_ ∈ ((D3.flatMap eN1) : List Ro)) => mOd (i := 7) (show r_ ∈ (((((D2 ++ ([((B14, c14), r_6)] : List (Hd × (List TDyadic)))).flatMap eN1) ++ ((([((B14, c14), r_6)] : List (Hd × (List TDyadic))).flatMap eN1) ++ ((D3.flatMap eN1) ++ [])))) : List Ro) from mAr _ (mAr _ (mAl _ h)))) (fun _ h => by cases h)))))))))) (fun w' hw' => (Y_assign (v := .slice B15 ((words1 ++ [(x2 ++ (List.drop (i2 : Int).toNat (List.take (i64.wrap ((i2 : Int) + 1)).toNat ([72, 83] : List UInt8))))]).length) c15) rfl rfl)) ?_
             refine rq 17 5 (v := .slice B16 ((list1 ++ ([r_6] : List (List TDyadic))).length) c16) rfl (ST.subR (hS38.se [2, 3]) (R' := (⟨B14, (r_6.flatMap eN0)⟩ :: ⟨B13, (x1.flatMap eN0)⟩ :: ⟨B12, (x.flatMap eN0)⟩ :: ⟨B5, (r_5.Cells.flatMap eN0)⟩ :: ⟨B4, (r_4.Cells.flatMap eN0)⟩ :: ⟨B2, (one_.flatMap eN0)⟩ :: ⟨(aD 0), [vi 1, vi 0, vi 0, vi 0, vi 2]⟩ :: ((D3.flatMap eN1) ++ []))) (subc (mem_at (i := 0) rfl) (subc (mem_at (i := 1) rfl) (subc (mem_at (i := 2) rfl) (subc (mem_at (i := 3) rfl) (subc (mem_at (i := 4) rfl) (subc (mem_at (i := 5) rfl) (subc (mem_at (i := 6) rfl) (suba (fun r_ (h : r_ ∈ ((D3.flatMap eN1) : List Ro)) => mOd (i := 7) (show r_ ∈ (((((D2 ++ ([((B14, c14), r_6)] : List (Hd × (List TDyadic)))).flatMap eN1) ++ ((([((B14, c14), r_6)] : List (Hd × (List TDyadic))).flatMap eN1) ++ ((D3.flatMap eN1) ++ [])))) : List Ro) from mAr _ (mAr _ (mAl _ h)))) (fun _ h => by cases h)))))))))) (fun w' hw' => (Y_assign (v := .slice B16 ((list1 ++ ([r_6] : List (List TDyadic))).length) c16) rfl rfl)) ?_
             refine ra_done (by kernel_rfl) ?_
             have hS39 : ST w0 [] _ [⟨B15, 9, ((words1 ++ [(x2 ++ (List.drop (i2 : Int).toNat (List.take (i64.wrap ((i2 : Int) + 1)).toNat ([72, 83] : List UInt8))))]).flatMap encS), c15 * 1⟩, ⟨B16, 28, ((D2 ++ ([((B14, c14), r_6)] : List (Hd × (List TDyadic)))).flatMap eN3), c16 * 1⟩, ⟨aD b4, 28, (D3.flatMap eN3), 2 * 1⟩, ⟨aD b5, 28, [.slice B14 r_6.length c14], 1⟩, ⟨aD b6, 9, ([(x2 ++ (List.drop (i2 : Int).toNat (List.take (i64.wrap ((i2 : Int) + 1)).toNat ([72, 83] : List UInt8))))].flatMap encS), 1 * 1⟩, ⟨aD b7, 28, (([((B14, c14), r_6)] : List (Hd × (List TDyadic))).flatMap eN3), 1 * 1⟩] (⟨B14, (r_6.flatMap eN0)⟩ :: ⟨B13, (x1.flatMap eN0)⟩ :: ⟨B12, (x.flatMap eN0)⟩ :: ⟨B5, (r_5.Cells.flatMap eN0)⟩ :: ⟨B4, (r_4.Cells.flatMap eN0)⟩ :: ⟨B2, (one_.flatMap eN0)⟩ :: ⟨(aD 0), [vi 1, vi 0, vi 0, vi 0, vi 2]⟩ :: (((D2 ++ ([((B14, c14), r_6)] : List (Hd × (List TDyadic)))).flatMap eN1) ++ ((D3.flatMap eN1) ++ []))) := ST.subR hS38 (subc (mem_at (i := 0) rfl) (subc (mem_at (i := 1) rfl) (subc (mem_at (i := 2) rfl) (subc (mem_at (i := 3) rfl) (subc (mem_at (i := 4) rfl) (subc (mem_at (i := 5) rfl) (subc (mem_at (i := 6) rfl) (suba (fun r_ (h : r_ ∈ (((D2 ++ ([((B14, c14), r_6)] : List (Hd × (List TDyadic)))).flatMap eN1) : List Ro)) => mOd (i := 7) (show r_ ∈ (((((D2 ++ ([((B14, c14), r_6)] : List (Hd × (List TDyadic)))).flatMap eN1) ++ ((([((B14, c14), r_6)] : List (Hd × (List TDyadic))).flatMap eN1) ++ ((D3.flatMap eN1) ++ [])))) : List Ro) from mAl _ h)) (suba (fun r_ (h : r_ ∈ ((D3.flatMap eN1) : List Ro)) => mOd (i := 7) (show r_ ∈ (((((D2 ++ ([((B14, c14), r_6)] : List (Hd × (List TDyadic)))).flatMap eN1) ++ ((([((B14, c14), r_6)] : List (Hd × (List TDyadic))).flatMap eN1) ++ ((D3.flatMap eN1) ++ [])))) : List Ro) from mAr _ (mAr _ (mAl _ h)))) (fun _ h => by cases h))))))))))
             exact ⟨B15, c15, B16, c16, (D2 ++ ([((B14, c14), r_6)] : List (Hd × (List TDyadic)))), (FF.cons rfl (FF.cons rfl (FF.cons (hf2.get 6 2 rfl) (FF.cons (hf2.get 7 3 rfl) (FF.cons (hf2.get 8 4 rfl) (FF.cons (hf2.get 41 5 rfl) (FF.cons (hf2.get 42 6 rfl) (FF.cons (hf2.get 43 7 rfl) FF.nil)))))))), (dl_app hD2 (show List.map Prod.snd ([((B14, c14), r_6)] : List (Hd × (List TDyadic))) = ([r_6] : List (List TDyadic)) from rfl)), ho18, (hS39.sel [0, 1, 2] rfl rfl)⟩
            exact allR_nil
           exact allR_nil
          refine ra_s 75 (i := 14) rfl rfl rfl (Ys_bslice (s := 1) (len := 1) (vs := [(0, .slice B14 r_6.length c14)]) (cs := [.slice B14 r_6.length c14]) (zs := [.slice none 0 0]) (m := 1) hS33 k_sl_58_28 k_sz_28_1 k_zc_28 rfl (mpc rfl mpn) rfl rfl rfl (by kernel_rfl) (by kernel_rfl) rfl) ?_ ?_
          ·rintro _ w_18 ⟨b7, rfl, hS40⟩
           have hm6 : ∀ r ∈ (([((B14, c14), r_6)] : List (Hd × (List TDyadic))).flatMap eN1), r ∈ ((⟨B14, (r_6.flatMap eN0)⟩ :: ⟨B13, (x1.flatMap eN0)⟩ :: ⟨B12, (x.flatMap eN0)⟩ :: ⟨B5, (r_5.Cells.flatMap eN0)⟩ :: ⟨B4, (r_4.Cells.flatMap eN0)⟩ :: ⟨B2, (one_.flatMap eN0)⟩ :: ⟨(aD 0), [vi 1, vi 0, vi 0, vi 0, vi 2]⟩ :: ((D2.flatMap eN1) ++ ((D3.flatMap eN1) ++ []))) : List Ro) := (fsub_cons (subc (mem_at (i := 0) rfl) (fun _ h => by cases h)) fsub_nil)
           have ho19 : Org w0 [] [⟨(aD 0), [vi 1, vi 0, vi 0, vi 0, vi 2]⟩] (([((B14, c14), r_6)] : List (Hd × (List TDyadic))).flatMap eN1) := (forg_cons (org_cons ho15 org_nil) forg_nil)
           have hS41 : ST w0 [] _ [⟨B8, 9, (words1.flatMap encS), c8 * 1⟩, ⟨B9, 28, (D2.flatMap eN3), c9 * 1⟩, ⟨aD b4, 28, (D3.flatMap eN3), 2 * 1⟩, ⟨aD b5, 28, [.slice B14 r_6.length c14], 1⟩, ⟨aD b6, 9, ([(x2 ++ (List.drop (i2 : Int).toNat (List.take (i64.wrap ((i2 : Int) + 1)).toNat ([72, 83] : List UInt8))))].flatMap encS), 1 * 1⟩, ⟨aD b7, 28, (([((B14, c14), r_6)] : List (Hd × (List TDyadic))).flatMap eN3), 1 * 1⟩] (⟨B14, (r_6.flatMap eN0)⟩ :: ⟨B13, (x1.flatMap eN0)⟩ :: ⟨B12, (x.flatMap eN0)⟩ :: ⟨B5, (r_5.Cells.flatMap eN0)⟩ :: ⟨B4, (r_4.Cells.flatMap eN0)⟩ :: ⟨B2, (one_.flatMap eN0)⟩ :: ⟨(aD 0), [vi 1, vi 0, vi 0, vi 0, vi 2]⟩ :: ((([((B14, c14), r_6)] : List (Hd × (List TDyadic))).flatMap eN1) ++ ((D2.flatMap eN1) ++ ((D3.flatMap eN1) ++ [])))) := ST.subR hS40 (subc (mem_at (i := 0) rfl) (subc (mem_at (i := 1) rfl) (subc (mem_at (i := 2) rfl) (subc (mem_at (i := 3) rfl) (subc (mem_at (i := 4) rfl) (subc (mem_at (i := 5) rfl) (subc (mem_at (i := 6) rfl) (suba hm6 (suba (fun r_ (h : r_ ∈ ((D2.flatMap eN1) : List Ro)) => mOd (i := 7) (show r_ ∈ ((((D2.flatMap eN1) ++ ((D3.flatMap eN1) ++ []))) : List Ro) from mAl _ h)) (suba (fun r_ (h : r_ ∈ ((D3.flatMap eN1) : List Ro)) => mOd (i := 7) (show r_ ∈ ((((D2.flatMap eN1) ++ ((D3.flatMap eN1) ++ []))) : List Ro) from mAr _ (mAl _ h))) (fun _ h => by cases h)))))))))))
           refine ⟨(ST.subR (hS41.se [2, 3]) (R' := (⟨B14, (r_6.flatMap eN0)⟩ :: ⟨B13, (x1.flatMap eN0)⟩ :: ⟨B12, (x.flatMap eN0)⟩ :: ⟨B5, (r_5.Cells.flatMap eN0)⟩ :: ⟨B4, (r_4.Cells.flatMap eN0)⟩ :: ⟨B2, (one_.flatMap eN0)⟩ :: ⟨(aD 0), [vi 1, vi 0, vi 0, vi 0, vi 2]⟩ :: ((D3.flatMap eN1) ++ []))) (subc (mem_at (i := 0) rfl) (subc (mem_at (i := 1) rfl) (subc (mem_at (i := 2) rfl) (subc (mem_at (i := 3) rfl) (subc (mem_at (i := 4) rfl) (subc (mem_at (i := 5) rfl) (subc (mem_at (i := 6) rfl) (suba (fun r_ (h : r_ ∈ ((D3.flatMap eN1) : List Ro)) => mOd (i := 7) (show r_ ∈ ((((([((B14, c14), r_6)] : List (Hd × (List TDyadic))).flatMap eN1) ++ ((D2.flatMap eN1) ++ ((D3.flatMap eN1) ++ [])))) : List Ro) from mAr _ (mAr _ (mAl _ h)))) (fun _ h => by cases h)))))))))), ?_⟩
           refine rA [11] ?_
           refine ra_s 72 (i := 11) rfl rfl rfl (Ys_append (s := 1) (by' := 16) (i := 0) (nn := words1.length) (c := c8) (k := 1) (len := (words1 ++ [(x2 ++ (List.drop (i2 : Int).toNat (List.take (i64.wrap ((i2 : Int) + 1)).toNat ([72, 83] : List UInt8))))]).length) (B := B8) (xs := ([(x2 ++ (List.drop (i2 : Int).toNat (List.take (i64.wrap ((i2 : Int) + 1)).toNat ([72, 83] : List UInt8))))].flatMap encS)) (cs' := ((words1 ++ [(x2 ++ (List.drop (i2 : Int).toNat (List.take (i64.wrap ((i2 : Int) + 1)).toNat ([72, 83] : List UInt8))))]).flatMap encS)) hS41 k_sl_57_9 k_sz_9_1 k_by_9_16 k_zero_9 rfl (by decide) rfl rfl rfl rfl (fm_lenn (l := words1) encS_len rfl) rfl (hS41.cf (i := 4) rfl) (fm_lenn (l := [(x2 ++ (List.drop (i2 : Int).toNat (List.take (i64.wrap ((i2 : Int) + 1)).toNat ([72, 83] : List UInt8))))]) encS_len rfl) (fm_one' (enc := encS) encS_one [(x2 ++ (List.drop (i2 : Int).toNat (List.take (i64.wrap ((i2 : Int) + 1)).toNat ([72, 83] : List UInt8))))]) (by have := hap1; omega) (by have := hap1; simp only [maxLen]; omega) (fm_app _ _) (app_len (l := words1) (l' := [(x2 ++ (List.drop (i2 : Int).toNat (List.take (i64.wrap ((i2 : Int) + 1)).toNat ([72, 83] : List UInt8))))]) rfl rfl)) ?_ ?_
           ·rintro _ w_19 ⟨B15, c15, rfl, hS42⟩
            refine ⟨(ST.subR (hS42.se [2, 3]) (R' := (⟨B14, (r_6.flatMap eN0)⟩ :: ⟨B13, (x1.flatMap eN0)⟩ :: ⟨B12, (x.flatMap eN0)⟩ :: ⟨B5, (r_5.Cells.flatMap eN0)⟩ :: ⟨B4, (r_4.Cells.flatMap eN0)⟩ :: ⟨B2, (one_.flatMap eN0)⟩ :: ⟨(aD 0), [vi 1, vi 0, vi 0, vi 0, vi 2]⟩ :: ((D3.flatMap eN1) ++ []))) (subc (mem_at (i := 0) rfl) (subc (mem_at (i := 1) rfl) (subc (mem_at (i := 2) rfl) (subc (mem_at (i := 3) rfl) (subc (mem_at (i := 4) rfl) (subc (mem_at (i := 5) rfl) (subc (mem_at (i := 6) rfl) (suba (fun r_ (h : r_ ∈ ((D3.flatMap eN1) : List Ro)) => mOd (i := 7) (show r_ ∈ ((((([((B14, c14), r_6)] : List (Hd × (List TDyadic))).flatMap eN1) ++ ((D2.flatMap eN1) ++ ((D3.flatMap eN1) ++ [])))) : List Ro) from mAr _ (mAr _ (mAl _ h)))) (fun _ h => by cases h)))))))))), ?_⟩
            refine rA [15] ?_
            refine ra_s 76 (i := 15) rfl rfl rfl (Ys_append (s := 1) (by' := 24) (i := 1) (nn := list1.length) (c := c9) (k := 1) (len := (list1 ++ ([r_6] : List (List TDyadic))).length) (B := B9) (xs := (([((B14, c14), r_6)] : List (Hd × (List TDyadic))).flatMap eN3)) (cs' := ((D2 ++ ([((B14, c14), r_6)] : List (Hd × (List TDyadic)))).flatMap eN3)) hS42 k_sl_58_28 k_sz_28_1 k_by_28_24 k_zero_28 rfl (by decide) rfl rfl rfl rfl (fm_lenn (l := D2) encD_SDyadic_len (dl_len hD2)) rfl (hS42.cf (i := 5) rfl) (fm_lenn (l := ([((B14, c14), r_6)] : List (Hd × (List TDyadic)))) encD_SDyadic_len rfl) (fm_one' (enc := eN3) encD_SDyadic_one ([((B14, c14), r_6)] : List (Hd × (List TDyadic)))) (by have := hap2; omega) (by have := hap2; simp only [maxLen]; omega) (fm_app _ _) (dl_sum (dl_len hD2) rfl (dl_app hD2 (show List.map Prod.snd ([((B14, c14), r_6)] : List (Hd × (List TDyadic))) = ([r_6] : List (List TDyadic)) from rfl)))) ?_ ?_
            ·rintro _ w_20 ⟨B16, c16, rfl, hS43⟩
             have ho20 : Org w0 [] [⟨(aD 0), [vi 1, vi 0, vi 0, vi 0, vi 2]⟩] ((D2 ++ ([((B14, c14), r_6)] : List (Hd × (List TDyadic)))).flatMap eN1) := (forg_app ho8 ho19)
             have hS44 : ST w0 [] _ [⟨B15, 9, ((words1 ++ [(x2 ++ (List.drop (i2 : Int).toNat (List.take (i64.wrap ((i2 : Int) + 1)).toNat ([72, 83] : List UInt8))))]).flatMap encS), c15 * 1⟩, ⟨B16, 28, ((D2 ++ ([((B14, c14), r_6)] : List (Hd × (List TDyadic)))).flatMap eN3), c16 * 1⟩, ⟨aD b4, 28, (D3.flatMap eN3), 2 * 1⟩, ⟨aD b5, 28, [.slice B14 r_6.length c14], 1⟩, ⟨aD b6, 9, ([(x2 ++ (List.drop (i2 : Int).toNat (List.take (i64.wrap ((i2 : Int) + 1)).toNat ([72, 83] : List UInt8))))].flatMap encS), 1 * 1⟩, ⟨aD b7, 28, (([((B14, c14), r_6)] : List (Hd × (List TDyadic))).flatMap eN3), 1 * 1⟩] (⟨B14, (r_6.flatMap eN0)⟩ :: ⟨B13, (x1.flatMap eN0)⟩ :: ⟨B12, (x.flatMap eN0)⟩ :: ⟨B5, (r_5.Cells.flatMap eN0)⟩ :: ⟨B4, (r_4.Cells.flatMap eN0)⟩ :: ⟨B2, (one_.flatMap eN0)⟩ :: ⟨(aD 0), [vi 1, vi 0, vi 0, vi 0, vi 2]⟩ :: (((D2 ++ ([((B14, c14), r_6)] : List (Hd × (List TDyadic)))).flatMap eN1) ++ ((([((B14, c14), r_6)] : List (Hd × (List TDyadic))).flatMap eN1) ++ ((D3.flatMap eN1) ++ [])))) := ST.subR hS43 (subc (mem_at (i := 0) rfl) (subc (mem_at (i := 1) rfl) (subc (mem_at (i := 2) rfl) (subc (mem_at (i := 3) rfl) (subc (mem_at (i := 4) rfl) (subc (mem_at (i := 5) rfl) (subc (mem_at (i := 6) rfl) (suba (fsub_app (fun r_ (h : r_ ∈ ((D2.flatMap eN1) : List Ro)) => mOd (i := 7) (show r_ ∈ ((((([((B14, c14), r_6)] : List (Hd × (List TDyadic))).flatMap eN1) ++ ((D2.flatMap eN1) ++ ((D3.flatMap eN1) ++ [])))) : List Ro) from mAr _ (mAl _ h))) (fun r_ (h : r_ ∈ ((([((B14, c14), r_6)] : List (Hd × (List TDyadic))).flatMap eN1) : List Ro)) => mOd (i := 7) (show r_ ∈ ((((([((B14, c14), r_6)] : List (Hd × (List TDyadic))).flatMap eN1) ++ ((D2.flatMap eN1) ++ ((D3.flatMap eN1) ++ [])))) : List Ro) from mAl _ h))) (suba (fun r_ (h : r_ ∈ ((([((B14, c14), r_6)] : List (Hd × (List TDyadic))).flatMap eN1) : List Ro)) => mOd (i := 7) (show r_ ∈ ((((([((B14, c14), r_6)] : List (Hd × (List TDyadic))).flatMap eN1) ++ ((D2.flatMap eN1) ++ ((D3.flatMap eN1) ++ [])))) : List Ro) from mAl _ h)) (suba (fun r_ (h : r_ ∈ ((D3.flatMap eN1) : List Ro)) => mOd (i := 7) (show r_ ∈ ((((([((B14, c14), r_6)] : List (Hd × (List TDyadic))).flatMap eN1) ++ ((D2.flatMap eN1) ++ ((D3.flatMap eN1) ++ [])))) : List Ro) from mAr _ (mAr _ (mAl _ h)))) (fun _ h => by cases h)))))))))))
             refine ⟨(ST.subR (hS44.se [2, 3]) (R' := (⟨B14, (r_6.flatMap eN0)⟩ :: ⟨B13, (x1.flatMap eN0)⟩ :: ⟨B12, (x.flatMap eN0)⟩ :: ⟨B5, (r_5.Cells.flatMap eN0)⟩ :: ⟨B4, (r_4.Cells.flatMap eN0)⟩ :: ⟨B2, (one_.flatMap eN0)⟩ :: ⟨(aD 0), [vi 1, vi 0, vi 0, vi 0, vi 2]⟩ :: ((D3.flatMap eN1) ++ []))) (subc (mem_at (i := 0) rfl) (subc (mem_at (i := 1) rfl) (subc (mem_at (i := 2) rfl) (subc (mem_at (i := 3) rfl) (subc (mem_at (i := 4) rfl) (subc (mem_at (i := 5) rfl) (subc (mem_at (i := 6) rfl) (suba (fun r_ (h : r_ ∈ ((D3.flatMap eN1) : List Ro)) => mOd (i := 7) (show r_ ∈ (((((D2 ++ ([((B14, c14), r_6)] : List (Hd × (List TDyadic)))).flatMap eN1) ++ ((([((B14, c14), r_6)] : List (Hd × (List TDyadic))).flatMap eN1) ++ ((D3.flatMap eN1) ++ [])))) : List Ro) from mAr _ (mAr _ (mAl _ h)))) (fun _ h => by cases h)))))))))), ?_⟩
             refine ra_q 16 4 (v := .slice B15 ((words1 ++ [(x2 ++ (List.drop (i2 : Int).toNat (List.take (i64.wrap ((i2 : Int) + 1)).toNat ([72, 83] : List UInt8))))]).length) c15) rfl rfl rfl (by kernel_rfl) (by kernel_rfl) (by kernel_rfl) (ST.subR (hS44.se [2, 3]) (R' := (⟨B14, (r_6.flatMap eN0)⟩ :: ⟨B13, (x1.flatMap eN0)⟩ :: ⟨B12, (x.flatMap eN0)⟩ :: ⟨B5, (r_5.Cells.flatMap eN0)⟩ :: ⟨B4, (r_4.Cells.flatMap eN0)⟩ :: ⟨B2, (one_.flatMap eN0)⟩ :: ⟨(aD 0), [vi 1, vi 0, vi 0, vi 0, vi 2]⟩ :: ((D3.flatMap eN1) ++ []))) (subc (mem_at (i := 0) rfl) (subc (mem_at (i := 1) rfl) (subc (mem_at (i := 2) rfl) (subc (mem_at (i := 3) rfl) (subc (mem_at (i := 4) rfl) (subc (mem_at (i := 5) rfl) (subc (mem_at (i := 6) rfl) (suba (fun r_ (h : r_ ∈ ((D3.flatMap eN1) : List Ro)) => mOd (i := 7) (show r_ ∈ (((((D2 ++ ([((B14, c14), r_6)] : List (Hd × (List TDyadic)))).flatMap eN1) ++ ((([((B14, c14), r_6)] : List (Hd × (List TDyadic))).flatMap eN1) ++ ((D3.flatMap eN1) ++ [])))) : List Ro) from mAr _ (mAr _ (mAl _ h)))) (fun _ h => by cases h)))))))))) (fun w' hw' => (Y_assign (v := .slice B15 ((words1 ++ [(x2 ++ (List.drop (i2 : Int).toNat (List.take (i64.wrap ((i2 : Int) + 1)).toNat ([72, 83] : List UInt8))))]).length) c15) rfl rfl)) ?_
             refine rq 17 5 (v := .slice B16 ((list1 ++ ([r_6] : List (List TDyadic))).length) c16) rfl (ST.subR (hS44.se [2, 3]) (R' := (⟨B14, (r_6.flatMap eN0)⟩ :: ⟨B13, (x1.flatMap eN0)⟩ :: ⟨B12, (x.flatMap eN0)⟩ :: ⟨B5, (r_5.Cells.flatMap eN0)⟩ :: ⟨B4, (r_4.Cells.flatMap eN0)⟩ :: ⟨B2, (one_.flatMap eN0)⟩ :: ⟨(aD 0), [vi 1, vi 0, vi 0, vi 0, vi 2]⟩ :: ((D3.flatMap eN1) ++ []))) (subc (mem_at (i := 0) rfl) (subc (mem_at (i := 1) rfl) (subc (mem_at (i := 2) rfl) (subc (mem_at (i := 3) rfl) (subc (mem_at (i := 4) rfl) (subc (mem_at (i := 5) rfl) (subc (mem_at (i := 6) rfl) (suba (fun r_ (h : r_ ∈ ((D3.flatMap eN1) : List Ro)) => mOd (i := 7) (show r_ ∈ (((((D2 ++ ([((B14, c14), r_6)] : List (Hd × (List TDyadic)))).flatMap eN1) ++ ((([((B14, c14), r_6)] : List (Hd × (List TDyadic))).flatMap eN1) ++ ((D3.flatMap eN1) ++ [])))) : List Ro) from mAr _ (mAr _ (mAl _ h)))) (fun _ h => by cases h)))))))))) (fun w' hw' => (Y_assign (v := .slice B16 ((list1 ++ ([r_6] : List (List TDyadic))).length) c16) rfl rfl)) ?_
             refine ra_done (by kernel_rfl) ?_
             have hS45 : ST w0 [] _ [⟨B15, 9, ((words1 ++ [(x2 ++ (List.drop (i2 : Int).toNat (List.take (i64.wrap ((i2 : Int) + 1)).toNat ([72, 83] : List UInt8))))]).flatMap encS), c15 * 1⟩, ⟨B16, 28, ((D2 ++ ([((B14, c14), r_6)] : List (Hd × (List TDyadic)))).flatMap eN3), c16 * 1⟩, ⟨aD b4, 28, (D3.flatMap eN3), 2 * 1⟩, ⟨aD b5, 28, [.slice B14 r_6.length c14], 1⟩, ⟨aD b6, 9, ([(x2 ++ (List.drop (i2 : Int).toNat (List.take (i64.wrap ((i2 : Int) + 1)).toNat ([72, 83] : List UInt8))))].flatMap encS), 1 * 1⟩, ⟨aD b7, 28, (([((B14, c14), r_6)] : List (Hd × (List TDyadic))).flatMap eN3), 1 * 1⟩] (⟨B14, (r_6.flatMap eN0)⟩ :: ⟨B13, (x1.flatMap eN0)⟩ :: ⟨B12, (x.flatMap eN0)⟩ :: ⟨B5, (r_5.Cells.flatMap eN0)⟩ :: ⟨B4, (r_4.Cells.flatMap eN0)⟩ :: ⟨B2, (one_.flatMap eN0)⟩ :: ⟨(aD 0), [vi 1, vi 0, vi 0, vi 0, vi 2]⟩ :: (((D2 ++ ([((B14, c14), r_6)] : List (Hd × (List TDyadic)))).flatMap eN1) ++ ((D3.flatMap eN1) ++ []))) := ST.subR hS44 (subc (mem_at (i := 0) rfl) (subc (mem_at (i := 1) rfl) (subc (mem_at (i := 2) rfl) (subc (mem_at (i := 3) rfl) (subc (mem_at (i := 4) rfl) (subc (mem_at (i := 5) rfl) (subc (mem_at (i := 6) rfl) (suba (fun r_ (h : r_ ∈ (((D2 ++ ([((B14, c14), r_6)] : List (Hd × (List TDyadic)))).flatMap eN1) : List Ro)) => mOd (i := 7) (show r_ ∈ (((((D2 ++ ([((B14, c14), r_6)] : List (Hd × (List TDyadic)))).flatMap eN1) ++ ((([((B14, c14), r_6)] : List (Hd × (List TDyadic))).flatMap eN1) ++ ((D3.flatMap eN1) ++ [])))) : List Ro) from mAl _ h)) (suba (fun r_ (h : r_ ∈ ((D3.flatMap eN1) : List Ro)) => mOd (i := 7) (show r_ ∈ (((((D2 ++ ([((B14, c14), r_6)] : List (Hd × (List TDyadic)))).flatMap eN1) ++ ((([((B14, c14), r_6)] : List (Hd × (List TDyadic))).flatMap eN1) ++ ((D3.flatMap eN1) ++ [])))) : List Ro) from mAr _ (mAr _ (mAl _ h)))) (fun _ h => by cases h))))))))))
             exact ⟨B15, c15, B16, c16, (D2 ++ ([((B14, c14), r_6)] : List (Hd × (List TDyadic)))), (FF.cons rfl (FF.cons rfl (FF.cons (hf2.get 6 2 rfl) (FF.cons (hf2.get 7 3 rfl) (FF.cons (hf2.get 8 4 rfl) (FF.cons (hf2.get 41 5 rfl) (FF.cons (hf2.get 42 6 rfl) (FF.cons (hf2.get 43 7 rfl) FF.nil)))))))), (dl_app hD2 (show List.map Prod.snd ([((B14, c14), r_6)] : List (Hd × (List TDyadic))) = ([r_6] : List (List TDyadic)) from rfl)), ho20, (hS45.sel [0, 1, 2] rfl rfl)⟩
            exact allR_nil
           exact allR_nil
          exact allR_nil
         refine ra_s 75 (i := 14) rfl rfl rfl (Ys_bslice (s := 1) (len := 1) (vs := [(0, .slice B14 r_6.length c14)]) (cs := [.slice B14 r_6.length c14]) (zs := [.slice none 0 0]) (m := 1) hS32 k_sl_58_28 k_sz_28_1 k_zc_28 rfl (mpc rfl mpn) rfl rfl rfl (by kernel_rfl) (by kernel_rfl) rfl) ?_ ?_
         ·rintro _ w_21 ⟨b7, rfl, hS46⟩
          have hm7 : ∀ r ∈ (([((B14, c14), r_6)] : List (Hd × (List TDyadic))).flatMap eN1), r ∈ ((⟨B14, (r_6.flatMap eN0)⟩ :: ⟨B13, (x1.flatMap eN0)⟩ :: ⟨B12, (x.flatMap eN0)⟩ :: ⟨B5, (r_5.Cells.flatMap eN0)⟩ :: ⟨B4, (r_4.Cells.flatMap eN0)⟩ :: ⟨B2, (one_.flatMap eN0)⟩ :: ⟨(aD 0), [vi 1, vi 0, vi 0, vi 0, vi 2]⟩ :: ((D2.flatMap eN1) ++ ((D3.flatMap eN1) ++ []))) : List Ro) := (fsub_cons (subc (mem_at (i := 0) rfl) (fun _ h => by cases h)) fsub_nil)
          have ho21 : Org w0 [] [⟨(aD 0), [vi 1, vi 0, vi 0, vi 0, vi 2]⟩] (([((B14, c14), r_6)] : List (Hd × (List TDyadic))).flatMap eN1) := (forg_cons (org_cons ho15 org_nil) forg_nil)
          have hS47 : ST w0 [] _ [⟨B8, 9, (words1.flatMap encS), c8 * 1⟩, ⟨B9, 28, (D2.flatMap eN3), c9 * 1⟩, ⟨aD b4, 28, (D3.flatMap eN3), 2 * 1⟩, ⟨aD b5, 28, [.slice B14 r_6.length c14], 1⟩, ⟨aD b7, 28, (([((B14, c14), r_6)] : List (Hd × (List TDyadic))).flatMap eN3), 1 * 1⟩] (⟨B14, (r_6.flatMap eN0)⟩ :: ⟨B13, (x1.flatMap eN0)⟩ :: ⟨B12, (x.flatMap eN0)⟩ :: ⟨B5, (r_5.Cells.flatMap eN0)⟩ :: ⟨B4, (r_4.Cells.flatMap eN0)⟩ :: ⟨B2, (one_.flatMap eN0)⟩ :: ⟨(aD 0), [vi 1, vi 0, vi 0, vi 0, vi 2]⟩ :: ((([((B14, c14), r_6)] : List (Hd × (List TDyadic))).flatMap eN1) ++ ((D2.flatMap eN1) ++ ((D3.flatMap eN1) ++ [])))) := ST.subR hS46 (subc (mem_at (i := 0) rfl) (subc (mem_at (i := 1) rfl) (subc (mem_at (i := 2) rfl) (subc (mem_at (i := 3) rfl) (subc (mem_at (i := 4) rfl) (subc (mem_at (i := 5) rfl) (subc (mem_at (i := 6) rfl) (suba hm7 (suba (fun r_ (h : r_ ∈ ((D2.flatMap eN1) : List Ro)) => mOd (i := 7) (show r_ ∈ ((((D2.flatMap eN1) ++ ((D3.flatMap eN1) ++ []))) : List Ro) from mAl _ h)) (suba (fun r_ (h : r_ ∈ ((D3.flatMap eN1) : List Ro)) => mOd (i := 7) (show r_ ∈ ((((D2.flatMap eN1) ++ ((D3.flatMap eN1) ++ []))) : List Ro) from mAr _ (mAl _ h))) (fun _ h => by cases h)))))))))))
          refine ⟨(ST.subR (hS47.se [2, 3]) (R' := (⟨B14, (r_6.flatMap eN0)⟩ :: ⟨B13, (x1.flatMap eN0)⟩ :: ⟨B12, (x.flatMap eN0)⟩ :: ⟨B5, (r_5.Cells.flatMap eN0)⟩ :: ⟨B4, (r_4.Cells.flatMap eN0)⟩ :: ⟨B2, (one_.flatMap eN0)⟩ :: ⟨(aD 0), [vi 1, vi 0, vi 0, vi 0, vi 2]⟩ :: ((D3.flatMap eN1) ++ []))) (subc (mem_at (i := 0) rfl) (subc (mem_at (i := 1) rfl) (subc (mem_at (i := 2) rfl) (subc (mem_at (i := 3) rfl) (subc (mem_at (i := 4) rfl) (subc (mem_at (i := 5) rfl) (subc (mem_at (i := 6) rfl) (suba (fun r_ (h : r_ ∈ ((D3.flatMap eN1) : List Ro)) => mOd (i := 7) (show r_ ∈ ((((([((B14, c14), r_6)] : List (Hd × (List TDyadic))).flatMap eN1) ++ ((D2.flatMap eN1) ++ ((D3.flatMap eN1) ++ [])))) : List Ro) from mAr _ (mAr _ (mAl _ h)))) (fun _ h => by cases h)))))))))), ?_⟩
          refine rA [10] ?_
          refine ra_s 71 (i := 10) rfl rfl rfl (Ys_bslice (s := 1) (len := 1) (vs := [(0, .string (bstr (x2 ++ (List.drop (i2 : Int).toNat (List.take (i64.wrap ((i2 : Int) + 1)).toNat ([72, 83] : List UInt8))))))]) (cs := [.string (bstr (x2 ++ (List.drop (i2 : Int).toNat (List.take (i64.wrap ((i2 : Int) + 1)).toNat ([72, 83] : List UInt8)))))]) (zs := [.string (bstr ([] : List UInt8))]) (m := 1) hS47 k_sl_57_9 k_sz_9_1 k_zc_9 rfl (mpc rfl mpn) rfl rfl rfl (by kernel_rfl) (by kernel_rfl) rfl) ?_ ?_
          ·rintro _ w_22 ⟨b6, rfl, hS48⟩
           refine ⟨(ST.subR (hS48.se [2, 3]) (R' := (⟨B14, (r_6.flatMap eN0)⟩ :: ⟨B13, (x1.flatMap eN0)⟩ :: ⟨B12, (x.flatMap eN0)⟩ :: ⟨B5, (r_5.Cells.flatMap eN0)⟩ :: ⟨B4, (r_4.Cells.flatMap eN0)⟩ :: ⟨B2, (one_.flatMap eN0)⟩ :: ⟨(aD 0), [vi 1, vi 0, vi 0, vi 0, vi 2]⟩ :: ((D3.flatMap eN1) ++ []))) (subc (mem_at (i := 0) rfl) (subc (mem_at (i := 1) rfl) (subc (mem_at (i := 2) rfl) (subc (mem_at (i := 3) rfl) (subc (mem_at (i := 4) rfl) (subc (mem_at (i := 5) rfl) (subc (mem_at (i := 6) rfl) (suba (fun r_ (h : r_ ∈ ((D3.flatMap eN1) : List Ro)) => mOd (i := 7) (show r_ ∈ ((((([((B14, c14), r_6)] : List (Hd × (List TDyadic))).flatMap eN1) ++ ((D2.flatMap eN1) ++ ((D3.flatMap eN1) ++ [])))) : List Ro) from mAr _ (mAr _ (mAl _ h)))) (fun _ h => by cases h)))))))))), ?_⟩
           refine rA [11] ?_
           refine ra_s 72 (i := 11) rfl rfl rfl (Ys_append (s := 1) (by' := 16) (i := 0) (nn := words1.length) (c := c8) (k := 1) (len := (words1 ++ [(x2 ++ (List.drop (i2 : Int).toNat (List.take (i64.wrap ((i2 : Int) + 1)).toNat ([72, 83] : List UInt8))))]).length) (B := B8) (xs := ([(x2 ++ (List.drop (i2 : Int).toNat (List.take (i64.wrap ((i2 : Int) + 1)).toNat ([72, 83] : List UInt8))))].flatMap encS)) (cs' := ((words1 ++ [(x2 ++ (List.drop (i2 : Int).toNat (List.take (i64.wrap ((i2 : Int) + 1)).toNat ([72, 83] : List UInt8))))]).flatMap encS)) hS48 k_sl_57_9 k_sz_9_1 k_by_9_16 k_zero_9 rfl (by decide) rfl rfl rfl rfl (fm_lenn (l := words1) encS_len rfl) rfl (hS48.cf (i := 5) rfl) (fm_lenn (l := [(x2 ++ (List.drop (i2 : Int).toNat (List.take (i64.wrap ((i2 : Int) + 1)).toNat ([72, 83] : List UInt8))))]) encS_len rfl) (fm_one' (enc := encS) encS_one [(x2 ++ (List.drop (i2 : Int).toNat (List.take (i64.wrap ((i2 : Int) + 1)).toNat ([72, 83] : List UInt8))))]) (by have := hap1; omega) (by have := hap1; simp only [maxLen]; omega) (fm_app _ _) (app_len (l := words1) (l' := [(x2 ++ (List.drop (i2 : Int).toNat (List.take (i64.wrap ((i2 : Int) + 1)).toNat ([72, 83] : List UInt8))))]) rfl rfl)) ?_ ?_
           ·rintro _ w_23 ⟨B15, c15, rfl, hS49⟩
            refine ⟨(ST.subR (hS49.se [2, 3]) (R' := (⟨B14, (r_6.flatMap eN0)⟩ :: ⟨B13, (x1.flatMap eN0)⟩ :: ⟨B12, (x.flatMap eN0)⟩ :: ⟨B5, (r_5.Cells.flatMap eN0)⟩ :: ⟨B4, (r_4.Cells.flatMap eN0)⟩ :: ⟨B2, (one_.flatMap eN0)⟩ :: ⟨(aD 0), [vi 1, vi 0, vi 0, vi 0, vi 2]⟩ :: ((D3.flatMap eN1) ++ []))) (subc (mem_at (i := 0) rfl) (subc (mem_at (i := 1) rfl) (subc (mem_at (i := 2) rfl) (subc (mem_at (i := 3) rfl) (subc (mem_at (i := 4) rfl) (subc (mem_at (i := 5) rfl) (subc (mem_at (i := 6) rfl) (suba (fun r_ (h : r_ ∈ ((D3.flatMap eN1) : List Ro)) => mOd (i := 7) (show r_ ∈ ((((([((B14, c14), r_6)] : List (Hd × (List TDyadic))).flatMap eN1) ++ ((D2.flatMap eN1) ++ ((D3.flatMap eN1) ++ [])))) : List Ro) from mAr _ (mAr _ (mAl _ h)))) (fun _ h => by cases h)))))))))), ?_⟩
            refine rA [15] ?_
            refine ra_s 76 (i := 15) rfl rfl rfl (Ys_append (s := 1) (by' := 24) (i := 1) (nn := list1.length) (c := c9) (k := 1) (len := (list1 ++ ([r_6] : List (List TDyadic))).length) (B := B9) (xs := (([((B14, c14), r_6)] : List (Hd × (List TDyadic))).flatMap eN3)) (cs' := ((D2 ++ ([((B14, c14), r_6)] : List (Hd × (List TDyadic)))).flatMap eN3)) hS49 k_sl_58_28 k_sz_28_1 k_by_28_24 k_zero_28 rfl (by decide) rfl rfl rfl rfl (fm_lenn (l := D2) encD_SDyadic_len (dl_len hD2)) rfl (hS49.cf (i := 4) rfl) (fm_lenn (l := ([((B14, c14), r_6)] : List (Hd × (List TDyadic)))) encD_SDyadic_len rfl) (fm_one' (enc := eN3) encD_SDyadic_one ([((B14, c14), r_6)] : List (Hd × (List TDyadic)))) (by have := hap2; omega) (by have := hap2; simp only [maxLen]; omega) (fm_app _ _) (dl_sum (dl_len hD2) rfl (dl_app hD2 (show List.map Prod.snd ([((B14, c14), r_6)] : List (Hd × (List TDyadic))) = ([r_6] : List (List TDyadic)) from rfl)))) ?_ ?_
            ·rintro _ w_24 ⟨B16, c16, rfl, hS50⟩
             have ho22 : Org w0 [] [⟨(aD 0), [vi 1, vi 0, vi 0, vi 0, vi 2]⟩] ((D2 ++ ([((B14, c14), r_6)] : List (Hd × (List TDyadic)))).flatMap eN1) := (forg_app ho8 ho21)
             have hS51 : ST w0 [] _ [⟨B15, 9, ((words1 ++ [(x2 ++ (List.drop (i2 : Int).toNat (List.take (i64.wrap ((i2 : Int) + 1)).toNat ([72, 83] : List UInt8))))]).flatMap encS), c15 * 1⟩, ⟨B16, 28, ((D2 ++ ([((B14, c14), r_6)] : List (Hd × (List TDyadic)))).flatMap eN3), c16 * 1⟩, ⟨aD b4, 28, (D3.flatMap eN3), 2 * 1⟩, ⟨aD b5, 28, [.slice B14 r_6.length c14], 1⟩, ⟨aD b7, 28, (([((B14, c14), r_6)] : List (Hd × (List TDyadic))).flatMap eN3), 1 * 1⟩, ⟨aD b6, 9, ([(x2 ++ (List.drop (i2 : Int).toNat (List.take (i64.wrap ((i2 : Int) + 1)).toNat ([72, 83] : List UInt8))))].flatMap encS), 1 * 1⟩] (⟨B14, (r_6.flatMap eN0)⟩ :: ⟨B13, (x1.flatMap eN0)⟩ :: ⟨B12, (x.flatMap eN0)⟩ :: ⟨B5, (r_5.Cells.flatMap eN0)⟩ :: ⟨B4, (r_4.Cells.flatMap eN0)⟩ :: ⟨B2, (one_.flatMap eN0)⟩ :: ⟨(aD 0), [vi 1, vi 0, vi 0, vi 0, vi 2]⟩ :: (((D2 ++ ([((B14, c14), r_6)] : List (Hd × (List TDyadic)))).flatMap eN1) ++ ((([((B14, c14), r_6)] : List (Hd × (List TDyadic))).flatMap eN1) ++ ((D3.flatMap eN1) ++ [])))) := ST.subR hS50 (subc (mem_at (i := 0) rfl) (subc (mem_at (i := 1) rfl) (subc (mem_at (i := 2) rfl) (subc (mem_at (i := 3) rfl) (subc (mem_at (i := 4) rfl) (subc (mem_at (i := 5) rfl) (subc (mem_at (i := 6) rfl) (suba (fsub_app (fun r_ (h : r_ ∈ ((D2.flatMap eN1) : List Ro)) => mOd (i := 7) (show r_ ∈ ((((([((B14, c14), r_6)] : List (Hd × (List TDyadic))).flatMap eN1) ++ ((D2.flatMap eN1) ++ ((D3.flatMap eN1) ++ [])))) : List Ro) from mAr _ (mAl _ h))) (fun r_ (h : r_ ∈ ((([((B14, c14), r_6)] : List (Hd × (List TDyadic))).flatMap eN1) : List Ro)) => mOd (i := 7) (show r_ ∈ ((((([((B14, c14), r_6)] : List (Hd × (List TDyadic))).flatMap eN1) ++ ((D2.flatMap eN1) ++ ((D3.flatMap eN1) ++ [])))) : List Ro) from mAl _ h))) (suba (fun r_ (h : r_ ∈ ((([((B14, c14), r_6)] : List (Hd × (List TDyadic))).flatMap eN1) : List Ro)) => mOd (i := 7) (show r_ ∈ ((((([((B14, c14), r_6)] : List (Hd × (List TDyadic))).flatMap eN1) ++ ((D2.flatMap eN1) ++ ((D3.flatMap eN1) ++ [])))) : List Ro) from mAl _ h)) (suba (fun r_ (h : r_ ∈ ((D3.flatMap eN1) : List Ro)) => mOd (i := 7) (show r_ ∈ ((((([((B14, c14), r_6)] : List (Hd × (List TDyadic))).flatMap eN1) ++ ((D2.flatMap eN1) ++ ((D3.flatMap eN1) ++ [])))) : List Ro) from mAr _ (mAr _ (mAl _ h)))) (fun _ h => by cases h)))))))))))
             refine ⟨(ST.subR (hS51.se [2, 3]) (R' := (⟨B14, (r_6.flatMap eN0)⟩ :: ⟨B13, (x1.flatMap eN0)⟩ :: ⟨B12, (x.flatMap eN0)⟩ :: ⟨B5, (r_5.Cells.flatMap eN0)⟩ :: ⟨B4, (r_4.Cells.flatMap eN0)⟩ :: ⟨B2, (one_.flatMap eN0)⟩ :: ⟨(aD 0), [vi 1, vi 0, vi 0, vi 0, vi 2]⟩ :: ((D3.flatMap eN1) ++ []))) (subc (mem_at (i := 0) rfl) (subc (mem_at (i := 1) rfl) (subc (mem_at (i := 2) rfl) (subc (mem_at (i := 3) rfl) (subc (mem_at (i := 4) rfl) (subc (mem_at (i := 5) rfl) (subc (mem_at (i := 6) rfl) (suba (fun r_ (h : r_ ∈ ((D3.flatMap eN1) : List Ro)) => mOd (i := 7) (show r_ ∈ (((((D2 ++ ([((B14, c14), r_6)] : List (Hd × (List TDyadic)))).flatMap eN1) ++ ((([((B14, c14), r_6)] : List (Hd × (List TDyadic))).flatMap eN1) ++ ((D3.flatMap eN1) ++ [])))) : List Ro) from mAr _ (mAr _ (mAl _ h)))) (fun _ h => by cases h)))))))))), ?_⟩
             refine ra_q 16 4 (v := .slice B15 ((words1 ++ [(x2 ++ (List.drop (i2 : Int).toNat (List.take (i64.wrap ((i2 : Int) + 1)).toNat ([72, 83] : List UInt8))))]).length) c15) rfl rfl rfl (by kernel_rfl) (by kernel_rfl) (by kernel_rfl) (ST.subR (hS51.se [2, 3]) (R' := (⟨B14, (r_6.flatMap eN0)⟩ :: ⟨B13, (x1.flatMap eN0)⟩ :: ⟨B12, (x.flatMap eN0)⟩ :: ⟨B5, (r_5.Cells.flatMap eN0)⟩ :: ⟨B4, (r_4.Cells.flatMap eN0)⟩ :: ⟨B2, (one_.flatMap eN0)⟩ :: ⟨(aD 0), [vi 1, vi 0, vi 0, vi 0, vi 2]⟩ :: ((D3.flatMap eN1) ++ []))) (subc (mem_at (i := 0) rfl) (subc (mem_at (i := 1) rfl) (subc (mem_at (i := 2) rfl) (subc (mem_at (i := 3) rfl) (subc (mem_at (i := 4) rfl) (subc (mem_at (i := 5) rfl) (subc (mem_at (i := 6) rfl) (suba (fun r_ (h : r_ ∈ ((D3.flatMap eN1) : List Ro)) => mOd (i := 7) (show r_ ∈ (((((D2 ++ ([((B14, c14), r_6)] : List (Hd × (List TDyadic)))).flatMap eN1) ++ ((([((B14, c14), r_6)] : List (Hd × (List TDyadic))).flatMap eN1) ++ ((D3.flatMap eN1) ++ [])))) : List Ro) from mAr _ (mAr _ (mAl _ h)))) (fun _ h => by cases h)))))))))) (fun w' hw' => (Y_assign (v := .slice B15 ((words1 ++ [(x2 ++ (List.drop (i2 : Int).toNat (List.take (i64.wrap ((i2 : Int) + 1)).toNat ([72, 83] : List UInt8))))]).length) c15) rfl rfl)) ?_
             refine rq 17 5 (v := .slice B16 ((list1 ++ ([r_6] : List (List TDyadic))).length) c16) rfl (ST.subR (hS51.se [2, 3]) (R' := (⟨B14, (r_6.flatMap eN0)⟩ :: ⟨B13, (x1.flatMap eN0)⟩ :: ⟨B12, (x.flatMap eN0)⟩ :: ⟨B5, (r_5.Cells.flatMap eN0)⟩ :: ⟨B4, (r_4.Cells.flatMap eN0)⟩ :: ⟨B2, (one_.flatMap eN0)⟩ :: ⟨(aD 0), [vi 1, vi 0, vi 0, vi 0, vi 2]⟩ :: ((D3.flatMap eN1) ++ []))) (subc (mem_at (i := 0) rfl) (subc (mem_at (i := 1) rfl) (subc (mem_at (i := 2) rfl) (subc (mem_at (i := 3) rfl) (subc (mem_at (i := 4) rfl) (subc (mem_at (i := 5) rfl) (subc (mem_at (i := 6) rfl) (suba (fun r_ (h : r_ ∈ ((D3.flatMap eN1) : List Ro)) => mOd (i := 7) (show r_ ∈ (((((D2 ++ ([((B14, c14), r_6)] : List (Hd × (List TDyadic)))).flatMap eN1) ++ ((([((B14, c14), r_6)] : List (Hd × (List TDyadic))).flatMap eN1) ++ ((D3.flatMap eN1) ++ [])))) : List Ro) from mAr _ (mAr _ (mAl _ h)))) (fun _ h => by cases h)))))))))) (fun w' hw' => (Y_assign (v := .slice B16 ((list1 ++ ([r_6] : List (List TDyadic))).length) c16) rfl rfl)) ?_
             refine ra_done (by kernel_rfl) ?_
             have hS52 : ST w0 [] _ [⟨B15, 9, ((words1 ++ [(x2 ++ (List.drop (i2 : Int).toNat (List.take (i64.wrap ((i2 : Int) + 1)).toNat ([72, 83] : List UInt8))))]).flatMap encS), c15 * 1⟩, ⟨B16, 28, ((D2 ++ ([((B14, c14), r_6)] : List (Hd × (List TDyadic)))).flatMap eN3), c16 * 1⟩, ⟨aD b4, 28, (D3.flatMap eN3), 2 * 1⟩, ⟨aD b5, 28, [.slice B14 r_6.length c14], 1⟩, ⟨aD b7, 28, (([((B14, c14), r_6)] : List (Hd × (List TDyadic))).flatMap eN3), 1 * 1⟩, ⟨aD b6, 9, ([(x2 ++ (List.drop (i2 : Int).toNat (List.take (i64.wrap ((i2 : Int) + 1)).toNat ([72, 83] : List UInt8))))].flatMap encS), 1 * 1⟩] (⟨B14, (r_6.flatMap eN0)⟩ :: ⟨B13, (x1.flatMap eN0)⟩ :: ⟨B12, (x.flatMap eN0)⟩ :: ⟨B5, (r_5.Cells.flatMap eN0)⟩ :: ⟨B4, (r_4.Cells.flatMap eN0)⟩ :: ⟨B2, (one_.flatMap eN0)⟩ :: ⟨(aD 0), [vi 1, vi 0, vi 0, vi 0, vi 2]⟩ :: (((D2 ++ ([((B14, c14), r_6)] : List (Hd × (List TDyadic)))).flatMap eN1) ++ ((D3.flatMap eN1) ++ []))) := ST.subR hS51 (subc (mem_at (i := 0) rfl) (subc (mem_at (i := 1) rfl) (subc (mem_at (i := 2) rfl) (subc (mem_at (i := 3) rfl) (subc (mem_at (i := 4) rfl) (subc (mem_at (i := 5) rfl) (subc (mem_at (i := 6) rfl) (suba (fun r_ (h : r_ ∈ (((D2 ++ ([((B14, c14), r_6)] : List (Hd × (List TDyadic)))).flatMap eN1) : List Ro)) => mOd (i := 7) (show r_ ∈ (((((D2 ++ ([((B14, c14), r_6)] : List (Hd × (List TDyadic)))).flatMap eN1) ++ ((([((B14, c14), r_6)] : List (Hd × (List TDyadic))).flatMap eN1) ++ ((D3.flatMap eN1) ++ [])))) : List Ro) from mAl _ h)) (suba (fun r_ (h : r_ ∈ ((D3.flatMap eN1) : List Ro)) => mOd (i := 7) (show r_ ∈ (((((D2 ++ ([((B14, c14), r_6)] : List (Hd × (List TDyadic)))).flatMap eN1) ++ ((([((B14, c14), r_6)] : List (Hd × (List TDyadic))).flatMap eN1) ++ ((D3.flatMap eN1) ++ [])))) : List Ro) from mAr _ (mAr _ (mAl _ h)))) (fun _ h => by cases h))))))))))
             exact ⟨B15, c15, B16, c16, (D2 ++ ([((B14, c14), r_6)] : List (Hd × (List TDyadic)))), (FF.cons rfl (FF.cons rfl (FF.cons (hf2.get 6 2 rfl) (FF.cons (hf2.get 7 3 rfl) (FF.cons (hf2.get 8 4 rfl) (FF.cons (hf2.get 41 5 rfl) (FF.cons (hf2.get 42 6 rfl) (FF.cons (hf2.get 43 7 rfl) FF.nil)))))))), (dl_app hD2 (show List.map Prod.snd ([((B14, c14), r_6)] : List (Hd × (List TDyadic))) = ([r_6] : List (List TDyadic)) from rfl)), ho22, (hS52.sel [0, 1, 2] rfl rfl)⟩
            exact allR_nil
           exact allR_nil
          exact allR_nil
         exact allR_nil
        refine ra_s 75 (i := 14) rfl rfl rfl (Ys_bslice (s := 1) (len := 1) (vs := [(0, .slice B14 r_6.length c14)]) (cs := [.slice B14 r_6.length c14]) (zs := [.slice none 0 0]) (m := 1) hS32 k_sl_58_28 k_sz_28_1 k_zc_28 rfl (mpc rfl mpn) rfl rfl rfl (by kernel_rfl) (by kernel_rfl) rfl) ?_ ?_
        ·rintro _ w_25 ⟨b7, rfl, hS53⟩
         have hm8 : ∀ r ∈ (([((B14, c14), r_6)] : List (Hd × (List TDyadic))).flatMap eN1), r ∈ ((⟨B14, (r_6.flatMap eN0)⟩ :: ⟨B13, (x1.flatMap eN0)⟩ :: ⟨B12, (x.flatMap eN0)⟩ :: ⟨B5, (r_5.Cells.flatMap eN0)⟩ :: ⟨B4, (r_4.Cells.flatMap eN0)⟩ :: ⟨B2, (one_.flatMap eN0)⟩ :: ⟨(aD 0), [vi 1, vi 0, vi 0, vi 0, vi 2]⟩ :: ((D2.flatMap eN1) ++ ((D3.flatMap eN1) ++ []))) : List Ro) := (fsub_cons (subc (mem_at (i := 0) rfl) (fun _ h => by cases h)) fsub_nil)
         have ho23 : Org w0 [] [⟨(aD 0), [vi 1, vi 0, vi 0, vi 0, vi 2]⟩] (([((B14, c14), r_6)] : List (Hd × (List TDyadic))).flatMap eN1) := (forg_cons (org_cons ho15 org_nil) forg_nil)
         have hS54 : ST w0 [] _ [⟨B8, 9, (words1.flatMap encS), c8 * 1⟩, ⟨B9, 28, (D2.flatMap eN3), c9 * 1⟩, ⟨aD b4, 28, (D3.flatMap eN3), 2 * 1⟩, ⟨aD b5, 28, [.slice B14 r_6.length c14], 1⟩, ⟨aD b7, 28, (([((B14, c14), r_6)] : List (Hd × (List TDyadic))).flatMap eN3), 1 * 1⟩] (⟨B14, (r_6.flatMap eN0)⟩ :: ⟨B13, (x1.flatMap eN0)⟩ :: ⟨B12, (x.flatMap eN0)⟩ :: ⟨B5, (r_5.Cells.flatMap eN0)⟩ :: ⟨B4, (r_4.Cells.flatMap eN0)⟩ :: ⟨B2, (one_.flatMap eN0)⟩ :: ⟨(aD 0), [vi 1, vi 0, vi 0, vi 0, vi 2]⟩ :: ((([((B14, c14), r_6)] : List (Hd × (List TDyadic))).flatMap eN1) ++ ((D2.flatMap eN1) ++ ((D3.flatMap eN1) ++ [])))) := ST.subR hS53 (subc (mem_at (i := 0) rfl) (subc (mem_at (i := 1) rfl) (subc (mem_at (i := 2) rfl) (subc (mem_at (i := 3) rfl) (subc (mem_at (i := 4) rfl) (subc (mem_at (i := 5) rfl) (subc (mem_at (i := 6) rfl) (suba hm8 (suba (fun r_ (h : r_ ∈ ((D2.flatMap eN1) : List Ro)) => mOd (i := 7) (show r_ ∈ ((((D2.flatMap eN1) ++ ((D3.flatMap eN1) ++ []))) : List Ro) from mAl _ h)) (suba (fun r_ (h : r_ ∈ ((D3.flatMap eN1) : List Ro)) => mOd (i := 7) (show r_ ∈ ((((D2.flatMap eN1) ++ ((D3.flatMap eN1) ++ []))) : List Ro) from mAr _ (mAl _ h))) (fun _ h => by cases h)))))))))))
         refine ⟨(ST.subR (hS54.se [2, 3]) (R' := (⟨B14, (r_6.flatMap eN0)⟩ :: ⟨B13, (x1.flatMap eN0)⟩ :: ⟨B12, (x.flatMap eN0)⟩ :: ⟨B5, (r_5.Cells.flatMap eN0)⟩ :: ⟨B4, (r_4.Cells.flatMap eN0)⟩ :: ⟨B2, (one_.flatMap eN0)⟩ :: ⟨(aD 0), [vi 1, vi 0, vi 0, vi 0, vi 2]⟩ :: ((D3.flatMap eN1) ++ []))) (subc (mem_at (i := 0) rfl) (subc (mem_at (i := 1) rfl) (subc (mem_at (i := 2) rfl) (subc (mem_at (i := 3) rfl) (subc (mem_at (i := 4) rfl) (subc (mem_at (i := 5) rfl) (subc (mem_at (i := 6) rfl) (suba (fun r_ (h : r_ ∈ ((D3.flatMap eN1) : List Ro)) => mOd (i := 7) (show r_ ∈ ((((([((B14, c14), r_6)] : List (Hd × (List TDyadic))).flatMap eN1) ++ ((D2.flatMap eN1) ++ ((D3.flatMap eN1) ++ [])))) : List Ro) from mAr _ (mAr _ (mAl _ h)))) (fun _ h => by cases h)))))))))), ?_⟩
         refine rA [4] ?_
         refine ra_y 65 (i := 4) (v := .string (bstr x2)) rfl rfl rfl (Y_load1 (B := B8) (i := at_1.toNat * 1) (cs := (words1.flatMap encS)) (v := .string (bstr x2)) k_sc_9 rfl rfl (hS54.cf (i := 0) rfl) (gi_at0 encS_len hx2 rfl)) (ST.subR (hS54.se [2, 3]) (R' := (⟨B14, (r_6.flatMap eN0)⟩ :: ⟨B13, (x1.flatMap eN0)⟩ :: ⟨B12, (x.flatMap eN0)⟩ :: ⟨B5, (r_5.Cells.flatMap eN0)⟩ :: ⟨B4, (r_4.Cells.flatMap eN0)⟩ :: ⟨B2, (one_.flatMap eN0)⟩ :: ⟨(aD 0), [vi 1, vi 0, vi 0, vi 0, vi 2]⟩ :: ((D3.flatMap eN1) ++ []))) (subc (mem_at (i := 0) rfl) (subc (mem_at (i := 1) rfl) (subc (mem_at (i := 2) rfl) (subc (mem_at (i := 3) rfl) (subc (mem_at (i := 4) rfl) (subc (mem_at (i := 5) rfl) (subc (mem_at (i := 6) rfl) (suba (fun r_ (h : r_ ∈ ((D3.flatMap eN1) : List Ro)) => mOd (i := 7) (show r_ ∈ ((((([((B14, c14), r_6)] : List (Hd × (List TDyadic))).flatMap eN1) ++ ((D2.flatMap eN1) ++ ((D3.flatMap eN1) ++ [])))) : List Ro) from mAr _ (mAr _ (mAl _ h)))) (fun _ h => by cases h)))))))))) ?_ ?_
         ·skip
          refine ra_q 9 70 (v := .string (bstr (x2 ++ (List.drop (i2 : Int).toNat (List.take (i64.wrap ((i2 : Int) + 1)).toNat ([72, 83] : List UInt8)))))) rfl rfl rfl (by kernel_rfl) (by kernel_rfl) (by kernel_rfl) (ST.subR (hS54.se [2, 3]) (R' := (⟨B14, (r_6.flatMap eN0)⟩ :: ⟨B13, (x1.flatMap eN0)⟩ :: ⟨B12, (x.flatMap eN0)⟩ :: ⟨B5, (r_5.Cells.flatMap eN0)⟩ :: ⟨B4, (r_4.Cells.flatMap eN0)⟩ :: ⟨B2, (one_.flatMap eN0)⟩ :: ⟨(aD 0), [vi 1, vi 0, vi 0, vi 0, vi 2]⟩ :: ((D3.flatMap eN1) ++ []))) (subc (mem_at (i := 0) rfl) (subc (mem_at (i := 1) rfl) (subc (mem_at (i := 2) rfl) (subc (mem_at (i := 3) rfl) (subc (mem_at (i := 4) rfl) (subc (mem_at (i := 5) rfl) (subc (mem_at (i := 6) rfl) (suba (fun r_ (h : r_ ∈ ((D3.flatMap eN1) : List Ro)) => mOd (i := 7) (show r_ ∈ ((((([((B14, c14), r_6)] : List (Hd × (List TDyadic))).flatMap eN1) ++ ((D2.flatMap eN1) ++ ((D3.flatMap eN1) ++ [])))) : List Ro) from mAr _ (mAr _ (mAl _ h)))) (fun _ h => by cases h)))))))))) (fun w' hw' => (Y_sadd (a := x2) (b := (List.drop (i2 : Int).toNat (List.take (i64.wrap ((i2 : Int) + 1)).toNat ([72, 83] : List UInt8)))) rfl rfl rfl hsa)) ?_
          refine rA [10] ?_
          refine ra_s 71 (i := 10) rfl rfl rfl (Ys_bslice (s := 1) (len := 1) (vs := [(0, .string (bstr (x2 ++ (List.drop (i2 : Int).toNat (List.take (i64.wrap ((i2 : Int) + 1)).toNat ([72, 83] : List UInt8))))))]) (cs := [.string (bstr (x2 ++ (List.drop (i2 : Int).toNat (List.take (i64.wrap ((i2 : Int) + 1)).toNat ([72, 83] : List UInt8)))))]) (zs := [.string (bstr ([] : List UInt8))]) (m := 1) hS54 k_sl_57_9 k_sz_9_1 k_zc_9 rfl (mpc rfl mpn) rfl rfl rfl (by kernel_rfl) (by kernel_rfl) rfl) ?_ ?_
          ·rintro _ w_26 ⟨b6, rfl, hS55⟩
           refine ⟨(ST.subR (hS55.se [2, 3]) (R' := (⟨B14, (r_6.flatMap eN0)⟩ :: ⟨B13, (x1.flatMap eN0)⟩ :: ⟨B12, (x.flatMap eN0)⟩ :: ⟨B5, (r_5.Cells.flatMap eN0)⟩ :: ⟨B4, (r_4.Cells.flatMap eN0)⟩ :: ⟨B2, (one_.flatMap eN0)⟩ :: ⟨(aD 0), [vi 1, vi 0, vi 0, vi 0, vi 2]⟩ :: ((D3.flatMap eN1) ++ []))) (subc (mem_at (i := 0) rfl) (subc (mem_at (i := 1) rfl) (subc (mem_at (i := 2) rfl) (subc (mem_at (i := 3) rfl) (subc (mem_at (i := 4) rfl) (subc (mem_at (i := 5) rfl) (subc (mem_at (i := 6) rfl) (suba (fun r_ (h : r_ ∈ ((D3.flatMap eN1) : List Ro)) => mOd (i := 7) (show r_ ∈ ((((([((B14, c14), r_6)] : List (Hd × (List TDyadic))).flatMap eN1) ++ ((D2.flatMap eN1) ++ ((D3.flatMap eN1) ++ [])))) : List Ro) from mAr _ (mAr _ (mAl _ h)))) (fun _ h => by cases h)))))))))), ?_⟩
           refine rA [11] ?_
           refine ra_s 72 (i := 11) rfl rfl rfl (Ys_append (s := 1) (by' := 16) (i := 0) (nn := words1.length) (c := c8) (k := 1) (len := (words1 ++ [(x2 ++ (List.drop (i2 : Int).toNat (List.take (i64.wrap ((i2 : Int) + 1)).toNat ([72, 83] : List UInt8))))]).length) (B := B8) (xs := ([(x2 ++ (List.drop (i2 : Int).toNat (List.take (i64.wrap ((i2 : Int) + 1)).toNat ([72, 83] : List UInt8))))].flatMap encS)) (cs' := ((words1 ++ [(x2 ++ (List.drop (i2 : Int).toNat (List.take (i64.wrap ((i2 : Int) + 1)).toNat ([72, 83] : List UInt8))))]).flatMap encS)) hS55 k_sl_57_9 k_sz_9_1 k_by_9_16 k_zero_9 rfl (by decide) rfl rfl rfl rfl (fm_lenn (l := words1) encS_len rfl) rfl (hS55.cf (i := 5) rfl) (fm_lenn (l := [(x2 ++ (List.drop (i2 : Int).toNat (List.take (i64.wrap ((i2 : Int) + 1)).toNat ([72, 83] : List UInt8))))]) encS_len rfl) (fm_one' (enc := encS) encS_one [(x2 ++ (List.drop (i2 : Int).toNat (List.take (i64.wrap ((i2 : Int) + 1)).toNat ([72, 83] : List UInt8))))]) (by have := hap1; omega) (by have := hap1; simp only [maxLen]; omega) (fm_app _ _) (app_len (l := words1) (l' := [(x2 ++ (List.drop (i2 : Int).toNat (List.take (i64.wrap ((i2 : Int) + 1)).toNat ([72, 83] : List UInt8))))]) rfl rfl)) ?_ ?_
           ·rintro _ w_27 ⟨B15, c15, rfl, hS56⟩
            refine ⟨(ST.subR (hS56.se [2, 3]) (R' := (⟨B14, (r_6.flatMap eN0)⟩ :: ⟨B13, (x1.flatMap eN0)⟩ :: ⟨B12, (x.flatMap eN0)⟩ :: ⟨B5, (r_5.Cells.flatMap eN0)⟩ :: ⟨B4, (r_4.Cells.flatMap eN0)⟩ :: ⟨B2, (one_.flatMap eN0)⟩ :: ⟨(aD 0), [vi 1, vi 0, vi 0, vi 0, vi 2]⟩ :: ((D3.flatMap eN1) ++ []))) (subc (mem_at (i := 0) rfl) (subc (mem_at (i := 1) rfl) (subc (mem_at (i := 2) rfl) (subc (mem_at (i := 3) rfl) (subc (mem_at (i := 4) rfl) (subc (mem_at (i := 5) rfl) (subc (mem_at (i := 6) rfl) (suba (fun r_ (h : r_ ∈ ((D3.flatMap eN1) : List Ro)) => mOd (i := 7) (show r_ ∈ ((((([((B14, c14), r_6)] : List (Hd × (List TDyadic))).flatMap eN1) ++ ((D2.flatMap eN1) ++ ((D3.flatMap eN1) ++ [])))) : List Ro) from mAr _ (mAr _ (mAl _ h)))) (fun _ h => by cases h)))))))))), ?_⟩
            refine rA [15] ?_
            refine ra_s 76 (i := 15) rfl rfl rfl (Ys_append (s := 1) (by' := 24) (i := 1) (nn := list1.length) (c := c9) (k := 1) (len := (list1 ++ ([r_6] : List (List TDyadic))).length) (B := B9) (xs := (([((B14, c14), r_6)] : List (Hd × (List TDyadic))).flatMap eN3)) (cs' := ((D2 ++ ([((B14, c14), r_6)] : List (Hd × (List TDyadic)))).flatMap eN3)) hS56 k_sl_58_28 k_sz_28_1 k_by_28_24 k_zero_28 rfl (by decide) rfl rfl rfl rfl (fm_lenn (l := D2) encD_SDyadic_len (dl_len hD2)) rfl (hS56.cf (i := 4) rfl) (fm_lenn (l := ([((B14, c14), r_6)] : List (Hd × (List TDyadic)))) encD_SDyadic_len rfl) (fm_one' (enc := eN3) encD_SDyadic_one ([((B14, c14), r_6)] : List (Hd × (List TDyadic)))) (by have := hap2; omega) (by have := hap2; simp only [maxLen]; omega) (fm_app _ _) (dl_sum (dl_len hD2) rfl (dl_app hD2 (show List.map Prod.snd ([((B14, c14), r_6)] : List (Hd × (List TDyadic))) = ([r_6] : List (List TDyadic)) from rfl)))) ?_ ?_
            ·rintro _ w_28 ⟨B16, c16, rfl, hS57⟩
             have ho24 : Org w0 [] [⟨(aD 0), [vi 1, vi 0, vi 0, vi 0, vi 2]⟩] ((D2 ++ ([((B14, c14), r_6)] : List (Hd × (List TDyadic)))).flatMap eN1) := (forg_app ho8 ho23)
             have hS58 : ST w0 [] _ [⟨B15, 9, ((words1 ++ [(x2 ++ (List.drop (i2 : Int).toNat (List.take (i64.wrap ((i2 : Int) + 1)).toNat ([72, 83] : List UInt8))))]).flatMap encS), c15 * 1⟩, ⟨B16, 28, ((D2 ++ ([((B14, c14), r_6)] : List (Hd × (List TDyadic)))).flatMap eN3), c16 * 1⟩, ⟨aD b4, 28, (D3.flatMap eN3), 2 * 1⟩, ⟨aD b5, 28, [.slice B14 r_6.length c14], 1⟩, ⟨aD b7, 28, (([((B14, c14), r_6)] : List (Hd × (List TDyadic))).flatMap eN3), 1 * 1⟩, ⟨aD b6, 9, ([(x2 ++ (List.drop (i2 : Int).toNat (List.take (i64.wrap ((i2 : Int) + 1)).toNat ([72, 83] : List UInt8))))].flatMap encS), 1 * 1⟩] (⟨B14, (r_6.flatMap eN0)⟩ :: ⟨B13, (x1.flatMap eN0)⟩ :: ⟨B12, (x.flatMap eN0)⟩ :: ⟨B5, (r_5.Cells.flatMap eN0)⟩ :: ⟨B4, (r_4.Cells.flatMap eN0)⟩ :: ⟨B2, (one_.flatMap eN0)⟩ :: ⟨(aD 0), [vi 1, vi 0, vi 0, vi 0, vi 2]⟩ :: (((D2 ++ ([((B14, c14), r_6)] : List (Hd × (List TDyadic)))).flatMap eN1) ++ ((([((B14, c14), r_6)] : List (Hd × (List TDyadic))).flatMap eN1) ++ ((D3.flatMap eN1) ++ [])))) := ST.subR hS57 (subc (mem_at (i := 0) rfl) (subc (mem_at (i := 1) rfl) (subc (mem_at (i := 2) rfl) (subc (mem_at (i := 3) rfl) (subc (mem_at (i := 4) rfl) (subc (mem_at (i := 5) rfl) (subc (mem_at (i := 6) rfl) (suba (fsub_app (fun r_ (h : r_ ∈ ((D2.flatMap eN1) : List Ro)) => mOd (i := 7) (show r_ ∈ ((((([((B14, c14), r_6)] : List (Hd × (List TDyadic))).flatMap eN1) ++ ((D2.flatMap eN1) ++ ((D3.flatMap eN1) ++ [])))) : List Ro) from mAr _ (mAl _ h))) (fun r_ (h : r_ ∈ ((([((B14, c14), r_6)] : List (Hd × (List TDyadic))).flatMap eN1) : List Ro)) => mOd (i := 7) (show r_ ∈ ((((([((B14, c14), r_6)] : List (Hd × (List TDyadic))).flatMap eN1) ++ ((D2.flatMap eN1) ++ ((D3.flatMap eN1) ++ [])))) : List Ro) from mAl _ h))) (suba (fun r_ (h : r_ ∈ ((([((B14, c14), r_6)] : List (Hd × (List TDyadic))).flatMap eN1) : List Ro)) => mOd (i := 7) (show r_ ∈ ((((([((B14, c14), r_6)] : List (Hd × (List TDyadic))).flatMap eN1) ++ ((D2.flatMap eN1) ++ ((D3.flatMap eN1) ++ [])))) : List Ro) from mAl _ h)) (suba (fun r_ (h : r_ ∈ ((D3.flatMap eN1) : List Ro)) => mOd (i := 7) (show r_ ∈ ((((([((B14, c14), r_6)] : List (Hd × (List TDyadic))).flatMap eN1) ++ ((D2.flatMap eN1) ++ ((D3.flatMap eN1) ++ [])))) : List Ro) from mAr _ (mAr _ (mAl _ h)))) (fun _ h => by cases h)))))))))))
             refine ⟨(ST.subR (hS58.se [2, 3]) (R' := (⟨B14, (r_6.flatMap eN0)⟩ :: ⟨B13, (x1.flatMap eN0)⟩ :: ⟨B12, (x.flatMap eN0)⟩ :: ⟨B5, (r_5.Cells.flatMap eN0)⟩ :: ⟨B4, (r_4.Cells.flatMap eN0)⟩ :: ⟨B2, (one_.flatMap eN0)⟩ :: ⟨(aD 0), [vi 1, vi 0, vi 0, vi 0, vi 2]⟩ :: ((D3.flatMap eN1) ++ []))) (subc (mem_at (i := 0) rfl) (subc (mem_at (i := 1) rfl) (subc (mem_at (i := 2) rfl) (subc (mem_at (i := 3) rfl) (subc (mem_at (i := 4) rfl) (subc (mem_at (i := 5) rfl) (subc (mem_at (i := 6) rfl) (suba (fun r_ (h : r_ ∈ ((D3.flatMap eN1) : List Ro)) => mOd (i := 7) (show r_ ∈ (((((D2 ++ ([((B14, c14), r_6)] : List (Hd × (List TDyadic)))).flatMap eN1) ++ ((([((B14, c14), r_6)] : List (Hd × (List TDyadic))).flatMap eN1) ++ ((D3.flatMap eN1) ++ [])))) : List Ro) from mAr _ (mAr _ (mAl _ h)))) (fun _ h => by cases h)))))))))), ?_⟩
             refine ra_q 16 4 (v := .slice B15 ((words1 ++ [(x2 ++ (List.drop (i2 : Int).toNat (List.take (i64.wrap ((i2 : Int) + 1)).toNat ([72, 83] : List UInt8))))]).length) c15) rfl rfl rfl (by kernel_rfl) (by kernel_rfl) (by kernel_rfl) (ST.subR (hS58.se [2, 3]) (R' := (⟨B14, (r_6.flatMap eN0)⟩ :: ⟨B13, (x1.flatMap eN0)⟩ :: ⟨B12, (x.flatMap eN0)⟩ :: ⟨B5, (r_5.Cells.flatMap eN0)⟩ :: ⟨B4, (r_4.Cells.flatMap eN0)⟩ :: ⟨B2, (one_.flatMap eN0)⟩ :: ⟨(aD 0), [vi 1, vi 0, vi 0, vi 0, vi 2]⟩ :: ((D3.flatMap eN1) ++ []))) (subc (mem_at (i := 0) rfl) (subc (mem_at (i := 1) rfl) (subc (mem_at (i := 2) rfl) (subc (mem_at (i := 3) rfl) (subc (mem_at (i := 4) rfl) (subc (mem_at (i := 5) rfl) (subc (mem_at (i := 6) rfl) (suba (fun r_ (h : r_ ∈ ((D3.flatMap eN1) : List Ro)) => mOd (i := 7) (show r_ ∈ (((((D2 ++ ([((B14, c14), r_6)] : List (Hd × (List TDyadic)))).flatMap eN1) ++ ((([((B14, c14), r_6)] : List (Hd × (List TDyadic))).flatMap eN1) ++ ((D3.flatMap eN1) ++ [])))) : List Ro) from mAr _ (mAr _ (mAl _ h)))) (fun _ h => by cases h)))))))))) (fun w' hw' => (Y_assign (v := .slice B15 ((words1 ++ [(x2 ++ (List.drop (i2 : Int).toNat (List.take (i64.wrap ((i2 : Int) + 1)).toNat ([72, 83] : List UInt8))))]).length) c15) rfl rfl)) ?_
             refine rq 17 5 (v := .slice B16 ((list1 ++ ([r_6] : List (List TDyadic))).length) c16) rfl (ST.subR (hS58.se [2, 3]) (R' := (⟨B14, (r_6.flatMap eN0)⟩ :: ⟨B13, (x1.flatMap eN0)⟩ :: ⟨B12, (x.flatMap eN0)⟩ :: ⟨B5, (r_5.Cells.flatMap eN0)⟩ :: ⟨B4, (r_4.Cells.flatMap eN0)⟩ :: ⟨B2, (one_.flatMap eN0)⟩ :: ⟨(aD 0), [vi 1, vi 0, vi 0, vi 0, vi 2]⟩ :: ((D3.flatMap eN1) ++ []))) (subc (mem_at (i := 0) rfl) (subc (mem_at (i := 1) rfl) (subc (mem_at (i := 2) rfl) (subc (mem_at (i := 3) rfl) (subc (mem_at (i := 4) rfl) (subc (mem_at (i := 5) rfl) (subc (mem_at (i := 6) rfl) (suba (fun r_ (h : r_ ∈ ((D3.flatMap eN1) : List Ro)) => mOd (i := 7) (show r_ ∈ (((((D2 ++ ([((B14, c14), r_6)] : List (Hd × (List TDyadic)))).flatMap eN1) ++ ((([((B14, c14), r_6)] : List (Hd × (List TDyadic))).flatMap eN1) ++ ((D3.flatMap eN1) ++ [])))) : List Ro) from mAr _ (mAr _ (mAl _ h)))) (fun _ h => by cases h)))))))))) (fun w' hw' => (Y_assign (v := .slice B16 ((list1 ++ ([r_6] : List (List TDyadic))).length) c16) rfl rfl)) ?_
             refine ra_done (by kernel_rfl) ?_
             have hS59 : ST w0 [] _ [⟨B15, 9, ((words1 ++ [(x2 ++ (List.drop (i2 : Int).toNat (List.take (i64.wrap ((i2 : Int) + 1)).toNat ([72, 83] : List UInt8))))]).flatMap encS), c15 * 1⟩, ⟨B16, 28, ((D2 ++ ([((B14, c14), r_6)] : List (Hd × (List TDyadic)))).flatMap eN3), c16 * 1⟩, ⟨aD b4, 28, (D3.flatMap eN3), 2 * 1⟩, ⟨aD b5, 28, [.slice B14 r_6.length c14], 1⟩, ⟨aD b7, 28, (([((B14, c14), r_6)] : List (Hd × (List TDyadic))).flatMap eN3), 1 * 1⟩, ⟨aD b6, 9, ([(x2 ++ (List.drop (i2 : Int).toNat (List.take (i64.wrap ((i2 : Int) + 1)).toNat ([72, 83] : List UInt8))))].flatMap encS), 1 * 1⟩] (⟨B14, (r_6.flatMap eN0)⟩ :: ⟨B13, (x1.flatMap eN0)⟩ :: ⟨B12, (x.flatMap eN0)⟩ :: ⟨B5, (r_5.Cells.flatMap eN0)⟩ :: ⟨B4, (r_4.Cells.flatMap eN0)⟩ :: ⟨B2, (one_.flatMap eN0)⟩ :: ⟨(aD 0), [vi 1, vi 0, vi 0, vi 0, vi 2]⟩ :: (((D2 ++ ([((B14, c14), r_6)] : List (Hd × (List TDyadic)))).flatMap eN1) ++ ((D3.flatMap eN1) ++ []))) := ST.subR hS58 (subc (mem_at (i := 0) rfl) (subc (mem_at (i := 1) rfl) (subc (mem_at (i := 2) rfl) (subc (mem_at (i := 3) rfl) (subc (mem_at (i := 4) rfl) (subc (mem_at (i := 5) rfl) (subc (mem_at (i := 6) rfl) (suba (fun r_ (h : r_ ∈ (((D2 ++ ([((B14, c14), r_6)] : List (Hd × (List TDyadic)))).flatMap eN1) : List Ro)) => mOd (i := 7) (show r_ ∈ (((((D2 ++ ([((B14, c14), r_6)] : List (Hd × (List TDyadic)))).flatMap eN1) ++ ((([((B14, c14), r_6)] : List (Hd × (List TDyadic))).flatMap eN1) ++ ((D3.flatMap eN1) ++ [])))) : List Ro) from mAl _ h)) (suba (fun r_ (h : r_ ∈ ((D3.flatMap eN1) : List Ro)) => mOd (i := 7) (show r_ ∈ (((((D2 ++ ([((B14, c14), r_6)] : List (Hd × (List TDyadic)))).flatMap eN1) ++ ((([((B14, c14), r_6)] : List (Hd × (List TDyadic))).flatMap eN1) ++ ((D3.flatMap eN1) ++ [])))) : List Ro) from mAr _ (mAr _ (mAl _ h)))) (fun _ h => by cases h))))))))))
             exact ⟨B15, c15, B16, c16, (D2 ++ ([((B14, c14), r_6)] : List (Hd × (List TDyadic)))), (FF.cons rfl (FF.cons rfl (FF.cons (hf2.get 6 2 rfl) (FF.cons (hf2.get 7 3 rfl) (FF.cons (hf2.get 8 4 rfl) (FF.cons (hf2.get 41 5 rfl) (FF.cons (hf2.get 42 6 rfl) (FF.cons (hf2.get 43 7 rfl) FF.nil)))))))), (dl_app hD2 (show List.map Prod.snd ([((B14, c14), r_6)] : List (Hd × (List TDyadic))) = ([r_6] : List (List TDyadic)) from rfl)), ho24, (hS59.sel [0, 1, 2] rfl rfl)⟩
            exact allR_nil
           exact allR_nil
          exact allR_nil
         exact allR_nil
        exact allR_nil
       refine ra_s 75 (i := 14) rfl rfl rfl (Ys_bslice (s := 1) (len := 1) (vs := [(0, .slice B14 r_6.length c14)]) (cs := [.slice B14 r_6.length c14]) (zs := [.slice none 0 0]) (m := 1) hS32 k_sl_58_28 k_sz_28_1 k_zc_28 rfl (mpc rfl mpn) rfl rfl rfl (by kernel_rfl) (by kernel_rfl) rfl) ?_ ?_
       ·rintro _ w_29 ⟨b7, rfl, hS60⟩
        have hm9 : ∀ r ∈ (([((B14, c14), r_6)] : List (Hd × (List TDyadic))).flatMap eN1), r ∈ ((⟨B14, (r_6.flatMap eN0)⟩ :: ⟨B13, (x1.flatMap eN0)⟩ :: ⟨B12, (x.flatMap eN0)⟩ :: ⟨B5, (r_5.Cells.flatMap eN0)⟩ :: ⟨B4, (r_4.Cells.flatMap eN0)⟩ :: ⟨B2, (one_.flatMap eN0)⟩ :: ⟨(aD 0), [vi 1, vi 0, vi 0, vi 0, vi 2]⟩ :: ((D2.flatMap eN1) ++ ((D3.flatMap eN1) ++ []))) : List Ro) := (fsub_cons (subc (mem_at (i := 0) rfl) (fun _ h => by cases h)) fsub_nil)
        have ho25 : Org w0 [] [⟨(aD 0), [vi 1, vi 0, vi 0, vi 0, vi 2]⟩] (([((B14, c14), r_6)] : List (Hd × (List TDyadic))).flatMap eN1) := (forg_cons (org_cons ho15 org_nil) forg_nil)
        have hS61 : ST w0 [] _ [⟨B8, 9, (words1.flatMap encS), c8 * 1⟩, ⟨B9, 28, (D2.flatMap eN3), c9 * 1⟩, ⟨aD b4, 28, (D3.flatMap eN3), 2 * 1⟩, ⟨aD b5, 28, [.slice B14 r_6.length c14], 1⟩, ⟨aD b7, 28, (([((B14, c14), r_6)] : List (Hd × (List TDyadic))).flatMap eN3), 1 * 1⟩] (⟨B14, (r_6.flatMap eN0)⟩ :: ⟨B13, (x1.flatMap eN0)⟩ :: ⟨B12, (x.flatMap eN0)⟩ :: ⟨B5, (r_5.Cells.flatMap eN0)⟩ :: ⟨B4, (r_4.Cells.flatMap eN0)⟩ :: ⟨B2, (one_.flatMap eN0)⟩ :: ⟨(aD 0), [vi 1, vi 0, vi 0, vi 0, vi 2]⟩ :: ((([((B14, c14), r_6)] : List (Hd × (List TDyadic))).flatMap eN1) ++ ((D2.flatMap eN1) ++ ((D3.flatMap eN1) ++ [])))) := ST.subR hS60 (subc (mem_at (i := 0) rfl) (subc (mem_at (i := 1) rfl) (subc (mem_at (i := 2) rfl) (subc (mem_at (i := 3) rfl) (subc (mem_at (i := 4) rfl) (subc (mem_at (i := 5) rfl) (subc (mem_at (i := 6) rfl) (suba hm9 (suba (fun r_ (h : r_ ∈ ((D2.flatMap eN1) : List Ro)) => mOd (i := 7) (show r_ ∈ ((((D2.flatMap eN1) ++ ((D3.flatMap eN1) ++ []))) : List Ro) from mAl _ h)) (suba (fun r_ (h : r_ ∈ ((D3.flatMap eN1) : List Ro)) => mOd (i := 7) (show r_ ∈ ((((D2.flatMap eN1) ++ ((D3.flatMap eN1) ++ []))) : List Ro) from mAr _ (mAl _ h))) (fun _ h => by cases h)))))))))))
        refine ⟨(ST.subR (hS61.se [2, 3]) (R' := (⟨B14, (r_6.flatMap eN0)⟩ :: ⟨B13, (x1.flatMap eN0)⟩ :: ⟨B12, (x.flatMap eN0)⟩ :: ⟨B5, (r_5.Cells.flatMap eN0)⟩ :: ⟨B4, (r_4.Cells.flatMap eN0)⟩ :: ⟨B2, (one_.flatMap eN0)⟩ :: ⟨(aD 0), [vi 1, vi 0, vi 0, vi 0, vi 2]⟩ :: ((D3.flatMap eN1) ++ []))) (subc (mem_at (i := 0) rfl) (subc (mem_at (i := 1) rfl) (subc (mem_at (i := 2) rfl) (subc (mem_at (i := 3) rfl) (subc (mem_at (i := 4) rfl) (subc (mem_at (i := 5) rfl) (subc (mem_at (i := 6) rfl) (suba (fun r_ (h : r_ ∈ ((D3.flatMap eN1) : List Ro)) => mOd (i := 7) (show r_ ∈ ((((([((B14, c14), r_6)] : List (Hd × (List TDyadic))).flatMap eN1) ++ ((D2.flatMap eN1) ++ ((D3.flatMap eN1) ++ [])))) : List Ro) from mAr _ (mAr _ (mAl _ h)))) (fun _ h => by cases h)))))))))), ?_⟩
        refine rA [3] ?_
        refine ra_y 64 (i := 3) (v := pt B8 (at_1.toNat * 1)) rfl rfl rfl (Y_index (B := B8) (m := words1.length) (c := c8) (k := .i64) (i := at_1) k_sl_57_9 k_sz_9_1 rfl rfl rfl (gi_isSome encS_len rfl (hS61.cf (i := 0) rfl) hx2) (getI_nn hx2) (getI_ltI hx2 rfl)) (ST.subR (hS61.se [2, 3]) (R' := (⟨B14, (r_6.flatMap eN0)⟩ :: ⟨B13, (x1.flatMap eN0)⟩ :: ⟨B12, (x.flatMap eN0)⟩ :: ⟨B5, (r_5.Cells.flatMap eN0)⟩ :: ⟨B4, (r_4.Cells.flatMap eN0)⟩ :: ⟨B2, (one_.flatMap eN0)⟩ :: ⟨(aD 0), [vi 1, vi 0, vi 0, vi 0, vi 2]⟩ :: ((D3.flatMap eN1) ++ []))) (subc (mem_at (i := 0) rfl) (subc (mem_at (i := 1) rfl) (subc (mem_at (i := 2) rfl) (subc (mem_at (i := 3) rfl) (subc (mem_at (i := 4) rfl) (subc (mem_at (i := 5) rfl) (subc (mem_at (i := 6) rfl) (suba (fun r_ (h : r_ ∈ ((D3.flatMap eN1) : List Ro)) => mOd (i := 7) (show r_ ∈ ((((([((B14, c14), r_6)] : List (Hd × (List TDyadic))).flatMap eN1) ++ ((D2.flatMap eN1) ++ ((D3.flatMap eN1) ++ [])))) : List Ro) from mAr _ (mAr _ (mAl _ h)))) (fun _ h => by cases h)))))))))) ?_ ?_
        ·skip
         refine rA [4] ?_
         refine ra_y 65 (i := 4) (v := .string (bstr x2)) rfl rfl rfl (Y_load1 (B := B8) (i := at_1.toNat * 1) (cs := (words1.flatMap encS)) (v := .string (bstr x2)) k_sc_9 rfl rfl (hS61.cf (i := 0) rfl) (gi_at0 encS_len hx2 rfl)) (ST.subR (hS61.se [2, 3]) (R' := (⟨B14, (r_6.flatMap eN0)⟩ :: ⟨B13, (x1.flatMap eN0)⟩ :: ⟨B12, (x.flatMap eN0)⟩ :: ⟨B5, (r_5.Cells.flatMap eN0)⟩ :: ⟨B4, (r_4.Cells.flatMap eN0)⟩ :: ⟨B2, (one_.flatMap eN0)⟩ :: ⟨(aD 0), [vi 1, vi 0, vi 0, vi 0, vi 2]⟩ :: ((D3.flatMap eN1) ++ []))) (subc (mem_at (i := 0) rfl) (subc (mem_at (i := 1) rfl) (subc (mem_at (i := 2) rfl) (subc (mem_at (i := 3) rfl) (subc (mem_at (i := 4) rfl) (subc (mem_at (i := 5) rfl) (subc (mem_at (i := 6) rfl) (suba (fun r_ (h : r_ ∈ ((D3.flatMap eN1) : List Ro)) => mOd (i := 7) (show r_ ∈ ((((([((B14, c14), r_6)] : List (Hd × (List TDyadic))).flatMap eN1) ++ ((D2.flatMap eN1) ++ ((D3.flatMap eN1) ++ [])))) : List Ro) from mAr _ (mAr _ (mAl _ h)))) (fun _ h => by cases h)))))))))) ?_ ?_
         ·skip
          refine ra_q 9 70 (v := .string (bstr (x2 ++ (List.drop (i2 : Int).toNat (List.take (i64.wrap ((i2 : Int) + 1)).toNat ([72, 83] : List UInt8)))))) rfl rfl rfl (by kernel_rfl) (by kernel_rfl) (by kernel_rfl) (ST.subR (hS61.se [2, 3]) (R' := (⟨B14, (r_6.flatMap eN0)⟩ :: ⟨B13, (x1.flatMap eN0)⟩ :: ⟨B12, (x.flatMap eN0)⟩ :: ⟨B5, (r_5.Cells.flatMap eN0)⟩ :: ⟨B4, (r_4.Cells.flatMap eN0)⟩ :: ⟨B2, (one_.flatMap eN0)⟩ :: ⟨(aD 0), [vi 1, vi 0, vi 0, vi 0, vi 2]⟩ :: ((D3.flatMap eN1) ++ []))) (subc (mem_at (i := 0) rfl) (subc (mem_at (i := 1) rfl) (subc (mem_at (i := 2) rfl) (subc (mem_at (i := 3) rfl) (subc (mem_at (i := 4) rfl) (subc (mem_at (i := 5) rfl) (subc (mem_at (i := 6) rfl) (suba (fun r_ (h : r_ ∈ ((D3.flatMap eN1) : List Ro)) => mOd (i := 7) (show r_ ∈ ((((([((B14, c14), r_6)] : List (Hd × (List TDyadic))).flatMap eN1) ++ ((D2.flatMap eN1) ++ ((D3.flatMap eN1) ++ [])))) : List Ro) from mAr _ (mAr _ (mAl _ h)))) (fun _ h => by cases h)))))))))) (fun w' hw' => (Y_sadd (a := x2) (b := (List.drop (i2 : Int).toNat (List.take (i64.wrap ((i2 : Int) + 1)).toNat ([72, 83] : List UInt8)))) rfl rfl rfl hsa)) ?_
          refine rA [10] ?_
          refine ra_s 71 (i := 10) rfl rfl rfl (Ys_bslice (s := 1) (len := 1) (vs := [(0, .string (bstr (x2 ++ (List.drop (i2 : Int).toNat (List.take (i64.wrap ((i2 : Int) + 1)).toNat ([72, 83] : List UInt8))))))]) (cs := [.string (bstr (x2 ++ (List.drop (i2 : Int).toNat (List.take (i64.wrap ((i2 : Int) + 1)).toNat ([72, 83] : List UInt8)))))]) (zs := [.string (bstr ([] : List UInt8))]) (m := 1) hS61 k_sl_57_9 k_sz_9_1 k_zc_9 rfl (mpc rfl mpn) rfl rfl rfl (by kernel_rfl) (by kernel_rfl) rfl) ?_ ?_
          ·rintro _ w_30 ⟨b6, rfl, hS62⟩
           refine ⟨(ST.subR (hS62.se [2, 3]) (R' := (⟨B14, (r_6.flatMap eN0)⟩ :: ⟨B13, (x1.flatMap eN0)⟩ :: ⟨B12, (x.flatMap eN0)⟩ :: ⟨B5, (r_5.Cells.flatMap eN0)⟩ :: ⟨B4, (r_4.Cells.flatMap eN0)⟩ :: ⟨B2, (one_.flatMap eN0)⟩ :: ⟨(aD 0), [vi 1, vi 0, vi 0, vi 0, vi 2]⟩ :: ((D3.flatMap eN1) ++ []))) (subc (mem_at (i := 0) rfl) (subc (mem_at (i := 1) rfl) (subc (mem_at (i := 2) rfl) (subc (mem_at (i := 3) rfl) (subc (mem_at (i := 4) rfl) (subc (mem_at (i := 5) rfl) (subc (mem_at (i := 6) rfl) (suba (fun r_ (h : r_ ∈ ((D3.flatMap eN1) : List Ro)) => mOd (i := 7) (show r_ ∈ ((((([((B14, c14), r_6)] : List (Hd × (List TDyadic))).flatMap eN1) ++ ((D2.flatMap eN1) ++ ((D3.flatMap eN1) ++ [])))) : List Ro) from mAr _ (mAr _ (mAl _ h)))) (fun _ h => by cases h)))))))))), ?_⟩
           refine rA [11] ?_
           refine ra_s 72 (i := 11) rfl rfl rfl (Ys_append (s := 1) (by' := 16) (i := 0) (nn := words1.length) (c := c8) (k := 1) (len := (words1 ++ [(x2 ++ (List.drop (i2 : Int).toNat (List.take (i64.wrap ((i2 : Int) + 1)).toNat ([72, 83] : List UInt8))))]).length) (B := B8) (xs := ([(x2 ++ (List.drop (i2 : Int).toNat (List.take (i64.wrap ((i2 : Int) + 1)).toNat ([72, 83] : List UInt8))))].flatMap encS)) (cs' := ((words1 ++ [(x2 ++ (List.drop (i2 : Int).toNat (List.take (i64.wrap ((i2 : Int) + 1)).toNat ([72, 83] : List UInt8))))]).flatMap encS)) hS62 k_sl_57_9 k_sz_9_1 k_by_9_16 k_zero_9 rfl (by decide) rfl rfl rfl rfl (fm_lenn (l := words1) encS_len rfl) rfl (hS62.cf (i := 5) rfl) (fm_lenn (l := [(x2 ++ (List.drop (i2 : Int).toNat (List.take (i64.wrap ((i2 : Int) + 1)).toNat ([72, 83] : List UInt8))))]) encS_len rfl) (fm_one' (enc := encS) encS_one [(x2 ++ (List.drop (i2 : Int).toNat (List.take (i64.wrap ((i2 : Int) + 1)).toNat ([72, 83] : List UInt8))))]) (by have := hap1; omega) (by have := hap1; simp only [maxLen]; omega) (fm_app _ _) (app_len (l := words1) (l' := [(x2 ++ (List.drop (i2 : Int).toNat (List.take (i64.wrap ((i2 : Int) + 1)).toNat ([72, 83] : List UInt8))))]) rfl rfl)) ?_ ?_
           ·rintro _ w_31 ⟨B15, c15, rfl, hS63⟩
            refine ⟨(ST.subR (hS63.se [2, 3]) (R' := (⟨B14, (r_6.flatMap eN0)⟩ :: ⟨B13, (x1.flatMap eN0)⟩ :: ⟨B12, (x.flatMap eN0)⟩ :: ⟨B5, (r_5.Cells.flatMap eN0)⟩ :: ⟨B4, (r_4.Cells.flatMap eN0)⟩ :: ⟨B2, (one_.flatMap eN0)⟩ :: ⟨(aD 0), [vi 1, vi 0, vi 0, vi 0, vi 2]⟩ :: ((D3.flatMap eN1) ++ []))) (subc (mem_at (i := 0) rfl) (subc (mem_at (i := 1) rfl) (subc (mem_at (i := 2) rfl) (subc (mem_at (i := 3) rfl) (subc (mem_at (i := 4) rfl) (subc (mem_at (i := 5) rfl) (subc (mem_at (i := 6) rfl) (suba (fun r_ (h : r_ ∈ ((D3.flatMap eN1) : List Ro)) => mOd (i := 7) (show r_ ∈ ((((([((B14, c14), r_6)] : List (Hd × (List TDyadic))).flatMap eN1) ++ ((D2.flatMap eN1) ++ ((D3.flatMap eN1) ++ [])))) : List Ro) from mAr _ (mAr _ (mAl _ h)))) (fun _ h => by cases h)))))))))), ?_⟩
            refine rA [15] ?_
            refine ra_s 76 (i := 15) rfl rfl rfl (Ys_append (s := 1) (by' := 24) (i := 1) (nn := list1.length) (c := c9) (k := 1) (len := (list1 ++ ([r_6] : List (List TDyadic))).length) (B := B9) (xs := (([((B14, c14), r_6)] : List (Hd × (List TDyadic))).flatMap eN3)) (cs' := ((D2 ++ ([((B14, c14), r_6)] : List (Hd × (List TDyadic)))).flatMap eN3)) hS63 k_sl_58_28 k_sz_28_1 k_by_28_24 k_zero_28 rfl (by decide) rfl rfl rfl rfl (fm_lenn (l := D2) encD_SDyadic_len (dl_len hD2)) rfl (hS63.cf (i := 4) rfl) (fm_lenn (l := ([((B14, c14), r_6)] : List (Hd × (List TDyadic)))) encD_SDyadic_len rfl) (fm_one' (enc := eN3) encD_SDyadic_one ([((B14, c14), r_6)] : List (Hd × (List TDyadic)))) (by have := hap2; omega) (by have := hap2; simp only [maxLen]; omega) (fm_app _ _) (dl_sum (dl_len hD2) rfl (dl_app hD2 (show List.map Prod.snd ([((B14, c14), r_6)] : List (Hd × (List TDyadic))) = ([r_6] : List (List TDyadic)) from rfl)))) ?_ ?_
            ·rintro _ w_32 ⟨B16, c16, rfl, hS64⟩
             have ho26 : Org w0 [] [⟨(aD 0), [vi 1, vi 0, vi 0, vi 0, vi 2]⟩] ((D2 ++ ([((B14, c14), r_6)] : List (Hd × (List TDyadic)))).flatMap eN1) := (forg_app ho8 ho25)
             have hS65 : ST w0 [] _ [⟨B15, 9, ((words1 ++ [(x2 ++ (List.drop (i2 : Int).toNat (List.take (i64.wrap ((i2 : Int) + 1)).toNat ([72, 83] : List UInt8))))]).flatMap encS), c15 * 1⟩, ⟨B16, 28, ((D2 ++ ([((B14, c14), r_6)] : List (Hd × (List TDyadic)))).flatMap eN3), c16 * 1⟩, ⟨aD b4, 28, (D3.flatMap eN3), 2 * 1⟩, ⟨aD b5, 28, [.slice B14 r_6.length c14], 1⟩, ⟨aD b7, 28, (([((B14, c14), r_6)] : List (Hd × (List TDyadic))).flatMap eN3), 1 * 1⟩, ⟨aD b6, 9, ([(x2 ++ (List.drop (i2 : Int).toNat (List.take (i64.wrap ((i2 : Int) + 1)).toNat ([72, 83] : List UInt8))))].flatMap encS), 1 * 1⟩] (⟨B14, (r_6.flatMap eN0)⟩ :: ⟨B13, (x1.flatMap eN0)⟩ :: ⟨B12, (x.flatMap eN0)⟩ :: ⟨B5, (r_5.Cells.flatMap eN0)⟩ :: ⟨B4, (r_4.Cells.flatMap eN0)⟩ :: ⟨B2, (one_.flatMap eN0)⟩ :: ⟨(aD 0), [vi 1, vi 0, vi 0, vi 0, vi 2]⟩ :: (((D2 ++ ([((B14, c14), r_6)] : List (Hd × (List TDyadic)))).flatMap eN1) ++ ((([((B14, c14), r_6)] : List (Hd × (List TDyadic))).flatMap eN1) ++ ((D3.flatMap eN1) ++ [])))) := ST.subR hS64 (subc (mem_at (i := 0) rfl) (subc (mem_at (i := 1) rfl) (subc (mem_at (i := 2) rfl) (subc (mem_at (i := 3) rfl) (subc (mem_at (i := 4) rfl) (subc (mem_at (i := 5) rfl) (subc (mem_at (i := 6) rfl) (suba (fsub_app (fun r_ (h : r_ ∈ ((D2.flatMap eN1) : List Ro)) => mOd (i := 7) (show r_ ∈ ((((([((B14, c14), r_6)] : List (Hd × (List TDyadic))).flatMap eN1) ++ ((D2.flatMap eN1) ++ ((D3.flatMap eN1) ++ [])))) : List Ro) from mAr _ (mAl _ h))) (fun r_ (h : r_ ∈ ((([((B14, c14), r_6)] : List (Hd × (List TDyadic))).flatMap eN1) : List Ro)) => mOd (i := 7) (show r_ ∈ ((((([((B14, c14), r_6)] : List (Hd × (List TDyadic))).flatMap eN1) ++ ((D2.flatMap eN1) ++ ((D3.flatMap eN1) ++ [])))) : List Ro) from mAl _ h))) (suba (fun r_ (h : r_ ∈ ((([((B14, c14), r_6)] : List (Hd × (List TDyadic))).flatMap eN1) : List Ro)) => mOd (i := 7) (show r_ ∈ ((((([((B14, c14), r_6)] : List (Hd × (List TDyadic))).flatMap eN1) ++ ((D2.flatMap eN1) ++ ((D3.flatMap eN1) ++ [])))) : List Ro) from mAl _ h)) (suba (fun r_ (h : r_ ∈ ((D3.flatMap eN1) : List Ro)) => mOd (i := 7) (show r_ ∈ ((((([((B14, c14), r_6)] : List (Hd × (List TDyadic))).flatMap eN1) ++ ((D2.flatMap eN1) ++ ((D3.flatMap eN1) ++ [])))) : List Ro) from mAr _ (mAr _ (mAl _ h)))) (fun _ h => by cases h)))))))))))
             have hS65 : ST w0 [] _ [⟨B15, 9, ((words1 ++ [(x2 ++ (List.drop (i2 : Int).toNat (List.take (i64.wrap ((i2 : Int) + 1)).toNat ([72, 83] : List UInt8))))]).flatMap encS), c15 * 1⟩, ⟨B16, 28, ((D2 ++ ([((B14, c14), r_6)] : List (Hd × (List TDyadic)))).flatMap eN3), c16 * 1⟩, ⟨aD b4, 28, (D3.flatMap eN3), 2 * 1⟩, ⟨aD b5, 28, [.slice B14 r_6.length c14], 1⟩, ⟨aD b7, 28, (([((B14, c14), r_6)] : List (Hd × (List TDyadic))).flatMap eN3), 1 * 1⟩, ⟨aD b6, 9, ([(x2 ++ (List.drop (i2 : Int).toNat (List.take (i64.wrap ((i2 : Int) + 1)).toNat ([72, 83] : List UInt8))))].flatMap encS), 1 * 1⟩] (⟨B14, (r_6.flatMap eN0)⟩ :: ⟨B13, (x1.flatMap eN0)⟩ :: ⟨B12, (x.flatMap eN0)⟩ :: ⟨B5, (r_5.Cells.flatMap eN0)⟩ :: ⟨B4, (r_4.Cells.flatMap eN0)⟩ :: ⟨B2, (one_.flatMap eN0)⟩ :: ⟨(aD 0), [vi 1, vi 0, vi 0, vi 0, vi 2]⟩ :: (((D2 ++ ([((B14, c14), r_6)] : List (Hd × (List TDyadic)))).flatMap eN1) ++ ((([((B14, c14), r_6)] : List (Hd × (List TDyadic))).flatMap eN1) ++ ((D3.flatMap eN1) ++ [])))) := hS65
             refine ⟨(ST.subR (hS65.se [2, 3]) (R' := (⟨B14, (r_6.flatMap eN0)⟩ :: ⟨B13, (x1.flatMap eN0)⟩ :: ⟨B12, (x.flatMap eN0)⟩ :: ⟨B5, (r_5.Cells.flatMap eN0)⟩ :: ⟨B4, (r_4.Cells.flatMap eN0)⟩ :: ⟨B2, (one_.flatMap eN0)⟩ :: ⟨(aD 0), [vi 1, vi 0, vi 0, vi 0, vi 2]⟩ :: ((D3.flatMap eN1) ++ []))) (subc (mem_at (i := 0) rfl) (subc (mem_at (i := 1) rfl) (subc (mem_at (i := 2) rfl) (subc (mem_at (i := 3) rfl) (subc (mem_at (i := 4) rfl) (subc (mem_at (i := 5) rfl) (subc (mem_at (i := 6) rfl) (suba (fun r_ (h : r_ ∈ ((D3.flatMap eN1) : List Ro)) => mOd (i := 7) (show r_ ∈ (((((D2 ++ ([((B14, c14), r_6)] : List (Hd × (List TDyadic)))).flatMap eN1) ++ ((([((B14, c14), r_6)] : List (Hd × (List TDyadic))).flatMap eN1) ++ ((D3.flatMap eN1) ++ [])))) : List Ro) from mAr _ (mAr _ (mAl _ h)))) (fun _ h => by cases h)))))))))), ?_⟩
             refine ra_q 16 4 (v := .slice B15 ((words1 ++ [(x2 ++ (List.drop (i2 : Int).toNat (List.take (i64.wrap ((i2 : Int) + 1)).toNat ([72, 83] : List UInt8))))]).length) c15) rfl rfl rfl (by kernel_rfl) (by kernel_rfl) (by kernel_rfl) (ST.subR (hS65.se [2, 3]) (R' := (⟨B14, (r_6.flatMap eN0)⟩ :: ⟨B13, (x1.flatMap eN0)⟩ :: ⟨B12, (x.flatMap eN0)⟩ :: ⟨B5, (r_5.Cells.flatMap eN0)⟩ :: ⟨B4, (r_4.Cells.flatMap eN0)⟩ :: ⟨B2, (one_.flatMap eN0)⟩ :: ⟨(aD 0), [vi 1, vi 0, vi 0, vi 0, vi 2]⟩ :: ((D3.flatMap eN1) ++ []))) (subc (mem_at (i := 0) rfl) (subc (mem_at (i := 1) rfl) (subc (mem_at (i := 2) rfl) (subc (mem_at (i := 3) rfl) (subc (mem_at (i := 4) rfl) (subc (mem_at (i := 5) rfl) (subc (mem_at (i := 6) rfl) (suba (fun r_ (h : r_ ∈ ((D3.flatMap eN1) : List Ro)) => mOd (i := 7) (show r_ ∈ (((((D2 ++ ([((B14, c14), r_6)] : List (Hd × (List TDyadic)))).flatMap eN1) ++ ((([((B14, c14), r_6)] : List (Hd × (List TDyadic))).flatMap eN1) ++ ((D3.flatMap eN1) ++ [])))) : List Ro) from mAr _ (mAr _ (mAl _ h)))) (fun _ h => by cases h)))))))))) (fun w' hw' => (Y_assign (v := .slice B15 ((words1 ++ [(x2 ++ (List.drop (i2 : Int).toNat (List.take (i64.wrap ((i2 : Int) + 1)).toNat ([72, 83] : List UInt8))))]).length) c15) rfl rfl)) ?_
             refine rq 17 5 (v := .slice B16 ((list1 ++ ([r_6] : List (List TDyadic))).length) c16) rfl (ST.subR (hS65.se [2, 3]) (R' := (⟨B14, (r_6.flatMap eN0)⟩ :: ⟨B13, (x1.flatMap eN0)⟩ :: ⟨B12, (x.flatMap eN0)⟩ :: ⟨B5, (r_5.Cells.flatMap eN0)⟩ :: ⟨B4, (r_4.Cells.flatMap eN0)⟩ :: ⟨B2, (one_.flatMap eN0)⟩ :: ⟨(aD 0), [vi 1, vi 0, vi 0, vi 0, vi 2]⟩ :: ((D3.flatMap eN1) ++ []))) (subc (mem_at (i := 0) rfl) (subc (mem_at (i := 1) rfl) (subc (mem_at (i := 2) rfl) (subc (mem_at (i := 3) rfl) (subc (mem_at (i := 4) rfl) (subc (mem_at (i := 5) rfl) (subc (mem_at (i := 6) rfl) (suba (fun r_ (h : r_ ∈ ((D3.flatMap eN1) : List Ro)) => mOd (i := 7) (show r_ ∈ (((((D2 ++ ([((B14, c14), r_6)] : List (Hd × (List TDyadic)))).flatMap eN1) ++ ((([((B14, c14), r_6)] : List (Hd × (List TDyadic))).flatMap eN1) ++ ((D3.flatMap eN1) ++ [])))) : List Ro) from mAr _ (mAr _ (mAl _ h)))) (fun _ h => by cases h)))))))))) (fun w' hw' => (Y_assign (v := .slice B16 ((list1 ++ ([r_6] : List (List TDyadic))).length) c16) rfl rfl)) ?_
             refine ra_done (by kernel_rfl) ?_
             have hS66 : ST w0 [] _ [⟨B15, 9, ((words1 ++ [(x2 ++ (List.drop (i2 : Int).toNat (List.take (i64.wrap ((i2 : Int) + 1)).toNat ([72, 83] : List UInt8))))]).flatMap encS), c15 * 1⟩, ⟨B16, 28, ((D2 ++ ([((B14, c14), r_6)] : List (Hd × (List TDyadic)))).flatMap eN3), c16 * 1⟩, ⟨aD b4, 28, (D3.flatMap eN3), 2 * 1⟩, ⟨aD b5, 28, [.slice B14 r_6.length c14], 1⟩, ⟨aD b7, 28, (([((B14, c14), r_6)] : List (Hd × (List TDyadic))).flatMap eN3), 1 * 1⟩, ⟨aD b6, 9, ([(x2 ++ (List.drop (i2 : Int).toNat (List.take (i64.wrap ((i2 : Int) + 1)).toNat ([72, 83] : List UInt8))))].flatMap encS), 1 * 1⟩] (⟨B14, (r_6.flatMap eN0)⟩ :: ⟨B13, (x1.flatMap eN0)⟩ :: ⟨B12, (x.flatMap eN0)⟩ :: ⟨B5, (r_5.Cells.flatMap eN0)⟩ :: ⟨B4, (r_4.Cells.flatMap eN0)⟩ :: ⟨B2, (one_.flatMap eN0)⟩ :: ⟨(aD 0), [vi 1, vi 0, vi 0, vi 0, vi 2]⟩ :: (((D2 ++ ([((B14, c14), r_6)] : List (Hd × (List TDyadic)))).flatMap eN1) ++ ((D3.flatMap eN1) ++ []))) := ST.subR hS65 (subc (mem_at (i := 0) rfl) (subc (mem_at (i := 1) rfl) (subc (mem_at (i := 2) rfl) (subc (mem_at (i := 3) rfl) (subc (mem_at (i := 4) rfl) (subc (mem_at (i := 5) rfl) (subc (mem_at (i := 6) rfl) (suba (fun r_ (h : r_ ∈ (((D2 ++ ([((B14, c14), r_6)] : List (Hd × (List TDyadic)))).flatMap eN1) : List Ro)) => mOd (i := 7) (show r_ ∈ (((((D2 ++ ([((B14, c14), r_6)] : List (Hd × (List TDyadic)))).flatMap eN1) ++ ((([((B14, c14), r_6)] : List (Hd × (List TDyadic))).flatMap eN1) ++ ((D3.flatMap eN1) ++ [])))) : List Ro) from mAl _ h)) (suba (fun r_ (h : r_ ∈ ((D3.flatMap eN1) : List Ro)) => mOd (i := 7) (show r_ ∈ (((((D2 ++ ([((B14, c14), r_6)] : List (Hd × (List TDyadic)))).flatMap eN1) ++ ((([((B14, c14), r_6)] : List (Hd × (List TDyadic))).flatMap eN1) ++ ((D3.flatMap eN1) ++ [])))) : List Ro) from mAr _ (mAr _ (mAl _ h)))) (fun _ h => by cases h))))))))))
             exact ⟨B15, c15, B16, c16, (D2 ++ ([((B14, c14), r_6)] : List (Hd × (List TDyadic)))), (FF.cons rfl (FF.cons rfl (FF.cons (hf2.get 6 2 rfl) (FF.cons (hf2.get 7 3 rfl) (FF.cons (hf2.get 8 4 rfl) (FF.cons (hf2.get 41 5 rfl) (FF.cons (hf2.get 42 6 rfl) (FF.cons (hf2.get 43 7 rfl) FF.nil)))))))), (dl_app hD2 (show List.map Prod.snd ([((B14, c14), r_6)] : List (Hd × (List TDyadic))) = ([r_6] : List (List TDyadic)) from rfl)), ho26, (hS66.sel [0, 1, 2] rfl rfl)⟩
            exact allR_nil
           exact allR_nil
          exact allR_nil
         exact allR_nil
        exact allR_nil
       exact allR_nil
      rintro f w ⟨B17, c17, B18, c18, D6, hf4, hD6, ho16, hS31⟩
      have hS67 : ST w0 [] _ [⟨B17, 9, ((words1 ++ [(x2 ++ (List.drop (i2 : Int).toNat (List.take (i64.wrap ((i2 : Int) + 1)).toNat ([72, 83] : List UInt8))))]).flatMap encS), c17 * 1⟩, ⟨B18, 28, (D6.flatMap eN3), c18 * 1⟩, ⟨aD b4, 28, (D3.flatMap eN3), 2 * 1⟩] (⟨B5, (r_5.Cells.flatMap eN0)⟩ :: ⟨B4, (r_4.Cells.flatMap eN0)⟩ :: ⟨B2, (one_.flatMap eN0)⟩ :: ⟨(aD 0), [vi 1, vi 0, vi 0, vi 0, vi 2]⟩ :: ((D6.flatMap eN1) ++ ((D3.flatMap eN1) ++ []))) := ST.subR hS31 (subc (mem_at (i := 3) rfl) (subc (mem_at (i := 4) rfl) (subc (mem_at (i := 5) rfl) (subc (mem_at (i := 6) rfl) (suba (fun r_ (h : r_ ∈ ((D6.flatMap eN1) : List Ro)) => mOd (i := 7) (show r_ ∈ ((((D6.flatMap eN1) ++ ((D3.flatMap eN1) ++ []))) : List Ro) from mAl _ h)) (suba (fun r_ (h : r_ ∈ ((D3.flatMap eN1) : List Ro)) => mOd (i := 7) (show r_ ∈ ((((D6.flatMap eN1) ++ ((D3.flatMap eN1) ++ []))) : List Ro) from mAr _ (mAl _ h))) (fun _ h => by cases h)))))))
      exact ⟨(words1 ++ [(x2 ++ (List.drop (i2 : Int).toNat (List.take (i64.wrap ((i2 : Int) + 1)).toNat ([72, 83] : List UInt8))))]), (list1 ++ ([r_6] : List (List TDyadic))), B17, c17, B18, c18, D6, D3, (some_inj hF6), (FF.cons (hf4.get 4 0 rfl) (FF.cons (hf4.get 5 1 rfl) (FF.cons (hf4.get 6 2 rfl) (FF.cons (hf4.get 7 3 rfl) (FF.cons (hf4.get 8 4 rfl) (FF.cons (hf4.get 41 5 rfl) (FF.cons (hf4.get 42 6 rfl) (FF.cons (hf4.get 43 7 rfl) FF.nil)))))))), hD6, ho16, hD3, ho9, (hS67.sel [0, 1, 2] rfl rfl)⟩
     ·skip
      have hF7 := cf' hz3 hb4
      refine cw_skip ?_
      have hS68 : ST w0 [] _ [⟨B8, 9, (words1.flatMap encS), c8 * 1⟩, ⟨B9, 28, (D2.flatMap eN3), c9 * 1⟩, ⟨aD b4, 28, (D3.flatMap eN3), 2 * 1⟩, ⟨B14, 65, (r_6.flatMap eN0), c14 * 5⟩, ⟨aD b5, 28, [.slice B14 r_6.length c14], 1⟩] (⟨B5, (r_5.Cells.flatMap eN0)⟩ :: ⟨B4, (r_4.Cells.flatMap eN0)⟩ :: ⟨B2, (one_.flatMap eN0)⟩ :: ⟨(aD 0), [vi 1, vi 0, vi 0, vi 0, vi 2]⟩ :: ((D2.flatMap eN1) ++ ((D3.flatMap eN1) ++ []))) := ST.subR hS26 (subc (mem_at (i := 2) rfl) (subc (mem_at (i := 3) rfl) (subc (mem_at (i := 4) rfl) (subc (mem_at (i := 5) rfl) (suba (fun r_ (h : r_ ∈ ((D2.flatMap eN1) : List Ro)) => mOd (i := 6) (show r_ ∈ ((((D2.flatMap eN1) ++ ((D3.flatMap eN1) ++ []))) : List Ro) from mAl _ h)) (suba (fun r_ (h : r_ ∈ ((D3.flatMap eN1) : List Ro)) => mOd (i := 6) (show r_ ∈ ((((D2.flatMap eN1) ++ ((D3.flatMap eN1) ++ []))) : List Ro) from mAr _ (mAl _ h))) (fun _ h => by cases h)))))))
      exact ⟨words1, list1, B8, c8, B9, c9, D2, D3, (some_inj hF7), (FF.cons (hf2.get 4 0 rfl) (FF.cons (hf2.get 5 1 rfl) (FF.cons (hf2.get 6 2 rfl) (FF.cons (hf2.get 7 3 rfl) (FF.cons (hf2.get 8 4 rfl) (FF.cons (hf2.get 41 5 rfl) (FF.cons (hf2.get 42 6 rfl) (FF.cons (hf2.get 43 7 rfl) FF.nil)))))))), hD2, ho8, hD3, ho9, (hS68.sel [0, 1, 2] rfl rfl)⟩
    rintro f w ⟨words2, list2, B10, c10, B11, c11, D4, D5, rfl, hf3, hD4, ho10, hD5, ho11, hS20⟩
    refine cw_region ?_
    refine sQ 77 (Y_add (k := .i64) (a := (i2 : Int)) (b := 1) rfl (hf3.get 43 7 rfl) rfl) ?_
    refine sQ 43 (Y_move (v := vi (i64.wrap ((i2 : Int) + 1))) rfl rfl) (rw_nil ?_)
    obtain rfl := some_inj hF5
    exact ⟨k_5, Nat.lt_succ_self _, i2 + 1, words2, list2, B10, c10, B11, c11, D4, D5, (FF.cons (hf3.get 4 0 rfl) (FF.cons (hf3.get 5 1 rfl) (FF.cons (hf3.get 6 2 rfl) (FF.cons (hf3.get 7 3 rfl) (FF.cons (hf3.get 8 4 rfl) (FF.cons (hf3.get 41 5 rfl) (FF.cons (hf3.get 42 6 rfl) (FF.cons (congrArg (Value.int .i64) (wr_succ hlt3 (show 2 ≤ 9223372036854775807 by decide))) FF.nil)))))))), hD4, ho10, hD5, ho11, (hS20.sel [0, 1, 2] rfl rfl), (by omega), hL5⟩
   ·skip
    obtain rfl : k_4 = 0 := by have h := of_decide_eq_false hlt2; omega
    refine cw_exit rfl ?_
    obtain rfl := some_inj hL4
    refine cw_region ?_
    refine sQ 37 (Y_move (v := vi at_1) rfl (hf2.get 8 4 rfl)) ?_
    refine sQ 38 (Y_add (k := .i64) (a := at_1) (b := 1) rfl rfl rfl) ?_
    refine sQ 8 (Y_assign (v := vi (i64.wrap (at_1 + 1))) rfl rfl) (rw_nil ?_)
    obtain rfl := some_inj hF4
    have hS69 : ST w0 [] _ [⟨B8, 9, (words1.flatMap encS), c8 * 1⟩, ⟨B9, 28, (D2.flatMap eN3), c9 * 1⟩, ⟨aD b4, 28, (D3.flatMap eN3), 2 * 1⟩] (⟨B5, (r_5.Cells.flatMap eN0)⟩ :: ⟨B4, (r_4.Cells.flatMap eN0)⟩ :: ⟨B2, (one_.flatMap eN0)⟩ :: ⟨(aD 0), [vi 1, vi 0, vi 0, vi 0, vi 2]⟩ :: ((D2.flatMap eN1) ++ [])) := ST.subR hS18 (subc (mem_at (i := 0) rfl) (subc (mem_at (i := 1) rfl) (subc (mem_at (i := 2) rfl) (subc (mem_at (i := 3) rfl) (suba (fun r_ (h : r_ ∈ ((D2.flatMap eN1) : List Ro)) => mOd (i := 4) (show r_ ∈ ((((D2.flatMap eN1) ++ ((D3.flatMap eN1) ++ []))) : List Ro) from mAl _ h)) (fun _ h => by cases h))))))
    exact ⟨k_3, Nat.lt_succ_self _, words1, list1, (i64.wrap (at_1 + 1)), B8, c8, B9, c9, D2, (FF.cons (hf2.get 4 0 rfl) (FF.cons (hf2.get 5 1 rfl) (FF.cons (hf2.get 6 2 rfl) (FF.cons (hf2.get 7 3 rfl) (FF.cons rfl FF.nil))))), hD2, ho8, ho3, (len_le rfl hq), ho4, (len_le rfl hq1), (hS69.sel [0, 1] rfl rfl), hL3⟩
  ·skip
   have hF8 := cf' hb1 hb2
   refine cw_exit rfl ?_
   obtain rfl := some_inj hF8
   obtain rfl := some_inj hL3
   refine cw_seq (cw_region ?_)
   refine sQ 78 (Y_move (v := .slice B6 words.length c6) rfl (hf1.get 4 0 rfl)) ?_
   refine sQ 79 (Y_move (v := .slice B7 list.length c7) rfl (hf1.get 5 1 rfl)) ?_
   refine sQ 0 (Y_assign (v := .slice B6 words.length c6) rfl rfl) ?_
   refine sQ 1 (Y_assign (v := .slice B7 list.length c7) rfl rfl) (rw_nil (cw_ret ?_))
   obtain ⟨rfl, rfl⟩ := pr2 (some_inj hF2)
   exact ret2 Tryz.results28 (v1 := .slice B6 words.length c6) (resAt_tmp rfl) (v2 := .slice B7 list.length c7) (resAt_tmp rfl) ⟨B6, c6, B7, c7, D1, rfl, hD1, (org_app ho2 org_nil), (ST.subR (R' := (((D1.flatMap eN1) ++ []))) (hS13.sel [0, 1] rfl rfl) (suba (fun r_ (h : r_ ∈ ((D1.flatMap eN1) : List Ro)) => mOd (i := 4) (show r_ ∈ ((((D1.flatMap eN1) ++ [])) : List Ro) from mAl _ h)) (fun _ h => by cases h)))⟩

theorem c_impl_CliffordWord (k_ : Int)  (w0 : World)  (hS : ST w0 [] w0 [] [⟨(aD 0), [vi 1, vi 0, vi 0, vi 0, vi 2]⟩]) {r_ : List UInt8} {r_1 : Bool} (hF : F_impl_CliffordWord k_ = some (r_, r_1)) :
  CV Tryz.prog 110 #[vi k_] w0 (fun v w' => v = .tuple #[.string (bstr r_), .bool r_1] ∧ ST w0 [] w' [] []) := by
 unfold F_impl_CliffordWord at hF
 refine cv_of_cw 20 Tryz.func110 rfl Tryz.ntmps110 rfl ?_
 refine cw_seq (cw_region ?_)
 refine sQ 2 (Y_assign (v := .string (bstr ([] : List UInt8))) rfl rfl) ?_
 refine sQ 3 (Y_assign (v := .bool false) rfl rfl) (rw_nil (cw_seq (cw_region ?_)))
 obtain ⟨⟨r_2, r_3⟩, hc, hF⟩ := bind_inv hF
 refine sc 7 rfl rfl (Yc_func (g := 28) (vs := []) k_call_28 rfl mn (c_impl_cliffordList  _  (hS.inn0 [(true, 0)] rfl) hc)) ?_
 rintro _ w_ ⟨B, c, B1, c1, D, rfl, hD, ho, hd⟩
 have hS1 := ST.outR0 hS hd ho (subc (mem_at (i := 0) rfl) (fun _ h => by cases h))
 have ho1 : Org w0 [] [⟨(aD 0), [vi 1, vi 0, vi 0, vi 0, vi 2]⟩] (((D.flatMap eN1) ++ [])) := org_trans0 hS ho (org_cons (org_mem (i := 0) rfl) org_nil)
 have hS2 : ST w0 [] _ [⟨B, 9, (r_2.flatMap encS), c * 1⟩, ⟨B1, 28, (D.flatMap eN3), c1 * 1⟩] (⟨(aD 0), [vi 1, vi 0, vi 0, vi 0, vi 2]⟩ :: ((D.flatMap eN1) ++ [])) := ST.subR hS1 (subc (mAr _ (mem_at (i := 0) rfl)) (suba (fun r h => mAl _ (app_mem (fun _ h => mOd (i := 0) (mAl _ h)) h)) (fun _ h => by cases h)))
 refine sQ 6 (Y_move (v := .tuple #[.slice B r_2.length c, .slice B1 r_3.length c1]) rfl rfl) ?_
 refine sQ 8 (Y_extract (v := .slice B r_2.length c) rfl rfl rfl) ?_
 refine sQ 9 (Y_extract (v := .slice B1 r_3.length c1) rfl rfl rfl) ?_
 refine sQ 4 (Y_assign (v := .slice B r_2.length c) rfl rfl) ?_
 refine sQ 5 (Y_assign (v := .slice B1 r_3.length c1) rfl rfl) (rw_nil (cw_seq (cw_seq (cw_region ?_))))
 refine sQ 10 (Y_move (v := vi k_) rfl rfl) ?_
 refine sQ 11 (Y_move (v := .slice B r_2.length c) rfl rfl) ?_
 refine sQ 12 (Y_len (B := B) (m := r_2.length) (c := c) k_sl_57_9 rfl rfl) ?_
 refine sQ 13 (Y_sub (k := .i64) (a := (r_2.length : Int)) (b := 1) rfl rfl rfl) ?_
 obtain ⟨r_4, hc1, hF⟩ := bind_inv hF
 refine sc 14 rfl rfl (Yc_func (g := 73) (vs := [vi k_, vi 0, vi (i64.wrap ((r_2.length : Int) - 1))]) k_call_73 rfl (mc rfl (mc rfl (mc rfl mn))) (c_impl_within k_ 0 (i64.wrap ((r_2.length : Int) - 1)) _  (hS2.inn0 [] rfl) hc1)) ?_
 rintro _ w_1 ⟨rfl, hd1⟩
 have hS3 := hS2.out00 hd1
 refine sQ 15 (Y_not (p := r_4) rfl rfl) (rw_nil ?_)
 refine cw_cond (b := (!r_4)) rfl (fun hb => ?_) (fun hb => ?_)
 ·skip
  have hF1 := ct hF hb
  refine cw_seq (cw_region ?_)
  refine sQ 2 (Y_assign (v := .string (bstr ([] : List UInt8))) rfl rfl) ?_
  refine sQ 3 (Y_assign (v := .bool false) rfl rfl) (rw_nil (cw_ret ?_))
  obtain ⟨rfl, rfl⟩ := pr2 (some_inj hF1)
  exact ret2 Tryz.results110 (v1 := .string (bstr ([] : List UInt8))) (resAt_tmp rfl) (v2 := .bool false) (resAt_tmp rfl) ⟨rfl, (hS3.sN [])⟩
 ·skip
  have hF2 := cf' hF hb
  refine cw_skip (cw_seq (cw_region ?_))
  refine sQ 16 (Y_move (v := .slice B r_2.length c) rfl rfl) ?_
  refine sQ 17 (Y_move (v := vi k_) rfl rfl) ?_
  obtain ⟨x, hx, hF2⟩ := bind_inv hF2
  refine sQ 18 (Y_index (B := B) (m := r_2.length) (c := c) (k := .i64) (i := k_) k_sl_57_9 k_sz_9_1 rfl rfl rfl (gi_isSome encS_len rfl (hS3.cf (i := 0) rfl) hx) (getI_nn hx) (getI_ltI hx rfl)) ?_
  refine sQ 19 (Y_load1 (B := B) (i := k_.toNat * 1) (cs := (r_2.flatMap encS)) (v := .string (bstr x)) k_sc_9 rfl rfl (hS3.cf (i := 0) rfl) (gi_at0 encS_len hx rfl)) ?_
  refine sQ 2 (Y_assign (v := .string (bstr x)) rfl rfl) ?_
  refine sQ 3 (Y_assign (v := .bool true) rfl rfl) (rw_nil (cw_ret ?_))
  obtain ⟨rfl, rfl⟩ := pr2 (some_inj hF2)
  exact ret2 Tryz.results110 (v1 := .string (bstr x)) (resAt_tmp rfl) (v2 := .bool true) (resAt_tmp rfl) ⟨rfl, (hS3.sN [])⟩

theorem c_impl_wordGates (k_ : Int)  (w0 : World)  (hS : ST w0 [] w0 [] [⟨(aD 0), [vi 1, vi 0, vi 0, vi 0, vi 2]⟩]) {r_ : List TGate} (hF : F_impl_wordGates k_ = some r_) :
  CV Tryz.prog 74 #[vi k_] w0 (fun v w' => ∃ (B : Option Addr) (c : Nat), v = .slice B r_.length c ∧ ST w0 [] w' [⟨B, 70, (r_.flatMap eN4), c * 3⟩] []) := by
 unfold F_impl_wordGates at hF
 refine cv_of_cw 30 Tryz.func74 rfl Tryz.ntmps74 rfl ?_
 refine cw_seq (cw_region ?_)
 refine sQ 2 (Y_assign (v := .slice none 0 0) rfl rfl) (rw_nil (cw_seq (cw_region ?_)))
 refine sS 8 (Ys_bslice0 (s := 3) (e := 70) hS k_sl_37_70 k_sz_70_3 rfl) ?_
 rintro _ w_ ⟨b, rfl, hS1⟩
 refine sQ 3 (Y_assign (v := .slice (aD b) 0 0) rfl rfl) (rw_nil (cw_seq (cw_region ?_)))
 refine sQ 10 (Y_move (v := vi k_) rfl rfl) ?_
 obtain ⟨⟨r_1, r_2⟩, hc, hF⟩ := bind_inv hF
 refine sc 11 rfl rfl (Yc_func (g := 110) (vs := [vi k_]) k_call_110 rfl (mc rfl mn) (c_impl_CliffordWord k_ _  (hS1.inn0 [(true, 0)] rfl) hc)) ?_
 rintro _ w_1 ⟨rfl, hd⟩
 have hS2 := hS1.out00 hd
 refine sQ 9 (Y_move (v := .tuple #[.string (bstr r_1), .bool r_2]) rfl rfl) ?_
 refine sQ 12 (Y_extract (v := .string (bstr r_1)) rfl rfl rfl) ?_
 refine sQ 13 (Y_extract (v := .bool r_2) rfl rfl rfl) ?_
 refine sQ 4 (Y_assign (v := .string (bstr r_1)) rfl rfl) ?_
 refine sQ 5 (Y_assign (v := .bool r_2) rfl rfl) (rw_nil (cw_seq (cw_seq (cw_region ?_))))
 refine sQ 6 (Y_assign (v := vi 0) rfl rfl) (rw_nil ?_)
 obtain ⟨hN, hF⟩ := chk_inv hF
 obtain ⟨z, hz, hF1⟩ := bind_inv hF
 refine cw_block ?_
 refine cw_loop (fun k f w => ∃ (i1 : Nat) (out : List TGate) (B1 : Option Addr) (c1 : Nat), FF f [(3, .slice B1 out.length c1), (4, .string (bstr r_1)), (6, vi (i1 : Int))] ∧ ST w0 [] w [⟨B1, 70, (out.flatMap eN4), c1 * 3⟩] [⟨(aD 0), [vi 1, vi 0, vi 0, vi 0, vi 2]⟩] ∧ i1 + k = r_1.length ∧ forN (F_impl_wordGates_l1 r_1) k i1 out = some z) r_1.length ⟨0, [], aD b, 0, (FF.cons rfl (FF.cons rfl (FF.cons rfl FF.nil))), (hS2.sel [0] rfl rfl), Nat.zero_add _, hz⟩ ?_
 rintro k_1 f w ⟨i1, out, B1, c1, hf, hS3, hik, hL⟩
 refine cw_seq (cw_seq (cw_region ?_))
 refine sQ 14 (Y_move (v := vi (i1 : Int)) rfl (hf.get 6 2 rfl)) ?_
 refine sQ 15 (Y_move (v := .string (bstr r_1)) rfl (hf.get 4 1 rfl)) ?_
 refine sQ 16 (Y_slen (a := r_1) k_str_9 rfl rfl) ?_
 refine sQ 17 (Y_lt (k := .i64) (a := (i1 : Int)) (b := (r_1.length : Int)) rfl rfl rfl) (rw_nil ?_)
 refine cw_cond (b := (decide ((i1 : Int) < (r_1.length : Int)))) rfl (fun hlt => ?_) (fun hlt => ?_)
 ·skip
  have hlt1 : i1 < r_1.length := by have h := of_decide_eq_true hlt; omega
  obtain ⟨k_2, rfl⟩ : ∃ k2, k_1 = k2 + 1 := ⟨k_1 - 1, by omega⟩
  obtain ⟨y, hb, hL1⟩ := forN_go hL
  unfold F_impl_wordGates_l1 at hb
  refine cw_skip (cw_seq (cw_block (cw_seq (cw_region ?_))))
  refine sQ 7 (Y_assign (v := vi 1) rfl rfl) (rw_nil (cw_seq ?_))
  obtain ⟨z1, hz1, hF2⟩ := bind_inv hb
  refine cw_mid (fun f w => ∃ (kind : Int), kind = z1 ∧ FF f [(3, .slice B1 out.length c1), (4, .string (bstr r_1)), (6, vi (i1 : Int)), (7, vi kind)] ∧ ST w0 [] w [⟨B1, 70, (out.flatMap eN4), c1 * 3⟩] [⟨(aD 0), [vi 1, vi 0, vi 0, vi 0, vi 2]⟩]) ?_ ?_
  ·skip
   refine cw_seq (cw_region ?_)
   refine sQ 20 (Y_move (v := .string (bstr r_1)) rfl (hf.get 4 1 rfl)) ?_
   refine sQ 21 (Y_move (v := vi (i1 : Int)) rfl (hf.get 6 2 rfl)) ?_
   obtain ⟨x, hx, hz1⟩ := bind_inv hz1
   refine sQ 22 (Y_sidx (a := r_1) (k := .i64) (i := (i1 : Int)) (b := x) k_str_9 rfl rfl rfl hx) ?_
   refine sQ 23 (Y_eq (k := .u8) (a := (x.toNat : Int)) (b := 83) rfl rfl rfl) (rw_nil ?_)
   refine cw_cond (b := ((x.toNat : Int) == 83)) rfl (fun hb1 => ?_) (fun hb1 => ?_)
   ·skip
    have hF3 := ct hz1 hb1
    refine cw_region ?_
    refine sQ 7 (Y_assign (v := vi 5) rfl rfl) (rw_nil ?_)
    exact ⟨5, (some_inj hF3), (FF.cons (hf.get 3 0 rfl) (FF.cons (hf.get 4 1 rfl) (FF.cons (hf.get 6 2 rfl) (FF.cons rfl FF.nil)))), (hS3.sel [0] rfl rfl)⟩
   ·skip
    have hF4 := cf' hz1 hb1
    refine cw_skip ?_
    exact ⟨1, (some_inj hF4), (FF.cons (hf.get 3 0 rfl) (FF.cons (hf.get 4 1 rfl) (FF.cons (hf.get 6 2 rfl) (FF.cons rfl FF.nil)))), (hS3.sel [0] rfl rfl)⟩
  rintro f w ⟨kind, rfl, hf1, hS4⟩
  refine cw_region ?_
  refine sQ 24 (Y_move (v := .slice B1 out.length c1) rfl (hf1.get 3 0 rfl)) ?_
  refine sQ 25 (Y_move (v := vi kind) rfl (hf1.get 7 3 rfl)) ?_
  refine sQ 26 (Y_buildS (zs := [vi 0, vi 0, vi 0]) (vs := [(0, vi kind)]) (cs := [vi kind, vi 0, vi 0]) k_pl_70 k_zero_70 rfl (mpc rfl mpn) rfl) ?_
  refine sS 27 (Ys_bslice (s := 3) (len := 1) (vs := [(0, .agg #[vi kind, vi 0, vi 0])]) (cs := [vi kind, vi 0, vi 0]) (zs := [vi 0, vi 0, vi 0]) (m := 3) hS4 k_sl_37_70 k_sz_70_3 k_zc_70 rfl (mpc rfl mpn) rfl rfl rfl (by kernel_rfl) (by kernel_rfl) rfl) ?_
  rintro _ w_2 ⟨b1, rfl, hS5⟩
  obtain ⟨hap, hF2⟩ := chk_inv hF2
  refine sS 28 (Ys_append (s := 3) (by' := 24) (i := 0) (nn := out.length) (c := c1) (k := 1) (len := (out ++ [(TGate.mk kind 0 0)]).length) (B := B1) (xs := ([(TGate.mk kind 0 0)].flatMap eN4)) (cs' := ((out ++ [(TGate.mk kind 0 0)]).flatMap eN4)) hS5 k_sl_37_70 k_sz_70_3 k_by_70_24 k_zero_70 rfl (by decide) rfl rfl rfl rfl (fm_lenn (l := out) enc_Gate_len rfl) rfl (hS5.cf (i := 1) rfl) (fm_lenn (l := [(TGate.mk kind 0 0)]) enc_Gate_len rfl) (fm_one' (enc := eN4) enc_Gate_one [(TGate.mk kind 0 0)]) (by have := hap; omega) (by have := hap; simp only [maxLen]; omega) (fm_app _ _) (app_len (l := out) (l' := [(TGate.mk kind 0 0)]) rfl rfl)) ?_
  rintro _ w_3 ⟨B2, c2, rfl, hS6⟩
  refine sQ 3 (Y_assign (v := .slice B2 ((out ++ [(TGate.mk kind 0 0)]).length) c2) rfl rfl) (rw_nil (cw_region ?_))
  refine sQ 18 (Y_move (v := vi (i1 : Int)) rfl (hf1.get 6 2 rfl)) ?_
  refine sQ 19 (Y_add (k := .i64) (a := (i1 : Int)) (b := 1) rfl rfl rfl) ?_
  refine sQ 6 (Y_assign (v := vi (i64.wrap ((i1 : Int) + 1))) rfl rfl) (rw_nil ?_)
  obtain rfl := some_inj hF2
  exact ⟨k_2, Nat.lt_succ_self _, i1 + 1, (out ++ [(TGate.mk kind 0 0)]), B2, c2, (FF.cons rfl (FF.cons (hf1.get 4 1 rfl) (FF.cons (congrArg (Value.int .i64) (wr_succ hlt1 hN)) FF.nil))), (hS6.sel [0] rfl rfl), (by omega), hL1⟩
 ·skip
  obtain rfl : k_1 = 0 := by have h := of_decide_eq_false hlt; omega
  refine cw_exit rfl ?_
  obtain rfl := some_inj hL
  refine cw_seq (cw_region ?_)
  refine sQ 29 (Y_move (v := .slice B1 out.length c1) rfl (hf.get 3 0 rfl)) ?_
  refine sQ 2 (Y_assign (v := .slice B1 out.length c1) rfl rfl) (rw_nil (cw_ret ?_))
  obtain rfl := some_inj hF1
  exact ret1 Tryz.results74 (v1 := .slice B1 out.length c1) (resAt_tmp rfl) ⟨B1, c1, rfl, (hS3.sN [0])⟩

theorem c_impl_syllableGates (b : Int)  (w0 : World)  (hS : ST w0 [] w0 [] []) {r_ : List TGate} (hF : F_impl_syllableGates b = some r_) :
  CV Tryz.prog 75 #[.int .u8 b] w0 (fun v w' => ∃ (B : Option Addr) (c : Nat), v = .slice B r_.length c ∧ ST w0 [] w' [⟨B, 70, (r_.flatMap eN4), c * 3⟩] []) := by
 unfold F_impl_syllableGates at hF
 refine cv_of_cw 17 Tryz.func75 rfl Tryz.ntmps75 rfl ?_
 refine cw_seq (cw_region ?_)
 refine sQ 2 (Y_assign (v := .slice none 0 0) rfl rfl) (rw_nil (cw_seq (cw_seq (cw_region ?_))))
 refine sQ 3 (Y_move (v := .int .u8 b) rfl rfl) (rw_nil (cw_block (cw_seq (cw_region ?_))))
 refine sQ 5 (Y_eq (k := .u8) (a := b) (b := 72) rfl rfl rfl) ?_
 refine sQ 4 (Y_assign (v := .bool (b == 72)) rfl rfl) (rw_nil ?_)
 refine cw_cond (b := (b == 72)) rfl (fun hb => ?_) (fun hb => ?_)
 ·skip
  have hF1 := ct hF hb
  refine cw_seq (cw_region ?_)
  refine sQ 6 (Y_buildS (zs := [vi 0, vi 0, vi 0]) (vs := [(0, vi 7)]) (cs := [vi 7, vi 0, vi 0]) k_pl_70 k_zero_70 rfl (mpc rfl mpn) rfl) ?_
  refine sQ 7 (Y_buildS (zs := [vi 0, vi 0, vi 0]) (vs := [(0, vi 1)]) (cs := [vi 1, vi 0, vi 0]) k_pl_70 k_zero_70 rfl (mpc rfl mpn) rfl) ?_
  refine sS 8 (Ys_bslice (s := 3) (len := 2) (vs := [(0, .agg #[vi 7, vi 0, vi 0]), (1, .agg #[vi 1, vi 0, vi 0])]) (cs := [vi 7, vi 0, vi 0, vi 1, vi 0, vi 0]) (zs := [vi 0, vi 0, vi 0, vi 0, vi 0, vi 0]) (m := 6) hS k_sl_37_70 k_sz_70_3 k_zc_70 rfl (mpc rfl (mpc rfl mpn)) rfl rfl rfl (by kernel_rfl) (by kernel_rfl) rfl) ?_
  rintro _ w_ ⟨b1, rfl, hS1⟩
  refine sQ 2 (Y_assign (v := .slice (aD b1) 2 2) rfl rfl) (rw_nil (cw_ret ?_))
  obtain rfl := some_inj hF1
  exact ret1 Tryz.results75 (v1 := .slice (aD b1) 2 2) (resAt_tmp rfl) ⟨aD b1, 2, rfl, (hS1.sN [0])⟩
 ·skip
  have hF2 := cf' hF hb
  refine cw_seq (cw_region ?_)
  refine sQ 10 (Y_eq (k := .u8) (a := b) (b := 83) rfl rfl rfl) ?_
  refine sQ 9 (Y_assign (v := .bool (b == 83)) rfl rfl) (rw_nil ?_)
  refine cw_cond (b := (b == 83)) rfl (fun hb1 => ?_) (fun hb1 => ?_)
  ·skip
   have hF3 := ct hF2 hb1
   refine cw_seq (cw_region ?_)
   refine sQ 11 (Y_buildS (zs := [vi 0, vi 0, vi 0]) (vs := [(0, vi 7)]) (cs := [vi 7, vi 0, vi 0]) k_pl_70 k_zero_70 rfl (mpc rfl mpn) rfl) ?_
   refine sQ 12 (Y_buildS (zs := [vi 0, vi 0, vi 0]) (vs := [(0, vi 1)]) (cs := [vi 1, vi 0, vi 0]) k_pl_70 k_zero_70 rfl (mpc rfl mpn) rfl) ?_
   refine sQ 13 (Y_buildS (zs := [vi 0, vi 0, vi 0]) (vs := [(0, vi 5)]) (cs := [vi 5, vi 0, vi 0]) k_pl_70 k_zero_70 rfl (mpc rfl mpn) rfl) ?_
   refine sS 14 (Ys_bslice (s := 3) (len := 3) (vs := [(0, .agg #[vi 7, vi 0, vi 0]), (1, .agg #[vi 1, vi 0, vi 0]), (2, .agg #[vi 5, vi 0, vi 0])]) (cs := [vi 7, vi 0, vi 0, vi 1, vi 0, vi 0, vi 5, vi 0, vi 0]) (zs := [vi 0, vi 0, vi 0, vi 0, vi 0, vi 0, vi 0, vi 0, vi 0]) (m := 9) hS k_sl_37_70 k_sz_70_3 k_zc_70 rfl (mpc rfl (mpc rfl (mpc rfl mpn))) rfl rfl rfl (by kernel_rfl) (by kernel_rfl) rfl) ?_
   rintro _ w_1 ⟨b2, rfl, hS2⟩
   refine sQ 2 (Y_assign (v := .slice (aD b2) 3 3) rfl rfl) (rw_nil (cw_ret ?_))
   obtain rfl := some_inj hF3
   exact ret1 Tryz.results75 (v1 := .slice (aD b2) 3 3) (resAt_tmp rfl) ⟨aD b2, 3, rfl, (hS2.sN [0])⟩
  ·skip
   have hF4 := cf' hF2 hb1
   refine cw_skip (cw_seq (cw_region ?_))
   refine sQ 15 (Y_buildS (zs := [vi 0, vi 0, vi 0]) (vs := [(0, vi 7)]) (cs := [vi 7, vi 0, vi 0]) k_pl_70 k_zero_70 rfl (mpc rfl mpn) rfl) ?_
   refine sS 16 (Ys_bslice (s := 3) (len := 1) (vs := [(0, .agg #[vi 7, vi 0, vi 0])]) (cs := [vi 7, vi 0, vi 0]) (zs := [vi 0, vi 0, vi 0]) (m := 3) hS k_sl_37_70 k_sz_70_3 k_zc_70 rfl (mpc rfl mpn) rfl rfl rfl (by kernel_rfl) (by kernel_rfl) rfl) ?_
   rintro _ w_2 ⟨b3, rfl, hS3⟩
   refine sQ 2 (Y_assign (v := .slice (aD b3) 1 1) rfl rfl) (rw_nil (cw_ret ?_))
   obtain rfl := some_inj hF4
   exact ret1 Tryz.results75 (v1 := .slice (aD b3) 1 1) (resAt_tmp rfl) ⟨aD b3, 1, rfl, (hS3.sN [0])⟩

theorem c_impl_formGates (f_ : TNormalForm)  (w0 : World)  (hS : ST w0 [] w0 [] [⟨(aD 0), [vi 1, vi 0, vi 0, vi 0, vi 2]⟩]) {r_ : List TGate} (hF : F_impl_formGates f_ = some r_) :
  CV Tryz.prog 34 #[.agg #[.string (bstr f_.Syllables), vi f_.Clifford, vi f_.Phase]] w0 (fun v w' => ∃ (B : Option Addr) (c : Nat), v = .slice B r_.length c ∧ ST w0 [] w' [⟨B, 70, (r_.flatMap eN4), c * 3⟩] []) := by
 unfold F_impl_formGates at hF
 refine cv_of_cw 24 Tryz.func34 rfl Tryz.ntmps34 rfl ?_
 refine cw_seq (cw_region ?_)
 refine sS 1 (Ys_box (T := 42) (v := .agg #[.string (bstr f_.Syllables), vi f_.Clifford, vi f_.Phase]) (cs := [.string (bstr f_.Syllables), vi f_.Clifford, vi f_.Phase]) (m := 3) hS rfl rfl rfl rfl) ?_
 rintro _ w_ ⟨b, rfl, hS1⟩
 refine sQ 2 (Y_assign (v := .slice none 0 0) rfl rfl) (rw_nil (cw_seq (cw_region ?_)))
 refine sQ 5 (Y_fieldAddr (B := aD b) (i := 0) (s := 0) k_fd_42_1_1_3 k_sz_3_1 rfl rfl) ?_
 refine sQ 6 (Y_load1 (B := aD b) (i := 1) (cs := [.string (bstr f_.Syllables), vi f_.Clifford, vi f_.Phase]) (v := vi f_.Clifford) k_sc_3 rfl rfl (hS1.cf (i := 0) rfl) rfl) ?_
 obtain ⟨r_1, hc, hF⟩ := bind_inv hF
 refine sc 7 rfl rfl (Yc_func (g := 74) (vs := [vi f_.Clifford]) k_call_74 rfl (mc rfl mn) (c_impl_wordGates f_.Clifford _  (hS1.inn0 [(true, 0)] rfl) hc)) ?_
 rintro _ w_1 ⟨B1, c1, rfl, hd⟩
 have hS2 := hS1.out0 hd
 refine sQ 3 (Y_assign (v := .slice B1 r_1.length c1) rfl rfl) (rw_nil (cw_seq (cw_seq (cw_region ?_))))
 refine sQ 8 (Y_fieldAddr (B := aD b) (i := 0) (s := 0) k_fd_42_0_0_9 k_sz_9_1 rfl rfl) ?_
 refine sQ 9 (Y_load1 (B := aD b) (i := 0) (cs := [.string (bstr f_.Syllables), vi f_.Clifford, vi f_.Phase]) (v := .string (bstr f_.Syllables)) k_sc_9 rfl rfl (hS2.cf (i := 0) rfl) rfl) ?_
 refine sQ 10 (Y_slen (a := f_.Syllables) k_str_9 rfl rfl) ?_
 refine sQ 11 (Y_sub (k := .i64) (a := (f_.Syllables.length : Int)) (b := 1) rfl rfl rfl) ?_
 refine sQ 4 (Y_assign (v := vi (i64.wrap ((f_.Syllables.length : Int) - 1))) rfl rfl) (rw_nil ?_)
 obtain ⟨z, hz, hF1⟩ := bind_inv hF
 refine cw_block ?_
 refine cw_loop (fun k f w => ∃ (out : List TGate) (i : Int) (B2 : Option Addr) (c2 : Nat), FF f [(1, pt (aD b) 0), (3, .slice B2 out.length c2), (4, vi i)] ∧ ST w0 [] w [⟨aD b, 42, [.string (bstr f_.Syllables), vi f_.Clifford, vi f_.Phase], 3⟩, ⟨B2, 70, (out.flatMap eN4), c2 * 3⟩] [⟨(aD 0), [vi 1, vi 0, vi 0, vi 0, vi 2]⟩] ∧ whX (F_impl_formGates_l1 f_) k (out, i) = some z) fuel ⟨r_1, (i64.wrap ((f_.Syllables.length : Int) - 1)), B1, c1, (FF.cons rfl (FF.cons rfl (FF.cons rfl FF.nil))), (hS2.sel [0, 1] rfl rfl), hz⟩ ?_
 rintro k_ f w ⟨out, i, B2, c2, hf, hS3, hL⟩
 obtain ⟨k_1, y, rfl, hb, hL1⟩ := whX_go hL
 unfold F_impl_formGates_l1 at hb
 refine cw_seq (cw_seq (cw_region ?_))
 refine sQ 12 (Y_move (v := vi i) rfl (hf.get 4 2 rfl)) ?_
 refine sQ 13 (Y_ge (k := .i64) (a := i) (b := 0) rfl rfl rfl) (rw_nil ?_)
 refine cw_cond (b := (decide (0 ≤ i))) rfl (fun hb1 => ?_) (fun hb1 => ?_)
 ·skip
  have hF2 := ct hb hb1
  refine cw_skip (cw_seq (cw_block (cw_region ?_)))
  refine sQ 16 (Y_move (v := .slice B2 out.length c2) rfl (hf.get 3 1 rfl)) ?_
  refine sQ 17 (Y_fieldAddr (B := aD b) (i := 0) (s := 0) k_fd_42_0_0_9 k_sz_9_1 rfl (hf.get 1 0 rfl)) ?_
  refine sQ 18 (Y_load1 (B := aD b) (i := 0) (cs := [.string (bstr f_.Syllables), vi f_.Clifford, vi f_.Phase]) (v := .string (bstr f_.Syllables)) k_sc_9 rfl rfl (hS3.cf (i := 0) rfl) rfl) ?_
  refine sQ 19 (Y_move (v := vi i) rfl (hf.get 4 2 rfl)) ?_
  obtain ⟨x, hx, hF2⟩ := bind_inv hF2
  refine sQ 20 (Y_sidx (a := f_.Syllables) (k := .i64) (i := i) (b := x) k_str_9 rfl rfl rfl hx) ?_
  obtain ⟨r_2, hc1, hF2⟩ := bind_inv hF2
  refine sc 21 rfl rfl (Yc_func (g := 75) (vs := [.int .u8 (x.toNat : Int)]) k_call_75 rfl (mc rfl mn) (c_impl_syllableGates (x.toNat : Int) _  (hS3.inn0 [] rfl) hc1)) ?_
  rintro _ w_2 ⟨B3, c3, rfl, hd1⟩
  have hS4 := hS3.out0 hd1
  obtain ⟨hap, hF2⟩ := chk_inv hF2
  refine sS 22 (Ys_append (s := 3) (by' := 24) (i := 1) (nn := out.length) (c := c2) (k := r_2.length) (len := (out ++ r_2).length) (B := B2) (xs := (r_2.flatMap eN4)) (cs' := ((out ++ r_2).flatMap eN4)) hS4 k_sl_37_70 k_sz_70_3 k_by_70_24 k_zero_70 rfl (by decide) rfl rfl rfl rfl (fm_lenn (l := out) enc_Gate_len rfl) rfl (hS4.cf (i := 2) rfl) (fm_lenn (l := r_2) enc_Gate_len rfl) (fm_one' (enc := eN4) enc_Gate_one r_2) (by have := hap; omega) (by have := hap; simp only [maxLen]; omega) (fm_app _ _) (app_len (l := out) (l' := r_2) rfl rfl)) ?_
  rintro _ w_3 ⟨B4, c4, rfl, hS5⟩
  refine sQ 3 (Y_assign (v := .slice B4 ((out ++ r_2).length) c4) rfl rfl) (rw_nil (cw_region ?_))
  refine sQ 14 (Y_move (v := vi i) rfl (hf.get 4 2 rfl)) ?_
  refine sQ 15 (Y_sub (k := .i64) (a := i) (b := 1) rfl rfl rfl) ?_
  refine sQ 4 (Y_assign (v := vi (i64.wrap (i - 1))) rfl rfl) (rw_nil ?_)
  obtain rfl := some_inj hF2
  exact ⟨k_1, Nat.lt_succ_self _, (out ++ r_2), (i64.wrap (i - 1)), B4, c4, (FF.cons (hf.get 1 0 rfl) (FF.cons rfl (FF.cons rfl FF.nil))), (hS5.sel [0, 1] rfl rfl), hL1⟩
 ·skip
  have hF3 := cf' hb hb1
  refine cw_exit rfl ?_
  obtain rfl := some_inj hF3
  obtain rfl := some_inj hL1
  refine cw_seq (cw_region ?_)
  refine sQ 23 (Y_move (v := .slice B2 out.length c2) rfl (hf.get 3 1 rfl)) ?_
  refine sQ 2 (Y_assign (v := .slice B2 out.length c2) rfl rfl) (rw_nil (cw_ret ?_))
  obtain rfl := some_inj hF1
  exact ret1 Tryz.results34 (v1 := .slice B2 out.length c2) (resAt_tmp rfl) ⟨B2, c2, rfl, (hS3.sN [1])⟩

theorem c_slices_IndexFunc_impl_Gate_impl_Gate (s : List TGate) (f_ : TGate → Option (Bool)) (B : Option Addr) (c n : Nat) (kf : Nat) (caps : Array Value) (Rf : List Ro) (w0 : World) (hn : s.length = n) (hk : callB Tryz.prog kf = true) (hp : ∀ (w : World), ST w [] w [] Rf → ∀ (x : TGate) (y : Bool), f_ x = some y → CV Tryz.prog kf ((.agg #[vi x.Kind, vi x.A, vi x.B]) :: caps.toList).toArray w (fun v w' => v = .bool y ∧ ST w [] w' [] [])) (hS : ST w0 [] w0 [] (⟨B, (s.flatMap eN4)⟩ :: Rf)) {r_ : Int} (hF : F_slices_IndexFunc_impl_Gate_impl_Gate s f_ = some r_) :
  CV Tryz.prog 139 #[.slice B n c, .func (.func kf) #[] caps] w0 (fun v w' => v = vi r_ ∧ ST w0 [] w' [] []) := by
 subst hn
 unfold F_slices_IndexFunc_impl_Gate_impl_Gate at hF
 refine cv_of_cw 19 Tryz.func139 rfl Tryz.ntmps139 rfl ?_
 refine cw_seq (cw_region ?_)
 refine sQ 4 (Y_assign (v := vi 0) rfl rfl) (rw_nil (cw_seq (cw_seq (cw_region ?_))))
 refine sQ 6 (Y_move (v := .slice B s.length c) rfl rfl) ?_
 refine sQ 7 (Y_len (B := B) (m := s.length) (c := c) k_sl_37_70 rfl rfl) ?_
 refine sQ 8 (Y_move (v := vi 0) rfl rfl) (rw_nil ?_)
 obtain ⟨hN, hF⟩ := chk_inv hF
 obtain ⟨z, hz, hF1⟩ := bind_inv hF
 refine cw_block ?_
 refine cw_loop (fun k f w => ∃ (i : Nat), FF f [(0, .slice B s.length c), (1, .func (.func kf) #[] caps), (7, vi (s.length : Int)), (8, vi (i : Int))] ∧ ST w0 [] w [] (⟨B, (s.flatMap eN4)⟩ :: Rf) ∧ i + k = s.length ∧ forX (F_slices_IndexFunc_impl_Gate_impl_Gate_l1 s f_) k i () = some z) s.length ⟨0, (FF.cons rfl (FF.cons rfl (FF.cons rfl (FF.cons rfl FF.nil)))), (hS.sel [] rfl rfl), Nat.zero_add _, hz⟩ ?_
 rintro k_ f w ⟨i, hf, hS1, hik, hL⟩
 refine cw_seq (cw_region ?_)
 refine sQ 9 (Y_lt (k := .i64) (a := (i : Int)) (b := (s.length : Int)) rfl (hf.get 8 3 rfl) (hf.get 7 2 rfl)) (rw_nil (cw_seq ?_))
 refine cw_cond (b := (decide ((i : Int) < (s.length : Int)))) rfl (fun hlt => ?_) (fun hlt => ?_)
 ·skip
  have hlt1 : i < s.length := by have h := of_decide_eq_true hlt; omega
  obtain ⟨k_1, rfl⟩ : ∃ k2, k_ = k2 + 1 := ⟨k_ - 1, by omega⟩
  obtain ⟨y1, hb, hL1⟩ := forX_go hL
  unfold F_slices_IndexFunc_impl_Gate_impl_Gate_l1 at hb
  refine cw_skip (cw_seq (cw_block (cw_seq (cw_region ?_))))
  refine sQ 10 (Y_move (v := vi (i : Int)) rfl (hf.get 8 3 rfl)) ?_
  refine sQ 5 (Y_assign (v := vi (i : Int)) rfl rfl) (rw_nil (cw_seq (cw_region ?_)))
  refine sQ 11 (Y_move (v := .func (.func kf) #[] caps) rfl (hf.get 1 1 rfl)) ?_
  refine sQ 12 (Y_move (v := .slice B s.length c) rfl (hf.get 0 0 rfl)) ?_
  refine sQ 13 (Y_move (v := vi (i : Int)) rfl rfl) ?_
  obtain ⟨x1, hx, hb⟩ := bind_inv hb
  refine sQ 14 (Y_index (B := B) (m := s.length) (c := c) (k := .i64) (i := (i : Int)) k_sl_37_70 k_sz_70_3 rfl rfl rfl (gi_isSome enc_Gate_len rfl (hS1.rf (i := 0) rfl) hx) (getI_nn hx) (getI_ltI hx rfl)) ?_
  refine sQ 15 (Y_loadA (B := B) (i := (i : Int).toNat * 3) (cs := (s.flatMap eN4)) (vs := [vi x1.Kind, vi x1.A, vi x1.B]) k_ag_70 k_sz_70_3 rfl rfl (hS1.rf (i := 0) rfl) (enc_Gate_len x1) (gi_seg enc_Gate_len hx)) ?_
  obtain ⟨r_1, hc, hb⟩ := bind_inv hb
  refine sc 16 rfl rfl (Yc_clos (g := kf) (vs := (.agg #[vi x1.Kind, vi x1.A, vi x1.B]) :: caps.toList) hk rfl rfl (clo_args (mc rfl mn)) (hp _ (hS1.innS (fun _ h => mOd (i := 1) h)) x1 r_1 hc)) ?_
  rintro _ w_ ⟨rfl, hd⟩
  have hS2 := hS1.out00 hd
  refine rw_nil ?_
  refine cw_cond (b := r_1) rfl (fun hb1 => ?_) (fun hb1 => ?_)
  ·skip
   have hF2 := ct hb hb1
   refine cw_seq (cw_region ?_)
   refine sQ 17 (Y_move (v := vi (i : Int)) rfl rfl) ?_
   refine sQ 4 (Y_assign (v := vi (i : Int)) rfl rfl) (rw_nil (cw_ret ?_))
   obtain rfl := some_inj hF2
   obtain rfl := some_inj hL1
   obtain rfl := some_inj hF1
   exact ret1 Tryz.results139 (v1 := vi (i : Int)) (resAt_tmp rfl) ⟨rfl, (hS2.sN [])⟩
  ·skip
   have hF3 := cf' hb hb1
   refine cw_skip (cw_region ?_)
   refine sQ 18 (Y_add (k := .i64) (a := (i : Int)) (b := 1) rfl (hf.get 8 3 rfl) rfl) ?_
   refine sQ 8 (Y_move (v := vi (i64.wrap ((i : Int) + 1))) rfl rfl) (rw_nil ?_)
   obtain rfl := some_inj hF3
   exact ⟨k_1, Nat.lt_succ_self _, i + 1, (FF.cons (hf.get 0 0 rfl) (FF.cons (hf.get 1 1 rfl) (FF.cons (hf.get 7 2 rfl) (FF.cons (congrArg (Value.int .i64) (wr_succ hlt1 hN)) FF.nil)))), (hS2.sel [] rfl rfl), (by omega), hL1⟩
 ·skip
  obtain rfl : k_ = 0 := by have h := of_decide_eq_false hlt; omega
  refine cw_exit rfl ?_
  obtain rfl := some_inj hL
  refine cw_seq (cw_region ?_)
  refine sQ 4 (Y_assign (v := vi (-1)) rfl rfl) (rw_nil (cw_ret ?_))
  obtain rfl := some_inj hF1
  exact ret1 Tryz.results139 (v1 := vi (-1)) (resAt_tmp rfl) ⟨rfl, (hS1.sN [])⟩

theorem c_slices_ContainsFunc_impl_Gate_impl_Gate (s : List TGate) (f_ : TGate → Option (Bool)) (B : Option Addr) (c n : Nat) (kf : Nat) (caps : Array Value) (Rf : List Ro) (w0 : World) (hn : s.length = n) (hk : callB Tryz.prog kf = true) (hp : ∀ (w : World), ST w [] w [] Rf → ∀ (x : TGate) (y : Bool), f_ x = some y → CV Tryz.prog kf ((.agg #[vi x.Kind, vi x.A, vi x.B]) :: caps.toList).toArray w (fun v w' => v = .bool y ∧ ST w [] w' [] [])) (hS : ST w0 [] w0 [] (⟨B, (s.flatMap eN4)⟩ :: Rf)) {r_ : Bool} (hF : F_slices_ContainsFunc_impl_Gate_impl_Gate s f_ = some r_) :
  CV Tryz.prog 111 #[.slice B n c, .func (.func kf) #[] caps] w0 (fun v w' => v = .bool r_ ∧ ST w0 [] w' [] []) := by
 subst hn
 unfold F_slices_ContainsFunc_impl_Gate_impl_Gate at hF
 refine cv_of_cw 9 Tryz.func111 rfl Tryz.ntmps111 rfl ?_
 refine cw_seq (cw_region ?_)
 refine sQ 4 (Y_assign (v := .bool false) rfl rfl) (rw_nil (cw_seq (cw_region ?_)))
 refine sQ 5 (Y_move (v := .slice B s.length c) rfl rfl) ?_
 refine sQ 6 (Y_move (v := .func (.func kf) #[] caps) rfl rfl) ?_
 obtain ⟨r_1, hc, hF⟩ := bind_inv hF
 refine sc 7 rfl rfl (Yc_func (g := 139) (vs := [.slice B s.length c, .func (.func kf) #[] caps]) k_call_139 rfl (mc rfl (mc rfl mn)) (c_slices_IndexFunc_impl_Gate_impl_Gate s f_ B c s.length kf caps Rf _ rfl hk hp (hS.innS (subc (mem_at (i := 0) rfl) (fun _ h => mOd (i := 1) h))) hc)) ?_
 rintro _ w_ ⟨rfl, hd⟩
 have hS1 := hS.out00 hd
 refine sQ 8 (Y_ge (k := .i64) (a := r_1) (b := 0) rfl rfl rfl) ?_
 refine sQ 4 (Y_assign (v := .bool (decide (0 ≤ r_1))) rfl rfl) (rw_nil (cw_ret ?_))
 obtain rfl := some_inj hF
 exact ret1 Tryz.results111 (v1 := .bool (decide (0 ≤ r_1))) (resAt_tmp rfl) ⟨rfl, (hS1.sN [])⟩

theorem c_impl_IsValidCircuit_1 (g : TGate) (p : TCircuit) (B : Option Addr) (B1 : Option Addr) (c n : Nat) (w0 : World) (hn : p.Gates.length = n) (hS : ST w0 [] w0 [] [⟨B, [vi p.Qubits, .slice B1 n c]⟩, ⟨B1, (p.Gates.flatMap eN4)⟩]) {r_ : Bool} (hF : F_impl_IsValidCircuit_1 g p = some r_) :
  CV Tryz.prog 112 #[.agg #[vi g.Kind, vi g.A, vi g.B], pt B 0] w0 (fun v w' => v = .bool r_ ∧ ST w0 [] w' [] []) := by
 subst hn
 unfold F_impl_IsValidCircuit_1 at hF
 refine cv_of_cw 9 Tryz.func112 rfl Tryz.ntmps112 rfl ?_
 refine cw_seq (cw_region ?_)
 refine sS 2 (Ys_box (T := 70) (v := .agg #[vi g.Kind, vi g.A, vi g.B]) (cs := [vi g.Kind, vi g.A, vi g.B]) (m := 3) hS rfl rfl rfl rfl) ?_
 rintro _ w_ ⟨b, rfl, hS1⟩
 refine sQ 3 (Y_assign (v := .bool false) rfl rfl) (rw_nil (cw_seq (cw_region ?_)))
 refine sQ 4 (Y_fieldAddr (B := B) (i := 0) (s := 0) k_fd_39_0_0_3 k_sz_3_1 rfl rfl) ?_
 refine sQ 5 (Y_load1 (B := B) (i := 0) (cs := [vi p.Qubits, .slice B1 p.Gates.length c]) (v := vi p.Qubits) k_sc_3 rfl rfl (hS1.rf (i := 0) rfl) rfl) ?_
 refine sQ 6 (Y_loadA (B := aD b) (i := 0) (cs := [vi g.Kind, vi g.A, vi g.B]) (vs := [vi g.Kind, vi g.A, vi g.B]) k_ag_70 k_sz_70_3 rfl rfl (hS1.cf (i := 0) rfl) rfl rfl) ?_
 obtain ⟨r_1, hc, hF⟩ := bind_inv hF
 refine sc 7 rfl rfl (Yc_func (g := 113) (vs := [vi p.Qubits, .agg #[vi g.Kind, vi g.A, vi g.B]]) k_call_113 rfl (mc rfl (mc rfl mn)) (c_impl_IsValidGate p.Qubits g _  (hS1.inn0 [] rfl) hc)) ?_
 rintro _ w_1 ⟨rfl, hd⟩
 have hS2 := hS1.out00 hd
 refine sQ 8 (Y_not (p := r_1) rfl rfl) ?_
 refine sQ 3 (Y_assign (v := .bool (!r_1)) rfl rfl) (rw_nil (cw_ret ?_))
 obtain rfl := some_inj hF
 exact ret1 Tryz.results112 (v1 := .bool (!r_1)) (resAt_tmp rfl) ⟨rfl, (hS2.sN [])⟩

theorem c_impl_IsValidCircuit (c : TCircuit) (B : Option Addr) (c1 n : Nat) (w0 : World) (hn : c.Gates.length = n) (hS : ST w0 [] w0 [] [⟨B, (c.Gates.flatMap eN4)⟩]) {r_ : Bool} (hF : F_impl_IsValidCircuit c = some r_) :
  CV Tryz.prog 76 #[.agg #[vi c.Qubits, .slice B n c1]] w0 (fun v w' => v = .bool r_ ∧ ST w0 [] w' [] []) := by
 subst hn
 unfold F_impl_IsValidCircuit at hF
 refine cv_of_cw 19 Tryz.func76 rfl Tryz.ntmps76 rfl ?_
 refine cw_seq (cw_region ?_)
 refine sS 1 (Ys_box (T := 39) (v := .agg #[vi c.Qubits, .slice B c.Gates.length c1]) (cs := [vi c.Qubits, .slice B c.Gates.length c1]) (m := 2) hS rfl rfl rfl rfl) ?_
 rintro _ w_ ⟨b, rfl, hS1⟩
 refine sQ 2 (Y_assign (v := .bool false) rfl rfl) (rw_nil (cw_seq (cw_region ?_)))
 refine sQ 3 (Y_fieldAddr (B := aD b) (i := 0) (s := 0) k_fd_39_0_0_3 k_sz_3_1 rfl rfl) ?_
 refine sQ 4 (Y_load1 (B := aD b) (i := 0) (cs := [vi c.Qubits, .slice B c.Gates.length c1]) (v := vi c.Qubits) k_sc_3 rfl rfl (hS1.cf (i := 0) rfl) rfl) ?_
 obtain ⟨r_1, hc, hF⟩ := bind_inv hF
 refine sc 5 rfl rfl (Yc_func (g := 73) (vs := [vi c.Qubits, vi 1, vi 5]) k_call_73 rfl (mc rfl (mc rfl (mc rfl mn))) (c_impl_within c.Qubits 1 5 _  (hS1.inn0 [] rfl) hc)) ?_
 rintro _ w_1 ⟨rfl, hd⟩
 have hS2 := hS1.out00 hd
 refine sQ 6 (Y_move (v := .bool r_1) rfl rfl) ?_
 refine sgq 7 (B := r_1) (v := pt (aD b) 1) rfl rfl (uT_ 6) (fun hg => (Y_fieldAddr (B := aD b) (i := 0) (s := 0) k_fd_39_1_1_37 k_sz_37_1 rfl rfl)) ?_
 refine sgq 8 (B := r_1) (v := .slice B c.Gates.length c1) rfl rfl (uT_ 6) (fun hg1 => (Y_load1 (B := aD b) (i := 1) (cs := [vi c.Qubits, .slice B c.Gates.length c1]) (v := .slice B c.Gates.length c1) k_sc_37 rfl (gv_of (v := pt (aD b) 1) hg1) (hS2.cf (i := 0) rfl) rfl)) ?_
 refine sgq 9 (B := r_1) (v := vi (c.Gates.length : Int)) rfl rfl (uT_ 6) (fun hg2 => (Y_len (B := B) (m := c.Gates.length) (c := c1) k_sl_37_70 rfl (gv_of (v := .slice B c.Gates.length c1) hg2))) ?_
 refine sgq 10 (B := r_1) (v := .bool (decide ((c.Gates.length : Int) ≤ 400))) rfl rfl (uT_ 6) (fun hg3 => (Y_le (k := .i64) (a := (c.Gates.length : Int)) (b := 400) rfl (gv_of (v := vi (c.Gates.length : Int)) hg3) rfl)) ?_
 refine sQ 11 (Y_and (b := r_1) (z := (decide ((c.Gates.length : Int) ≤ 400))) rfl rfl rfl rfl) ?_
 refine sQ 12 (Y_move (v := .bool (r_1 && (decide ((c.Gates.length : Int) ≤ 400)))) rfl rfl) ?_
 refine sgq 13 (B := (r_1 && (decide ((c.Gates.length : Int) ≤ 400)))) (v := pt (aD b) 1) rfl rfl (uT_ 12) (fun hg4 => (Y_fieldAddr (B := aD b) (i := 0) (s := 0) k_fd_39_1_1_37 k_sz_37_1 rfl rfl)) ?_
 refine sgq 14 (B := (r_1 && (decide ((c.Gates.length : Int) ≤ 400)))) (v := .slice B c.Gates.length c1) rfl rfl (uT_ 12) (fun hg5 => (Y_load1 (B := aD b) (i := 1) (cs := [vi c.Qubits, .slice B c.Gates.length c1]) (v := .slice B c.Gates.length c1) k_sc_37 rfl (gv_of (v := pt (aD b) 1) hg5) (hS2.cf (i := 0) rfl) rfl)) ?_
 refine sgq 15 (B := (r_1 && (decide ((c.Gates.length : Int) ≤ 400)))) (v := .func (.func 112) #[] #[pt (aD b) 0]) rfl rfl (uT_ 12) (fun hg6 => (Y_makeFunc (cs := [pt (aD b) 0]) rfl rfl (mc rfl mn))) ?_
 obtain ⟨r_2, hc1, hF⟩ := bind_inv hF
 refine sgc 16 (B := (r_1 && (decide ((c.Gates.length : Int) ≤ 400)))) (v := .bool r_2) (F := hS2.fn) rfl rfl (uT_ 12) hS2 (fun hg7 => (Yc_func (g := 111) (vs := [.slice B c.Gates.length c1, .func (.func 112) #[] #[pt (aD b) 0]]) k_call_111 rfl (mc (gv_of (v := .slice B c.Gates.length c1) hg7) (mc (gv_of (v := .func (.func 112) #[] #[pt (aD b) 0]) hg7) mn)) (CV.mono (c_slices_ContainsFunc_impl_Gate_impl_Gate c.Gates (fun x_0 => F_impl_IsValidCircuit_1 x_0 c) B c1 c.Gates.length 112 (#[pt (aD b) 0]) [⟨aD b, [vi c.Qubits, .slice B c.Gates.length c1]⟩, ⟨B, (c.Gates.flatMap eN4)⟩] _ rfl k_call_112 (fun w hw x_0 y_0 h_ => c_impl_IsValidCircuit_1 x_0 c (aD b) B c1 c.Gates.length w rfl hw h_) (hS2.inn0 [(true, 0), (false, 0), (true, 0)] rfl) (gb_inv hc1 hg7)) (by rintro _ _ ⟨rfl, h⟩; exact ⟨rfl, hS2.out00 h⟩)))) ?_
 rintro w_2 hS3
 refine sgq 17 (B := (r_1 && (decide ((c.Gates.length : Int) ≤ 400)))) (v := .bool (!r_2)) rfl rfl (uT_ 12) (fun hg8 => (Y_not (p := r_2) rfl (gv_of (v := .bool r_2) hg8))) ?_
 refine sQ 18 (Y_and (b := (r_1 && (decide ((c.Gates.length : Int) ≤ 400)))) (z := (!r_2)) rfl rfl rfl rfl) ?_
 refine sQ 2 (Y_assign (v := .bool ((r_1 && (decide ((c.Gates.length : Int) ≤ 400))) && (!r_2))) rfl rfl) (rw_nil (cw_ret ?_))
 obtain rfl := some_inj hF
 exact ret1 Tryz.results76 (v1 := .bool ((r_1 && (decide ((c.Gates.length : Int) ≤ 400))) && (!r_2))) (resAt_tmp rfl) ⟨rfl, (hS3.sN [])⟩

theorem c_impl_applied (c : TCircuit) (m : TMatrix) (ok : Bool) (B : Option Addr) (c1 n : Nat) (B1 : Option Addr) (c2 n1 : Nat) (w0 : World) (hn : c.Gates.length = n) (hn1 : m.Cells.length = n1) (hS : ST w0 (bl [⟨B1, 65, (m.Cells.flatMap eN0), c2 * 5⟩]) w0 [⟨B1, 65, (m.Cells.flatMap eN0), c2 * 5⟩] [⟨B, (c.Gates.flatMap eN4)⟩]) {r_ : TMatrix} {r_1 : Bool} (hF : F_impl_applied c m ok = some (r_, r_1)) :
  CV Tryz.prog 81 #[.agg #[vi c.Qubits, .slice B n c1], .agg #[vi m.Rows, vi m.Cols, .slice B1 n1 c2], .bool ok] w0 (fun v w' => ∃ (B2 : Option Addr) (c3 : Nat), v = .tuple #[gM_ r_ B2 c3, .bool r_1] ∧ ST w0 (bl [⟨B1, 65, (m.Cells.flatMap eN0), c2 * 5⟩]) w' [⟨B2, 65, (r_.Cells.flatMap eN0), c3 * 5⟩] []) := by
 subst hn
 subst hn1
 unfold F_impl_applied at hF
 refine cv_of_cw 40 Tryz.func81 rfl Tryz.ntmps81 rfl ?_
 refine cw_seq (cw_region ?_)
 refine sS 3 (Ys_box (T := 39) (v := .agg #[vi c.Qubits, .slice B c.Gates.length c1]) (cs := [vi c.Qubits, .slice B c.Gates.length c1]) (m := 2) hS rfl rfl rfl rfl) ?_
 rintro _ w_ ⟨b, rfl, hS1⟩
 refine sS 4 (Ys_box (T := 48) (v := gM_ m B1 c2) (cs := kM_ m B1 c2) (m := 3) hS1 rfl rfl rfl rfl) ?_
 rintro _ w_1 ⟨b1, rfl, hS2⟩
 refine sS 6 (Ys_alloc (T := 48) (cs := kN_) (m := 3) hS2 k_zero_48 rfl rfl rfl) ?_
 rintro _ w_2 ⟨b2, rfl, hS3⟩
 refine sQ 7 (Y_assign (v := .bool false) rfl rfl) (rw_nil (cw_seq (cw_seq (cw_region ?_))))
 refine sQ 8 (Y_assign (v := vi 0) rfl rfl) (rw_nil ?_)
 obtain ⟨z, hz, hF1⟩ := bind_inv hF
 refine cw_block ?_
 refine cw_loop (fun k f w => ∃ (ok1 : Bool) (Rows : Int) (Cols : Int) (Cells : List TDyadic) (i : Int) (B3 : Option Addr) (c4 : Nat), FF f [(2, .bool ok1), (3, pt (aD b) 0), (4, pt (aD b1) 0), (6, pt (aD b2) 0), (8, vi i)] ∧ ST w0 (bl [⟨B1, 65, (m.Cells.flatMap eN0), c2 * 5⟩]) w [⟨aD b, 39, [vi c.Qubits, .slice B c.Gates.length c1], 2⟩, ⟨aD b1, 48, [vi Rows, vi Cols, .slice B3 Cells.length c4], 3⟩, ⟨B3, 65, (Cells.flatMap eN0), c4 * 5⟩, ⟨aD b2, 48, kN_, 3⟩] [⟨B, (c.Gates.flatMap eN4)⟩] ∧ whX (F_impl_applied_l1 c) k (ok1, Rows, Cols, Cells, i) = some z) fuel ⟨ok, m.Rows, m.Cols, m.Cells, 0, B1, c2, (FF.cons rfl (FF.cons rfl (FF.cons rfl (FF.cons rfl (FF.cons rfl FF.nil))))), (hS3.sel [1, 2, 0, 3] rfl rfl), hz⟩ ?_
 rintro k_ f w ⟨ok1, Rows, Cols, Cells, i, B3, c4, hf, hS4, hL⟩
 obtain ⟨k_1, y, rfl, hb, hL1⟩ := whX_go hL
 unfold F_impl_applied_l1 at hb
 refine cw_seq (cw_seq (cw_region ?_))
 refine sQ 11 (Y_move (v := vi i) rfl (hf.get 8 4 rfl)) ?_
 refine sQ 12 (Y_fieldAddr (B := aD b) (i := 0) (s := 0) k_fd_39_1_1_37 k_sz_37_1 rfl (hf.get 3 1 rfl)) ?_
 refine sQ 13 (Y_load1 (B := aD b) (i := 1) (cs := [vi c.Qubits, .slice B c.Gates.length c1]) (v := .slice B c.Gates.length c1) k_sc_37 rfl rfl (hS4.cf (i := 0) rfl) rfl) ?_
 refine sQ 14 (Y_len (B := B) (m := c.Gates.length) (c := c1) k_sl_37_70 rfl rfl) ?_
 refine sQ 15 (Y_lt (k := .i64) (a := i) (b := (c.Gates.length : Int)) rfl rfl rfl) ?_
 refine sQ 16 (Y_move (v := .bool (decide (i < (c.Gates.length : Int)))) rfl rfl) ?_
 refine sgq 17 (B := (decide (i < (c.Gates.length : Int)))) (v := .bool ok1) rfl rfl (uT_ 16) (fun hg => (Y_move (v := .bool ok1) rfl (hf.get 2 0 rfl))) ?_
 refine sQ 18 (Y_and (b := (decide (i < (c.Gates.length : Int)))) (z := ok1) rfl rfl rfl rfl) (rw_nil ?_)
 refine cw_cond (b := ((decide (i < (c.Gates.length : Int))) && ok1)) rfl (fun hb1 => ?_) (fun hb1 => ?_)
 ·skip
  have hF2 := ct hb hb1
  refine cw_skip (cw_seq (cw_block (cw_seq ?_)))
  obtain ⟨x, hx, hF2⟩ := bind_inv hF2
  obtain ⟨⟨r_2, r_3⟩, hc, hF2⟩ := bind_inv hF2
  refine cw_mid (fun f w => ∃ (B5 : Option Addr) (B6 : Option Addr) (c6 : Nat), FF f [(3, pt (aD b) 0), (4, pt (aD b1) 0), (6, pt (aD b2) 0), (8, vi i), (9, pt B5 0)] ∧ ST w0 (bl [⟨B1, 65, (m.Cells.flatMap eN0), c2 * 5⟩]) w [⟨aD b, 39, [vi c.Qubits, .slice B c.Gates.length c1], 2⟩, ⟨aD b1, 48, [vi Rows, vi Cols, .slice B3 Cells.length c4], 3⟩, ⟨B3, 65, (Cells.flatMap eN0), c4 * 5⟩, ⟨aD b2, 48, kN_, 3⟩, ⟨B5, 48, kM_ r_2 B6 c6, 3⟩, ⟨B6, 65, (r_2.Cells.flatMap eN0), c6 * 5⟩] [⟨B, (c.Gates.flatMap eN4)⟩]) ?_ ?_
  ·skip
   refine ra_start (hS4.se [0, 1, 2, 3]).fn (by kernel_rfl) ?_
   have hS7 := hS4.drew
   refine rq 0 22 (v := pt (aD b) 0) rfl (hS7.se [0, 1, 2, 3]) (fun w' hw' => (Y_fieldAddr (B := aD b) (i := 0) (s := 0) k_fd_39_0_0_3 k_sz_3_1 rfl (hf.get 3 1 rfl))) ?_
   refine rq 1 23 (v := vi c.Qubits) rfl (hS7.se [0, 1, 2, 3]) (fun w' hw' => (Y_load1 (B := aD b) (i := 0) (cs := [vi c.Qubits, .slice B c.Gates.length c1]) (v := vi c.Qubits) k_sc_3 rfl rfl (ST.cf hw' (i := 0) rfl) rfl)) ?_
   refine rq 2 24 (v := pt (aD b) 1) rfl (hS7.se [0, 1, 2, 3]) (fun w' hw' => (Y_fieldAddr (B := aD b) (i := 0) (s := 0) k_fd_39_1_1_37 k_sz_37_1 rfl (hf.get 3 1 rfl))) ?_
   refine rq 3 25 (v := .slice B c.Gates.length c1) rfl (hS7.se [0, 1, 2, 3]) (fun w' hw' => (Y_load1 (B := aD b) (i := 1) (cs := [vi c.Qubits, .slice B c.Gates.length c1]) (v := .slice B c.Gates.length c1) k_sc_37 rfl rfl (ST.cf hw' (i := 0) rfl) rfl)) ?_
   refine rq 4 26 (v := vi i) rfl (hS7.se [0, 1, 2, 3]) (fun w' hw' => (Y_move (v := vi i) rfl (hf.get 8 4 rfl))) ?_
   refine rq 5 27 (v := pt B (i.toNat * 3)) rfl (hS7.se [0, 1, 2, 3]) (fun w' hw' => (Y_index (B := B) (m := c.Gates.length) (c := c1) (k := .i64) (i := i) k_sl_37_70 k_sz_70_3 rfl rfl rfl (gi_isSome enc_Gate_len rfl (ST.rf hw' (i := 0) rfl) hx) (getI_nn hx) (getI_ltI hx rfl))) ?_
   refine rq 6 28 (v := .agg #[vi x.Kind, vi x.A, vi x.B]) rfl (hS7.se [0, 1, 2, 3]) (fun w' hw' => (Y_loadA (B := B) (i := i.toNat * 3) (cs := (c.Gates.flatMap eN4)) (vs := [vi x.Kind, vi x.A, vi x.B]) k_ag_70 k_sz_70_3 rfl rfl (ST.rf hw' (i := 0) rfl) (enc_Gate_len x) (gi_seg enc_Gate_len hx))) ?_
   refine rA [7, 11] ?_
   refine ra_c 29 (i := 7) rfl rfl rfl (Yc_func (g := 106) (vs := [vi c.Qubits, .agg #[vi x.Kind, vi x.A, vi x.B]]) k_call_106 rfl (mc rfl (mc rfl mn)) (c_impl_GateMatrix c.Qubits x _  (hS7.inn0 [] rfl) hc)) ?_ ?_
   ·rintro _ w_3 ⟨B4, c5, rfl, hd⟩
    have hS8 := hS7.out0 hd
    refine ⟨(hS8.se [0, 1, 2, 3]), ?_⟩
    refine rq 8 21 (v := .tuple #[gM_ r_2 B4 c5, .bool r_3]) rfl (hS8.se [0, 1, 2, 3]) (fun w' hw' => (Y_move (v := .tuple #[gM_ r_2 B4 c5, .bool r_3]) rfl rfl)) ?_
    refine rq 9 30 (v := gM_ r_2 B4 c5) rfl (hS8.se [0, 1, 2, 3]) (fun w' hw' => (Y_extract (v := gM_ r_2 B4 c5) rfl rfl rfl)) ?_
    refine rq 10 31 (v := .bool r_3) rfl (hS8.se [0, 1, 2, 3]) (fun w' hw' => (Y_extract (v := .bool r_3) rfl rfl rfl)) ?_
    refine rA [11] ?_
    refine ra_s 9 (i := 11) rfl rfl rfl (Ys_alloc (T := 48) (cs := kN_) (m := 3) hS8 k_zero_48 rfl rfl rfl) ?_ ?_
    ·rintro _ w_4 ⟨b3, rfl, hS9⟩
     refine ⟨(hS9.se [0, 1, 2, 3]), ?_⟩
     refine rA [12] ?_
     refine ra_s0 (i := 12) rfl rfl rfl (Ys_store (i := 5) (s := 3) (B := aD b3) (T' := 48) (v := gM_ r_2 B4 c5) (vs := kM_ r_2 B4 c5) (k := 0) (cs' := kM_ r_2 B4 c5) hS9 k_sz_48_3 rfl rfl rfl rfl rfl rfl rfl (lB rfl) rfl rfl) ?_ ?_
     ·rintro _ w_5 ⟨rfl, hS10⟩
      refine ⟨(hS10.se [0, 1, 2, 3]), ?_⟩
      refine rq 13 10 (v := .bool r_3) rfl (hS10.se [0, 1, 2, 3]) (fun w' hw' => (Y_assign (v := .bool r_3) rfl rfl)) ?_
      refine ra_done (by kernel_rfl) ?_
      exact ⟨aD b3, B4, c5, (FF.cons (hf.get 3 1 rfl) (FF.cons (hf.get 4 2 rfl) (FF.cons (hf.get 6 3 rfl) (FF.cons (hf.get 8 4 rfl) (FF.cons rfl FF.nil))))), (hS10.sel [0, 1, 2, 3, 5, 4] rfl rfl)⟩
     exact allR_nil
    exact allR_nil
   refine ra_s 9 (i := 11) rfl rfl rfl (Ys_alloc (T := 48) (cs := kN_) (m := 3) hS7 k_zero_48 rfl rfl rfl) ?_ ?_
   ·rintro _ w_6 ⟨b3, rfl, hS11⟩
    refine ⟨(hS11.se [0, 1, 2, 3]), ?_⟩
    refine rA [7] ?_
    refine ra_c 29 (i := 7) rfl rfl rfl (Yc_func (g := 106) (vs := [vi c.Qubits, .agg #[vi x.Kind, vi x.A, vi x.B]]) k_call_106 rfl (mc rfl (mc rfl mn)) (c_impl_GateMatrix c.Qubits x _  (hS11.inn0 [] rfl) hc)) ?_ ?_
    ·rintro _ w_7 ⟨B4, c5, rfl, hd1⟩
     have hS12 := hS11.out0 hd1
     refine ⟨(hS12.se [0, 1, 2, 3]), ?_⟩
     refine rq 8 21 (v := .tuple #[gM_ r_2 B4 c5, .bool r_3]) rfl (hS12.se [0, 1, 2, 3]) (fun w' hw' => (Y_move (v := .tuple #[gM_ r_2 B4 c5, .bool r_3]) rfl rfl)) ?_
     refine rq 9 30 (v := gM_ r_2 B4 c5) rfl (hS12.se [0, 1, 2, 3]) (fun w' hw' => (Y_extract (v := gM_ r_2 B4 c5) rfl rfl rfl)) ?_
     refine rq 10 31 (v := .bool r_3) rfl (hS12.se [0, 1, 2, 3]) (fun w' hw' => (Y_extract (v := .bool r_3) rfl rfl rfl)) ?_
     refine rA [12] ?_
     refine ra_s0 (i := 12) rfl rfl rfl (Ys_store (i := 4) (s := 3) (B := aD b3) (T' := 48) (v := gM_ r_2 B4 c5) (vs := kM_ r_2 B4 c5) (k := 0) (cs' := kM_ r_2 B4 c5) hS12 k_sz_48_3 rfl rfl rfl rfl rfl rfl rfl (lB rfl) rfl rfl) ?_ ?_
     ·rintro _ w_8 ⟨rfl, hS13⟩
      refine ⟨(hS13.se [0, 1, 2, 3]), ?_⟩
      refine rq 13 10 (v := .bool r_3) rfl (hS13.se [0, 1, 2, 3]) (fun w' hw' => (Y_assign (v := .bool r_3) rfl rfl)) ?_
      refine ra_done (by kernel_rfl) ?_
      exact ⟨aD b3, B4, c5, (FF.cons (hf.get 3 1 rfl) (FF.cons (hf.get 4 2 rfl) (FF.cons (hf.get 6 3 rfl) (FF.cons (hf.get 8 4 rfl) (FF.cons rfl FF.nil))))), (hS13.sel [0, 1, 2, 3, 4, 5] rfl rfl)⟩
     exact allR_nil
    exact allR_nil
   exact allR_nil
  rintro f w ⟨B5, B6, c6, hf1, hS6⟩
  refine cw_region ?_
  refine sQ 33 (Y_loadA (B := B5) (i := 0) (cs := kM_ r_2 B6 c6) (vs := kM_ r_2 B6 c6) k_ag_48 k_sz_48_3 rfl (hf1.get 9 4 rfl) (hS6.cf (i := 4) rfl) rfl rfl) ?_
  refine sQ 34 (Y_loadA (B := aD b1) (i := 0) (cs := [vi Rows, vi Cols, .slice B3 Cells.length c4]) (vs := [vi Rows, vi Cols, .slice B3 Cells.length c4]) k_ag_48 k_sz_48_3 rfl (hf1.get 4 1 rfl) (hS6.cf (i := 1) rfl) rfl rfl) ?_
  obtain ⟨⟨r_4, r_5⟩, hc1, hF2⟩ := bind_inv hF2
  refine sc 35 rfl rfl (Yc_func (g := 116) (vs := [gM_ r_2 B6 c6, .agg #[vi Rows, vi Cols, .slice B3 Cells.length c4]]) k_call_116 rfl (mc rfl (mc rfl mn)) (c_impl_MulMatrix r_2 (TMatrix.mk Rows Cols Cells) B6 c6 r_2.Cells.length B3 c4 Cells.length _ rfl rfl (hS6.inn0 [(false, 5), (false, 2)] rfl) hc1)) ?_
  rintro _ w_9 ⟨B7, c7, rfl, hd2⟩
  have hS14 := hS6.out0 hd2
  refine sQ 32 (Y_move (v := .tuple #[gM_ r_4 B7 c7, .bool r_5]) rfl rfl) ?_
  refine sQ 36 (Y_extract (v := gM_ r_4 B7 c7) rfl rfl rfl) ?_
  refine sQ 37 (Y_extract (v := .bool r_5) rfl rfl rfl) ?_
  refine s0 (Ys_store (i := 1) (s := 3) (B := aD b1) (T' := 48) (v := gM_ r_4 B7 c7) (vs := kM_ r_4 B7 c7) (k := 0) (cs' := kM_ r_4 B7 c7) hS14 k_sz_48_3 rfl (hf1.get 4 1 rfl) rfl rfl rfl rfl rfl (lB rfl) rfl rfl) ?_
  rintro _ w_10 ⟨rfl, hS15⟩
  refine sQ 2 (Y_assign (v := .bool r_5) rfl rfl) (rw_nil (cw_region ?_))
  refine sQ 19 (Y_move (v := vi i) rfl (hf1.get 8 3 rfl)) ?_
  refine sQ 20 (Y_add (k := .i64) (a := i) (b := 1) rfl rfl rfl) ?_
  refine sQ 8 (Y_assign (v := vi (i64.wrap (i + 1))) rfl rfl) (rw_nil ?_)
  obtain rfl := some_inj hF2
  exact ⟨k_1, Nat.lt_succ_self _, r_5, r_4.Rows, r_4.Cols, r_4.Cells, (i64.wrap (i + 1)), B7, c7, (FF.cons rfl (FF.cons (hf1.get 3 0 rfl) (FF.cons (hf1.get 4 1 rfl) (FF.cons (hf1.get 6 2 rfl) (FF.cons rfl FF.nil))))), (hS15.sel [0, 1, 6, 3] rfl rfl), hL1⟩
 ·skip
  have hF3 := cf' hb hb1
  refine cw_exit rfl ?_
  obtain rfl := some_inj hF3
  obtain rfl := some_inj hL1
  refine cw_seq (cw_region ?_)
  refine sQ 38 (Y_loadA (B := aD b1) (i := 0) (cs := [vi Rows, vi Cols, .slice B3 Cells.length c4]) (vs := [vi Rows, vi Cols, .slice B3 Cells.length c4]) k_ag_48 k_sz_48_3 rfl (hf.get 4 2 rfl) (hS4.cf (i := 1) rfl) rfl rfl) ?_
  refine sQ 39 (Y_move (v := .bool ok1) rfl (hf.get 2 0 rfl)) ?_
  refine s0 (Ys_store (i := 3) (s := 3) (B := aD b2) (T' := 48) (v := .agg #[vi Rows, vi Cols, .slice B3 Cells.length c4]) (vs := [vi Rows, vi Cols, .slice B3 Cells.length c4]) (k := 0) (cs' := [vi Rows, vi Cols, .slice B3 Cells.length c4]) hS4 k_sz_48_3 rfl (hf.get 6 3 rfl) rfl rfl rfl rfl rfl (lB rfl) rfl rfl) ?_
  rintro _ w_11 ⟨rfl, hS16⟩
  refine sQ 7 (Y_assign (v := .bool ok1) rfl rfl) (rw_nil (cw_ret ?_))
  obtain ⟨rfl, rfl⟩ := pr2 (some_inj hF1)
  exact ret2 Tryz.results81 (v1 := .agg #[vi Rows, vi Cols, .slice B3 Cells.length c4]) (resAt_cellA (B := aD b2) (i := 0) (cs := [vi Rows, vi Cols, .slice B3 Cells.length c4]) (vs := [vi Rows, vi Cols, .slice B3 Cells.length c4]) (hf.get 6 3 rfl) k_ag_48 k_sz_48_3 (hS16.cf (i := 3) rfl) rfl rfl) (v2 := .bool ok1) (resAt_tmp rfl) ⟨B3, c4, rfl, (hS16.sN [2])⟩

theorem c_impl_OperatorOf (c : TCircuit) (B : Option Addr) (c1 n : Nat) (w0 : World) (hn : c.Gates.length = n) (hS : ST w0 [] w0 [] [⟨B, (c.Gates.flatMap eN4)⟩]) {r_ : TMatrix} {r_1 : Bool} (hF : F_impl_OperatorOf c = some (r_, r_1)) :
  CV Tryz.prog 40 #[.agg #[vi c.Qubits, .slice B n c1]] w0 (fun v w' => ∃ (B1 : Option Addr) (c2 : Nat), v = .tuple #[gM_ r_ B1 c2, .bool r_1] ∧ ST w0 [] w' [⟨B1, 65, (r_.Cells.flatMap eN0), c2 * 5⟩] []) := by
 subst hn
 unfold F_impl_OperatorOf at hF
 refine cv_of_cw 23 Tryz.func40 rfl Tryz.ntmps40 rfl ?_
 refine cw_seq (cw_region ?_)
 refine sS 1 (Ys_box (T := 39) (v := .agg #[vi c.Qubits, .slice B c.Gates.length c1]) (cs := [vi c.Qubits, .slice B c.Gates.length c1]) (m := 2) hS rfl rfl rfl rfl) ?_
 rintro _ w_ ⟨b, rfl, hS1⟩
 refine sS 2 (Ys_alloc (T := 48) (cs := kN_) (m := 3) hS1 k_zero_48 rfl rfl rfl) ?_
 rintro _ w_1 ⟨b1, rfl, hS2⟩
 refine sQ 3 (Y_assign (v := .bool false) rfl rfl) (rw_nil (cw_seq (cw_seq (cw_region ?_))))
 refine sQ 6 (Y_loadA (B := aD b) (i := 0) (cs := [vi c.Qubits, .slice B c.Gates.length c1]) (vs := [vi c.Qubits, .slice B c.Gates.length c1]) k_ag_39 k_sz_39_2 rfl rfl (hS2.cf (i := 0) rfl) rfl rfl) ?_
 obtain ⟨r_2, hc, hF⟩ := bind_inv hF
 refine sc 7 rfl rfl (Yc_func (g := 76) (vs := [.agg #[vi c.Qubits, .slice B c.Gates.length c1]]) k_call_76 rfl (mc rfl mn) (c_impl_IsValidCircuit c B c1 c.Gates.length _ rfl (hS2.inn0 [(true, 0)] rfl) hc)) ?_
 rintro _ w_2 ⟨rfl, hd⟩
 have hS3 := hS2.out00 hd
 refine sQ 8 (Y_not (p := r_2) rfl rfl) (rw_nil ?_)
 refine cw_cond (b := (!r_2)) rfl (fun hb => ?_) (fun hb => ?_)
 ·skip
  have hF1 := ct hF hb
  refine cw_seq (cw_region ?_)
  refine sQ 9 (Y_buildS (zs := kN_) (vs := []) (cs := kN_) k_pl_48 k_zero_48 rfl mpn rfl) ?_
  refine s0 (Ys_store (i := 1) (s := 3) (B := aD b1) (T' := 48) (v := gN_) (vs := kN_) (k := 0) (cs' := kN_) hS3 k_sz_48_3 rfl rfl rfl rfl rfl rfl rfl (lB rfl) rfl rfl) ?_
  rintro _ w_3 ⟨rfl, hS4⟩
  refine sQ 3 (Y_assign (v := .bool false) rfl rfl) (rw_nil (cw_ret ?_))
  have hS5 := hS4.addNil 65
  obtain ⟨rfl, rfl⟩ := pr2 (some_inj hF1)
  exact ret2 Tryz.results40 (v1 := gN_) (resAt_cellA (B := aD b1) (i := 0) (cs := kN_) (vs := kN_) rfl k_ag_48 k_sz_48_3 (hS5.cf (i := 1) rfl) rfl rfl) (v2 := .bool false) (resAt_tmp rfl) ⟨none, 0, rfl, (hS5.sN [2])⟩
 ·skip
  have hF2 := cf' hF hb
  refine cw_skip (cw_seq (cw_region ?_))
  refine sQ 11 (Y_fieldAddr (B := aD b) (i := 0) (s := 0) k_fd_39_0_0_3 k_sz_3_1 rfl rfl) ?_
  refine sQ 12 (Y_load1 (B := aD b) (i := 0) (cs := [vi c.Qubits, .slice B c.Gates.length c1]) (v := vi c.Qubits) k_sc_3 rfl rfl (hS3.cf (i := 0) rfl) rfl) ?_
  obtain ⟨hsh, hF2⟩ := chk_inv hF2
  refine sQ 13 (Y_shl (k := .i64) (a := 1) (k' := .i64) (b := c.Qubits) rfl rfl rfl hsh) ?_
  obtain ⟨⟨r_3, r_4⟩, hc1, hF2⟩ := bind_inv hF2
  refine sc 14 rfl rfl (Yc_func (g := 80) (vs := [vi (shlK .i64 1 c.Qubits)]) k_call_80 rfl (mc rfl mn) (c_impl_IdentityMatrix (shlK .i64 1 c.Qubits) _  (hS3.inn0 [] rfl) hc1)) ?_
  rintro _ w_4 ⟨B2, c3, rfl, hd1⟩
  have hS6 := hS3.out0 hd1
  refine sQ 10 (Y_move (v := .tuple #[gM_ r_3 B2 c3, .bool r_4]) rfl rfl) ?_
  refine sQ 15 (Y_extract (v := gM_ r_3 B2 c3) rfl rfl rfl) ?_
  refine sQ 16 (Y_extract (v := .bool r_4) rfl rfl rfl) ?_
  refine sS 4 (Ys_alloc (T := 48) (cs := kN_) (m := 3) hS6 k_zero_48 rfl rfl rfl) ?_
  rintro _ w_5 ⟨b2, rfl, hS7⟩
  refine s0 (Ys_store (i := 3) (s := 3) (B := aD b2) (T' := 48) (v := gM_ r_3 B2 c3) (vs := kM_ r_3 B2 c3) (k := 0) (cs' := kM_ r_3 B2 c3) hS7 k_sz_48_3 rfl rfl rfl rfl rfl rfl rfl (lB rfl) rfl rfl) ?_
  rintro _ w_6 ⟨rfl, hS8⟩
  refine sQ 5 (Y_assign (v := .bool r_4) rfl rfl) (rw_nil (cw_seq (cw_region ?_)))
  refine sQ 17 (Y_loadA (B := aD b) (i := 0) (cs := [vi c.Qubits, .slice B c.Gates.length c1]) (vs := [vi c.Qubits, .slice B c.Gates.length c1]) k_ag_39 k_sz_39_2 rfl rfl (hS8.cf (i := 0) rfl) rfl rfl) ?_
  refine sQ 18 (Y_loadA (B := aD b2) (i := 0) (cs := kM_ r_3 B2 c3) (vs := kM_ r_3 B2 c3) k_ag_48 k_sz_48_3 rfl rfl (hS8.cf (i := 3) rfl) rfl rfl) ?_
  refine sQ 19 (Y_move (v := .bool r_4) rfl rfl) ?_
  obtain ⟨⟨r_5, r_6⟩, hc2, hF2⟩ := bind_inv hF2
  refine sc 20 rfl rfl (Yc_func (g := 81) (vs := [.agg #[vi c.Qubits, .slice B c.Gates.length c1], gM_ r_3 B2 c3, .bool r_4]) k_call_81 rfl (mc rfl (mc rfl (mc rfl mn))) (c_impl_applied c r_3 r_4 B c1 c.Gates.length B2 c3 r_3.Cells.length _ rfl rfl (hS8.inn [false, false, true, false] rfl [(true, 0)] rfl) hc2)) ?_
  rintro _ w_7 ⟨B3, c4, rfl, hd2⟩
  have hS9 := hS8.out [false, false, true, false] rfl hd2
  refine sQ 21 (Y_extract (v := gM_ r_5 B3 c4) rfl rfl rfl) ?_
  refine sQ 22 (Y_extract (v := .bool r_6) rfl rfl rfl) ?_
  refine s0 (Ys_store (i := 1) (s := 3) (B := aD b1) (T' := 48) (v := gM_ r_5 B3 c4) (vs := kM_ r_5 B3 c4) (k := 0) (cs' := kM_ r_5 B3 c4) hS9 k_sz_48_3 rfl rfl rfl rfl rfl rfl rfl (lB rfl) rfl rfl) ?_
  rintro _ w_8 ⟨rfl, hS10⟩
  refine sQ 3 (Y_assign (v := .bool r_6) rfl rfl) (rw_nil (cw_ret ?_))
  obtain ⟨rfl, rfl⟩ := pr2 (some_inj hF2)
  exact ret2 Tryz.results40 (v1 := gM_ r_5 B3 c4) (resAt_cellA (B := aD b1) (i := 0) (cs := kM_ r_5 B3 c4) (vs := kM_ r_5 B3 c4) rfl k_ag_48 k_sz_48_3 (hS10.cf (i := 1) rfl) rfl rfl) (v2 := .bool r_6) (resAt_tmp rfl) ⟨B3, c4, rfl, (hS10.sN [3])⟩

theorem c_impl_ScaleMatrix_1 (i : Int) (j : Int) (p : TMatrix) (p1 : TDyadic) (B : Option Addr) (B1 : Option Addr) (c n : Nat) (B2 : Option Addr) (w0 : World) (hn : p.Cells.length = n) (hS : ST w0 [] w0 [] [⟨B, [vi p.Rows, vi p.Cols, .slice B1 n c]⟩, ⟨B1, (p.Cells.flatMap eN0)⟩, ⟨B2, kD_ p1⟩]) {r_ : TDyadic} {r_1 : Bool} (hF : F_impl_ScaleMatrix_1 i j p p1 = some (r_, r_1)) :
  CV Tryz.prog 85 #[vi i, vi j, pt B 0, pt B2 0] w0 (fun v w' => v = .tuple #[gD_ r_, .bool r_1] ∧ ST w0 [] w' [] []) := by
 subst hn
 unfold F_impl_ScaleMatrix_1 at hF
 refine cv_of_cw 16 Tryz.func85 rfl Tryz.ntmps85 rfl ?_
 refine cw_seq (cw_region ?_)
 refine sS 6 (Ys_alloc (T := 65) (cs := kZ_) (m := 5) hS k_zero_65 rfl rfl rfl) ?_
 rintro _ w_ ⟨b, rfl, hS1⟩
 refine sQ 7 (Y_assign (v := .bool false) rfl rfl) (rw_nil (cw_seq ?_))
 obtain ⟨r_2, hc, hF⟩ := bind_inv hF
 obtain ⟨⟨r_3, r_4⟩, hc1, hF⟩ := bind_inv hF
 refine ra_start (hS1.se []).fn (by kernel_rfl) ?_
 have hS4 := hS1.drew
 refine rq 0 8 (v := gM_ p B1 c) rfl (hS4.se []) (fun w' hw' => (Y_loadA (B := B) (i := 0) (cs := kM_ p B1 c) (vs := kM_ p B1 c) k_ag_48 k_sz_48_3 rfl rfl (ST.rf hw' (i := 0) rfl) rfl rfl)) ?_
 refine rq 1 9 (v := vi i) rfl (hS4.se []) (fun w' hw' => (Y_move (v := vi i) rfl rfl)) ?_
 refine rq 2 10 (v := vi j) rfl (hS4.se []) (fun w' hw' => (Y_move (v := vi j) rfl rfl)) ?_
 refine rq 4 12 (v := gD_ p1) rfl (hS4.se []) (fun w' hw' => (Y_loadA (B := B2) (i := 0) (cs := kD_ p1) (vs := kD_ p1) k_ag_65 k_sz_65_5 rfl rfl (ST.rf hw' (i := 2) rfl) rfl rfl)) ?_
 refine rA [3] ?_
 refine ra_c 11 (i := 3) rfl rfl rfl (Yc_func (g := 87) (vs := [gM_ p B1 c, vi i, vi j]) k_call_87 rfl (mc rfl (mc rfl (mc rfl mn))) (c_impl_Matrix_at p i j B1 c p.Cells.length _ rfl (hS4.inn0 [(true, 1)] rfl) hc)) ?_ ?_
 ·rintro _ w_1 ⟨rfl, hd⟩
  have hS5 := hS4.out00 hd
  refine ⟨(hS5.se []), ?_⟩
  refine rA [5] ?_
  refine ra_c 13 (i := 5) rfl rfl rfl (Yc_func (g := 86) (vs := [gD_ r_2, gD_ p1]) k_call_86 rfl (mc rfl (mc rfl mn)) (c_impl_MulDyadic r_2 p1 _  (hS5.inn0 [] rfl) hc1)) ?_ ?_
  ·rintro _ w_2 ⟨rfl, hd1⟩
   have hS6 := hS5.out00 hd1
   refine ⟨(hS6.se []), ?_⟩
   refine rq 6 14 (v := gD_ r_3) rfl (hS6.se []) (fun w' hw' => (Y_extract (v := gD_ r_3) rfl rfl rfl)) ?_
   refine rq 7 15 (v := .bool r_4) rfl (hS6.se []) (fun w' hw' => (Y_extract (v := .bool r_4) rfl rfl rfl)) ?_
   refine rA [8] ?_
   refine ra_s0 (i := 8) rfl rfl rfl (Ys_store (i := 0) (s := 5) (B := aD b) (T' := 65) (v := gD_ r_3) (vs := kD_ r_3) (k := 0) (cs' := kD_ r_3) hS6 k_sz_65_5 rfl rfl rfl rfl rfl rfl rfl (lB rfl) rfl rfl) ?_ ?_
   ·rintro _ w_3 ⟨rfl, hS7⟩
    refine ⟨(hS7.se []), ?_⟩
    refine rq 9 7 (v := .bool r_4) rfl (hS7.se []) (fun w' hw' => (Y_assign (v := .bool r_4) rfl rfl)) ?_
    refine ra_done (by kernel_rfl) ?_
    refine cw_ret ?_
    obtain ⟨rfl, rfl⟩ := pr2 (some_inj hF)
    exact ret2 Tryz.results85 (v1 := gD_ r_3) (resAt_cellA (B := aD b) (i := 0) (cs := kD_ r_3) (vs := kD_ r_3) rfl k_ag_65 k_sz_65_5 (hS7.cf (i := 0) rfl) rfl rfl) (v2 := .bool r_4) (resAt_tmp rfl) ⟨rfl, (hS7.sN [])⟩
   exact allR_nil
  exact allR_nil
 exact allR_nil

theorem c_impl_ScaleMatrix (m : TMatrix) (x : TDyadic) (B : Option Addr) (c n : Nat) (w0 : World) (hn : m.Cells.length = n) (hS : ST w0 [] w0 [] [⟨B, (m.Cells.flatMap eN0)⟩]) {r_ : TMatrix} {r_1 : Bool} (hF : F_impl_ScaleMatrix m x = some (r_, r_1)) :
  CV Tryz.prog 41 #[.agg #[vi m.Rows, vi m.Cols, .slice B n c], gD_ x] w0 (fun v w' => ∃ (B1 : Option Addr) (c1 : Nat), v = .tuple #[gM_ r_ B1 c1, .bool r_1] ∧ ST w0 [] w' [⟨B1, 65, (r_.Cells.flatMap eN0), c1 * 5⟩] []) := by
 subst hn
 unfold F_impl_ScaleMatrix at hF
 refine cv_of_cw 23 Tryz.func41 rfl Tryz.ntmps41 rfl ?_
 refine cw_seq (cw_region ?_)
 refine sS 2 (Ys_box (T := 48) (v := gM_ m B c) (cs := kM_ m B c) (m := 3) hS rfl rfl rfl rfl) ?_
 rintro _ w_ ⟨b, rfl, hS1⟩
 refine sS 3 (Ys_box (T := 65) (v := gD_ x) (cs := kD_ x) (m := 5) hS1 rfl rfl rfl rfl) ?_
 rintro _ w_1 ⟨b1, rfl, hS2⟩
 refine sS 4 (Ys_alloc (T := 48) (cs := kN_) (m := 3) hS2 k_zero_48 rfl rfl rfl) ?_
 rintro _ w_2 ⟨b2, rfl, hS3⟩
 refine sQ 5 (Y_assign (v := .bool false) rfl rfl) (rw_nil (cw_seq (cw_seq (cw_region ?_))))
 refine sQ 6 (Y_loadA (B := aD b) (i := 0) (cs := kM_ m B c) (vs := kM_ m B c) k_ag_48 k_sz_48_3 rfl rfl (hS3.cf (i := 0) rfl) rfl rfl) ?_
 obtain ⟨r_2, hc, hF⟩ := bind_inv hF
 refine sc 7 rfl rfl (Yc_func (g := 82) (vs := [gM_ m B c]) k_call_82 rfl (mc rfl mn) (c_impl_IsValidMatrix m B c m.Cells.length _ rfl (hS3.inn0 [(true, 0)] rfl) hc)) ?_
 rintro _ w_3 ⟨rfl, hd⟩
 have hS4 := hS3.out00 hd
 refine sQ 8 (Y_not (p := r_2) rfl rfl) ?_
 refine sQ 9 (Y_move (v := .bool (!r_2)) rfl rfl) ?_
 refine sgq 10 (B := (!(!r_2))) (v := gD_ x) rfl rfl (uF_ 9) (fun hg => (Y_loadA (B := aD b1) (i := 0) (cs := kD_ x) (vs := kD_ x) k_ag_65 k_sz_65_5 rfl rfl (hS4.cf (i := 1) rfl) rfl rfl)) ?_
 obtain ⟨r_3, hc1, hF⟩ := bind_inv hF
 refine sgc 11 (B := (!(!r_2))) (v := .bool r_3) (F := hS4.fn) rfl rfl (uF_ 9) hS4 (fun hg1 => (Yc_func (g := 83) (vs := [gD_ x]) k_call_83 rfl (mc (gv_of (v := gD_ x) hg1) mn) (CV.mono (c_impl_IsValidDyadic x _  (hS4.inn0 [] rfl) (gb_inv hc1 hg1)) (by rintro _ _ ⟨rfl, h⟩; exact ⟨rfl, hS4.out00 h⟩)))) ?_
 rintro w_4 hS5
 refine sgq 12 (B := (!(!r_2))) (v := .bool (!r_3)) rfl rfl (uF_ 9) (fun hg2 => (Y_not (p := r_3) rfl (gv_of (v := .bool r_3) hg2))) ?_
 refine sQ 13 (Y_or (b := (!r_2)) (z := (!r_3)) rfl rfl rfl rfl) (rw_nil ?_)
 refine cw_cond (b := ((!r_2) || (!r_3))) rfl (fun hb => ?_) (fun hb => ?_)
 ·skip
  have hF1 := ct hF hb
  refine cw_seq (cw_region ?_)
  refine sQ 14 (Y_buildS (zs := kN_) (vs := []) (cs := kN_) k_pl_48 k_zero_48 rfl mpn rfl) ?_
  refine s0 (Ys_store (i := 2) (s := 3) (B := aD b2) (T' := 48) (v := gN_) (vs := kN_) (k := 0) (cs' := kN_) hS5 k_sz_48_3 rfl rfl rfl rfl rfl rfl rfl (lB rfl) rfl rfl) ?_
  rintro _ w_5 ⟨rfl, hS6⟩
  refine sQ 5 (Y_assign (v := .bool false) rfl rfl) (rw_nil (cw_ret ?_))
  have hS7 := hS6.addNil 65
  obtain ⟨rfl, rfl⟩ := pr2 (some_inj hF1)
  exact ret2 Tryz.results41 (v1 := gN_) (resAt_cellA (B := aD b2) (i := 0) (cs := kN_) (vs := kN_) rfl k_ag_48 k_sz_48_3 (hS7.cf (i := 2) rfl) rfl rfl) (v2 := .bool false) (resAt_tmp rfl) ⟨none, 0, rfl, (hS7.sN [3])⟩
 ·skip
  have hF2 := cf' hF hb
  refine cw_skip (cw_seq (cw_region ?_))
  refine sQ 15 (Y_fieldAddr (B := aD b) (i := 0) (s := 0) k_fd_48_0_0_3 k_sz_3_1 rfl rfl) ?_
  refine sQ 16 (Y_load1 (B := aD b) (i := 0) (cs := kM_ m B c) (v := vi m.Rows) k_sc_3 rfl rfl (hS5.cf (i := 0) rfl) rfl) ?_
  refine sQ 17 (Y_fieldAddr (B := aD b) (i := 0) (s := 0) k_fd_48_1_1_3 k_sz_3_1 rfl rfl) ?_
  refine sQ 18 (Y_load1 (B := aD b) (i := 1) (cs := kM_ m B c) (v := vi m.Cols) k_sc_3 rfl rfl (hS5.cf (i := 0) rfl) rfl) ?_
  refine sQ 19 (Y_makeFunc (cs := [pt (aD b) 0, pt (aD b1) 0]) rfl rfl (mc rfl (mc rfl mn))) ?_
  obtain ⟨⟨r_4, r_5⟩, hc2, hF2⟩ := bind_inv hF2
  refine sc 20 rfl rfl (Yc_func (g := 84) (vs := [vi m.Rows, vi m.Cols, .func (.func 85) #[] #[pt (aD b) 0, pt (aD b1) 0]]) k_call_84 rfl (mc rfl (mc rfl (mc rfl mn))) (c_impl_matrixOf m.Rows m.Cols (fun x_0 x_1 => F_impl_ScaleMatrix_1 x_0 x_1 m x) 85 (#[pt (aD b) 0, pt (aD b1) 0]) [⟨aD b, kM_ m B c⟩, ⟨B, (m.Cells.flatMap eN0)⟩, ⟨aD b1, kD_ x⟩] _ k_call_85 (fun w hw x_0 x_1 y_0 y_1 h_ => c_impl_ScaleMatrix_1 x_0 x_1 m x (aD b) B c m.Cells.length (aD b1) w rfl hw h_) (hS5.inn0 [(false, 0), (true, 0), (false, 1)] rfl) hc2)) ?_
  rintro _ w_6 ⟨B2, c2, rfl, hd1⟩
  have hS8 := hS5.out0 hd1
  refine sQ 21 (Y_extract (v := gM_ r_4 B2 c2) rfl rfl rfl) ?_
  refine sQ 22 (Y_extract (v := .bool r_5) rfl rfl rfl) ?_
  refine s0 (Ys_store (i := 2) (s := 3) (B := aD b2) (T' := 48) (v := gM_ r_4 B2 c2) (vs := kM_ r_4 B2 c2) (k := 0) (cs' := kM_ r_4 B2 c2) hS8 k_sz_48_3 rfl rfl rfl rfl rfl rfl rfl (lB rfl) rfl rfl) ?_
  rintro _ w_7 ⟨rfl, hS9⟩
  refine sQ 5 (Y_assign (v := .bool r_5) rfl rfl) (rw_nil (cw_ret ?_))
  obtain ⟨rfl, rfl⟩ := pr2 (some_inj hF2)
  exact ret2 Tryz.results41 (v1 := gM_ r_4 B2 c2) (resAt_cellA (B := aD b2) (i := 0) (cs := kM_ r_4 B2 c2) (vs := kM_ r_4 B2 c2) rfl k_ag_48 k_sz_48_3 (hS9.cf (i := 2) rfl) rfl rfl) (v2 := .bool r_5) (resAt_tmp rfl) ⟨B2, c2, rfl, (hS9.sN [3])⟩

theorem c_impl_MatrixOfForm (f_ : TNormalForm)  (w0 : World)  (hS : ST w0 [] w0 [] [⟨(aD 0), [vi 1, vi 0, vi 0, vi 0, vi 2]⟩]) {r_ : TMatrix} {r_1 : Bool} (hF : F_impl_MatrixOfForm f_ = some (r_, r_1)) :
  CV Tryz.prog 19 #[.agg #[.string (bstr f_.Syllables), vi f_.Clifford, vi f_.Phase]] w0 (fun v w' => ∃ (B : Option Addr) (c : Nat), v = .tuple #[gM_ r_ B c, .bool r_1] ∧ ST w0 [] w' [⟨B, 65, (r_.Cells.flatMap eN0), c * 5⟩] []) := by
 unfold F_impl_MatrixOfForm at hF
 refine cv_of_cw 27 Tryz.func19 rfl Tryz.ntmps19 rfl ?_
 refine cw_seq (cw_region ?_)
 refine sS 1 (Ys_box (T := 42) (v := .agg #[.string (bstr f_.Syllables), vi f_.Clifford, vi f_.Phase]) (cs := [.string (bstr f_.Syllables), vi f_.Clifford, vi f_.Phase]) (m := 3) hS rfl rfl rfl rfl) ?_
 rintro _ w_ ⟨b, rfl, hS1⟩
 refine sS 2 (Ys_alloc (T := 48) (cs := kN_) (m := 3) hS1 k_zero_48 rfl rfl rfl) ?_
 rintro _ w_1 ⟨b1, rfl, hS2⟩
 refine sQ 3 (Y_assign (v := .bool false) rfl rfl) (rw_nil (cw_seq (cw_seq (cw_region ?_))))
 refine sQ 6 (Y_loadA (B := aD b) (i := 0) (cs := [.string (bstr f_.Syllables), vi f_.Clifford, vi f_.Phase]) (vs := [.string (bstr f_.Syllables), vi f_.Clifford, vi f_.Phase]) k_ag_42 k_sz_42_3 rfl rfl (hS2.cf (i := 0) rfl) rfl rfl) ?_
 obtain ⟨r_2, hc, hF⟩ := bind_inv hF
 refine sc 7 rfl rfl (Yc_func (g := 33) (vs := [.agg #[.string (bstr f_.Syllables), vi f_.Clifford, vi f_.Phase]]) k_call_33 rfl (mc rfl mn) (c_impl_IsValidForm f_ _  (hS2.inn0 [] rfl) hc)) ?_
 rintro _ w_2 ⟨rfl, hd⟩
 have hS3 := hS2.out00 hd
 refine sQ 8 (Y_not (p := r_2) rfl rfl) (rw_nil ?_)
 refine cw_cond (b := (!r_2)) rfl (fun hb => ?_) (fun hb => ?_)
 ·skip
  have hF1 := ct hF hb
  refine cw_seq (cw_region ?_)
  refine sQ 9 (Y_buildS (zs := kN_) (vs := []) (cs := kN_) k_pl_48 k_zero_48 rfl mpn rfl) ?_
  refine s0 (Ys_store (i := 1) (s := 3) (B := aD b1) (T' := 48) (v := gN_) (vs := kN_) (k := 0) (cs' := kN_) hS3 k_sz_48_3 rfl rfl rfl rfl rfl rfl rfl (lB rfl) rfl rfl) ?_
  rintro _ w_3 ⟨rfl, hS4⟩
  refine sQ 3 (Y_assign (v := .bool false) rfl rfl) (rw_nil (cw_ret ?_))
  have hS5 := hS4.addNil 65
  obtain ⟨rfl, rfl⟩ := pr2 (some_inj hF1)
  exact ret2 Tryz.results19 (v1 := gN_) (resAt_cellA (B := aD b1) (i := 0) (cs := kN_) (vs := kN_) rfl k_ag_48 k_sz_48_3 (hS5.cf (i := 1) rfl) rfl rfl) (v2 := .bool false) (resAt_tmp rfl) ⟨none, 0, rfl, (hS5.sN [2])⟩
 ·skip
  have hF2 := cf' hF hb
  refine cw_skip (cw_seq (cw_region ?_))
  refine sQ 11 (Y_loadA (B := aD b) (i := 0) (cs := [.string (bstr f_.Syllables), vi f_.Clifford, vi f_.Phase]) (vs := [.string (bstr f_.Syllables), vi f_.Clifford, vi f_.Phase]) k_ag_42 k_sz_42_3 rfl rfl (hS3.cf (i := 0) rfl) rfl rfl) ?_
  obtain ⟨r_3, hc1, hF2⟩ := bind_inv hF2
  refine sc 12 rfl rfl (Yc_func (g := 34) (vs := [.agg #[.string (bstr f_.Syllables), vi f_.Clifford, vi f_.Phase]]) k_call_34 rfl (mc rfl mn) (c_impl_formGates f_ _  (hS3.inn0 [(true, 0)] rfl) hc1)) ?_
  rintro _ w_4 ⟨B1, c1, rfl, hd1⟩
  have hS6 := hS3.out0 hd1
  refine sQ 13 (Y_buildS (zs := [vi 0, .slice none 0 0]) (vs := [(0, vi 1), (1, .slice B1 r_3.length c1)]) (cs := [vi 1, .slice B1 r_3.length c1]) k_pl_39 k_zero_39 rfl (mpc rfl (mpc rfl mpn)) rfl) ?_
  obtain ⟨⟨r_4, r_5⟩, hc2, hF2⟩ := bind_inv hF2
  refine sc 14 rfl rfl (Yc_func (g := 40) (vs := [.agg #[vi 1, .slice B1 r_3.length c1]]) k_call_40 rfl (mc rfl mn) (c_impl_OperatorOf (TCircuit.mk 1 r_3) B1 c1 r_3.length _ rfl (hS6.inn0 [(false, 2)] rfl) hc2)) ?_
  rintro _ w_5 ⟨B2, c2, rfl, hd2⟩
  have hS7 := hS6.out0 hd2
  refine sQ 10 (Y_move (v := .tuple #[gM_ r_4 B2 c2, .bool r_5]) rfl rfl) ?_
  refine sQ 15 (Y_extract (v := gM_ r_4 B2 c2) rfl rfl rfl) ?_
  refine sQ 16 (Y_extract (v := .bool r_5) rfl rfl rfl) ?_
  refine sS 4 (Ys_alloc (T := 48) (cs := kN_) (m := 3) hS7 k_zero_48 rfl rfl rfl) ?_
  rintro _ w_6 ⟨b2, rfl, hS8⟩
  refine s0 (Ys_store (i := 4) (s := 3) (B := aD b2) (T' := 48) (v := gM_ r_4 B2 c2) (vs := kM_ r_4 B2 c2) (k := 0) (cs' := kM_ r_4 B2 c2) hS8 k_sz_48_3 rfl rfl rfl rfl rfl rfl rfl (lB rfl) rfl rfl) ?_
  rintro _ w_7 ⟨rfl, hS9⟩
  refine sQ 5 (Y_assign (v := .bool r_5) rfl rfl) (rw_nil (cw_seq (cw_seq (cw_region ?_))))
  refine sQ 17 (Y_move (v := .bool r_5) rfl rfl) ?_
  refine sQ 18 (Y_not (p := r_5) rfl rfl) (rw_nil ?_)
  refine cw_cond (b := (!r_5)) rfl (fun hb1 => ?_) (fun hb1 => ?_)
  ·skip
   have hF3 := ct hF2 hb1
   refine cw_seq (cw_region ?_)
   refine sQ 19 (Y_buildS (zs := kN_) (vs := []) (cs := kN_) k_pl_48 k_zero_48 rfl mpn rfl) ?_
   refine s0 (Ys_store (i := 1) (s := 3) (B := aD b1) (T' := 48) (v := gN_) (vs := kN_) (k := 0) (cs' := kN_) hS9 k_sz_48_3 rfl rfl rfl rfl rfl rfl rfl (lB rfl) rfl rfl) ?_
   rintro _ w_8 ⟨rfl, hS10⟩
   refine sQ 3 (Y_assign (v := .bool false) rfl rfl) (rw_nil (cw_ret ?_))
   have hS11 := hS10.addNil 65
   obtain ⟨rfl, rfl⟩ := pr2 (some_inj hF3)
   exact ret2 Tryz.results19 (v1 := gN_) (resAt_cellA (B := aD b1) (i := 0) (cs := kN_) (vs := kN_) rfl k_ag_48 k_sz_48_3 (hS11.cf (i := 1) rfl) rfl rfl) (v2 := .bool false) (resAt_tmp rfl) ⟨none, 0, rfl, (hS11.sN [5])⟩
  ·skip
   have hF4 := cf' hF2 hb1
   refine cw_skip (cw_seq ?_)
   obtain ⟨r_6, hc3, hF4⟩ := bind_inv hF4
   obtain ⟨⟨r_7, r_8⟩, hc4, hF4⟩ := bind_inv hF4
   refine ra_start (hS9.se [0, 2, 3, 4]).fn (by kernel_rfl) ?_
   have hS14 := hS9.drew
   refine rq 0 20 (v := gM_ r_4 B2 c2) rfl (hS14.se [0, 2, 3, 4]) (fun w' hw' => (Y_loadA (B := aD b2) (i := 0) (cs := kM_ r_4 B2 c2) (vs := kM_ r_4 B2 c2) k_ag_48 k_sz_48_3 rfl rfl (ST.cf hw' (i := 3) rfl) rfl rfl)) ?_
   refine rq 1 21 (v := pt (aD b) 2) rfl (hS14.se [0, 2, 3, 4]) (fun w' hw' => (Y_fieldAddr (B := aD b) (i := 0) (s := 0) k_fd_42_2_2_3 k_sz_3_1 rfl rfl)) ?_
   refine rq 2 22 (v := vi f_.Phase) rfl (hS14.se [0, 2, 3, 4]) (fun w' hw' => (Y_load1 (B := aD b) (i := 2) (cs := [.string (bstr f_.Syllables), vi f_.Clifford, vi f_.Phase]) (v := vi f_.Phase) k_sc_3 rfl rfl (ST.cf hw' (i := 0) rfl) rfl)) ?_
   refine rA [3] ?_
   refine ra_c 23 (i := 3) rfl rfl rfl (Yc_func (g := 42) (vs := [vi f_.Phase]) k_call_42 rfl (mc rfl mn) (c_impl_phase f_.Phase _  (hS14.inn0 [] rfl) hc3)) ?_ ?_
   ·rintro _ w_9 ⟨rfl, hd3⟩
    have hS15 := hS14.out00 hd3
    refine ⟨(hS15.se [0, 2, 3, 4]), ?_⟩
    refine rA [4] ?_
    refine ra_c 24 (i := 4) rfl rfl rfl (Yc_func (g := 41) (vs := [gM_ r_4 B2 c2, gD_ r_6]) k_call_41 rfl (mc rfl (mc rfl mn)) (c_impl_ScaleMatrix r_4 r_6 B2 c2 r_4.Cells.length _ rfl (hS15.inn0 [(false, 3)] rfl) hc4)) ?_ ?_
    ·rintro _ w_10 ⟨B3, c3, rfl, hd4⟩
     have hS16 := hS15.out0 hd4
     refine ⟨(hS16.se [0, 2, 3, 4]), ?_⟩
     refine rq 5 25 (v := gM_ r_7 B3 c3) rfl (hS16.se [0, 2, 3, 4]) (fun w' hw' => (Y_extract (v := gM_ r_7 B3 c3) rfl rfl rfl)) ?_
     refine rq 6 26 (v := .bool r_8) rfl (hS16.se [0, 2, 3, 4]) (fun w' hw' => (Y_extract (v := .bool r_8) rfl rfl rfl)) ?_
     refine rA [7] ?_
     refine ra_s0 (i := 7) rfl rfl rfl (Ys_store (i := 1) (s := 3) (B := aD b1) (T' := 48) (v := gM_ r_7 B3 c3) (vs := kM_ r_7 B3 c3) (k := 0) (cs' := kM_ r_7 B3 c3) hS16 k_sz_48_3 rfl rfl rfl rfl rfl rfl rfl (lB rfl) rfl rfl) ?_ ?_
     ·rintro _ w_11 ⟨rfl, hS17⟩
      refine ⟨(hS17.se [0, 2, 3, 4]), ?_⟩
      refine rq 8 3 (v := .bool r_8) rfl (hS17.se [0, 2, 3, 4]) (fun w' hw' => (Y_assign (v := .bool r_8) rfl rfl)) ?_
      refine ra_done (by kernel_rfl) ?_
      refine cw_ret ?_
      obtain ⟨rfl, rfl⟩ := pr2 (some_inj hF4)
      exact ret2 Tryz.results19 (v1 := gM_ r_7 B3 c3) (resAt_cellA (B := aD b1) (i := 0) (cs := kM_ r_7 B3 c3) (vs := kM_ r_7 B3 c3) rfl k_ag_48 k_sz_48_3 (hS17.cf (i := 1) rfl) rfl rfl) (v2 := .bool r_8) (resAt_tmp rfl) ⟨B3, c3, rfl, (hS17.sN [5])⟩
     exact allR_nil
    exact allR_nil
   exact allR_nil

theorem c_laws_eqRing (a : TRing) (b : TRing)  (w0 : World)  (hS : ST w0 [] w0 [] []) {r_ : Bool} (hF : F_laws_eqRing a b = some r_) :
  CV Tryz.prog 109 #[gR_ a, gR_ b] w0 (fun v w' => v = .bool r_ ∧ ST w0 [] w' [] []) := by
 unfold F_laws_eqRing at hF
 refine cv_of_cw 25 Tryz.func109 rfl Tryz.ntmps109 rfl ?_
 refine cw_seq (cw_region ?_)
 refine sS 2 (Ys_box (T := 63) (v := gR_ a) (cs := kR_ a) (m := 4) hS rfl rfl rfl rfl) ?_
 rintro _ w_ ⟨b1, rfl, hS1⟩
 refine sS 3 (Ys_box (T := 63) (v := gR_ b) (cs := kR_ b) (m := 4) hS1 rfl rfl rfl rfl) ?_
 rintro _ w_1 ⟨b2, rfl, hS2⟩
 refine sQ 4 (Y_assign (v := .bool false) rfl rfl) (rw_nil (cw_seq (cw_seq (cw_region ?_))))
 refine sQ 5 (Y_fieldAddr (B := aD b1) (i := 0) (s := 0) k_fd_63_0_0_3 k_sz_3_1 rfl rfl) ?_
 refine sQ 6 (Y_load1 (B := aD b1) (i := 0) (cs := kR_ a) (v := vi a.A) k_sc_3 rfl rfl (hS2.cf (i := 0) rfl) rfl) ?_
 refine sQ 7 (Y_fieldAddr (B := aD b2) (i := 0) (s := 0) k_fd_63_0_0_3 k_sz_3_1 rfl rfl) ?_
 refine sQ 8 (Y_load1 (B := aD b2) (i := 0) (cs := kR_ b) (v := vi b.A) k_sc_3 rfl rfl (hS2.cf (i := 1) rfl) rfl) ?_
 refine sQ 9 (Y_ne (k := .i64) (a := a.A) (b := b.A) rfl rfl rfl) (rw_nil ?_)
 refine cw_cond (b := (a.A != b.A)) rfl (fun hb => ?_) (fun hb => ?_)
 ·skip
  have hF1 := ct hF hb
  refine cw_seq (cw_region ?_)
  refine sQ 4 (Y_assign (v := .bool false) rfl rfl) (rw_nil (cw_ret ?_))
  obtain rfl := some_inj hF1
  exact ret1 Tryz.results109 (v1 := .bool false) (resAt_tmp rfl) ⟨rfl, (hS2.sN [])⟩
 ·skip
  have hF2 := cf' hF hb
  refine cw_skip (cw_seq (cw_seq (cw_region ?_)))
  refine sQ 10 (Y_fieldAddr (B := aD b1) (i := 0) (s := 0) k_fd_63_1_1_3 k_sz_3_1 rfl rfl) ?_
  refine sQ 11 (Y_load1 (B := aD b1) (i := 1) (cs := kR_ a) (v := vi a.B) k_sc_3 rfl rfl (hS2.cf (i := 0) rfl) rfl) ?_
  refine sQ 12 (Y_fieldAddr (B := aD b2) (i := 0) (s := 0) k_fd_63_1_1_3 k_sz_3_1 rfl rfl) ?_
  refine sQ 13 (Y_load1 (B := aD b2) (i := 1) (cs := kR_ b) (v := vi b.B) k_sc_3 rfl rfl (hS2.cf (i := 1) rfl) rfl) ?_
  refine sQ 14 (Y_ne (k := .i64) (a := a.B) (b := b.B) rfl rfl rfl) (rw_nil ?_)
  refine cw_cond (b := (a.B != b.B)) rfl (fun hb1 => ?_) (fun hb1 => ?_)
  ·skip
   have hF3 := ct hF2 hb1
   refine cw_seq (cw_region ?_)
   refine sQ 4 (Y_assign (v := .bool false) rfl rfl) (rw_nil (cw_ret ?_))
   obtain rfl := some_inj hF3
   exact ret1 Tryz.results109 (v1 := .bool false) (resAt_tmp rfl) ⟨rfl, (hS2.sN [])⟩
  ·skip
   have hF4 := cf' hF2 hb1
   refine cw_skip (cw_seq (cw_seq (cw_region ?_)))
   refine sQ 15 (Y_fieldAddr (B := aD b1) (i := 0) (s := 0) k_fd_63_2_2_3 k_sz_3_1 rfl rfl) ?_
   refine sQ 16 (Y_load1 (B := aD b1) (i := 2) (cs := kR_ a) (v := vi a.C) k_sc_3 rfl rfl (hS2.cf (i := 0) rfl) rfl) ?_
   refine sQ 17 (Y_fieldAddr (B := aD b2) (i := 0) (s := 0) k_fd_63_2_2_3 k_sz_3_1 rfl rfl) ?_
   refine sQ 18 (Y_load1 (B := aD b2) (i := 2) (cs := kR_ b) (v := vi b.C) k_sc_3 rfl rfl (hS2.cf (i := 1) rfl) rfl) ?_
   refine sQ 19 (Y_ne (k := .i64) (a := a.C) (b := b.C) rfl rfl rfl) (rw_nil ?_)
   refine cw_cond (b := (a.C != b.C)) rfl (fun hb2 => ?_) (fun hb2 => ?_)
   ·skip
    have hF5 := ct hF4 hb2
    refine cw_seq (cw_region ?_)
    refine sQ 4 (Y_assign (v := .bool false) rfl rfl) (rw_nil (cw_ret ?_))
    obtain rfl := some_inj hF5
    exact ret1 Tryz.results109 (v1 := .bool false) (resAt_tmp rfl) ⟨rfl, (hS2.sN [])⟩
   ·skip
    have hF6 := cf' hF4 hb2
    refine cw_skip (cw_seq (cw_seq (cw_region ?_)))
    refine sQ 20 (Y_fieldAddr (B := aD b1) (i := 0) (s := 0) k_fd_63_3_3_3 k_sz_3_1 rfl rfl) ?_
    refine sQ 21 (Y_load1 (B := aD b1) (i := 3) (cs := kR_ a) (v := vi a.D) k_sc_3 rfl rfl (hS2.cf (i := 0) rfl) rfl) ?_
    refine sQ 22 (Y_fieldAddr (B := aD b2) (i := 0) (s := 0) k_fd_63_3_3_3 k_sz_3_1 rfl rfl) ?_
    refine sQ 23 (Y_load1 (B := aD b2) (i := 3) (cs := kR_ b) (v := vi b.D) k_sc_3 rfl rfl (hS2.cf (i := 1) rfl) rfl) ?_
    refine sQ 24 (Y_ne (k := .i64) (a := a.D) (b := b.D) rfl rfl rfl) (rw_nil ?_)
    refine cw_cond (b := (a.D != b.D)) rfl (fun hb3 => ?_) (fun hb3 => ?_)
    ·skip
     have hF7 := ct hF6 hb3
     refine cw_seq (cw_region ?_)
     refine sQ 4 (Y_assign (v := .bool false) rfl rfl) (rw_nil (cw_ret ?_))
     obtain rfl := some_inj hF7
     exact ret1 Tryz.results109 (v1 := .bool false) (resAt_tmp rfl) ⟨rfl, (hS2.sN [])⟩
    ·skip
     have hF8 := cf' hF6 hb3
     refine cw_skip (cw_seq (cw_region ?_))
     refine sQ 4 (Y_assign (v := .bool true) rfl rfl) (rw_nil (cw_ret ?_))
     obtain rfl := some_inj hF8
     exact ret1 Tryz.results109 (v1 := .bool true) (resAt_tmp rfl) ⟨rfl, (hS2.sN [])⟩

theorem c_laws_eqDyadic (a : TDyadic) (b : TDyadic)  (w0 : World)  (hS : ST w0 [] w0 [] []) {r_ : Bool} (hF : F_laws_eqDyadic a b = some r_) :
  CV Tryz.prog 70 #[gD_ a, gD_ b] w0 (fun v w' => v = .bool r_ ∧ ST w0 [] w' [] []) := by
 unfold F_laws_eqDyadic at hF
 refine cv_of_cw 16 Tryz.func70 rfl Tryz.ntmps70 rfl ?_
 refine cw_seq (cw_region ?_)
 refine sS 2 (Ys_box (T := 65) (v := gD_ a) (cs := kD_ a) (m := 5) hS rfl rfl rfl rfl) ?_
 rintro _ w_ ⟨b1, rfl, hS1⟩
 refine sS 3 (Ys_box (T := 65) (v := gD_ b) (cs := kD_ b) (m := 5) hS1 rfl rfl rfl rfl) ?_
 rintro _ w_1 ⟨b2, rfl, hS2⟩
 refine sQ 4 (Y_assign (v := .bool false) rfl rfl) (rw_nil (cw_seq (cw_seq (cw_region ?_))))
 refine sQ 5 (Y_fieldAddr (B := aD b1) (i := 0) (s := 3) k_fd_65_0_0_63 k_sz_63_4 rfl rfl) ?_
 refine sQ 6 (Y_loadA (B := aD b1) (i := 0) (cs := kD_ a) (vs := kR_ a.Num) k_ag_63 k_sz_63_4 rfl rfl (hS2.cf (i := 0) rfl) rfl rfl) ?_
 refine sQ 7 (Y_fieldAddr (B := aD b2) (i := 0) (s := 3) k_fd_65_0_0_63 k_sz_63_4 rfl rfl) ?_
 refine sQ 8 (Y_loadA (B := aD b2) (i := 0) (cs := kD_ b) (vs := kR_ b.Num) k_ag_63 k_sz_63_4 rfl rfl (hS2.cf (i := 1) rfl) rfl rfl) ?_
 obtain ⟨r_1, hc, hF⟩ := bind_inv hF
 refine sc 9 rfl rfl (Yc_func (g := 109) (vs := [gR_ a.Num, gR_ b.Num]) k_call_109 rfl (mc rfl (mc rfl mn)) (c_laws_eqRing a.Num b.Num _  (hS2.inn0 [] rfl) hc)) ?_
 rintro _ w_2 ⟨rfl, hd⟩
 have hS3 := hS2.out00 hd
 refine sQ 10 (Y_not (p := r_1) rfl rfl) (rw_nil ?_)
 refine cw_cond (b := (!r_1)) rfl (fun hb => ?_) (fun hb => ?_)
 ·skip
  have hF1 := ct hF hb
  refine cw_seq (cw_region ?_)
  refine sQ 4 (Y_assign (v := .bool false) rfl rfl) (rw_nil (cw_ret ?_))
  obtain rfl := some_inj hF1
  exact ret1 Tryz.results70 (v1 := .bool false) (resAt_tmp rfl) ⟨rfl, (hS3.sN [])⟩
 ·skip
  have hF2 := cf' hF hb
  refine cw_skip (cw_seq (cw_seq (cw_region ?_)))
  refine sQ 11 (Y_fieldAddr (B := aD b1) (i := 0) (s := 0) k_fd_65_1_4_3 k_sz_3_1 rfl rfl) ?_
  refine sQ 12 (Y_load1 (B := aD b1) (i := 4) (cs := kD_ a) (v := vi a.Exp) k_sc_3 rfl rfl (hS3.cf (i := 0) rfl) rfl) ?_
  refine sQ 13 (Y_fieldAddr (B := aD b2) (i := 0) (s := 0) k_fd_65_1_4_3 k_sz_3_1 rfl rfl) ?_
  refine sQ 14 (Y_load1 (B := aD b2) (i := 4) (cs := kD_ b) (v := vi b.Exp) k_sc_3 rfl rfl (hS3.cf (i := 1) rfl) rfl) ?_
  refine sQ 15 (Y_ne (k := .i64) (a := a.Exp) (b := b.Exp) rfl rfl rfl) (rw_nil ?_)
  refine cw_cond (b := (a.Exp != b.Exp)) rfl (fun hb1 => ?_) (fun hb1 => ?_)
  ·skip
   have hF3 := ct hF2 hb1
   refine cw_seq (cw_region ?_)
   refine sQ 4 (Y_assign (v := .bool false) rfl rfl) (rw_nil (cw_ret ?_))
   obtain rfl := some_inj hF3
   exact ret1 Tryz.results70 (v1 := .bool false) (resAt_tmp rfl) ⟨rfl, (hS3.sN [])⟩
  ·skip
   have hF4 := cf' hF2 hb1
   refine cw_skip (cw_seq (cw_region ?_))
   refine sQ 4 (Y_assign (v := .bool true) rfl rfl) (rw_nil (cw_ret ?_))
   obtain rfl := some_inj hF4
   exact ret1 Tryz.results70 (v1 := .bool true) (resAt_tmp rfl) ⟨rfl, (hS3.sN [])⟩

theorem c_laws_eqDyadicS (a : List TDyadic) (b : List TDyadic) (B : Option Addr) (c n : Nat) (B1 : Option Addr) (c1 n1 : Nat) (w0 : World) (hn : a.length = n) (hn1 : b.length = n1) (hS : ST w0 [] w0 [] [⟨B, (a.flatMap eN0)⟩, ⟨B1, (b.flatMap eN0)⟩]) {r_ : Bool} (hF : F_laws_eqDyadicS a b = some r_) :
  CV Tryz.prog 30 #[.slice B n c, .slice B1 n1 c1] w0 (fun v w' => v = .bool r_ ∧ ST w0 [] w' [] []) := by
 subst hn
 subst hn1
 unfold F_laws_eqDyadicS at hF
 refine cv_of_cw 27 Tryz.func30 rfl Tryz.ntmps30 rfl ?_
 refine cw_seq (cw_region ?_)
 refine sQ 4 (Y_assign (v := .bool false) rfl rfl) (rw_nil (cw_seq (cw_seq (cw_region ?_))))
 refine sQ 6 (Y_move (v := .slice B a.length c) rfl rfl) ?_
 refine sQ 7 (Y_len (B := B) (m := a.length) (c := c) k_sl_28_65 rfl rfl) ?_
 refine sQ 8 (Y_move (v := .slice B1 b.length c1) rfl rfl) ?_
 refine sQ 9 (Y_len (B := B1) (m := b.length) (c := c1) k_sl_28_65 rfl rfl) ?_
 refine sQ 10 (Y_ne (k := .i64) (a := (a.length : Int)) (b := (b.length : Int)) rfl rfl rfl) (rw_nil ?_)
 refine cw_cond (b := ((a.length : Int) != (b.length : Int))) rfl (fun hb => ?_) (fun hb => ?_)
 ·skip
  have hF1 := ct hF hb
  refine cw_seq (cw_region ?_)
  refine sQ 4 (Y_assign (v := .bool false) rfl rfl) (rw_nil (cw_ret ?_))
  obtain rfl := some_inj hF1
  exact ret1 Tryz.results30 (v1 := .bool false) (resAt_tmp rfl) ⟨rfl, (hS.sN [])⟩
 ·skip
  have hF2 := cf' hF hb
  refine cw_skip (cw_seq (cw_seq (cw_region ?_)))
  refine sQ 5 (Y_assign (v := vi 0) rfl rfl) (rw_nil ?_)
  obtain ⟨hN, hF2⟩ := chk_inv hF2
  obtain ⟨z, hz, hF3⟩ := bind_inv hF2
  refine cw_block ?_
  refine cw_loop (fun k f w => ∃ (i1 : Nat), FF f [(0, .slice B a.length c), (1, .slice B1 b.length c1), (5, vi (i1 : Int))] ∧ ST w0 [] w [] [⟨B, (a.flatMap eN0)⟩, ⟨B1, (b.flatMap eN0)⟩] ∧ i1 + k = a.length ∧ forX (F_laws_eqDyadicS_l1 a b) k i1 () = some z) a.length ⟨0, (FF.cons rfl (FF.cons rfl (FF.cons rfl FF.nil))), (hS.sel [] rfl rfl), Nat.zero_add _, hz⟩ ?_
  rintro k_ f w ⟨i1, hf, hS1, hik, hL⟩
  refine cw_seq (cw_seq (cw_region ?_))
  refine sQ 11 (Y_move (v := vi (i1 : Int)) rfl (hf.get 5 2 rfl)) ?_
  refine sQ 12 (Y_move (v := .slice B a.length c) rfl (hf.get 0 0 rfl)) ?_
  refine sQ 13 (Y_len (B := B) (m := a.length) (c := c) k_sl_28_65 rfl rfl) ?_
  refine sQ 14 (Y_lt (k := .i64) (a := (i1 : Int)) (b := (a.length : Int)) rfl rfl rfl) (rw_nil ?_)
  refine cw_cond (b := (decide ((i1 : Int) < (a.length : Int)))) rfl (fun hlt => ?_) (fun hlt => ?_)
  ·skip
   have hlt1 : i1 < a.length := by have h := of_decide_eq_true hlt; omega
   obtain ⟨k_1, rfl⟩ : ∃ k2, k_ = k2 + 1 := ⟨k_ - 1, by omega⟩
   obtain ⟨y, hb1, hL1⟩ := forX_go hL
   unfold F_laws_eqDyadicS_l1 at hb1
   refine cw_skip (cw_seq (cw_block (cw_seq ?_)))
   obtain ⟨x, hx, hb1⟩ := bind_inv hb1
   obtain ⟨x1, hx1, hb1⟩ := bind_inv hb1
   obtain ⟨r_1, hc, hb1⟩ := bind_inv hb1
   refine ra_start (hS1.se []).fn (by kernel_rfl) ?_
   have hS3 := hS1.drew
   refine rq 0 17 (v := .slice B a.length c) rfl (hS3.se []) (fun w' hw' => (Y_move (v := .slice B a.length c) rfl (hf.get 0 0 rfl))) ?_
   refine rq 1 18 (v := vi (i1 : Int)) rfl (hS3.se []) (fun w' hw' => (Y_move (v := vi (i1 : Int)) rfl (hf.get 5 2 rfl))) ?_
   refine rq 2 19 (v := pt B ((i1 : Int).toNat * 5)) rfl (hS3.se []) (fun w' hw' => (Y_index (B := B) (m := a.length) (c := c) (k := .i64) (i := (i1 : Int)) k_sl_28_65 k_sz_65_5 rfl rfl rfl (gi_isSome eN2 rfl (ST.rf hw' (i := 0) rfl) hx) (getI_nn hx) (getI_ltI hx rfl))) ?_
   refine rq 3 20 (v := gD_ x) rfl (hS3.se []) (fun w' hw' => (Y_loadA (B := B) (i := (i1 : Int).toNat * 5) (cs := (a.flatMap eN0)) (vs := kD_ x) k_ag_65 k_sz_65_5 rfl rfl (ST.rf hw' (i := 0) rfl) (eN2 x) (gi_seg eN2 hx))) ?_
   refine rq 4 21 (v := .slice B1 b.length c1) rfl (hS3.se []) (fun w' hw' => (Y_move (v := .slice B1 b.length c1) rfl (hf.get 1 1 rfl))) ?_
   refine rq 5 22 (v := vi (i1 : Int)) rfl (hS3.se []) (fun w' hw' => (Y_move (v := vi (i1 : Int)) rfl (hf.get 5 2 rfl))) ?_
   refine rq 6 23 (v := pt B1 ((i1 : Int).toNat * 5)) rfl (hS3.se []) (fun w' hw' => (Y_index (B := B1) (m := b.length) (c := c1) (k := .i64) (i := (i1 : Int)) k_sl_28_65 k_sz_65_5 rfl rfl rfl (gi_isSome eN2 rfl (ST.rf hw' (i := 1) rfl) hx1) (getI_nn hx1) (getI_ltI hx1 rfl))) ?_
   refine rq 7 24 (v := gD_ x1) rfl (hS3.se []) (fun w' hw' => (Y_loadA (B := B1) (i := (i1 : Int).toNat * 5) (cs := (b.flatMap eN0)) (vs := kD_ x1) k_ag_65 k_sz_65_5 rfl rfl (ST.rf hw' (i := 1) rfl) (eN2 x1) (gi_seg eN2 hx1))) ?_
   refine rA [8] ?_
   refine ra_c 25 (i := 8) rfl rfl rfl (Yc_func (g := 70) (vs := [gD_ x, gD_ x1]) k_call_70 rfl (mc rfl (mc rfl mn)) (c_laws_eqDyadic x x1 _  (hS3.inn0 [] rfl) hc)) ?_ ?_
   ·rintro _ w_ ⟨rfl, hd⟩
    have hS4 := hS3.out00 hd
    refine ⟨(hS4.se []), ?_⟩
    refine rq 9 26 (v := .bool (!r_1)) rfl (hS4.se []) (fun w' hw' => (Y_not (p := r_1) rfl rfl)) ?_
    refine ra_done (by kernel_rfl) ?_
    refine cw_cond (b := (!r_1)) rfl (fun hb2 => ?_) (fun hb2 => ?_)
    ·skip
     have hF4 := ct hb1 hb2
     refine cw_seq (cw_region ?_)
     refine sQ 4 (Y_assign (v := .bool false) rfl rfl) (rw_nil (cw_ret ?_))
     obtain rfl := some_inj hF4
     obtain rfl := some_inj hL1
     obtain rfl := some_inj hF3
     exact ret1 Tryz.results30 (v1 := .bool false) (resAt_tmp rfl) ⟨rfl, (hS4.sN [])⟩
    ·skip
     have hF5 := cf' hb1 hb2
     refine cw_skip (cw_region ?_)
     refine sQ 15 (Y_move (v := vi (i1 : Int)) rfl (hf.get 5 2 rfl)) ?_
     refine sQ 16 (Y_add (k := .i64) (a := (i1 : Int)) (b := 1) rfl rfl rfl) ?_
     refine sQ 5 (Y_assign (v := vi (i64.wrap ((i1 : Int) + 1))) rfl rfl) (rw_nil ?_)
     obtain rfl := some_inj hF5
     exact ⟨k_1, Nat.lt_succ_self _, i1 + 1, (FF.cons (hf.get 0 0 rfl) (FF.cons (hf.get 1 1 rfl) (FF.cons (congrArg (Value.int .i64) (wr_succ hlt1 hN)) FF.nil))), (hS4.sel [] rfl rfl), (by omega), hL1⟩
   exact allR_nil
  ·skip
   obtain rfl : k_ = 0 := by have h := of_decide_eq_false hlt; omega
   refine cw_exit rfl ?_
   obtain rfl := some_inj hL
   refine cw_seq (cw_region ?_)
   refine sQ 4 (Y_assign (v := .bool true) rfl rfl) (rw_nil (cw_ret ?_))
   obtain rfl := some_inj hF3
   exact ret1 Tryz.results30 (v1 := .bool true) (resAt_tmp rfl) ⟨rfl, (hS1.sN [])⟩

theorem c_laws_eqMatrix (a : TMatrix) (b : TMatrix) (B : Option Addr) (c n : Nat) (B1 : Option Addr) (c1 n1 : Nat) (w0 : World) (hn : a.Cells.length = n) (hn1 : b.Cells.length = n1) (hS : ST w0 [] w0 [] [⟨B, (a.Cells.flatMap eN0)⟩, ⟨B1, (b.Cells.flatMap eN0)⟩]) {r_ : Bool} (hF : F_laws_eqMatrix a b = some r_) :
  CV Tryz.prog 20 #[.agg #[vi a.Rows, vi a.Cols, .slice B n c], .agg #[vi b.Rows, vi b.Cols, .slice B1 n1 c1]] w0 (fun v w' => v = .bool r_ ∧ ST w0 [] w' [] []) := by
 subst hn
 subst hn1
 unfold F_laws_eqMatrix at hF
 refine cv_of_cw 21 Tryz.func20 rfl Tryz.ntmps20 rfl ?_
 refine cw_seq (cw_region ?_)
 refine sS 2 (Ys_box (T := 48) (v := gM_ a B c) (cs := kM_ a B c) (m := 3) hS rfl rfl rfl rfl) ?_
 rintro _ w_ ⟨b1, rfl, hS1⟩
 refine sS 3 (Ys_box (T := 48) (v := gM_ b B1 c1) (cs := kM_ b B1 c1) (m := 3) hS1 rfl rfl rfl rfl) ?_
 rintro _ w_1 ⟨b2, rfl, hS2⟩
 refine sQ 4 (Y_assign (v := .bool false) rfl rfl) (rw_nil (cw_seq (cw_seq (cw_region ?_))))
 refine sQ 5 (Y_fieldAddr (B := aD b1) (i := 0) (s := 0) k_fd_48_0_0_3 k_sz_3_1 rfl rfl) ?_
 refine sQ 6 (Y_load1 (B := aD b1) (i := 0) (cs := kM_ a B c) (v := vi a.Rows) k_sc_3 rfl rfl (hS2.cf (i := 0) rfl) rfl) ?_
 refine sQ 7 (Y_fieldAddr (B := aD b2) (i := 0) (s := 0) k_fd_48_0_0_3 k_sz_3_1 rfl rfl) ?_
 refine sQ 8 (Y_load1 (B := aD b2) (i := 0) (cs := kM_ b B1 c1) (v := vi b.Rows) k_sc_3 rfl rfl (hS2.cf (i := 1) rfl) rfl) ?_
 refine sQ 9 (Y_ne (k := .i64) (a := a.Rows) (b := b.Rows) rfl rfl rfl) (rw_nil ?_)
 refine cw_cond (b := (a.Rows != b.Rows)) rfl (fun hb => ?_) (fun hb => ?_)
 ·skip
  have hF1 := ct hF hb
  refine cw_seq (cw_region ?_)
  refine sQ 4 (Y_assign (v := .bool false) rfl rfl) (rw_nil (cw_ret ?_))
  obtain rfl := some_inj hF1
  exact ret1 Tryz.results20 (v1 := .bool false) (resAt_tmp rfl) ⟨rfl, (hS2.sN [])⟩
 ·skip
  have hF2 := cf' hF hb
  refine cw_skip (cw_seq (cw_seq (cw_region ?_)))
  refine sQ 10 (Y_fieldAddr (B := aD b1) (i := 0) (s := 0) k_fd_48_1_1_3 k_sz_3_1 rfl rfl) ?_
  refine sQ 11 (Y_load1 (B := aD b1) (i := 1) (cs := kM_ a B c) (v := vi a.Cols) k_sc_3 rfl rfl (hS2.cf (i := 0) rfl) rfl) ?_
  refine sQ 12 (Y_fieldAddr (B := aD b2) (i := 0) (s := 0) k_fd_48_1_1_3 k_sz_3_1 rfl rfl) ?_
  refine sQ 13 (Y_load1 (B := aD b2) (i := 1) (cs := kM_ b B1 c1) (v := vi b.Cols) k_sc_3 rfl rfl (hS2.cf (i := 1) rfl) rfl) ?_
  refine sQ 14 (Y_ne (k := .i64) (a := a.Cols) (b := b.Cols) rfl rfl rfl) (rw_nil ?_)
  refine cw_cond (b := (a.Cols != b.Cols)) rfl (fun hb1 => ?_) (fun hb1 => ?_)
  ·skip
   have hF3 := ct hF2 hb1
   refine cw_seq (cw_region ?_)
   refine sQ 4 (Y_assign (v := .bool false) rfl rfl) (rw_nil (cw_ret ?_))
   obtain rfl := some_inj hF3
   exact ret1 Tryz.results20 (v1 := .bool false) (resAt_tmp rfl) ⟨rfl, (hS2.sN [])⟩
  ·skip
   have hF4 := cf' hF2 hb1
   refine cw_skip (cw_seq (cw_seq (cw_region ?_)))
   refine sQ 15 (Y_fieldAddr (B := aD b1) (i := 0) (s := 0) k_fd_48_2_2_28 k_sz_28_1 rfl rfl) ?_
   refine sQ 16 (Y_load1 (B := aD b1) (i := 2) (cs := kM_ a B c) (v := .slice B a.Cells.length c) k_sc_28 rfl rfl (hS2.cf (i := 0) rfl) rfl) ?_
   refine sQ 17 (Y_fieldAddr (B := aD b2) (i := 0) (s := 0) k_fd_48_2_2_28 k_sz_28_1 rfl rfl) ?_
   refine sQ 18 (Y_load1 (B := aD b2) (i := 2) (cs := kM_ b B1 c1) (v := .slice B1 b.Cells.length c1) k_sc_28 rfl rfl (hS2.cf (i := 1) rfl) rfl) ?_
   obtain ⟨r_1, hc, hF4⟩ := bind_inv hF4
   refine sc 19 rfl rfl (Yc_func (g := 30) (vs := [.slice B a.Cells.length c, .slice B1 b.Cells.length c1]) k_call_30 rfl (mc rfl (mc rfl mn)) (c_laws_eqDyadicS a.Cells b.Cells B c a.Cells.length B1 c1 b.Cells.length _ rfl rfl (hS2.inn0 [(true, 0), (true, 1)] rfl) hc)) ?_
   rintro _ w_2 ⟨rfl, hd⟩
   have hS3 := hS2.out00 hd
   refine sQ 20 (Y_not (p := r_1) rfl rfl) (rw_nil ?_)
   refine cw_cond (b := (!r_1)) rfl (fun hb2 => ?_) (fun hb2 => ?_)
   ·skip
    have hF5 := ct hF4 hb2
    refine cw_seq (cw_region ?_)
    refine sQ 4 (Y_assign (v := .bool false) rfl rfl) (rw_nil (cw_ret ?_))
    obtain rfl := some_inj hF5
    exact ret1 Tryz.results20 (v1 := .bool false) (resAt_tmp rfl) ⟨rfl, (hS3.sN [])⟩
   ·skip
    have hF6 := cf' hF4 hb2
    refine cw_skip (cw_seq (cw_region ?_))
    refine sQ 4 (Y_assign (v := .bool true) rfl rfl) (rw_nil (cw_ret ?_))
    obtain rfl := some_inj hF6
    exact ret1 Tryz.results20 (v1 := .bool true) (resAt_tmp rfl) ⟨rfl, (hS3.sN [])⟩
end Go.VK
