/- Walks: each Go function returns what its Lean function says. By program. -/
import Derived.Test.YtklicjfbpikobaaPathSumOfFa
import Derived.Test.YtklicjfbpikobaaPathSumOfShelf
import Derived.Test.YtklicjfbpikobaaLibT
import Derived.WalkKit
set_option linter.unusedVariables false
set_option maxRecDepth 100000
set_option maxHeartbeats 4000000
namespace Go.VK
open Go.RowKit
open Go.Proofs
attribute [local irreducible] CW RW RA CV Y Yw Yc Ys RetOf
attribute [local irreducible] F_laws_eqGate F_laws_eqGateS F_laws_eqCircuit F_laws_markGateS F_laws_markCircuit F_laws_szGateS F_laws_szCircuit F_laws_toGate F_laws_toGateS F_laws_toCircuit F_laws_eqTerm F_laws_eqTermS F_laws_eqAffine F_laws_eqAffineS F_laws_eqPathSum F_laws_markTermS F_laws_markAffineS F_laws_markPathSum F_laws_heldTermS F_laws_heldAffineS F_laws_heldPathSum F_spec_l1In F_spec_l4Gate F_spec_l4Good F_spec_l21Sum_add F_spec_l1Set F_spec_l21Sum_times F_spec_l21Sum_product F_spec_l21Xor F_spec_l13Coef F_spec_l21Of F_spec_PathSumOf F_impl_within F_slices_IndexFunc_impl_Gate_impl_Gate F_slices_ContainsFunc_impl_Gate_impl_Gate F_impl_isTwo F_impl_IsValidGate F_impl_IsValidCircuit_1 F_impl_IsValidCircuit F_impl_polynomial_add F_impl_bitsOf F_impl_polynomial_expand F_impl_polynomial_product F_impl_rotationCoef F_impl_summer_process F_impl_polynomial_terms F_impl_PathSumOf F_laws_FnExactPathSumOf
theorem c_laws_eqGate (a : TGate) (b : TGate)  (w0 : World)  (hS : ST w0 [] w0 [] []) {r_ : Bool} (hF : F_laws_eqGate a b = some r_) :
    CV Try.prog 85 #[.agg #[.int .i64 a.Kind, .int .i64 a.A, .int .i64 a.B], .agg #[.int .i64 b.Kind, .int .i64 b.A, .int .i64 b.B]] w0 (fun v w' => v = .bool r_ ∧ ST w0 [] w' [] []) := by
  unfold F_laws_eqGate at hF
  refine cv_of_cw 20 Try.func85 rfl Try.ntmps85 rfl ?_
  refine cw_seq ?_
  refine cw_region ?_
  refine ss 2 rfl rfl (Ys_box (T := 76) (v := .agg #[.int .i64 a.Kind, .int .i64 a.A, .int .i64 a.B]) (cs := [.int .i64 a.Kind, .int .i64 a.A, .int .i64 a.B]) (m := 3) hS rfl rfl rfl rfl) ?_
  rintro _ w_ ⟨b1, rfl, hS1⟩
  refine ss 3 rfl rfl (Ys_box (T := 76) (v := .agg #[.int .i64 b.Kind, .int .i64 b.A, .int .i64 b.B]) (cs := [.int .i64 b.Kind, .int .i64 b.A, .int .i64 b.B]) (m := 3) hS1 rfl rfl rfl rfl) ?_
  rintro _ w_1 ⟨b2, rfl, hS2⟩
  have hS2 : ST w0 [] _ [⟨some ⟨b1, 0, none⟩, 76, [.int .i64 a.Kind, .int .i64 a.A, .int .i64 a.B], 3⟩, ⟨some ⟨b2, 0, none⟩, 76, [.int .i64 b.Kind, .int .i64 b.A, .int .i64 b.B], 3⟩] [] := hS2
  refine sq 4 rfl rfl (Y_assign (v := .bool false) rfl rfl) ?_
  refine rw_nil ?_
  refine cw_seq ?_
  refine cw_seq ?_
  refine cw_region ?_
  refine sq 5 rfl rfl (Y_fieldAddr (B := some ⟨b1, 0, none⟩) (i := 0) (s := 0) k_fd_76_0_0_3 k_sz_3_1 rfl rfl) ?_
  refine sq 6 rfl rfl (Y_load1 (B := some ⟨b1, 0, none⟩) (i := 0) (cs := [.int .i64 a.Kind, .int .i64 a.A, .int .i64 a.B]) (v := .int .i64 a.Kind) k_sc_3 rfl rfl (hS2.cf (i := 0) rfl) rfl) ?_
  refine sq 7 rfl rfl (Y_fieldAddr (B := some ⟨b2, 0, none⟩) (i := 0) (s := 0) k_fd_76_0_0_3 k_sz_3_1 rfl rfl) ?_
  refine sq 8 rfl rfl (Y_load1 (B := some ⟨b2, 0, none⟩) (i := 0) (cs := [.int .i64 b.Kind, .int .i64 b.A, .int .i64 b.B]) (v := .int .i64 b.Kind) k_sc_3 rfl rfl (hS2.cf (i := 1) rfl) rfl) ?_
  refine sq 9 rfl rfl (Y_ne (k := .i64) (a := a.Kind) (b := b.Kind) rfl rfl rfl) ?_
  refine rw_nil ?_
  refine cw_cond (b := (a.Kind != b.Kind)) rfl (fun hb => ?_) (fun hb => ?_)
  · skip
    have hF1 := ct hF hb
    refine cw_seq ?_
    refine cw_region ?_
    refine sq 4 rfl rfl (Y_assign (v := .bool false) rfl rfl) ?_
    refine rw_nil ?_
    refine cw_ret ?_
    obtain rfl := some_inj hF1
    exact ret1 Try.results85 (v1 := .bool false) (resAt_tmp rfl) ⟨rfl, (ST.subR (R' := []) (hS2.sel [] rfl rfl) (fun _ h => by cases h))⟩
  · skip
    have hF2 := cf' hF hb
    refine cw_skip ?_
    refine cw_seq ?_
    refine cw_seq ?_
    refine cw_region ?_
    refine sq 10 rfl rfl (Y_fieldAddr (B := some ⟨b1, 0, none⟩) (i := 0) (s := 0) k_fd_76_1_1_3 k_sz_3_1 rfl rfl) ?_
    refine sq 11 rfl rfl (Y_load1 (B := some ⟨b1, 0, none⟩) (i := 1) (cs := [.int .i64 a.Kind, .int .i64 a.A, .int .i64 a.B]) (v := .int .i64 a.A) k_sc_3 rfl rfl (hS2.cf (i := 0) rfl) rfl) ?_
    refine sq 12 rfl rfl (Y_fieldAddr (B := some ⟨b2, 0, none⟩) (i := 0) (s := 0) k_fd_76_1_1_3 k_sz_3_1 rfl rfl) ?_
    refine sq 13 rfl rfl (Y_load1 (B := some ⟨b2, 0, none⟩) (i := 1) (cs := [.int .i64 b.Kind, .int .i64 b.A, .int .i64 b.B]) (v := .int .i64 b.A) k_sc_3 rfl rfl (hS2.cf (i := 1) rfl) rfl) ?_
    refine sq 14 rfl rfl (Y_ne (k := .i64) (a := a.A) (b := b.A) rfl rfl rfl) ?_
    refine rw_nil ?_
    refine cw_cond (b := (a.A != b.A)) rfl (fun hb1 => ?_) (fun hb1 => ?_)
    · skip
      have hF3 := ct hF2 hb1
      refine cw_seq ?_
      refine cw_region ?_
      refine sq 4 rfl rfl (Y_assign (v := .bool false) rfl rfl) ?_
      refine rw_nil ?_
      refine cw_ret ?_
      obtain rfl := some_inj hF3
      exact ret1 Try.results85 (v1 := .bool false) (resAt_tmp rfl) ⟨rfl, (ST.subR (R' := []) (hS2.sel [] rfl rfl) (fun _ h => by cases h))⟩
    · skip
      have hF4 := cf' hF2 hb1
      refine cw_skip ?_
      refine cw_seq ?_
      refine cw_seq ?_
      refine cw_region ?_
      refine sq 15 rfl rfl (Y_fieldAddr (B := some ⟨b1, 0, none⟩) (i := 0) (s := 0) k_fd_76_2_2_3 k_sz_3_1 rfl rfl) ?_
      refine sq 16 rfl rfl (Y_load1 (B := some ⟨b1, 0, none⟩) (i := 2) (cs := [.int .i64 a.Kind, .int .i64 a.A, .int .i64 a.B]) (v := .int .i64 a.B) k_sc_3 rfl rfl (hS2.cf (i := 0) rfl) rfl) ?_
      refine sq 17 rfl rfl (Y_fieldAddr (B := some ⟨b2, 0, none⟩) (i := 0) (s := 0) k_fd_76_2_2_3 k_sz_3_1 rfl rfl) ?_
      refine sq 18 rfl rfl (Y_load1 (B := some ⟨b2, 0, none⟩) (i := 2) (cs := [.int .i64 b.Kind, .int .i64 b.A, .int .i64 b.B]) (v := .int .i64 b.B) k_sc_3 rfl rfl (hS2.cf (i := 1) rfl) rfl) ?_
      refine sq 19 rfl rfl (Y_ne (k := .i64) (a := a.B) (b := b.B) rfl rfl rfl) ?_
      refine rw_nil ?_
      refine cw_cond (b := (a.B != b.B)) rfl (fun hb2 => ?_) (fun hb2 => ?_)
      · skip
        have hF5 := ct hF4 hb2
        refine cw_seq ?_
        refine cw_region ?_
        refine sq 4 rfl rfl (Y_assign (v := .bool false) rfl rfl) ?_
        refine rw_nil ?_
        refine cw_ret ?_
        obtain rfl := some_inj hF5
        exact ret1 Try.results85 (v1 := .bool false) (resAt_tmp rfl) ⟨rfl, (ST.subR (R' := []) (hS2.sel [] rfl rfl) (fun _ h => by cases h))⟩
      · skip
        have hF6 := cf' hF4 hb2
        refine cw_skip ?_
        refine cw_seq ?_
        refine cw_region ?_
        refine sq 4 rfl rfl (Y_assign (v := .bool true) rfl rfl) ?_
        refine rw_nil ?_
        refine cw_ret ?_
        obtain rfl := some_inj hF6
        exact ret1 Try.results85 (v1 := .bool true) (resAt_tmp rfl) ⟨rfl, (ST.subR (R' := []) (hS2.sel [] rfl rfl) (fun _ h => by cases h))⟩

theorem c_laws_eqGateS (a : List TGate) (b : List TGate) (B : Option Addr) (c n : Nat) (B1 : Option Addr) (c1 n1 : Nat) (w0 : World) (hn : a.length = n) (hn1 : b.length = n1) (hS : ST w0 [] w0 [] [⟨B, (a.flatMap enc_Gate)⟩, ⟨B1, (b.flatMap enc_Gate)⟩]) {r_ : Bool} (hF : F_laws_eqGateS a b = some r_) :
    CV Try.prog 37 #[.slice B n c, .slice B1 n1 c1] w0 (fun v w' => v = .bool r_ ∧ ST w0 [] w' [] []) := by
  subst hn
  subst hn1
  unfold F_laws_eqGateS at hF
  refine cv_of_cw 27 Try.func37 rfl Try.ntmps37 rfl ?_
  refine cw_seq ?_
  refine cw_region ?_
  refine sq 4 rfl rfl (Y_assign (v := .bool false) rfl rfl) ?_
  refine rw_nil ?_
  refine cw_seq ?_
  refine cw_seq ?_
  refine cw_region ?_
  refine sq 6 rfl rfl (Y_move (v := .slice B a.length c) rfl rfl) ?_
  refine sq 7 rfl rfl (Y_len (B := B) (m := a.length) (c := c) k_sl_26_76 rfl rfl) ?_
  refine sq 8 rfl rfl (Y_move (v := .slice B1 b.length c1) rfl rfl) ?_
  refine sq 9 rfl rfl (Y_len (B := B1) (m := b.length) (c := c1) k_sl_26_76 rfl rfl) ?_
  refine sq 10 rfl rfl (Y_ne (k := .i64) (a := (a.length : Int)) (b := (b.length : Int)) rfl rfl rfl) ?_
  refine rw_nil ?_
  refine cw_cond (b := ((a.length : Int) != (b.length : Int))) rfl (fun hb => ?_) (fun hb => ?_)
  · skip
    have hF1 := ct hF hb
    refine cw_seq ?_
    refine cw_region ?_
    refine sq 4 rfl rfl (Y_assign (v := .bool false) rfl rfl) ?_
    refine rw_nil ?_
    refine cw_ret ?_
    obtain rfl := some_inj hF1
    exact ret1 Try.results37 (v1 := .bool false) (resAt_tmp rfl) ⟨rfl, (ST.subR (R' := []) (hS.sel [] rfl rfl) (fun _ h => by cases h))⟩
  · skip
    have hF2 := cf' hF hb
    refine cw_skip ?_
    refine cw_seq ?_
    refine cw_seq ?_
    refine cw_region ?_
    refine sq 5 rfl rfl (Y_assign (v := .int .i64 0) rfl rfl) ?_
    refine rw_nil ?_
    obtain ⟨hN, hF2⟩ := chk_inv hF2
    obtain ⟨z, hz, hF3⟩ := bind_inv hF2
    refine cw_block ?_
    refine cw_loop (fun k f w => ∃ (i1 : Nat), FF f [(0, .slice B a.length c), (1, .slice B1 b.length c1), (5, .int .i64 (i1 : Int))] ∧ ST w0 [] w [] [⟨B, (a.flatMap enc_Gate)⟩, ⟨B1, (b.flatMap enc_Gate)⟩] ∧ i1 + k = a.length ∧ forX (F_laws_eqGateS_l1 a b) k i1 () = some z) a.length ⟨0, (FF.cons rfl (FF.cons rfl (FF.cons rfl FF.nil))), (hS.sel [] rfl rfl), Nat.zero_add _, hz⟩ ?_
    rintro k_ f w ⟨i1, hf, hS1, hik, hL⟩
    refine cw_seq ?_
    refine cw_seq ?_
    refine cw_region ?_
    refine sq 11 rfl rfl (Y_move (v := .int .i64 (i1 : Int)) rfl (hf.get 5 2 rfl)) ?_
    refine sq 12 rfl rfl (Y_move (v := .slice B a.length c) rfl (hf.get 0 0 rfl)) ?_
    refine sq 13 rfl rfl (Y_len (B := B) (m := a.length) (c := c) k_sl_26_76 rfl rfl) ?_
    refine sq 14 rfl rfl (Y_lt (k := .i64) (a := (i1 : Int)) (b := (a.length : Int)) rfl rfl rfl) ?_
    refine rw_nil ?_
    refine cw_cond (b := (decide ((i1 : Int) < (a.length : Int)))) rfl (fun hlt => ?_) (fun hlt => ?_)
    · skip
      have hlt1 : i1 < a.length := by have h := of_decide_eq_true hlt; omega
      obtain ⟨k_1, rfl⟩ : ∃ k2, k_ = k2 + 1 := ⟨k_ - 1, by omega⟩
      obtain ⟨y, hb1, hL1⟩ := forX_go hL
      unfold F_laws_eqGateS_l1 at hb1
      refine cw_skip ?_
      refine cw_seq ?_
      refine cw_block ?_
      refine cw_seq ?_
      obtain ⟨x, hx, hb1⟩ := bind_inv hb1
      obtain ⟨x1, hx1, hb1⟩ := bind_inv hb1
      obtain ⟨r_1, hc, hb1⟩ := bind_inv hb1
      refine ra_start (ST.sel hS1 [] rfl rfl).fn (by kernel_rfl) ?_
      have hS3 := hS1.drew
      refine ra_q 0 17 (v := .slice B a.length c) rfl rfl rfl (by kernel_rfl) (by kernel_rfl) (by kernel_rfl) (ST.sel hS3 [] rfl rfl) (fun w' hw' => (Y_move (v := .slice B a.length c) rfl (hf.get 0 0 rfl))) ?_
      refine ra_q 1 18 (v := .int .i64 (i1 : Int)) rfl rfl rfl (by kernel_rfl) (by kernel_rfl) (by kernel_rfl) (ST.sel hS3 [] rfl rfl) (fun w' hw' => (Y_move (v := .int .i64 (i1 : Int)) rfl (hf.get 5 2 rfl))) ?_
      refine ra_q 2 19 (v := pt B ((i1 : Int).toNat * 3)) rfl rfl rfl (by kernel_rfl) (by kernel_rfl) (by kernel_rfl) (ST.sel hS3 [] rfl rfl) (fun w' hw' => (Y_index (B := B) (m := a.length) (c := c) (k := .i64) (i := (i1 : Int)) k_sl_26_76 k_sz_76_3 rfl rfl rfl (gi_isSome enc_Gate_len rfl (ST.rf hw' (i := 0) rfl) hx) (getI_nn hx) (getI_ltI hx rfl))) ?_
      refine ra_q 3 20 (v := .agg #[.int .i64 x.Kind, .int .i64 x.A, .int .i64 x.B]) rfl rfl rfl (by kernel_rfl) (by kernel_rfl) (by kernel_rfl) (ST.sel hS3 [] rfl rfl) (fun w' hw' => (Y_loadA (B := B) (i := (i1 : Int).toNat * 3) (cs := (a.flatMap enc_Gate)) (vs := [.int .i64 x.Kind, .int .i64 x.A, .int .i64 x.B]) k_ag_76 k_sz_76_3 rfl rfl (ST.rf hw' (i := 0) rfl) (enc_Gate_len x) (gi_seg enc_Gate_len hx))) ?_
      refine ra_q 4 21 (v := .slice B1 b.length c1) rfl rfl rfl (by kernel_rfl) (by kernel_rfl) (by kernel_rfl) (ST.sel hS3 [] rfl rfl) (fun w' hw' => (Y_move (v := .slice B1 b.length c1) rfl (hf.get 1 1 rfl))) ?_
      refine ra_q 5 22 (v := .int .i64 (i1 : Int)) rfl rfl rfl (by kernel_rfl) (by kernel_rfl) (by kernel_rfl) (ST.sel hS3 [] rfl rfl) (fun w' hw' => (Y_move (v := .int .i64 (i1 : Int)) rfl (hf.get 5 2 rfl))) ?_
      refine ra_q 6 23 (v := pt B1 ((i1 : Int).toNat * 3)) rfl rfl rfl (by kernel_rfl) (by kernel_rfl) (by kernel_rfl) (ST.sel hS3 [] rfl rfl) (fun w' hw' => (Y_index (B := B1) (m := b.length) (c := c1) (k := .i64) (i := (i1 : Int)) k_sl_26_76 k_sz_76_3 rfl rfl rfl (gi_isSome enc_Gate_len rfl (ST.rf hw' (i := 1) rfl) hx1) (getI_nn hx1) (getI_ltI hx1 rfl))) ?_
      refine ra_q 7 24 (v := .agg #[.int .i64 x1.Kind, .int .i64 x1.A, .int .i64 x1.B]) rfl rfl rfl (by kernel_rfl) (by kernel_rfl) (by kernel_rfl) (ST.sel hS3 [] rfl rfl) (fun w' hw' => (Y_loadA (B := B1) (i := (i1 : Int).toNat * 3) (cs := (b.flatMap enc_Gate)) (vs := [.int .i64 x1.Kind, .int .i64 x1.A, .int .i64 x1.B]) k_ag_76 k_sz_76_3 rfl rfl (ST.rf hw' (i := 1) rfl) (enc_Gate_len x1) (gi_seg enc_Gate_len hx1))) ?_
      refine ra_all (rs := [8]) (by kernel_rfl) rfl ?_
      refine ra_c 25 (i := 8) rfl rfl rfl (Yc_func (g := 85) (vs := [.agg #[.int .i64 x.Kind, .int .i64 x.A, .int .i64 x.B], .agg #[.int .i64 x1.Kind, .int .i64 x1.A, .int .i64 x1.B]]) k_call_85 rfl (mc rfl (mc rfl mn)) (c_laws_eqGate x x1 _  (hS3.inn0 [] rfl) hc)) ?_ ?_
      · rintro _ w_ ⟨rfl, hd⟩
        have hS4 := hS3.out00 hd
        refine ⟨(ST.sel hS4 [] rfl rfl), ?_⟩
        refine ra_q 9 26 (v := .bool (!r_1)) rfl rfl rfl (by kernel_rfl) (by kernel_rfl) (by kernel_rfl) (ST.sel hS4 [] rfl rfl) (fun w' hw' => (Y_not (p := r_1) rfl rfl)) ?_
        refine ra_done (by kernel_rfl) ?_
        refine cw_cond (b := (!r_1)) rfl (fun hb2 => ?_) (fun hb2 => ?_)
        · skip
          have hF4 := ct hb1 hb2
          refine cw_seq ?_
          refine cw_region ?_
          refine sq 4 rfl rfl (Y_assign (v := .bool false) rfl rfl) ?_
          refine rw_nil ?_
          refine cw_ret ?_
          obtain rfl := some_inj hF4
          obtain rfl := some_inj hL1
          obtain rfl := some_inj hF3
          exact ret1 Try.results37 (v1 := .bool false) (resAt_tmp rfl) ⟨rfl, (ST.subR (R' := []) (hS4.sel [] rfl rfl) (fun _ h => by cases h))⟩
        · skip
          have hF5 := cf' hb1 hb2
          refine cw_skip ?_
          refine cw_region ?_
          refine sq 15 rfl rfl (Y_move (v := .int .i64 (i1 : Int)) rfl (hf.get 5 2 rfl)) ?_
          refine sq 16 rfl rfl (Y_add (k := .i64) (a := (i1 : Int)) (b := 1) rfl rfl rfl) ?_
          refine sq 5 rfl rfl (Y_assign (v := .int .i64 (IntKind.i64.wrap ((i1 : Int) + 1))) rfl rfl) ?_
          refine rw_nil ?_
          obtain rfl := some_inj hF5
          exact ⟨k_1, Nat.lt_succ_self _, i1 + 1, (FF.cons (hf.get 0 0 rfl) (FF.cons (hf.get 1 1 rfl) (FF.cons (congrArg (Value.int .i64) (wr_succ hlt1 hN)) FF.nil))), (hS4.sel [] rfl rfl), (by omega), hL1⟩
      exact allR_nil
    · skip
      obtain rfl : k_ = 0 := by have h := of_decide_eq_false hlt; omega
      refine cw_exit rfl ?_
      obtain rfl := some_inj hL
      refine cw_seq ?_
      refine cw_region ?_
      refine sq 4 rfl rfl (Y_assign (v := .bool true) rfl rfl) ?_
      refine rw_nil ?_
      refine cw_ret ?_
      obtain rfl := some_inj hF3
      exact ret1 Try.results37 (v1 := .bool true) (resAt_tmp rfl) ⟨rfl, (ST.subR (R' := []) (hS1.sel [] rfl rfl) (fun _ h => by cases h))⟩

theorem c_laws_eqCircuit (a : TCircuit) (b : TCircuit) (B : Option Addr) (c n : Nat) (B1 : Option Addr) (c1 n1 : Nat) (w0 : World) (hn : a.Gates.length = n) (hn1 : b.Gates.length = n1) (hS : ST w0 [] w0 [] [⟨B, (a.Gates.flatMap enc_Gate)⟩, ⟨B1, (b.Gates.flatMap enc_Gate)⟩]) {r_ : Bool} (hF : F_laws_eqCircuit a b = some r_) :
    CV Try.prog 11 #[.agg #[.int .i64 a.Qubits, .slice B n c], .agg #[.int .i64 b.Qubits, .slice B1 n1 c1]] w0 (fun v w' => v = .bool r_ ∧ ST w0 [] w' [] []) := by
  subst hn
  subst hn1
  unfold F_laws_eqCircuit at hF
  refine cv_of_cw 16 Try.func11 rfl Try.ntmps11 rfl ?_
  refine cw_seq ?_
  refine cw_region ?_
  refine ss 2 rfl rfl (Ys_box (T := 28) (v := .agg #[.int .i64 a.Qubits, .slice B a.Gates.length c]) (cs := [.int .i64 a.Qubits, .slice B a.Gates.length c]) (m := 2) hS rfl rfl rfl rfl) ?_
  rintro _ w_ ⟨b1, rfl, hS1⟩
  refine ss 3 rfl rfl (Ys_box (T := 28) (v := .agg #[.int .i64 b.Qubits, .slice B1 b.Gates.length c1]) (cs := [.int .i64 b.Qubits, .slice B1 b.Gates.length c1]) (m := 2) hS1 rfl rfl rfl rfl) ?_
  rintro _ w_1 ⟨b2, rfl, hS2⟩
  have hS2 : ST w0 [] _ [⟨some ⟨b1, 0, none⟩, 28, [.int .i64 a.Qubits, .slice B a.Gates.length c], 2⟩, ⟨some ⟨b2, 0, none⟩, 28, [.int .i64 b.Qubits, .slice B1 b.Gates.length c1], 2⟩] [⟨B, (a.Gates.flatMap enc_Gate)⟩, ⟨B1, (b.Gates.flatMap enc_Gate)⟩] := hS2
  refine sq 4 rfl rfl (Y_assign (v := .bool false) rfl rfl) ?_
  refine rw_nil ?_
  refine cw_seq ?_
  refine cw_seq ?_
  refine cw_region ?_
  refine sq 5 rfl rfl (Y_fieldAddr (B := some ⟨b1, 0, none⟩) (i := 0) (s := 0) k_fd_28_0_0_3 k_sz_3_1 rfl rfl) ?_
  refine sq 6 rfl rfl (Y_load1 (B := some ⟨b1, 0, none⟩) (i := 0) (cs := [.int .i64 a.Qubits, .slice B a.Gates.length c]) (v := .int .i64 a.Qubits) k_sc_3 rfl rfl (hS2.cf (i := 0) rfl) rfl) ?_
  refine sq 7 rfl rfl (Y_fieldAddr (B := some ⟨b2, 0, none⟩) (i := 0) (s := 0) k_fd_28_0_0_3 k_sz_3_1 rfl rfl) ?_
  refine sq 8 rfl rfl (Y_load1 (B := some ⟨b2, 0, none⟩) (i := 0) (cs := [.int .i64 b.Qubits, .slice B1 b.Gates.length c1]) (v := .int .i64 b.Qubits) k_sc_3 rfl rfl (hS2.cf (i := 1) rfl) rfl) ?_
  refine sq 9 rfl rfl (Y_ne (k := .i64) (a := a.Qubits) (b := b.Qubits) rfl rfl rfl) ?_
  refine rw_nil ?_
  refine cw_cond (b := (a.Qubits != b.Qubits)) rfl (fun hb => ?_) (fun hb => ?_)
  · skip
    have hF1 := ct hF hb
    refine cw_seq ?_
    refine cw_region ?_
    refine sq 4 rfl rfl (Y_assign (v := .bool false) rfl rfl) ?_
    refine rw_nil ?_
    refine cw_ret ?_
    obtain rfl := some_inj hF1
    exact ret1 Try.results11 (v1 := .bool false) (resAt_tmp rfl) ⟨rfl, (ST.subR (R' := []) (hS2.sel [] rfl rfl) (fun _ h => by cases h))⟩
  · skip
    have hF2 := cf' hF hb
    refine cw_skip ?_
    refine cw_seq ?_
    refine cw_seq ?_
    refine cw_region ?_
    refine sq 10 rfl rfl (Y_fieldAddr (B := some ⟨b1, 0, none⟩) (i := 0) (s := 0) k_fd_28_1_1_26 k_sz_26_1 rfl rfl) ?_
    refine sq 11 rfl rfl (Y_load1 (B := some ⟨b1, 0, none⟩) (i := 1) (cs := [.int .i64 a.Qubits, .slice B a.Gates.length c]) (v := .slice B a.Gates.length c) k_sc_26 rfl rfl (hS2.cf (i := 0) rfl) rfl) ?_
    refine sq 12 rfl rfl (Y_fieldAddr (B := some ⟨b2, 0, none⟩) (i := 0) (s := 0) k_fd_28_1_1_26 k_sz_26_1 rfl rfl) ?_
    refine sq 13 rfl rfl (Y_load1 (B := some ⟨b2, 0, none⟩) (i := 1) (cs := [.int .i64 b.Qubits, .slice B1 b.Gates.length c1]) (v := .slice B1 b.Gates.length c1) k_sc_26 rfl rfl (hS2.cf (i := 1) rfl) rfl) ?_
    obtain ⟨r_1, hc, hF2⟩ := bind_inv hF2
    refine sc 14 rfl rfl (Yc_func (g := 37) (vs := [.slice B a.Gates.length c, .slice B1 b.Gates.length c1]) k_call_37 rfl (mc rfl (mc rfl mn)) (c_laws_eqGateS a.Gates b.Gates B c a.Gates.length B1 c1 b.Gates.length _ rfl rfl (hS2.inn0 [(true, 0), (true, 1)] rfl) hc)) ?_
    rintro _ w_2 ⟨rfl, hd⟩
    have hS3 := hS2.out00 hd
    have hS3 : ST w0 [] _ [⟨some ⟨b1, 0, none⟩, 28, [.int .i64 a.Qubits, .slice B a.Gates.length c], 2⟩, ⟨some ⟨b2, 0, none⟩, 28, [.int .i64 b.Qubits, .slice B1 b.Gates.length c1], 2⟩] [⟨B, (a.Gates.flatMap enc_Gate)⟩, ⟨B1, (b.Gates.flatMap enc_Gate)⟩] := hS3
    refine sq 15 rfl rfl (Y_not (p := r_1) rfl rfl) ?_
    refine rw_nil ?_
    refine cw_cond (b := (!r_1)) rfl (fun hb1 => ?_) (fun hb1 => ?_)
    · skip
      have hF3 := ct hF2 hb1
      refine cw_seq ?_
      refine cw_region ?_
      refine sq 4 rfl rfl (Y_assign (v := .bool false) rfl rfl) ?_
      refine rw_nil ?_
      refine cw_ret ?_
      obtain rfl := some_inj hF3
      exact ret1 Try.results11 (v1 := .bool false) (resAt_tmp rfl) ⟨rfl, (ST.subR (R' := []) (hS3.sel [] rfl rfl) (fun _ h => by cases h))⟩
    · skip
      have hF4 := cf' hF2 hb1
      refine cw_skip ?_
      refine cw_seq ?_
      refine cw_region ?_
      refine sq 4 rfl rfl (Y_assign (v := .bool true) rfl rfl) ?_
      refine rw_nil ?_
      refine cw_ret ?_
      obtain rfl := some_inj hF4
      exact ret1 Try.results11 (v1 := .bool true) (resAt_tmp rfl) ⟨rfl, (ST.subR (R' := []) (hS3.sel [] rfl rfl) (fun _ h => by cases h))⟩

theorem c_laws_markGateS (a : List TGate) (k_ : Int) (B : Option Addr) (c n : Nat) (w0 : World) (hn : a.length = n) (hS : ST w0 (bl [⟨B, 76, (a.flatMap enc_Gate), c * 3⟩]) w0 [⟨B, 76, (a.flatMap enc_Gate), c * 3⟩] []) {r_ : Int} {m : List TGate} (hF : F_laws_markGateS a k_ = some (r_, m)) :
    CV Try.prog 40 #[.slice B n c, .int .i64 k_] w0 (fun v w' => v = .int .i64 r_ ∧ m.length = n ∧ ST w0 (bl [⟨B, 76, (a.flatMap enc_Gate), c * 3⟩]) w' [⟨B, 76, (m.flatMap enc_Gate), c * 3⟩] []) := by
  subst hn
  unfold F_laws_markGateS at hF
  refine cv_of_cw 34 Try.func40 rfl Try.ntmps40 rfl ?_
  refine cw_seq ?_
  refine cw_region ?_
  refine sq 4 rfl rfl (Y_assign (v := .int .i64 0) rfl rfl) ?_
  refine rw_nil ?_
  refine cw_seq ?_
  refine cw_seq ?_
  refine cw_region ?_
  refine sq 5 rfl rfl (Y_assign (v := .int .i64 0) rfl rfl) ?_
  refine rw_nil ?_
  obtain ⟨hN, hF⟩ := chk_inv hF
  obtain ⟨z, hz, hF1⟩ := bind_inv hF
  refine cw_block ?_
  refine cw_loop (fun k f w => ∃ (i1 : Nat) (m1 : List TGate) (k_1 : Int), FF f [(0, .slice B a.length c), (1, .int .i64 k_1), (5, .int .i64 (i1 : Int))] ∧ m1.length = a.length ∧ ST w0 (bl [⟨B, 76, (a.flatMap enc_Gate), c * 3⟩]) w [⟨B, 76, (m1.flatMap enc_Gate), c * 3⟩] [] ∧ i1 + k = a.length ∧ forN F_laws_markGateS_l1 k i1 (m1, k_1) = some z) a.length ⟨0, a, k_, (FF.cons rfl (FF.cons rfl (FF.cons rfl FF.nil))), rfl, (hS.sel [0] rfl rfl), Nat.zero_add _, hz⟩ ?_
  rintro k_2 f w ⟨i1, m1, k_1, hf, hl, hS1, hik, hL⟩
  refine cw_seq ?_
  refine cw_seq ?_
  refine cw_region ?_
  refine sq 6 rfl rfl (Y_move (v := .int .i64 (i1 : Int)) rfl (hf.get 5 2 rfl)) ?_
  refine sq 7 rfl rfl (Y_move (v := .slice B a.length c) rfl (hf.get 0 0 rfl)) ?_
  refine sq 8 rfl rfl (Y_len (B := B) (m := a.length) (c := c) k_sl_26_76 rfl rfl) ?_
  refine sq 9 rfl rfl (Y_lt (k := .i64) (a := (i1 : Int)) (b := (a.length : Int)) rfl rfl rfl) ?_
  refine rw_nil ?_
  refine cw_cond (b := (decide ((i1 : Int) < (a.length : Int)))) rfl (fun hlt => ?_) (fun hlt => ?_)
  · skip
    have hlt1 : i1 < a.length := by have h := of_decide_eq_true hlt; omega
    obtain ⟨k_3, rfl⟩ : ∃ k2, k_2 = k2 + 1 := ⟨k_2 - 1, by omega⟩
    obtain ⟨y, hb, hL1⟩ := forN_go hL
    unfold F_laws_markGateS_l1 at hb
    refine cw_skip ?_
    refine cw_seq ?_
    refine cw_block ?_
    refine cw_seq ?_
    refine cw_region ?_
    refine sq 12 rfl rfl (Y_move (v := .slice B a.length c) rfl (hf.get 0 0 rfl)) ?_
    refine sq 13 rfl rfl (Y_move (v := .int .i64 (i1 : Int)) rfl (hf.get 5 2 rfl)) ?_
    refine sq 14 rfl rfl (Y_move (v := .int .i64 k_1) rfl (hf.get 1 1 rfl)) ?_
    obtain ⟨x, hx, hb⟩ := bind_inv hb
    refine sq 15 rfl rfl (Y_index (B := B) (m := a.length) (c := c) (k := .i64) (i := (i1 : Int)) k_sl_26_76 k_sz_76_3 rfl rfl rfl (gi_isSome enc_Gate_len rfl (hS1.cf (i := 0) rfl) hx) (getI_nn hx) (getI_ltI hx hl)) ?_
    refine sq 16 rfl rfl (Y_fieldAddr (B := B) (i := (i1 : Int).toNat * 3) (s := 0) k_fd_76_0_0_3 k_sz_3_1 rfl rfl) ?_
    refine ss0 rfl rfl (Ys_store (i := 0) (s := 1) (B := B) (T' := 76) (v := .int .i64 k_1) (vs := [.int .i64 k_1]) (k := (i1 : Int).toNat * 3 + 0) (cs' := ((m1.set (i1 : Int).toNat (TGate.mk k_1 x.A x.B)).flatMap enc_Gate)) hS1 k_sz_3_1 rfl rfl rfl rfl rfl rfl rfl (gi_fit enc_Gate_len hx (j := 0) (k := 1) (by decide)) (gi_setf enc_Gate_len hx (TGate.mk k_1 x.A x.B) rfl (Nat.le_of_ble_eq_true rfl)) rfl) ?_
    rintro _ w_ ⟨rfl, hS2⟩
    refine rw_nil ?_
    refine cw_seq ?_
    refine cw_region ?_
    refine sq 17 rfl rfl (Y_move (v := .int .i64 k_1) rfl (hf.get 1 1 rfl)) ?_
    refine sq 18 rfl rfl (Y_add (k := .i64) (a := k_1) (b := 1) rfl rfl rfl) ?_
    refine sq 1 rfl rfl (Y_assign (v := .int .i64 (IntKind.i64.wrap (k_1 + 1))) rfl rfl) ?_
    refine rw_nil ?_
    refine cw_seq ?_
    refine cw_region ?_
    refine sq 19 rfl rfl (Y_move (v := .slice B a.length c) rfl (hf.get 0 0 rfl)) ?_
    refine sq 20 rfl rfl (Y_move (v := .int .i64 (i1 : Int)) rfl (hf.get 5 2 rfl)) ?_
    refine sq 21 rfl rfl (Y_move (v := .int .i64 (IntKind.i64.wrap (k_1 + 1))) rfl rfl) ?_
    refine sq 22 rfl rfl (Y_index (B := B) (m := a.length) (c := c) (k := .i64) (i := (i1 : Int)) k_sl_26_76 k_sz_76_3 rfl rfl rfl (gi_isSome enc_Gate_len rfl (hS2.cf (i := 0) rfl) (getI_set (y := (TGate.mk k_1 x.A x.B)) hx)) (getI_nn (getI_set (y := (TGate.mk k_1 x.A x.B)) hx)) (getI_ltI (getI_set (y := (TGate.mk k_1 x.A x.B)) hx) (set_len _ _ _ hl))) ?_
    refine sq 23 rfl rfl (Y_fieldAddr (B := B) (i := (i1 : Int).toNat * 3) (s := 0) k_fd_76_1_1_3 k_sz_3_1 rfl rfl) ?_
    refine ss0 rfl rfl (Ys_store (i := 0) (s := 1) (B := B) (T' := 76) (v := .int .i64 (IntKind.i64.wrap (k_1 + 1))) (vs := [.int .i64 (IntKind.i64.wrap (k_1 + 1))]) (k := (i1 : Int).toNat * 3 + 1) (cs' := (((m1.set (i1 : Int).toNat (TGate.mk k_1 x.A x.B)).set (i1 : Int).toNat (TGate.mk k_1 (IntKind.i64.wrap (k_1 + 1)) x.B)).flatMap enc_Gate)) hS2 k_sz_3_1 rfl rfl rfl rfl rfl rfl rfl (gi_fit enc_Gate_len (getI_set (y := (TGate.mk k_1 x.A x.B)) hx) (j := 1) (k := 1) (by decide)) (gi_setf enc_Gate_len (getI_set (y := (TGate.mk k_1 x.A x.B)) hx) (TGate.mk k_1 (IntKind.i64.wrap (k_1 + 1)) x.B) rfl (Nat.le_of_ble_eq_true rfl)) rfl) ?_
    rintro _ w_1 ⟨rfl, hS3⟩
    refine rw_nil ?_
    refine cw_seq ?_
    refine cw_region ?_
    refine sq 24 rfl rfl (Y_move (v := .int .i64 (IntKind.i64.wrap (k_1 + 1))) rfl rfl) ?_
    refine sq 25 rfl rfl (Y_add (k := .i64) (a := (IntKind.i64.wrap (k_1 + 1))) (b := 1) rfl rfl rfl) ?_
    refine sq 1 rfl rfl (Y_assign (v := .int .i64 (IntKind.i64.wrap ((IntKind.i64.wrap (k_1 + 1)) + 1))) rfl rfl) ?_
    refine rw_nil ?_
    refine cw_seq ?_
    refine cw_region ?_
    refine sq 26 rfl rfl (Y_move (v := .slice B a.length c) rfl (hf.get 0 0 rfl)) ?_
    refine sq 27 rfl rfl (Y_move (v := .int .i64 (i1 : Int)) rfl (hf.get 5 2 rfl)) ?_
    refine sq 28 rfl rfl (Y_move (v := .int .i64 (IntKind.i64.wrap ((IntKind.i64.wrap (k_1 + 1)) + 1))) rfl rfl) ?_
    refine sq 29 rfl rfl (Y_index (B := B) (m := a.length) (c := c) (k := .i64) (i := (i1 : Int)) k_sl_26_76 k_sz_76_3 rfl rfl rfl (gi_isSome enc_Gate_len rfl (hS3.cf (i := 0) rfl) (getI_set (y := (TGate.mk k_1 (IntKind.i64.wrap (k_1 + 1)) x.B)) (getI_set (y := (TGate.mk k_1 x.A x.B)) hx))) (getI_nn (getI_set (y := (TGate.mk k_1 (IntKind.i64.wrap (k_1 + 1)) x.B)) (getI_set (y := (TGate.mk k_1 x.A x.B)) hx))) (getI_ltI (getI_set (y := (TGate.mk k_1 (IntKind.i64.wrap (k_1 + 1)) x.B)) (getI_set (y := (TGate.mk k_1 x.A x.B)) hx)) (set_len _ _ _ (set_len _ _ _ hl)))) ?_
    refine sq 30 rfl rfl (Y_fieldAddr (B := B) (i := (i1 : Int).toNat * 3) (s := 0) k_fd_76_2_2_3 k_sz_3_1 rfl rfl) ?_
    refine ss0 rfl rfl (Ys_store (i := 0) (s := 1) (B := B) (T' := 76) (v := .int .i64 (IntKind.i64.wrap ((IntKind.i64.wrap (k_1 + 1)) + 1))) (vs := [.int .i64 (IntKind.i64.wrap ((IntKind.i64.wrap (k_1 + 1)) + 1))]) (k := (i1 : Int).toNat * 3 + 2) (cs' := ((((m1.set (i1 : Int).toNat (TGate.mk k_1 x.A x.B)).set (i1 : Int).toNat (TGate.mk k_1 (IntKind.i64.wrap (k_1 + 1)) x.B)).set (i1 : Int).toNat (TGate.mk k_1 (IntKind.i64.wrap (k_1 + 1)) (IntKind.i64.wrap ((IntKind.i64.wrap (k_1 + 1)) + 1)))).flatMap enc_Gate)) hS3 k_sz_3_1 rfl rfl rfl rfl rfl rfl rfl (gi_fit enc_Gate_len (getI_set (y := (TGate.mk k_1 (IntKind.i64.wrap (k_1 + 1)) x.B)) (getI_set (y := (TGate.mk k_1 x.A x.B)) hx)) (j := 2) (k := 1) (by decide)) (gi_setf enc_Gate_len (getI_set (y := (TGate.mk k_1 (IntKind.i64.wrap (k_1 + 1)) x.B)) (getI_set (y := (TGate.mk k_1 x.A x.B)) hx)) (TGate.mk k_1 (IntKind.i64.wrap (k_1 + 1)) (IntKind.i64.wrap ((IntKind.i64.wrap (k_1 + 1)) + 1))) rfl (Nat.le_of_ble_eq_true rfl)) rfl) ?_
    rintro _ w_2 ⟨rfl, hS4⟩
    refine rw_nil ?_
    refine cw_region ?_
    refine sq 31 rfl rfl (Y_move (v := .int .i64 (IntKind.i64.wrap ((IntKind.i64.wrap (k_1 + 1)) + 1))) rfl rfl) ?_
    refine sq 32 rfl rfl (Y_add (k := .i64) (a := (IntKind.i64.wrap ((IntKind.i64.wrap (k_1 + 1)) + 1))) (b := 1) rfl rfl rfl) ?_
    refine sq 1 rfl rfl (Y_assign (v := .int .i64 (IntKind.i64.wrap ((IntKind.i64.wrap ((IntKind.i64.wrap (k_1 + 1)) + 1)) + 1))) rfl rfl) ?_
    refine rw_nil ?_
    refine cw_region ?_
    refine sq 10 rfl rfl (Y_move (v := .int .i64 (i1 : Int)) rfl (hf.get 5 2 rfl)) ?_
    refine sq 11 rfl rfl (Y_add (k := .i64) (a := (i1 : Int)) (b := 1) rfl rfl rfl) ?_
    refine sq 5 rfl rfl (Y_assign (v := .int .i64 (IntKind.i64.wrap ((i1 : Int) + 1))) rfl rfl) ?_
    refine rw_nil ?_
    obtain rfl := some_inj hb
    exact ⟨k_3, Nat.lt_succ_self _, i1 + 1, (((m1.set (i1 : Int).toNat (TGate.mk k_1 x.A x.B)).set (i1 : Int).toNat (TGate.mk k_1 (IntKind.i64.wrap (k_1 + 1)) x.B)).set (i1 : Int).toNat (TGate.mk k_1 (IntKind.i64.wrap (k_1 + 1)) (IntKind.i64.wrap ((IntKind.i64.wrap (k_1 + 1)) + 1)))), (IntKind.i64.wrap ((IntKind.i64.wrap ((IntKind.i64.wrap (k_1 + 1)) + 1)) + 1)), (FF.cons (hf.get 0 0 rfl) (FF.cons rfl (FF.cons (congrArg (Value.int .i64) (wr_succ hlt1 hN)) FF.nil))), (set_len _ _ _ (set_len _ _ _ (set_len _ _ _ hl))), (hS4.sel [0] rfl rfl), (by omega), hL1⟩
  · skip
    obtain rfl : k_2 = 0 := by have h := of_decide_eq_false hlt; omega
    refine cw_exit rfl ?_
    obtain rfl := some_inj hL
    refine cw_seq ?_
    refine cw_region ?_
    refine sq 33 rfl rfl (Y_move (v := .int .i64 k_1) rfl (hf.get 1 1 rfl)) ?_
    refine sq 4 rfl rfl (Y_assign (v := .int .i64 k_1) rfl rfl) ?_
    refine rw_nil ?_
    refine cw_ret ?_
    obtain ⟨rfl, rfl⟩ := pr2 (some_inj hF1)
    exact ret1 Try.results40 (v1 := .int .i64 k_1) (resAt_tmp rfl) ⟨rfl, hl, (ST.subR (R' := []) (hS1.sel [0] rfl rfl) (fun _ h => by cases h))⟩

theorem c_laws_markCircuit (a : TCircuit) (k_ : Int) (B : Option Addr) (c n : Nat) (w0 : World) (hn : a.Gates.length = n) (hS : ST w0 (bl [⟨B, 76, (a.Gates.flatMap enc_Gate), c * 3⟩]) w0 [⟨B, 76, (a.Gates.flatMap enc_Gate), c * 3⟩] []) {r_ : Int} {m : List TGate} (hF : F_laws_markCircuit a k_ = some (r_, m)) :
    CV Try.prog 14 #[.agg #[.int .i64 a.Qubits, .slice B n c], .int .i64 k_] w0 (fun v w' => v = .int .i64 r_ ∧ m.length = n ∧ ST w0 (bl [⟨B, 76, (a.Gates.flatMap enc_Gate), c * 3⟩]) w' [⟨B, 76, (m.flatMap enc_Gate), c * 3⟩] []) := by
  subst hn
  unfold F_laws_markCircuit at hF
  refine cv_of_cw 10 Try.func14 rfl Try.ntmps14 rfl ?_
  refine cw_seq ?_
  refine cw_region ?_
  refine ss 2 rfl rfl (Ys_box (T := 28) (v := .agg #[.int .i64 a.Qubits, .slice B a.Gates.length c]) (cs := [.int .i64 a.Qubits, .slice B a.Gates.length c]) (m := 2) hS rfl rfl rfl rfl) ?_
  rintro _ w_ ⟨b, rfl, hS1⟩
  have hS1 : ST w0 (bl [⟨B, 76, (a.Gates.flatMap enc_Gate), c * 3⟩]) _ [⟨B, 76, (a.Gates.flatMap enc_Gate), c * 3⟩, ⟨some ⟨b, 0, none⟩, 28, [.int .i64 a.Qubits, .slice B a.Gates.length c], 2⟩] [] := hS1
  refine sq 4 rfl rfl (Y_assign (v := .int .i64 0) rfl rfl) ?_
  refine rw_nil ?_
  refine cw_seq ?_
  refine cw_region ?_
  refine sq 5 rfl rfl (Y_fieldAddr (B := some ⟨b, 0, none⟩) (i := 0) (s := 0) k_fd_28_1_1_26 k_sz_26_1 rfl rfl) ?_
  refine sq 6 rfl rfl (Y_load1 (B := some ⟨b, 0, none⟩) (i := 1) (cs := [.int .i64 a.Qubits, .slice B a.Gates.length c]) (v := .slice B a.Gates.length c) k_sc_26 rfl rfl (hS1.cf (i := 1) rfl) rfl) ?_
  refine sq 7 rfl rfl (Y_move (v := .int .i64 k_) rfl rfl) ?_
  obtain ⟨⟨r_1, m1⟩, hc, hF⟩ := bind_inv hF
  refine sc 8 rfl rfl (Yc_func (g := 40) (vs := [.slice B a.Gates.length c, .int .i64 k_]) k_call_40 rfl (mc rfl (mc rfl mn)) (c_laws_markGateS a.Gates k_ B c a.Gates.length _ rfl (hS1.inn [true, false] rfl [] rfl) hc)) ?_
  rintro _ w_1 ⟨rfl, hl, hd⟩
  have hS2 := hS1.out [true, false] rfl hd
  have hS2 : ST w0 (bl [⟨B, 76, (a.Gates.flatMap enc_Gate), c * 3⟩]) _ [⟨some ⟨b, 0, none⟩, 28, [.int .i64 a.Qubits, .slice B a.Gates.length c], 2⟩, ⟨B, 76, (m1.flatMap enc_Gate), c * 3⟩] [] := hS2
  refine sq 1 rfl rfl (Y_assign (v := .int .i64 r_1) rfl rfl) ?_
  refine rw_nil ?_
  refine cw_seq ?_
  refine cw_region ?_
  refine sq 9 rfl rfl (Y_move (v := .int .i64 r_1) rfl rfl) ?_
  refine sq 4 rfl rfl (Y_assign (v := .int .i64 r_1) rfl rfl) ?_
  refine rw_nil ?_
  refine cw_ret ?_
  obtain ⟨rfl, rfl⟩ := pr2 (some_inj hF)
  exact ret1 Try.results14 (v1 := .int .i64 r_1) (resAt_tmp rfl) ⟨rfl, hl, (ST.subR (R' := []) (hS2.sel [1] rfl rfl) (fun _ h => by cases h))⟩

theorem c_laws_szGateS (a : List TGate) (left : Int) (B : Option Addr) (c n : Nat) (w0 : World) (hn : a.length = n) (hS : ST w0 [] w0 [] [⟨B, (a.flatMap enc_Gate)⟩]) {r_ : Int} (hF : F_laws_szGateS a left = some r_) :
    CV Try.prog 42 #[.slice B n c, .int .i64 left] w0 (fun v w' => v = .int .i64 r_ ∧ ST w0 [] w' [] []) := by
  subst hn
  unfold F_laws_szGateS at hF
  refine cv_of_cw 12 Try.func42 rfl Try.ntmps42 rfl ?_
  refine cw_seq ?_
  refine cw_region ?_
  refine sq 4 rfl rfl (Y_assign (v := .int .i64 0) rfl rfl) ?_
  refine rw_nil ?_
  refine cw_seq ?_
  refine cw_region ?_
  refine sq 5 rfl rfl (Y_move (v := .int .i64 left) rfl rfl) ?_
  refine sq 6 rfl rfl (Y_move (v := .slice B a.length c) rfl rfl) ?_
  refine sq 7 rfl rfl (Y_len (B := B) (m := a.length) (c := c) k_sl_40_134 rfl rfl) ?_
  refine sq 8 rfl rfl (Y_sub (k := .i64) (a := left) (b := (a.length : Int)) rfl rfl rfl) ?_
  refine sq 1 rfl rfl (Y_assign (v := .int .i64 (IntKind.i64.wrap (left - (a.length : Int)))) rfl rfl) ?_
  refine rw_nil ?_
  refine cw_seq ?_
  refine cw_seq ?_
  refine cw_region ?_
  refine sq 9 rfl rfl (Y_move (v := .int .i64 (IntKind.i64.wrap (left - (a.length : Int)))) rfl rfl) ?_
  refine sq 10 rfl rfl (Y_lt (k := .i64) (a := (IntKind.i64.wrap (left - (a.length : Int)))) (b := 0) rfl rfl rfl) ?_
  refine rw_nil ?_
  refine cw_cond (b := (decide ((IntKind.i64.wrap (left - (a.length : Int))) < 0))) rfl (fun hb => ?_) (fun hb => ?_)
  · skip
    have hF1 := ct hF hb
    refine cw_seq ?_
    refine cw_region ?_
    refine sq 4 rfl rfl (Y_assign (v := .int .i64 (-1)) rfl rfl) ?_
    refine rw_nil ?_
    refine cw_ret ?_
    obtain rfl := some_inj hF1
    exact ret1 Try.results42 (v1 := .int .i64 (-1)) (resAt_tmp rfl) ⟨rfl, (ST.subR (R' := []) (hS.sel [] rfl rfl) (fun _ h => by cases h))⟩
  · skip
    have hF2 := cf' hF hb
    refine cw_skip ?_
    refine cw_seq ?_
    refine cw_region ?_
    refine sq 11 rfl rfl (Y_move (v := .int .i64 (IntKind.i64.wrap (left - (a.length : Int)))) rfl rfl) ?_
    refine sq 4 rfl rfl (Y_assign (v := .int .i64 (IntKind.i64.wrap (left - (a.length : Int)))) rfl rfl) ?_
    refine rw_nil ?_
    refine cw_ret ?_
    obtain rfl := some_inj hF2
    exact ret1 Try.results42 (v1 := .int .i64 (IntKind.i64.wrap (left - (a.length : Int)))) (resAt_tmp rfl) ⟨rfl, (ST.subR (R' := []) (hS.sel [] rfl rfl) (fun _ h => by cases h))⟩

theorem c_laws_szCircuit (a : TCircuit) (left : Int) (B : Option Addr) (c n : Nat) (w0 : World) (hn : a.Gates.length = n) (hS : ST w0 [] w0 [] [⟨B, (a.Gates.flatMap enc_Gate)⟩]) {r_ : Int} (hF : F_laws_szCircuit a left = some r_) :
    CV Try.prog 16 #[.agg #[.int .i64 a.Qubits, .slice B n c], .int .i64 left] w0 (fun v w' => v = .int .i64 r_ ∧ ST w0 [] w' [] []) := by
  subst hn
  unfold F_laws_szCircuit at hF
  refine cv_of_cw 12 Try.func16 rfl Try.ntmps16 rfl ?_
  refine cw_seq ?_
  refine cw_region ?_
  refine ss 2 rfl rfl (Ys_box (T := 42) (v := .agg #[.int .i64 a.Qubits, .slice B a.Gates.length c]) (cs := [.int .i64 a.Qubits, .slice B a.Gates.length c]) (m := 2) hS rfl rfl rfl rfl) ?_
  rintro _ w_ ⟨b, rfl, hS1⟩
  refine sq 4 rfl rfl (Y_assign (v := .int .i64 0) rfl rfl) ?_
  refine rw_nil ?_
  refine cw_seq ?_
  refine cw_region ?_
  refine sq 5 rfl rfl (Y_fieldAddr (B := some ⟨b, 0, none⟩) (i := 0) (s := 0) k_fd_42_1_1_40 k_sz_40_1 rfl rfl) ?_
  refine sq 6 rfl rfl (Y_load1 (B := some ⟨b, 0, none⟩) (i := 1) (cs := [.int .i64 a.Qubits, .slice B a.Gates.length c]) (v := .slice B a.Gates.length c) k_sc_40 rfl rfl (hS1.cf (i := 0) rfl) rfl) ?_
  refine sq 7 rfl rfl (Y_move (v := .int .i64 left) rfl rfl) ?_
  obtain ⟨r_1, hc, hF⟩ := bind_inv hF
  refine sc 8 rfl rfl (Yc_func (g := 42) (vs := [.slice B a.Gates.length c, .int .i64 left]) k_call_42 rfl (mc rfl (mc rfl mn)) (c_laws_szGateS a.Gates left B c a.Gates.length _ rfl (hS1.inn0 [(true, 0)] rfl) hc)) ?_
  rintro _ w_1 ⟨rfl, hd⟩
  have hS2 := hS1.out00 hd
  refine sq 1 rfl rfl (Y_assign (v := .int .i64 r_1) rfl rfl) ?_
  refine rw_nil ?_
  refine cw_seq ?_
  refine cw_seq ?_
  refine cw_region ?_
  refine sq 9 rfl rfl (Y_move (v := .int .i64 r_1) rfl rfl) ?_
  refine sq 10 rfl rfl (Y_lt (k := .i64) (a := r_1) (b := 0) rfl rfl rfl) ?_
  refine rw_nil ?_
  refine cw_cond (b := (decide (r_1 < 0))) rfl (fun hb => ?_) (fun hb => ?_)
  · skip
    have hF1 := ct hF hb
    refine cw_seq ?_
    refine cw_region ?_
    refine sq 4 rfl rfl (Y_assign (v := .int .i64 (-1)) rfl rfl) ?_
    refine rw_nil ?_
    refine cw_ret ?_
    obtain rfl := some_inj hF1
    exact ret1 Try.results16 (v1 := .int .i64 (-1)) (resAt_tmp rfl) ⟨rfl, (ST.subR (R' := []) (hS2.sel [] rfl rfl) (fun _ h => by cases h))⟩
  · skip
    have hF2 := cf' hF hb
    refine cw_skip ?_
    refine cw_seq ?_
    refine cw_region ?_
    refine sq 11 rfl rfl (Y_move (v := .int .i64 r_1) rfl rfl) ?_
    refine sq 4 rfl rfl (Y_assign (v := .int .i64 r_1) rfl rfl) ?_
    refine rw_nil ?_
    refine cw_ret ?_
    obtain rfl := some_inj hF2
    exact ret1 Try.results16 (v1 := .int .i64 r_1) (resAt_tmp rfl) ⟨rfl, (ST.subR (R' := []) (hS2.sel [] rfl rfl) (fun _ h => by cases h))⟩

theorem c_laws_toGate (a : TGate)  (w0 : World)  (hS : ST w0 [] w0 [] []) {r_ : TGate} (hF : F_laws_toGate a = some r_) :
    CV Try.prog 91 #[.agg #[.int .i64 a.Kind, .int .i64 a.A, .int .i64 a.B]] w0 (fun v w' => v = .agg #[.int .i64 r_.Kind, .int .i64 r_.A, .int .i64 r_.B] ∧ ST w0 [] w' [] []) := by
  unfold F_laws_toGate at hF
  refine cv_of_cw 14 Try.func91 rfl Try.ntmps91 rfl ?_
  refine cw_seq ?_
  refine cw_region ?_
  refine ss 1 rfl rfl (Ys_box (T := 134) (v := .agg #[.int .i64 a.Kind, .int .i64 a.A, .int .i64 a.B]) (cs := [.int .i64 a.Kind, .int .i64 a.A, .int .i64 a.B]) (m := 3) hS rfl rfl rfl rfl) ?_
  rintro _ w_ ⟨b, rfl, hS1⟩
  refine ss 2 rfl rfl (Ys_alloc (T := 76) (cs := [.int .i64 0, .int .i64 0, .int .i64 0]) (m := 3) hS1 k_zero_76 rfl rfl rfl) ?_
  rintro _ w_1 ⟨b1, rfl, hS2⟩
  have hS2 : ST w0 [] _ [⟨some ⟨b, 0, none⟩, 134, [.int .i64 a.Kind, .int .i64 a.A, .int .i64 a.B], 3⟩, ⟨some ⟨b1, 0, none⟩, 76, [.int .i64 0, .int .i64 0, .int .i64 0], 3⟩] [] := hS2
  refine rw_nil ?_
  refine cw_seq ?_
  refine cw_region ?_
  refine ss 3 rfl rfl (Ys_alloc (T := 76) (cs := [.int .i64 0, .int .i64 0, .int .i64 0]) (m := 3) hS2 k_zero_76 rfl rfl rfl) ?_
  rintro _ w_2 ⟨b2, rfl, hS3⟩
  have hS3 : ST w0 [] _ [⟨some ⟨b, 0, none⟩, 134, [.int .i64 a.Kind, .int .i64 a.A, .int .i64 a.B], 3⟩, ⟨some ⟨b1, 0, none⟩, 76, [.int .i64 0, .int .i64 0, .int .i64 0], 3⟩, ⟨some ⟨b2, 0, none⟩, 76, [.int .i64 0, .int .i64 0, .int .i64 0], 3⟩] [] := hS3
  refine rw_nil ?_
  refine cw_seq ?_
  refine cw_region ?_
  refine sq 4 rfl rfl (Y_fieldAddr (B := some ⟨b, 0, none⟩) (i := 0) (s := 0) k_fd_134_0_0_3 k_sz_3_1 rfl rfl) ?_
  refine sq 5 rfl rfl (Y_load1 (B := some ⟨b, 0, none⟩) (i := 0) (cs := [.int .i64 a.Kind, .int .i64 a.A, .int .i64 a.B]) (v := .int .i64 a.Kind) k_sc_3 rfl rfl (hS3.cf (i := 0) rfl) rfl) ?_
  refine sq 6 rfl rfl (Y_fieldAddr (B := some ⟨b2, 0, none⟩) (i := 0) (s := 0) k_fd_76_0_0_3 k_sz_3_1 rfl rfl) ?_
  refine ss0 rfl rfl (Ys_store (i := 2) (s := 1) (B := some ⟨b2, 0, none⟩) (T' := 76) (v := .int .i64 a.Kind) (vs := [.int .i64 a.Kind]) (k := 0) (cs' := [.int .i64 a.Kind, .int .i64 0, .int .i64 0]) hS3 k_sz_3_1 rfl rfl rfl rfl rfl rfl rfl (Nat.le_of_ble_eq_true rfl) rfl rfl) ?_
  rintro _ w_3 ⟨rfl, hS4⟩
  have hS4 : ST w0 [] _ [⟨some ⟨b, 0, none⟩, 134, [.int .i64 a.Kind, .int .i64 a.A, .int .i64 a.B], 3⟩, ⟨some ⟨b1, 0, none⟩, 76, [.int .i64 0, .int .i64 0, .int .i64 0], 3⟩, ⟨some ⟨b2, 0, none⟩, 76, [.int .i64 a.Kind, .int .i64 0, .int .i64 0], 3⟩] [] := hS4
  refine rw_nil ?_
  refine cw_seq ?_
  refine cw_region ?_
  refine sq 7 rfl rfl (Y_fieldAddr (B := some ⟨b, 0, none⟩) (i := 0) (s := 0) k_fd_134_1_1_3 k_sz_3_1 rfl rfl) ?_
  refine sq 8 rfl rfl (Y_load1 (B := some ⟨b, 0, none⟩) (i := 1) (cs := [.int .i64 a.Kind, .int .i64 a.A, .int .i64 a.B]) (v := .int .i64 a.A) k_sc_3 rfl rfl (hS4.cf (i := 0) rfl) rfl) ?_
  refine sq 9 rfl rfl (Y_fieldAddr (B := some ⟨b2, 0, none⟩) (i := 0) (s := 0) k_fd_76_1_1_3 k_sz_3_1 rfl rfl) ?_
  refine ss0 rfl rfl (Ys_store (i := 2) (s := 1) (B := some ⟨b2, 0, none⟩) (T' := 76) (v := .int .i64 a.A) (vs := [.int .i64 a.A]) (k := 1) (cs' := [.int .i64 a.Kind, .int .i64 a.A, .int .i64 0]) hS4 k_sz_3_1 rfl rfl rfl rfl rfl rfl rfl (Nat.le_of_ble_eq_true rfl) rfl rfl) ?_
  rintro _ w_4 ⟨rfl, hS5⟩
  have hS5 : ST w0 [] _ [⟨some ⟨b, 0, none⟩, 134, [.int .i64 a.Kind, .int .i64 a.A, .int .i64 a.B], 3⟩, ⟨some ⟨b1, 0, none⟩, 76, [.int .i64 0, .int .i64 0, .int .i64 0], 3⟩, ⟨some ⟨b2, 0, none⟩, 76, [.int .i64 a.Kind, .int .i64 a.A, .int .i64 0], 3⟩] [] := hS5
  refine rw_nil ?_
  refine cw_seq ?_
  refine cw_region ?_
  refine sq 10 rfl rfl (Y_fieldAddr (B := some ⟨b, 0, none⟩) (i := 0) (s := 0) k_fd_134_2_2_3 k_sz_3_1 rfl rfl) ?_
  refine sq 11 rfl rfl (Y_load1 (B := some ⟨b, 0, none⟩) (i := 2) (cs := [.int .i64 a.Kind, .int .i64 a.A, .int .i64 a.B]) (v := .int .i64 a.B) k_sc_3 rfl rfl (hS5.cf (i := 0) rfl) rfl) ?_
  refine sq 12 rfl rfl (Y_fieldAddr (B := some ⟨b2, 0, none⟩) (i := 0) (s := 0) k_fd_76_2_2_3 k_sz_3_1 rfl rfl) ?_
  refine ss0 rfl rfl (Ys_store (i := 2) (s := 1) (B := some ⟨b2, 0, none⟩) (T' := 76) (v := .int .i64 a.B) (vs := [.int .i64 a.B]) (k := 2) (cs' := [.int .i64 a.Kind, .int .i64 a.A, .int .i64 a.B]) hS5 k_sz_3_1 rfl rfl rfl rfl rfl rfl rfl (Nat.le_of_ble_eq_true rfl) rfl rfl) ?_
  rintro _ w_5 ⟨rfl, hS6⟩
  have hS6 : ST w0 [] _ [⟨some ⟨b, 0, none⟩, 134, [.int .i64 a.Kind, .int .i64 a.A, .int .i64 a.B], 3⟩, ⟨some ⟨b1, 0, none⟩, 76, [.int .i64 0, .int .i64 0, .int .i64 0], 3⟩, ⟨some ⟨b2, 0, none⟩, 76, [.int .i64 a.Kind, .int .i64 a.A, .int .i64 a.B], 3⟩] [] := hS6
  refine rw_nil ?_
  refine cw_seq ?_
  refine cw_region ?_
  refine sq 13 rfl rfl (Y_loadA (B := some ⟨b2, 0, none⟩) (i := 0) (cs := [.int .i64 a.Kind, .int .i64 a.A, .int .i64 a.B]) (vs := [.int .i64 a.Kind, .int .i64 a.A, .int .i64 a.B]) k_ag_76 k_sz_76_3 rfl rfl (hS6.cf (i := 2) rfl) rfl rfl) ?_
  refine ss0 rfl rfl (Ys_store (i := 1) (s := 3) (B := some ⟨b1, 0, none⟩) (T' := 76) (v := .agg #[.int .i64 a.Kind, .int .i64 a.A, .int .i64 a.B]) (vs := [.int .i64 a.Kind, .int .i64 a.A, .int .i64 a.B]) (k := 0) (cs' := [.int .i64 a.Kind, .int .i64 a.A, .int .i64 a.B]) hS6 k_sz_76_3 rfl rfl rfl rfl rfl rfl rfl (Nat.le_of_ble_eq_true rfl) rfl rfl) ?_
  rintro _ w_6 ⟨rfl, hS7⟩
  have hS7 : ST w0 [] _ [⟨some ⟨b, 0, none⟩, 134, [.int .i64 a.Kind, .int .i64 a.A, .int .i64 a.B], 3⟩, ⟨some ⟨b1, 0, none⟩, 76, [.int .i64 a.Kind, .int .i64 a.A, .int .i64 a.B], 3⟩, ⟨some ⟨b2, 0, none⟩, 76, [.int .i64 a.Kind, .int .i64 a.A, .int .i64 a.B], 3⟩] [] := hS7
  refine rw_nil ?_
  refine cw_ret ?_
  obtain rfl := some_inj hF
  exact ret1 Try.results91 (v1 := .agg #[.int .i64 a.Kind, .int .i64 a.A, .int .i64 a.B]) (resAt_cellA (B := some ⟨b1, 0, none⟩) (i := 0) (cs := [.int .i64 a.Kind, .int .i64 a.A, .int .i64 a.B]) (vs := [.int .i64 a.Kind, .int .i64 a.A, .int .i64 a.B]) rfl k_ag_76 k_sz_76_3 (hS7.cf (i := 1) rfl) rfl rfl) ⟨rfl, (ST.subR (R' := []) (hS7.sel [] rfl rfl) (fun _ h => by cases h))⟩

theorem c_laws_toGateS (a : List TGate) (B : Option Addr) (c n : Nat) (w0 : World) (hn : a.length = n) (hS : ST w0 [] w0 [] [⟨B, (a.flatMap enc_Gate)⟩]) {r_ : List TGate} (hF : F_laws_toGateS a = some r_) :
    CV Try.prog 45 #[.slice B n c] w0 (fun v w' => ∃ (B1 : Option Addr) (c1 : Nat), v = .slice B1 r_.length c1 ∧ ST w0 [] w' [⟨B1, 76, (r_.flatMap enc_Gate), c1 * 3⟩] []) := by
  subst hn
  unfold F_laws_toGateS at hF
  refine cv_of_cw 23 Try.func45 rfl Try.ntmps45 rfl ?_
  refine cw_seq ?_
  refine cw_region ?_
  refine sq 2 rfl rfl (Y_assign (v := .slice none 0 0) rfl rfl) ?_
  refine rw_nil ?_
  refine cw_seq ?_
  refine cw_region ?_
  refine sq 5 rfl rfl (Y_move (v := .slice B a.length c) rfl rfl) ?_
  refine sq 6 rfl rfl (Y_len (B := B) (m := a.length) (c := c) k_sl_40_134 rfl rfl) ?_
  obtain ⟨hmk, hF⟩ := chk_inv hF
  refine ss 7 rfl rfl (Ys_make (s := 3) (by' := 24) (nn := a.length) (a := (a.length : Int)) (b := (a.length : Int)) (cs := ((List.replicate a.length (TGate.mk 0 0 0)).flatMap enc_Gate)) hS k_sl_26_76 k_sz_76_3 k_by_76_24 k_zero_76 rfl rfl rfl rfl hmk.1 rfl (by have := hmk; omega) (by have := hmk; omega) (by omega) (fm_rep (enc := enc_Gate) (d := (TGate.mk 0 0 0)) rfl _)) ?_
  rintro _ w_ ⟨b, rfl, hS1⟩
  refine sq 3 rfl rfl (Y_assign (v := .slice (some ⟨b, 0, none⟩) a.length a.length) rfl rfl) ?_
  refine rw_nil ?_
  refine cw_seq ?_
  refine cw_seq ?_
  refine cw_region ?_
  refine sq 4 rfl rfl (Y_assign (v := .int .i64 0) rfl rfl) ?_
  refine rw_nil ?_
  obtain ⟨hN, hF⟩ := chk_inv hF
  obtain ⟨z, hz, hF1⟩ := bind_inv hF
  refine cw_block ?_
  refine cw_loop (fun k f w => ∃ (i1 : Nat) (out : List TGate), FF f [(0, .slice B a.length c), (3, .slice (some ⟨b, 0, none⟩) a.length a.length), (4, .int .i64 (i1 : Int))] ∧ out.length = a.length ∧ ST w0 [] w [⟨some ⟨b, 0, none⟩, 76, (out.flatMap enc_Gate), a.length * 3⟩] [⟨B, (a.flatMap enc_Gate)⟩] ∧ i1 + k = a.length ∧ forN (F_laws_toGateS_l1 a) k i1 out = some z) a.length ⟨0, (List.replicate a.length (TGate.mk 0 0 0)), (FF.cons rfl (FF.cons rfl (FF.cons rfl FF.nil))), List.length_replicate, (hS1.sel [0] rfl rfl), Nat.zero_add _, hz⟩ ?_
  rintro k_ f w ⟨i1, out, hf, hl, hS2, hik, hL⟩
  refine cw_seq ?_
  refine cw_seq ?_
  refine cw_region ?_
  refine sq 8 rfl rfl (Y_move (v := .int .i64 (i1 : Int)) rfl (hf.get 4 2 rfl)) ?_
  refine sq 9 rfl rfl (Y_move (v := .slice B a.length c) rfl (hf.get 0 0 rfl)) ?_
  refine sq 10 rfl rfl (Y_len (B := B) (m := a.length) (c := c) k_sl_40_134 rfl rfl) ?_
  refine sq 11 rfl rfl (Y_lt (k := .i64) (a := (i1 : Int)) (b := (a.length : Int)) rfl rfl rfl) ?_
  refine rw_nil ?_
  refine cw_cond (b := (decide ((i1 : Int) < (a.length : Int)))) rfl (fun hlt => ?_) (fun hlt => ?_)
  · skip
    have hlt1 : i1 < a.length := by have h := of_decide_eq_true hlt; omega
    obtain ⟨k_1, rfl⟩ : ∃ k2, k_ = k2 + 1 := ⟨k_ - 1, by omega⟩
    obtain ⟨y, hb, hL1⟩ := forN_go hL
    unfold F_laws_toGateS_l1 at hb
    refine cw_skip ?_
    refine cw_seq ?_
    refine cw_block ?_
    refine cw_region ?_
    refine sq 14 rfl rfl (Y_move (v := .slice (some ⟨b, 0, none⟩) a.length a.length) rfl (hf.get 3 1 rfl)) ?_
    refine sq 15 rfl rfl (Y_move (v := .int .i64 (i1 : Int)) rfl (hf.get 4 2 rfl)) ?_
    refine sq 16 rfl rfl (Y_move (v := .slice B a.length c) rfl (hf.get 0 0 rfl)) ?_
    refine sq 17 rfl rfl (Y_move (v := .int .i64 (i1 : Int)) rfl (hf.get 4 2 rfl)) ?_
    obtain ⟨x, hx, hb⟩ := bind_inv hb
    refine sq 18 rfl rfl (Y_index (B := B) (m := a.length) (c := c) (k := .i64) (i := (i1 : Int)) k_sl_40_134 k_sz_134_3 rfl rfl rfl (gi_isSome enc_Gate_len rfl (hS2.rf (i := 0) rfl) hx) (getI_nn hx) (getI_ltI hx rfl)) ?_
    refine sq 19 rfl rfl (Y_loadA (B := B) (i := (i1 : Int).toNat * 3) (cs := (a.flatMap enc_Gate)) (vs := [.int .i64 x.Kind, .int .i64 x.A, .int .i64 x.B]) k_ag_134 k_sz_134_3 rfl rfl (hS2.rf (i := 0) rfl) (enc_Gate_len x) (gi_seg enc_Gate_len hx)) ?_
    obtain ⟨r_1, hc, hb⟩ := bind_inv hb
    refine sc 20 rfl rfl (Yc_func (g := 91) (vs := [.agg #[.int .i64 x.Kind, .int .i64 x.A, .int .i64 x.B]]) k_call_91 rfl (mc rfl mn) (c_laws_toGate x _  (hS2.inn0 [] rfl) hc)) ?_
    rintro _ w_1 ⟨rfl, hd⟩
    have hS3 := hS2.out00 hd
    obtain ⟨x1, hx1, hb⟩ := bind_inv hb
    refine sq 21 rfl rfl (Y_index (B := some ⟨b, 0, none⟩) (m := a.length) (c := a.length) (k := .i64) (i := (i1 : Int)) k_sl_26_76 k_sz_76_3 rfl rfl rfl (gi_isSome enc_Gate_len rfl (hS3.cf (i := 0) rfl) hx1) (getI_nn hx1) (getI_ltI hx1 hl)) ?_
    refine ss0 rfl rfl (Ys_store (i := 0) (s := 3) (B := some ⟨b, 0, none⟩) (T' := 76) (v := .agg #[.int .i64 r_1.Kind, .int .i64 r_1.A, .int .i64 r_1.B]) (vs := [.int .i64 r_1.Kind, .int .i64 r_1.A, .int .i64 r_1.B]) (k := (i1 : Int).toNat * 3) (cs' := ((out.set (i1 : Int).toNat r_1).flatMap enc_Gate)) hS3 k_sz_76_3 rfl rfl rfl rfl rfl rfl rfl (gi_fit0 enc_Gate_len hx1) (gi_set enc_Gate_len hx1 r_1 rfl) rfl) ?_
    rintro _ w_2 ⟨rfl, hS4⟩
    refine rw_nil ?_
    refine cw_region ?_
    refine sq 12 rfl rfl (Y_move (v := .int .i64 (i1 : Int)) rfl (hf.get 4 2 rfl)) ?_
    refine sq 13 rfl rfl (Y_add (k := .i64) (a := (i1 : Int)) (b := 1) rfl rfl rfl) ?_
    refine sq 4 rfl rfl (Y_assign (v := .int .i64 (IntKind.i64.wrap ((i1 : Int) + 1))) rfl rfl) ?_
    refine rw_nil ?_
    obtain rfl := some_inj hb
    exact ⟨k_1, Nat.lt_succ_self _, i1 + 1, (out.set (i1 : Int).toNat r_1), (FF.cons (hf.get 0 0 rfl) (FF.cons (hf.get 3 1 rfl) (FF.cons (congrArg (Value.int .i64) (wr_succ hlt1 hN)) FF.nil))), (set_len _ _ _ hl), (hS4.sel [0] rfl rfl), (by omega), hL1⟩
  · skip
    obtain rfl : k_ = 0 := by have h := of_decide_eq_false hlt; omega
    refine cw_exit rfl ?_
    obtain rfl := some_inj hL
    refine cw_seq ?_
    refine cw_region ?_
    refine sq 22 rfl rfl (Y_move (v := .slice (some ⟨b, 0, none⟩) a.length a.length) rfl (hf.get 3 1 rfl)) ?_
    refine sq 2 rfl rfl (Y_assign (v := .slice (some ⟨b, 0, none⟩) a.length a.length) rfl rfl) ?_
    refine rw_nil ?_
    refine cw_ret ?_
    obtain rfl := some_inj hF1
    exact ret1 Try.results45 (v1 := .slice (some ⟨b, 0, none⟩) a.length a.length) (resAt_tmp rfl) ⟨some ⟨b, 0, none⟩, a.length, (sl_eqv hl), (ST.subR (R' := []) (hS2.sel [0] rfl rfl) (fun _ h => by cases h))⟩

theorem c_laws_toCircuit (a : TCircuit) (B : Option Addr) (c n : Nat) (w0 : World) (hn : a.Gates.length = n) (hS : ST w0 [] w0 [] [⟨B, (a.Gates.flatMap enc_Gate)⟩]) {r_ : TCircuit} (hF : F_laws_toCircuit a = some r_) :
    CV Try.prog 18 #[.agg #[.int .i64 a.Qubits, .slice B n c]] w0 (fun v w' => ∃ (B1 : Option Addr) (c1 : Nat), v = .agg #[.int .i64 r_.Qubits, .slice B1 r_.Gates.length c1] ∧ ST w0 [] w' [⟨B1, 76, (r_.Gates.flatMap enc_Gate), c1 * 3⟩] []) := by
  subst hn
  unfold F_laws_toCircuit at hF
  refine cv_of_cw 12 Try.func18 rfl Try.ntmps18 rfl ?_
  refine cw_seq ?_
  refine cw_region ?_
  refine ss 1 rfl rfl (Ys_box (T := 42) (v := .agg #[.int .i64 a.Qubits, .slice B a.Gates.length c]) (cs := [.int .i64 a.Qubits, .slice B a.Gates.length c]) (m := 2) hS rfl rfl rfl rfl) ?_
  rintro _ w_ ⟨b, rfl, hS1⟩
  refine ss 2 rfl rfl (Ys_alloc (T := 28) (cs := [.int .i64 0, .slice none 0 0]) (m := 2) hS1 k_zero_28 rfl rfl rfl) ?_
  rintro _ w_1 ⟨b1, rfl, hS2⟩
  have hS2 : ST w0 [] _ [⟨some ⟨b, 0, none⟩, 42, [.int .i64 a.Qubits, .slice B a.Gates.length c], 2⟩, ⟨some ⟨b1, 0, none⟩, 28, [.int .i64 0, .slice none 0 0], 2⟩] [⟨B, (a.Gates.flatMap enc_Gate)⟩] := hS2
  refine rw_nil ?_
  refine cw_seq ?_
  refine cw_region ?_
  refine ss 3 rfl rfl (Ys_alloc (T := 28) (cs := [.int .i64 0, .slice none 0 0]) (m := 2) hS2 k_zero_28 rfl rfl rfl) ?_
  rintro _ w_2 ⟨b2, rfl, hS3⟩
  have hS3 : ST w0 [] _ [⟨some ⟨b, 0, none⟩, 42, [.int .i64 a.Qubits, .slice B a.Gates.length c], 2⟩, ⟨some ⟨b1, 0, none⟩, 28, [.int .i64 0, .slice none 0 0], 2⟩, ⟨some ⟨b2, 0, none⟩, 28, [.int .i64 0, .slice none 0 0], 2⟩] [⟨B, (a.Gates.flatMap enc_Gate)⟩] := hS3
  refine rw_nil ?_
  refine cw_seq ?_
  refine cw_region ?_
  refine sq 4 rfl rfl (Y_fieldAddr (B := some ⟨b, 0, none⟩) (i := 0) (s := 0) k_fd_42_0_0_3 k_sz_3_1 rfl rfl) ?_
  refine sq 5 rfl rfl (Y_load1 (B := some ⟨b, 0, none⟩) (i := 0) (cs := [.int .i64 a.Qubits, .slice B a.Gates.length c]) (v := .int .i64 a.Qubits) k_sc_3 rfl rfl (hS3.cf (i := 0) rfl) rfl) ?_
  refine sq 6 rfl rfl (Y_fieldAddr (B := some ⟨b2, 0, none⟩) (i := 0) (s := 0) k_fd_28_0_0_3 k_sz_3_1 rfl rfl) ?_
  refine ss0 rfl rfl (Ys_store (i := 2) (s := 1) (B := some ⟨b2, 0, none⟩) (T' := 28) (v := .int .i64 a.Qubits) (vs := [.int .i64 a.Qubits]) (k := 0) (cs' := [.int .i64 a.Qubits, .slice none 0 0]) hS3 k_sz_3_1 rfl rfl rfl rfl rfl rfl rfl (Nat.le_of_ble_eq_true rfl) rfl rfl) ?_
  rintro _ w_3 ⟨rfl, hS4⟩
  have hS4 : ST w0 [] _ [⟨some ⟨b, 0, none⟩, 42, [.int .i64 a.Qubits, .slice B a.Gates.length c], 2⟩, ⟨some ⟨b1, 0, none⟩, 28, [.int .i64 0, .slice none 0 0], 2⟩, ⟨some ⟨b2, 0, none⟩, 28, [.int .i64 a.Qubits, .slice none 0 0], 2⟩] [⟨B, (a.Gates.flatMap enc_Gate)⟩] := hS4
  refine rw_nil ?_
  refine cw_seq ?_
  refine cw_region ?_
  refine sq 7 rfl rfl (Y_fieldAddr (B := some ⟨b, 0, none⟩) (i := 0) (s := 0) k_fd_42_1_1_40 k_sz_40_1 rfl rfl) ?_
  refine sq 8 rfl rfl (Y_load1 (B := some ⟨b, 0, none⟩) (i := 1) (cs := [.int .i64 a.Qubits, .slice B a.Gates.length c]) (v := .slice B a.Gates.length c) k_sc_40 rfl rfl (hS4.cf (i := 0) rfl) rfl) ?_
  obtain ⟨r_1, hc, hF⟩ := bind_inv hF
  refine sc 9 rfl rfl (Yc_func (g := 45) (vs := [.slice B a.Gates.length c]) k_call_45 rfl (mc rfl mn) (c_laws_toGateS a.Gates B c a.Gates.length _ rfl (hS4.inn0 [(true, 0)] rfl) hc)) ?_
  rintro _ w_4 ⟨B2, c2, rfl, hd⟩
  have hS5 := hS4.out0 hd
  have hS5 : ST w0 [] _ [⟨some ⟨b, 0, none⟩, 42, [.int .i64 a.Qubits, .slice B a.Gates.length c], 2⟩, ⟨some ⟨b1, 0, none⟩, 28, [.int .i64 0, .slice none 0 0], 2⟩, ⟨some ⟨b2, 0, none⟩, 28, [.int .i64 a.Qubits, .slice none 0 0], 2⟩, ⟨B2, 76, (r_1.flatMap enc_Gate), c2 * 3⟩] [⟨B, (a.Gates.flatMap enc_Gate)⟩] := hS5
  refine sq 10 rfl rfl (Y_fieldAddr (B := some ⟨b2, 0, none⟩) (i := 0) (s := 0) k_fd_28_1_1_26 k_sz_26_1 rfl rfl) ?_
  refine ss0 rfl rfl (Ys_store (i := 2) (s := 1) (B := some ⟨b2, 0, none⟩) (T' := 28) (v := .slice B2 r_1.length c2) (vs := [.slice B2 r_1.length c2]) (k := 1) (cs' := [.int .i64 a.Qubits, .slice B2 r_1.length c2]) hS5 k_sz_26_1 rfl rfl rfl rfl rfl rfl rfl (Nat.le_of_ble_eq_true rfl) rfl rfl) ?_
  rintro _ w_5 ⟨rfl, hS6⟩
  have hS6 : ST w0 [] _ [⟨some ⟨b, 0, none⟩, 42, [.int .i64 a.Qubits, .slice B a.Gates.length c], 2⟩, ⟨some ⟨b1, 0, none⟩, 28, [.int .i64 0, .slice none 0 0], 2⟩, ⟨some ⟨b2, 0, none⟩, 28, [.int .i64 a.Qubits, .slice B2 r_1.length c2], 2⟩, ⟨B2, 76, (r_1.flatMap enc_Gate), c2 * 3⟩] [⟨B, (a.Gates.flatMap enc_Gate)⟩] := hS6
  refine rw_nil ?_
  refine cw_seq ?_
  refine cw_region ?_
  refine sq 11 rfl rfl (Y_loadA (B := some ⟨b2, 0, none⟩) (i := 0) (cs := [.int .i64 a.Qubits, .slice B2 r_1.length c2]) (vs := [.int .i64 a.Qubits, .slice B2 r_1.length c2]) k_ag_28 k_sz_28_2 rfl rfl (hS6.cf (i := 2) rfl) rfl rfl) ?_
  refine ss0 rfl rfl (Ys_store (i := 1) (s := 2) (B := some ⟨b1, 0, none⟩) (T' := 28) (v := .agg #[.int .i64 a.Qubits, .slice B2 r_1.length c2]) (vs := [.int .i64 a.Qubits, .slice B2 r_1.length c2]) (k := 0) (cs' := [.int .i64 a.Qubits, .slice B2 r_1.length c2]) hS6 k_sz_28_2 rfl rfl rfl rfl rfl rfl rfl (Nat.le_of_ble_eq_true rfl) rfl rfl) ?_
  rintro _ w_6 ⟨rfl, hS7⟩
  have hS7 : ST w0 [] _ [⟨some ⟨b, 0, none⟩, 42, [.int .i64 a.Qubits, .slice B a.Gates.length c], 2⟩, ⟨some ⟨b1, 0, none⟩, 28, [.int .i64 a.Qubits, .slice B2 r_1.length c2], 2⟩, ⟨some ⟨b2, 0, none⟩, 28, [.int .i64 a.Qubits, .slice B2 r_1.length c2], 2⟩, ⟨B2, 76, (r_1.flatMap enc_Gate), c2 * 3⟩] [⟨B, (a.Gates.flatMap enc_Gate)⟩] := hS7
  refine rw_nil ?_
  refine cw_ret ?_
  obtain rfl := some_inj hF
  exact ret1 Try.results18 (v1 := .agg #[.int .i64 a.Qubits, .slice B2 r_1.length c2]) (resAt_cellA (B := some ⟨b1, 0, none⟩) (i := 0) (cs := [.int .i64 a.Qubits, .slice B2 r_1.length c2]) (vs := [.int .i64 a.Qubits, .slice B2 r_1.length c2]) rfl k_ag_28 k_sz_28_2 (hS7.cf (i := 1) rfl) rfl rfl) ⟨B2, c2, rfl, (ST.subR (R' := []) (hS7.sel [3] rfl rfl) (fun _ h => by cases h))⟩

theorem c_laws_eqTerm (a : TTerm) (b : TTerm)  (w0 : World)  (hS : ST w0 [] w0 [] []) {r_ : Bool} (hF : F_laws_eqTerm a b = some r_) :
    CV Try.prog 107 #[.agg #[.int .i64 a.Mask, .int .i64 a.Coef], .agg #[.int .i64 b.Mask, .int .i64 b.Coef]] w0 (fun v w' => v = .bool r_ ∧ ST w0 [] w' [] []) := by
  unfold F_laws_eqTerm at hF
  refine cv_of_cw 15 Try.func107 rfl Try.ntmps107 rfl ?_
  refine cw_seq ?_
  refine cw_region ?_
  refine ss 2 rfl rfl (Ys_box (T := 136) (v := .agg #[.int .i64 a.Mask, .int .i64 a.Coef]) (cs := [.int .i64 a.Mask, .int .i64 a.Coef]) (m := 2) hS rfl rfl rfl rfl) ?_
  rintro _ w_ ⟨b1, rfl, hS1⟩
  refine ss 3 rfl rfl (Ys_box (T := 136) (v := .agg #[.int .i64 b.Mask, .int .i64 b.Coef]) (cs := [.int .i64 b.Mask, .int .i64 b.Coef]) (m := 2) hS1 rfl rfl rfl rfl) ?_
  rintro _ w_1 ⟨b2, rfl, hS2⟩
  have hS2 : ST w0 [] _ [⟨some ⟨b1, 0, none⟩, 136, [.int .i64 a.Mask, .int .i64 a.Coef], 2⟩, ⟨some ⟨b2, 0, none⟩, 136, [.int .i64 b.Mask, .int .i64 b.Coef], 2⟩] [] := hS2
  refine sq 4 rfl rfl (Y_assign (v := .bool false) rfl rfl) ?_
  refine rw_nil ?_
  refine cw_seq ?_
  refine cw_seq ?_
  refine cw_region ?_
  refine sq 5 rfl rfl (Y_fieldAddr (B := some ⟨b1, 0, none⟩) (i := 0) (s := 0) k_fd_136_0_0_3 k_sz_3_1 rfl rfl) ?_
  refine sq 6 rfl rfl (Y_load1 (B := some ⟨b1, 0, none⟩) (i := 0) (cs := [.int .i64 a.Mask, .int .i64 a.Coef]) (v := .int .i64 a.Mask) k_sc_3 rfl rfl (hS2.cf (i := 0) rfl) rfl) ?_
  refine sq 7 rfl rfl (Y_fieldAddr (B := some ⟨b2, 0, none⟩) (i := 0) (s := 0) k_fd_136_0_0_3 k_sz_3_1 rfl rfl) ?_
  refine sq 8 rfl rfl (Y_load1 (B := some ⟨b2, 0, none⟩) (i := 0) (cs := [.int .i64 b.Mask, .int .i64 b.Coef]) (v := .int .i64 b.Mask) k_sc_3 rfl rfl (hS2.cf (i := 1) rfl) rfl) ?_
  refine sq 9 rfl rfl (Y_ne (k := .i64) (a := a.Mask) (b := b.Mask) rfl rfl rfl) ?_
  refine rw_nil ?_
  refine cw_cond (b := (a.Mask != b.Mask)) rfl (fun hb => ?_) (fun hb => ?_)
  · skip
    have hF1 := ct hF hb
    refine cw_seq ?_
    refine cw_region ?_
    refine sq 4 rfl rfl (Y_assign (v := .bool false) rfl rfl) ?_
    refine rw_nil ?_
    refine cw_ret ?_
    obtain rfl := some_inj hF1
    exact ret1 Try.results107 (v1 := .bool false) (resAt_tmp rfl) ⟨rfl, (ST.subR (R' := []) (hS2.sel [] rfl rfl) (fun _ h => by cases h))⟩
  · skip
    have hF2 := cf' hF hb
    refine cw_skip ?_
    refine cw_seq ?_
    refine cw_seq ?_
    refine cw_region ?_
    refine sq 10 rfl rfl (Y_fieldAddr (B := some ⟨b1, 0, none⟩) (i := 0) (s := 0) k_fd_136_1_1_3 k_sz_3_1 rfl rfl) ?_
    refine sq 11 rfl rfl (Y_load1 (B := some ⟨b1, 0, none⟩) (i := 1) (cs := [.int .i64 a.Mask, .int .i64 a.Coef]) (v := .int .i64 a.Coef) k_sc_3 rfl rfl (hS2.cf (i := 0) rfl) rfl) ?_
    refine sq 12 rfl rfl (Y_fieldAddr (B := some ⟨b2, 0, none⟩) (i := 0) (s := 0) k_fd_136_1_1_3 k_sz_3_1 rfl rfl) ?_
    refine sq 13 rfl rfl (Y_load1 (B := some ⟨b2, 0, none⟩) (i := 1) (cs := [.int .i64 b.Mask, .int .i64 b.Coef]) (v := .int .i64 b.Coef) k_sc_3 rfl rfl (hS2.cf (i := 1) rfl) rfl) ?_
    refine sq 14 rfl rfl (Y_ne (k := .i64) (a := a.Coef) (b := b.Coef) rfl rfl rfl) ?_
    refine rw_nil ?_
    refine cw_cond (b := (a.Coef != b.Coef)) rfl (fun hb1 => ?_) (fun hb1 => ?_)
    · skip
      have hF3 := ct hF2 hb1
      refine cw_seq ?_
      refine cw_region ?_
      refine sq 4 rfl rfl (Y_assign (v := .bool false) rfl rfl) ?_
      refine rw_nil ?_
      refine cw_ret ?_
      obtain rfl := some_inj hF3
      exact ret1 Try.results107 (v1 := .bool false) (resAt_tmp rfl) ⟨rfl, (ST.subR (R' := []) (hS2.sel [] rfl rfl) (fun _ h => by cases h))⟩
    · skip
      have hF4 := cf' hF2 hb1
      refine cw_skip ?_
      refine cw_seq ?_
      refine cw_region ?_
      refine sq 4 rfl rfl (Y_assign (v := .bool true) rfl rfl) ?_
      refine rw_nil ?_
      refine cw_ret ?_
      obtain rfl := some_inj hF4
      exact ret1 Try.results107 (v1 := .bool true) (resAt_tmp rfl) ⟨rfl, (ST.subR (R' := []) (hS2.sel [] rfl rfl) (fun _ h => by cases h))⟩

theorem c_laws_eqTermS (a : List TTerm) (b : List TTerm) (B : Option Addr) (c n : Nat) (B1 : Option Addr) (c1 n1 : Nat) (w0 : World) (hn : a.length = n) (hn1 : b.length = n1) (hS : ST w0 [] w0 [] [⟨B, (a.flatMap enc_Term)⟩, ⟨B1, (b.flatMap enc_Term)⟩]) {r_ : Bool} (hF : F_laws_eqTermS a b = some r_) :
    CV Try.prog 58 #[.slice B n c, .slice B1 n1 c1] w0 (fun v w' => v = .bool r_ ∧ ST w0 [] w' [] []) := by
  subst hn
  subst hn1
  unfold F_laws_eqTermS at hF
  refine cv_of_cw 27 Try.func58 rfl Try.ntmps58 rfl ?_
  refine cw_seq ?_
  refine cw_region ?_
  refine sq 4 rfl rfl (Y_assign (v := .bool false) rfl rfl) ?_
  refine rw_nil ?_
  refine cw_seq ?_
  refine cw_seq ?_
  refine cw_region ?_
  refine sq 6 rfl rfl (Y_move (v := .slice B a.length c) rfl rfl) ?_
  refine sq 7 rfl rfl (Y_len (B := B) (m := a.length) (c := c) k_sl_54_136 rfl rfl) ?_
  refine sq 8 rfl rfl (Y_move (v := .slice B1 b.length c1) rfl rfl) ?_
  refine sq 9 rfl rfl (Y_len (B := B1) (m := b.length) (c := c1) k_sl_54_136 rfl rfl) ?_
  refine sq 10 rfl rfl (Y_ne (k := .i64) (a := (a.length : Int)) (b := (b.length : Int)) rfl rfl rfl) ?_
  refine rw_nil ?_
  refine cw_cond (b := ((a.length : Int) != (b.length : Int))) rfl (fun hb => ?_) (fun hb => ?_)
  · skip
    have hF1 := ct hF hb
    refine cw_seq ?_
    refine cw_region ?_
    refine sq 4 rfl rfl (Y_assign (v := .bool false) rfl rfl) ?_
    refine rw_nil ?_
    refine cw_ret ?_
    obtain rfl := some_inj hF1
    exact ret1 Try.results58 (v1 := .bool false) (resAt_tmp rfl) ⟨rfl, (ST.subR (R' := []) (hS.sel [] rfl rfl) (fun _ h => by cases h))⟩
  · skip
    have hF2 := cf' hF hb
    refine cw_skip ?_
    refine cw_seq ?_
    refine cw_seq ?_
    refine cw_region ?_
    refine sq 5 rfl rfl (Y_assign (v := .int .i64 0) rfl rfl) ?_
    refine rw_nil ?_
    obtain ⟨hN, hF2⟩ := chk_inv hF2
    obtain ⟨z, hz, hF3⟩ := bind_inv hF2
    refine cw_block ?_
    refine cw_loop (fun k f w => ∃ (i1 : Nat), FF f [(0, .slice B a.length c), (1, .slice B1 b.length c1), (5, .int .i64 (i1 : Int))] ∧ ST w0 [] w [] [⟨B, (a.flatMap enc_Term)⟩, ⟨B1, (b.flatMap enc_Term)⟩] ∧ i1 + k = a.length ∧ forX (F_laws_eqTermS_l1 a b) k i1 () = some z) a.length ⟨0, (FF.cons rfl (FF.cons rfl (FF.cons rfl FF.nil))), (hS.sel [] rfl rfl), Nat.zero_add _, hz⟩ ?_
    rintro k_ f w ⟨i1, hf, hS1, hik, hL⟩
    refine cw_seq ?_
    refine cw_seq ?_
    refine cw_region ?_
    refine sq 11 rfl rfl (Y_move (v := .int .i64 (i1 : Int)) rfl (hf.get 5 2 rfl)) ?_
    refine sq 12 rfl rfl (Y_move (v := .slice B a.length c) rfl (hf.get 0 0 rfl)) ?_
    refine sq 13 rfl rfl (Y_len (B := B) (m := a.length) (c := c) k_sl_54_136 rfl rfl) ?_
    refine sq 14 rfl rfl (Y_lt (k := .i64) (a := (i1 : Int)) (b := (a.length : Int)) rfl rfl rfl) ?_
    refine rw_nil ?_
    refine cw_cond (b := (decide ((i1 : Int) < (a.length : Int)))) rfl (fun hlt => ?_) (fun hlt => ?_)
    · skip
      have hlt1 : i1 < a.length := by have h := of_decide_eq_true hlt; omega
      obtain ⟨k_1, rfl⟩ : ∃ k2, k_ = k2 + 1 := ⟨k_ - 1, by omega⟩
      obtain ⟨y, hb1, hL1⟩ := forX_go hL
      unfold F_laws_eqTermS_l1 at hb1
      refine cw_skip ?_
      refine cw_seq ?_
      refine cw_block ?_
      refine cw_seq ?_
      obtain ⟨x, hx, hb1⟩ := bind_inv hb1
      obtain ⟨x1, hx1, hb1⟩ := bind_inv hb1
      obtain ⟨r_1, hc, hb1⟩ := bind_inv hb1
      refine ra_start (ST.sel hS1 [] rfl rfl).fn (by kernel_rfl) ?_
      have hS3 := hS1.drew
      refine ra_q 0 17 (v := .slice B a.length c) rfl rfl rfl (by kernel_rfl) (by kernel_rfl) (by kernel_rfl) (ST.sel hS3 [] rfl rfl) (fun w' hw' => (Y_move (v := .slice B a.length c) rfl (hf.get 0 0 rfl))) ?_
      refine ra_q 1 18 (v := .int .i64 (i1 : Int)) rfl rfl rfl (by kernel_rfl) (by kernel_rfl) (by kernel_rfl) (ST.sel hS3 [] rfl rfl) (fun w' hw' => (Y_move (v := .int .i64 (i1 : Int)) rfl (hf.get 5 2 rfl))) ?_
      refine ra_q 2 19 (v := pt B ((i1 : Int).toNat * 2)) rfl rfl rfl (by kernel_rfl) (by kernel_rfl) (by kernel_rfl) (ST.sel hS3 [] rfl rfl) (fun w' hw' => (Y_index (B := B) (m := a.length) (c := c) (k := .i64) (i := (i1 : Int)) k_sl_54_136 k_sz_136_2 rfl rfl rfl (gi_isSome enc_Term_len rfl (ST.rf hw' (i := 0) rfl) hx) (getI_nn hx) (getI_ltI hx rfl))) ?_
      refine ra_q 3 20 (v := .agg #[.int .i64 x.Mask, .int .i64 x.Coef]) rfl rfl rfl (by kernel_rfl) (by kernel_rfl) (by kernel_rfl) (ST.sel hS3 [] rfl rfl) (fun w' hw' => (Y_loadA (B := B) (i := (i1 : Int).toNat * 2) (cs := (a.flatMap enc_Term)) (vs := [.int .i64 x.Mask, .int .i64 x.Coef]) k_ag_136 k_sz_136_2 rfl rfl (ST.rf hw' (i := 0) rfl) (enc_Term_len x) (gi_seg enc_Term_len hx))) ?_
      refine ra_q 4 21 (v := .slice B1 b.length c1) rfl rfl rfl (by kernel_rfl) (by kernel_rfl) (by kernel_rfl) (ST.sel hS3 [] rfl rfl) (fun w' hw' => (Y_move (v := .slice B1 b.length c1) rfl (hf.get 1 1 rfl))) ?_
      refine ra_q 5 22 (v := .int .i64 (i1 : Int)) rfl rfl rfl (by kernel_rfl) (by kernel_rfl) (by kernel_rfl) (ST.sel hS3 [] rfl rfl) (fun w' hw' => (Y_move (v := .int .i64 (i1 : Int)) rfl (hf.get 5 2 rfl))) ?_
      refine ra_q 6 23 (v := pt B1 ((i1 : Int).toNat * 2)) rfl rfl rfl (by kernel_rfl) (by kernel_rfl) (by kernel_rfl) (ST.sel hS3 [] rfl rfl) (fun w' hw' => (Y_index (B := B1) (m := b.length) (c := c1) (k := .i64) (i := (i1 : Int)) k_sl_54_136 k_sz_136_2 rfl rfl rfl (gi_isSome enc_Term_len rfl (ST.rf hw' (i := 1) rfl) hx1) (getI_nn hx1) (getI_ltI hx1 rfl))) ?_
      refine ra_q 7 24 (v := .agg #[.int .i64 x1.Mask, .int .i64 x1.Coef]) rfl rfl rfl (by kernel_rfl) (by kernel_rfl) (by kernel_rfl) (ST.sel hS3 [] rfl rfl) (fun w' hw' => (Y_loadA (B := B1) (i := (i1 : Int).toNat * 2) (cs := (b.flatMap enc_Term)) (vs := [.int .i64 x1.Mask, .int .i64 x1.Coef]) k_ag_136 k_sz_136_2 rfl rfl (ST.rf hw' (i := 1) rfl) (enc_Term_len x1) (gi_seg enc_Term_len hx1))) ?_
      refine ra_all (rs := [8]) (by kernel_rfl) rfl ?_
      refine ra_c 25 (i := 8) rfl rfl rfl (Yc_func (g := 107) (vs := [.agg #[.int .i64 x.Mask, .int .i64 x.Coef], .agg #[.int .i64 x1.Mask, .int .i64 x1.Coef]]) k_call_107 rfl (mc rfl (mc rfl mn)) (c_laws_eqTerm x x1 _  (hS3.inn0 [] rfl) hc)) ?_ ?_
      · rintro _ w_ ⟨rfl, hd⟩
        have hS4 := hS3.out00 hd
        refine ⟨(ST.sel hS4 [] rfl rfl), ?_⟩
        refine ra_q 9 26 (v := .bool (!r_1)) rfl rfl rfl (by kernel_rfl) (by kernel_rfl) (by kernel_rfl) (ST.sel hS4 [] rfl rfl) (fun w' hw' => (Y_not (p := r_1) rfl rfl)) ?_
        refine ra_done (by kernel_rfl) ?_
        refine cw_cond (b := (!r_1)) rfl (fun hb2 => ?_) (fun hb2 => ?_)
        · skip
          have hF4 := ct hb1 hb2
          refine cw_seq ?_
          refine cw_region ?_
          refine sq 4 rfl rfl (Y_assign (v := .bool false) rfl rfl) ?_
          refine rw_nil ?_
          refine cw_ret ?_
          obtain rfl := some_inj hF4
          obtain rfl := some_inj hL1
          obtain rfl := some_inj hF3
          exact ret1 Try.results58 (v1 := .bool false) (resAt_tmp rfl) ⟨rfl, (ST.subR (R' := []) (hS4.sel [] rfl rfl) (fun _ h => by cases h))⟩
        · skip
          have hF5 := cf' hb1 hb2
          refine cw_skip ?_
          refine cw_region ?_
          refine sq 15 rfl rfl (Y_move (v := .int .i64 (i1 : Int)) rfl (hf.get 5 2 rfl)) ?_
          refine sq 16 rfl rfl (Y_add (k := .i64) (a := (i1 : Int)) (b := 1) rfl rfl rfl) ?_
          refine sq 5 rfl rfl (Y_assign (v := .int .i64 (IntKind.i64.wrap ((i1 : Int) + 1))) rfl rfl) ?_
          refine rw_nil ?_
          obtain rfl := some_inj hF5
          exact ⟨k_1, Nat.lt_succ_self _, i1 + 1, (FF.cons (hf.get 0 0 rfl) (FF.cons (hf.get 1 1 rfl) (FF.cons (congrArg (Value.int .i64) (wr_succ hlt1 hN)) FF.nil))), (hS4.sel [] rfl rfl), (by omega), hL1⟩
      exact allR_nil
    · skip
      obtain rfl : k_ = 0 := by have h := of_decide_eq_false hlt; omega
      refine cw_exit rfl ?_
      obtain rfl := some_inj hL
      refine cw_seq ?_
      refine cw_region ?_
      refine sq 4 rfl rfl (Y_assign (v := .bool true) rfl rfl) ?_
      refine rw_nil ?_
      refine cw_ret ?_
      obtain rfl := some_inj hF3
      exact ret1 Try.results58 (v1 := .bool true) (resAt_tmp rfl) ⟨rfl, (ST.subR (R' := []) (hS1.sel [] rfl rfl) (fun _ h => by cases h))⟩

theorem c_laws_eqAffine (a : TAffine) (b : TAffine)  (w0 : World)  (hS : ST w0 [] w0 [] []) {r_ : Bool} (hF : F_laws_eqAffine a b = some r_) :
    CV Try.prog 108 #[.agg #[.int .i64 a.Mask, .int .i64 a.Turn], .agg #[.int .i64 b.Mask, .int .i64 b.Turn]] w0 (fun v w' => v = .bool r_ ∧ ST w0 [] w' [] []) := by
  unfold F_laws_eqAffine at hF
  refine cv_of_cw 15 Try.func108 rfl Try.ntmps108 rfl ?_
  refine cw_seq ?_
  refine cw_region ?_
  refine ss 2 rfl rfl (Ys_box (T := 61) (v := .agg #[.int .i64 a.Mask, .int .i64 a.Turn]) (cs := [.int .i64 a.Mask, .int .i64 a.Turn]) (m := 2) hS rfl rfl rfl rfl) ?_
  rintro _ w_ ⟨b1, rfl, hS1⟩
  refine ss 3 rfl rfl (Ys_box (T := 61) (v := .agg #[.int .i64 b.Mask, .int .i64 b.Turn]) (cs := [.int .i64 b.Mask, .int .i64 b.Turn]) (m := 2) hS1 rfl rfl rfl rfl) ?_
  rintro _ w_1 ⟨b2, rfl, hS2⟩
  have hS2 : ST w0 [] _ [⟨some ⟨b1, 0, none⟩, 61, [.int .i64 a.Mask, .int .i64 a.Turn], 2⟩, ⟨some ⟨b2, 0, none⟩, 61, [.int .i64 b.Mask, .int .i64 b.Turn], 2⟩] [] := hS2
  refine sq 4 rfl rfl (Y_assign (v := .bool false) rfl rfl) ?_
  refine rw_nil ?_
  refine cw_seq ?_
  refine cw_seq ?_
  refine cw_region ?_
  refine sq 5 rfl rfl (Y_fieldAddr (B := some ⟨b1, 0, none⟩) (i := 0) (s := 0) k_fd_61_0_0_3 k_sz_3_1 rfl rfl) ?_
  refine sq 6 rfl rfl (Y_load1 (B := some ⟨b1, 0, none⟩) (i := 0) (cs := [.int .i64 a.Mask, .int .i64 a.Turn]) (v := .int .i64 a.Mask) k_sc_3 rfl rfl (hS2.cf (i := 0) rfl) rfl) ?_
  refine sq 7 rfl rfl (Y_fieldAddr (B := some ⟨b2, 0, none⟩) (i := 0) (s := 0) k_fd_61_0_0_3 k_sz_3_1 rfl rfl) ?_
  refine sq 8 rfl rfl (Y_load1 (B := some ⟨b2, 0, none⟩) (i := 0) (cs := [.int .i64 b.Mask, .int .i64 b.Turn]) (v := .int .i64 b.Mask) k_sc_3 rfl rfl (hS2.cf (i := 1) rfl) rfl) ?_
  refine sq 9 rfl rfl (Y_ne (k := .i64) (a := a.Mask) (b := b.Mask) rfl rfl rfl) ?_
  refine rw_nil ?_
  refine cw_cond (b := (a.Mask != b.Mask)) rfl (fun hb => ?_) (fun hb => ?_)
  · skip
    have hF1 := ct hF hb
    refine cw_seq ?_
    refine cw_region ?_
    refine sq 4 rfl rfl (Y_assign (v := .bool false) rfl rfl) ?_
    refine rw_nil ?_
    refine cw_ret ?_
    obtain rfl := some_inj hF1
    exact ret1 Try.results108 (v1 := .bool false) (resAt_tmp rfl) ⟨rfl, (ST.subR (R' := []) (hS2.sel [] rfl rfl) (fun _ h => by cases h))⟩
  · skip
    have hF2 := cf' hF hb
    refine cw_skip ?_
    refine cw_seq ?_
    refine cw_seq ?_
    refine cw_region ?_
    refine sq 10 rfl rfl (Y_fieldAddr (B := some ⟨b1, 0, none⟩) (i := 0) (s := 0) k_fd_61_1_1_3 k_sz_3_1 rfl rfl) ?_
    refine sq 11 rfl rfl (Y_load1 (B := some ⟨b1, 0, none⟩) (i := 1) (cs := [.int .i64 a.Mask, .int .i64 a.Turn]) (v := .int .i64 a.Turn) k_sc_3 rfl rfl (hS2.cf (i := 0) rfl) rfl) ?_
    refine sq 12 rfl rfl (Y_fieldAddr (B := some ⟨b2, 0, none⟩) (i := 0) (s := 0) k_fd_61_1_1_3 k_sz_3_1 rfl rfl) ?_
    refine sq 13 rfl rfl (Y_load1 (B := some ⟨b2, 0, none⟩) (i := 1) (cs := [.int .i64 b.Mask, .int .i64 b.Turn]) (v := .int .i64 b.Turn) k_sc_3 rfl rfl (hS2.cf (i := 1) rfl) rfl) ?_
    refine sq 14 rfl rfl (Y_ne (k := .i64) (a := a.Turn) (b := b.Turn) rfl rfl rfl) ?_
    refine rw_nil ?_
    refine cw_cond (b := (a.Turn != b.Turn)) rfl (fun hb1 => ?_) (fun hb1 => ?_)
    · skip
      have hF3 := ct hF2 hb1
      refine cw_seq ?_
      refine cw_region ?_
      refine sq 4 rfl rfl (Y_assign (v := .bool false) rfl rfl) ?_
      refine rw_nil ?_
      refine cw_ret ?_
      obtain rfl := some_inj hF3
      exact ret1 Try.results108 (v1 := .bool false) (resAt_tmp rfl) ⟨rfl, (ST.subR (R' := []) (hS2.sel [] rfl rfl) (fun _ h => by cases h))⟩
    · skip
      have hF4 := cf' hF2 hb1
      refine cw_skip ?_
      refine cw_seq ?_
      refine cw_region ?_
      refine sq 4 rfl rfl (Y_assign (v := .bool true) rfl rfl) ?_
      refine rw_nil ?_
      refine cw_ret ?_
      obtain rfl := some_inj hF4
      exact ret1 Try.results108 (v1 := .bool true) (resAt_tmp rfl) ⟨rfl, (ST.subR (R' := []) (hS2.sel [] rfl rfl) (fun _ h => by cases h))⟩

theorem c_laws_eqAffineS (a : List TAffine) (b : List TAffine) (B : Option Addr) (c n : Nat) (B1 : Option Addr) (c1 n1 : Nat) (w0 : World) (hn : a.length = n) (hn1 : b.length = n1) (hS : ST w0 [] w0 [] [⟨B, (a.flatMap enc_Affine)⟩, ⟨B1, (b.flatMap enc_Affine)⟩]) {r_ : Bool} (hF : F_laws_eqAffineS a b = some r_) :
    CV Try.prog 59 #[.slice B n c, .slice B1 n1 c1] w0 (fun v w' => v = .bool r_ ∧ ST w0 [] w' [] []) := by
  subst hn
  subst hn1
  unfold F_laws_eqAffineS at hF
  refine cv_of_cw 27 Try.func59 rfl Try.ntmps59 rfl ?_
  refine cw_seq ?_
  refine cw_region ?_
  refine sq 4 rfl rfl (Y_assign (v := .bool false) rfl rfl) ?_
  refine rw_nil ?_
  refine cw_seq ?_
  refine cw_seq ?_
  refine cw_region ?_
  refine sq 6 rfl rfl (Y_move (v := .slice B a.length c) rfl rfl) ?_
  refine sq 7 rfl rfl (Y_len (B := B) (m := a.length) (c := c) k_sl_55_61 rfl rfl) ?_
  refine sq 8 rfl rfl (Y_move (v := .slice B1 b.length c1) rfl rfl) ?_
  refine sq 9 rfl rfl (Y_len (B := B1) (m := b.length) (c := c1) k_sl_55_61 rfl rfl) ?_
  refine sq 10 rfl rfl (Y_ne (k := .i64) (a := (a.length : Int)) (b := (b.length : Int)) rfl rfl rfl) ?_
  refine rw_nil ?_
  refine cw_cond (b := ((a.length : Int) != (b.length : Int))) rfl (fun hb => ?_) (fun hb => ?_)
  · skip
    have hF1 := ct hF hb
    refine cw_seq ?_
    refine cw_region ?_
    refine sq 4 rfl rfl (Y_assign (v := .bool false) rfl rfl) ?_
    refine rw_nil ?_
    refine cw_ret ?_
    obtain rfl := some_inj hF1
    exact ret1 Try.results59 (v1 := .bool false) (resAt_tmp rfl) ⟨rfl, (ST.subR (R' := []) (hS.sel [] rfl rfl) (fun _ h => by cases h))⟩
  · skip
    have hF2 := cf' hF hb
    refine cw_skip ?_
    refine cw_seq ?_
    refine cw_seq ?_
    refine cw_region ?_
    refine sq 5 rfl rfl (Y_assign (v := .int .i64 0) rfl rfl) ?_
    refine rw_nil ?_
    obtain ⟨hN, hF2⟩ := chk_inv hF2
    obtain ⟨z, hz, hF3⟩ := bind_inv hF2
    refine cw_block ?_
    refine cw_loop (fun k f w => ∃ (i1 : Nat), FF f [(0, .slice B a.length c), (1, .slice B1 b.length c1), (5, .int .i64 (i1 : Int))] ∧ ST w0 [] w [] [⟨B, (a.flatMap enc_Affine)⟩, ⟨B1, (b.flatMap enc_Affine)⟩] ∧ i1 + k = a.length ∧ forX (F_laws_eqAffineS_l1 a b) k i1 () = some z) a.length ⟨0, (FF.cons rfl (FF.cons rfl (FF.cons rfl FF.nil))), (hS.sel [] rfl rfl), Nat.zero_add _, hz⟩ ?_
    rintro k_ f w ⟨i1, hf, hS1, hik, hL⟩
    refine cw_seq ?_
    refine cw_seq ?_
    refine cw_region ?_
    refine sq 11 rfl rfl (Y_move (v := .int .i64 (i1 : Int)) rfl (hf.get 5 2 rfl)) ?_
    refine sq 12 rfl rfl (Y_move (v := .slice B a.length c) rfl (hf.get 0 0 rfl)) ?_
    refine sq 13 rfl rfl (Y_len (B := B) (m := a.length) (c := c) k_sl_55_61 rfl rfl) ?_
    refine sq 14 rfl rfl (Y_lt (k := .i64) (a := (i1 : Int)) (b := (a.length : Int)) rfl rfl rfl) ?_
    refine rw_nil ?_
    refine cw_cond (b := (decide ((i1 : Int) < (a.length : Int)))) rfl (fun hlt => ?_) (fun hlt => ?_)
    · skip
      have hlt1 : i1 < a.length := by have h := of_decide_eq_true hlt; omega
      obtain ⟨k_1, rfl⟩ : ∃ k2, k_ = k2 + 1 := ⟨k_ - 1, by omega⟩
      obtain ⟨y, hb1, hL1⟩ := forX_go hL
      unfold F_laws_eqAffineS_l1 at hb1
      refine cw_skip ?_
      refine cw_seq ?_
      refine cw_block ?_
      refine cw_seq ?_
      obtain ⟨x, hx, hb1⟩ := bind_inv hb1
      obtain ⟨x1, hx1, hb1⟩ := bind_inv hb1
      obtain ⟨r_1, hc, hb1⟩ := bind_inv hb1
      refine ra_start (ST.sel hS1 [] rfl rfl).fn (by kernel_rfl) ?_
      have hS3 := hS1.drew
      refine ra_q 0 17 (v := .slice B a.length c) rfl rfl rfl (by kernel_rfl) (by kernel_rfl) (by kernel_rfl) (ST.sel hS3 [] rfl rfl) (fun w' hw' => (Y_move (v := .slice B a.length c) rfl (hf.get 0 0 rfl))) ?_
      refine ra_q 1 18 (v := .int .i64 (i1 : Int)) rfl rfl rfl (by kernel_rfl) (by kernel_rfl) (by kernel_rfl) (ST.sel hS3 [] rfl rfl) (fun w' hw' => (Y_move (v := .int .i64 (i1 : Int)) rfl (hf.get 5 2 rfl))) ?_
      refine ra_q 2 19 (v := pt B ((i1 : Int).toNat * 2)) rfl rfl rfl (by kernel_rfl) (by kernel_rfl) (by kernel_rfl) (ST.sel hS3 [] rfl rfl) (fun w' hw' => (Y_index (B := B) (m := a.length) (c := c) (k := .i64) (i := (i1 : Int)) k_sl_55_61 k_sz_61_2 rfl rfl rfl (gi_isSome enc_Affine_len rfl (ST.rf hw' (i := 0) rfl) hx) (getI_nn hx) (getI_ltI hx rfl))) ?_
      refine ra_q 3 20 (v := .agg #[.int .i64 x.Mask, .int .i64 x.Turn]) rfl rfl rfl (by kernel_rfl) (by kernel_rfl) (by kernel_rfl) (ST.sel hS3 [] rfl rfl) (fun w' hw' => (Y_loadA (B := B) (i := (i1 : Int).toNat * 2) (cs := (a.flatMap enc_Affine)) (vs := [.int .i64 x.Mask, .int .i64 x.Turn]) k_ag_61 k_sz_61_2 rfl rfl (ST.rf hw' (i := 0) rfl) (enc_Affine_len x) (gi_seg enc_Affine_len hx))) ?_
      refine ra_q 4 21 (v := .slice B1 b.length c1) rfl rfl rfl (by kernel_rfl) (by kernel_rfl) (by kernel_rfl) (ST.sel hS3 [] rfl rfl) (fun w' hw' => (Y_move (v := .slice B1 b.length c1) rfl (hf.get 1 1 rfl))) ?_
      refine ra_q 5 22 (v := .int .i64 (i1 : Int)) rfl rfl rfl (by kernel_rfl) (by kernel_rfl) (by kernel_rfl) (ST.sel hS3 [] rfl rfl) (fun w' hw' => (Y_move (v := .int .i64 (i1 : Int)) rfl (hf.get 5 2 rfl))) ?_
      refine ra_q 6 23 (v := pt B1 ((i1 : Int).toNat * 2)) rfl rfl rfl (by kernel_rfl) (by kernel_rfl) (by kernel_rfl) (ST.sel hS3 [] rfl rfl) (fun w' hw' => (Y_index (B := B1) (m := b.length) (c := c1) (k := .i64) (i := (i1 : Int)) k_sl_55_61 k_sz_61_2 rfl rfl rfl (gi_isSome enc_Affine_len rfl (ST.rf hw' (i := 1) rfl) hx1) (getI_nn hx1) (getI_ltI hx1 rfl))) ?_
      refine ra_q 7 24 (v := .agg #[.int .i64 x1.Mask, .int .i64 x1.Turn]) rfl rfl rfl (by kernel_rfl) (by kernel_rfl) (by kernel_rfl) (ST.sel hS3 [] rfl rfl) (fun w' hw' => (Y_loadA (B := B1) (i := (i1 : Int).toNat * 2) (cs := (b.flatMap enc_Affine)) (vs := [.int .i64 x1.Mask, .int .i64 x1.Turn]) k_ag_61 k_sz_61_2 rfl rfl (ST.rf hw' (i := 1) rfl) (enc_Affine_len x1) (gi_seg enc_Affine_len hx1))) ?_
      refine ra_all (rs := [8]) (by kernel_rfl) rfl ?_
      refine ra_c 25 (i := 8) rfl rfl rfl (Yc_func (g := 108) (vs := [.agg #[.int .i64 x.Mask, .int .i64 x.Turn], .agg #[.int .i64 x1.Mask, .int .i64 x1.Turn]]) k_call_108 rfl (mc rfl (mc rfl mn)) (c_laws_eqAffine x x1 _  (hS3.inn0 [] rfl) hc)) ?_ ?_
      · rintro _ w_ ⟨rfl, hd⟩
        have hS4 := hS3.out00 hd
        refine ⟨(ST.sel hS4 [] rfl rfl), ?_⟩
        refine ra_q 9 26 (v := .bool (!r_1)) rfl rfl rfl (by kernel_rfl) (by kernel_rfl) (by kernel_rfl) (ST.sel hS4 [] rfl rfl) (fun w' hw' => (Y_not (p := r_1) rfl rfl)) ?_
        refine ra_done (by kernel_rfl) ?_
        refine cw_cond (b := (!r_1)) rfl (fun hb2 => ?_) (fun hb2 => ?_)
        · skip
          have hF4 := ct hb1 hb2
          refine cw_seq ?_
          refine cw_region ?_
          refine sq 4 rfl rfl (Y_assign (v := .bool false) rfl rfl) ?_
          refine rw_nil ?_
          refine cw_ret ?_
          obtain rfl := some_inj hF4
          obtain rfl := some_inj hL1
          obtain rfl := some_inj hF3
          exact ret1 Try.results59 (v1 := .bool false) (resAt_tmp rfl) ⟨rfl, (ST.subR (R' := []) (hS4.sel [] rfl rfl) (fun _ h => by cases h))⟩
        · skip
          have hF5 := cf' hb1 hb2
          refine cw_skip ?_
          refine cw_region ?_
          refine sq 15 rfl rfl (Y_move (v := .int .i64 (i1 : Int)) rfl (hf.get 5 2 rfl)) ?_
          refine sq 16 rfl rfl (Y_add (k := .i64) (a := (i1 : Int)) (b := 1) rfl rfl rfl) ?_
          refine sq 5 rfl rfl (Y_assign (v := .int .i64 (IntKind.i64.wrap ((i1 : Int) + 1))) rfl rfl) ?_
          refine rw_nil ?_
          obtain rfl := some_inj hF5
          exact ⟨k_1, Nat.lt_succ_self _, i1 + 1, (FF.cons (hf.get 0 0 rfl) (FF.cons (hf.get 1 1 rfl) (FF.cons (congrArg (Value.int .i64) (wr_succ hlt1 hN)) FF.nil))), (hS4.sel [] rfl rfl), (by omega), hL1⟩
      exact allR_nil
    · skip
      obtain rfl : k_ = 0 := by have h := of_decide_eq_false hlt; omega
      refine cw_exit rfl ?_
      obtain rfl := some_inj hL
      refine cw_seq ?_
      refine cw_region ?_
      refine sq 4 rfl rfl (Y_assign (v := .bool true) rfl rfl) ?_
      refine rw_nil ?_
      refine cw_ret ?_
      obtain rfl := some_inj hF3
      exact ret1 Try.results59 (v1 := .bool true) (resAt_tmp rfl) ⟨rfl, (ST.subR (R' := []) (hS1.sel [] rfl rfl) (fun _ h => by cases h))⟩

theorem c_laws_eqPathSum (a : TPathSum) (b : TPathSum) (B : Option Addr) (c n : Nat) (B1 : Option Addr) (c1 n1 : Nat) (B2 : Option Addr) (c2 n2 : Nat) (B3 : Option Addr) (c3 n3 : Nat) (w0 : World) (hn : a.Terms.length = n) (hn1 : a.Out.length = n1) (hn2 : b.Terms.length = n2) (hn3 : b.Out.length = n3) (hS : ST w0 [] w0 [] [⟨B, (a.Terms.flatMap enc_Term)⟩, ⟨B1, (a.Out.flatMap enc_Affine)⟩, ⟨B2, (b.Terms.flatMap enc_Term)⟩, ⟨B3, (b.Out.flatMap enc_Affine)⟩]) {r_ : Bool} (hF : F_laws_eqPathSum a b = some r_) :
    CV Try.prog 25 #[.agg #[.int .i64 a.Ins, .int .i64 a.Vars, .int .i64 a.Root, .int .i64 a.Phase, .slice B n c, .slice B1 n1 c1], .agg #[.int .i64 b.Ins, .int .i64 b.Vars, .int .i64 b.Root, .int .i64 b.Phase, .slice B2 n2 c2, .slice B3 n3 c3]] w0 (fun v w' => v = .bool r_ ∧ ST w0 [] w' [] []) := by
  subst hn
  subst hn1
  subst hn2
  subst hn3
  unfold F_laws_eqPathSum at hF
  refine cv_of_cw 37 Try.func25 rfl Try.ntmps25 rfl ?_
  refine cw_seq ?_
  refine cw_region ?_
  refine ss 2 rfl rfl (Ys_box (T := 57) (v := .agg #[.int .i64 a.Ins, .int .i64 a.Vars, .int .i64 a.Root, .int .i64 a.Phase, .slice B a.Terms.length c, .slice B1 a.Out.length c1]) (cs := [.int .i64 a.Ins, .int .i64 a.Vars, .int .i64 a.Root, .int .i64 a.Phase, .slice B a.Terms.length c, .slice B1 a.Out.length c1]) (m := 6) hS rfl rfl rfl rfl) ?_
  rintro _ w_ ⟨b1, rfl, hS1⟩
  refine ss 3 rfl rfl (Ys_box (T := 57) (v := .agg #[.int .i64 b.Ins, .int .i64 b.Vars, .int .i64 b.Root, .int .i64 b.Phase, .slice B2 b.Terms.length c2, .slice B3 b.Out.length c3]) (cs := [.int .i64 b.Ins, .int .i64 b.Vars, .int .i64 b.Root, .int .i64 b.Phase, .slice B2 b.Terms.length c2, .slice B3 b.Out.length c3]) (m := 6) hS1 rfl rfl rfl rfl) ?_
  rintro _ w_1 ⟨b2, rfl, hS2⟩
  have hS2 : ST w0 [] _ [⟨some ⟨b1, 0, none⟩, 57, [.int .i64 a.Ins, .int .i64 a.Vars, .int .i64 a.Root, .int .i64 a.Phase, .slice B a.Terms.length c, .slice B1 a.Out.length c1], 6⟩, ⟨some ⟨b2, 0, none⟩, 57, [.int .i64 b.Ins, .int .i64 b.Vars, .int .i64 b.Root, .int .i64 b.Phase, .slice B2 b.Terms.length c2, .slice B3 b.Out.length c3], 6⟩] [⟨B, (a.Terms.flatMap enc_Term)⟩, ⟨B1, (a.Out.flatMap enc_Affine)⟩, ⟨B2, (b.Terms.flatMap enc_Term)⟩, ⟨B3, (b.Out.flatMap enc_Affine)⟩] := hS2
  refine sq 4 rfl rfl (Y_assign (v := .bool false) rfl rfl) ?_
  refine rw_nil ?_
  refine cw_seq ?_
  refine cw_seq ?_
  refine cw_region ?_
  refine sq 5 rfl rfl (Y_fieldAddr (B := some ⟨b1, 0, none⟩) (i := 0) (s := 0) k_fd_57_0_0_3 k_sz_3_1 rfl rfl) ?_
  refine sq 6 rfl rfl (Y_load1 (B := some ⟨b1, 0, none⟩) (i := 0) (cs := [.int .i64 a.Ins, .int .i64 a.Vars, .int .i64 a.Root, .int .i64 a.Phase, .slice B a.Terms.length c, .slice B1 a.Out.length c1]) (v := .int .i64 a.Ins) k_sc_3 rfl rfl (hS2.cf (i := 0) rfl) rfl) ?_
  refine sq 7 rfl rfl (Y_fieldAddr (B := some ⟨b2, 0, none⟩) (i := 0) (s := 0) k_fd_57_0_0_3 k_sz_3_1 rfl rfl) ?_
  refine sq 8 rfl rfl (Y_load1 (B := some ⟨b2, 0, none⟩) (i := 0) (cs := [.int .i64 b.Ins, .int .i64 b.Vars, .int .i64 b.Root, .int .i64 b.Phase, .slice B2 b.Terms.length c2, .slice B3 b.Out.length c3]) (v := .int .i64 b.Ins) k_sc_3 rfl rfl (hS2.cf (i := 1) rfl) rfl) ?_
  refine sq 9 rfl rfl (Y_ne (k := .i64) (a := a.Ins) (b := b.Ins) rfl rfl rfl) ?_
  refine rw_nil ?_
  refine cw_cond (b := (a.Ins != b.Ins)) rfl (fun hb => ?_) (fun hb => ?_)
  · skip
    have hF1 := ct hF hb
    refine cw_seq ?_
    refine cw_region ?_
    refine sq 4 rfl rfl (Y_assign (v := .bool false) rfl rfl) ?_
    refine rw_nil ?_
    refine cw_ret ?_
    obtain rfl := some_inj hF1
    exact ret1 Try.results25 (v1 := .bool false) (resAt_tmp rfl) ⟨rfl, (ST.subR (R' := []) (hS2.sel [] rfl rfl) (fun _ h => by cases h))⟩
  · skip
    have hF2 := cf' hF hb
    refine cw_skip ?_
    refine cw_seq ?_
    refine cw_seq ?_
    refine cw_region ?_
    refine sq 10 rfl rfl (Y_fieldAddr (B := some ⟨b1, 0, none⟩) (i := 0) (s := 0) k_fd_57_1_1_3 k_sz_3_1 rfl rfl) ?_
    refine sq 11 rfl rfl (Y_load1 (B := some ⟨b1, 0, none⟩) (i := 1) (cs := [.int .i64 a.Ins, .int .i64 a.Vars, .int .i64 a.Root, .int .i64 a.Phase, .slice B a.Terms.length c, .slice B1 a.Out.length c1]) (v := .int .i64 a.Vars) k_sc_3 rfl rfl (hS2.cf (i := 0) rfl) rfl) ?_
    refine sq 12 rfl rfl (Y_fieldAddr (B := some ⟨b2, 0, none⟩) (i := 0) (s := 0) k_fd_57_1_1_3 k_sz_3_1 rfl rfl) ?_
    refine sq 13 rfl rfl (Y_load1 (B := some ⟨b2, 0, none⟩) (i := 1) (cs := [.int .i64 b.Ins, .int .i64 b.Vars, .int .i64 b.Root, .int .i64 b.Phase, .slice B2 b.Terms.length c2, .slice B3 b.Out.length c3]) (v := .int .i64 b.Vars) k_sc_3 rfl rfl (hS2.cf (i := 1) rfl) rfl) ?_
    refine sq 14 rfl rfl (Y_ne (k := .i64) (a := a.Vars) (b := b.Vars) rfl rfl rfl) ?_
    refine rw_nil ?_
    refine cw_cond (b := (a.Vars != b.Vars)) rfl (fun hb1 => ?_) (fun hb1 => ?_)
    · skip
      have hF3 := ct hF2 hb1
      refine cw_seq ?_
      refine cw_region ?_
      refine sq 4 rfl rfl (Y_assign (v := .bool false) rfl rfl) ?_
      refine rw_nil ?_
      refine cw_ret ?_
      obtain rfl := some_inj hF3
      exact ret1 Try.results25 (v1 := .bool false) (resAt_tmp rfl) ⟨rfl, (ST.subR (R' := []) (hS2.sel [] rfl rfl) (fun _ h => by cases h))⟩
    · skip
      have hF4 := cf' hF2 hb1
      refine cw_skip ?_
      refine cw_seq ?_
      refine cw_seq ?_
      refine cw_region ?_
      refine sq 15 rfl rfl (Y_fieldAddr (B := some ⟨b1, 0, none⟩) (i := 0) (s := 0) k_fd_57_2_2_3 k_sz_3_1 rfl rfl) ?_
      refine sq 16 rfl rfl (Y_load1 (B := some ⟨b1, 0, none⟩) (i := 2) (cs := [.int .i64 a.Ins, .int .i64 a.Vars, .int .i64 a.Root, .int .i64 a.Phase, .slice B a.Terms.length c, .slice B1 a.Out.length c1]) (v := .int .i64 a.Root) k_sc_3 rfl rfl (hS2.cf (i := 0) rfl) rfl) ?_
      refine sq 17 rfl rfl (Y_fieldAddr (B := some ⟨b2, 0, none⟩) (i := 0) (s := 0) k_fd_57_2_2_3 k_sz_3_1 rfl rfl) ?_
      refine sq 18 rfl rfl (Y_load1 (B := some ⟨b2, 0, none⟩) (i := 2) (cs := [.int .i64 b.Ins, .int .i64 b.Vars, .int .i64 b.Root, .int .i64 b.Phase, .slice B2 b.Terms.length c2, .slice B3 b.Out.length c3]) (v := .int .i64 b.Root) k_sc_3 rfl rfl (hS2.cf (i := 1) rfl) rfl) ?_
      refine sq 19 rfl rfl (Y_ne (k := .i64) (a := a.Root) (b := b.Root) rfl rfl rfl) ?_
      refine rw_nil ?_
      refine cw_cond (b := (a.Root != b.Root)) rfl (fun hb2 => ?_) (fun hb2 => ?_)
      · skip
        have hF5 := ct hF4 hb2
        refine cw_seq ?_
        refine cw_region ?_
        refine sq 4 rfl rfl (Y_assign (v := .bool false) rfl rfl) ?_
        refine rw_nil ?_
        refine cw_ret ?_
        obtain rfl := some_inj hF5
        exact ret1 Try.results25 (v1 := .bool false) (resAt_tmp rfl) ⟨rfl, (ST.subR (R' := []) (hS2.sel [] rfl rfl) (fun _ h => by cases h))⟩
      · skip
        have hF6 := cf' hF4 hb2
        refine cw_skip ?_
        refine cw_seq ?_
        refine cw_seq ?_
        refine cw_region ?_
        refine sq 20 rfl rfl (Y_fieldAddr (B := some ⟨b1, 0, none⟩) (i := 0) (s := 0) k_fd_57_3_3_3 k_sz_3_1 rfl rfl) ?_
        refine sq 21 rfl rfl (Y_load1 (B := some ⟨b1, 0, none⟩) (i := 3) (cs := [.int .i64 a.Ins, .int .i64 a.Vars, .int .i64 a.Root, .int .i64 a.Phase, .slice B a.Terms.length c, .slice B1 a.Out.length c1]) (v := .int .i64 a.Phase) k_sc_3 rfl rfl (hS2.cf (i := 0) rfl) rfl) ?_
        refine sq 22 rfl rfl (Y_fieldAddr (B := some ⟨b2, 0, none⟩) (i := 0) (s := 0) k_fd_57_3_3_3 k_sz_3_1 rfl rfl) ?_
        refine sq 23 rfl rfl (Y_load1 (B := some ⟨b2, 0, none⟩) (i := 3) (cs := [.int .i64 b.Ins, .int .i64 b.Vars, .int .i64 b.Root, .int .i64 b.Phase, .slice B2 b.Terms.length c2, .slice B3 b.Out.length c3]) (v := .int .i64 b.Phase) k_sc_3 rfl rfl (hS2.cf (i := 1) rfl) rfl) ?_
        refine sq 24 rfl rfl (Y_ne (k := .i64) (a := a.Phase) (b := b.Phase) rfl rfl rfl) ?_
        refine rw_nil ?_
        refine cw_cond (b := (a.Phase != b.Phase)) rfl (fun hb3 => ?_) (fun hb3 => ?_)
        · skip
          have hF7 := ct hF6 hb3
          refine cw_seq ?_
          refine cw_region ?_
          refine sq 4 rfl rfl (Y_assign (v := .bool false) rfl rfl) ?_
          refine rw_nil ?_
          refine cw_ret ?_
          obtain rfl := some_inj hF7
          exact ret1 Try.results25 (v1 := .bool false) (resAt_tmp rfl) ⟨rfl, (ST.subR (R' := []) (hS2.sel [] rfl rfl) (fun _ h => by cases h))⟩
        · skip
          have hF8 := cf' hF6 hb3
          refine cw_skip ?_
          refine cw_seq ?_
          refine cw_seq ?_
          refine cw_region ?_
          refine sq 25 rfl rfl (Y_fieldAddr (B := some ⟨b1, 0, none⟩) (i := 0) (s := 0) k_fd_57_4_4_54 k_sz_54_1 rfl rfl) ?_
          refine sq 26 rfl rfl (Y_load1 (B := some ⟨b1, 0, none⟩) (i := 4) (cs := [.int .i64 a.Ins, .int .i64 a.Vars, .int .i64 a.Root, .int .i64 a.Phase, .slice B a.Terms.length c, .slice B1 a.Out.length c1]) (v := .slice B a.Terms.length c) k_sc_54 rfl rfl (hS2.cf (i := 0) rfl) rfl) ?_
          refine sq 27 rfl rfl (Y_fieldAddr (B := some ⟨b2, 0, none⟩) (i := 0) (s := 0) k_fd_57_4_4_54 k_sz_54_1 rfl rfl) ?_
          refine sq 28 rfl rfl (Y_load1 (B := some ⟨b2, 0, none⟩) (i := 4) (cs := [.int .i64 b.Ins, .int .i64 b.Vars, .int .i64 b.Root, .int .i64 b.Phase, .slice B2 b.Terms.length c2, .slice B3 b.Out.length c3]) (v := .slice B2 b.Terms.length c2) k_sc_54 rfl rfl (hS2.cf (i := 1) rfl) rfl) ?_
          obtain ⟨r_1, hc, hF8⟩ := bind_inv hF8
          refine sc 29 rfl rfl (Yc_func (g := 58) (vs := [.slice B a.Terms.length c, .slice B2 b.Terms.length c2]) k_call_58 rfl (mc rfl (mc rfl mn)) (c_laws_eqTermS a.Terms b.Terms B c a.Terms.length B2 c2 b.Terms.length _ rfl rfl (hS2.inn0 [(true, 0), (true, 2)] rfl) hc)) ?_
          rintro _ w_2 ⟨rfl, hd⟩
          have hS3 := hS2.out00 hd
          have hS3 : ST w0 [] _ [⟨some ⟨b1, 0, none⟩, 57, [.int .i64 a.Ins, .int .i64 a.Vars, .int .i64 a.Root, .int .i64 a.Phase, .slice B a.Terms.length c, .slice B1 a.Out.length c1], 6⟩, ⟨some ⟨b2, 0, none⟩, 57, [.int .i64 b.Ins, .int .i64 b.Vars, .int .i64 b.Root, .int .i64 b.Phase, .slice B2 b.Terms.length c2, .slice B3 b.Out.length c3], 6⟩] [⟨B, (a.Terms.flatMap enc_Term)⟩, ⟨B1, (a.Out.flatMap enc_Affine)⟩, ⟨B2, (b.Terms.flatMap enc_Term)⟩, ⟨B3, (b.Out.flatMap enc_Affine)⟩] := hS3
          refine sq 30 rfl rfl (Y_not (p := r_1) rfl rfl) ?_
          refine rw_nil ?_
          refine cw_cond (b := (!r_1)) rfl (fun hb4 => ?_) (fun hb4 => ?_)
          · skip
            have hF9 := ct hF8 hb4
            refine cw_seq ?_
            refine cw_region ?_
            refine sq 4 rfl rfl (Y_assign (v := .bool false) rfl rfl) ?_
            refine rw_nil ?_
            refine cw_ret ?_
            obtain rfl := some_inj hF9
            exact ret1 Try.results25 (v1 := .bool false) (resAt_tmp rfl) ⟨rfl, (ST.subR (R' := []) (hS3.sel [] rfl rfl) (fun _ h => by cases h))⟩
          · skip
            have hF10 := cf' hF8 hb4
            refine cw_skip ?_
            refine cw_seq ?_
            refine cw_seq ?_
            refine cw_region ?_
            refine sq 31 rfl rfl (Y_fieldAddr (B := some ⟨b1, 0, none⟩) (i := 0) (s := 0) k_fd_57_5_5_55 k_sz_55_1 rfl rfl) ?_
            refine sq 32 rfl rfl (Y_load1 (B := some ⟨b1, 0, none⟩) (i := 5) (cs := [.int .i64 a.Ins, .int .i64 a.Vars, .int .i64 a.Root, .int .i64 a.Phase, .slice B a.Terms.length c, .slice B1 a.Out.length c1]) (v := .slice B1 a.Out.length c1) k_sc_55 rfl rfl (hS3.cf (i := 0) rfl) rfl) ?_
            refine sq 33 rfl rfl (Y_fieldAddr (B := some ⟨b2, 0, none⟩) (i := 0) (s := 0) k_fd_57_5_5_55 k_sz_55_1 rfl rfl) ?_
            refine sq 34 rfl rfl (Y_load1 (B := some ⟨b2, 0, none⟩) (i := 5) (cs := [.int .i64 b.Ins, .int .i64 b.Vars, .int .i64 b.Root, .int .i64 b.Phase, .slice B2 b.Terms.length c2, .slice B3 b.Out.length c3]) (v := .slice B3 b.Out.length c3) k_sc_55 rfl rfl (hS3.cf (i := 1) rfl) rfl) ?_
            obtain ⟨r_2, hc1, hF10⟩ := bind_inv hF10
            refine sc 35 rfl rfl (Yc_func (g := 59) (vs := [.slice B1 a.Out.length c1, .slice B3 b.Out.length c3]) k_call_59 rfl (mc rfl (mc rfl mn)) (c_laws_eqAffineS a.Out b.Out B1 c1 a.Out.length B3 c3 b.Out.length _ rfl rfl (hS3.inn0 [(true, 1), (true, 3)] rfl) hc1)) ?_
            rintro _ w_3 ⟨rfl, hd1⟩
            have hS4 := hS3.out00 hd1
            have hS4 : ST w0 [] _ [⟨some ⟨b1, 0, none⟩, 57, [.int .i64 a.Ins, .int .i64 a.Vars, .int .i64 a.Root, .int .i64 a.Phase, .slice B a.Terms.length c, .slice B1 a.Out.length c1], 6⟩, ⟨some ⟨b2, 0, none⟩, 57, [.int .i64 b.Ins, .int .i64 b.Vars, .int .i64 b.Root, .int .i64 b.Phase, .slice B2 b.Terms.length c2, .slice B3 b.Out.length c3], 6⟩] [⟨B, (a.Terms.flatMap enc_Term)⟩, ⟨B1, (a.Out.flatMap enc_Affine)⟩, ⟨B2, (b.Terms.flatMap enc_Term)⟩, ⟨B3, (b.Out.flatMap enc_Affine)⟩] := hS4
            refine sq 36 rfl rfl (Y_not (p := r_2) rfl rfl) ?_
            refine rw_nil ?_
            refine cw_cond (b := (!r_2)) rfl (fun hb5 => ?_) (fun hb5 => ?_)
            · skip
              have hF11 := ct hF10 hb5
              refine cw_seq ?_
              refine cw_region ?_
              refine sq 4 rfl rfl (Y_assign (v := .bool false) rfl rfl) ?_
              refine rw_nil ?_
              refine cw_ret ?_
              obtain rfl := some_inj hF11
              exact ret1 Try.results25 (v1 := .bool false) (resAt_tmp rfl) ⟨rfl, (ST.subR (R' := []) (hS4.sel [] rfl rfl) (fun _ h => by cases h))⟩
            · skip
              have hF12 := cf' hF10 hb5
              refine cw_skip ?_
              refine cw_seq ?_
              refine cw_region ?_
              refine sq 4 rfl rfl (Y_assign (v := .bool true) rfl rfl) ?_
              refine rw_nil ?_
              refine cw_ret ?_
              obtain rfl := some_inj hF12
              exact ret1 Try.results25 (v1 := .bool true) (resAt_tmp rfl) ⟨rfl, (ST.subR (R' := []) (hS4.sel [] rfl rfl) (fun _ h => by cases h))⟩

theorem c_laws_markTermS (a : List TTerm) (k_ : Int) (B : Option Addr) (c n : Nat) (w0 : World) (hn : a.length = n) (hS : ST w0 (bl [⟨B, 136, (a.flatMap enc_Term), c * 2⟩]) w0 [⟨B, 136, (a.flatMap enc_Term), c * 2⟩] []) {r_ : Int} {m : List TTerm} (hF : F_laws_markTermS a k_ = some (r_, m)) :
    CV Try.prog 60 #[.slice B n c, .int .i64 k_] w0 (fun v w' => v = .int .i64 r_ ∧ m.length = n ∧ ST w0 (bl [⟨B, 136, (a.flatMap enc_Term), c * 2⟩]) w' [⟨B, 136, (m.flatMap enc_Term), c * 2⟩] []) := by
  subst hn
  unfold F_laws_markTermS at hF
  refine cv_of_cw 27 Try.func60 rfl Try.ntmps60 rfl ?_
  refine cw_seq ?_
  refine cw_region ?_
  refine sq 4 rfl rfl (Y_assign (v := .int .i64 0) rfl rfl) ?_
  refine rw_nil ?_
  refine cw_seq ?_
  refine cw_seq ?_
  refine cw_region ?_
  refine sq 5 rfl rfl (Y_assign (v := .int .i64 0) rfl rfl) ?_
  refine rw_nil ?_
  obtain ⟨hN, hF⟩ := chk_inv hF
  obtain ⟨z, hz, hF1⟩ := bind_inv hF
  refine cw_block ?_
  refine cw_loop (fun k f w => ∃ (i1 : Nat) (m1 : List TTerm) (k_1 : Int), FF f [(0, .slice B a.length c), (1, .int .i64 k_1), (5, .int .i64 (i1 : Int))] ∧ m1.length = a.length ∧ ST w0 (bl [⟨B, 136, (a.flatMap enc_Term), c * 2⟩]) w [⟨B, 136, (m1.flatMap enc_Term), c * 2⟩] [] ∧ i1 + k = a.length ∧ forN F_laws_markTermS_l1 k i1 (m1, k_1) = some z) a.length ⟨0, a, k_, (FF.cons rfl (FF.cons rfl (FF.cons rfl FF.nil))), rfl, (hS.sel [0] rfl rfl), Nat.zero_add _, hz⟩ ?_
  rintro k_2 f w ⟨i1, m1, k_1, hf, hl, hS1, hik, hL⟩
  refine cw_seq ?_
  refine cw_seq ?_
  refine cw_region ?_
  refine sq 6 rfl rfl (Y_move (v := .int .i64 (i1 : Int)) rfl (hf.get 5 2 rfl)) ?_
  refine sq 7 rfl rfl (Y_move (v := .slice B a.length c) rfl (hf.get 0 0 rfl)) ?_
  refine sq 8 rfl rfl (Y_len (B := B) (m := a.length) (c := c) k_sl_54_136 rfl rfl) ?_
  refine sq 9 rfl rfl (Y_lt (k := .i64) (a := (i1 : Int)) (b := (a.length : Int)) rfl rfl rfl) ?_
  refine rw_nil ?_
  refine cw_cond (b := (decide ((i1 : Int) < (a.length : Int)))) rfl (fun hlt => ?_) (fun hlt => ?_)
  · skip
    have hlt1 : i1 < a.length := by have h := of_decide_eq_true hlt; omega
    obtain ⟨k_3, rfl⟩ : ∃ k2, k_2 = k2 + 1 := ⟨k_2 - 1, by omega⟩
    obtain ⟨y, hb, hL1⟩ := forN_go hL
    unfold F_laws_markTermS_l1 at hb
    refine cw_skip ?_
    refine cw_seq ?_
    refine cw_block ?_
    refine cw_seq ?_
    refine cw_region ?_
    refine sq 12 rfl rfl (Y_move (v := .slice B a.length c) rfl (hf.get 0 0 rfl)) ?_
    refine sq 13 rfl rfl (Y_move (v := .int .i64 (i1 : Int)) rfl (hf.get 5 2 rfl)) ?_
    refine sq 14 rfl rfl (Y_move (v := .int .i64 k_1) rfl (hf.get 1 1 rfl)) ?_
    obtain ⟨x, hx, hb⟩ := bind_inv hb
    refine sq 15 rfl rfl (Y_index (B := B) (m := a.length) (c := c) (k := .i64) (i := (i1 : Int)) k_sl_54_136 k_sz_136_2 rfl rfl rfl (gi_isSome enc_Term_len rfl (hS1.cf (i := 0) rfl) hx) (getI_nn hx) (getI_ltI hx hl)) ?_
    refine sq 16 rfl rfl (Y_fieldAddr (B := B) (i := (i1 : Int).toNat * 2) (s := 0) k_fd_136_0_0_3 k_sz_3_1 rfl rfl) ?_
    refine ss0 rfl rfl (Ys_store (i := 0) (s := 1) (B := B) (T' := 136) (v := .int .i64 k_1) (vs := [.int .i64 k_1]) (k := (i1 : Int).toNat * 2 + 0) (cs' := ((m1.set (i1 : Int).toNat (TTerm.mk k_1 x.Coef)).flatMap enc_Term)) hS1 k_sz_3_1 rfl rfl rfl rfl rfl rfl rfl (gi_fit enc_Term_len hx (j := 0) (k := 1) (by decide)) (gi_setf enc_Term_len hx (TTerm.mk k_1 x.Coef) rfl (Nat.le_of_ble_eq_true rfl)) rfl) ?_
    rintro _ w_ ⟨rfl, hS2⟩
    refine rw_nil ?_
    refine cw_seq ?_
    refine cw_region ?_
    refine sq 17 rfl rfl (Y_move (v := .int .i64 k_1) rfl (hf.get 1 1 rfl)) ?_
    refine sq 18 rfl rfl (Y_add (k := .i64) (a := k_1) (b := 1) rfl rfl rfl) ?_
    refine sq 1 rfl rfl (Y_assign (v := .int .i64 (IntKind.i64.wrap (k_1 + 1))) rfl rfl) ?_
    refine rw_nil ?_
    refine cw_seq ?_
    refine cw_region ?_
    refine sq 19 rfl rfl (Y_move (v := .slice B a.length c) rfl (hf.get 0 0 rfl)) ?_
    refine sq 20 rfl rfl (Y_move (v := .int .i64 (i1 : Int)) rfl (hf.get 5 2 rfl)) ?_
    refine sq 21 rfl rfl (Y_move (v := .int .i64 (IntKind.i64.wrap (k_1 + 1))) rfl rfl) ?_
    refine sq 22 rfl rfl (Y_index (B := B) (m := a.length) (c := c) (k := .i64) (i := (i1 : Int)) k_sl_54_136 k_sz_136_2 rfl rfl rfl (gi_isSome enc_Term_len rfl (hS2.cf (i := 0) rfl) (getI_set (y := (TTerm.mk k_1 x.Coef)) hx)) (getI_nn (getI_set (y := (TTerm.mk k_1 x.Coef)) hx)) (getI_ltI (getI_set (y := (TTerm.mk k_1 x.Coef)) hx) (set_len _ _ _ hl))) ?_
    refine sq 23 rfl rfl (Y_fieldAddr (B := B) (i := (i1 : Int).toNat * 2) (s := 0) k_fd_136_1_1_3 k_sz_3_1 rfl rfl) ?_
    refine ss0 rfl rfl (Ys_store (i := 0) (s := 1) (B := B) (T' := 136) (v := .int .i64 (IntKind.i64.wrap (k_1 + 1))) (vs := [.int .i64 (IntKind.i64.wrap (k_1 + 1))]) (k := (i1 : Int).toNat * 2 + 1) (cs' := (((m1.set (i1 : Int).toNat (TTerm.mk k_1 x.Coef)).set (i1 : Int).toNat (TTerm.mk k_1 (IntKind.i64.wrap (k_1 + 1)))).flatMap enc_Term)) hS2 k_sz_3_1 rfl rfl rfl rfl rfl rfl rfl (gi_fit enc_Term_len (getI_set (y := (TTerm.mk k_1 x.Coef)) hx) (j := 1) (k := 1) (by decide)) (gi_setf enc_Term_len (getI_set (y := (TTerm.mk k_1 x.Coef)) hx) (TTerm.mk k_1 (IntKind.i64.wrap (k_1 + 1))) rfl (Nat.le_of_ble_eq_true rfl)) rfl) ?_
    rintro _ w_1 ⟨rfl, hS3⟩
    refine rw_nil ?_
    refine cw_region ?_
    refine sq 24 rfl rfl (Y_move (v := .int .i64 (IntKind.i64.wrap (k_1 + 1))) rfl rfl) ?_
    refine sq 25 rfl rfl (Y_add (k := .i64) (a := (IntKind.i64.wrap (k_1 + 1))) (b := 1) rfl rfl rfl) ?_
    refine sq 1 rfl rfl (Y_assign (v := .int .i64 (IntKind.i64.wrap ((IntKind.i64.wrap (k_1 + 1)) + 1))) rfl rfl) ?_
    refine rw_nil ?_
    refine cw_region ?_
    refine sq 10 rfl rfl (Y_move (v := .int .i64 (i1 : Int)) rfl (hf.get 5 2 rfl)) ?_
    refine sq 11 rfl rfl (Y_add (k := .i64) (a := (i1 : Int)) (b := 1) rfl rfl rfl) ?_
    refine sq 5 rfl rfl (Y_assign (v := .int .i64 (IntKind.i64.wrap ((i1 : Int) + 1))) rfl rfl) ?_
    refine rw_nil ?_
    obtain rfl := some_inj hb
    exact ⟨k_3, Nat.lt_succ_self _, i1 + 1, ((m1.set (i1 : Int).toNat (TTerm.mk k_1 x.Coef)).set (i1 : Int).toNat (TTerm.mk k_1 (IntKind.i64.wrap (k_1 + 1)))), (IntKind.i64.wrap ((IntKind.i64.wrap (k_1 + 1)) + 1)), (FF.cons (hf.get 0 0 rfl) (FF.cons rfl (FF.cons (congrArg (Value.int .i64) (wr_succ hlt1 hN)) FF.nil))), (set_len _ _ _ (set_len _ _ _ hl)), (hS3.sel [0] rfl rfl), (by omega), hL1⟩
  · skip
    obtain rfl : k_2 = 0 := by have h := of_decide_eq_false hlt; omega
    refine cw_exit rfl ?_
    obtain rfl := some_inj hL
    refine cw_seq ?_
    refine cw_region ?_
    refine sq 26 rfl rfl (Y_move (v := .int .i64 k_1) rfl (hf.get 1 1 rfl)) ?_
    refine sq 4 rfl rfl (Y_assign (v := .int .i64 k_1) rfl rfl) ?_
    refine rw_nil ?_
    refine cw_ret ?_
    obtain ⟨rfl, rfl⟩ := pr2 (some_inj hF1)
    exact ret1 Try.results60 (v1 := .int .i64 k_1) (resAt_tmp rfl) ⟨rfl, hl, (ST.subR (R' := []) (hS1.sel [0] rfl rfl) (fun _ h => by cases h))⟩

theorem c_laws_markAffineS (a : List TAffine) (k_ : Int) (B : Option Addr) (c n : Nat) (w0 : World) (hn : a.length = n) (hS : ST w0 (bl [⟨B, 61, (a.flatMap enc_Affine), c * 2⟩]) w0 [⟨B, 61, (a.flatMap enc_Affine), c * 2⟩] []) {r_ : Int} {m : List TAffine} (hF : F_laws_markAffineS a k_ = some (r_, m)) :
    CV Try.prog 61 #[.slice B n c, .int .i64 k_] w0 (fun v w' => v = .int .i64 r_ ∧ m.length = n ∧ ST w0 (bl [⟨B, 61, (a.flatMap enc_Affine), c * 2⟩]) w' [⟨B, 61, (m.flatMap enc_Affine), c * 2⟩] []) := by
  subst hn
  unfold F_laws_markAffineS at hF
  refine cv_of_cw 27 Try.func61 rfl Try.ntmps61 rfl ?_
  refine cw_seq ?_
  refine cw_region ?_
  refine sq 4 rfl rfl (Y_assign (v := .int .i64 0) rfl rfl) ?_
  refine rw_nil ?_
  refine cw_seq ?_
  refine cw_seq ?_
  refine cw_region ?_
  refine sq 5 rfl rfl (Y_assign (v := .int .i64 0) rfl rfl) ?_
  refine rw_nil ?_
  obtain ⟨hN, hF⟩ := chk_inv hF
  obtain ⟨z, hz, hF1⟩ := bind_inv hF
  refine cw_block ?_
  refine cw_loop (fun k f w => ∃ (i1 : Nat) (m1 : List TAffine) (k_1 : Int), FF f [(0, .slice B a.length c), (1, .int .i64 k_1), (5, .int .i64 (i1 : Int))] ∧ m1.length = a.length ∧ ST w0 (bl [⟨B, 61, (a.flatMap enc_Affine), c * 2⟩]) w [⟨B, 61, (m1.flatMap enc_Affine), c * 2⟩] [] ∧ i1 + k = a.length ∧ forN F_laws_markAffineS_l1 k i1 (m1, k_1) = some z) a.length ⟨0, a, k_, (FF.cons rfl (FF.cons rfl (FF.cons rfl FF.nil))), rfl, (hS.sel [0] rfl rfl), Nat.zero_add _, hz⟩ ?_
  rintro k_2 f w ⟨i1, m1, k_1, hf, hl, hS1, hik, hL⟩
  refine cw_seq ?_
  refine cw_seq ?_
  refine cw_region ?_
  refine sq 6 rfl rfl (Y_move (v := .int .i64 (i1 : Int)) rfl (hf.get 5 2 rfl)) ?_
  refine sq 7 rfl rfl (Y_move (v := .slice B a.length c) rfl (hf.get 0 0 rfl)) ?_
  refine sq 8 rfl rfl (Y_len (B := B) (m := a.length) (c := c) k_sl_55_61 rfl rfl) ?_
  refine sq 9 rfl rfl (Y_lt (k := .i64) (a := (i1 : Int)) (b := (a.length : Int)) rfl rfl rfl) ?_
  refine rw_nil ?_
  refine cw_cond (b := (decide ((i1 : Int) < (a.length : Int)))) rfl (fun hlt => ?_) (fun hlt => ?_)
  · skip
    have hlt1 : i1 < a.length := by have h := of_decide_eq_true hlt; omega
    obtain ⟨k_3, rfl⟩ : ∃ k2, k_2 = k2 + 1 := ⟨k_2 - 1, by omega⟩
    obtain ⟨y, hb, hL1⟩ := forN_go hL
    unfold F_laws_markAffineS_l1 at hb
    refine cw_skip ?_
    refine cw_seq ?_
    refine cw_block ?_
    refine cw_seq ?_
    refine cw_region ?_
    refine sq 12 rfl rfl (Y_move (v := .slice B a.length c) rfl (hf.get 0 0 rfl)) ?_
    refine sq 13 rfl rfl (Y_move (v := .int .i64 (i1 : Int)) rfl (hf.get 5 2 rfl)) ?_
    refine sq 14 rfl rfl (Y_move (v := .int .i64 k_1) rfl (hf.get 1 1 rfl)) ?_
    obtain ⟨x, hx, hb⟩ := bind_inv hb
    refine sq 15 rfl rfl (Y_index (B := B) (m := a.length) (c := c) (k := .i64) (i := (i1 : Int)) k_sl_55_61 k_sz_61_2 rfl rfl rfl (gi_isSome enc_Affine_len rfl (hS1.cf (i := 0) rfl) hx) (getI_nn hx) (getI_ltI hx hl)) ?_
    refine sq 16 rfl rfl (Y_fieldAddr (B := B) (i := (i1 : Int).toNat * 2) (s := 0) k_fd_61_0_0_3 k_sz_3_1 rfl rfl) ?_
    refine ss0 rfl rfl (Ys_store (i := 0) (s := 1) (B := B) (T' := 61) (v := .int .i64 k_1) (vs := [.int .i64 k_1]) (k := (i1 : Int).toNat * 2 + 0) (cs' := ((m1.set (i1 : Int).toNat (TAffine.mk k_1 x.Turn)).flatMap enc_Affine)) hS1 k_sz_3_1 rfl rfl rfl rfl rfl rfl rfl (gi_fit enc_Affine_len hx (j := 0) (k := 1) (by decide)) (gi_setf enc_Affine_len hx (TAffine.mk k_1 x.Turn) rfl (Nat.le_of_ble_eq_true rfl)) rfl) ?_
    rintro _ w_ ⟨rfl, hS2⟩
    refine rw_nil ?_
    refine cw_seq ?_
    refine cw_region ?_
    refine sq 17 rfl rfl (Y_move (v := .int .i64 k_1) rfl (hf.get 1 1 rfl)) ?_
    refine sq 18 rfl rfl (Y_add (k := .i64) (a := k_1) (b := 1) rfl rfl rfl) ?_
    refine sq 1 rfl rfl (Y_assign (v := .int .i64 (IntKind.i64.wrap (k_1 + 1))) rfl rfl) ?_
    refine rw_nil ?_
    refine cw_seq ?_
    refine cw_region ?_
    refine sq 19 rfl rfl (Y_move (v := .slice B a.length c) rfl (hf.get 0 0 rfl)) ?_
    refine sq 20 rfl rfl (Y_move (v := .int .i64 (i1 : Int)) rfl (hf.get 5 2 rfl)) ?_
    refine sq 21 rfl rfl (Y_move (v := .int .i64 (IntKind.i64.wrap (k_1 + 1))) rfl rfl) ?_
    refine sq 22 rfl rfl (Y_index (B := B) (m := a.length) (c := c) (k := .i64) (i := (i1 : Int)) k_sl_55_61 k_sz_61_2 rfl rfl rfl (gi_isSome enc_Affine_len rfl (hS2.cf (i := 0) rfl) (getI_set (y := (TAffine.mk k_1 x.Turn)) hx)) (getI_nn (getI_set (y := (TAffine.mk k_1 x.Turn)) hx)) (getI_ltI (getI_set (y := (TAffine.mk k_1 x.Turn)) hx) (set_len _ _ _ hl))) ?_
    refine sq 23 rfl rfl (Y_fieldAddr (B := B) (i := (i1 : Int).toNat * 2) (s := 0) k_fd_61_1_1_3 k_sz_3_1 rfl rfl) ?_
    refine ss0 rfl rfl (Ys_store (i := 0) (s := 1) (B := B) (T' := 61) (v := .int .i64 (IntKind.i64.wrap (k_1 + 1))) (vs := [.int .i64 (IntKind.i64.wrap (k_1 + 1))]) (k := (i1 : Int).toNat * 2 + 1) (cs' := (((m1.set (i1 : Int).toNat (TAffine.mk k_1 x.Turn)).set (i1 : Int).toNat (TAffine.mk k_1 (IntKind.i64.wrap (k_1 + 1)))).flatMap enc_Affine)) hS2 k_sz_3_1 rfl rfl rfl rfl rfl rfl rfl (gi_fit enc_Affine_len (getI_set (y := (TAffine.mk k_1 x.Turn)) hx) (j := 1) (k := 1) (by decide)) (gi_setf enc_Affine_len (getI_set (y := (TAffine.mk k_1 x.Turn)) hx) (TAffine.mk k_1 (IntKind.i64.wrap (k_1 + 1))) rfl (Nat.le_of_ble_eq_true rfl)) rfl) ?_
    rintro _ w_1 ⟨rfl, hS3⟩
    refine rw_nil ?_
    refine cw_region ?_
    refine sq 24 rfl rfl (Y_move (v := .int .i64 (IntKind.i64.wrap (k_1 + 1))) rfl rfl) ?_
    refine sq 25 rfl rfl (Y_add (k := .i64) (a := (IntKind.i64.wrap (k_1 + 1))) (b := 1) rfl rfl rfl) ?_
    refine sq 1 rfl rfl (Y_assign (v := .int .i64 (IntKind.i64.wrap ((IntKind.i64.wrap (k_1 + 1)) + 1))) rfl rfl) ?_
    refine rw_nil ?_
    refine cw_region ?_
    refine sq 10 rfl rfl (Y_move (v := .int .i64 (i1 : Int)) rfl (hf.get 5 2 rfl)) ?_
    refine sq 11 rfl rfl (Y_add (k := .i64) (a := (i1 : Int)) (b := 1) rfl rfl rfl) ?_
    refine sq 5 rfl rfl (Y_assign (v := .int .i64 (IntKind.i64.wrap ((i1 : Int) + 1))) rfl rfl) ?_
    refine rw_nil ?_
    obtain rfl := some_inj hb
    exact ⟨k_3, Nat.lt_succ_self _, i1 + 1, ((m1.set (i1 : Int).toNat (TAffine.mk k_1 x.Turn)).set (i1 : Int).toNat (TAffine.mk k_1 (IntKind.i64.wrap (k_1 + 1)))), (IntKind.i64.wrap ((IntKind.i64.wrap (k_1 + 1)) + 1)), (FF.cons (hf.get 0 0 rfl) (FF.cons rfl (FF.cons (congrArg (Value.int .i64) (wr_succ hlt1 hN)) FF.nil))), (set_len _ _ _ (set_len _ _ _ hl)), (hS3.sel [0] rfl rfl), (by omega), hL1⟩
  · skip
    obtain rfl : k_2 = 0 := by have h := of_decide_eq_false hlt; omega
    refine cw_exit rfl ?_
    obtain rfl := some_inj hL
    refine cw_seq ?_
    refine cw_region ?_
    refine sq 26 rfl rfl (Y_move (v := .int .i64 k_1) rfl (hf.get 1 1 rfl)) ?_
    refine sq 4 rfl rfl (Y_assign (v := .int .i64 k_1) rfl rfl) ?_
    refine rw_nil ?_
    refine cw_ret ?_
    obtain ⟨rfl, rfl⟩ := pr2 (some_inj hF1)
    exact ret1 Try.results61 (v1 := .int .i64 k_1) (resAt_tmp rfl) ⟨rfl, hl, (ST.subR (R' := []) (hS1.sel [0] rfl rfl) (fun _ h => by cases h))⟩

theorem c_laws_markPathSum (a : TPathSum) (k_ : Int) (B : Option Addr) (c n : Nat) (B1 : Option Addr) (c1 n1 : Nat) (w0 : World) (hn : a.Terms.length = n) (hn1 : a.Out.length = n1) (hS : ST w0 (bl [⟨B, 136, (a.Terms.flatMap enc_Term), c * 2⟩, ⟨B1, 61, (a.Out.flatMap enc_Affine), c1 * 2⟩]) w0 [⟨B, 136, (a.Terms.flatMap enc_Term), c * 2⟩, ⟨B1, 61, (a.Out.flatMap enc_Affine), c1 * 2⟩] []) {r_ : Int} {m : List TTerm} {m1 : List TAffine} (hF : F_laws_markPathSum a k_ = some (r_, m, m1)) :
    CV Try.prog 26 #[.agg #[.int .i64 a.Ins, .int .i64 a.Vars, .int .i64 a.Root, .int .i64 a.Phase, .slice B n c, .slice B1 n1 c1], .int .i64 k_] w0 (fun v w' => v = .int .i64 r_ ∧ m.length = n ∧ m1.length = n1 ∧ ST w0 (bl [⟨B, 136, (a.Terms.flatMap enc_Term), c * 2⟩, ⟨B1, 61, (a.Out.flatMap enc_Affine), c1 * 2⟩]) w' [⟨B, 136, (m.flatMap enc_Term), c * 2⟩, ⟨B1, 61, (m1.flatMap enc_Affine), c1 * 2⟩] []) := by
  subst hn
  subst hn1
  unfold F_laws_markPathSum at hF
  refine cv_of_cw 14 Try.func26 rfl Try.ntmps26 rfl ?_
  refine cw_seq ?_
  refine cw_region ?_
  refine ss 2 rfl rfl (Ys_box (T := 57) (v := .agg #[.int .i64 a.Ins, .int .i64 a.Vars, .int .i64 a.Root, .int .i64 a.Phase, .slice B a.Terms.length c, .slice B1 a.Out.length c1]) (cs := [.int .i64 a.Ins, .int .i64 a.Vars, .int .i64 a.Root, .int .i64 a.Phase, .slice B a.Terms.length c, .slice B1 a.Out.length c1]) (m := 6) hS rfl rfl rfl rfl) ?_
  rintro _ w_ ⟨b, rfl, hS1⟩
  have hS1 : ST w0 (bl [⟨B, 136, (a.Terms.flatMap enc_Term), c * 2⟩, ⟨B1, 61, (a.Out.flatMap enc_Affine), c1 * 2⟩]) _ [⟨B, 136, (a.Terms.flatMap enc_Term), c * 2⟩, ⟨B1, 61, (a.Out.flatMap enc_Affine), c1 * 2⟩, ⟨some ⟨b, 0, none⟩, 57, [.int .i64 a.Ins, .int .i64 a.Vars, .int .i64 a.Root, .int .i64 a.Phase, .slice B a.Terms.length c, .slice B1 a.Out.length c1], 6⟩] [] := hS1
  refine sq 4 rfl rfl (Y_assign (v := .int .i64 0) rfl rfl) ?_
  refine rw_nil ?_
  refine cw_seq ?_
  refine cw_region ?_
  refine sq 5 rfl rfl (Y_fieldAddr (B := some ⟨b, 0, none⟩) (i := 0) (s := 0) k_fd_57_4_4_54 k_sz_54_1 rfl rfl) ?_
  refine sq 6 rfl rfl (Y_load1 (B := some ⟨b, 0, none⟩) (i := 4) (cs := [.int .i64 a.Ins, .int .i64 a.Vars, .int .i64 a.Root, .int .i64 a.Phase, .slice B a.Terms.length c, .slice B1 a.Out.length c1]) (v := .slice B a.Terms.length c) k_sc_54 rfl rfl (hS1.cf (i := 2) rfl) rfl) ?_
  refine sq 7 rfl rfl (Y_move (v := .int .i64 k_) rfl rfl) ?_
  obtain ⟨⟨r_1, m2⟩, hc, hF⟩ := bind_inv hF
  refine sc 8 rfl rfl (Yc_func (g := 60) (vs := [.slice B a.Terms.length c, .int .i64 k_]) k_call_60 rfl (mc rfl (mc rfl mn)) (c_laws_markTermS a.Terms k_ B c a.Terms.length _ rfl (hS1.inn [true, false, false] rfl [] rfl) hc)) ?_
  rintro _ w_1 ⟨rfl, hl, hd⟩
  have hS2 := hS1.out [true, false, false] rfl hd
  have hS2 : ST w0 (bl [⟨B, 136, (a.Terms.flatMap enc_Term), c * 2⟩, ⟨B1, 61, (a.Out.flatMap enc_Affine), c1 * 2⟩]) _ [⟨B1, 61, (a.Out.flatMap enc_Affine), c1 * 2⟩, ⟨some ⟨b, 0, none⟩, 57, [.int .i64 a.Ins, .int .i64 a.Vars, .int .i64 a.Root, .int .i64 a.Phase, .slice B a.Terms.length c, .slice B1 a.Out.length c1], 6⟩, ⟨B, 136, (m2.flatMap enc_Term), c * 2⟩] [] := hS2
  refine sq 1 rfl rfl (Y_assign (v := .int .i64 r_1) rfl rfl) ?_
  refine rw_nil ?_
  refine cw_seq ?_
  refine cw_region ?_
  refine sq 9 rfl rfl (Y_fieldAddr (B := some ⟨b, 0, none⟩) (i := 0) (s := 0) k_fd_57_5_5_55 k_sz_55_1 rfl rfl) ?_
  refine sq 10 rfl rfl (Y_load1 (B := some ⟨b, 0, none⟩) (i := 5) (cs := [.int .i64 a.Ins, .int .i64 a.Vars, .int .i64 a.Root, .int .i64 a.Phase, .slice B a.Terms.length c, .slice B1 a.Out.length c1]) (v := .slice B1 a.Out.length c1) k_sc_55 rfl rfl (hS2.cf (i := 1) rfl) rfl) ?_
  refine sq 11 rfl rfl (Y_move (v := .int .i64 r_1) rfl rfl) ?_
  obtain ⟨⟨r_2, m3⟩, hc1, hF⟩ := bind_inv hF
  refine sc 12 rfl rfl (Yc_func (g := 61) (vs := [.slice B1 a.Out.length c1, .int .i64 r_1]) k_call_61 rfl (mc rfl (mc rfl mn)) (c_laws_markAffineS a.Out r_1 B1 c1 a.Out.length _ rfl (hS2.inn [true, false, false] rfl [] rfl) hc1)) ?_
  rintro _ w_2 ⟨rfl, hl1, hd1⟩
  have hS3 := hS2.out [true, false, false] rfl hd1
  have hS3 : ST w0 (bl [⟨B, 136, (a.Terms.flatMap enc_Term), c * 2⟩, ⟨B1, 61, (a.Out.flatMap enc_Affine), c1 * 2⟩]) _ [⟨some ⟨b, 0, none⟩, 57, [.int .i64 a.Ins, .int .i64 a.Vars, .int .i64 a.Root, .int .i64 a.Phase, .slice B a.Terms.length c, .slice B1 a.Out.length c1], 6⟩, ⟨B, 136, (m2.flatMap enc_Term), c * 2⟩, ⟨B1, 61, (m3.flatMap enc_Affine), c1 * 2⟩] [] := hS3
  refine sq 1 rfl rfl (Y_assign (v := .int .i64 r_2) rfl rfl) ?_
  refine rw_nil ?_
  refine cw_seq ?_
  refine cw_region ?_
  refine sq 13 rfl rfl (Y_move (v := .int .i64 r_2) rfl rfl) ?_
  refine sq 4 rfl rfl (Y_assign (v := .int .i64 r_2) rfl rfl) ?_
  refine rw_nil ?_
  refine cw_ret ?_
  obtain ⟨rfl, rfl, rfl⟩ := pr3 (some_inj hF)
  exact ret1 Try.results26 (v1 := .int .i64 r_2) (resAt_tmp rfl) ⟨rfl, hl, hl1, (ST.subR (R' := []) (hS3.sel [1, 2] rfl rfl) (fun _ h => by cases h))⟩

theorem c_laws_heldTermS (a : List TTerm) (k_ : Int) (B : Option Addr) (c n : Nat) (w0 : World) (hn : a.length = n) (hS : ST w0 [] w0 [] [⟨B, (a.flatMap enc_Term)⟩]) {r_ : Int} (hF : F_laws_heldTermS a k_ = some r_) :
    CV Try.prog 62 #[.slice B n c, .int .i64 k_] w0 (fun v w' => v = .int .i64 r_ ∧ ST w0 [] w' [] []) := by
  subst hn
  unfold F_laws_heldTermS at hF
  refine cv_of_cw 31 Try.func62 rfl Try.ntmps62 rfl ?_
  refine cw_seq ?_
  refine cw_region ?_
  refine sq 4 rfl rfl (Y_assign (v := .int .i64 0) rfl rfl) ?_
  refine rw_nil ?_
  refine cw_seq ?_
  refine cw_seq ?_
  refine cw_region ?_
  refine sq 5 rfl rfl (Y_assign (v := .int .i64 0) rfl rfl) ?_
  refine rw_nil ?_
  obtain ⟨hN, hF⟩ := chk_inv hF
  obtain ⟨z, hz, hF1⟩ := bind_inv hF
  refine cw_block ?_
  refine cw_loop (fun k f w => ∃ (i1 : Nat) (k_1 : Int), FF f [(0, .slice B a.length c), (1, .int .i64 k_1), (5, .int .i64 (i1 : Int))] ∧ ST w0 [] w [] [⟨B, (a.flatMap enc_Term)⟩] ∧ i1 + k = a.length ∧ forX (F_laws_heldTermS_l1 a) k i1 k_1 = some z) a.length ⟨0, k_, (FF.cons rfl (FF.cons rfl (FF.cons rfl FF.nil))), (hS.sel [] rfl rfl), Nat.zero_add _, hz⟩ ?_
  rintro k_2 f w ⟨i1, k_1, hf, hS1, hik, hL⟩
  refine cw_seq ?_
  refine cw_seq ?_
  refine cw_region ?_
  refine sq 6 rfl rfl (Y_move (v := .int .i64 (i1 : Int)) rfl (hf.get 5 2 rfl)) ?_
  refine sq 7 rfl rfl (Y_move (v := .slice B a.length c) rfl (hf.get 0 0 rfl)) ?_
  refine sq 8 rfl rfl (Y_len (B := B) (m := a.length) (c := c) k_sl_54_136 rfl rfl) ?_
  refine sq 9 rfl rfl (Y_lt (k := .i64) (a := (i1 : Int)) (b := (a.length : Int)) rfl rfl rfl) ?_
  refine rw_nil ?_
  refine cw_cond (b := (decide ((i1 : Int) < (a.length : Int)))) rfl (fun hlt => ?_) (fun hlt => ?_)
  · skip
    have hlt1 : i1 < a.length := by have h := of_decide_eq_true hlt; omega
    obtain ⟨k_3, rfl⟩ : ∃ k2, k_2 = k2 + 1 := ⟨k_2 - 1, by omega⟩
    obtain ⟨y, hb, hL1⟩ := forX_go hL
    unfold F_laws_heldTermS_l1 at hb
    refine cw_skip ?_
    refine cw_seq ?_
    refine cw_block ?_
    refine cw_seq ?_
    refine cw_seq ?_
    refine cw_region ?_
    refine sq 12 rfl rfl (Y_move (v := .slice B a.length c) rfl (hf.get 0 0 rfl)) ?_
    refine sq 13 rfl rfl (Y_move (v := .int .i64 (i1 : Int)) rfl (hf.get 5 2 rfl)) ?_
    obtain ⟨x, hx, hb⟩ := bind_inv hb
    refine sq 14 rfl rfl (Y_index (B := B) (m := a.length) (c := c) (k := .i64) (i := (i1 : Int)) k_sl_54_136 k_sz_136_2 rfl rfl rfl (gi_isSome enc_Term_len rfl (hS1.rf (i := 0) rfl) hx) (getI_nn hx) (getI_ltI hx rfl)) ?_
    refine sq 15 rfl rfl (Y_fieldAddr (B := B) (i := (i1 : Int).toNat * 2) (s := 0) k_fd_136_0_0_3 k_sz_3_1 rfl rfl) ?_
    refine sq 16 rfl rfl (Y_load1 (B := B) (i := (i1 : Int).toNat * 2 + 0) (cs := (a.flatMap enc_Term)) (v := .int .i64 x.Mask) k_sc_3 rfl rfl (hS1.rf (i := 0) rfl) (gi_at enc_Term_len hx rfl)) ?_
    refine sq 17 rfl rfl (Y_move (v := .int .i64 k_1) rfl (hf.get 1 1 rfl)) ?_
    refine sq 18 rfl rfl (Y_ne (k := .i64) (a := x.Mask) (b := k_1) rfl rfl rfl) ?_
    refine rw_nil ?_
    refine cw_cond (b := (x.Mask != k_1)) rfl (fun hb1 => ?_) (fun hb1 => ?_)
    · skip
      have hF2 := ct hb hb1
      refine cw_seq ?_
      refine cw_region ?_
      refine sq 4 rfl rfl (Y_assign (v := .int .i64 (-1)) rfl rfl) ?_
      refine rw_nil ?_
      refine cw_ret ?_
      obtain rfl := some_inj hF2
      obtain rfl := some_inj hL1
      obtain rfl := some_inj hF1
      exact ret1 Try.results62 (v1 := .int .i64 (-1)) (resAt_tmp rfl) ⟨rfl, (ST.subR (R' := []) (hS1.sel [] rfl rfl) (fun _ h => by cases h))⟩
    · skip
      have hF3 := cf' hb hb1
      refine cw_skip ?_
      refine cw_seq ?_
      refine cw_region ?_
      refine sq 19 rfl rfl (Y_move (v := .int .i64 k_1) rfl (hf.get 1 1 rfl)) ?_
      refine sq 20 rfl rfl (Y_add (k := .i64) (a := k_1) (b := 1) rfl rfl rfl) ?_
      refine sq 1 rfl rfl (Y_assign (v := .int .i64 (IntKind.i64.wrap (k_1 + 1))) rfl rfl) ?_
      refine rw_nil ?_
      refine cw_seq ?_
      refine cw_seq ?_
      refine cw_region ?_
      refine sq 21 rfl rfl (Y_move (v := .slice B a.length c) rfl (hf.get 0 0 rfl)) ?_
      refine sq 22 rfl rfl (Y_move (v := .int .i64 (i1 : Int)) rfl (hf.get 5 2 rfl)) ?_
      refine sq 23 rfl rfl (Y_index (B := B) (m := a.length) (c := c) (k := .i64) (i := (i1 : Int)) k_sl_54_136 k_sz_136_2 rfl rfl rfl (gi_isSome enc_Term_len rfl (hS1.rf (i := 0) rfl) hx) (getI_nn hx) (getI_ltI hx rfl)) ?_
      refine sq 24 rfl rfl (Y_fieldAddr (B := B) (i := (i1 : Int).toNat * 2) (s := 0) k_fd_136_1_1_3 k_sz_3_1 rfl rfl) ?_
      refine sq 25 rfl rfl (Y_load1 (B := B) (i := (i1 : Int).toNat * 2 + 1) (cs := (a.flatMap enc_Term)) (v := .int .i64 x.Coef) k_sc_3 rfl rfl (hS1.rf (i := 0) rfl) (gi_at enc_Term_len hx rfl)) ?_
      refine sq 26 rfl rfl (Y_move (v := .int .i64 (IntKind.i64.wrap (k_1 + 1))) rfl rfl) ?_
      refine sq 27 rfl rfl (Y_ne (k := .i64) (a := x.Coef) (b := (IntKind.i64.wrap (k_1 + 1))) rfl rfl rfl) ?_
      refine rw_nil ?_
      refine cw_cond (b := (x.Coef != (IntKind.i64.wrap (k_1 + 1)))) rfl (fun hb2 => ?_) (fun hb2 => ?_)
      · skip
        have hF4 := ct hF3 hb2
        refine cw_seq ?_
        refine cw_region ?_
        refine sq 4 rfl rfl (Y_assign (v := .int .i64 (-1)) rfl rfl) ?_
        refine rw_nil ?_
        refine cw_ret ?_
        obtain rfl := some_inj hF4
        obtain rfl := some_inj hL1
        obtain rfl := some_inj hF1
        exact ret1 Try.results62 (v1 := .int .i64 (-1)) (resAt_tmp rfl) ⟨rfl, (ST.subR (R' := []) (hS1.sel [] rfl rfl) (fun _ h => by cases h))⟩
      · skip
        have hF5 := cf' hF3 hb2
        refine cw_skip ?_
        refine cw_region ?_
        refine sq 28 rfl rfl (Y_move (v := .int .i64 (IntKind.i64.wrap (k_1 + 1))) rfl rfl) ?_
        refine sq 29 rfl rfl (Y_add (k := .i64) (a := (IntKind.i64.wrap (k_1 + 1))) (b := 1) rfl rfl rfl) ?_
        refine sq 1 rfl rfl (Y_assign (v := .int .i64 (IntKind.i64.wrap ((IntKind.i64.wrap (k_1 + 1)) + 1))) rfl rfl) ?_
        refine rw_nil ?_
        refine cw_region ?_
        refine sq 10 rfl rfl (Y_move (v := .int .i64 (i1 : Int)) rfl (hf.get 5 2 rfl)) ?_
        refine sq 11 rfl rfl (Y_add (k := .i64) (a := (i1 : Int)) (b := 1) rfl rfl rfl) ?_
        refine sq 5 rfl rfl (Y_assign (v := .int .i64 (IntKind.i64.wrap ((i1 : Int) + 1))) rfl rfl) ?_
        refine rw_nil ?_
        obtain rfl := some_inj hF5
        exact ⟨k_3, Nat.lt_succ_self _, i1 + 1, (IntKind.i64.wrap ((IntKind.i64.wrap (k_1 + 1)) + 1)), (FF.cons (hf.get 0 0 rfl) (FF.cons rfl (FF.cons (congrArg (Value.int .i64) (wr_succ hlt1 hN)) FF.nil))), (hS1.sel [] rfl rfl), (by omega), hL1⟩
  · skip
    obtain rfl : k_2 = 0 := by have h := of_decide_eq_false hlt; omega
    refine cw_exit rfl ?_
    obtain rfl := some_inj hL
    refine cw_seq ?_
    refine cw_region ?_
    refine sq 30 rfl rfl (Y_move (v := .int .i64 k_1) rfl (hf.get 1 1 rfl)) ?_
    refine sq 4 rfl rfl (Y_assign (v := .int .i64 k_1) rfl rfl) ?_
    refine rw_nil ?_
    refine cw_ret ?_
    obtain rfl := some_inj hF1
    exact ret1 Try.results62 (v1 := .int .i64 k_1) (resAt_tmp rfl) ⟨rfl, (ST.subR (R' := []) (hS1.sel [] rfl rfl) (fun _ h => by cases h))⟩

theorem c_laws_heldAffineS (a : List TAffine) (k_ : Int) (B : Option Addr) (c n : Nat) (w0 : World) (hn : a.length = n) (hS : ST w0 [] w0 [] [⟨B, (a.flatMap enc_Affine)⟩]) {r_ : Int} (hF : F_laws_heldAffineS a k_ = some r_) :
    CV Try.prog 63 #[.slice B n c, .int .i64 k_] w0 (fun v w' => v = .int .i64 r_ ∧ ST w0 [] w' [] []) := by
  subst hn
  unfold F_laws_heldAffineS at hF
  refine cv_of_cw 31 Try.func63 rfl Try.ntmps63 rfl ?_
  refine cw_seq ?_
  refine cw_region ?_
  refine sq 4 rfl rfl (Y_assign (v := .int .i64 0) rfl rfl) ?_
  refine rw_nil ?_
  refine cw_seq ?_
  refine cw_seq ?_
  refine cw_region ?_
  refine sq 5 rfl rfl (Y_assign (v := .int .i64 0) rfl rfl) ?_
  refine rw_nil ?_
  obtain ⟨hN, hF⟩ := chk_inv hF
  obtain ⟨z, hz, hF1⟩ := bind_inv hF
  refine cw_block ?_
  refine cw_loop (fun k f w => ∃ (i1 : Nat) (k_1 : Int), FF f [(0, .slice B a.length c), (1, .int .i64 k_1), (5, .int .i64 (i1 : Int))] ∧ ST w0 [] w [] [⟨B, (a.flatMap enc_Affine)⟩] ∧ i1 + k = a.length ∧ forX (F_laws_heldAffineS_l1 a) k i1 k_1 = some z) a.length ⟨0, k_, (FF.cons rfl (FF.cons rfl (FF.cons rfl FF.nil))), (hS.sel [] rfl rfl), Nat.zero_add _, hz⟩ ?_
  rintro k_2 f w ⟨i1, k_1, hf, hS1, hik, hL⟩
  refine cw_seq ?_
  refine cw_seq ?_
  refine cw_region ?_
  refine sq 6 rfl rfl (Y_move (v := .int .i64 (i1 : Int)) rfl (hf.get 5 2 rfl)) ?_
  refine sq 7 rfl rfl (Y_move (v := .slice B a.length c) rfl (hf.get 0 0 rfl)) ?_
  refine sq 8 rfl rfl (Y_len (B := B) (m := a.length) (c := c) k_sl_55_61 rfl rfl) ?_
  refine sq 9 rfl rfl (Y_lt (k := .i64) (a := (i1 : Int)) (b := (a.length : Int)) rfl rfl rfl) ?_
  refine rw_nil ?_
  refine cw_cond (b := (decide ((i1 : Int) < (a.length : Int)))) rfl (fun hlt => ?_) (fun hlt => ?_)
  · skip
    have hlt1 : i1 < a.length := by have h := of_decide_eq_true hlt; omega
    obtain ⟨k_3, rfl⟩ : ∃ k2, k_2 = k2 + 1 := ⟨k_2 - 1, by omega⟩
    obtain ⟨y, hb, hL1⟩ := forX_go hL
    unfold F_laws_heldAffineS_l1 at hb
    refine cw_skip ?_
    refine cw_seq ?_
    refine cw_block ?_
    refine cw_seq ?_
    refine cw_seq ?_
    refine cw_region ?_
    refine sq 12 rfl rfl (Y_move (v := .slice B a.length c) rfl (hf.get 0 0 rfl)) ?_
    refine sq 13 rfl rfl (Y_move (v := .int .i64 (i1 : Int)) rfl (hf.get 5 2 rfl)) ?_
    obtain ⟨x, hx, hb⟩ := bind_inv hb
    refine sq 14 rfl rfl (Y_index (B := B) (m := a.length) (c := c) (k := .i64) (i := (i1 : Int)) k_sl_55_61 k_sz_61_2 rfl rfl rfl (gi_isSome enc_Affine_len rfl (hS1.rf (i := 0) rfl) hx) (getI_nn hx) (getI_ltI hx rfl)) ?_
    refine sq 15 rfl rfl (Y_fieldAddr (B := B) (i := (i1 : Int).toNat * 2) (s := 0) k_fd_61_0_0_3 k_sz_3_1 rfl rfl) ?_
    refine sq 16 rfl rfl (Y_load1 (B := B) (i := (i1 : Int).toNat * 2 + 0) (cs := (a.flatMap enc_Affine)) (v := .int .i64 x.Mask) k_sc_3 rfl rfl (hS1.rf (i := 0) rfl) (gi_at enc_Affine_len hx rfl)) ?_
    refine sq 17 rfl rfl (Y_move (v := .int .i64 k_1) rfl (hf.get 1 1 rfl)) ?_
    refine sq 18 rfl rfl (Y_ne (k := .i64) (a := x.Mask) (b := k_1) rfl rfl rfl) ?_
    refine rw_nil ?_
    refine cw_cond (b := (x.Mask != k_1)) rfl (fun hb1 => ?_) (fun hb1 => ?_)
    · skip
      have hF2 := ct hb hb1
      refine cw_seq ?_
      refine cw_region ?_
      refine sq 4 rfl rfl (Y_assign (v := .int .i64 (-1)) rfl rfl) ?_
      refine rw_nil ?_
      refine cw_ret ?_
      obtain rfl := some_inj hF2
      obtain rfl := some_inj hL1
      obtain rfl := some_inj hF1
      exact ret1 Try.results63 (v1 := .int .i64 (-1)) (resAt_tmp rfl) ⟨rfl, (ST.subR (R' := []) (hS1.sel [] rfl rfl) (fun _ h => by cases h))⟩
    · skip
      have hF3 := cf' hb hb1
      refine cw_skip ?_
      refine cw_seq ?_
      refine cw_region ?_
      refine sq 19 rfl rfl (Y_move (v := .int .i64 k_1) rfl (hf.get 1 1 rfl)) ?_
      refine sq 20 rfl rfl (Y_add (k := .i64) (a := k_1) (b := 1) rfl rfl rfl) ?_
      refine sq 1 rfl rfl (Y_assign (v := .int .i64 (IntKind.i64.wrap (k_1 + 1))) rfl rfl) ?_
      refine rw_nil ?_
      refine cw_seq ?_
      refine cw_seq ?_
      refine cw_region ?_
      refine sq 21 rfl rfl (Y_move (v := .slice B a.length c) rfl (hf.get 0 0 rfl)) ?_
      refine sq 22 rfl rfl (Y_move (v := .int .i64 (i1 : Int)) rfl (hf.get 5 2 rfl)) ?_
      refine sq 23 rfl rfl (Y_index (B := B) (m := a.length) (c := c) (k := .i64) (i := (i1 : Int)) k_sl_55_61 k_sz_61_2 rfl rfl rfl (gi_isSome enc_Affine_len rfl (hS1.rf (i := 0) rfl) hx) (getI_nn hx) (getI_ltI hx rfl)) ?_
      refine sq 24 rfl rfl (Y_fieldAddr (B := B) (i := (i1 : Int).toNat * 2) (s := 0) k_fd_61_1_1_3 k_sz_3_1 rfl rfl) ?_
      refine sq 25 rfl rfl (Y_load1 (B := B) (i := (i1 : Int).toNat * 2 + 1) (cs := (a.flatMap enc_Affine)) (v := .int .i64 x.Turn) k_sc_3 rfl rfl (hS1.rf (i := 0) rfl) (gi_at enc_Affine_len hx rfl)) ?_
      refine sq 26 rfl rfl (Y_move (v := .int .i64 (IntKind.i64.wrap (k_1 + 1))) rfl rfl) ?_
      refine sq 27 rfl rfl (Y_ne (k := .i64) (a := x.Turn) (b := (IntKind.i64.wrap (k_1 + 1))) rfl rfl rfl) ?_
      refine rw_nil ?_
      refine cw_cond (b := (x.Turn != (IntKind.i64.wrap (k_1 + 1)))) rfl (fun hb2 => ?_) (fun hb2 => ?_)
      · skip
        have hF4 := ct hF3 hb2
        refine cw_seq ?_
        refine cw_region ?_
        refine sq 4 rfl rfl (Y_assign (v := .int .i64 (-1)) rfl rfl) ?_
        refine rw_nil ?_
        refine cw_ret ?_
        obtain rfl := some_inj hF4
        obtain rfl := some_inj hL1
        obtain rfl := some_inj hF1
        exact ret1 Try.results63 (v1 := .int .i64 (-1)) (resAt_tmp rfl) ⟨rfl, (ST.subR (R' := []) (hS1.sel [] rfl rfl) (fun _ h => by cases h))⟩
      · skip
        have hF5 := cf' hF3 hb2
        refine cw_skip ?_
        refine cw_region ?_
        refine sq 28 rfl rfl (Y_move (v := .int .i64 (IntKind.i64.wrap (k_1 + 1))) rfl rfl) ?_
        refine sq 29 rfl rfl (Y_add (k := .i64) (a := (IntKind.i64.wrap (k_1 + 1))) (b := 1) rfl rfl rfl) ?_
        refine sq 1 rfl rfl (Y_assign (v := .int .i64 (IntKind.i64.wrap ((IntKind.i64.wrap (k_1 + 1)) + 1))) rfl rfl) ?_
        refine rw_nil ?_
        refine cw_region ?_
        refine sq 10 rfl rfl (Y_move (v := .int .i64 (i1 : Int)) rfl (hf.get 5 2 rfl)) ?_
        refine sq 11 rfl rfl (Y_add (k := .i64) (a := (i1 : Int)) (b := 1) rfl rfl rfl) ?_
        refine sq 5 rfl rfl (Y_assign (v := .int .i64 (IntKind.i64.wrap ((i1 : Int) + 1))) rfl rfl) ?_
        refine rw_nil ?_
        obtain rfl := some_inj hF5
        exact ⟨k_3, Nat.lt_succ_self _, i1 + 1, (IntKind.i64.wrap ((IntKind.i64.wrap (k_1 + 1)) + 1)), (FF.cons (hf.get 0 0 rfl) (FF.cons rfl (FF.cons (congrArg (Value.int .i64) (wr_succ hlt1 hN)) FF.nil))), (hS1.sel [] rfl rfl), (by omega), hL1⟩
  · skip
    obtain rfl : k_2 = 0 := by have h := of_decide_eq_false hlt; omega
    refine cw_exit rfl ?_
    obtain rfl := some_inj hL
    refine cw_seq ?_
    refine cw_region ?_
    refine sq 30 rfl rfl (Y_move (v := .int .i64 k_1) rfl (hf.get 1 1 rfl)) ?_
    refine sq 4 rfl rfl (Y_assign (v := .int .i64 k_1) rfl rfl) ?_
    refine rw_nil ?_
    refine cw_ret ?_
    obtain rfl := some_inj hF1
    exact ret1 Try.results63 (v1 := .int .i64 k_1) (resAt_tmp rfl) ⟨rfl, (ST.subR (R' := []) (hS1.sel [] rfl rfl) (fun _ h => by cases h))⟩

theorem c_laws_heldPathSum (a : TPathSum) (k_ : Int) (B : Option Addr) (c n : Nat) (B1 : Option Addr) (c1 n1 : Nat) (w0 : World) (hn : a.Terms.length = n) (hn1 : a.Out.length = n1) (hS : ST w0 [] w0 [] [⟨B, (a.Terms.flatMap enc_Term)⟩, ⟨B1, (a.Out.flatMap enc_Affine)⟩]) {r_ : Int} (hF : F_laws_heldPathSum a k_ = some r_) :
    CV Try.prog 27 #[.agg #[.int .i64 a.Ins, .int .i64 a.Vars, .int .i64 a.Root, .int .i64 a.Phase, .slice B n c, .slice B1 n1 c1], .int .i64 k_] w0 (fun v w' => v = .int .i64 r_ ∧ ST w0 [] w' [] []) := by
  subst hn
  subst hn1
  unfold F_laws_heldPathSum at hF
  refine cv_of_cw 18 Try.func27 rfl Try.ntmps27 rfl ?_
  refine cw_seq ?_
  refine cw_region ?_
  refine ss 2 rfl rfl (Ys_box (T := 57) (v := .agg #[.int .i64 a.Ins, .int .i64 a.Vars, .int .i64 a.Root, .int .i64 a.Phase, .slice B a.Terms.length c, .slice B1 a.Out.length c1]) (cs := [.int .i64 a.Ins, .int .i64 a.Vars, .int .i64 a.Root, .int .i64 a.Phase, .slice B a.Terms.length c, .slice B1 a.Out.length c1]) (m := 6) hS rfl rfl rfl rfl) ?_
  rintro _ w_ ⟨b, rfl, hS1⟩
  refine sq 4 rfl rfl (Y_assign (v := .int .i64 0) rfl rfl) ?_
  refine rw_nil ?_
  refine cw_seq ?_
  refine cw_region ?_
  refine sq 5 rfl rfl (Y_fieldAddr (B := some ⟨b, 0, none⟩) (i := 0) (s := 0) k_fd_57_4_4_54 k_sz_54_1 rfl rfl) ?_
  refine sq 6 rfl rfl (Y_load1 (B := some ⟨b, 0, none⟩) (i := 4) (cs := [.int .i64 a.Ins, .int .i64 a.Vars, .int .i64 a.Root, .int .i64 a.Phase, .slice B a.Terms.length c, .slice B1 a.Out.length c1]) (v := .slice B a.Terms.length c) k_sc_54 rfl rfl (hS1.cf (i := 0) rfl) rfl) ?_
  refine sq 7 rfl rfl (Y_move (v := .int .i64 k_) rfl rfl) ?_
  obtain ⟨r_1, hc, hF⟩ := bind_inv hF
  refine sc 8 rfl rfl (Yc_func (g := 62) (vs := [.slice B a.Terms.length c, .int .i64 k_]) k_call_62 rfl (mc rfl (mc rfl mn)) (c_laws_heldTermS a.Terms k_ B c a.Terms.length _ rfl (hS1.inn0 [(true, 0)] rfl) hc)) ?_
  rintro _ w_1 ⟨rfl, hd⟩
  have hS2 := hS1.out00 hd
  refine sq 1 rfl rfl (Y_assign (v := .int .i64 r_1) rfl rfl) ?_
  refine rw_nil ?_
  refine cw_seq ?_
  refine cw_seq ?_
  refine cw_region ?_
  refine sq 9 rfl rfl (Y_move (v := .int .i64 r_1) rfl rfl) ?_
  refine sq 10 rfl rfl (Y_lt (k := .i64) (a := r_1) (b := 0) rfl rfl rfl) ?_
  refine rw_nil ?_
  refine cw_cond (b := (decide (r_1 < 0))) rfl (fun hb => ?_) (fun hb => ?_)
  · skip
    have hF1 := ct hF hb
    refine cw_seq ?_
    refine cw_region ?_
    refine sq 4 rfl rfl (Y_assign (v := .int .i64 (-1)) rfl rfl) ?_
    refine rw_nil ?_
    refine cw_ret ?_
    obtain rfl := some_inj hF1
    exact ret1 Try.results27 (v1 := .int .i64 (-1)) (resAt_tmp rfl) ⟨rfl, (ST.subR (R' := []) (hS2.sel [] rfl rfl) (fun _ h => by cases h))⟩
  · skip
    have hF2 := cf' hF hb
    refine cw_skip ?_
    refine cw_seq ?_
    refine cw_region ?_
    refine sq 11 rfl rfl (Y_fieldAddr (B := some ⟨b, 0, none⟩) (i := 0) (s := 0) k_fd_57_5_5_55 k_sz_55_1 rfl rfl) ?_
    refine sq 12 rfl rfl (Y_load1 (B := some ⟨b, 0, none⟩) (i := 5) (cs := [.int .i64 a.Ins, .int .i64 a.Vars, .int .i64 a.Root, .int .i64 a.Phase, .slice B a.Terms.length c, .slice B1 a.Out.length c1]) (v := .slice B1 a.Out.length c1) k_sc_55 rfl rfl (hS2.cf (i := 0) rfl) rfl) ?_
    refine sq 13 rfl rfl (Y_move (v := .int .i64 r_1) rfl rfl) ?_
    obtain ⟨r_2, hc1, hF2⟩ := bind_inv hF2
    refine sc 14 rfl rfl (Yc_func (g := 63) (vs := [.slice B1 a.Out.length c1, .int .i64 r_1]) k_call_63 rfl (mc rfl (mc rfl mn)) (c_laws_heldAffineS a.Out r_1 B1 c1 a.Out.length _ rfl (hS2.inn0 [(true, 1)] rfl) hc1)) ?_
    rintro _ w_2 ⟨rfl, hd1⟩
    have hS3 := hS2.out00 hd1
    refine sq 1 rfl rfl (Y_assign (v := .int .i64 r_2) rfl rfl) ?_
    refine rw_nil ?_
    refine cw_seq ?_
    refine cw_seq ?_
    refine cw_region ?_
    refine sq 15 rfl rfl (Y_move (v := .int .i64 r_2) rfl rfl) ?_
    refine sq 16 rfl rfl (Y_lt (k := .i64) (a := r_2) (b := 0) rfl rfl rfl) ?_
    refine rw_nil ?_
    refine cw_cond (b := (decide (r_2 < 0))) rfl (fun hb1 => ?_) (fun hb1 => ?_)
    · skip
      have hF3 := ct hF2 hb1
      refine cw_seq ?_
      refine cw_region ?_
      refine sq 4 rfl rfl (Y_assign (v := .int .i64 (-1)) rfl rfl) ?_
      refine rw_nil ?_
      refine cw_ret ?_
      obtain rfl := some_inj hF3
      exact ret1 Try.results27 (v1 := .int .i64 (-1)) (resAt_tmp rfl) ⟨rfl, (ST.subR (R' := []) (hS3.sel [] rfl rfl) (fun _ h => by cases h))⟩
    · skip
      have hF4 := cf' hF2 hb1
      refine cw_skip ?_
      refine cw_seq ?_
      refine cw_region ?_
      refine sq 17 rfl rfl (Y_move (v := .int .i64 r_2) rfl rfl) ?_
      refine sq 4 rfl rfl (Y_assign (v := .int .i64 r_2) rfl rfl) ?_
      refine rw_nil ?_
      refine cw_ret ?_
      obtain rfl := some_inj hF4
      exact ret1 Try.results27 (v1 := .int .i64 r_2) (resAt_tmp rfl) ⟨rfl, (ST.subR (R' := []) (hS3.sel [] rfl rfl) (fun _ h => by cases h))⟩

theorem c_spec_l1In (n : Int) (lo : Int) (hi : Int)  (w0 : World)  (hS : ST w0 [] w0 [] []) {r_ : Bool} (hF : F_spec_l1In n lo hi = some r_) :
    CV Try.prog 50 #[.int .i64 n, .int .i64 lo, .int .i64 hi] w0 (fun v w' => v = .bool r_ ∧ ST w0 [] w' [] []) := by
  unfold F_spec_l1In at hF
  refine cv_of_cw 15 Try.func50 rfl Try.ntmps50 rfl ?_
  refine cw_seq ?_
  refine cw_region ?_
  refine sq 6 rfl rfl (Y_assign (v := .bool false) rfl rfl) ?_
  refine rw_nil ?_
  refine cw_seq ?_
  refine cw_region ?_
  refine sq 7 rfl rfl (Y_move (v := .int .i64 n) rfl rfl) ?_
  refine sq 8 rfl rfl (Y_move (v := .int .i64 lo) rfl rfl) ?_
  refine sq 9 rfl rfl (Y_ge (k := .i64) (a := n) (b := lo) rfl rfl rfl) ?_
  refine sq 10 rfl rfl (Y_move (v := .bool (decide (lo ≤ n))) rfl rfl) ?_
  refine sgq 11 (B := (decide (lo ≤ n))) (v := .int .i64 n) rfl rfl (wt_t (gd_of (t := 10) (by kernel_rfl) rfl)) (fun hg => (Y_move (v := .int .i64 n) rfl rfl)) ?_
  refine sgq 12 (B := (decide (lo ≤ n))) (v := .int .i64 hi) rfl rfl (wt_t (gd_of (t := 10) (by kernel_rfl) rfl)) (fun hg1 => (Y_move (v := .int .i64 hi) rfl rfl)) ?_
  refine sgq 13 (B := (decide (lo ≤ n))) (v := .bool (decide (n ≤ hi))) rfl rfl (wt_t (gd_of (t := 10) (by kernel_rfl) rfl)) (fun hg2 => (Y_le (k := .i64) (a := n) (b := hi) rfl (gv_of (B := (decide (lo ≤ n))) (v := .int .i64 n) hg2) (gv_of (B := (decide (lo ≤ n))) (v := .int .i64 hi) hg2))) ?_
  refine sq 14 rfl rfl (Y_and (b := (decide (lo ≤ n))) (z := (decide (n ≤ hi))) rfl rfl rfl rfl) ?_
  refine sq 6 rfl rfl (Y_assign (v := .bool ((decide (lo ≤ n)) && (decide (n ≤ hi)))) rfl rfl) ?_
  refine rw_nil ?_
  refine cw_ret ?_
  obtain rfl := some_inj hF
  exact ret1 Try.results50 (v1 := .bool ((decide (lo ≤ n)) && (decide (n ≤ hi)))) (resAt_tmp rfl) ⟨rfl, (ST.subR (R' := []) (hS.sel [] rfl rfl) (fun _ h => by cases h))⟩

theorem c_spec_l4Gate (n : Int) (g : TGate)  (w0 : World)  (hS : ST w0 [] w0 [] []) {r_ : Bool} (hF : F_spec_l4Gate n g = some r_) :
    CV Try.prog 109 #[.int .i64 n, .agg #[.int .i64 g.Kind, .int .i64 g.A, .int .i64 g.B]] w0 (fun v w' => v = .bool r_ ∧ ST w0 [] w' [] []) := by
  unfold F_spec_l4Gate at hF
  refine cv_of_cw 55 Try.func109 rfl Try.ntmps109 rfl ?_
  refine cw_seq ?_
  refine cw_region ?_
  refine ss 3 rfl rfl (Ys_box (T := 76) (v := .agg #[.int .i64 g.Kind, .int .i64 g.A, .int .i64 g.B]) (cs := [.int .i64 g.Kind, .int .i64 g.A, .int .i64 g.B]) (m := 3) hS rfl rfl rfl rfl) ?_
  rintro _ w_ ⟨b, rfl, hS1⟩
  refine sq 4 rfl rfl (Y_assign (v := .bool false) rfl rfl) ?_
  refine rw_nil ?_
  refine cw_seq ?_
  refine cw_block ?_
  refine cw_seq ?_
  refine cw_region ?_
  refine sq 6 rfl rfl (Y_fieldAddr (B := some ⟨b, 0, none⟩) (i := 0) (s := 0) k_fd_76_0_0_3 k_sz_3_1 rfl rfl) ?_
  refine sq 7 rfl rfl (Y_load1 (B := some ⟨b, 0, none⟩) (i := 0) (cs := [.int .i64 g.Kind, .int .i64 g.A, .int .i64 g.B]) (v := .int .i64 g.Kind) k_sc_3 rfl rfl (hS1.cf (i := 0) rfl) rfl) ?_
  obtain ⟨r_1, hc, hF⟩ := bind_inv hF
  refine sc 8 rfl rfl (Yc_func (g := 50) (vs := [.int .i64 g.Kind, .int .i64 1, .int .i64 8]) k_call_50 rfl (mc rfl (mc rfl (mc rfl mn))) (c_spec_l1In g.Kind 1 8 _  (hS1.inn0 [] rfl) hc)) ?_
  rintro _ w_1 ⟨rfl, hd⟩
  have hS2 := hS1.out00 hd
  refine sq 5 rfl rfl (Y_assign (v := .bool r_1) rfl rfl) ?_
  refine rw_nil ?_
  refine cw_cond (b := r_1) rfl (fun hb => ?_) (fun hb => ?_)
  · skip
    have hF1 := ct hF hb
    refine cw_seq ?_
    refine cw_region ?_
    refine sq 9 rfl rfl (Y_fieldAddr (B := some ⟨b, 0, none⟩) (i := 0) (s := 0) k_fd_76_1_1_3 k_sz_3_1 rfl rfl) ?_
    refine sq 10 rfl rfl (Y_load1 (B := some ⟨b, 0, none⟩) (i := 1) (cs := [.int .i64 g.Kind, .int .i64 g.A, .int .i64 g.B]) (v := .int .i64 g.A) k_sc_3 rfl rfl (hS2.cf (i := 0) rfl) rfl) ?_
    refine sq 11 rfl rfl (Y_move (v := .int .i64 n) rfl rfl) ?_
    refine sq 12 rfl rfl (Y_sub (k := .i64) (a := n) (b := 1) rfl rfl rfl) ?_
    obtain ⟨r_2, hc1, hF1⟩ := bind_inv hF1
    refine sc 13 rfl rfl (Yc_func (g := 50) (vs := [.int .i64 g.A, .int .i64 0, .int .i64 (IntKind.i64.wrap (n - 1))]) k_call_50 rfl (mc rfl (mc rfl (mc rfl mn))) (c_spec_l1In g.A 0 (IntKind.i64.wrap (n - 1)) _  (hS2.inn0 [] rfl) hc1)) ?_
    rintro _ w_2 ⟨rfl, hd1⟩
    have hS3 := hS2.out00 hd1
    refine sq 14 rfl rfl (Y_move (v := .bool r_2) rfl rfl) ?_
    refine sgq 15 (B := r_2) (v := pt (some ⟨b, 0, none⟩) 2) rfl rfl (wt_t (gd_of (t := 14) (by kernel_rfl) rfl)) (fun hg => (Y_fieldAddr (B := some ⟨b, 0, none⟩) (i := 0) (s := 0) k_fd_76_2_2_3 k_sz_3_1 rfl rfl)) ?_
    refine sgq 16 (B := r_2) (v := .int .i64 g.B) rfl rfl (wt_t (gd_of (t := 14) (by kernel_rfl) rfl)) (fun hg1 => (Y_load1 (B := some ⟨b, 0, none⟩) (i := 2) (cs := [.int .i64 g.Kind, .int .i64 g.A, .int .i64 g.B]) (v := .int .i64 g.B) k_sc_3 rfl (gv_of (B := r_2) (v := pt (some ⟨b, 0, none⟩) 2) hg1) (hS3.cf (i := 0) rfl) rfl)) ?_
    refine sgq 17 (B := r_2) (v := .bool (g.B == 0)) rfl rfl (wt_t (gd_of (t := 14) (by kernel_rfl) rfl)) (fun hg2 => (Y_eq (k := .i64) (a := g.B) (b := 0) rfl (gv_of (B := r_2) (v := .int .i64 g.B) hg2) rfl)) ?_
    refine sq 18 rfl rfl (Y_and (b := r_2) (z := (g.B == 0)) rfl rfl rfl rfl) ?_
    refine sq 4 rfl rfl (Y_assign (v := .bool (r_2 && (g.B == 0))) rfl rfl) ?_
    refine rw_nil ?_
    refine cw_ret ?_
    obtain rfl := some_inj hF1
    exact ret1 Try.results109 (v1 := .bool (r_2 && (g.B == 0))) (resAt_tmp rfl) ⟨rfl, (ST.subR (R' := []) (hS3.sel [] rfl rfl) (fun _ h => by cases h))⟩
  · skip
    have hF2 := cf' hF hb
    refine cw_seq ?_
    refine cw_region ?_
    refine sq 20 rfl rfl (Y_fieldAddr (B := some ⟨b, 0, none⟩) (i := 0) (s := 0) k_fd_76_0_0_3 k_sz_3_1 rfl rfl) ?_
    refine sq 21 rfl rfl (Y_load1 (B := some ⟨b, 0, none⟩) (i := 0) (cs := [.int .i64 g.Kind, .int .i64 g.A, .int .i64 g.B]) (v := .int .i64 g.Kind) k_sc_3 rfl rfl (hS2.cf (i := 0) rfl) rfl) ?_
    obtain ⟨r_3, hc2, hF2⟩ := bind_inv hF2
    refine sc 22 rfl rfl (Yc_func (g := 50) (vs := [.int .i64 g.Kind, .int .i64 9, .int .i64 11]) k_call_50 rfl (mc rfl (mc rfl (mc rfl mn))) (c_spec_l1In g.Kind 9 11 _  (hS2.inn0 [] rfl) hc2)) ?_
    rintro _ w_3 ⟨rfl, hd2⟩
    have hS4 := hS2.out00 hd2
    refine sq 19 rfl rfl (Y_assign (v := .bool r_3) rfl rfl) ?_
    refine rw_nil ?_
    refine cw_cond (b := r_3) rfl (fun hb1 => ?_) (fun hb1 => ?_)
    · skip
      have hF3 := ct hF2 hb1
      refine cw_seq ?_
      refine cw_region ?_
      refine sq 23 rfl rfl (Y_fieldAddr (B := some ⟨b, 0, none⟩) (i := 0) (s := 0) k_fd_76_1_1_3 k_sz_3_1 rfl rfl) ?_
      refine sq 24 rfl rfl (Y_load1 (B := some ⟨b, 0, none⟩) (i := 1) (cs := [.int .i64 g.Kind, .int .i64 g.A, .int .i64 g.B]) (v := .int .i64 g.A) k_sc_3 rfl rfl (hS4.cf (i := 0) rfl) rfl) ?_
      refine sq 25 rfl rfl (Y_move (v := .int .i64 n) rfl rfl) ?_
      refine sq 26 rfl rfl (Y_sub (k := .i64) (a := n) (b := 1) rfl rfl rfl) ?_
      obtain ⟨r_4, hc3, hF3⟩ := bind_inv hF3
      refine sc 27 rfl rfl (Yc_func (g := 50) (vs := [.int .i64 g.A, .int .i64 0, .int .i64 (IntKind.i64.wrap (n - 1))]) k_call_50 rfl (mc rfl (mc rfl (mc rfl mn))) (c_spec_l1In g.A 0 (IntKind.i64.wrap (n - 1)) _  (hS4.inn0 [] rfl) hc3)) ?_
      rintro _ w_4 ⟨rfl, hd3⟩
      have hS5 := hS4.out00 hd3
      refine sq 28 rfl rfl (Y_move (v := .bool r_4) rfl rfl) ?_
      refine sgq 29 (B := r_4) (v := pt (some ⟨b, 0, none⟩) 2) rfl rfl (wt_t (gd_of (t := 28) (by kernel_rfl) rfl)) (fun hg3 => (Y_fieldAddr (B := some ⟨b, 0, none⟩) (i := 0) (s := 0) k_fd_76_2_2_3 k_sz_3_1 rfl rfl)) ?_
      refine sgq 30 (B := r_4) (v := .int .i64 g.B) rfl rfl (wt_t (gd_of (t := 28) (by kernel_rfl) rfl)) (fun hg4 => (Y_load1 (B := some ⟨b, 0, none⟩) (i := 2) (cs := [.int .i64 g.Kind, .int .i64 g.A, .int .i64 g.B]) (v := .int .i64 g.B) k_sc_3 rfl (gv_of (B := r_4) (v := pt (some ⟨b, 0, none⟩) 2) hg4) (hS5.cf (i := 0) rfl) rfl)) ?_
      refine sgq 31 (B := r_4) (v := .int .i64 n) rfl rfl (wt_t (gd_of (t := 28) (by kernel_rfl) rfl)) (fun hg5 => (Y_move (v := .int .i64 n) rfl rfl)) ?_
      refine sgq 32 (B := r_4) (v := .int .i64 (IntKind.i64.wrap (n - 1))) rfl rfl (wt_t (gd_of (t := 28) (by kernel_rfl) rfl)) (fun hg6 => (Y_sub (k := .i64) (a := n) (b := 1) rfl (gv_of (B := r_4) (v := .int .i64 n) hg6) rfl)) ?_
      obtain ⟨r_5, hc4, hF3⟩ := bind_inv hF3
      refine sgc 33 (B := r_4) (v := .bool r_5) (F := hS5.fn) rfl rfl (wt_t (gd_of (t := 28) (by kernel_rfl) rfl)) hS5 (fun hg7 => (Yc_func (g := 50) (vs := [.int .i64 g.B, .int .i64 0, .int .i64 (IntKind.i64.wrap (n - 1))]) k_call_50 rfl (mc (gv_of (B := r_4) (v := .int .i64 g.B) hg7) (mc rfl (mc (gv_of (B := r_4) (v := .int .i64 (IntKind.i64.wrap (n - 1))) hg7) mn))) (CV.mono (c_spec_l1In g.B 0 (IntKind.i64.wrap (n - 1)) _  (hS5.inn0 [] rfl) (gb_inv hc4 hg7)) (by rintro _ _ ⟨rfl, h⟩; exact ⟨rfl, hS5.out00 h⟩)))) ?_
      rintro w_5 hS6
      have hS6 : ST _ _ w_5 _ _ := hS6
      refine sq 34 rfl rfl (Y_and (b := r_4) (z := r_5) rfl rfl rfl rfl) ?_
      refine sq 35 rfl rfl (Y_move (v := .bool (r_4 && r_5)) rfl rfl) ?_
      refine sgq 36 (B := (r_4 && r_5)) (v := pt (some ⟨b, 0, none⟩) 1) rfl rfl (wt_t (gd_of (t := 35) (by kernel_rfl) rfl)) (fun hg8 => (Y_fieldAddr (B := some ⟨b, 0, none⟩) (i := 0) (s := 0) k_fd_76_1_1_3 k_sz_3_1 rfl rfl)) ?_
      refine sgq 37 (B := (r_4 && r_5)) (v := .int .i64 g.A) rfl rfl (wt_t (gd_of (t := 35) (by kernel_rfl) rfl)) (fun hg9 => (Y_load1 (B := some ⟨b, 0, none⟩) (i := 1) (cs := [.int .i64 g.Kind, .int .i64 g.A, .int .i64 g.B]) (v := .int .i64 g.A) k_sc_3 rfl (gv_of (B := (r_4 && r_5)) (v := pt (some ⟨b, 0, none⟩) 1) hg9) (hS6.cf (i := 0) rfl) rfl)) ?_
      refine sgq 38 (B := (r_4 && r_5)) (v := pt (some ⟨b, 0, none⟩) 2) rfl rfl (wt_t (gd_of (t := 35) (by kernel_rfl) rfl)) (fun hg10 => (Y_fieldAddr (B := some ⟨b, 0, none⟩) (i := 0) (s := 0) k_fd_76_2_2_3 k_sz_3_1 rfl rfl)) ?_
      refine sgq 39 (B := (r_4 && r_5)) (v := .int .i64 g.B) rfl rfl (wt_t (gd_of (t := 35) (by kernel_rfl) rfl)) (fun hg11 => (Y_load1 (B := some ⟨b, 0, none⟩) (i := 2) (cs := [.int .i64 g.Kind, .int .i64 g.A, .int .i64 g.B]) (v := .int .i64 g.B) k_sc_3 rfl (gv_of (B := (r_4 && r_5)) (v := pt (some ⟨b, 0, none⟩) 2) hg11) (hS6.cf (i := 0) rfl) rfl)) ?_
      refine sgq 40 (B := (r_4 && r_5)) (v := .bool (g.A != g.B)) rfl rfl (wt_t (gd_of (t := 35) (by kernel_rfl) rfl)) (fun hg12 => (Y_ne (k := .i64) (a := g.A) (b := g.B) rfl (gv_of (B := (r_4 && r_5)) (v := .int .i64 g.A) hg12) (gv_of (B := (r_4 && r_5)) (v := .int .i64 g.B) hg12))) ?_
      refine sq 41 rfl rfl (Y_and (b := (r_4 && r_5)) (z := (g.A != g.B)) rfl rfl rfl rfl) ?_
      refine sq 4 rfl rfl (Y_assign (v := .bool ((r_4 && r_5) && (g.A != g.B))) rfl rfl) ?_
      refine rw_nil ?_
      refine cw_ret ?_
      obtain rfl := some_inj hF3
      exact ret1 Try.results109 (v1 := .bool ((r_4 && r_5) && (g.A != g.B))) (resAt_tmp rfl) ⟨rfl, (ST.subR (R' := []) (hS6.sel [] rfl rfl) (fun _ h => by cases h))⟩
    · skip
      have hF4 := cf' hF2 hb1
      refine cw_skip ?_
      refine cw_seq ?_
      refine cw_region ?_
      refine sq 42 rfl rfl (Y_fieldAddr (B := some ⟨b, 0, none⟩) (i := 0) (s := 0) k_fd_76_0_0_3 k_sz_3_1 rfl rfl) ?_
      refine sq 43 rfl rfl (Y_load1 (B := some ⟨b, 0, none⟩) (i := 0) (cs := [.int .i64 g.Kind, .int .i64 g.A, .int .i64 g.B]) (v := .int .i64 g.Kind) k_sc_3 rfl rfl (hS4.cf (i := 0) rfl) rfl) ?_
      refine sq 44 rfl rfl (Y_eq (k := .i64) (a := g.Kind) (b := 12) rfl rfl rfl) ?_
      refine sq 45 rfl rfl (Y_move (v := .bool (g.Kind == 12)) rfl rfl) ?_
      refine sgq 46 (B := (g.Kind == 12)) (v := pt (some ⟨b, 0, none⟩) 1) rfl rfl (wt_t (gd_of (t := 45) (by kernel_rfl) rfl)) (fun hg13 => (Y_fieldAddr (B := some ⟨b, 0, none⟩) (i := 0) (s := 0) k_fd_76_1_1_3 k_sz_3_1 rfl rfl)) ?_
      refine sgq 47 (B := (g.Kind == 12)) (v := .int .i64 g.A) rfl rfl (wt_t (gd_of (t := 45) (by kernel_rfl) rfl)) (fun hg14 => (Y_load1 (B := some ⟨b, 0, none⟩) (i := 1) (cs := [.int .i64 g.Kind, .int .i64 g.A, .int .i64 g.B]) (v := .int .i64 g.A) k_sc_3 rfl (gv_of (B := (g.Kind == 12)) (v := pt (some ⟨b, 0, none⟩) 1) hg14) (hS4.cf (i := 0) rfl) rfl)) ?_
      refine sgq 48 (B := (g.Kind == 12)) (v := .bool (g.A == 0)) rfl rfl (wt_t (gd_of (t := 45) (by kernel_rfl) rfl)) (fun hg15 => (Y_eq (k := .i64) (a := g.A) (b := 0) rfl (gv_of (B := (g.Kind == 12)) (v := .int .i64 g.A) hg15) rfl)) ?_
      refine sq 49 rfl rfl (Y_and (b := (g.Kind == 12)) (z := (g.A == 0)) rfl rfl rfl rfl) ?_
      refine sq 50 rfl rfl (Y_move (v := .bool ((g.Kind == 12) && (g.A == 0))) rfl rfl) ?_
      refine sgq 51 (B := ((g.Kind == 12) && (g.A == 0))) (v := pt (some ⟨b, 0, none⟩) 2) rfl rfl (wt_t (gd_of (t := 50) (by kernel_rfl) rfl)) (fun hg16 => (Y_fieldAddr (B := some ⟨b, 0, none⟩) (i := 0) (s := 0) k_fd_76_2_2_3 k_sz_3_1 rfl rfl)) ?_
      refine sgq 52 (B := ((g.Kind == 12) && (g.A == 0))) (v := .int .i64 g.B) rfl rfl (wt_t (gd_of (t := 50) (by kernel_rfl) rfl)) (fun hg17 => (Y_load1 (B := some ⟨b, 0, none⟩) (i := 2) (cs := [.int .i64 g.Kind, .int .i64 g.A, .int .i64 g.B]) (v := .int .i64 g.B) k_sc_3 rfl (gv_of (B := ((g.Kind == 12) && (g.A == 0))) (v := pt (some ⟨b, 0, none⟩) 2) hg17) (hS4.cf (i := 0) rfl) rfl)) ?_
      refine sgq 53 (B := ((g.Kind == 12) && (g.A == 0))) (v := .bool (g.B == 0)) rfl rfl (wt_t (gd_of (t := 50) (by kernel_rfl) rfl)) (fun hg18 => (Y_eq (k := .i64) (a := g.B) (b := 0) rfl (gv_of (B := ((g.Kind == 12) && (g.A == 0))) (v := .int .i64 g.B) hg18) rfl)) ?_
      refine sq 54 rfl rfl (Y_and (b := ((g.Kind == 12) && (g.A == 0))) (z := (g.B == 0)) rfl rfl rfl rfl) ?_
      refine sq 4 rfl rfl (Y_assign (v := .bool (((g.Kind == 12) && (g.A == 0)) && (g.B == 0))) rfl rfl) ?_
      refine rw_nil ?_
      refine cw_ret ?_
      obtain rfl := some_inj hF4
      exact ret1 Try.results109 (v1 := .bool (((g.Kind == 12) && (g.A == 0)) && (g.B == 0))) (resAt_tmp rfl) ⟨rfl, (ST.subR (R' := []) (hS4.sel [] rfl rfl) (fun _ h => by cases h))⟩

theorem c_spec_l4Good (c : TCircuit) (B : Option Addr) (c1 n : Nat) (w0 : World) (hn : c.Gates.length = n) (hS : ST w0 [] w0 [] [⟨B, (c.Gates.flatMap enc_Gate)⟩]) {r_ : Bool} (hF : F_spec_l4Good c = some r_) :
    CV Try.prog 64 #[.agg #[.int .i64 c.Qubits, .slice B n c1]] w0 (fun v w' => v = .bool r_ ∧ ST w0 [] w' [] []) := by
  subst hn
  unfold F_spec_l4Good at hF
  refine cv_of_cw 28 Try.func64 rfl Try.ntmps64 rfl ?_
  refine cw_seq ?_
  refine cw_region ?_
  refine ss 1 rfl rfl (Ys_box (T := 28) (v := .agg #[.int .i64 c.Qubits, .slice B c.Gates.length c1]) (cs := [.int .i64 c.Qubits, .slice B c.Gates.length c1]) (m := 2) hS rfl rfl rfl rfl) ?_
  rintro _ w_ ⟨b, rfl, hS1⟩
  refine sq 2 rfl rfl (Y_assign (v := .bool false) rfl rfl) ?_
  refine rw_nil ?_
  refine cw_seq ?_
  refine cw_seq ?_
  refine cw_region ?_
  refine sq 5 rfl rfl (Y_fieldAddr (B := some ⟨b, 0, none⟩) (i := 0) (s := 0) k_fd_28_0_0_3 k_sz_3_1 rfl rfl) ?_
  refine sq 6 rfl rfl (Y_load1 (B := some ⟨b, 0, none⟩) (i := 0) (cs := [.int .i64 c.Qubits, .slice B c.Gates.length c1]) (v := .int .i64 c.Qubits) k_sc_3 rfl rfl (hS1.cf (i := 0) rfl) rfl) ?_
  obtain ⟨r_1, hc, hF⟩ := bind_inv hF
  refine sc 7 rfl rfl (Yc_func (g := 50) (vs := [.int .i64 c.Qubits, .int .i64 1, .int .i64 5]) k_call_50 rfl (mc rfl (mc rfl (mc rfl mn))) (c_spec_l1In c.Qubits 1 5 _  (hS1.inn0 [] rfl) hc)) ?_
  rintro _ w_1 ⟨rfl, hd⟩
  have hS2 := hS1.out00 hd
  refine sq 8 rfl rfl (Y_not (p := r_1) rfl rfl) ?_
  refine sq 9 rfl rfl (Y_move (v := .bool (!r_1)) rfl rfl) ?_
  refine sgq 10 (B := (!(!r_1))) (v := pt (some ⟨b, 0, none⟩) 1) rfl rfl (wt_f (gd_of (t := 9) (by kernel_rfl) rfl)) (fun hg => (Y_fieldAddr (B := some ⟨b, 0, none⟩) (i := 0) (s := 0) k_fd_28_1_1_26 k_sz_26_1 rfl rfl)) ?_
  refine sgq 11 (B := (!(!r_1))) (v := .slice B c.Gates.length c1) rfl rfl (wt_f (gd_of (t := 9) (by kernel_rfl) rfl)) (fun hg1 => (Y_load1 (B := some ⟨b, 0, none⟩) (i := 1) (cs := [.int .i64 c.Qubits, .slice B c.Gates.length c1]) (v := .slice B c.Gates.length c1) k_sc_26 rfl (gv_of (B := (!(!r_1))) (v := pt (some ⟨b, 0, none⟩) 1) hg1) (hS2.cf (i := 0) rfl) rfl)) ?_
  refine sgq 12 (B := (!(!r_1))) (v := .int .i64 (c.Gates.length : Int)) rfl rfl (wt_f (gd_of (t := 9) (by kernel_rfl) rfl)) (fun hg2 => (Y_len (B := B) (m := c.Gates.length) (c := c1) k_sl_26_76 rfl (gv_of (B := (!(!r_1))) (v := .slice B c.Gates.length c1) hg2))) ?_
  refine sgq 13 (B := (!(!r_1))) (v := .bool (decide (400 < (c.Gates.length : Int)))) rfl rfl (wt_f (gd_of (t := 9) (by kernel_rfl) rfl)) (fun hg3 => (Y_gt (k := .i64) (a := (c.Gates.length : Int)) (b := 400) rfl (gv_of (B := (!(!r_1))) (v := .int .i64 (c.Gates.length : Int)) hg3) rfl)) ?_
  refine sq 14 rfl rfl (Y_or (b := (!r_1)) (z := (decide (400 < (c.Gates.length : Int)))) rfl rfl rfl rfl) ?_
  refine rw_nil ?_
  refine cw_cond (b := ((!r_1) || (decide (400 < (c.Gates.length : Int))))) rfl (fun hb => ?_) (fun hb => ?_)
  · skip
    have hF1 := ct hF hb
    refine cw_seq ?_
    refine cw_region ?_
    refine sq 2 rfl rfl (Y_assign (v := .bool false) rfl rfl) ?_
    refine rw_nil ?_
    refine cw_ret ?_
    obtain rfl := some_inj hF1
    exact ret1 Try.results64 (v1 := .bool false) (resAt_tmp rfl) ⟨rfl, (ST.subR (R' := []) (hS2.sel [] rfl rfl) (fun _ h => by cases h))⟩
  · skip
    have hF2 := cf' hF hb
    refine cw_skip ?_
    refine cw_seq ?_
    refine cw_seq ?_
    refine cw_region ?_
    refine sq 15 rfl rfl (Y_fieldAddr (B := some ⟨b, 0, none⟩) (i := 0) (s := 0) k_fd_28_1_1_26 k_sz_26_1 rfl rfl) ?_
    refine sq 16 rfl rfl (Y_load1 (B := some ⟨b, 0, none⟩) (i := 1) (cs := [.int .i64 c.Qubits, .slice B c.Gates.length c1]) (v := .slice B c.Gates.length c1) k_sc_26 rfl rfl (hS2.cf (i := 0) rfl) rfl) ?_
    refine sq 17 rfl rfl (Y_len (B := B) (m := c.Gates.length) (c := c1) k_sl_26_76 rfl rfl) ?_
    refine sq 18 rfl rfl (Y_move (v := .int .i64 0) rfl rfl) ?_
    refine rw_nil ?_
    obtain ⟨hN, hF2⟩ := chk_inv hF2
    obtain ⟨z, hz, hF3⟩ := bind_inv hF2
    refine cw_block ?_
    refine cw_loop (fun k f w => ∃ (i : Nat), FF f [(1, pt (some ⟨b, 0, none⟩) 0), (16, .slice B c.Gates.length c1), (17, .int .i64 (c.Gates.length : Int)), (18, .int .i64 (i : Int))] ∧ ST w0 [] w [⟨some ⟨b, 0, none⟩, 28, [.int .i64 c.Qubits, .slice B c.Gates.length c1], 2⟩] [⟨B, (c.Gates.flatMap enc_Gate)⟩] ∧ i + k = c.Gates.length ∧ forX (F_spec_l4Good_l1 c) k i () = some z) c.Gates.length ⟨0, (FF.cons rfl (FF.cons rfl (FF.cons rfl (FF.cons rfl FF.nil)))), (hS2.sel [0] rfl rfl), Nat.zero_add _, hz⟩ ?_
    rintro k_ f w ⟨i, hf, hS3, hik, hL⟩
    refine cw_seq ?_
    refine cw_region ?_
    refine sq 19 rfl rfl (Y_lt (k := .i64) (a := (i : Int)) (b := (c.Gates.length : Int)) rfl (hf.get 18 3 rfl) (hf.get 17 2 rfl)) ?_
    refine rw_nil ?_
    refine cw_seq ?_
    refine cw_cond (b := (decide ((i : Int) < (c.Gates.length : Int)))) rfl (fun hlt => ?_) (fun hlt => ?_)
    · skip
      have hlt1 : i < c.Gates.length := by have h := of_decide_eq_true hlt; omega
      obtain ⟨k_1, rfl⟩ : ∃ k2, k_ = k2 + 1 := ⟨k_ - 1, by omega⟩
      obtain ⟨y, hb1, hL1⟩ := forX_go hL
      unfold F_spec_l4Good_l1 at hb1
      refine cw_skip ?_
      refine cw_seq ?_
      refine cw_block ?_
      refine cw_seq ?_
      refine cw_region ?_
      obtain ⟨x, hx, hb1⟩ := bind_inv hb1
      refine sq 20 rfl rfl (Y_index (B := B) (m := c.Gates.length) (c := c1) (k := .i64) (i := (i : Int)) k_sl_26_76 k_sz_76_3 rfl (hf.get 16 1 rfl) (hf.get 18 3 rfl) (gi_isSome enc_Gate_len rfl (hS3.rf (i := 0) rfl) hx) (getI_nn hx) (getI_ltI hx rfl)) ?_
      refine sq 21 rfl rfl (Y_loadA (B := B) (i := (i : Int).toNat * 3) (cs := (c.Gates.flatMap enc_Gate)) (vs := [.int .i64 x.Kind, .int .i64 x.A, .int .i64 x.B]) k_ag_76 k_sz_76_3 rfl rfl (hS3.rf (i := 0) rfl) (enc_Gate_len x) (gi_seg enc_Gate_len hx)) ?_
      refine ss 4 rfl rfl (Ys_alloc (T := 76) (cs := [.int .i64 0, .int .i64 0, .int .i64 0]) (m := 3) hS3 k_zero_76 rfl rfl rfl) ?_
      rintro _ w_2 ⟨b1, rfl, hS4⟩
      have hS4 : ST w0 [] _ [⟨some ⟨b, 0, none⟩, 28, [.int .i64 c.Qubits, .slice B c.Gates.length c1], 2⟩, ⟨some ⟨b1, 0, none⟩, 76, [.int .i64 0, .int .i64 0, .int .i64 0], 3⟩] [⟨B, (c.Gates.flatMap enc_Gate)⟩] := hS4
      refine ss0 rfl rfl (Ys_store (i := 1) (s := 3) (B := some ⟨b1, 0, none⟩) (T' := 76) (v := .agg #[.int .i64 x.Kind, .int .i64 x.A, .int .i64 x.B]) (vs := [.int .i64 x.Kind, .int .i64 x.A, .int .i64 x.B]) (k := 0) (cs' := [.int .i64 x.Kind, .int .i64 x.A, .int .i64 x.B]) hS4 k_sz_76_3 rfl rfl rfl rfl rfl rfl rfl (Nat.le_of_ble_eq_true rfl) rfl rfl) ?_
      rintro _ w_3 ⟨rfl, hS5⟩
      have hS5 : ST w0 [] _ [⟨some ⟨b, 0, none⟩, 28, [.int .i64 c.Qubits, .slice B c.Gates.length c1], 2⟩, ⟨some ⟨b1, 0, none⟩, 76, [.int .i64 x.Kind, .int .i64 x.A, .int .i64 x.B], 3⟩] [⟨B, (c.Gates.flatMap enc_Gate)⟩] := hS5
      refine rw_nil ?_
      refine cw_seq ?_
      refine cw_region ?_
      refine sq 22 rfl rfl (Y_fieldAddr (B := some ⟨b, 0, none⟩) (i := 0) (s := 0) k_fd_28_0_0_3 k_sz_3_1 rfl (hf.get 1 0 rfl)) ?_
      refine sq 23 rfl rfl (Y_load1 (B := some ⟨b, 0, none⟩) (i := 0) (cs := [.int .i64 c.Qubits, .slice B c.Gates.length c1]) (v := .int .i64 c.Qubits) k_sc_3 rfl rfl (hS5.cf (i := 0) rfl) rfl) ?_
      refine sq 24 rfl rfl (Y_loadA (B := some ⟨b1, 0, none⟩) (i := 0) (cs := [.int .i64 x.Kind, .int .i64 x.A, .int .i64 x.B]) (vs := [.int .i64 x.Kind, .int .i64 x.A, .int .i64 x.B]) k_ag_76 k_sz_76_3 rfl rfl (hS5.cf (i := 1) rfl) rfl rfl) ?_
      obtain ⟨r_2, hc1, hb1⟩ := bind_inv hb1
      refine sc 25 rfl rfl (Yc_func (g := 109) (vs := [.int .i64 c.Qubits, .agg #[.int .i64 x.Kind, .int .i64 x.A, .int .i64 x.B]]) k_call_109 rfl (mc rfl (mc rfl mn)) (c_spec_l4Gate c.Qubits x _  (hS5.inn0 [] rfl) hc1)) ?_
      rintro _ w_4 ⟨rfl, hd1⟩
      have hS6 := hS5.out00 hd1
      have hS6 : ST w0 [] _ [⟨some ⟨b, 0, none⟩, 28, [.int .i64 c.Qubits, .slice B c.Gates.length c1], 2⟩, ⟨some ⟨b1, 0, none⟩, 76, [.int .i64 x.Kind, .int .i64 x.A, .int .i64 x.B], 3⟩] [⟨B, (c.Gates.flatMap enc_Gate)⟩] := hS6
      refine sq 26 rfl rfl (Y_not (p := r_2) rfl rfl) ?_
      refine rw_nil ?_
      refine cw_cond (b := (!r_2)) rfl (fun hb2 => ?_) (fun hb2 => ?_)
      · skip
        have hF4 := ct hb1 hb2
        refine cw_seq ?_
        refine cw_region ?_
        refine sq 2 rfl rfl (Y_assign (v := .bool false) rfl rfl) ?_
        refine rw_nil ?_
        refine cw_ret ?_
        obtain rfl := some_inj hF4
        obtain rfl := some_inj hL1
        obtain rfl := some_inj hF3
        exact ret1 Try.results64 (v1 := .bool false) (resAt_tmp rfl) ⟨rfl, (ST.subR (R' := []) (hS6.sel [] rfl rfl) (fun _ h => by cases h))⟩
      · skip
        have hF5 := cf' hb1 hb2
        refine cw_skip ?_
        refine cw_region ?_
        refine sq 27 rfl rfl (Y_add (k := .i64) (a := (i : Int)) (b := 1) rfl (hf.get 18 3 rfl) rfl) ?_
        refine sq 18 rfl rfl (Y_move (v := .int .i64 (IntKind.i64.wrap ((i : Int) + 1))) rfl rfl) ?_
        refine rw_nil ?_
        obtain rfl := some_inj hF5
        exact ⟨k_1, Nat.lt_succ_self _, i + 1, (FF.cons (hf.get 1 0 rfl) (FF.cons (hf.get 16 1 rfl) (FF.cons (hf.get 17 2 rfl) (FF.cons (congrArg (Value.int .i64) (wr_succ hlt1 hN)) FF.nil)))), (hS6.sel [0] rfl rfl), (by omega), hL1⟩
    · skip
      obtain rfl : k_ = 0 := by have h := of_decide_eq_false hlt; omega
      refine cw_exit rfl ?_
      obtain rfl := some_inj hL
      refine cw_seq ?_
      refine cw_region ?_
      refine sq 2 rfl rfl (Y_assign (v := .bool true) rfl rfl) ?_
      refine rw_nil ?_
      refine cw_ret ?_
      obtain rfl := some_inj hF3
      exact ret1 Try.results64 (v1 := .bool true) (resAt_tmp rfl) ⟨rfl, (ST.subR (R' := []) (hS3.sel [] rfl rfl) (fun _ h => by cases h))⟩

theorem c_spec_l21Sum_add (s : Tl21Sum) (mask : Int) (k_ : Int) (B : Option Addr) (B1 : Option Addr) (c n : Nat) (w0 : World) (hn : s.terms.length = n) (hq : n ≤ c) (hS : ST w0 (bl [⟨B, 141, [.int .i64 s.phase, .slice B1 n c], 2⟩, ⟨B1, 136, (s.terms.flatMap enc_Term), c * 2⟩]) w0 [⟨B, 141, [.int .i64 s.phase, .slice B1 n c], 2⟩, ⟨B1, 136, (s.terms.flatMap enc_Term), c * 2⟩] []) {m : Tl21Sum} (hF : F_spec_l21Sum_add s mask k_ = some m) :
    CV Try.prog 97 #[pt B 0, .int .i64 mask, .int .i64 k_] w0 (fun v w' => ∃ (B2 : Option Addr) (c1 : Nat), v = .tuple #[] ∧ ST w0 (bl [⟨B, 141, [.int .i64 s.phase, .slice B1 n c], 2⟩, ⟨B1, 136, (s.terms.flatMap enc_Term), c * 2⟩]) w' [⟨B, 141, [.int .i64 m.phase, .slice B2 m.terms.length c1], 2⟩, ⟨B2, 136, (m.terms.flatMap enc_Term), c1 * 2⟩] []) := by
  subst hn
  unfold F_spec_l21Sum_add at hF
  refine cv_of_cw 154 Try.func97 rfl Try.ntmps97 rfl ?_
  refine cw_seq ?_
  refine cw_region ?_
  refine sq 9 rfl rfl (Y_move (v := .int .i64 k_) rfl rfl) ?_
  refine sq 10 rfl rfl (Y_rem (k := .i64) (a := k_) (b := 8) rfl rfl rfl (by decide)) ?_
  refine sq 11 rfl rfl (Y_add (k := .i64) (a := (Int.tmod k_ 8)) (b := 8) rfl rfl rfl) ?_
  refine sq 12 rfl rfl (Y_rem (k := .i64) (a := (IntKind.i64.wrap ((Int.tmod k_ 8) + 8))) (b := 8) rfl rfl rfl (by decide)) ?_
  refine sq 2 rfl rfl (Y_assign (v := .int .i64 (Int.tmod (IntKind.i64.wrap ((Int.tmod k_ 8) + 8)) 8)) rfl rfl) ?_
  refine rw_nil ?_
  refine cw_seq ?_
  refine cw_seq ?_
  refine cw_region ?_
  refine sq 13 rfl rfl (Y_move (v := .int .i64 mask) rfl rfl) ?_
  refine sq 14 rfl rfl (Y_eq (k := .i64) (a := mask) (b := 0) rfl rfl rfl) ?_
  refine rw_nil ?_
  refine cw_cond (b := (mask == 0)) rfl (fun hb => ?_) (fun hb => ?_)
  · skip
    have hF1 := ct hF hb
    refine cw_seq ?_
    refine cw_region ?_
    refine sq 15 rfl rfl (Y_move (v := pt B 0) rfl rfl) ?_
    refine sq 16 rfl rfl (Y_move (v := pt B 0) rfl rfl) ?_
    refine sq 17 rfl rfl (Y_nilCheck (B := B) (i := 0) rfl rfl) ?_
    refine sq 18 rfl rfl (Y_fieldAddr (B := B) (i := 0) (s := 0) k_fd_141_0_0_3 k_sz_3_1 rfl rfl) ?_
    refine sq 19 rfl rfl (Y_load1 (B := B) (i := 0) (cs := [.int .i64 s.phase, .slice B1 s.terms.length c]) (v := .int .i64 s.phase) k_sc_3 rfl rfl (hS.cf (i := 0) rfl) rfl) ?_
    refine sq 20 rfl rfl (Y_move (v := .int .i64 (Int.tmod (IntKind.i64.wrap ((Int.tmod k_ 8) + 8)) 8)) rfl rfl) ?_
    refine sq 21 rfl rfl (Y_add (k := .i64) (a := s.phase) (b := (Int.tmod (IntKind.i64.wrap ((Int.tmod k_ 8) + 8)) 8)) rfl rfl rfl) ?_
    refine sq 22 rfl rfl (Y_rem (k := .i64) (a := (IntKind.i64.wrap (s.phase + (Int.tmod (IntKind.i64.wrap ((Int.tmod k_ 8) + 8)) 8)))) (b := 8) rfl rfl rfl (by decide)) ?_
    refine sq 23 rfl rfl (Y_nilCheck (B := B) (i := 0) rfl rfl) ?_
    refine sq 24 rfl rfl (Y_fieldAddr (B := B) (i := 0) (s := 0) k_fd_141_0_0_3 k_sz_3_1 rfl rfl) ?_
    refine ss0 rfl rfl (Ys_store (i := 0) (s := 1) (B := B) (T' := 141) (v := .int .i64 (Int.tmod (IntKind.i64.wrap (s.phase + (Int.tmod (IntKind.i64.wrap ((Int.tmod k_ 8) + 8)) 8))) 8)) (vs := [.int .i64 (Int.tmod (IntKind.i64.wrap (s.phase + (Int.tmod (IntKind.i64.wrap ((Int.tmod k_ 8) + 8)) 8))) 8)]) (k := 0) (cs' := [.int .i64 (Int.tmod (IntKind.i64.wrap (s.phase + (Int.tmod (IntKind.i64.wrap ((Int.tmod k_ 8) + 8)) 8))) 8), .slice B1 s.terms.length c]) hS k_sz_3_1 rfl rfl rfl rfl rfl rfl rfl (Nat.le_of_ble_eq_true rfl) rfl rfl) ?_
    rintro _ w_ ⟨rfl, hS1⟩
    have hS1 : ST w0 (bl [⟨B, 141, [.int .i64 s.phase, .slice B1 s.terms.length c], 2⟩, ⟨B1, 136, (s.terms.flatMap enc_Term), c * 2⟩]) _ [⟨B, 141, [.int .i64 (Int.tmod (IntKind.i64.wrap (s.phase + (Int.tmod (IntKind.i64.wrap ((Int.tmod k_ 8) + 8)) 8))) 8), .slice B1 s.terms.length c], 2⟩, ⟨B1, 136, (s.terms.flatMap enc_Term), c * 2⟩] [] := hS1
    refine rw_nil ?_
    refine cw_ret ?_
    obtain rfl := some_inj hF1
    exact ret0 Try.results97  ⟨B1, c, rfl, (ST.subR (R' := []) (hS1.sel [0, 1] rfl rfl) (fun _ h => by cases h))⟩
  · skip
    have hF2 := cf' hF hb
    refine cw_skip ?_
    refine cw_seq ?_
    refine cw_seq ?_
    refine cw_region ?_
    refine sq 25 rfl rfl (Y_move (v := .int .i64 (Int.tmod (IntKind.i64.wrap ((Int.tmod k_ 8) + 8)) 8)) rfl rfl) ?_
    refine sq 26 rfl rfl (Y_eq (k := .i64) (a := (Int.tmod (IntKind.i64.wrap ((Int.tmod k_ 8) + 8)) 8)) (b := 0) rfl rfl rfl) ?_
    refine rw_nil ?_
    refine cw_cond (b := ((Int.tmod (IntKind.i64.wrap ((Int.tmod k_ 8) + 8)) 8) == 0)) rfl (fun hb1 => ?_) (fun hb1 => ?_)
    · skip
      have hF3 := ct hF2 hb1
      refine cw_ret ?_
      obtain rfl := some_inj hF3
      exact ret0 Try.results97  ⟨B1, c, rfl, (ST.subR (R' := []) (hS.sel [0, 1] rfl rfl) (fun _ h => by cases h))⟩
    · skip
      have hF4 := cf' hF2 hb1
      refine cw_skip ?_
      refine cw_seq ?_
      refine cw_region ?_
      refine sq 6 rfl rfl (Y_assign (v := .int .i64 0) rfl rfl) ?_
      refine rw_nil ?_
      refine cw_seq ?_
      obtain ⟨z, hz, hF5⟩ := bind_inv hF4
      refine cw_block ?_
      refine cw_loop (fun k f w => ∃ (at_ : Int), FF f [(0, pt B 0), (1, .int .i64 mask), (2, .int .i64 (Int.tmod (IntKind.i64.wrap ((Int.tmod k_ 8) + 8)) 8)), (6, .int .i64 at_)] ∧ ST w0 (bl [⟨B, 141, [.int .i64 s.phase, .slice B1 s.terms.length c], 2⟩, ⟨B1, 136, (s.terms.flatMap enc_Term), c * 2⟩]) w [⟨B, 141, [.int .i64 s.phase, .slice B1 s.terms.length c], 2⟩, ⟨B1, 136, (s.terms.flatMap enc_Term), c * 2⟩] [] ∧ whX (F_spec_l21Sum_add_l1 s mask) k at_ = some z) fuel ⟨0, (FF.cons rfl (FF.cons rfl (FF.cons rfl (FF.cons rfl FF.nil)))), (hS.sel [0, 1] rfl rfl), hz⟩ ?_
      rintro k_1 f w ⟨at_, hf, hS2, hL⟩
      obtain ⟨k_2, y, rfl, hb2, hL1⟩ := whX_go hL
      unfold F_spec_l21Sum_add_l1 at hb2
      refine cw_seq ?_
      refine cw_seq ?_
      refine cw_region ?_
      refine sq 27 rfl rfl (Y_move (v := .int .i64 at_) rfl (hf.get 6 3 rfl)) ?_
      refine sq 28 rfl rfl (Y_move (v := pt B 0) rfl (hf.get 0 0 rfl)) ?_
      refine sq 29 rfl rfl (Y_nilCheck (B := B) (i := 0) rfl rfl) ?_
      refine sq 30 rfl rfl (Y_fieldAddr (B := B) (i := 0) (s := 0) k_fd_141_1_1_54 k_sz_54_1 rfl rfl) ?_
      refine sq 31 rfl rfl (Y_load1 (B := B) (i := 1) (cs := [.int .i64 s.phase, .slice B1 s.terms.length c]) (v := .slice B1 s.terms.length c) k_sc_54 rfl rfl (hS2.cf (i := 0) rfl) rfl) ?_
      refine sq 32 rfl rfl (Y_len (B := B1) (m := s.terms.length) (c := c) k_sl_54_136 rfl rfl) ?_
      refine sq 33 rfl rfl (Y_lt (k := .i64) (a := at_) (b := (s.terms.length : Int)) rfl rfl rfl) ?_
      refine sq 34 rfl rfl (Y_move (v := .bool (decide (at_ < (s.terms.length : Int)))) rfl rfl) ?_
      refine sgq 35 (B := (decide (at_ < (s.terms.length : Int)))) (v := pt B 0) rfl rfl (wt_t (gd_of (t := 34) (by kernel_rfl) rfl)) (fun hg => (Y_move (v := pt B 0) rfl (hf.get 0 0 rfl))) ?_
      refine sgq 36 (B := (decide (at_ < (s.terms.length : Int)))) (v := pt B 0) rfl rfl (wt_t (gd_of (t := 34) (by kernel_rfl) rfl)) (fun hg1 => (Y_nilCheck (B := B) (i := 0) rfl (gv_of (B := (decide (at_ < (s.terms.length : Int)))) (v := pt B 0) hg1))) ?_
      refine sgq 37 (B := (decide (at_ < (s.terms.length : Int)))) (v := pt B 1) rfl rfl (wt_t (gd_of (t := 34) (by kernel_rfl) rfl)) (fun hg2 => (Y_fieldAddr (B := B) (i := 0) (s := 0) k_fd_141_1_1_54 k_sz_54_1 rfl (gv_of (B := (decide (at_ < (s.terms.length : Int)))) (v := pt B 0) hg2))) ?_
      refine sgq 38 (B := (decide (at_ < (s.terms.length : Int)))) (v := .slice B1 s.terms.length c) rfl rfl (wt_t (gd_of (t := 34) (by kernel_rfl) rfl)) (fun hg3 => (Y_load1 (B := B) (i := 1) (cs := [.int .i64 s.phase, .slice B1 s.terms.length c]) (v := .slice B1 s.terms.length c) k_sc_54 rfl (gv_of (B := (decide (at_ < (s.terms.length : Int)))) (v := pt B 1) hg3) (hS2.cf (i := 0) rfl) rfl)) ?_
      refine sgq 39 (B := (decide (at_ < (s.terms.length : Int)))) (v := .int .i64 at_) rfl rfl (wt_t (gd_of (t := 34) (by kernel_rfl) rfl)) (fun hg4 => (Y_move (v := .int .i64 at_) rfl (hf.get 6 3 rfl))) ?_
      obtain ⟨x, hx, hb2⟩ := bind_inv hb2
      refine sgq 40 (B := (decide (at_ < (s.terms.length : Int)))) (v := pt B1 (at_.toNat * 2)) rfl rfl (wt_t (gd_of (t := 34) (by kernel_rfl) rfl)) (fun hg5 => (Y_index (B := B1) (m := s.terms.length) (c := c) (k := .i64) (i := at_) k_sl_54_136 k_sz_136_2 rfl (gv_of (B := (decide (at_ < (s.terms.length : Int)))) (v := .slice B1 s.terms.length c) hg5) (gv_of (B := (decide (at_ < (s.terms.length : Int)))) (v := .int .i64 at_) hg5) (gi_isSome enc_Term_len rfl (hS2.cf (i := 1) rfl) (gb_inv hx hg5)) (getI_nn (gb_inv hx hg5)) (getI_ltI (gb_inv hx hg5) rfl))) ?_
      refine sgq 41 (B := (decide (at_ < (s.terms.length : Int)))) (v := pt B1 (at_.toNat * 2 + 0)) rfl rfl (wt_t (gd_of (t := 34) (by kernel_rfl) rfl)) (fun hg6 => (Y_fieldAddr (B := B1) (i := at_.toNat * 2) (s := 0) k_fd_136_0_0_3 k_sz_3_1 rfl (gv_of (B := (decide (at_ < (s.terms.length : Int)))) (v := pt B1 (at_.toNat * 2)) hg6))) ?_
      refine sgq 42 (B := (decide (at_ < (s.terms.length : Int)))) (v := .int .i64 x.Mask) rfl rfl (wt_t (gd_of (t := 34) (by kernel_rfl) rfl)) (fun hg7 => (Y_load1 (B := B1) (i := at_.toNat * 2 + 0) (cs := (s.terms.flatMap enc_Term)) (v := .int .i64 x.Mask) k_sc_3 rfl (gv_of (B := (decide (at_ < (s.terms.length : Int)))) (v := pt B1 (at_.toNat * 2 + 0)) hg7) (hS2.cf (i := 1) rfl) (gi_at enc_Term_len (gb_inv hx hg7) rfl))) ?_
      refine sgq 43 (B := (decide (at_ < (s.terms.length : Int)))) (v := .int .i64 mask) rfl rfl (wt_t (gd_of (t := 34) (by kernel_rfl) rfl)) (fun hg8 => (Y_move (v := .int .i64 mask) rfl (hf.get 1 1 rfl))) ?_
      refine sgq 44 (B := (decide (at_ < (s.terms.length : Int)))) (v := .bool (decide (x.Mask < mask))) rfl rfl (wt_t (gd_of (t := 34) (by kernel_rfl) rfl)) (fun hg9 => (Y_lt (k := .i64) (a := x.Mask) (b := mask) rfl (gv_of (B := (decide (at_ < (s.terms.length : Int)))) (v := .int .i64 x.Mask) hg9) (gv_of (B := (decide (at_ < (s.terms.length : Int)))) (v := .int .i64 mask) hg9))) ?_
      refine sq 45 rfl rfl (Y_and (b := (decide (at_ < (s.terms.length : Int)))) (z := (decide (x.Mask < mask))) rfl rfl rfl rfl) ?_
      refine rw_nil ?_
      refine cw_cond (b := ((decide (at_ < (s.terms.length : Int))) && (decide (x.Mask < mask)))) rfl (fun hb3 => ?_) (fun hb3 => ?_)
      · skip
        have hF6 := ct hb2 hb3
        refine cw_skip ?_
        refine cw_block ?_
        refine cw_region ?_
        refine sq 46 rfl rfl (Y_move (v := .int .i64 at_) rfl (hf.get 6 3 rfl)) ?_
        refine sq 47 rfl rfl (Y_add (k := .i64) (a := at_) (b := 1) rfl rfl rfl) ?_
        refine sq 6 rfl rfl (Y_assign (v := .int .i64 (IntKind.i64.wrap (at_ + 1))) rfl rfl) ?_
        refine rw_nil ?_
        obtain rfl := some_inj hF6
        exact ⟨k_2, Nat.lt_succ_self _, (IntKind.i64.wrap (at_ + 1)), (FF.cons (hf.get 0 0 rfl) (FF.cons (hf.get 1 1 rfl) (FF.cons (hf.get 2 2 rfl) (FF.cons rfl FF.nil)))), (hS2.sel [0, 1] rfl rfl), hL1⟩
      · skip
        have hF7 := cf' hb2 hb3
        refine cw_exit rfl ?_
        obtain rfl := some_inj hF7
        obtain rfl := some_inj hL1
        refine cw_seq ?_
        refine cw_seq ?_
        refine cw_region ?_
        refine sq 48 rfl rfl (Y_move (v := .int .i64 at_) rfl (hf.get 6 3 rfl)) ?_
        refine sq 49 rfl rfl (Y_move (v := pt B 0) rfl (hf.get 0 0 rfl)) ?_
        refine sq 50 rfl rfl (Y_nilCheck (B := B) (i := 0) rfl rfl) ?_
        refine sq 51 rfl rfl (Y_fieldAddr (B := B) (i := 0) (s := 0) k_fd_141_1_1_54 k_sz_54_1 rfl rfl) ?_
        refine sq 52 rfl rfl (Y_load1 (B := B) (i := 1) (cs := [.int .i64 s.phase, .slice B1 s.terms.length c]) (v := .slice B1 s.terms.length c) k_sc_54 rfl rfl (hS2.cf (i := 0) rfl) rfl) ?_
        refine sq 53 rfl rfl (Y_len (B := B1) (m := s.terms.length) (c := c) k_sl_54_136 rfl rfl) ?_
        refine sq 54 rfl rfl (Y_lt (k := .i64) (a := at_) (b := (s.terms.length : Int)) rfl rfl rfl) ?_
        refine sq 55 rfl rfl (Y_move (v := .bool (decide (at_ < (s.terms.length : Int)))) rfl rfl) ?_
        refine sgq 56 (B := (decide (at_ < (s.terms.length : Int)))) (v := pt B 0) rfl rfl (wt_t (gd_of (t := 55) (by kernel_rfl) rfl)) (fun hg10 => (Y_move (v := pt B 0) rfl (hf.get 0 0 rfl))) ?_
        refine sgq 57 (B := (decide (at_ < (s.terms.length : Int)))) (v := pt B 0) rfl rfl (wt_t (gd_of (t := 55) (by kernel_rfl) rfl)) (fun hg11 => (Y_nilCheck (B := B) (i := 0) rfl (gv_of (B := (decide (at_ < (s.terms.length : Int)))) (v := pt B 0) hg11))) ?_
        refine sgq 58 (B := (decide (at_ < (s.terms.length : Int)))) (v := pt B 1) rfl rfl (wt_t (gd_of (t := 55) (by kernel_rfl) rfl)) (fun hg12 => (Y_fieldAddr (B := B) (i := 0) (s := 0) k_fd_141_1_1_54 k_sz_54_1 rfl (gv_of (B := (decide (at_ < (s.terms.length : Int)))) (v := pt B 0) hg12))) ?_
        refine sgq 59 (B := (decide (at_ < (s.terms.length : Int)))) (v := .slice B1 s.terms.length c) rfl rfl (wt_t (gd_of (t := 55) (by kernel_rfl) rfl)) (fun hg13 => (Y_load1 (B := B) (i := 1) (cs := [.int .i64 s.phase, .slice B1 s.terms.length c]) (v := .slice B1 s.terms.length c) k_sc_54 rfl (gv_of (B := (decide (at_ < (s.terms.length : Int)))) (v := pt B 1) hg13) (hS2.cf (i := 0) rfl) rfl)) ?_
        refine sgq 60 (B := (decide (at_ < (s.terms.length : Int)))) (v := .int .i64 at_) rfl rfl (wt_t (gd_of (t := 55) (by kernel_rfl) rfl)) (fun hg14 => (Y_move (v := .int .i64 at_) rfl (hf.get 6 3 rfl))) ?_
        obtain ⟨x1, hx1, hF5⟩ := bind_inv hF5
        refine sgq 61 (B := (decide (at_ < (s.terms.length : Int)))) (v := pt B1 (at_.toNat * 2)) rfl rfl (wt_t (gd_of (t := 55) (by kernel_rfl) rfl)) (fun hg15 => (Y_index (B := B1) (m := s.terms.length) (c := c) (k := .i64) (i := at_) k_sl_54_136 k_sz_136_2 rfl (gv_of (B := (decide (at_ < (s.terms.length : Int)))) (v := .slice B1 s.terms.length c) hg15) (gv_of (B := (decide (at_ < (s.terms.length : Int)))) (v := .int .i64 at_) hg15) (gi_isSome enc_Term_len rfl (hS2.cf (i := 1) rfl) (gb_inv hx1 hg15)) (getI_nn (gb_inv hx1 hg15)) (getI_ltI (gb_inv hx1 hg15) rfl))) ?_
        refine sgq 62 (B := (decide (at_ < (s.terms.length : Int)))) (v := pt B1 (at_.toNat * 2 + 0)) rfl rfl (wt_t (gd_of (t := 55) (by kernel_rfl) rfl)) (fun hg16 => (Y_fieldAddr (B := B1) (i := at_.toNat * 2) (s := 0) k_fd_136_0_0_3 k_sz_3_1 rfl (gv_of (B := (decide (at_ < (s.terms.length : Int)))) (v := pt B1 (at_.toNat * 2)) hg16))) ?_
        refine sgq 63 (B := (decide (at_ < (s.terms.length : Int)))) (v := .int .i64 x1.Mask) rfl rfl (wt_t (gd_of (t := 55) (by kernel_rfl) rfl)) (fun hg17 => (Y_load1 (B := B1) (i := at_.toNat * 2 + 0) (cs := (s.terms.flatMap enc_Term)) (v := .int .i64 x1.Mask) k_sc_3 rfl (gv_of (B := (decide (at_ < (s.terms.length : Int)))) (v := pt B1 (at_.toNat * 2 + 0)) hg17) (hS2.cf (i := 1) rfl) (gi_at enc_Term_len (gb_inv hx1 hg17) rfl))) ?_
        refine sgq 64 (B := (decide (at_ < (s.terms.length : Int)))) (v := .int .i64 mask) rfl rfl (wt_t (gd_of (t := 55) (by kernel_rfl) rfl)) (fun hg18 => (Y_move (v := .int .i64 mask) rfl (hf.get 1 1 rfl))) ?_
        refine sgq 65 (B := (decide (at_ < (s.terms.length : Int)))) (v := .bool (x1.Mask == mask)) rfl rfl (wt_t (gd_of (t := 55) (by kernel_rfl) rfl)) (fun hg19 => (Y_eq (k := .i64) (a := x1.Mask) (b := mask) rfl (gv_of (B := (decide (at_ < (s.terms.length : Int)))) (v := .int .i64 x1.Mask) hg19) (gv_of (B := (decide (at_ < (s.terms.length : Int)))) (v := .int .i64 mask) hg19))) ?_
        refine sq 66 rfl rfl (Y_and (b := (decide (at_ < (s.terms.length : Int)))) (z := (x1.Mask == mask)) rfl rfl rfl rfl) ?_
        refine rw_nil ?_
        refine cw_cond (b := ((decide (at_ < (s.terms.length : Int))) && (x1.Mask == mask))) rfl (fun hb4 => ?_) (fun hb4 => ?_)
        · skip
          have hF8 := ct hF5 hb4
          refine cw_seq ?_
          refine cw_region ?_
          refine sq 67 rfl rfl (Y_move (v := .int .i64 (Int.tmod (IntKind.i64.wrap ((Int.tmod k_ 8) + 8)) 8)) rfl (hf.get 2 2 rfl)) ?_
          refine sq 68 rfl rfl (Y_move (v := pt B 0) rfl (hf.get 0 0 rfl)) ?_
          refine sq 69 rfl rfl (Y_nilCheck (B := B) (i := 0) rfl rfl) ?_
          refine sq 70 rfl rfl (Y_fieldAddr (B := B) (i := 0) (s := 0) k_fd_141_1_1_54 k_sz_54_1 rfl rfl) ?_
          refine sq 71 rfl rfl (Y_load1 (B := B) (i := 1) (cs := [.int .i64 s.phase, .slice B1 s.terms.length c]) (v := .slice B1 s.terms.length c) k_sc_54 rfl rfl (hS2.cf (i := 0) rfl) rfl) ?_
          refine sq 72 rfl rfl (Y_move (v := .int .i64 at_) rfl (hf.get 6 3 rfl)) ?_
          obtain ⟨x2, hx2, hF8⟩ := bind_inv hF8
          refine sq 73 rfl rfl (Y_index (B := B1) (m := s.terms.length) (c := c) (k := .i64) (i := at_) k_sl_54_136 k_sz_136_2 rfl rfl rfl (gi_isSome enc_Term_len rfl (hS2.cf (i := 1) rfl) hx2) (getI_nn hx2) (getI_ltI hx2 rfl)) ?_
          refine sq 74 rfl rfl (Y_fieldAddr (B := B1) (i := at_.toNat * 2) (s := 0) k_fd_136_1_1_3 k_sz_3_1 rfl rfl) ?_
          refine sq 75 rfl rfl (Y_load1 (B := B1) (i := at_.toNat * 2 + 1) (cs := (s.terms.flatMap enc_Term)) (v := .int .i64 x2.Coef) k_sc_3 rfl rfl (hS2.cf (i := 1) rfl) (gi_at enc_Term_len hx2 rfl)) ?_
          refine sq 76 rfl rfl (Y_add (k := .i64) (a := (Int.tmod (IntKind.i64.wrap ((Int.tmod k_ 8) + 8)) 8)) (b := x2.Coef) rfl rfl rfl) ?_
          refine sq 77 rfl rfl (Y_rem (k := .i64) (a := (IntKind.i64.wrap ((Int.tmod (IntKind.i64.wrap ((Int.tmod k_ 8) + 8)) 8) + x2.Coef))) (b := 8) rfl rfl rfl (by decide)) ?_
          refine sq 2 rfl rfl (Y_assign (v := .int .i64 (Int.tmod (IntKind.i64.wrap ((Int.tmod (IntKind.i64.wrap ((Int.tmod k_ 8) + 8)) 8) + x2.Coef)) 8)) rfl rfl) ?_
          refine rw_nil ?_
          refine cw_seq ?_
          refine cw_region ?_
          refine ss 78 rfl rfl (Ys_bslice0 (s := 2) (e := 136) hS2 k_sl_54_136 k_sz_136_2 rfl) ?_
          rintro _ w_1 ⟨b, rfl, hS3⟩
          have hS3 : ST w0 (bl [⟨B, 141, [.int .i64 s.phase, .slice B1 s.terms.length c], 2⟩, ⟨B1, 136, (s.terms.flatMap enc_Term), c * 2⟩]) _ [⟨B, 141, [.int .i64 s.phase, .slice B1 s.terms.length c], 2⟩, ⟨B1, 136, (s.terms.flatMap enc_Term), c * 2⟩, ⟨some ⟨b, 0, none⟩, 136, ([].flatMap enc_Term), 0 * 2⟩] [] := hS3
          refine sq 79 rfl rfl (Y_move (v := pt B 0) rfl (hf.get 0 0 rfl)) ?_
          refine sq 80 rfl rfl (Y_nilCheck (B := B) (i := 0) rfl rfl) ?_
          refine sq 81 rfl rfl (Y_fieldAddr (B := B) (i := 0) (s := 0) k_fd_141_1_1_54 k_sz_54_1 rfl rfl) ?_
          refine sq 82 rfl rfl (Y_load1 (B := B) (i := 1) (cs := [.int .i64 s.phase, .slice B1 s.terms.length c]) (v := .slice B1 s.terms.length c) k_sc_54 rfl rfl (hS3.cf (i := 0) rfl) rfl) ?_
          refine sq 83 rfl rfl (Y_move (v := .int .i64 at_) rfl (hf.get 6 3 rfl)) ?_
          refine sq 84 rfl rfl (Y_add (k := .i64) (a := at_) (b := 1) rfl rfl rfl) ?_
          obtain ⟨hsl, hF8⟩ := chk_inv hF8
          have hcap : s.terms.length ≤ c := (hS3.lencap (i := 1) rfl (fm_lenn (l := s.terms) enc_Term_len rfl) rfl rfl)
          have ho1 : Org w0 (bl [⟨B, 141, [.int .i64 s.phase, .slice B1 s.terms.length c], 2⟩, ⟨B1, 136, (s.terms.flatMap enc_Term), c * 2⟩]) [] [⟨B1, (s.terms.flatMap enc_Term)⟩] := ST.orgOwn hS3 (i := 1) rfl
          have hcap1 : s.terms.length ≤ c := (hS3.lencap (i := 1) rfl (fm_lenn (l := s.terms) enc_Term_len rfl) rfl rfl)
          have hS4 : ST w0 (bl [⟨B, 141, [.int .i64 s.phase, .slice B1 s.terms.length c], 2⟩, ⟨B1, 136, (s.terms.flatMap enc_Term), c * 2⟩]) _ [⟨B, 141, [.int .i64 s.phase, .slice B1 s.terms.length c], 2⟩, ⟨some ⟨b, 0, none⟩, 136, ([].flatMap enc_Term), 0 * 2⟩] [⟨B1, (s.terms.flatMap enc_Term)⟩] := hS3.freeze (i := 1) rfl
          have hv : (List.drop ((IntKind.i64.wrap (at_ + 1)).toNat) s.terms).length = (s.terms.length - (IntKind.i64.wrap (at_ + 1)).toNat) := (drop_len rfl)
          have hq1 : (s.terms.length - (IntKind.i64.wrap (at_ + 1)).toNat) ≤ (c - (IntKind.i64.wrap (at_ + 1)).toNat) := by omega
          have ho : Org w0 (bl [⟨B, 141, [.int .i64 s.phase, .slice B1 s.terms.length c], 2⟩, ⟨B1, 136, (s.terms.flatMap enc_Term), c * 2⟩]) [] [⟨(sv B1 ((IntKind.i64.wrap (at_ + 1)).toNat) c 2), ((List.drop ((IntKind.i64.wrap (at_ + 1)).toNat) s.terms).flatMap enc_Term)⟩] := org_view enc_Term_len (q := c) ho1 rfl (take_all rfl _)
          have hS5 : ST w0 (bl [⟨B, 141, [.int .i64 s.phase, .slice B1 s.terms.length c], 2⟩, ⟨B1, 136, (s.terms.flatMap enc_Term), c * 2⟩]) _ [⟨B, 141, [.int .i64 s.phase, .slice B1 s.terms.length c], 2⟩, ⟨some ⟨b, 0, none⟩, 136, ([].flatMap enc_Term), 0 * 2⟩] [⟨(sv B1 ((IntKind.i64.wrap (at_ + 1)).toNat) c 2), ((List.drop ((IntKind.i64.wrap (at_ + 1)).toNat) s.terms).flatMap enc_Term)⟩, ⟨B1, (s.terms.flatMap enc_Term)⟩] := ST.view enc_Term_len hS4 (i := 0) rfl (lo := (IntKind.i64.wrap (at_ + 1)).toNat) (h := s.terms.length) (q := c) (by omega) (by omega) rfl (take_all rfl _)
          refine sq 85 rfl rfl (Y_slice1 (B := B1) (m := s.terms.length) (c := c) (l := (IntKind.i64.wrap (at_ + 1)).toNat) (h := s.terms.length) (s := 2) k_sl_54_136 k_sz_136_2 rfl rfl rfl (bnd_some rfl (nn_toNat (by omega))) (by omega) (by omega)) ?_
          obtain ⟨hap, hF8⟩ := chk_inv hF8
          refine ss 86 rfl rfl (Ys_append (s := 2) (by' := 16) (i := 1) (nn := 0) (c := 0) (k := (s.terms.length - (IntKind.i64.wrap (at_ + 1)).toNat)) (len := (List.drop ((IntKind.i64.wrap (at_ + 1)).toNat) s.terms).length) (B := some ⟨b, 0, none⟩) (xs := ((List.drop ((IntKind.i64.wrap (at_ + 1)).toNat) s.terms).flatMap enc_Term)) (cs' := ((List.drop ((IntKind.i64.wrap (at_ + 1)).toNat) s.terms).flatMap enc_Term)) hS5 k_sl_54_136 k_sz_136_2 k_by_136_16 k_zero_136 rfl (by decide) rfl rfl rfl rfl (fm_lenn (l := []) enc_Term_len rfl) rfl (hS5.rf (i := 0) rfl) (fm_lenn (l := (List.drop ((IntKind.i64.wrap (at_ + 1)).toNat) s.terms)) enc_Term_len hv) (fm_one' (enc := enc_Term) enc_Term_one (List.drop ((IntKind.i64.wrap (at_ + 1)).toNat) s.terms)) (by have := hap; omega) (by have := hap; simp only [maxLen]; omega) rfl (app_len0 (l := (List.drop ((IntKind.i64.wrap (at_ + 1)).toNat) s.terms)) hv)) ?_
          rintro _ w_2 ⟨B3, c2, rfl, hS6⟩
          have hS6 : ST w0 (bl [⟨B, 141, [.int .i64 s.phase, .slice B1 s.terms.length c], 2⟩, ⟨B1, 136, (s.terms.flatMap enc_Term), c * 2⟩]) _ [⟨B, 141, [.int .i64 s.phase, .slice B1 s.terms.length c], 2⟩, ⟨B3, 136, ((List.drop ((IntKind.i64.wrap (at_ + 1)).toNat) s.terms).flatMap enc_Term), c2 * 2⟩] [⟨(sv B1 ((IntKind.i64.wrap (at_ + 1)).toNat) c 2), ((List.drop ((IntKind.i64.wrap (at_ + 1)).toNat) s.terms).flatMap enc_Term)⟩, ⟨B1, (s.terms.flatMap enc_Term)⟩] := hS6
          refine sq 7 rfl rfl (Y_assign (v := .slice B3 ((List.drop ((IntKind.i64.wrap (at_ + 1)).toNat) s.terms).length) c2) rfl rfl) ?_
          refine rw_nil ?_
          refine cw_seq ?_
          refine cw_region ?_
          refine sq 87 rfl rfl (Y_move (v := pt B 0) rfl (hf.get 0 0 rfl)) ?_
          refine ss 88 rfl rfl (Ys_bslice0 (s := 2) (e := 136) hS6 k_sl_54_136 k_sz_136_2 rfl) ?_
          rintro _ w_3 ⟨b1, rfl, hS7⟩
          have hS7 : ST w0 (bl [⟨B, 141, [.int .i64 s.phase, .slice B1 s.terms.length c], 2⟩, ⟨B1, 136, (s.terms.flatMap enc_Term), c * 2⟩]) _ [⟨B, 141, [.int .i64 s.phase, .slice B1 s.terms.length c], 2⟩, ⟨B3, 136, ((List.drop ((IntKind.i64.wrap (at_ + 1)).toNat) s.terms).flatMap enc_Term), c2 * 2⟩, ⟨some ⟨b1, 0, none⟩, 136, ([].flatMap enc_Term), 0 * 2⟩] [⟨(sv B1 ((IntKind.i64.wrap (at_ + 1)).toNat) c 2), ((List.drop ((IntKind.i64.wrap (at_ + 1)).toNat) s.terms).flatMap enc_Term)⟩, ⟨B1, (s.terms.flatMap enc_Term)⟩] := hS7
          refine sq 89 rfl rfl (Y_move (v := pt B 0) rfl (hf.get 0 0 rfl)) ?_
          refine sq 90 rfl rfl (Y_nilCheck (B := B) (i := 0) rfl rfl) ?_
          refine sq 91 rfl rfl (Y_fieldAddr (B := B) (i := 0) (s := 0) k_fd_141_1_1_54 k_sz_54_1 rfl rfl) ?_
          refine sq 92 rfl rfl (Y_load1 (B := B) (i := 1) (cs := [.int .i64 s.phase, .slice B1 s.terms.length c]) (v := .slice B1 s.terms.length c) k_sc_54 rfl rfl (hS7.cf (i := 0) rfl) rfl) ?_
          refine sq 93 rfl rfl (Y_move (v := .int .i64 at_) rfl (hf.get 6 3 rfl)) ?_
          obtain ⟨hsl1, hF8⟩ := chk_inv hF8
          have hcap2 : s.terms.length ≤ c := hcap1
          have hv1 : (List.take at_.toNat s.terms).length = at_.toNat := (take_len rfl (by omega))
          have hq2 : at_.toNat ≤ c := by omega
          have ho2 : Org w0 (bl [⟨B, 141, [.int .i64 s.phase, .slice B1 s.terms.length c], 2⟩, ⟨B1, 136, (s.terms.flatMap enc_Term), c * 2⟩]) [] [⟨B1, ((List.take at_.toNat s.terms).flatMap enc_Term)⟩] := org_view enc_Term_len (q := c) ho1 (sv_zero _ _ _).symm rfl
          have hS8 : ST w0 (bl [⟨B, 141, [.int .i64 s.phase, .slice B1 s.terms.length c], 2⟩, ⟨B1, 136, (s.terms.flatMap enc_Term), c * 2⟩]) _ [⟨B, 141, [.int .i64 s.phase, .slice B1 s.terms.length c], 2⟩, ⟨B3, 136, ((List.drop ((IntKind.i64.wrap (at_ + 1)).toNat) s.terms).flatMap enc_Term), c2 * 2⟩, ⟨some ⟨b1, 0, none⟩, 136, ([].flatMap enc_Term), 0 * 2⟩] [⟨B1, ((List.take at_.toNat s.terms).flatMap enc_Term)⟩, ⟨(sv B1 ((IntKind.i64.wrap (at_ + 1)).toNat) c 2), ((List.drop ((IntKind.i64.wrap (at_ + 1)).toNat) s.terms).flatMap enc_Term)⟩, ⟨B1, (s.terms.flatMap enc_Term)⟩] := ST.view enc_Term_len hS7 (i := 1) rfl (lo := 0) (h := at_.toNat) (q := c) (by omega) (by omega) (sv_zero _ _ _).symm rfl
          refine sq 94 rfl rfl (Y_slice0 (B := B1) (m := s.terms.length) (c := c) (h := at_.toNat) (s := 2) k_sl_54_136 k_sz_136_2 rfl rfl (bnd_some rfl (nn_toNat (by omega))) (by omega)) ?_
          obtain ⟨hap1, hF8⟩ := chk_inv hF8
          refine ss 95 rfl rfl (Ys_append (s := 2) (by' := 16) (i := 2) (nn := 0) (c := 0) (k := at_.toNat) (len := (List.take at_.toNat s.terms).length) (B := some ⟨b1, 0, none⟩) (xs := ((List.take at_.toNat s.terms).flatMap enc_Term)) (cs' := ((List.take at_.toNat s.terms).flatMap enc_Term)) hS8 k_sl_54_136 k_sz_136_2 k_by_136_16 k_zero_136 rfl (by decide) rfl rfl rfl rfl (fm_lenn (l := []) enc_Term_len rfl) rfl (hS8.rf (i := 0) rfl) (fm_lenn (l := (List.take at_.toNat s.terms)) enc_Term_len hv1) (fm_one' (enc := enc_Term) enc_Term_one (List.take at_.toNat s.terms)) (by have := hap1; omega) (by have := hap1; simp only [maxLen]; omega) rfl (app_len0 (l := (List.take at_.toNat s.terms)) hv1)) ?_
          rintro _ w_4 ⟨B4, c3, rfl, hS9⟩
          have hS9 : ST w0 (bl [⟨B, 141, [.int .i64 s.phase, .slice B1 s.terms.length c], 2⟩, ⟨B1, 136, (s.terms.flatMap enc_Term), c * 2⟩]) _ [⟨B, 141, [.int .i64 s.phase, .slice B1 s.terms.length c], 2⟩, ⟨B3, 136, ((List.drop ((IntKind.i64.wrap (at_ + 1)).toNat) s.terms).flatMap enc_Term), c2 * 2⟩, ⟨B4, 136, ((List.take at_.toNat s.terms).flatMap enc_Term), c3 * 2⟩] [⟨B1, ((List.take at_.toNat s.terms).flatMap enc_Term)⟩, ⟨(sv B1 ((IntKind.i64.wrap (at_ + 1)).toNat) c 2), ((List.drop ((IntKind.i64.wrap (at_ + 1)).toNat) s.terms).flatMap enc_Term)⟩, ⟨B1, (s.terms.flatMap enc_Term)⟩] := hS9
          refine sq 96 rfl rfl (Y_nilCheck (B := B) (i := 0) rfl rfl) ?_
          refine sq 97 rfl rfl (Y_fieldAddr (B := B) (i := 0) (s := 0) k_fd_141_1_1_54 k_sz_54_1 rfl rfl) ?_
          refine ss0 rfl rfl (Ys_store (i := 0) (s := 1) (B := B) (T' := 141) (v := .slice B4 ((List.take at_.toNat s.terms).length) c3) (vs := [.slice B4 ((List.take at_.toNat s.terms).length) c3]) (k := 1) (cs' := [.int .i64 s.phase, .slice B4 ((List.take at_.toNat s.terms).length) c3]) hS9 k_sz_54_1 rfl rfl rfl rfl rfl rfl rfl (Nat.le_of_ble_eq_true rfl) rfl rfl) ?_
          rintro _ w_5 ⟨rfl, hS10⟩
          have hS10 : ST w0 (bl [⟨B, 141, [.int .i64 s.phase, .slice B1 s.terms.length c], 2⟩, ⟨B1, 136, (s.terms.flatMap enc_Term), c * 2⟩]) _ [⟨B, 141, [.int .i64 s.phase, .slice B4 ((List.take at_.toNat s.terms).length) c3], 2⟩, ⟨B3, 136, ((List.drop ((IntKind.i64.wrap (at_ + 1)).toNat) s.terms).flatMap enc_Term), c2 * 2⟩, ⟨B4, 136, ((List.take at_.toNat s.terms).flatMap enc_Term), c3 * 2⟩] [⟨B1, ((List.take at_.toNat s.terms).flatMap enc_Term)⟩, ⟨(sv B1 ((IntKind.i64.wrap (at_ + 1)).toNat) c 2), ((List.drop ((IntKind.i64.wrap (at_ + 1)).toNat) s.terms).flatMap enc_Term)⟩, ⟨B1, (s.terms.flatMap enc_Term)⟩] := hS10
          refine rw_nil ?_
          refine cw_seq ?_
          obtain ⟨z1, hz1, hF9⟩ := bind_inv hF8
          refine cw_mid (fun f w => ∃ (terms : List TTerm) (B5 : Option Addr) (c4 : Nat), terms = z1 ∧ FF f [(0, pt B 0), (7, .slice B3 ((List.drop ((IntKind.i64.wrap (at_ + 1)).toNat) s.terms).length) c2)] ∧ ST w0 (bl [⟨B, 141, [.int .i64 s.phase, .slice B1 s.terms.length c], 2⟩, ⟨B1, 136, (s.terms.flatMap enc_Term), c * 2⟩]) w [⟨B, 141, [.int .i64 s.phase, .slice B5 terms.length c4], 2⟩, ⟨B5, 136, (terms.flatMap enc_Term), c4 * 2⟩, ⟨B3, 136, ((List.drop ((IntKind.i64.wrap (at_ + 1)).toNat) s.terms).flatMap enc_Term), c2 * 2⟩] [⟨B1, ((List.take at_.toNat s.terms).flatMap enc_Term)⟩, ⟨(sv B1 ((IntKind.i64.wrap (at_ + 1)).toNat) c 2), ((List.drop ((IntKind.i64.wrap (at_ + 1)).toNat) s.terms).flatMap enc_Term)⟩, ⟨B1, (s.terms.flatMap enc_Term)⟩]) ?_ ?_
          · skip
            refine cw_seq ?_
            refine cw_region ?_
            refine sq 98 rfl rfl (Y_move (v := .int .i64 (Int.tmod (IntKind.i64.wrap ((Int.tmod (IntKind.i64.wrap ((Int.tmod k_ 8) + 8)) 8) + x2.Coef)) 8)) rfl rfl) ?_
            refine sq 99 rfl rfl (Y_gt (k := .i64) (a := (Int.tmod (IntKind.i64.wrap ((Int.tmod (IntKind.i64.wrap ((Int.tmod k_ 8) + 8)) 8) + x2.Coef)) 8)) (b := 0) rfl rfl rfl) ?_
            refine rw_nil ?_
            refine cw_cond (b := (decide (0 < (Int.tmod (IntKind.i64.wrap ((Int.tmod (IntKind.i64.wrap ((Int.tmod k_ 8) + 8)) 8) + x2.Coef)) 8)))) rfl (fun hb5 => ?_) (fun hb5 => ?_)
            · skip
              have hF10 := ct hz1 hb5
              refine cw_region ?_
              refine sq 100 rfl rfl (Y_move (v := pt B 0) rfl (hf.get 0 0 rfl)) ?_
              refine sq 101 rfl rfl (Y_move (v := pt B 0) rfl (hf.get 0 0 rfl)) ?_
              refine sq 102 rfl rfl (Y_nilCheck (B := B) (i := 0) rfl rfl) ?_
              refine sq 103 rfl rfl (Y_fieldAddr (B := B) (i := 0) (s := 0) k_fd_141_1_1_54 k_sz_54_1 rfl rfl) ?_
              refine sq 104 rfl rfl (Y_load1 (B := B) (i := 1) (cs := [.int .i64 s.phase, .slice B4 ((List.take at_.toNat s.terms).length) c3]) (v := .slice B4 ((List.take at_.toNat s.terms).length) c3) k_sc_54 rfl rfl (hS10.cf (i := 0) rfl) rfl) ?_
              refine sq 105 rfl rfl (Y_move (v := .int .i64 mask) rfl (hf.get 1 1 rfl)) ?_
              refine sq 106 rfl rfl (Y_move (v := .int .i64 (Int.tmod (IntKind.i64.wrap ((Int.tmod (IntKind.i64.wrap ((Int.tmod k_ 8) + 8)) 8) + x2.Coef)) 8)) rfl rfl) ?_
              refine sq 107 rfl rfl (Y_buildS (zs := [.int .i64 0, .int .i64 0]) (vs := [(0, .int .i64 mask), (1, .int .i64 (Int.tmod (IntKind.i64.wrap ((Int.tmod (IntKind.i64.wrap ((Int.tmod k_ 8) + 8)) 8) + x2.Coef)) 8))]) (cs := [.int .i64 mask, .int .i64 (Int.tmod (IntKind.i64.wrap ((Int.tmod (IntKind.i64.wrap ((Int.tmod k_ 8) + 8)) 8) + x2.Coef)) 8)]) k_pl_136 k_zero_136 rfl (mpc rfl (mpc rfl mpn)) rfl) ?_
              refine ss 108 rfl rfl (Ys_bslice (s := 2) (len := 1) (vs := [(0, .agg #[.int .i64 mask, .int .i64 (Int.tmod (IntKind.i64.wrap ((Int.tmod (IntKind.i64.wrap ((Int.tmod k_ 8) + 8)) 8) + x2.Coef)) 8)])]) (cs := [.int .i64 mask, .int .i64 (Int.tmod (IntKind.i64.wrap ((Int.tmod (IntKind.i64.wrap ((Int.tmod k_ 8) + 8)) 8) + x2.Coef)) 8)]) (zs := [.int .i64 0, .int .i64 0]) (m := 2) hS10 k_sl_54_136 k_sz_136_2 k_zc_136 rfl (mpc rfl mpn) rfl rfl rfl (by kernel_rfl) (by kernel_rfl) rfl) ?_
              rintro _ w_6 ⟨b2, rfl, hS12⟩
              have hS12 : ST w0 (bl [⟨B, 141, [.int .i64 s.phase, .slice B1 s.terms.length c], 2⟩, ⟨B1, 136, (s.terms.flatMap enc_Term), c * 2⟩]) _ [⟨B, 141, [.int .i64 s.phase, .slice B4 ((List.take at_.toNat s.terms).length) c3], 2⟩, ⟨B3, 136, ((List.drop ((IntKind.i64.wrap (at_ + 1)).toNat) s.terms).flatMap enc_Term), c2 * 2⟩, ⟨B4, 136, ((List.take at_.toNat s.terms).flatMap enc_Term), c3 * 2⟩, ⟨some ⟨b2, 0, none⟩, 136, ([(TTerm.mk mask (Int.tmod (IntKind.i64.wrap ((Int.tmod (IntKind.i64.wrap ((Int.tmod k_ 8) + 8)) 8) + x2.Coef)) 8))].flatMap enc_Term), 1 * 2⟩] [⟨B1, ((List.take at_.toNat s.terms).flatMap enc_Term)⟩, ⟨(sv B1 ((IntKind.i64.wrap (at_ + 1)).toNat) c 2), ((List.drop ((IntKind.i64.wrap (at_ + 1)).toNat) s.terms).flatMap enc_Term)⟩, ⟨B1, (s.terms.flatMap enc_Term)⟩] := hS12
              obtain ⟨hap2, hF10⟩ := chk_inv hF10
              refine ss 109 rfl rfl (Ys_append (s := 2) (by' := 16) (i := 2) (nn := (List.take at_.toNat s.terms).length) (c := c3) (k := 1) (len := ((List.take at_.toNat s.terms) ++ [(TTerm.mk mask (Int.tmod (IntKind.i64.wrap ((Int.tmod (IntKind.i64.wrap ((Int.tmod k_ 8) + 8)) 8) + x2.Coef)) 8))]).length) (B := B4) (xs := ([(TTerm.mk mask (Int.tmod (IntKind.i64.wrap ((Int.tmod (IntKind.i64.wrap ((Int.tmod k_ 8) + 8)) 8) + x2.Coef)) 8))].flatMap enc_Term)) (cs' := (((List.take at_.toNat s.terms) ++ [(TTerm.mk mask (Int.tmod (IntKind.i64.wrap ((Int.tmod (IntKind.i64.wrap ((Int.tmod k_ 8) + 8)) 8) + x2.Coef)) 8))]).flatMap enc_Term)) hS12 k_sl_54_136 k_sz_136_2 k_by_136_16 k_zero_136 rfl (by decide) rfl rfl rfl rfl (fm_lenn (l := (List.take at_.toNat s.terms)) enc_Term_len rfl) rfl (hS12.cf (i := 3) rfl) (fm_lenn (l := [(TTerm.mk mask (Int.tmod (IntKind.i64.wrap ((Int.tmod (IntKind.i64.wrap ((Int.tmod k_ 8) + 8)) 8) + x2.Coef)) 8))]) enc_Term_len rfl) (fm_one' (enc := enc_Term) enc_Term_one [(TTerm.mk mask (Int.tmod (IntKind.i64.wrap ((Int.tmod (IntKind.i64.wrap ((Int.tmod k_ 8) + 8)) 8) + x2.Coef)) 8))]) (by have := hap2; omega) (by have := hap2; simp only [maxLen]; omega) (fm_app _ _) (app_len (l := (List.take at_.toNat s.terms)) (l' := [(TTerm.mk mask (Int.tmod (IntKind.i64.wrap ((Int.tmod (IntKind.i64.wrap ((Int.tmod k_ 8) + 8)) 8) + x2.Coef)) 8))]) rfl rfl)) ?_
              rintro _ w_7 ⟨B6, c5, rfl, hS13⟩
              have hS13 : ST w0 (bl [⟨B, 141, [.int .i64 s.phase, .slice B1 s.terms.length c], 2⟩, ⟨B1, 136, (s.terms.flatMap enc_Term), c * 2⟩]) _ [⟨B, 141, [.int .i64 s.phase, .slice B4 ((List.take at_.toNat s.terms).length) c3], 2⟩, ⟨B3, 136, ((List.drop ((IntKind.i64.wrap (at_ + 1)).toNat) s.terms).flatMap enc_Term), c2 * 2⟩, ⟨B6, 136, (((List.take at_.toNat s.terms) ++ [(TTerm.mk mask (Int.tmod (IntKind.i64.wrap ((Int.tmod (IntKind.i64.wrap ((Int.tmod k_ 8) + 8)) 8) + x2.Coef)) 8))]).flatMap enc_Term), c5 * 2⟩, ⟨some ⟨b2, 0, none⟩, 136, ([(TTerm.mk mask (Int.tmod (IntKind.i64.wrap ((Int.tmod (IntKind.i64.wrap ((Int.tmod k_ 8) + 8)) 8) + x2.Coef)) 8))].flatMap enc_Term), 1 * 2⟩] [⟨B1, ((List.take at_.toNat s.terms).flatMap enc_Term)⟩, ⟨(sv B1 ((IntKind.i64.wrap (at_ + 1)).toNat) c 2), ((List.drop ((IntKind.i64.wrap (at_ + 1)).toNat) s.terms).flatMap enc_Term)⟩, ⟨B1, (s.terms.flatMap enc_Term)⟩] := hS13
              refine sq 110 rfl rfl (Y_nilCheck (B := B) (i := 0) rfl rfl) ?_
              refine sq 111 rfl rfl (Y_fieldAddr (B := B) (i := 0) (s := 0) k_fd_141_1_1_54 k_sz_54_1 rfl rfl) ?_
              refine ss0 rfl rfl (Ys_store (i := 0) (s := 1) (B := B) (T' := 141) (v := .slice B6 (((List.take at_.toNat s.terms) ++ [(TTerm.mk mask (Int.tmod (IntKind.i64.wrap ((Int.tmod (IntKind.i64.wrap ((Int.tmod k_ 8) + 8)) 8) + x2.Coef)) 8))]).length) c5) (vs := [.slice B6 (((List.take at_.toNat s.terms) ++ [(TTerm.mk mask (Int.tmod (IntKind.i64.wrap ((Int.tmod (IntKind.i64.wrap ((Int.tmod k_ 8) + 8)) 8) + x2.Coef)) 8))]).length) c5]) (k := 1) (cs' := [.int .i64 s.phase, .slice B6 (((List.take at_.toNat s.terms) ++ [(TTerm.mk mask (Int.tmod (IntKind.i64.wrap ((Int.tmod (IntKind.i64.wrap ((Int.tmod k_ 8) + 8)) 8) + x2.Coef)) 8))]).length) c5]) hS13 k_sz_54_1 rfl rfl rfl rfl rfl rfl rfl (Nat.le_of_ble_eq_true rfl) rfl rfl) ?_
              rintro _ w_8 ⟨rfl, hS14⟩
              have hS14 : ST w0 (bl [⟨B, 141, [.int .i64 s.phase, .slice B1 s.terms.length c], 2⟩, ⟨B1, 136, (s.terms.flatMap enc_Term), c * 2⟩]) _ [⟨B, 141, [.int .i64 s.phase, .slice B6 (((List.take at_.toNat s.terms) ++ [(TTerm.mk mask (Int.tmod (IntKind.i64.wrap ((Int.tmod (IntKind.i64.wrap ((Int.tmod k_ 8) + 8)) 8) + x2.Coef)) 8))]).length) c5], 2⟩, ⟨B3, 136, ((List.drop ((IntKind.i64.wrap (at_ + 1)).toNat) s.terms).flatMap enc_Term), c2 * 2⟩, ⟨B6, 136, (((List.take at_.toNat s.terms) ++ [(TTerm.mk mask (Int.tmod (IntKind.i64.wrap ((Int.tmod (IntKind.i64.wrap ((Int.tmod k_ 8) + 8)) 8) + x2.Coef)) 8))]).flatMap enc_Term), c5 * 2⟩, ⟨some ⟨b2, 0, none⟩, 136, ([(TTerm.mk mask (Int.tmod (IntKind.i64.wrap ((Int.tmod (IntKind.i64.wrap ((Int.tmod k_ 8) + 8)) 8) + x2.Coef)) 8))].flatMap enc_Term), 1 * 2⟩] [⟨B1, ((List.take at_.toNat s.terms).flatMap enc_Term)⟩, ⟨(sv B1 ((IntKind.i64.wrap (at_ + 1)).toNat) c 2), ((List.drop ((IntKind.i64.wrap (at_ + 1)).toNat) s.terms).flatMap enc_Term)⟩, ⟨B1, (s.terms.flatMap enc_Term)⟩] := hS14
              refine rw_nil ?_
              exact ⟨((List.take at_.toNat s.terms) ++ [(TTerm.mk mask (Int.tmod (IntKind.i64.wrap ((Int.tmod (IntKind.i64.wrap ((Int.tmod k_ 8) + 8)) 8) + x2.Coef)) 8))]), B6, c5, (some_inj hF10), (FF.cons (hf.get 0 0 rfl) (FF.cons rfl FF.nil)), (hS14.sel [0, 2, 1] rfl rfl)⟩
            · skip
              have hF11 := cf' hz1 hb5
              refine cw_skip ?_
              exact ⟨(List.take at_.toNat s.terms), B4, c3, (some_inj hF11), (FF.cons (hf.get 0 0 rfl) (FF.cons rfl FF.nil)), (hS10.sel [0, 2, 1] rfl rfl)⟩
          rintro f w ⟨terms, B5, c4, rfl, hf1, hS11⟩
          refine cw_seq ?_
          refine cw_region ?_
          refine sq 112 rfl rfl (Y_move (v := pt B 0) rfl (hf1.get 0 0 rfl)) ?_
          refine sq 113 rfl rfl (Y_move (v := pt B 0) rfl (hf1.get 0 0 rfl)) ?_
          refine sq 114 rfl rfl (Y_nilCheck (B := B) (i := 0) rfl rfl) ?_
          refine sq 115 rfl rfl (Y_fieldAddr (B := B) (i := 0) (s := 0) k_fd_141_1_1_54 k_sz_54_1 rfl rfl) ?_
          refine sq 116 rfl rfl (Y_load1 (B := B) (i := 1) (cs := [.int .i64 s.phase, .slice B5 terms.length c4]) (v := .slice B5 terms.length c4) k_sc_54 rfl rfl (hS11.cf (i := 0) rfl) rfl) ?_
          refine sq 117 rfl rfl (Y_move (v := .slice B3 ((List.drop ((IntKind.i64.wrap (at_ + 1)).toNat) s.terms).length) c2) rfl (hf1.get 7 1 rfl)) ?_
          obtain ⟨hap3, hF9⟩ := chk_inv hF9
          refine ss 118 rfl rfl (Ys_append (s := 2) (by' := 16) (i := 1) (nn := terms.length) (c := c4) (k := (List.drop ((IntKind.i64.wrap (at_ + 1)).toNat) s.terms).length) (len := (terms ++ (List.drop ((IntKind.i64.wrap (at_ + 1)).toNat) s.terms)).length) (B := B5) (xs := ((List.drop ((IntKind.i64.wrap (at_ + 1)).toNat) s.terms).flatMap enc_Term)) (cs' := ((terms ++ (List.drop ((IntKind.i64.wrap (at_ + 1)).toNat) s.terms)).flatMap enc_Term)) hS11 k_sl_54_136 k_sz_136_2 k_by_136_16 k_zero_136 rfl (by decide) rfl rfl rfl rfl (fm_lenn (l := terms) enc_Term_len rfl) rfl (hS11.cf (i := 2) rfl) (fm_lenn (l := (List.drop ((IntKind.i64.wrap (at_ + 1)).toNat) s.terms)) enc_Term_len rfl) (fm_one' (enc := enc_Term) enc_Term_one (List.drop ((IntKind.i64.wrap (at_ + 1)).toNat) s.terms)) (by have := hap3; omega) (by have := hap3; simp only [maxLen]; omega) (fm_app _ _) (app_len (l := terms) (l' := (List.drop ((IntKind.i64.wrap (at_ + 1)).toNat) s.terms)) rfl rfl)) ?_
          rintro _ w_9 ⟨B7, c6, rfl, hS15⟩
          have hS15 : ST w0 (bl [⟨B, 141, [.int .i64 s.phase, .slice B1 s.terms.length c], 2⟩, ⟨B1, 136, (s.terms.flatMap enc_Term), c * 2⟩]) _ [⟨B, 141, [.int .i64 s.phase, .slice B5 terms.length c4], 2⟩, ⟨B7, 136, ((terms ++ (List.drop ((IntKind.i64.wrap (at_ + 1)).toNat) s.terms)).flatMap enc_Term), c6 * 2⟩, ⟨B3, 136, ((List.drop ((IntKind.i64.wrap (at_ + 1)).toNat) s.terms).flatMap enc_Term), c2 * 2⟩] [⟨B1, ((List.take at_.toNat s.terms).flatMap enc_Term)⟩, ⟨(sv B1 ((IntKind.i64.wrap (at_ + 1)).toNat) c 2), ((List.drop ((IntKind.i64.wrap (at_ + 1)).toNat) s.terms).flatMap enc_Term)⟩, ⟨B1, (s.terms.flatMap enc_Term)⟩] := hS15
          refine sq 119 rfl rfl (Y_nilCheck (B := B) (i := 0) rfl rfl) ?_
          refine sq 120 rfl rfl (Y_fieldAddr (B := B) (i := 0) (s := 0) k_fd_141_1_1_54 k_sz_54_1 rfl rfl) ?_
          refine ss0 rfl rfl (Ys_store (i := 0) (s := 1) (B := B) (T' := 141) (v := .slice B7 ((terms ++ (List.drop ((IntKind.i64.wrap (at_ + 1)).toNat) s.terms)).length) c6) (vs := [.slice B7 ((terms ++ (List.drop ((IntKind.i64.wrap (at_ + 1)).toNat) s.terms)).length) c6]) (k := 1) (cs' := [.int .i64 s.phase, .slice B7 ((terms ++ (List.drop ((IntKind.i64.wrap (at_ + 1)).toNat) s.terms)).length) c6]) hS15 k_sz_54_1 rfl rfl rfl rfl rfl rfl rfl (Nat.le_of_ble_eq_true rfl) rfl rfl) ?_
          rintro _ w_10 ⟨rfl, hS16⟩
          have hS16 : ST w0 (bl [⟨B, 141, [.int .i64 s.phase, .slice B1 s.terms.length c], 2⟩, ⟨B1, 136, (s.terms.flatMap enc_Term), c * 2⟩]) _ [⟨B, 141, [.int .i64 s.phase, .slice B7 ((terms ++ (List.drop ((IntKind.i64.wrap (at_ + 1)).toNat) s.terms)).length) c6], 2⟩, ⟨B7, 136, ((terms ++ (List.drop ((IntKind.i64.wrap (at_ + 1)).toNat) s.terms)).flatMap enc_Term), c6 * 2⟩, ⟨B3, 136, ((List.drop ((IntKind.i64.wrap (at_ + 1)).toNat) s.terms).flatMap enc_Term), c2 * 2⟩] [⟨B1, ((List.take at_.toNat s.terms).flatMap enc_Term)⟩, ⟨(sv B1 ((IntKind.i64.wrap (at_ + 1)).toNat) c 2), ((List.drop ((IntKind.i64.wrap (at_ + 1)).toNat) s.terms).flatMap enc_Term)⟩, ⟨B1, (s.terms.flatMap enc_Term)⟩] := hS16
          refine rw_nil ?_
          refine cw_ret ?_
          obtain rfl := some_inj hF9
          exact ret0 Try.results97  ⟨B7, c6, rfl, (ST.subR (R' := []) (hS16.sel [0, 1] rfl rfl) (fun _ h => by cases h))⟩
        · skip
          have hF12 := cf' hF5 hb4
          refine cw_skip ?_
          refine cw_seq ?_
          refine cw_region ?_
          refine ss 121 rfl rfl (Ys_bslice0 (s := 2) (e := 136) hS2 k_sl_54_136 k_sz_136_2 rfl) ?_
          rintro _ w_11 ⟨b3, rfl, hS17⟩
          have hS17 : ST w0 (bl [⟨B, 141, [.int .i64 s.phase, .slice B1 s.terms.length c], 2⟩, ⟨B1, 136, (s.terms.flatMap enc_Term), c * 2⟩]) _ [⟨B, 141, [.int .i64 s.phase, .slice B1 s.terms.length c], 2⟩, ⟨B1, 136, (s.terms.flatMap enc_Term), c * 2⟩, ⟨some ⟨b3, 0, none⟩, 136, ([].flatMap enc_Term), 0 * 2⟩] [] := hS17
          refine sq 122 rfl rfl (Y_move (v := pt B 0) rfl (hf.get 0 0 rfl)) ?_
          refine sq 123 rfl rfl (Y_nilCheck (B := B) (i := 0) rfl rfl) ?_
          refine sq 124 rfl rfl (Y_fieldAddr (B := B) (i := 0) (s := 0) k_fd_141_1_1_54 k_sz_54_1 rfl rfl) ?_
          refine sq 125 rfl rfl (Y_load1 (B := B) (i := 1) (cs := [.int .i64 s.phase, .slice B1 s.terms.length c]) (v := .slice B1 s.terms.length c) k_sc_54 rfl rfl (hS17.cf (i := 0) rfl) rfl) ?_
          refine sq 126 rfl rfl (Y_move (v := .int .i64 at_) rfl (hf.get 6 3 rfl)) ?_
          obtain ⟨hsl2, hF12⟩ := chk_inv hF12
          have hcap3 : s.terms.length ≤ c := (hS17.lencap (i := 1) rfl (fm_lenn (l := s.terms) enc_Term_len rfl) rfl rfl)
          have ho4 : Org w0 (bl [⟨B, 141, [.int .i64 s.phase, .slice B1 s.terms.length c], 2⟩, ⟨B1, 136, (s.terms.flatMap enc_Term), c * 2⟩]) [] [⟨B1, (s.terms.flatMap enc_Term)⟩] := ST.orgOwn hS17 (i := 1) rfl
          have hcap4 : s.terms.length ≤ c := (hS17.lencap (i := 1) rfl (fm_lenn (l := s.terms) enc_Term_len rfl) rfl rfl)
          have hS18 : ST w0 (bl [⟨B, 141, [.int .i64 s.phase, .slice B1 s.terms.length c], 2⟩, ⟨B1, 136, (s.terms.flatMap enc_Term), c * 2⟩]) _ [⟨B, 141, [.int .i64 s.phase, .slice B1 s.terms.length c], 2⟩, ⟨some ⟨b3, 0, none⟩, 136, ([].flatMap enc_Term), 0 * 2⟩] [⟨B1, (s.terms.flatMap enc_Term)⟩] := hS17.freeze (i := 1) rfl
          have hv2 : (List.drop at_.toNat s.terms).length = (s.terms.length - at_.toNat) := (drop_len rfl)
          have hq3 : (s.terms.length - at_.toNat) ≤ (c - at_.toNat) := by omega
          have ho3 : Org w0 (bl [⟨B, 141, [.int .i64 s.phase, .slice B1 s.terms.length c], 2⟩, ⟨B1, 136, (s.terms.flatMap enc_Term), c * 2⟩]) [] [⟨(sv B1 at_.toNat c 2), ((List.drop at_.toNat s.terms).flatMap enc_Term)⟩] := org_view enc_Term_len (q := c) ho4 rfl (take_all rfl _)
          have hS19 : ST w0 (bl [⟨B, 141, [.int .i64 s.phase, .slice B1 s.terms.length c], 2⟩, ⟨B1, 136, (s.terms.flatMap enc_Term), c * 2⟩]) _ [⟨B, 141, [.int .i64 s.phase, .slice B1 s.terms.length c], 2⟩, ⟨some ⟨b3, 0, none⟩, 136, ([].flatMap enc_Term), 0 * 2⟩] [⟨(sv B1 at_.toNat c 2), ((List.drop at_.toNat s.terms).flatMap enc_Term)⟩, ⟨B1, (s.terms.flatMap enc_Term)⟩] := ST.view enc_Term_len hS18 (i := 0) rfl (lo := at_.toNat) (h := s.terms.length) (q := c) (by omega) (by omega) rfl (take_all rfl _)
          refine sq 127 rfl rfl (Y_slice1 (B := B1) (m := s.terms.length) (c := c) (l := at_.toNat) (h := s.terms.length) (s := 2) k_sl_54_136 k_sz_136_2 rfl rfl rfl (bnd_some rfl (nn_toNat (by omega))) (by omega) (by omega)) ?_
          obtain ⟨hap4, hF12⟩ := chk_inv hF12
          refine ss 128 rfl rfl (Ys_append (s := 2) (by' := 16) (i := 1) (nn := 0) (c := 0) (k := (s.terms.length - at_.toNat)) (len := (List.drop at_.toNat s.terms).length) (B := some ⟨b3, 0, none⟩) (xs := ((List.drop at_.toNat s.terms).flatMap enc_Term)) (cs' := ((List.drop at_.toNat s.terms).flatMap enc_Term)) hS19 k_sl_54_136 k_sz_136_2 k_by_136_16 k_zero_136 rfl (by decide) rfl rfl rfl rfl (fm_lenn (l := []) enc_Term_len rfl) rfl (hS19.rf (i := 0) rfl) (fm_lenn (l := (List.drop at_.toNat s.terms)) enc_Term_len hv2) (fm_one' (enc := enc_Term) enc_Term_one (List.drop at_.toNat s.terms)) (by have := hap4; omega) (by have := hap4; simp only [maxLen]; omega) rfl (app_len0 (l := (List.drop at_.toNat s.terms)) hv2)) ?_
          rintro _ w_12 ⟨B8, c7, rfl, hS20⟩
          have hS20 : ST w0 (bl [⟨B, 141, [.int .i64 s.phase, .slice B1 s.terms.length c], 2⟩, ⟨B1, 136, (s.terms.flatMap enc_Term), c * 2⟩]) _ [⟨B, 141, [.int .i64 s.phase, .slice B1 s.terms.length c], 2⟩, ⟨B8, 136, ((List.drop at_.toNat s.terms).flatMap enc_Term), c7 * 2⟩] [⟨(sv B1 at_.toNat c 2), ((List.drop at_.toNat s.terms).flatMap enc_Term)⟩, ⟨B1, (s.terms.flatMap enc_Term)⟩] := hS20
          refine sq 8 rfl rfl (Y_assign (v := .slice B8 ((List.drop at_.toNat s.terms).length) c7) rfl rfl) ?_
          refine rw_nil ?_
          refine cw_seq ?_
          refine cw_region ?_
          refine sq 129 rfl rfl (Y_move (v := pt B 0) rfl (hf.get 0 0 rfl)) ?_
          refine ss 130 rfl rfl (Ys_bslice0 (s := 2) (e := 136) hS20 k_sl_54_136 k_sz_136_2 rfl) ?_
          rintro _ w_13 ⟨b4, rfl, hS21⟩
          have hS21 : ST w0 (bl [⟨B, 141, [.int .i64 s.phase, .slice B1 s.terms.length c], 2⟩, ⟨B1, 136, (s.terms.flatMap enc_Term), c * 2⟩]) _ [⟨B, 141, [.int .i64 s.phase, .slice B1 s.terms.length c], 2⟩, ⟨B8, 136, ((List.drop at_.toNat s.terms).flatMap enc_Term), c7 * 2⟩, ⟨some ⟨b4, 0, none⟩, 136, ([].flatMap enc_Term), 0 * 2⟩] [⟨(sv B1 at_.toNat c 2), ((List.drop at_.toNat s.terms).flatMap enc_Term)⟩, ⟨B1, (s.terms.flatMap enc_Term)⟩] := hS21
          refine sq 131 rfl rfl (Y_move (v := pt B 0) rfl (hf.get 0 0 rfl)) ?_
          refine sq 132 rfl rfl (Y_nilCheck (B := B) (i := 0) rfl rfl) ?_
          refine sq 133 rfl rfl (Y_fieldAddr (B := B) (i := 0) (s := 0) k_fd_141_1_1_54 k_sz_54_1 rfl rfl) ?_
          refine sq 134 rfl rfl (Y_load1 (B := B) (i := 1) (cs := [.int .i64 s.phase, .slice B1 s.terms.length c]) (v := .slice B1 s.terms.length c) k_sc_54 rfl rfl (hS21.cf (i := 0) rfl) rfl) ?_
          refine sq 135 rfl rfl (Y_move (v := .int .i64 at_) rfl (hf.get 6 3 rfl)) ?_
          obtain ⟨hsl3, hF12⟩ := chk_inv hF12
          have hcap5 : s.terms.length ≤ c := hcap4
          have hv3 : (List.take at_.toNat s.terms).length = at_.toNat := (take_len rfl (by omega))
          have hq4 : at_.toNat ≤ c := by omega
          have ho5 : Org w0 (bl [⟨B, 141, [.int .i64 s.phase, .slice B1 s.terms.length c], 2⟩, ⟨B1, 136, (s.terms.flatMap enc_Term), c * 2⟩]) [] [⟨B1, ((List.take at_.toNat s.terms).flatMap enc_Term)⟩] := org_view enc_Term_len (q := c) ho4 (sv_zero _ _ _).symm rfl
          have hS22 : ST w0 (bl [⟨B, 141, [.int .i64 s.phase, .slice B1 s.terms.length c], 2⟩, ⟨B1, 136, (s.terms.flatMap enc_Term), c * 2⟩]) _ [⟨B, 141, [.int .i64 s.phase, .slice B1 s.terms.length c], 2⟩, ⟨B8, 136, ((List.drop at_.toNat s.terms).flatMap enc_Term), c7 * 2⟩, ⟨some ⟨b4, 0, none⟩, 136, ([].flatMap enc_Term), 0 * 2⟩] [⟨B1, ((List.take at_.toNat s.terms).flatMap enc_Term)⟩, ⟨(sv B1 at_.toNat c 2), ((List.drop at_.toNat s.terms).flatMap enc_Term)⟩, ⟨B1, (s.terms.flatMap enc_Term)⟩] := ST.view enc_Term_len hS21 (i := 1) rfl (lo := 0) (h := at_.toNat) (q := c) (by omega) (by omega) (sv_zero _ _ _).symm rfl
          refine sq 136 rfl rfl (Y_slice0 (B := B1) (m := s.terms.length) (c := c) (h := at_.toNat) (s := 2) k_sl_54_136 k_sz_136_2 rfl rfl (bnd_some rfl (nn_toNat (by omega))) (by omega)) ?_
          obtain ⟨hap5, hF12⟩ := chk_inv hF12
          refine ss 137 rfl rfl (Ys_append (s := 2) (by' := 16) (i := 2) (nn := 0) (c := 0) (k := at_.toNat) (len := (List.take at_.toNat s.terms).length) (B := some ⟨b4, 0, none⟩) (xs := ((List.take at_.toNat s.terms).flatMap enc_Term)) (cs' := ((List.take at_.toNat s.terms).flatMap enc_Term)) hS22 k_sl_54_136 k_sz_136_2 k_by_136_16 k_zero_136 rfl (by decide) rfl rfl rfl rfl (fm_lenn (l := []) enc_Term_len rfl) rfl (hS22.rf (i := 0) rfl) (fm_lenn (l := (List.take at_.toNat s.terms)) enc_Term_len hv3) (fm_one' (enc := enc_Term) enc_Term_one (List.take at_.toNat s.terms)) (by have := hap5; omega) (by have := hap5; simp only [maxLen]; omega) rfl (app_len0 (l := (List.take at_.toNat s.terms)) hv3)) ?_
          rintro _ w_14 ⟨B9, c8, rfl, hS23⟩
          have hS23 : ST w0 (bl [⟨B, 141, [.int .i64 s.phase, .slice B1 s.terms.length c], 2⟩, ⟨B1, 136, (s.terms.flatMap enc_Term), c * 2⟩]) _ [⟨B, 141, [.int .i64 s.phase, .slice B1 s.terms.length c], 2⟩, ⟨B8, 136, ((List.drop at_.toNat s.terms).flatMap enc_Term), c7 * 2⟩, ⟨B9, 136, ((List.take at_.toNat s.terms).flatMap enc_Term), c8 * 2⟩] [⟨B1, ((List.take at_.toNat s.terms).flatMap enc_Term)⟩, ⟨(sv B1 at_.toNat c 2), ((List.drop at_.toNat s.terms).flatMap enc_Term)⟩, ⟨B1, (s.terms.flatMap enc_Term)⟩] := hS23
          refine sq 138 rfl rfl (Y_move (v := .int .i64 mask) rfl (hf.get 1 1 rfl)) ?_
          refine sq 139 rfl rfl (Y_move (v := .int .i64 (Int.tmod (IntKind.i64.wrap ((Int.tmod k_ 8) + 8)) 8)) rfl (hf.get 2 2 rfl)) ?_
          refine sq 140 rfl rfl (Y_buildS (zs := [.int .i64 0, .int .i64 0]) (vs := [(0, .int .i64 mask), (1, .int .i64 (Int.tmod (IntKind.i64.wrap ((Int.tmod k_ 8) + 8)) 8))]) (cs := [.int .i64 mask, .int .i64 (Int.tmod (IntKind.i64.wrap ((Int.tmod k_ 8) + 8)) 8)]) k_pl_136 k_zero_136 rfl (mpc rfl (mpc rfl mpn)) rfl) ?_
          refine ss 141 rfl rfl (Ys_bslice (s := 2) (len := 1) (vs := [(0, .agg #[.int .i64 mask, .int .i64 (Int.tmod (IntKind.i64.wrap ((Int.tmod k_ 8) + 8)) 8)])]) (cs := [.int .i64 mask, .int .i64 (Int.tmod (IntKind.i64.wrap ((Int.tmod k_ 8) + 8)) 8)]) (zs := [.int .i64 0, .int .i64 0]) (m := 2) hS23 k_sl_54_136 k_sz_136_2 k_zc_136 rfl (mpc rfl mpn) rfl rfl rfl (by kernel_rfl) (by kernel_rfl) rfl) ?_
          rintro _ w_15 ⟨b5, rfl, hS24⟩
          have hS24 : ST w0 (bl [⟨B, 141, [.int .i64 s.phase, .slice B1 s.terms.length c], 2⟩, ⟨B1, 136, (s.terms.flatMap enc_Term), c * 2⟩]) _ [⟨B, 141, [.int .i64 s.phase, .slice B1 s.terms.length c], 2⟩, ⟨B8, 136, ((List.drop at_.toNat s.terms).flatMap enc_Term), c7 * 2⟩, ⟨B9, 136, ((List.take at_.toNat s.terms).flatMap enc_Term), c8 * 2⟩, ⟨some ⟨b5, 0, none⟩, 136, ([(TTerm.mk mask (Int.tmod (IntKind.i64.wrap ((Int.tmod k_ 8) + 8)) 8))].flatMap enc_Term), 1 * 2⟩] [⟨B1, ((List.take at_.toNat s.terms).flatMap enc_Term)⟩, ⟨(sv B1 at_.toNat c 2), ((List.drop at_.toNat s.terms).flatMap enc_Term)⟩, ⟨B1, (s.terms.flatMap enc_Term)⟩] := hS24
          obtain ⟨hap6, hF12⟩ := chk_inv hF12
          refine ss 142 rfl rfl (Ys_append (s := 2) (by' := 16) (i := 2) (nn := (List.take at_.toNat s.terms).length) (c := c8) (k := 1) (len := ((List.take at_.toNat s.terms) ++ [(TTerm.mk mask (Int.tmod (IntKind.i64.wrap ((Int.tmod k_ 8) + 8)) 8))]).length) (B := B9) (xs := ([(TTerm.mk mask (Int.tmod (IntKind.i64.wrap ((Int.tmod k_ 8) + 8)) 8))].flatMap enc_Term)) (cs' := (((List.take at_.toNat s.terms) ++ [(TTerm.mk mask (Int.tmod (IntKind.i64.wrap ((Int.tmod k_ 8) + 8)) 8))]).flatMap enc_Term)) hS24 k_sl_54_136 k_sz_136_2 k_by_136_16 k_zero_136 rfl (by decide) rfl rfl rfl rfl (fm_lenn (l := (List.take at_.toNat s.terms)) enc_Term_len rfl) rfl (hS24.cf (i := 3) rfl) (fm_lenn (l := [(TTerm.mk mask (Int.tmod (IntKind.i64.wrap ((Int.tmod k_ 8) + 8)) 8))]) enc_Term_len rfl) (fm_one' (enc := enc_Term) enc_Term_one [(TTerm.mk mask (Int.tmod (IntKind.i64.wrap ((Int.tmod k_ 8) + 8)) 8))]) (by have := hap6; omega) (by have := hap6; simp only [maxLen]; omega) (fm_app _ _) (app_len (l := (List.take at_.toNat s.terms)) (l' := [(TTerm.mk mask (Int.tmod (IntKind.i64.wrap ((Int.tmod k_ 8) + 8)) 8))]) rfl rfl)) ?_
          rintro _ w_16 ⟨B10, c9, rfl, hS25⟩
          have hS25 : ST w0 (bl [⟨B, 141, [.int .i64 s.phase, .slice B1 s.terms.length c], 2⟩, ⟨B1, 136, (s.terms.flatMap enc_Term), c * 2⟩]) _ [⟨B, 141, [.int .i64 s.phase, .slice B1 s.terms.length c], 2⟩, ⟨B8, 136, ((List.drop at_.toNat s.terms).flatMap enc_Term), c7 * 2⟩, ⟨B10, 136, (((List.take at_.toNat s.terms) ++ [(TTerm.mk mask (Int.tmod (IntKind.i64.wrap ((Int.tmod k_ 8) + 8)) 8))]).flatMap enc_Term), c9 * 2⟩, ⟨some ⟨b5, 0, none⟩, 136, ([(TTerm.mk mask (Int.tmod (IntKind.i64.wrap ((Int.tmod k_ 8) + 8)) 8))].flatMap enc_Term), 1 * 2⟩] [⟨B1, ((List.take at_.toNat s.terms).flatMap enc_Term)⟩, ⟨(sv B1 at_.toNat c 2), ((List.drop at_.toNat s.terms).flatMap enc_Term)⟩, ⟨B1, (s.terms.flatMap enc_Term)⟩] := hS25
          refine sq 143 rfl rfl (Y_nilCheck (B := B) (i := 0) rfl rfl) ?_
          refine sq 144 rfl rfl (Y_fieldAddr (B := B) (i := 0) (s := 0) k_fd_141_1_1_54 k_sz_54_1 rfl rfl) ?_
          refine ss0 rfl rfl (Ys_store (i := 0) (s := 1) (B := B) (T' := 141) (v := .slice B10 (((List.take at_.toNat s.terms) ++ [(TTerm.mk mask (Int.tmod (IntKind.i64.wrap ((Int.tmod k_ 8) + 8)) 8))]).length) c9) (vs := [.slice B10 (((List.take at_.toNat s.terms) ++ [(TTerm.mk mask (Int.tmod (IntKind.i64.wrap ((Int.tmod k_ 8) + 8)) 8))]).length) c9]) (k := 1) (cs' := [.int .i64 s.phase, .slice B10 (((List.take at_.toNat s.terms) ++ [(TTerm.mk mask (Int.tmod (IntKind.i64.wrap ((Int.tmod k_ 8) + 8)) 8))]).length) c9]) hS25 k_sz_54_1 rfl rfl rfl rfl rfl rfl rfl (Nat.le_of_ble_eq_true rfl) rfl rfl) ?_
          rintro _ w_17 ⟨rfl, hS26⟩
          have hS26 : ST w0 (bl [⟨B, 141, [.int .i64 s.phase, .slice B1 s.terms.length c], 2⟩, ⟨B1, 136, (s.terms.flatMap enc_Term), c * 2⟩]) _ [⟨B, 141, [.int .i64 s.phase, .slice B10 (((List.take at_.toNat s.terms) ++ [(TTerm.mk mask (Int.tmod (IntKind.i64.wrap ((Int.tmod k_ 8) + 8)) 8))]).length) c9], 2⟩, ⟨B8, 136, ((List.drop at_.toNat s.terms).flatMap enc_Term), c7 * 2⟩, ⟨B10, 136, (((List.take at_.toNat s.terms) ++ [(TTerm.mk mask (Int.tmod (IntKind.i64.wrap ((Int.tmod k_ 8) + 8)) 8))]).flatMap enc_Term), c9 * 2⟩, ⟨some ⟨b5, 0, none⟩, 136, ([(TTerm.mk mask (Int.tmod (IntKind.i64.wrap ((Int.tmod k_ 8) + 8)) 8))].flatMap enc_Term), 1 * 2⟩] [⟨B1, ((List.take at_.toNat s.terms).flatMap enc_Term)⟩, ⟨(sv B1 at_.toNat c 2), ((List.drop at_.toNat s.terms).flatMap enc_Term)⟩, ⟨B1, (s.terms.flatMap enc_Term)⟩] := hS26
          refine rw_nil ?_
          refine cw_region ?_
          refine sq 145 rfl rfl (Y_move (v := pt B 0) rfl (hf.get 0 0 rfl)) ?_
          refine sq 146 rfl rfl (Y_move (v := pt B 0) rfl (hf.get 0 0 rfl)) ?_
          refine sq 147 rfl rfl (Y_nilCheck (B := B) (i := 0) rfl rfl) ?_
          refine sq 148 rfl rfl (Y_fieldAddr (B := B) (i := 0) (s := 0) k_fd_141_1_1_54 k_sz_54_1 rfl rfl) ?_
          refine sq 149 rfl rfl (Y_load1 (B := B) (i := 1) (cs := [.int .i64 s.phase, .slice B10 (((List.take at_.toNat s.terms) ++ [(TTerm.mk mask (Int.tmod (IntKind.i64.wrap ((Int.tmod k_ 8) + 8)) 8))]).length) c9]) (v := .slice B10 (((List.take at_.toNat s.terms) ++ [(TTerm.mk mask (Int.tmod (IntKind.i64.wrap ((Int.tmod k_ 8) + 8)) 8))]).length) c9) k_sc_54 rfl rfl (hS26.cf (i := 0) rfl) rfl) ?_
          refine sq 150 rfl rfl (Y_move (v := .slice B8 ((List.drop at_.toNat s.terms).length) c7) rfl rfl) ?_
          obtain ⟨hap7, hF12⟩ := chk_inv hF12
          refine ss 151 rfl rfl (Ys_append (s := 2) (by' := 16) (i := 2) (nn := ((List.take at_.toNat s.terms) ++ [(TTerm.mk mask (Int.tmod (IntKind.i64.wrap ((Int.tmod k_ 8) + 8)) 8))]).length) (c := c9) (k := (List.drop at_.toNat s.terms).length) (len := (((List.take at_.toNat s.terms) ++ [(TTerm.mk mask (Int.tmod (IntKind.i64.wrap ((Int.tmod k_ 8) + 8)) 8))]) ++ (List.drop at_.toNat s.terms)).length) (B := B10) (xs := ((List.drop at_.toNat s.terms).flatMap enc_Term)) (cs' := ((((List.take at_.toNat s.terms) ++ [(TTerm.mk mask (Int.tmod (IntKind.i64.wrap ((Int.tmod k_ 8) + 8)) 8))]) ++ (List.drop at_.toNat s.terms)).flatMap enc_Term)) hS26 k_sl_54_136 k_sz_136_2 k_by_136_16 k_zero_136 rfl (by decide) rfl rfl rfl rfl (fm_lenn (l := ((List.take at_.toNat s.terms) ++ [(TTerm.mk mask (Int.tmod (IntKind.i64.wrap ((Int.tmod k_ 8) + 8)) 8))])) enc_Term_len rfl) rfl (hS26.cf (i := 1) rfl) (fm_lenn (l := (List.drop at_.toNat s.terms)) enc_Term_len rfl) (fm_one' (enc := enc_Term) enc_Term_one (List.drop at_.toNat s.terms)) (by have := hap7; omega) (by have := hap7; simp only [maxLen]; omega) (fm_app _ _) (app_len (l := ((List.take at_.toNat s.terms) ++ [(TTerm.mk mask (Int.tmod (IntKind.i64.wrap ((Int.tmod k_ 8) + 8)) 8))])) (l' := (List.drop at_.toNat s.terms)) rfl rfl)) ?_
          rintro _ w_18 ⟨B11, c10, rfl, hS27⟩
          have hS27 : ST w0 (bl [⟨B, 141, [.int .i64 s.phase, .slice B1 s.terms.length c], 2⟩, ⟨B1, 136, (s.terms.flatMap enc_Term), c * 2⟩]) _ [⟨B, 141, [.int .i64 s.phase, .slice B10 (((List.take at_.toNat s.terms) ++ [(TTerm.mk mask (Int.tmod (IntKind.i64.wrap ((Int.tmod k_ 8) + 8)) 8))]).length) c9], 2⟩, ⟨B8, 136, ((List.drop at_.toNat s.terms).flatMap enc_Term), c7 * 2⟩, ⟨B11, 136, ((((List.take at_.toNat s.terms) ++ [(TTerm.mk mask (Int.tmod (IntKind.i64.wrap ((Int.tmod k_ 8) + 8)) 8))]) ++ (List.drop at_.toNat s.terms)).flatMap enc_Term), c10 * 2⟩, ⟨some ⟨b5, 0, none⟩, 136, ([(TTerm.mk mask (Int.tmod (IntKind.i64.wrap ((Int.tmod k_ 8) + 8)) 8))].flatMap enc_Term), 1 * 2⟩] [⟨B1, ((List.take at_.toNat s.terms).flatMap enc_Term)⟩, ⟨(sv B1 at_.toNat c 2), ((List.drop at_.toNat s.terms).flatMap enc_Term)⟩, ⟨B1, (s.terms.flatMap enc_Term)⟩] := hS27
          refine sq 152 rfl rfl (Y_nilCheck (B := B) (i := 0) rfl rfl) ?_
          refine sq 153 rfl rfl (Y_fieldAddr (B := B) (i := 0) (s := 0) k_fd_141_1_1_54 k_sz_54_1 rfl rfl) ?_
          refine ss0 rfl rfl (Ys_store (i := 0) (s := 1) (B := B) (T' := 141) (v := .slice B11 ((((List.take at_.toNat s.terms) ++ [(TTerm.mk mask (Int.tmod (IntKind.i64.wrap ((Int.tmod k_ 8) + 8)) 8))]) ++ (List.drop at_.toNat s.terms)).length) c10) (vs := [.slice B11 ((((List.take at_.toNat s.terms) ++ [(TTerm.mk mask (Int.tmod (IntKind.i64.wrap ((Int.tmod k_ 8) + 8)) 8))]) ++ (List.drop at_.toNat s.terms)).length) c10]) (k := 1) (cs' := [.int .i64 s.phase, .slice B11 ((((List.take at_.toNat s.terms) ++ [(TTerm.mk mask (Int.tmod (IntKind.i64.wrap ((Int.tmod k_ 8) + 8)) 8))]) ++ (List.drop at_.toNat s.terms)).length) c10]) hS27 k_sz_54_1 rfl rfl rfl rfl rfl rfl rfl (Nat.le_of_ble_eq_true rfl) rfl rfl) ?_
          rintro _ w_19 ⟨rfl, hS28⟩
          have hS28 : ST w0 (bl [⟨B, 141, [.int .i64 s.phase, .slice B1 s.terms.length c], 2⟩, ⟨B1, 136, (s.terms.flatMap enc_Term), c * 2⟩]) _ [⟨B, 141, [.int .i64 s.phase, .slice B11 ((((List.take at_.toNat s.terms) ++ [(TTerm.mk mask (Int.tmod (IntKind.i64.wrap ((Int.tmod k_ 8) + 8)) 8))]) ++ (List.drop at_.toNat s.terms)).length) c10], 2⟩, ⟨B8, 136, ((List.drop at_.toNat s.terms).flatMap enc_Term), c7 * 2⟩, ⟨B11, 136, ((((List.take at_.toNat s.terms) ++ [(TTerm.mk mask (Int.tmod (IntKind.i64.wrap ((Int.tmod k_ 8) + 8)) 8))]) ++ (List.drop at_.toNat s.terms)).flatMap enc_Term), c10 * 2⟩, ⟨some ⟨b5, 0, none⟩, 136, ([(TTerm.mk mask (Int.tmod (IntKind.i64.wrap ((Int.tmod k_ 8) + 8)) 8))].flatMap enc_Term), 1 * 2⟩] [⟨B1, ((List.take at_.toNat s.terms).flatMap enc_Term)⟩, ⟨(sv B1 at_.toNat c 2), ((List.drop at_.toNat s.terms).flatMap enc_Term)⟩, ⟨B1, (s.terms.flatMap enc_Term)⟩] := hS28
          refine rw_nil ?_
          obtain rfl := some_inj hF12
          exact ret0 Try.results97  ⟨B11, c10, rfl, (ST.subR (R' := []) (hS28.sel [0, 2] rfl rfl) (fun _ h => by cases h))⟩

theorem c_spec_l1Set (row : Int)  (w0 : World)  (hS : ST w0 [] w0 [] []) {r_ : List Int} (hF : F_spec_l1Set row = some r_) :
    CV Try.prog 96 #[.int .i64 row] w0 (fun v w' => ∃ (B : Option Addr) (c : Nat), v = .slice B r_.length c ∧ ST w0 [] w' [⟨B, 3, (r_.flatMap encI), c * 1⟩] []) := by
  unfold F_spec_l1Set at hF
  refine cv_of_cw 23 Try.func96 rfl Try.ntmps96 rfl ?_
  refine cw_seq ?_
  refine cw_region ?_
  refine sq 2 rfl rfl (Y_assign (v := .slice none 0 0) rfl rfl) ?_
  refine rw_nil ?_
  refine cw_seq ?_
  refine cw_region ?_
  refine sq 3 rfl rfl (Y_assign (v := .slice none 0 0) rfl rfl) ?_
  refine rw_nil ?_
  refine cw_seq ?_
  refine cw_seq ?_
  refine cw_region ?_
  refine sq 4 rfl rfl (Y_assign (v := .int .i64 0) rfl rfl) ?_
  refine rw_nil ?_
  obtain ⟨z, hz, hF1⟩ := bind_inv hF
  have hS2 := hS.addNil 3
  refine cw_block ?_
  refine cw_loop (fun k f w => ∃ (out : List Int) (k_ : Int) (B1 : Option Addr) (c1 : Nat), FF f [(0, .int .i64 row), (3, .slice B1 out.length c1), (4, .int .i64 k_)] ∧ ST w0 [] w [⟨B1, 3, (out.flatMap encI), c1 * 1⟩] [] ∧ whX (F_spec_l1Set_l1 row) k (out, k_) = some z) fuel ⟨[], 0, none, 0, (FF.cons rfl (FF.cons rfl (FF.cons rfl FF.nil))), (hS2.sel [0] rfl rfl), hz⟩ ?_
  rintro k_1 f w ⟨out, k_, B1, c1, hf, hS1, hL⟩
  obtain ⟨k_2, y, rfl, hb, hL1⟩ := whX_go hL
  unfold F_spec_l1Set_l1 at hb
  refine cw_seq ?_
  refine cw_seq ?_
  refine cw_region ?_
  refine sq 5 rfl rfl (Y_move (v := .int .i64 row) rfl (hf.get 0 0 rfl)) ?_
  refine sq 6 rfl rfl (Y_move (v := .int .i64 k_) rfl (hf.get 4 2 rfl)) ?_
  refine sq 7 rfl rfl (Y_conv (k := .i64) (a := k_) (T := 3) (T' := 92) k_us_3 k_int_92_u64 rfl rfl) ?_
  obtain ⟨hsh, hb⟩ := chk_inv hb
  refine sq 8 rfl rfl (Y_shr (k := .i64) (a := row) (k' := .u64) (b := (IntKind.u64.wrap k_)) rfl rfl rfl hsh) ?_
  refine sq 9 rfl rfl (Y_gt (k := .i64) (a := (shrK .i64 row (IntKind.u64.wrap k_))) (b := 0) rfl rfl rfl) ?_
  refine rw_nil ?_
  refine cw_cond (b := (decide (0 < (shrK .i64 row (IntKind.u64.wrap k_))))) rfl (fun hb1 => ?_) (fun hb1 => ?_)
  · skip
    have hF2 := ct hb hb1
    refine cw_skip ?_
    refine cw_seq ?_
    obtain ⟨z1, hz1, hF3⟩ := bind_inv hF2
    refine cw_mid (fun f w => ∃ (out1 : List Int) (B2 : Option Addr) (c2 : Nat), out1 = z1 ∧ FF f [(0, .int .i64 row), (3, .slice B2 out1.length c2), (4, .int .i64 k_)] ∧ ST w0 [] w [⟨B2, 3, (out1.flatMap encI), c2 * 1⟩] []) ?_ ?_
    · skip
      refine cw_block ?_
      refine cw_seq ?_
      refine cw_region ?_
      refine sq 12 rfl rfl (Y_move (v := .int .i64 row) rfl (hf.get 0 0 rfl)) ?_
      refine sq 13 rfl rfl (Y_move (v := .int .i64 k_) rfl (hf.get 4 2 rfl)) ?_
      refine sq 14 rfl rfl (Y_conv (k := .i64) (a := k_) (T := 3) (T' := 92) k_us_3 k_int_92_u64 rfl rfl) ?_
      obtain ⟨hsh1, hz1⟩ := chk_inv hz1
      refine sq 15 rfl rfl (Y_shr (k := .i64) (a := row) (k' := .u64) (b := (IntKind.u64.wrap k_)) rfl rfl rfl hsh1) ?_
      refine sq 16 rfl rfl (Y_band (k := .i64) (a := (shrK .i64 row (IntKind.u64.wrap k_))) (b := 1) rfl rfl rfl) ?_
      refine sq 17 rfl rfl (Y_eq (k := .i64) (a := (bits .and .i64 (shrK .i64 row (IntKind.u64.wrap k_)) 1)) (b := 1) rfl rfl rfl) ?_
      refine rw_nil ?_
      refine cw_cond (b := ((bits .and .i64 (shrK .i64 row (IntKind.u64.wrap k_)) 1) == 1)) rfl (fun hb2 => ?_) (fun hb2 => ?_)
      · skip
        have hF4 := ct hz1 hb2
        refine cw_region ?_
        refine sq 18 rfl rfl (Y_move (v := .slice B1 out.length c1) rfl (hf.get 3 1 rfl)) ?_
        refine sq 19 rfl rfl (Y_move (v := .int .i64 k_) rfl (hf.get 4 2 rfl)) ?_
        refine ss 20 rfl rfl (Ys_bslice (s := 1) (len := 1) (vs := [(0, .int .i64 k_)]) (cs := [.int .i64 k_]) (zs := [.int .i64 0]) (m := 1) hS1 k_sl_137_3 k_sz_3_1 k_zc_3 rfl (mpc rfl mpn) rfl rfl rfl (by kernel_rfl) (by kernel_rfl) rfl) ?_
        rintro _ w_ ⟨b, rfl, hS4⟩
        have hS4 : ST w0 [] _ [⟨B1, 3, (out.flatMap encI), c1 * 1⟩, ⟨some ⟨b, 0, none⟩, 3, ([k_].flatMap encI), 1 * 1⟩] [] := hS4
        obtain ⟨hap, hF4⟩ := chk_inv hF4
        refine ss 21 rfl rfl (Ys_append (s := 1) (by' := 8) (i := 0) (nn := out.length) (c := c1) (k := 1) (len := (out ++ [k_]).length) (B := B1) (xs := ([k_].flatMap encI)) (cs' := ((out ++ [k_]).flatMap encI)) hS4 k_sl_137_3 k_sz_3_1 k_by_3_8 k_zero_3 rfl (by decide) rfl rfl rfl rfl (fm_lenn (l := out) encI_len rfl) rfl (hS4.cf (i := 1) rfl) (fm_lenn (l := [k_]) encI_len rfl) (fm_one' (enc := encI) encI_one [k_]) (by have := hap; omega) (by have := hap; simp only [maxLen]; omega) (fm_app _ _) (app_len (l := out) (l' := [k_]) rfl rfl)) ?_
        rintro _ w_1 ⟨B3, c3, rfl, hS5⟩
        have hS5 : ST w0 [] _ [⟨B3, 3, ((out ++ [k_]).flatMap encI), c3 * 1⟩, ⟨some ⟨b, 0, none⟩, 3, ([k_].flatMap encI), 1 * 1⟩] [] := hS5
        refine sq 3 rfl rfl (Y_assign (v := .slice B3 ((out ++ [k_]).length) c3) rfl rfl) ?_
        refine rw_nil ?_
        exact ⟨(out ++ [k_]), B3, c3, (some_inj hF4), (FF.cons (hf.get 0 0 rfl) (FF.cons rfl (FF.cons (hf.get 4 2 rfl) FF.nil))), (hS5.sel [0] rfl rfl)⟩
      · skip
        have hF5 := cf' hz1 hb2
        refine cw_skip ?_
        exact ⟨out, B1, c1, (some_inj hF5), (FF.cons (hf.get 0 0 rfl) (FF.cons (hf.get 3 1 rfl) (FF.cons (hf.get 4 2 rfl) FF.nil))), (hS1.sel [0] rfl rfl)⟩
    rintro f w ⟨out1, B2, c2, rfl, hf1, hS3⟩
    refine cw_region ?_
    refine sq 10 rfl rfl (Y_move (v := .int .i64 k_) rfl (hf1.get 4 2 rfl)) ?_
    refine sq 11 rfl rfl (Y_add (k := .i64) (a := k_) (b := 1) rfl rfl rfl) ?_
    refine sq 4 rfl rfl (Y_assign (v := .int .i64 (IntKind.i64.wrap (k_ + 1))) rfl rfl) ?_
    refine rw_nil ?_
    obtain rfl := some_inj hF3
    exact ⟨k_2, Nat.lt_succ_self _, out1, (IntKind.i64.wrap (k_ + 1)), B2, c2, (FF.cons (hf1.get 0 0 rfl) (FF.cons (hf1.get 3 1 rfl) (FF.cons rfl FF.nil))), (hS3.sel [0] rfl rfl), hL1⟩
  · skip
    have hF6 := cf' hb hb1
    refine cw_exit rfl ?_
    obtain rfl := some_inj hF6
    obtain rfl := some_inj hL1
    refine cw_seq ?_
    refine cw_region ?_
    refine sq 22 rfl rfl (Y_move (v := .slice B1 out.length c1) rfl (hf.get 3 1 rfl)) ?_
    refine sq 2 rfl rfl (Y_assign (v := .slice B1 out.length c1) rfl rfl) ?_
    refine rw_nil ?_
    refine cw_ret ?_
    obtain rfl := some_inj hF1
    exact ret1 Try.results96 (v1 := .slice B1 out.length c1) (resAt_tmp rfl) ⟨B1, c1, rfl, (ST.subR (R' := []) (hS1.sel [0] rfl rfl) (fun _ h => by cases h))⟩
end Go.VK
