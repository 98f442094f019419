/- Walks: each Go function returns what its Lean function says. By program. -/
import Derived.Test.YtedbkfnhbliefaaPhasePolyOfFa
set_option linter.unusedVariables false
set_option maxRecDepth 100000
set_option maxHeartbeats 1000000
namespace Go.VK
open Go.RowKit
open Go.Proofs
attribute [local irreducible] CW RW RA CV Y Yw Yc Ys RetOf
theorem c_laws_szGateS (a : List TGate) (left : Int) (B : Option Addr) (c n : Nat) (w0 : World) (hn : a.length = n) (hS : ST w0 [] w0 [] [⟨B, (a.flatMap enc_Gate)⟩]) {r_ : Int} (hF : F_laws_szGateS a left = some r_) :
    CV Try.prog 13 #[.slice B n c, .int .i64 left] w0 (fun v w' => v = .int .i64 r_ ∧ ST w0 [] w' [] []) := by
  subst hn
  unfold F_laws_szGateS at hF
  refine cv_of_cw 12 Try.func13 rfl Try.ntmps13 rfl ?_
  refine cw_seq ?_
  refine cw_region ?_
  refine sq 4 rfl rfl (Y_assign (v := .int .i64 0) rfl rfl) ?_
  refine rw_nil ?_
  refine cw_seq ?_
  refine cw_region ?_
  refine sq 5 rfl rfl (Y_move (v := .int .i64 left) rfl rfl) ?_
  refine sq 6 rfl rfl (Y_move (v := .slice B a.length c) rfl rfl) ?_
  refine sq 7 rfl rfl (Y_len (B := B) (m := a.length) (c := c) k_sl_22_69 rfl rfl) ?_
  refine sq 8 rfl rfl (Y_sub (k := .i64) (a := left) (b := (a.length : Int)) rfl rfl rfl) ?_
  refine sq 1 rfl rfl (Y_assign (v := .int .i64 (IntKind.i64.wrap (left - (a.length : Int)))) rfl rfl) ?_
  refine rw_nil ?_
  refine cw_seq ?_
  refine cw_seq ?_
  refine cw_region ?_
  refine sq 9 rfl rfl (Y_move (v := .int .i64 (IntKind.i64.wrap (left - (a.length : Int)))) rfl rfl) ?_
  refine sq 10 rfl rfl (Y_lt (k := .i64) (a := (IntKind.i64.wrap (left - (a.length : Int)))) (b := 0) rfl rfl rfl) ?_
  refine rw_nil ?_
  refine cw_cond (b := (decide ((IntKind.i64.wrap (left - (a.length : Int))) < 0))) rfl (fun hb => ?_) (fun hb => ?_)
  · skip
    have hF1 := ct hF hb
    refine cw_seq ?_
    refine cw_region ?_
    refine sq 4 rfl rfl (Y_assign (v := .int .i64 (-1)) rfl rfl) ?_
    refine rw_nil ?_
    refine cw_ret ?_
    obtain rfl := some_inj hF1
    exact ret1 Try.results13 (v1 := .int .i64 (-1)) (resAt_tmp rfl) ⟨rfl, (ST.subR (R' := []) (hS.sel [] rfl rfl) (fun _ h => by cases h))⟩
  · skip
    have hF2 := cf' hF hb
    refine cw_skip ?_
    refine cw_seq ?_
    refine cw_region ?_
    refine sq 11 rfl rfl (Y_move (v := .int .i64 (IntKind.i64.wrap (left - (a.length : Int)))) rfl rfl) ?_
    refine sq 4 rfl rfl (Y_assign (v := .int .i64 (IntKind.i64.wrap (left - (a.length : Int)))) rfl rfl) ?_
    refine rw_nil ?_
    refine cw_ret ?_
    obtain rfl := some_inj hF2
    exact ret1 Try.results13 (v1 := .int .i64 (IntKind.i64.wrap (left - (a.length : Int)))) (resAt_tmp rfl) ⟨rfl, (ST.subR (R' := []) (hS.sel [] rfl rfl) (fun _ h => by cases h))⟩

theorem c_laws_szCircuit (a : TCircuit) (left : Int) (B : Option Addr) (c n : Nat) (w0 : World) (hn : a.Gates.length = n) (hS : ST w0 [] w0 [] [⟨B, (a.Gates.flatMap enc_Gate)⟩]) {r_ : Int} (hF : F_laws_szCircuit a left = some r_) :
    CV Try.prog 4 #[.agg #[.int .i64 a.Qubits, .slice B n c], .int .i64 left] w0 (fun v w' => v = .int .i64 r_ ∧ ST w0 [] w' [] []) := by
  subst hn
  unfold F_laws_szCircuit at hF
  refine cv_of_cw 12 Try.func4 rfl Try.ntmps4 rfl ?_
  refine cw_seq ?_
  refine cw_region ?_
  refine ss 2 rfl rfl (Ys_box (T := 24) (v := .agg #[.int .i64 a.Qubits, .slice B a.Gates.length c]) (cs := [.int .i64 a.Qubits, .slice B a.Gates.length c]) (m := 2) hS rfl rfl rfl rfl) ?_
  rintro _ w_ ⟨b, rfl, hS1⟩
  refine sq 4 rfl rfl (Y_assign (v := .int .i64 0) rfl rfl) ?_
  refine rw_nil ?_
  refine cw_seq ?_
  refine cw_region ?_
  refine sq 5 rfl rfl (Y_fieldAddr (B := some ⟨b, 0, none⟩) (i := 0) (s := 0) k_fd_24_1_1_22 k_sz_22_1 rfl rfl) ?_
  refine sq 6 rfl rfl (Y_load1 (B := some ⟨b, 0, none⟩) (i := 1) (cs := [.int .i64 a.Qubits, .slice B a.Gates.length c]) (v := .slice B a.Gates.length c) k_sc_22 rfl rfl (hS1.cf (i := 0) rfl) rfl) ?_
  refine sq 7 rfl rfl (Y_move (v := .int .i64 left) rfl rfl) ?_
  obtain ⟨r_1, hc, hF⟩ := bind_inv hF
  refine sc 8 rfl rfl (Yc_func (g := 13) (vs := [.slice B a.Gates.length c, .int .i64 left]) k_call_13 rfl (mc rfl (mc rfl mn)) (c_laws_szGateS a.Gates left B c a.Gates.length _ rfl (hS1.inn0 [(true, 0)] rfl) hc)) ?_
  rintro _ w_1 ⟨rfl, hd⟩
  have hS2 := hS1.out00 hd
  refine sq 1 rfl rfl (Y_assign (v := .int .i64 r_1) rfl rfl) ?_
  refine rw_nil ?_
  refine cw_seq ?_
  refine cw_seq ?_
  refine cw_region ?_
  refine sq 9 rfl rfl (Y_move (v := .int .i64 r_1) rfl rfl) ?_
  refine sq 10 rfl rfl (Y_lt (k := .i64) (a := r_1) (b := 0) rfl rfl rfl) ?_
  refine rw_nil ?_
  refine cw_cond (b := (decide (r_1 < 0))) rfl (fun hb => ?_) (fun hb => ?_)
  · skip
    have hF1 := ct hF hb
    refine cw_seq ?_
    refine cw_region ?_
    refine sq 4 rfl rfl (Y_assign (v := .int .i64 (-1)) rfl rfl) ?_
    refine rw_nil ?_
    refine cw_ret ?_
    obtain rfl := some_inj hF1
    exact ret1 Try.results4 (v1 := .int .i64 (-1)) (resAt_tmp rfl) ⟨rfl, (ST.subR (R' := []) (hS2.sel [] rfl rfl) (fun _ h => by cases h))⟩
  · skip
    have hF2 := cf' hF hb
    refine cw_skip ?_
    refine cw_seq ?_
    refine cw_region ?_
    refine sq 11 rfl rfl (Y_move (v := .int .i64 r_1) rfl rfl) ?_
    refine sq 4 rfl rfl (Y_assign (v := .int .i64 r_1) rfl rfl) ?_
    refine rw_nil ?_
    refine cw_ret ?_
    obtain rfl := some_inj hF2
    exact ret1 Try.results4 (v1 := .int .i64 r_1) (resAt_tmp rfl) ⟨rfl, (ST.subR (R' := []) (hS2.sel [] rfl rfl) (fun _ h => by cases h))⟩

theorem c_spec_l1In (n : Int) (lo : Int) (hi : Int)  (w0 : World)  (hS : ST w0 [] w0 [] []) {r_ : Bool} (hF : F_spec_l1In n lo hi = some r_) :
    CV Try.prog 33 #[.int .i64 n, .int .i64 lo, .int .i64 hi] w0 (fun v w' => v = .bool r_ ∧ ST w0 [] w' [] []) := by
  unfold F_spec_l1In at hF
  refine cv_of_cw 15 Try.func33 rfl Try.ntmps33 rfl ?_
  refine cw_seq ?_
  refine cw_region ?_
  refine sq 6 rfl rfl (Y_assign (v := .bool false) rfl rfl) ?_
  refine rw_nil ?_
  refine cw_seq ?_
  refine cw_region ?_
  refine sq 7 rfl rfl (Y_move (v := .int .i64 n) rfl rfl) ?_
  refine sq 8 rfl rfl (Y_move (v := .int .i64 lo) rfl rfl) ?_
  refine sq 9 rfl rfl (Y_ge (k := .i64) (a := n) (b := lo) rfl rfl rfl) ?_
  refine sq 10 rfl rfl (Y_move (v := .bool (decide (lo ≤ n))) rfl rfl) ?_
  refine sgq 11 (B := (decide (lo ≤ n))) (v := .int .i64 n) rfl rfl (wt_t (gd_of (t := 10) (by kernel_rfl) rfl)) (fun hg => (Y_move (v := .int .i64 n) rfl rfl)) ?_
  refine sgq 12 (B := (decide (lo ≤ n))) (v := .int .i64 hi) rfl rfl (wt_t (gd_of (t := 10) (by kernel_rfl) rfl)) (fun hg1 => (Y_move (v := .int .i64 hi) rfl rfl)) ?_
  refine sgq 13 (B := (decide (lo ≤ n))) (v := .bool (decide (n ≤ hi))) rfl rfl (wt_t (gd_of (t := 10) (by kernel_rfl) rfl)) (fun hg2 => (Y_le (k := .i64) (a := n) (b := hi) rfl (gv_of (B := (decide (lo ≤ n))) (v := .int .i64 n) hg2) (gv_of (B := (decide (lo ≤ n))) (v := .int .i64 hi) hg2))) ?_
  refine sq 14 rfl rfl (Y_and (b := (decide (lo ≤ n))) (z := (decide (n ≤ hi))) rfl rfl rfl rfl) ?_
  refine sq 6 rfl rfl (Y_assign (v := .bool ((decide (lo ≤ n)) && (decide (n ≤ hi)))) rfl rfl) ?_
  refine rw_nil ?_
  refine cw_ret ?_
  obtain rfl := some_inj hF
  exact ret1 Try.results33 (v1 := .bool ((decide (lo ≤ n)) && (decide (n ≤ hi)))) (resAt_tmp rfl) ⟨rfl, (ST.subR (R' := []) (hS.sel [] rfl rfl) (fun _ h => by cases h))⟩

theorem c_spec_l4Gate (n : Int) (g : TGate)  (w0 : World)  (hS : ST w0 [] w0 [] []) {r_ : Bool} (hF : F_spec_l4Gate n g = some r_) :
    CV Try.prog 34 #[.int .i64 n, .agg #[.int .i64 g.Kind, .int .i64 g.A, .int .i64 g.B]] w0 (fun v w' => v = .bool r_ ∧ ST w0 [] w' [] []) := by
  unfold F_spec_l4Gate at hF
  refine cv_of_cw 55 Try.func34 rfl Try.ntmps34 rfl ?_
  refine cw_seq ?_
  refine cw_region ?_
  refine ss 3 rfl rfl (Ys_box (T := 48) (v := .agg #[.int .i64 g.Kind, .int .i64 g.A, .int .i64 g.B]) (cs := [.int .i64 g.Kind, .int .i64 g.A, .int .i64 g.B]) (m := 3) hS rfl rfl rfl rfl) ?_
  rintro _ w_ ⟨b, rfl, hS1⟩
  refine sq 4 rfl rfl (Y_assign (v := .bool false) rfl rfl) ?_
  refine rw_nil ?_
  refine cw_seq ?_
  refine cw_block ?_
  refine cw_seq ?_
  refine cw_region ?_
  refine sq 6 rfl rfl (Y_fieldAddr (B := some ⟨b, 0, none⟩) (i := 0) (s := 0) k_fd_48_0_0_3 k_sz_3_1 rfl rfl) ?_
  refine sq 7 rfl rfl (Y_load1 (B := some ⟨b, 0, none⟩) (i := 0) (cs := [.int .i64 g.Kind, .int .i64 g.A, .int .i64 g.B]) (v := .int .i64 g.Kind) k_sc_3 rfl rfl (hS1.cf (i := 0) rfl) rfl) ?_
  obtain ⟨r_1, hc, hF⟩ := bind_inv hF
  refine sc 8 rfl rfl (Yc_func (g := 33) (vs := [.int .i64 g.Kind, .int .i64 1, .int .i64 8]) k_call_33 rfl (mc rfl (mc rfl (mc rfl mn))) (c_spec_l1In g.Kind 1 8 _  (hS1.inn0 [] rfl) hc)) ?_
  rintro _ w_1 ⟨rfl, hd⟩
  have hS2 := hS1.out00 hd
  refine sq 5 rfl rfl (Y_assign (v := .bool r_1) rfl rfl) ?_
  refine rw_nil ?_
  refine cw_cond (b := r_1) rfl (fun hb => ?_) (fun hb => ?_)
  · skip
    have hF1 := ct hF hb
    refine cw_seq ?_
    refine cw_region ?_
    refine sq 9 rfl rfl (Y_fieldAddr (B := some ⟨b, 0, none⟩) (i := 0) (s := 0) k_fd_48_1_1_3 k_sz_3_1 rfl rfl) ?_
    refine sq 10 rfl rfl (Y_load1 (B := some ⟨b, 0, none⟩) (i := 1) (cs := [.int .i64 g.Kind, .int .i64 g.A, .int .i64 g.B]) (v := .int .i64 g.A) k_sc_3 rfl rfl (hS2.cf (i := 0) rfl) rfl) ?_
    refine sq 11 rfl rfl (Y_move (v := .int .i64 n) rfl rfl) ?_
    refine sq 12 rfl rfl (Y_sub (k := .i64) (a := n) (b := 1) rfl rfl rfl) ?_
    obtain ⟨r_2, hc1, hF1⟩ := bind_inv hF1
    refine sc 13 rfl rfl (Yc_func (g := 33) (vs := [.int .i64 g.A, .int .i64 0, .int .i64 (IntKind.i64.wrap (n - 1))]) k_call_33 rfl (mc rfl (mc rfl (mc rfl mn))) (c_spec_l1In g.A 0 (IntKind.i64.wrap (n - 1)) _  (hS2.inn0 [] rfl) hc1)) ?_
    rintro _ w_2 ⟨rfl, hd1⟩
    have hS3 := hS2.out00 hd1
    refine sq 14 rfl rfl (Y_move (v := .bool r_2) rfl rfl) ?_
    refine sgq 15 (B := r_2) (v := pt (some ⟨b, 0, none⟩) 2) rfl rfl (wt_t (gd_of (t := 14) (by kernel_rfl) rfl)) (fun hg => (Y_fieldAddr (B := some ⟨b, 0, none⟩) (i := 0) (s := 0) k_fd_48_2_2_3 k_sz_3_1 rfl rfl)) ?_
    refine sgq 16 (B := r_2) (v := .int .i64 g.B) rfl rfl (wt_t (gd_of (t := 14) (by kernel_rfl) rfl)) (fun hg1 => (Y_load1 (B := some ⟨b, 0, none⟩) (i := 2) (cs := [.int .i64 g.Kind, .int .i64 g.A, .int .i64 g.B]) (v := .int .i64 g.B) k_sc_3 rfl (gv_of (B := r_2) (v := pt (some ⟨b, 0, none⟩) 2) hg1) (hS3.cf (i := 0) rfl) rfl)) ?_
    refine sgq 17 (B := r_2) (v := .bool (g.B == 0)) rfl rfl (wt_t (gd_of (t := 14) (by kernel_rfl) rfl)) (fun hg2 => (Y_eq (k := .i64) (a := g.B) (b := 0) rfl (gv_of (B := r_2) (v := .int .i64 g.B) hg2) rfl)) ?_
    refine sq 18 rfl rfl (Y_and (b := r_2) (z := (g.B == 0)) rfl rfl rfl rfl) ?_
    refine sq 4 rfl rfl (Y_assign (v := .bool (r_2 && (g.B == 0))) rfl rfl) ?_
    refine rw_nil ?_
    refine cw_ret ?_
    obtain rfl := some_inj hF1
    exact ret1 Try.results34 (v1 := .bool (r_2 && (g.B == 0))) (resAt_tmp rfl) ⟨rfl, (ST.subR (R' := []) (hS3.sel [] rfl rfl) (fun _ h => by cases h))⟩
  · skip
    have hF2 := cf' hF hb
    refine cw_seq ?_
    refine cw_region ?_
    refine sq 20 rfl rfl (Y_fieldAddr (B := some ⟨b, 0, none⟩) (i := 0) (s := 0) k_fd_48_0_0_3 k_sz_3_1 rfl rfl) ?_
    refine sq 21 rfl rfl (Y_load1 (B := some ⟨b, 0, none⟩) (i := 0) (cs := [.int .i64 g.Kind, .int .i64 g.A, .int .i64 g.B]) (v := .int .i64 g.Kind) k_sc_3 rfl rfl (hS2.cf (i := 0) rfl) rfl) ?_
    obtain ⟨r_3, hc2, hF2⟩ := bind_inv hF2
    refine sc 22 rfl rfl (Yc_func (g := 33) (vs := [.int .i64 g.Kind, .int .i64 9, .int .i64 11]) k_call_33 rfl (mc rfl (mc rfl (mc rfl mn))) (c_spec_l1In g.Kind 9 11 _  (hS2.inn0 [] rfl) hc2)) ?_
    rintro _ w_3 ⟨rfl, hd2⟩
    have hS4 := hS2.out00 hd2
    refine sq 19 rfl rfl (Y_assign (v := .bool r_3) rfl rfl) ?_
    refine rw_nil ?_
    refine cw_cond (b := r_3) rfl (fun hb1 => ?_) (fun hb1 => ?_)
    · skip
      have hF3 := ct hF2 hb1
      refine cw_seq ?_
      refine cw_region ?_
      refine sq 23 rfl rfl (Y_fieldAddr (B := some ⟨b, 0, none⟩) (i := 0) (s := 0) k_fd_48_1_1_3 k_sz_3_1 rfl rfl) ?_
      refine sq 24 rfl rfl (Y_load1 (B := some ⟨b, 0, none⟩) (i := 1) (cs := [.int .i64 g.Kind, .int .i64 g.A, .int .i64 g.B]) (v := .int .i64 g.A) k_sc_3 rfl rfl (hS4.cf (i := 0) rfl) rfl) ?_
      refine sq 25 rfl rfl (Y_move (v := .int .i64 n) rfl rfl) ?_
      refine sq 26 rfl rfl (Y_sub (k := .i64) (a := n) (b := 1) rfl rfl rfl) ?_
      obtain ⟨r_4, hc3, hF3⟩ := bind_inv hF3
      refine sc 27 rfl rfl (Yc_func (g := 33) (vs := [.int .i64 g.A, .int .i64 0, .int .i64 (IntKind.i64.wrap (n - 1))]) k_call_33 rfl (mc rfl (mc rfl (mc rfl mn))) (c_spec_l1In g.A 0 (IntKind.i64.wrap (n - 1)) _  (hS4.inn0 [] rfl) hc3)) ?_
      rintro _ w_4 ⟨rfl, hd3⟩
      have hS5 := hS4.out00 hd3
      refine sq 28 rfl rfl (Y_move (v := .bool r_4) rfl rfl) ?_
      refine sgq 29 (B := r_4) (v := pt (some ⟨b, 0, none⟩) 2) rfl rfl (wt_t (gd_of (t := 28) (by kernel_rfl) rfl)) (fun hg3 => (Y_fieldAddr (B := some ⟨b, 0, none⟩) (i := 0) (s := 0) k_fd_48_2_2_3 k_sz_3_1 rfl rfl)) ?_
      refine sgq 30 (B := r_4) (v := .int .i64 g.B) rfl rfl (wt_t (gd_of (t := 28) (by kernel_rfl) rfl)) (fun hg4 => (Y_load1 (B := some ⟨b, 0, none⟩) (i := 2) (cs := [.int .i64 g.Kind, .int .i64 g.A, .int .i64 g.B]) (v := .int .i64 g.B) k_sc_3 rfl (gv_of (B := r_4) (v := pt (some ⟨b, 0, none⟩) 2) hg4) (hS5.cf (i := 0) rfl) rfl)) ?_
      refine sgq 31 (B := r_4) (v := .int .i64 n) rfl rfl (wt_t (gd_of (t := 28) (by kernel_rfl) rfl)) (fun hg5 => (Y_move (v := .int .i64 n) rfl rfl)) ?_
      refine sgq 32 (B := r_4) (v := .int .i64 (IntKind.i64.wrap (n - 1))) rfl rfl (wt_t (gd_of (t := 28) (by kernel_rfl) rfl)) (fun hg6 => (Y_sub (k := .i64) (a := n) (b := 1) rfl (gv_of (B := r_4) (v := .int .i64 n) hg6) rfl)) ?_
      obtain ⟨r_5, hc4, hF3⟩ := bind_inv hF3
      refine sgc 33 (B := r_4) (v := .bool r_5) (F := hS5.fn) rfl rfl (wt_t (gd_of (t := 28) (by kernel_rfl) rfl)) hS5 (fun hg7 => (Yc_func (g := 33) (vs := [.int .i64 g.B, .int .i64 0, .int .i64 (IntKind.i64.wrap (n - 1))]) k_call_33 rfl (mc (gv_of (B := r_4) (v := .int .i64 g.B) hg7) (mc rfl (mc (gv_of (B := r_4) (v := .int .i64 (IntKind.i64.wrap (n - 1))) hg7) mn))) (CV.mono (c_spec_l1In g.B 0 (IntKind.i64.wrap (n - 1)) _  (hS5.inn0 [] rfl) (gb_inv hc4 hg7)) (by rintro _ _ ⟨rfl, h⟩; exact ⟨rfl, hS5.out00 h⟩)))) ?_
      rintro w_5 hS6
      have hS6 : ST _ _ w_5 _ _ := hS6
      refine sq 34 rfl rfl (Y_and (b := r_4) (z := r_5) rfl rfl rfl rfl) ?_
      refine sq 35 rfl rfl (Y_move (v := .bool (r_4 && r_5)) rfl rfl) ?_
      refine sgq 36 (B := (r_4 && r_5)) (v := pt (some ⟨b, 0, none⟩) 1) rfl rfl (wt_t (gd_of (t := 35) (by kernel_rfl) rfl)) (fun hg8 => (Y_fieldAddr (B := some ⟨b, 0, none⟩) (i := 0) (s := 0) k_fd_48_1_1_3 k_sz_3_1 rfl rfl)) ?_
      refine sgq 37 (B := (r_4 && r_5)) (v := .int .i64 g.A) rfl rfl (wt_t (gd_of (t := 35) (by kernel_rfl) rfl)) (fun hg9 => (Y_load1 (B := some ⟨b, 0, none⟩) (i := 1) (cs := [.int .i64 g.Kind, .int .i64 g.A, .int .i64 g.B]) (v := .int .i64 g.A) k_sc_3 rfl (gv_of (B := (r_4 && r_5)) (v := pt (some ⟨b, 0, none⟩) 1) hg9) (hS6.cf (i := 0) rfl) rfl)) ?_
      refine sgq 38 (B := (r_4 && r_5)) (v := pt (some ⟨b, 0, none⟩) 2) rfl rfl (wt_t (gd_of (t := 35) (by kernel_rfl) rfl)) (fun hg10 => (Y_fieldAddr (B := some ⟨b, 0, none⟩) (i := 0) (s := 0) k_fd_48_2_2_3 k_sz_3_1 rfl rfl)) ?_
      refine sgq 39 (B := (r_4 && r_5)) (v := .int .i64 g.B) rfl rfl (wt_t (gd_of (t := 35) (by kernel_rfl) rfl)) (fun hg11 => (Y_load1 (B := some ⟨b, 0, none⟩) (i := 2) (cs := [.int .i64 g.Kind, .int .i64 g.A, .int .i64 g.B]) (v := .int .i64 g.B) k_sc_3 rfl (gv_of (B := (r_4 && r_5)) (v := pt (some ⟨b, 0, none⟩) 2) hg11) (hS6.cf (i := 0) rfl) rfl)) ?_
      refine sgq 40 (B := (r_4 && r_5)) (v := .bool (g.A != g.B)) rfl rfl (wt_t (gd_of (t := 35) (by kernel_rfl) rfl)) (fun hg12 => (Y_ne (k := .i64) (a := g.A) (b := g.B) rfl (gv_of (B := (r_4 && r_5)) (v := .int .i64 g.A) hg12) (gv_of (B := (r_4 && r_5)) (v := .int .i64 g.B) hg12))) ?_
      refine sq 41 rfl rfl (Y_and (b := (r_4 && r_5)) (z := (g.A != g.B)) rfl rfl rfl rfl) ?_
      refine sq 4 rfl rfl (Y_assign (v := .bool ((r_4 && r_5) && (g.A != g.B))) rfl rfl) ?_
      refine rw_nil ?_
      refine cw_ret ?_
      obtain rfl := some_inj hF3
      exact ret1 Try.results34 (v1 := .bool ((r_4 && r_5) && (g.A != g.B))) (resAt_tmp rfl) ⟨rfl, (ST.subR (R' := []) (hS6.sel [] rfl rfl) (fun _ h => by cases h))⟩
    · skip
      have hF4 := cf' hF2 hb1
      refine cw_skip ?_
      refine cw_seq ?_
      refine cw_region ?_
      refine sq 42 rfl rfl (Y_fieldAddr (B := some ⟨b, 0, none⟩) (i := 0) (s := 0) k_fd_48_0_0_3 k_sz_3_1 rfl rfl) ?_
      refine sq 43 rfl rfl (Y_load1 (B := some ⟨b, 0, none⟩) (i := 0) (cs := [.int .i64 g.Kind, .int .i64 g.A, .int .i64 g.B]) (v := .int .i64 g.Kind) k_sc_3 rfl rfl (hS4.cf (i := 0) rfl) rfl) ?_
      refine sq 44 rfl rfl (Y_eq (k := .i64) (a := g.Kind) (b := 12) rfl rfl rfl) ?_
      refine sq 45 rfl rfl (Y_move (v := .bool (g.Kind == 12)) rfl rfl) ?_
      refine sgq 46 (B := (g.Kind == 12)) (v := pt (some ⟨b, 0, none⟩) 1) rfl rfl (wt_t (gd_of (t := 45) (by kernel_rfl) rfl)) (fun hg13 => (Y_fieldAddr (B := some ⟨b, 0, none⟩) (i := 0) (s := 0) k_fd_48_1_1_3 k_sz_3_1 rfl rfl)) ?_
      refine sgq 47 (B := (g.Kind == 12)) (v := .int .i64 g.A) rfl rfl (wt_t (gd_of (t := 45) (by kernel_rfl) rfl)) (fun hg14 => (Y_load1 (B := some ⟨b, 0, none⟩) (i := 1) (cs := [.int .i64 g.Kind, .int .i64 g.A, .int .i64 g.B]) (v := .int .i64 g.A) k_sc_3 rfl (gv_of (B := (g.Kind == 12)) (v := pt (some ⟨b, 0, none⟩) 1) hg14) (hS4.cf (i := 0) rfl) rfl)) ?_
      refine sgq 48 (B := (g.Kind == 12)) (v := .bool (g.A == 0)) rfl rfl (wt_t (gd_of (t := 45) (by kernel_rfl) rfl)) (fun hg15 => (Y_eq (k := .i64) (a := g.A) (b := 0) rfl (gv_of (B := (g.Kind == 12)) (v := .int .i64 g.A) hg15) rfl)) ?_
      refine sq 49 rfl rfl (Y_and (b := (g.Kind == 12)) (z := (g.A == 0)) rfl rfl rfl rfl) ?_
      refine sq 50 rfl rfl (Y_move (v := .bool ((g.Kind == 12) && (g.A == 0))) rfl rfl) ?_
      refine sgq 51 (B := ((g.Kind == 12) && (g.A == 0))) (v := pt (some ⟨b, 0, none⟩) 2) rfl rfl (wt_t (gd_of (t := 50) (by kernel_rfl) rfl)) (fun hg16 => (Y_fieldAddr (B := some ⟨b, 0, none⟩) (i := 0) (s := 0) k_fd_48_2_2_3 k_sz_3_1 rfl rfl)) ?_
      refine sgq 52 (B := ((g.Kind == 12) && (g.A == 0))) (v := .int .i64 g.B) rfl rfl (wt_t (gd_of (t := 50) (by kernel_rfl) rfl)) (fun hg17 => (Y_load1 (B := some ⟨b, 0, none⟩) (i := 2) (cs := [.int .i64 g.Kind, .int .i64 g.A, .int .i64 g.B]) (v := .int .i64 g.B) k_sc_3 rfl (gv_of (B := ((g.Kind == 12) && (g.A == 0))) (v := pt (some ⟨b, 0, none⟩) 2) hg17) (hS4.cf (i := 0) rfl) rfl)) ?_
      refine sgq 53 (B := ((g.Kind == 12) && (g.A == 0))) (v := .bool (g.B == 0)) rfl rfl (wt_t (gd_of (t := 50) (by kernel_rfl) rfl)) (fun hg18 => (Y_eq (k := .i64) (a := g.B) (b := 0) rfl (gv_of (B := ((g.Kind == 12) && (g.A == 0))) (v := .int .i64 g.B) hg18) rfl)) ?_
      refine sq 54 rfl rfl (Y_and (b := ((g.Kind == 12) && (g.A == 0))) (z := (g.B == 0)) rfl rfl rfl rfl) ?_
      refine sq 4 rfl rfl (Y_assign (v := .bool (((g.Kind == 12) && (g.A == 0)) && (g.B == 0))) rfl rfl) ?_
      refine rw_nil ?_
      refine cw_ret ?_
      obtain rfl := some_inj hF4
      exact ret1 Try.results34 (v1 := .bool (((g.Kind == 12) && (g.A == 0)) && (g.B == 0))) (resAt_tmp rfl) ⟨rfl, (ST.subR (R' := []) (hS4.sel [] rfl rfl) (fun _ h => by cases h))⟩

theorem c_spec_l4Good (c : TCircuit) (B : Option Addr) (c1 n : Nat) (w0 : World) (hn : c.Gates.length = n) (hS : ST w0 [] w0 [] [⟨B, (c.Gates.flatMap enc_Gate)⟩]) {r_ : Bool} (hF : F_spec_l4Good c = some r_) :
    CV Try.prog 14 #[.agg #[.int .i64 c.Qubits, .slice B n c1]] w0 (fun v w' => v = .bool r_ ∧ ST w0 [] w' [] []) := by
  subst hn
  unfold F_spec_l4Good at hF
  refine cv_of_cw 28 Try.func14 rfl Try.ntmps14 rfl ?_
  refine cw_seq ?_
  refine cw_region ?_
  refine ss 1 rfl rfl (Ys_box (T := 36) (v := .agg #[.int .i64 c.Qubits, .slice B c.Gates.length c1]) (cs := [.int .i64 c.Qubits, .slice B c.Gates.length c1]) (m := 2) hS rfl rfl rfl rfl) ?_
  rintro _ w_ ⟨b, rfl, hS1⟩
  refine sq 2 rfl rfl (Y_assign (v := .bool false) rfl rfl) ?_
  refine rw_nil ?_
  refine cw_seq ?_
  refine cw_seq ?_
  refine cw_region ?_
  refine sq 5 rfl rfl (Y_fieldAddr (B := some ⟨b, 0, none⟩) (i := 0) (s := 0) k_fd_36_0_0_3 k_sz_3_1 rfl rfl) ?_
  refine sq 6 rfl rfl (Y_load1 (B := some ⟨b, 0, none⟩) (i := 0) (cs := [.int .i64 c.Qubits, .slice B c.Gates.length c1]) (v := .int .i64 c.Qubits) k_sc_3 rfl rfl (hS1.cf (i := 0) rfl) rfl) ?_
  obtain ⟨r_1, hc, hF⟩ := bind_inv hF
  refine sc 7 rfl rfl (Yc_func (g := 33) (vs := [.int .i64 c.Qubits, .int .i64 1, .int .i64 5]) k_call_33 rfl (mc rfl (mc rfl (mc rfl mn))) (c_spec_l1In c.Qubits 1 5 _  (hS1.inn0 [] rfl) hc)) ?_
  rintro _ w_1 ⟨rfl, hd⟩
  have hS2 := hS1.out00 hd
  refine sq 8 rfl rfl (Y_not (p := r_1) rfl rfl) ?_
  refine sq 9 rfl rfl (Y_move (v := .bool (!r_1)) rfl rfl) ?_
  refine sgq 10 (B := (!(!r_1))) (v := pt (some ⟨b, 0, none⟩) 1) rfl rfl (wt_f (gd_of (t := 9) (by kernel_rfl) rfl)) (fun hg => (Y_fieldAddr (B := some ⟨b, 0, none⟩) (i := 0) (s := 0) k_fd_36_1_1_34 k_sz_34_1 rfl rfl)) ?_
  refine sgq 11 (B := (!(!r_1))) (v := .slice B c.Gates.length c1) rfl rfl (wt_f (gd_of (t := 9) (by kernel_rfl) rfl)) (fun hg1 => (Y_load1 (B := some ⟨b, 0, none⟩) (i := 1) (cs := [.int .i64 c.Qubits, .slice B c.Gates.length c1]) (v := .slice B c.Gates.length c1) k_sc_34 rfl (gv_of (B := (!(!r_1))) (v := pt (some ⟨b, 0, none⟩) 1) hg1) (hS2.cf (i := 0) rfl) rfl)) ?_
  refine sgq 12 (B := (!(!r_1))) (v := .int .i64 (c.Gates.length : Int)) rfl rfl (wt_f (gd_of (t := 9) (by kernel_rfl) rfl)) (fun hg2 => (Y_len (B := B) (m := c.Gates.length) (c := c1) k_sl_34_48 rfl (gv_of (B := (!(!r_1))) (v := .slice B c.Gates.length c1) hg2))) ?_
  refine sgq 13 (B := (!(!r_1))) (v := .bool (decide (400 < (c.Gates.length : Int)))) rfl rfl (wt_f (gd_of (t := 9) (by kernel_rfl) rfl)) (fun hg3 => (Y_gt (k := .i64) (a := (c.Gates.length : Int)) (b := 400) rfl (gv_of (B := (!(!r_1))) (v := .int .i64 (c.Gates.length : Int)) hg3) rfl)) ?_
  refine sq 14 rfl rfl (Y_or (b := (!r_1)) (z := (decide (400 < (c.Gates.length : Int)))) rfl rfl rfl rfl) ?_
  refine rw_nil ?_
  refine cw_cond (b := ((!r_1) || (decide (400 < (c.Gates.length : Int))))) rfl (fun hb => ?_) (fun hb => ?_)
  · skip
    have hF1 := ct hF hb
    refine cw_seq ?_
    refine cw_region ?_
    refine sq 2 rfl rfl (Y_assign (v := .bool false) rfl rfl) ?_
    refine rw_nil ?_
    refine cw_ret ?_
    obtain rfl := some_inj hF1
    exact ret1 Try.results14 (v1 := .bool false) (resAt_tmp rfl) ⟨rfl, (ST.subR (R' := []) (hS2.sel [] rfl rfl) (fun _ h => by cases h))⟩
  · skip
    have hF2 := cf' hF hb
    refine cw_skip ?_
    refine cw_seq ?_
    refine cw_seq ?_
    refine cw_region ?_
    refine sq 15 rfl rfl (Y_fieldAddr (B := some ⟨b, 0, none⟩) (i := 0) (s := 0) k_fd_36_1_1_34 k_sz_34_1 rfl rfl) ?_
    refine sq 16 rfl rfl (Y_load1 (B := some ⟨b, 0, none⟩) (i := 1) (cs := [.int .i64 c.Qubits, .slice B c.Gates.length c1]) (v := .slice B c.Gates.length c1) k_sc_34 rfl rfl (hS2.cf (i := 0) rfl) rfl) ?_
    refine sq 17 rfl rfl (Y_len (B := B) (m := c.Gates.length) (c := c1) k_sl_34_48 rfl rfl) ?_
    refine sq 18 rfl rfl (Y_move (v := .int .i64 0) rfl rfl) ?_
    refine rw_nil ?_
    obtain ⟨hN, hF2⟩ := chk_inv hF2
    obtain ⟨z, hz, hF3⟩ := bind_inv hF2
    refine cw_block ?_
    refine cw_loop (fun k f w => ∃ (i : Nat), FF f [(1, pt (some ⟨b, 0, none⟩) 0), (16, .slice B c.Gates.length c1), (17, .int .i64 (c.Gates.length : Int)), (18, .int .i64 (i : Int))] ∧ ST w0 [] w [⟨some ⟨b, 0, none⟩, 36, [.int .i64 c.Qubits, .slice B c.Gates.length c1], 2⟩] [⟨B, (c.Gates.flatMap enc_Gate)⟩] ∧ i + k = c.Gates.length ∧ forX (F_spec_l4Good_l1 c) k i () = some z) c.Gates.length ⟨0, (FF.cons rfl (FF.cons rfl (FF.cons rfl (FF.cons rfl FF.nil)))), (hS2.sel [0] rfl rfl), Nat.zero_add _, hz⟩ ?_
    rintro k_ f w ⟨i, hf, hS3, hik, hL⟩
    refine cw_seq ?_
    refine cw_region ?_
    refine sq 19 rfl rfl (Y_lt (k := .i64) (a := (i : Int)) (b := (c.Gates.length : Int)) rfl (hf.get 18 3 rfl) (hf.get 17 2 rfl)) ?_
    refine rw_nil ?_
    refine cw_seq ?_
    refine cw_cond (b := (decide ((i : Int) < (c.Gates.length : Int)))) rfl (fun hlt => ?_) (fun hlt => ?_)
    · skip
      have hlt1 : i < c.Gates.length := by have h := of_decide_eq_true hlt; omega
      obtain ⟨k_1, rfl⟩ : ∃ k2, k_ = k2 + 1 := ⟨k_ - 1, by omega⟩
      obtain ⟨y, hb1, hL1⟩ := forX_go hL
      unfold F_spec_l4Good_l1 at hb1
      refine cw_skip ?_
      refine cw_seq ?_
      refine cw_block ?_
      refine cw_seq ?_
      refine cw_region ?_
      obtain ⟨x, hx, hb1⟩ := bind_inv hb1
      refine sq 20 rfl rfl (Y_index (B := B) (m := c.Gates.length) (c := c1) (k := .i64) (i := (i : Int)) k_sl_34_48 k_sz_48_3 rfl (hf.get 16 1 rfl) (hf.get 18 3 rfl) (gi_isSome enc_Gate_len rfl (hS3.rf (i := 0) rfl) hx) (getI_nn hx) (getI_ltI hx rfl)) ?_
      refine sq 21 rfl rfl (Y_loadA (B := B) (i := (i : Int).toNat * 3) (cs := (c.Gates.flatMap enc_Gate)) (vs := [.int .i64 x.Kind, .int .i64 x.A, .int .i64 x.B]) k_ag_48 k_sz_48_3 rfl rfl (hS3.rf (i := 0) rfl) (enc_Gate_len x) (gi_seg enc_Gate_len hx)) ?_
      refine ss 4 rfl rfl (Ys_alloc (T := 48) (cs := [.int .i64 0, .int .i64 0, .int .i64 0]) (m := 3) hS3 k_zero_48 rfl rfl rfl) ?_
      rintro _ w_2 ⟨b1, rfl, hS4⟩
      have hS4 : ST w0 [] _ [⟨some ⟨b, 0, none⟩, 36, [.int .i64 c.Qubits, .slice B c.Gates.length c1], 2⟩, ⟨some ⟨b1, 0, none⟩, 48, [.int .i64 0, .int .i64 0, .int .i64 0], 3⟩] [⟨B, (c.Gates.flatMap enc_Gate)⟩] := hS4
      refine ss0 rfl rfl (Ys_store (i := 1) (s := 3) (B := some ⟨b1, 0, none⟩) (T' := 48) (v := .agg #[.int .i64 x.Kind, .int .i64 x.A, .int .i64 x.B]) (vs := [.int .i64 x.Kind, .int .i64 x.A, .int .i64 x.B]) (k := 0) (cs' := [.int .i64 x.Kind, .int .i64 x.A, .int .i64 x.B]) hS4 k_sz_48_3 rfl rfl rfl rfl rfl rfl rfl (Nat.le_of_ble_eq_true rfl) rfl rfl) ?_
      rintro _ w_3 ⟨rfl, hS5⟩
      have hS5 : ST w0 [] _ [⟨some ⟨b, 0, none⟩, 36, [.int .i64 c.Qubits, .slice B c.Gates.length c1], 2⟩, ⟨some ⟨b1, 0, none⟩, 48, [.int .i64 x.Kind, .int .i64 x.A, .int .i64 x.B], 3⟩] [⟨B, (c.Gates.flatMap enc_Gate)⟩] := hS5
      refine rw_nil ?_
      refine cw_seq ?_
      refine cw_region ?_
      refine sq 22 rfl rfl (Y_fieldAddr (B := some ⟨b, 0, none⟩) (i := 0) (s := 0) k_fd_36_0_0_3 k_sz_3_1 rfl (hf.get 1 0 rfl)) ?_
      refine sq 23 rfl rfl (Y_load1 (B := some ⟨b, 0, none⟩) (i := 0) (cs := [.int .i64 c.Qubits, .slice B c.Gates.length c1]) (v := .int .i64 c.Qubits) k_sc_3 rfl rfl (hS5.cf (i := 0) rfl) rfl) ?_
      refine sq 24 rfl rfl (Y_loadA (B := some ⟨b1, 0, none⟩) (i := 0) (cs := [.int .i64 x.Kind, .int .i64 x.A, .int .i64 x.B]) (vs := [.int .i64 x.Kind, .int .i64 x.A, .int .i64 x.B]) k_ag_48 k_sz_48_3 rfl rfl (hS5.cf (i := 1) rfl) rfl rfl) ?_
      obtain ⟨r_2, hc1, hb1⟩ := bind_inv hb1
      refine sc 25 rfl rfl (Yc_func (g := 34) (vs := [.int .i64 c.Qubits, .agg #[.int .i64 x.Kind, .int .i64 x.A, .int .i64 x.B]]) k_call_34 rfl (mc rfl (mc rfl mn)) (c_spec_l4Gate c.Qubits x _  (hS5.inn0 [] rfl) hc1)) ?_
      rintro _ w_4 ⟨rfl, hd1⟩
      have hS6 := hS5.out00 hd1
      have hS6 : ST w0 [] _ [⟨some ⟨b, 0, none⟩, 36, [.int .i64 c.Qubits, .slice B c.Gates.length c1], 2⟩, ⟨some ⟨b1, 0, none⟩, 48, [.int .i64 x.Kind, .int .i64 x.A, .int .i64 x.B], 3⟩] [⟨B, (c.Gates.flatMap enc_Gate)⟩] := hS6
      refine sq 26 rfl rfl (Y_not (p := r_2) rfl rfl) ?_
      refine rw_nil ?_
      refine cw_cond (b := (!r_2)) rfl (fun hb2 => ?_) (fun hb2 => ?_)
      · skip
        have hF4 := ct hb1 hb2
        refine cw_seq ?_
        refine cw_region ?_
        refine sq 2 rfl rfl (Y_assign (v := .bool false) rfl rfl) ?_
        refine rw_nil ?_
        refine cw_ret ?_
        obtain rfl := some_inj hF4
        obtain rfl := some_inj hL1
        obtain rfl := some_inj hF3
        exact ret1 Try.results14 (v1 := .bool false) (resAt_tmp rfl) ⟨rfl, (ST.subR (R' := []) (hS6.sel [] rfl rfl) (fun _ h => by cases h))⟩
      · skip
        have hF5 := cf' hb1 hb2
        refine cw_skip ?_
        refine cw_region ?_
        refine sq 27 rfl rfl (Y_add (k := .i64) (a := (i : Int)) (b := 1) rfl (hf.get 18 3 rfl) rfl) ?_
        refine sq 18 rfl rfl (Y_move (v := .int .i64 (IntKind.i64.wrap ((i : Int) + 1))) rfl rfl) ?_
        refine rw_nil ?_
        obtain rfl := some_inj hF5
        exact ⟨k_1, Nat.lt_succ_self _, i + 1, (FF.cons (hf.get 1 0 rfl) (FF.cons (hf.get 16 1 rfl) (FF.cons (hf.get 17 2 rfl) (FF.cons (congrArg (Value.int .i64) (wr_succ hlt1 hN)) FF.nil)))), (hS6.sel [0] rfl rfl), (by omega), hL1⟩
    · skip
      obtain rfl : k_ = 0 := by have h := of_decide_eq_false hlt; omega
      refine cw_exit rfl ?_
      obtain rfl := some_inj hL
      refine cw_seq ?_
      refine cw_region ?_
      refine sq 2 rfl rfl (Y_assign (v := .bool true) rfl rfl) ?_
      refine rw_nil ?_
      refine cw_ret ?_
      obtain rfl := some_inj hF3
      exact ret1 Try.results14 (v1 := .bool true) (resAt_tmp rfl) ⟨rfl, (ST.subR (R' := []) (hS3.sel [] rfl rfl) (fun _ h => by cases h))⟩

theorem c_spec_l12Identity (n : Int)  (w0 : World)  (hS : ST w0 [] w0 [] []) {r_ : TLinear} (hF : F_spec_l12Identity n = some r_) :
    CV Try.prog 15 #[.int .i64 n] w0 (fun v w' => ∃ (B : Option Addr) (c : Nat), v = .agg #[.slice B r_.Rows.length c] ∧ ST w0 [] w' [⟨B, 3, (r_.Rows.flatMap encI), c * 1⟩] []) := by
  unfold F_spec_l12Identity at hF
  refine cv_of_cw 19 Try.func15 rfl Try.ntmps15 rfl ?_
  refine cw_seq ?_
  refine cw_region ?_
  refine ss 2 rfl rfl (Ys_alloc (T := 29) (cs := [.slice none 0 0]) (m := 1) hS k_zero_29 rfl rfl rfl) ?_
  rintro _ w_ ⟨b, rfl, hS1⟩
  refine rw_nil ?_
  refine cw_seq ?_
  refine cw_region ?_
  refine ss 3 rfl rfl (Ys_alloc (T := 29) (cs := [.slice none 0 0]) (m := 1) hS1 k_zero_29 rfl rfl rfl) ?_
  rintro _ w_1 ⟨b1, rfl, hS2⟩
  have hS2 : ST w0 [] _ [⟨some ⟨b, 0, none⟩, 29, [.slice none 0 0], 1⟩, ⟨some ⟨b1, 0, none⟩, 29, [.slice none 0 0], 1⟩] [] := hS2
  refine rw_nil ?_
  refine cw_seq ?_
  refine cw_seq ?_
  refine cw_region ?_
  refine sq 4 rfl rfl (Y_assign (v := .int .i64 0) rfl rfl) ?_
  refine rw_nil ?_
  obtain ⟨hN, hF⟩ := chk_inv hF
  obtain ⟨z, hz, hF1⟩ := bind_inv hF
  have hS4 := hS2.addNil 3
  refine cw_block ?_
  refine cw_loop (fun k f w => ∃ (i1 : Nat) (Rows : List Int) (B1 : Option Addr) (c1 : Nat), FF f [(0, .int .i64 n), (2, pt (some ⟨b, 0, none⟩) 0), (3, pt (some ⟨b1, 0, none⟩) 0), (4, .int .i64 (i1 : Int))] ∧ ST w0 [] w [⟨some ⟨b, 0, none⟩, 29, [.slice none 0 0], 1⟩, ⟨some ⟨b1, 0, none⟩, 29, [.slice B1 Rows.length c1], 1⟩, ⟨B1, 3, (Rows.flatMap encI), c1 * 1⟩] [] ∧ i1 + k = n.toNat ∧ forN F_spec_l12Identity_l1 k i1 Rows = some z) n.toNat ⟨0, [], none, 0, (FF.cons rfl (FF.cons rfl (FF.cons rfl (FF.cons rfl FF.nil)))), (hS4.sel [0, 1, 2] rfl rfl), Nat.zero_add _, hz⟩ ?_
  rintro k_ f w ⟨i1, Rows, B1, c1, hf, hS3, hik, hL⟩
  refine cw_seq ?_
  refine cw_seq ?_
  refine cw_region ?_
  refine sq 5 rfl rfl (Y_move (v := .int .i64 (i1 : Int)) rfl (hf.get 4 3 rfl)) ?_
  refine sq 6 rfl rfl (Y_move (v := .int .i64 n) rfl (hf.get 0 0 rfl)) ?_
  refine sq 7 rfl rfl (Y_lt (k := .i64) (a := (i1 : Int)) (b := n) rfl rfl rfl) ?_
  refine rw_nil ?_
  refine cw_cond (b := (decide ((i1 : Int) < n))) rfl (fun hlt => ?_) (fun hlt => ?_)
  · skip
    have hlt1 : i1 < n.toNat := by have h := of_decide_eq_true hlt; omega
    obtain ⟨k_1, rfl⟩ : ∃ k2, k_ = k2 + 1 := ⟨k_ - 1, by omega⟩
    obtain ⟨y, hb, hL1⟩ := forN_go hL
    unfold F_spec_l12Identity_l1 at hb
    refine cw_skip ?_
    refine cw_seq ?_
    refine cw_block ?_
    refine cw_region ?_
    refine sq 10 rfl rfl (Y_fieldAddr (B := some ⟨b1, 0, none⟩) (i := 0) (s := 0) k_fd_29_0_0_27 k_sz_27_1 rfl (hf.get 3 2 rfl)) ?_
    refine sq 11 rfl rfl (Y_load1 (B := some ⟨b1, 0, none⟩) (i := 0) (cs := [.slice B1 Rows.length c1]) (v := .slice B1 Rows.length c1) k_sc_27 rfl rfl (hS3.cf (i := 1) rfl) rfl) ?_
    refine sq 12 rfl rfl (Y_move (v := .int .i64 (i1 : Int)) rfl (hf.get 4 3 rfl)) ?_
    refine sq 13 rfl rfl (Y_conv (k := .i64) (a := (i1 : Int)) (T := 3) (T' := 45) k_us_3 k_int_45_u64 rfl rfl) ?_
    obtain ⟨hsh, hb⟩ := chk_inv hb
    refine sq 14 rfl rfl (Y_shl (k := .i64) (a := 1) (k' := .u64) (b := (IntKind.u64.wrap (i1 : Int))) rfl rfl rfl hsh) ?_
    refine ss 15 rfl rfl (Ys_bslice (s := 1) (len := 1) (vs := [(0, .int .i64 (shlK .i64 1 (IntKind.u64.wrap (i1 : Int))))]) (cs := [.int .i64 (shlK .i64 1 (IntKind.u64.wrap (i1 : Int)))]) (zs := [.int .i64 0]) (m := 1) hS3 k_sl_27_3 k_sz_3_1 k_zc_3 rfl (mpc rfl mpn) rfl rfl rfl rfl rfl rfl) ?_
    rintro _ w_2 ⟨b2, rfl, hS5⟩
    have hS5 : ST w0 [] _ [⟨some ⟨b, 0, none⟩, 29, [.slice none 0 0], 1⟩, ⟨some ⟨b1, 0, none⟩, 29, [.slice B1 Rows.length c1], 1⟩, ⟨B1, 3, (Rows.flatMap encI), c1 * 1⟩, ⟨some ⟨b2, 0, none⟩, 3, ([(shlK .i64 1 (IntKind.u64.wrap (i1 : Int)))].flatMap encI), 1 * 1⟩] [] := hS5
    obtain ⟨hap, hb⟩ := chk_inv hb
    refine ss 16 rfl rfl (Ys_append (s := 1) (by' := 8) (i := 2) (nn := Rows.length) (c := c1) (k := 1) (len := (Rows ++ [(shlK .i64 1 (IntKind.u64.wrap (i1 : Int)))]).length) (B := B1) (xs := ([(shlK .i64 1 (IntKind.u64.wrap (i1 : Int)))].flatMap encI)) (cs' := ((Rows ++ [(shlK .i64 1 (IntKind.u64.wrap (i1 : Int)))]).flatMap encI)) hS5 k_sl_27_3 k_sz_3_1 k_by_3_8 k_zero_3 rfl (by decide) rfl rfl rfl rfl (fm_lenn (l := Rows) encI_len rfl) rfl (hS5.cf (i := 3) rfl) (fm_lenn (l := [(shlK .i64 1 (IntKind.u64.wrap (i1 : Int)))]) encI_len rfl) (fm_one' (enc := encI) encI_one [(shlK .i64 1 (IntKind.u64.wrap (i1 : Int)))]) (by have := hap; omega) (by have := hap; simp only [maxLen]; omega) (fm_app _ _) (app_len (l := Rows) (l' := [(shlK .i64 1 (IntKind.u64.wrap (i1 : Int)))]) rfl rfl)) ?_
    rintro _ w_3 ⟨B2, c2, rfl, hS6⟩
    have hS6 : ST w0 [] _ [⟨some ⟨b, 0, none⟩, 29, [.slice none 0 0], 1⟩, ⟨some ⟨b1, 0, none⟩, 29, [.slice B1 Rows.length c1], 1⟩, ⟨B2, 3, ((Rows ++ [(shlK .i64 1 (IntKind.u64.wrap (i1 : Int)))]).flatMap encI), c2 * 1⟩, ⟨some ⟨b2, 0, none⟩, 3, ([(shlK .i64 1 (IntKind.u64.wrap (i1 : Int)))].flatMap encI), 1 * 1⟩] [] := hS6
    refine sq 17 rfl rfl (Y_fieldAddr (B := some ⟨b1, 0, none⟩) (i := 0) (s := 0) k_fd_29_0_0_27 k_sz_27_1 rfl (hf.get 3 2 rfl)) ?_
    refine ss0 rfl rfl (Ys_store (i := 1) (s := 1) (B := some ⟨b1, 0, none⟩) (T' := 29) (v := .slice B2 ((Rows ++ [(shlK .i64 1 (IntKind.u64.wrap (i1 : Int)))]).length) c2) (vs := [.slice B2 ((Rows ++ [(shlK .i64 1 (IntKind.u64.wrap (i1 : Int)))]).length) c2]) (k := 0) (cs' := [.slice B2 ((Rows ++ [(shlK .i64 1 (IntKind.u64.wrap (i1 : Int)))]).length) c2]) hS6 k_sz_27_1 rfl rfl rfl rfl rfl rfl rfl (Nat.le_of_ble_eq_true rfl) rfl rfl) ?_
    rintro _ w_4 ⟨rfl, hS7⟩
    have hS7 : ST w0 [] _ [⟨some ⟨b, 0, none⟩, 29, [.slice none 0 0], 1⟩, ⟨some ⟨b1, 0, none⟩, 29, [.slice B2 ((Rows ++ [(shlK .i64 1 (IntKind.u64.wrap (i1 : Int)))]).length) c2], 1⟩, ⟨B2, 3, ((Rows ++ [(shlK .i64 1 (IntKind.u64.wrap (i1 : Int)))]).flatMap encI), c2 * 1⟩, ⟨some ⟨b2, 0, none⟩, 3, ([(shlK .i64 1 (IntKind.u64.wrap (i1 : Int)))].flatMap encI), 1 * 1⟩] [] := hS7
    refine rw_nil ?_
    refine cw_region ?_
    refine sq 8 rfl rfl (Y_move (v := .int .i64 (i1 : Int)) rfl (hf.get 4 3 rfl)) ?_
    refine sq 9 rfl rfl (Y_add (k := .i64) (a := (i1 : Int)) (b := 1) rfl rfl rfl) ?_
    refine sq 4 rfl rfl (Y_assign (v := .int .i64 (IntKind.i64.wrap ((i1 : Int) + 1))) rfl rfl) ?_
    refine rw_nil ?_
    obtain rfl := some_inj hb
    exact ⟨k_1, Nat.lt_succ_self _, i1 + 1, (Rows ++ [(shlK .i64 1 (IntKind.u64.wrap (i1 : Int)))]), B2, c2, (FF.cons (hf.get 0 0 rfl) (FF.cons (hf.get 2 1 rfl) (FF.cons (hf.get 3 2 rfl) (FF.cons (congrArg (Value.int .i64) (wr_succ hlt1 hN)) FF.nil)))), (hS7.sel [0, 1, 2] rfl rfl), (by omega), hL1⟩
  · skip
    obtain rfl : k_ = 0 := by have h := of_decide_eq_false hlt; omega
    refine cw_exit rfl ?_
    obtain rfl := some_inj hL
    refine cw_seq ?_
    refine cw_region ?_
    refine sq 18 rfl rfl (Y_loadA (B := some ⟨b1, 0, none⟩) (i := 0) (cs := [.slice B1 Rows.length c1]) (vs := [.slice B1 Rows.length c1]) k_ag_29 k_sz_29_1 rfl (hf.get 3 2 rfl) (hS3.cf (i := 1) rfl) rfl rfl) ?_
    refine ss0 rfl rfl (Ys_store (i := 0) (s := 1) (B := some ⟨b, 0, none⟩) (T' := 29) (v := .agg #[.slice B1 Rows.length c1]) (vs := [.slice B1 Rows.length c1]) (k := 0) (cs' := [.slice B1 Rows.length c1]) hS3 k_sz_29_1 rfl (hf.get 2 1 rfl) rfl rfl rfl rfl rfl (Nat.le_of_ble_eq_true rfl) rfl rfl) ?_
    rintro _ w_5 ⟨rfl, hS8⟩
    have hS8 : ST w0 [] _ [⟨some ⟨b, 0, none⟩, 29, [.slice B1 Rows.length c1], 1⟩, ⟨some ⟨b1, 0, none⟩, 29, [.slice B1 Rows.length c1], 1⟩, ⟨B1, 3, (Rows.flatMap encI), c1 * 1⟩] [] := hS8
    refine rw_nil ?_
    refine cw_ret ?_
    obtain rfl := some_inj hF1
    exact ret1 Try.results15 (v1 := .agg #[.slice B1 Rows.length c1]) (resAt_cellA (B := some ⟨b, 0, none⟩) (i := 0) (cs := [.slice B1 Rows.length c1]) (vs := [.slice B1 Rows.length c1]) (hf.get 2 1 rfl) k_ag_29 k_sz_29_1 (hS8.cf (i := 0) rfl) rfl rfl) ⟨B1, c1, rfl, (ST.subR (R' := []) (hS8.sel [2] rfl rfl) (fun _ h => by cases h))⟩

theorem c_spec_l1Own (l : List Int) (B : Option Addr) (c n : Nat) (w0 : World) (hn : l.length = n) (hS : ST w0 [] w0 [] [⟨B, (l.flatMap encI)⟩]) {r_ : List Int} (hF : F_spec_l1Own l = some r_) :
    CV Try.prog 35 #[.slice B n c] w0 (fun v w' => ∃ (B1 : Option Addr) (c1 : Nat), v = .slice B1 r_.length c1 ∧ ST w0 [] w' [⟨B1, 3, (r_.flatMap encI), c1 * 1⟩] []) := by
  subst hn
  unfold F_spec_l1Own at hF
  refine cv_of_cw 6 Try.func35 rfl Try.ntmps35 rfl ?_
  refine cw_seq ?_
  refine cw_region ?_
  refine sq 2 rfl rfl (Y_assign (v := .slice none 0 0) rfl rfl) ?_
  refine rw_nil ?_
  refine cw_seq ?_
  refine cw_region ?_
  refine ss 3 rfl rfl (Ys_bslice0 (s := 1) (e := 3) hS k_sl_27_3 k_sz_3_1 rfl) ?_
  rintro _ w_ ⟨b, rfl, hS1⟩
  refine sq 4 rfl rfl (Y_move (v := .slice B l.length c) rfl rfl) ?_
  obtain ⟨hap, hF⟩ := chk_inv hF
  refine ss 5 rfl rfl (Ys_append (s := 1) (by' := 8) (i := 0) (nn := 0) (c := 0) (k := l.length) (len := l.length) (B := some ⟨b, 0, none⟩) (xs := (l.flatMap encI)) (cs' := (l.flatMap encI)) hS1 k_sl_27_3 k_sz_3_1 k_by_3_8 k_zero_3 rfl (by decide) rfl rfl rfl rfl (fm_lenn (l := []) encI_len rfl) rfl (hS1.rf (i := 0) rfl) (fm_lenn (l := l) encI_len rfl) (fm_one' (enc := encI) encI_one l) (by have := hap; omega) (by have := hap; simp only [maxLen]; omega) rfl (app_len0 (l := l) rfl)) ?_
  rintro _ w_1 ⟨B2, c2, rfl, hS2⟩
  refine sq 2 rfl rfl (Y_assign (v := .slice B2 l.length c2) rfl rfl) ?_
  refine rw_nil ?_
  refine cw_ret ?_
  obtain rfl := some_inj hF
  exact ret1 Try.results35 (v1 := .slice B2 l.length c2) (resAt_tmp rfl) ⟨B2, c2, rfl, (ST.subR (R' := []) (hS2.sel [0] rfl rfl) (fun _ h => by cases h))⟩

theorem c_spec_l12CX (m : TLinear) (a : Int) (b : Int) (B : Option Addr) (c n : Nat) (w0 : World) (hn : m.Rows.length = n) (hS : ST w0 [] w0 [] [⟨B, (m.Rows.flatMap encI)⟩]) {r_ : TLinear} (hF : F_spec_l12CX m a b = some r_) :
    CV Try.prog 16 #[.agg #[.slice B n c], .int .i64 a, .int .i64 b] w0 (fun v w' => ∃ (B1 : Option Addr) (c1 : Nat), v = .agg #[.slice B1 r_.Rows.length c1] ∧ ST w0 [] w' [⟨B1, 3, (r_.Rows.flatMap encI), c1 * 1⟩] []) := by
  subst hn
  unfold F_spec_l12CX at hF
  refine cv_of_cw 25 Try.func16 rfl Try.ntmps16 rfl ?_
  refine cw_seq ?_
  refine cw_region ?_
  refine ss 3 rfl rfl (Ys_box (T := 29) (v := .agg #[.slice B m.Rows.length c]) (cs := [.slice B m.Rows.length c]) (m := 1) hS rfl rfl rfl rfl) ?_
  rintro _ w_ ⟨b1, rfl, hS1⟩
  refine ss 6 rfl rfl (Ys_alloc (T := 29) (cs := [.slice none 0 0]) (m := 1) hS1 k_zero_29 rfl rfl rfl) ?_
  rintro _ w_1 ⟨b2, rfl, hS2⟩
  have hS2 : ST w0 [] _ [⟨some ⟨b1, 0, none⟩, 29, [.slice B m.Rows.length c], 1⟩, ⟨some ⟨b2, 0, none⟩, 29, [.slice none 0 0], 1⟩] [⟨B, (m.Rows.flatMap encI)⟩] := hS2
  refine rw_nil ?_
  refine cw_seq ?_
  refine cw_region ?_
  refine sq 8 rfl rfl (Y_fieldAddr (B := some ⟨b1, 0, none⟩) (i := 0) (s := 0) k_fd_29_0_0_27 k_sz_27_1 rfl rfl) ?_
  refine sq 9 rfl rfl (Y_load1 (B := some ⟨b1, 0, none⟩) (i := 0) (cs := [.slice B m.Rows.length c]) (v := .slice B m.Rows.length c) k_sc_27 rfl rfl (hS2.cf (i := 0) rfl) rfl) ?_
  obtain ⟨r_1, hc, hF⟩ := bind_inv hF
  refine sc 10 rfl rfl (Yc_func (g := 35) (vs := [.slice B m.Rows.length c]) k_call_35 rfl (mc rfl mn) (c_spec_l1Own m.Rows B c m.Rows.length _ rfl (hS2.inn0 [(true, 0)] rfl) hc)) ?_
  rintro _ w_2 ⟨B2, c2, rfl, hd⟩
  have hS3 := hS2.out0 hd
  have hS3 : ST w0 [] _ [⟨some ⟨b1, 0, none⟩, 29, [.slice B m.Rows.length c], 1⟩, ⟨some ⟨b2, 0, none⟩, 29, [.slice none 0 0], 1⟩, ⟨B2, 3, (r_1.flatMap encI), c2 * 1⟩] [⟨B, (m.Rows.flatMap encI)⟩] := hS3
  refine sq 11 rfl rfl (Y_buildS (zs := [.slice none 0 0]) (vs := [(0, .slice B2 r_1.length c2)]) (cs := [.slice B2 r_1.length c2]) k_pl_29 k_zero_29 rfl (mpc rfl mpn) rfl) ?_
  refine ss 7 rfl rfl (Ys_alloc (T := 29) (cs := [.slice none 0 0]) (m := 1) hS3 k_zero_29 rfl rfl rfl) ?_
  rintro _ w_3 ⟨b3, rfl, hS4⟩
  have hS4 : ST w0 [] _ [⟨some ⟨b1, 0, none⟩, 29, [.slice B m.Rows.length c], 1⟩, ⟨some ⟨b2, 0, none⟩, 29, [.slice none 0 0], 1⟩, ⟨B2, 3, (r_1.flatMap encI), c2 * 1⟩, ⟨some ⟨b3, 0, none⟩, 29, [.slice none 0 0], 1⟩] [⟨B, (m.Rows.flatMap encI)⟩] := hS4
  refine ss0 rfl rfl (Ys_store (i := 3) (s := 1) (B := some ⟨b3, 0, none⟩) (T' := 29) (v := .agg #[.slice B2 r_1.length c2]) (vs := [.slice B2 r_1.length c2]) (k := 0) (cs' := [.slice B2 r_1.length c2]) hS4 k_sz_29_1 rfl rfl rfl rfl rfl rfl rfl (Nat.le_of_ble_eq_true rfl) rfl rfl) ?_
  rintro _ w_4 ⟨rfl, hS5⟩
  have hS5 : ST w0 [] _ [⟨some ⟨b1, 0, none⟩, 29, [.slice B m.Rows.length c], 1⟩, ⟨some ⟨b2, 0, none⟩, 29, [.slice none 0 0], 1⟩, ⟨B2, 3, (r_1.flatMap encI), c2 * 1⟩, ⟨some ⟨b3, 0, none⟩, 29, [.slice B2 r_1.length c2], 1⟩] [⟨B, (m.Rows.flatMap encI)⟩] := hS5
  refine rw_nil ?_
  refine cw_seq ?_
  obtain ⟨x, hx, hF⟩ := bind_inv hF
  obtain ⟨x1, hx1, hF⟩ := bind_inv hF
  refine cw_mid (fun f w => FF f [(6, pt (some ⟨b2, 0, none⟩) 0), (7, pt (some ⟨b3, 0, none⟩) 0)] ∧ ST w0 [] w [⟨some ⟨b2, 0, none⟩, 29, [.slice none 0 0], 1⟩, ⟨some ⟨b3, 0, none⟩, 29, [.slice B2 r_1.length c2], 1⟩, ⟨B2, 3, ((r_1.set b.toNat (bits .xor .i64 x x1)).flatMap encI), c2 * 1⟩] [⟨B, (m.Rows.flatMap encI)⟩]) ?_ ?_
  · skip
    refine ra_start (ST.sel hS5 [0, 1, 3] rfl rfl).fn (by kernel_rfl) ?_
    have hS7 := hS5.drew
    refine ra_q 0 12 (v := pt (some ⟨b3, 0, none⟩) 0) rfl rfl rfl (by kernel_rfl) (by kernel_rfl) (by kernel_rfl) (ST.sel hS7 [0, 1, 3] rfl rfl) (fun w' hw' => (Y_fieldAddr (B := some ⟨b3, 0, none⟩) (i := 0) (s := 0) k_fd_29_0_0_27 k_sz_27_1 rfl rfl)) ?_
    refine ra_q 1 13 (v := .slice B2 r_1.length c2) rfl rfl rfl (by kernel_rfl) (by kernel_rfl) (by kernel_rfl) (ST.sel hS7 [0, 1, 3] rfl rfl) (fun w' hw' => (Y_load1 (B := some ⟨b3, 0, none⟩) (i := 0) (cs := [.slice B2 r_1.length c2]) (v := .slice B2 r_1.length c2) k_sc_27 rfl rfl (ST.cf hw' (i := 2) rfl) rfl)) ?_
    refine ra_q 2 14 (v := .int .i64 b) rfl rfl rfl (by kernel_rfl) (by kernel_rfl) (by kernel_rfl) (ST.sel hS7 [0, 1, 3] rfl rfl) (fun w' hw' => (Y_move (v := .int .i64 b) rfl rfl)) ?_
    refine ra_q 5 17 (v := pt (some ⟨b3, 0, none⟩) 0) rfl rfl rfl (by kernel_rfl) (by kernel_rfl) (by kernel_rfl) (ST.sel hS7 [0, 1, 3] rfl rfl) (fun w' hw' => (Y_fieldAddr (B := some ⟨b3, 0, none⟩) (i := 0) (s := 0) k_fd_29_0_0_27 k_sz_27_1 rfl rfl)) ?_
    refine ra_q 6 18 (v := .slice B2 r_1.length c2) rfl rfl rfl (by kernel_rfl) (by kernel_rfl) (by kernel_rfl) (ST.sel hS7 [0, 1, 3] rfl rfl) (fun w' hw' => (Y_load1 (B := some ⟨b3, 0, none⟩) (i := 0) (cs := [.slice B2 r_1.length c2]) (v := .slice B2 r_1.length c2) k_sc_27 rfl rfl (ST.cf hw' (i := 2) rfl) rfl)) ?_
    refine ra_q 7 19 (v := .int .i64 a) rfl rfl rfl (by kernel_rfl) (by kernel_rfl) (by kernel_rfl) (ST.sel hS7 [0, 1, 3] rfl rfl) (fun w' hw' => (Y_move (v := .int .i64 a) rfl rfl)) ?_
    refine ra_all (rs := [3, 8]) (by kernel_rfl) rfl ?_
    refine ra_y 15 (i := 3) (v := pt B2 (b.toNat * 1)) rfl rfl rfl (Y_index (B := B2) (m := r_1.length) (c := c2) (k := .i64) (i := b) k_sl_27_3 k_sz_3_1 rfl rfl rfl (gi_isSome encI_len rfl (hS7.cf (i := 2) rfl) hx) (getI_nn hx) (getI_ltI hx rfl)) (ST.sel hS7 [0, 1, 3] rfl rfl) ?_ ?_
    · skip
      refine ra_all (rs := [4, 8]) (by kernel_rfl) rfl ?_
      refine ra_y 16 (i := 4) (v := .int .i64 x) rfl rfl rfl (Y_load1 (B := B2) (i := b.toNat * 1) (cs := (r_1.flatMap encI)) (v := .int .i64 x) k_sc_3 rfl rfl (hS7.cf (i := 2) rfl) (gi_at0 encI_len hx rfl)) (ST.sel hS7 [0, 1, 3] rfl rfl) ?_ ?_
      · skip
        refine ra_all (rs := [8]) (by kernel_rfl) rfl ?_
        refine ra_y 20 (i := 8) (v := pt B2 (a.toNat * 1)) rfl rfl rfl (Y_index (B := B2) (m := r_1.length) (c := c2) (k := .i64) (i := a) k_sl_27_3 k_sz_3_1 rfl rfl rfl (gi_isSome encI_len rfl (hS7.cf (i := 2) rfl) hx1) (getI_nn hx1) (getI_ltI hx1 rfl)) (ST.sel hS7 [0, 1, 3] rfl rfl) ?_ ?_
        · skip
          refine ra_all (rs := [9]) (by kernel_rfl) rfl ?_
          refine ra_y 21 (i := 9) (v := .int .i64 x1) rfl rfl rfl (Y_load1 (B := B2) (i := a.toNat * 1) (cs := (r_1.flatMap encI)) (v := .int .i64 x1) k_sc_3 rfl rfl (hS7.cf (i := 2) rfl) (gi_at0 encI_len hx1 rfl)) (ST.sel hS7 [0, 1, 3] rfl rfl) ?_ ?_
          · skip
            refine ra_q 10 22 (v := .int .i64 (bits .xor .i64 x x1)) rfl rfl rfl (by kernel_rfl) (by kernel_rfl) (by kernel_rfl) (ST.sel hS7 [0, 1, 3] rfl rfl) (fun w' hw' => (Y_bxor (k := .i64) (a := x) (b := x1) rfl rfl rfl)) ?_
            refine ra_all (rs := [11]) (by kernel_rfl) rfl ?_
            refine ra_y 23 (i := 11) (v := pt B2 (b.toNat * 1)) rfl rfl rfl (Y_index (B := B2) (m := r_1.length) (c := c2) (k := .i64) (i := b) k_sl_27_3 k_sz_3_1 rfl rfl rfl (gi_isSome encI_len rfl (hS7.cf (i := 2) rfl) hx) (getI_nn hx) (getI_ltI hx rfl)) (ST.sel hS7 [0, 1, 3] rfl rfl) ?_ ?_
            · skip
              refine ra_all (rs := [12]) (by kernel_rfl) rfl ?_
              refine ra_s0 (i := 12) rfl rfl rfl (Ys_store (i := 2) (s := 1) (B := B2) (T' := 3) (v := .int .i64 (bits .xor .i64 x x1)) (vs := [.int .i64 (bits .xor .i64 x x1)]) (k := b.toNat * 1) (cs' := ((r_1.set b.toNat (bits .xor .i64 x x1)).flatMap encI)) hS7 k_sz_3_1 rfl rfl rfl rfl rfl rfl rfl (gi_fit0 encI_len hx) (gi_set encI_len hx (bits .xor .i64 x x1) rfl) rfl) ?_ ?_
              · rintro _ w_5 ⟨rfl, hS8⟩
                have hS8 : ST w0 [] _ [⟨some ⟨b1, 0, none⟩, 29, [.slice B m.Rows.length c], 1⟩, ⟨some ⟨b2, 0, none⟩, 29, [.slice none 0 0], 1⟩, ⟨B2, 3, ((r_1.set b.toNat (bits .xor .i64 x x1)).flatMap encI), c2 * 1⟩, ⟨some ⟨b3, 0, none⟩, 29, [.slice B2 r_1.length c2], 1⟩] [⟨B, (m.Rows.flatMap encI)⟩] := hS8
                refine ⟨(ST.sel hS8 [0, 1, 3] rfl rfl), ?_⟩
                refine ra_done (by kernel_rfl) ?_
                exact ⟨(FF.cons rfl (FF.cons rfl FF.nil)), (hS8.sel [1, 3, 2] rfl rfl)⟩
              exact allR_nil
            exact allR_nil
          exact allR_nil
        exact allR_nil
      refine ra_y 20 (i := 8) (v := pt B2 (a.toNat * 1)) rfl rfl rfl (Y_index (B := B2) (m := r_1.length) (c := c2) (k := .i64) (i := a) k_sl_27_3 k_sz_3_1 rfl rfl rfl (gi_isSome encI_len rfl (hS7.cf (i := 2) rfl) hx1) (getI_nn hx1) (getI_ltI hx1 rfl)) (ST.sel hS7 [0, 1, 3] rfl rfl) ?_ ?_
      · skip
        refine ra_all (rs := [4, 9]) (by kernel_rfl) rfl ?_
        refine ra_y 16 (i := 4) (v := .int .i64 x) rfl rfl rfl (Y_load1 (B := B2) (i := b.toNat * 1) (cs := (r_1.flatMap encI)) (v := .int .i64 x) k_sc_3 rfl rfl (hS7.cf (i := 2) rfl) (gi_at0 encI_len hx rfl)) (ST.sel hS7 [0, 1, 3] rfl rfl) ?_ ?_
        · skip
          refine ra_all (rs := [9]) (by kernel_rfl) rfl ?_
          refine ra_y 21 (i := 9) (v := .int .i64 x1) rfl rfl rfl (Y_load1 (B := B2) (i := a.toNat * 1) (cs := (r_1.flatMap encI)) (v := .int .i64 x1) k_sc_3 rfl rfl (hS7.cf (i := 2) rfl) (gi_at0 encI_len hx1 rfl)) (ST.sel hS7 [0, 1, 3] rfl rfl) ?_ ?_
          · skip
            refine ra_q 10 22 (v := .int .i64 (bits .xor .i64 x x1)) rfl rfl rfl (by kernel_rfl) (by kernel_rfl) (by kernel_rfl) (ST.sel hS7 [0, 1, 3] rfl rfl) (fun w' hw' => (Y_bxor (k := .i64) (a := x) (b := x1) rfl rfl rfl)) ?_
            refine ra_all (rs := [11]) (by kernel_rfl) rfl ?_
            refine ra_y 23 (i := 11) (v := pt B2 (b.toNat * 1)) rfl rfl rfl (Y_index (B := B2) (m := r_1.length) (c := c2) (k := .i64) (i := b) k_sl_27_3 k_sz_3_1 rfl rfl rfl (gi_isSome encI_len rfl (hS7.cf (i := 2) rfl) hx) (getI_nn hx) (getI_ltI hx rfl)) (ST.sel hS7 [0, 1, 3] rfl rfl) ?_ ?_
            · skip
              refine ra_all (rs := [12]) (by kernel_rfl) rfl ?_
              refine ra_s0 (i := 12) rfl rfl rfl (Ys_store (i := 2) (s := 1) (B := B2) (T' := 3) (v := .int .i64 (bits .xor .i64 x x1)) (vs := [.int .i64 (bits .xor .i64 x x1)]) (k := b.toNat * 1) (cs' := ((r_1.set b.toNat (bits .xor .i64 x x1)).flatMap encI)) hS7 k_sz_3_1 rfl rfl rfl rfl rfl rfl rfl (gi_fit0 encI_len hx) (gi_set encI_len hx (bits .xor .i64 x x1) rfl) rfl) ?_ ?_
              · rintro _ w_6 ⟨rfl, hS9⟩
                have hS9 : ST w0 [] _ [⟨some ⟨b1, 0, none⟩, 29, [.slice B m.Rows.length c], 1⟩, ⟨some ⟨b2, 0, none⟩, 29, [.slice none 0 0], 1⟩, ⟨B2, 3, ((r_1.set b.toNat (bits .xor .i64 x x1)).flatMap encI), c2 * 1⟩, ⟨some ⟨b3, 0, none⟩, 29, [.slice B2 r_1.length c2], 1⟩] [⟨B, (m.Rows.flatMap encI)⟩] := hS9
                refine ⟨(ST.sel hS9 [0, 1, 3] rfl rfl), ?_⟩
                refine ra_done (by kernel_rfl) ?_
                exact ⟨(FF.cons rfl (FF.cons rfl FF.nil)), (hS9.sel [1, 3, 2] rfl rfl)⟩
              exact allR_nil
            exact allR_nil
          exact allR_nil
        refine ra_y 21 (i := 9) (v := .int .i64 x1) rfl rfl rfl (Y_load1 (B := B2) (i := a.toNat * 1) (cs := (r_1.flatMap encI)) (v := .int .i64 x1) k_sc_3 rfl rfl (hS7.cf (i := 2) rfl) (gi_at0 encI_len hx1 rfl)) (ST.sel hS7 [0, 1, 3] rfl rfl) ?_ ?_
        · skip
          refine ra_all (rs := [4]) (by kernel_rfl) rfl ?_
          refine ra_y 16 (i := 4) (v := .int .i64 x) rfl rfl rfl (Y_load1 (B := B2) (i := b.toNat * 1) (cs := (r_1.flatMap encI)) (v := .int .i64 x) k_sc_3 rfl rfl (hS7.cf (i := 2) rfl) (gi_at0 encI_len hx rfl)) (ST.sel hS7 [0, 1, 3] rfl rfl) ?_ ?_
          · skip
            refine ra_q 10 22 (v := .int .i64 (bits .xor .i64 x x1)) rfl rfl rfl (by kernel_rfl) (by kernel_rfl) (by kernel_rfl) (ST.sel hS7 [0, 1, 3] rfl rfl) (fun w' hw' => (Y_bxor (k := .i64) (a := x) (b := x1) rfl rfl rfl)) ?_
            refine ra_all (rs := [11]) (by kernel_rfl) rfl ?_
            refine ra_y 23 (i := 11) (v := pt B2 (b.toNat * 1)) rfl rfl rfl (Y_index (B := B2) (m := r_1.length) (c := c2) (k := .i64) (i := b) k_sl_27_3 k_sz_3_1 rfl rfl rfl (gi_isSome encI_len rfl (hS7.cf (i := 2) rfl) hx) (getI_nn hx) (getI_ltI hx rfl)) (ST.sel hS7 [0, 1, 3] rfl rfl) ?_ ?_
            · skip
              refine ra_all (rs := [12]) (by kernel_rfl) rfl ?_
              refine ra_s0 (i := 12) rfl rfl rfl (Ys_store (i := 2) (s := 1) (B := B2) (T' := 3) (v := .int .i64 (bits .xor .i64 x x1)) (vs := [.int .i64 (bits .xor .i64 x x1)]) (k := b.toNat * 1) (cs' := ((r_1.set b.toNat (bits .xor .i64 x x1)).flatMap encI)) hS7 k_sz_3_1 rfl rfl rfl rfl rfl rfl rfl (gi_fit0 encI_len hx) (gi_set encI_len hx (bits .xor .i64 x x1) rfl) rfl) ?_ ?_
              · rintro _ w_7 ⟨rfl, hS10⟩
                have hS10 : ST w0 [] _ [⟨some ⟨b1, 0, none⟩, 29, [.slice B m.Rows.length c], 1⟩, ⟨some ⟨b2, 0, none⟩, 29, [.slice none 0 0], 1⟩, ⟨B2, 3, ((r_1.set b.toNat (bits .xor .i64 x x1)).flatMap encI), c2 * 1⟩, ⟨some ⟨b3, 0, none⟩, 29, [.slice B2 r_1.length c2], 1⟩] [⟨B, (m.Rows.flatMap encI)⟩] := hS10
                refine ⟨(ST.sel hS10 [0, 1, 3] rfl rfl), ?_⟩
                refine ra_done (by kernel_rfl) ?_
                exact ⟨(FF.cons rfl (FF.cons rfl FF.nil)), (hS10.sel [1, 3, 2] rfl rfl)⟩
              exact allR_nil
            exact allR_nil
          exact allR_nil
        exact allR_nil
      exact allR_nil
    refine ra_y 20 (i := 8) (v := pt B2 (a.toNat * 1)) rfl rfl rfl (Y_index (B := B2) (m := r_1.length) (c := c2) (k := .i64) (i := a) k_sl_27_3 k_sz_3_1 rfl rfl rfl (gi_isSome encI_len rfl (hS7.cf (i := 2) rfl) hx1) (getI_nn hx1) (getI_ltI hx1 rfl)) (ST.sel hS7 [0, 1, 3] rfl rfl) ?_ ?_
    · skip
      refine ra_all (rs := [3, 9]) (by kernel_rfl) rfl ?_
      refine ra_y 15 (i := 3) (v := pt B2 (b.toNat * 1)) rfl rfl rfl (Y_index (B := B2) (m := r_1.length) (c := c2) (k := .i64) (i := b) k_sl_27_3 k_sz_3_1 rfl rfl rfl (gi_isSome encI_len rfl (hS7.cf (i := 2) rfl) hx) (getI_nn hx) (getI_ltI hx rfl)) (ST.sel hS7 [0, 1, 3] rfl rfl) ?_ ?_
      · skip
        refine ra_all (rs := [4, 9]) (by kernel_rfl) rfl ?_
        refine ra_y 16 (i := 4) (v := .int .i64 x) rfl rfl rfl (Y_load1 (B := B2) (i := b.toNat * 1) (cs := (r_1.flatMap encI)) (v := .int .i64 x) k_sc_3 rfl rfl (hS7.cf (i := 2) rfl) (gi_at0 encI_len hx rfl)) (ST.sel hS7 [0, 1, 3] rfl rfl) ?_ ?_
        · skip
          refine ra_all (rs := [9]) (by kernel_rfl) rfl ?_
          refine ra_y 21 (i := 9) (v := .int .i64 x1) rfl rfl rfl (Y_load1 (B := B2) (i := a.toNat * 1) (cs := (r_1.flatMap encI)) (v := .int .i64 x1) k_sc_3 rfl rfl (hS7.cf (i := 2) rfl) (gi_at0 encI_len hx1 rfl)) (ST.sel hS7 [0, 1, 3] rfl rfl) ?_ ?_
          · skip
            refine ra_q 10 22 (v := .int .i64 (bits .xor .i64 x x1)) rfl rfl rfl (by kernel_rfl) (by kernel_rfl) (by kernel_rfl) (ST.sel hS7 [0, 1, 3] rfl rfl) (fun w' hw' => (Y_bxor (k := .i64) (a := x) (b := x1) rfl rfl rfl)) ?_
            refine ra_all (rs := [11]) (by kernel_rfl) rfl ?_
            refine ra_y 23 (i := 11) (v := pt B2 (b.toNat * 1)) rfl rfl rfl (Y_index (B := B2) (m := r_1.length) (c := c2) (k := .i64) (i := b) k_sl_27_3 k_sz_3_1 rfl rfl rfl (gi_isSome encI_len rfl (hS7.cf (i := 2) rfl) hx) (getI_nn hx) (getI_ltI hx rfl)) (ST.sel hS7 [0, 1, 3] rfl rfl) ?_ ?_
            · skip
              refine ra_all (rs := [12]) (by kernel_rfl) rfl ?_
              refine ra_s0 (i := 12) rfl rfl rfl (Ys_store (i := 2) (s := 1) (B := B2) (T' := 3) (v := .int .i64 (bits .xor .i64 x x1)) (vs := [.int .i64 (bits .xor .i64 x x1)]) (k := b.toNat * 1) (cs' := ((r_1.set b.toNat (bits .xor .i64 x x1)).flatMap encI)) hS7 k_sz_3_1 rfl rfl rfl rfl rfl rfl rfl (gi_fit0 encI_len hx) (gi_set encI_len hx (bits .xor .i64 x x1) rfl) rfl) ?_ ?_
              · rintro _ w_8 ⟨rfl, hS11⟩
                have hS11 : ST w0 [] _ [⟨some ⟨b1, 0, none⟩, 29, [.slice B m.Rows.length c], 1⟩, ⟨some ⟨b2, 0, none⟩, 29, [.slice none 0 0], 1⟩, ⟨B2, 3, ((r_1.set b.toNat (bits .xor .i64 x x1)).flatMap encI), c2 * 1⟩, ⟨some ⟨b3, 0, none⟩, 29, [.slice B2 r_1.length c2], 1⟩] [⟨B, (m.Rows.flatMap encI)⟩] := hS11
                refine ⟨(ST.sel hS11 [0, 1, 3] rfl rfl), ?_⟩
                refine ra_done (by kernel_rfl) ?_
                exact ⟨(FF.cons rfl (FF.cons rfl FF.nil)), (hS11.sel [1, 3, 2] rfl rfl)⟩
              exact allR_nil
            exact allR_nil
          exact allR_nil
        refine ra_y 21 (i := 9) (v := .int .i64 x1) rfl rfl rfl (Y_load1 (B := B2) (i := a.toNat * 1) (cs := (r_1.flatMap encI)) (v := .int .i64 x1) k_sc_3 rfl rfl (hS7.cf (i := 2) rfl) (gi_at0 encI_len hx1 rfl)) (ST.sel hS7 [0, 1, 3] rfl rfl) ?_ ?_
        · skip
          refine ra_all (rs := [4]) (by kernel_rfl) rfl ?_
          refine ra_y 16 (i := 4) (v := .int .i64 x) rfl rfl rfl (Y_load1 (B := B2) (i := b.toNat * 1) (cs := (r_1.flatMap encI)) (v := .int .i64 x) k_sc_3 rfl rfl (hS7.cf (i := 2) rfl) (gi_at0 encI_len hx rfl)) (ST.sel hS7 [0, 1, 3] rfl rfl) ?_ ?_
          · skip
            refine ra_q 10 22 (v := .int .i64 (bits .xor .i64 x x1)) rfl rfl rfl (by kernel_rfl) (by kernel_rfl) (by kernel_rfl) (ST.sel hS7 [0, 1, 3] rfl rfl) (fun w' hw' => (Y_bxor (k := .i64) (a := x) (b := x1) rfl rfl rfl)) ?_
            refine ra_all (rs := [11]) (by kernel_rfl) rfl ?_
            refine ra_y 23 (i := 11) (v := pt B2 (b.toNat * 1)) rfl rfl rfl (Y_index (B := B2) (m := r_1.length) (c := c2) (k := .i64) (i := b) k_sl_27_3 k_sz_3_1 rfl rfl rfl (gi_isSome encI_len rfl (hS7.cf (i := 2) rfl) hx) (getI_nn hx) (getI_ltI hx rfl)) (ST.sel hS7 [0, 1, 3] rfl rfl) ?_ ?_
            · skip
              refine ra_all (rs := [12]) (by kernel_rfl) rfl ?_
              refine ra_s0 (i := 12) rfl rfl rfl (Ys_store (i := 2) (s := 1) (B := B2) (T' := 3) (v := .int .i64 (bits .xor .i64 x x1)) (vs := [.int .i64 (bits .xor .i64 x x1)]) (k := b.toNat * 1) (cs' := ((r_1.set b.toNat (bits .xor .i64 x x1)).flatMap encI)) hS7 k_sz_3_1 rfl rfl rfl rfl rfl rfl rfl (gi_fit0 encI_len hx) (gi_set encI_len hx (bits .xor .i64 x x1) rfl) rfl) ?_ ?_
              · rintro _ w_9 ⟨rfl, hS12⟩
                have hS12 : ST w0 [] _ [⟨some ⟨b1, 0, none⟩, 29, [.slice B m.Rows.length c], 1⟩, ⟨some ⟨b2, 0, none⟩, 29, [.slice none 0 0], 1⟩, ⟨B2, 3, ((r_1.set b.toNat (bits .xor .i64 x x1)).flatMap encI), c2 * 1⟩, ⟨some ⟨b3, 0, none⟩, 29, [.slice B2 r_1.length c2], 1⟩] [⟨B, (m.Rows.flatMap encI)⟩] := hS12
                refine ⟨(ST.sel hS12 [0, 1, 3] rfl rfl), ?_⟩
                refine ra_done (by kernel_rfl) ?_
                exact ⟨(FF.cons rfl (FF.cons rfl FF.nil)), (hS12.sel [1, 3, 2] rfl rfl)⟩
              exact allR_nil
            exact allR_nil
          exact allR_nil
        exact allR_nil
      refine ra_y 21 (i := 9) (v := .int .i64 x1) rfl rfl rfl (Y_load1 (B := B2) (i := a.toNat * 1) (cs := (r_1.flatMap encI)) (v := .int .i64 x1) k_sc_3 rfl rfl (hS7.cf (i := 2) rfl) (gi_at0 encI_len hx1 rfl)) (ST.sel hS7 [0, 1, 3] rfl rfl) ?_ ?_
      · skip
        refine ra_all (rs := [3]) (by kernel_rfl) rfl ?_
        refine ra_y 15 (i := 3) (v := pt B2 (b.toNat * 1)) rfl rfl rfl (Y_index (B := B2) (m := r_1.length) (c := c2) (k := .i64) (i := b) k_sl_27_3 k_sz_3_1 rfl rfl rfl (gi_isSome encI_len rfl (hS7.cf (i := 2) rfl) hx) (getI_nn hx) (getI_ltI hx rfl)) (ST.sel hS7 [0, 1, 3] rfl rfl) ?_ ?_
        · skip
          refine ra_all (rs := [4]) (by kernel_rfl) rfl ?_
          refine ra_y 16 (i := 4) (v := .int .i64 x) rfl rfl rfl (Y_load1 (B := B2) (i := b.toNat * 1) (cs := (r_1.flatMap encI)) (v := .int .i64 x) k_sc_3 rfl rfl (hS7.cf (i := 2) rfl) (gi_at0 encI_len hx rfl)) (ST.sel hS7 [0, 1, 3] rfl rfl) ?_ ?_
          · skip
            refine ra_q 10 22 (v := .int .i64 (bits .xor .i64 x x1)) rfl rfl rfl (by kernel_rfl) (by kernel_rfl) (by kernel_rfl) (ST.sel hS7 [0, 1, 3] rfl rfl) (fun w' hw' => (Y_bxor (k := .i64) (a := x) (b := x1) rfl rfl rfl)) ?_
            refine ra_all (rs := [11]) (by kernel_rfl) rfl ?_
            refine ra_y 23 (i := 11) (v := pt B2 (b.toNat * 1)) rfl rfl rfl (Y_index (B := B2) (m := r_1.length) (c := c2) (k := .i64) (i := b) k_sl_27_3 k_sz_3_1 rfl rfl rfl (gi_isSome encI_len rfl (hS7.cf (i := 2) rfl) hx) (getI_nn hx) (getI_ltI hx rfl)) (ST.sel hS7 [0, 1, 3] rfl rfl) ?_ ?_
            · skip
              refine ra_all (rs := [12]) (by kernel_rfl) rfl ?_
              refine ra_s0 (i := 12) rfl rfl rfl (Ys_store (i := 2) (s := 1) (B := B2) (T' := 3) (v := .int .i64 (bits .xor .i64 x x1)) (vs := [.int .i64 (bits .xor .i64 x x1)]) (k := b.toNat * 1) (cs' := ((r_1.set b.toNat (bits .xor .i64 x x1)).flatMap encI)) hS7 k_sz_3_1 rfl rfl rfl rfl rfl rfl rfl (gi_fit0 encI_len hx) (gi_set encI_len hx (bits .xor .i64 x x1) rfl) rfl) ?_ ?_
              · rintro _ w_10 ⟨rfl, hS13⟩
                have hS13 : ST w0 [] _ [⟨some ⟨b1, 0, none⟩, 29, [.slice B m.Rows.length c], 1⟩, ⟨some ⟨b2, 0, none⟩, 29, [.slice none 0 0], 1⟩, ⟨B2, 3, ((r_1.set b.toNat (bits .xor .i64 x x1)).flatMap encI), c2 * 1⟩, ⟨some ⟨b3, 0, none⟩, 29, [.slice B2 r_1.length c2], 1⟩] [⟨B, (m.Rows.flatMap encI)⟩] := hS13
                refine ⟨(ST.sel hS13 [0, 1, 3] rfl rfl), ?_⟩
                refine ra_done (by kernel_rfl) ?_
                exact ⟨(FF.cons rfl (FF.cons rfl FF.nil)), (hS13.sel [1, 3, 2] rfl rfl)⟩
              exact allR_nil
            exact allR_nil
          exact allR_nil
        exact allR_nil
      exact allR_nil
    exact allR_nil
  rintro f w ⟨hf, hS6⟩
  refine cw_seq ?_
  refine cw_region ?_
  refine sq 24 rfl rfl (Y_loadA (B := some ⟨b3, 0, none⟩) (i := 0) (cs := [.slice B2 r_1.length c2]) (vs := [.slice B2 r_1.length c2]) k_ag_29 k_sz_29_1 rfl (hf.get 7 1 rfl) (hS6.cf (i := 1) rfl) rfl rfl) ?_
  refine ss0 rfl rfl (Ys_store (i := 0) (s := 1) (B := some ⟨b2, 0, none⟩) (T' := 29) (v := .agg #[.slice B2 r_1.length c2]) (vs := [.slice B2 r_1.length c2]) (k := 0) (cs' := [.slice B2 r_1.length c2]) hS6 k_sz_29_1 rfl (hf.get 6 0 rfl) rfl rfl rfl rfl rfl (Nat.le_of_ble_eq_true rfl) rfl rfl) ?_
  rintro _ w_11 ⟨rfl, hS14⟩
  have hS14 : ST w0 [] _ [⟨some ⟨b2, 0, none⟩, 29, [.slice B2 r_1.length c2], 1⟩, ⟨some ⟨b3, 0, none⟩, 29, [.slice B2 r_1.length c2], 1⟩, ⟨B2, 3, ((r_1.set b.toNat (bits .xor .i64 x x1)).flatMap encI), c2 * 1⟩] [⟨B, (m.Rows.flatMap encI)⟩] := hS14
  refine rw_nil ?_
  refine cw_ret ?_
  obtain rfl := some_inj hF
  exact ret1 Try.results16 (v1 := .agg #[.slice B2 r_1.length c2]) (resAt_cellA (B := some ⟨b2, 0, none⟩) (i := 0) (cs := [.slice B2 r_1.length c2]) (vs := [.slice B2 r_1.length c2]) (hf.get 6 0 rfl) k_ag_29 k_sz_29_1 (hS14.cf (i := 0) rfl) rfl rfl) ⟨B2, c2, (by simp [(set_len _ _ _ rfl)]), (ST.subR (R' := []) (hS14.sel [2] rfl rfl) (fun _ h => by cases h))⟩

theorem c_spec_l13Coef (kind : Int)  (w0 : World)  (hS : ST w0 [] w0 [] []) {r_ : Int} (hF : F_spec_l13Coef kind = some r_) :
    CV Try.prog 17 #[.int .i64 kind] w0 (fun v w' => v = .int .i64 r_ ∧ ST w0 [] w' [] []) := by
  unfold F_spec_l13Coef at hF
  refine cv_of_cw 14 Try.func17 rfl Try.ntmps17 rfl ?_
  refine cw_seq ?_
  refine cw_region ?_
  refine sq 2 rfl rfl (Y_assign (v := .int .i64 0) rfl rfl) ?_
  refine rw_nil ?_
  refine cw_seq ?_
  refine cw_seq ?_
  refine cw_region ?_
  refine sq 3 rfl rfl (Y_move (v := .int .i64 kind) rfl rfl) ?_
  refine rw_nil ?_
  refine cw_block ?_
  refine cw_seq ?_
  refine cw_region ?_
  refine sq 5 rfl rfl (Y_eq (k := .i64) (a := kind) (b := 4) rfl rfl rfl) ?_
  refine sq 4 rfl rfl (Y_assign (v := .bool (kind == 4)) rfl rfl) ?_
  refine rw_nil ?_
  refine cw_cond (b := (kind == 4)) rfl (fun hb => ?_) (fun hb => ?_)
  · skip
    have hF1 := ct hF hb
    refine cw_seq ?_
    refine cw_region ?_
    refine sq 2 rfl rfl (Y_assign (v := .int .i64 4) rfl rfl) ?_
    refine rw_nil ?_
    refine cw_ret ?_
    obtain rfl := some_inj hF1
    exact ret1 Try.results17 (v1 := .int .i64 4) (resAt_tmp rfl) ⟨rfl, (ST.subR (R' := []) (hS.sel [] rfl rfl) (fun _ h => by cases h))⟩
  · skip
    have hF2 := cf' hF hb
    refine cw_seq ?_
    refine cw_region ?_
    refine sq 7 rfl rfl (Y_eq (k := .i64) (a := kind) (b := 5) rfl rfl rfl) ?_
    refine sq 6 rfl rfl (Y_assign (v := .bool (kind == 5)) rfl rfl) ?_
    refine rw_nil ?_
    refine cw_cond (b := (kind == 5)) rfl (fun hb1 => ?_) (fun hb1 => ?_)
    · skip
      have hF3 := ct hF2 hb1
      refine cw_seq ?_
      refine cw_region ?_
      refine sq 2 rfl rfl (Y_assign (v := .int .i64 2) rfl rfl) ?_
      refine rw_nil ?_
      refine cw_ret ?_
      obtain rfl := some_inj hF3
      exact ret1 Try.results17 (v1 := .int .i64 2) (resAt_tmp rfl) ⟨rfl, (ST.subR (R' := []) (hS.sel [] rfl rfl) (fun _ h => by cases h))⟩
    · skip
      have hF4 := cf' hF2 hb1
      refine cw_seq ?_
      refine cw_region ?_
      refine sq 9 rfl rfl (Y_eq (k := .i64) (a := kind) (b := 6) rfl rfl rfl) ?_
      refine sq 8 rfl rfl (Y_assign (v := .bool (kind == 6)) rfl rfl) ?_
      refine rw_nil ?_
      refine cw_cond (b := (kind == 6)) rfl (fun hb2 => ?_) (fun hb2 => ?_)
      · skip
        have hF5 := ct hF4 hb2
        refine cw_seq ?_
        refine cw_region ?_
        refine sq 2 rfl rfl (Y_assign (v := .int .i64 6) rfl rfl) ?_
        refine rw_nil ?_
        refine cw_ret ?_
        obtain rfl := some_inj hF5
        exact ret1 Try.results17 (v1 := .int .i64 6) (resAt_tmp rfl) ⟨rfl, (ST.subR (R' := []) (hS.sel [] rfl rfl) (fun _ h => by cases h))⟩
      · skip
        have hF6 := cf' hF4 hb2
        refine cw_seq ?_
        refine cw_region ?_
        refine sq 11 rfl rfl (Y_eq (k := .i64) (a := kind) (b := 7) rfl rfl rfl) ?_
        refine sq 10 rfl rfl (Y_assign (v := .bool (kind == 7)) rfl rfl) ?_
        refine rw_nil ?_
        refine cw_cond (b := (kind == 7)) rfl (fun hb3 => ?_) (fun hb3 => ?_)
        · skip
          have hF7 := ct hF6 hb3
          refine cw_seq ?_
          refine cw_region ?_
          refine sq 2 rfl rfl (Y_assign (v := .int .i64 1) rfl rfl) ?_
          refine rw_nil ?_
          refine cw_ret ?_
          obtain rfl := some_inj hF7
          exact ret1 Try.results17 (v1 := .int .i64 1) (resAt_tmp rfl) ⟨rfl, (ST.subR (R' := []) (hS.sel [] rfl rfl) (fun _ h => by cases h))⟩
        · skip
          have hF8 := cf' hF6 hb3
          refine cw_seq ?_
          refine cw_region ?_
          refine sq 13 rfl rfl (Y_eq (k := .i64) (a := kind) (b := 8) rfl rfl rfl) ?_
          refine sq 12 rfl rfl (Y_assign (v := .bool (kind == 8)) rfl rfl) ?_
          refine rw_nil ?_
          refine cw_cond (b := (kind == 8)) rfl (fun hb4 => ?_) (fun hb4 => ?_)
          · skip
            have hF9 := ct hF8 hb4
            refine cw_seq ?_
            refine cw_region ?_
            refine sq 2 rfl rfl (Y_assign (v := .int .i64 7) rfl rfl) ?_
            refine rw_nil ?_
            refine cw_ret ?_
            obtain rfl := some_inj hF9
            exact ret1 Try.results17 (v1 := .int .i64 7) (resAt_tmp rfl) ⟨rfl, (ST.subR (R' := []) (hS.sel [] rfl rfl) (fun _ h => by cases h))⟩
          · skip
            have hF10 := cf' hF8 hb4
            refine cw_skip ?_
            refine cw_seq ?_
            refine cw_region ?_
            refine sq 2 rfl rfl (Y_assign (v := .int .i64 0) rfl rfl) ?_
            refine rw_nil ?_
            refine cw_ret ?_
            obtain rfl := some_inj hF10
            exact ret1 Try.results17 (v1 := .int .i64 0) (resAt_tmp rfl) ⟨rfl, (ST.subR (R' := []) (hS.sel [] rfl rfl) (fun _ h => by cases h))⟩

theorem c_spec_l13List (by_ : List Int) (B : Option Addr) (c n : Nat) (w0 : World) (hn : by_.length = n) (hS : ST w0 [] w0 [] [⟨B, (by_.flatMap encI)⟩]) {r_ : List TTerm} (hF : F_spec_l13List by_ = some r_) :
    CV Try.prog 18 #[.slice B n c] w0 (fun v w' => ∃ (B1 : Option Addr) (c1 : Nat), v = .slice B1 r_.length c1 ∧ ST w0 [] w' [⟨B1, 67, (r_.flatMap enc_Term), c1 * 2⟩] []) := by
  subst hn
  unfold F_spec_l13List at hF
  refine cv_of_cw 31 Try.func18 rfl Try.ntmps18 rfl ?_
  refine cw_seq ?_
  refine cw_region ?_
  refine sq 2 rfl rfl (Y_assign (v := .slice none 0 0) rfl rfl) ?_
  refine rw_nil ?_
  refine cw_seq ?_
  refine cw_region ?_
  refine sq 3 rfl rfl (Y_assign (v := .slice none 0 0) rfl rfl) ?_
  refine rw_nil ?_
  refine cw_seq ?_
  refine cw_seq ?_
  refine cw_region ?_
  refine sq 6 rfl rfl (Y_move (v := .slice B by_.length c) rfl rfl) ?_
  refine sq 7 rfl rfl (Y_len (B := B) (m := by_.length) (c := c) k_sl_27_3 rfl rfl) ?_
  refine sq 8 rfl rfl (Y_move (v := .int .i64 0) rfl rfl) ?_
  refine rw_nil ?_
  obtain ⟨hN, hF⟩ := chk_inv hF
  obtain ⟨z, hz, hF1⟩ := bind_inv hF
  have hS2 := hS.addNil 67
  refine cw_block ?_
  refine cw_loop (fun k f w => ∃ (i : Nat) (out : List TTerm) (B2 : Option Addr) (c2 : Nat), FF f [(3, .slice B2 out.length c2), (6, .slice B by_.length c), (7, .int .i64 (by_.length : Int)), (8, .int .i64 (i : Int))] ∧ ST w0 [] w [⟨B2, 67, (out.flatMap enc_Term), c2 * 2⟩] [⟨B, (by_.flatMap encI)⟩] ∧ i + k = by_.length ∧ forN (F_spec_l13List_l1 by_) k i out = some z) by_.length ⟨0, [], none, 0, (FF.cons rfl (FF.cons rfl (FF.cons rfl (FF.cons rfl FF.nil)))), (hS2.sel [0] rfl rfl), Nat.zero_add _, hz⟩ ?_
  rintro k_ f w ⟨i, out, B2, c2, hf, hS1, hik, hL⟩
  refine cw_seq ?_
  refine cw_region ?_
  refine sq 9 rfl rfl (Y_lt (k := .i64) (a := (i : Int)) (b := (by_.length : Int)) rfl (hf.get 8 3 rfl) (hf.get 7 2 rfl)) ?_
  refine rw_nil ?_
  refine cw_seq ?_
  refine cw_cond (b := (decide ((i : Int) < (by_.length : Int)))) rfl (fun hlt => ?_) (fun hlt => ?_)
  · skip
    have hlt1 : i < by_.length := by have h := of_decide_eq_true hlt; omega
    obtain ⟨k_1, rfl⟩ : ∃ k2, k_ = k2 + 1 := ⟨k_ - 1, by omega⟩
    obtain ⟨y, hb, hL1⟩ := forN_go hL
    unfold F_spec_l13List_l1 at hb
    refine cw_skip ?_
    refine cw_seq ?_
    obtain ⟨z1, hz1, hF2⟩ := bind_inv hb
    refine cw_mid (fun f w => ∃ (out1 : List TTerm) (B3 : Option Addr) (c3 : Nat), out1 = z1 ∧ FF f [(3, .slice B3 out1.length c3), (6, .slice B by_.length c), (7, .int .i64 (by_.length : Int)), (8, .int .i64 (i : Int))] ∧ ST w0 [] w [⟨B3, 67, (out1.flatMap enc_Term), c3 * 2⟩] [⟨B, (by_.flatMap encI)⟩]) ?_ ?_
    · skip
      refine cw_block ?_
      refine cw_seq ?_
      refine cw_region ?_
      refine sq 10 rfl rfl (Y_move (v := .int .i64 (i : Int)) rfl (hf.get 8 3 rfl)) ?_
      obtain ⟨x, hx, hz1⟩ := bind_inv hz1
      refine sq 11 rfl rfl (Y_index (B := B) (m := by_.length) (c := c) (k := .i64) (i := (i : Int)) k_sl_27_3 k_sz_3_1 rfl (hf.get 6 1 rfl) (hf.get 8 3 rfl) (gi_isSome encI_len rfl (hS1.rf (i := 0) rfl) hx) (getI_nn hx) (getI_ltI hx rfl)) ?_
      refine sq 12 rfl rfl (Y_load1 (B := B) (i := (i : Int).toNat * 1) (cs := (by_.flatMap encI)) (v := .int .i64 x) k_sc_3 rfl rfl (hS1.rf (i := 0) rfl) (gi_at0 encI_len hx rfl)) ?_
      refine sq 4 rfl rfl (Y_assign (v := .int .i64 (i : Int)) rfl rfl) ?_
      refine sq 5 rfl rfl (Y_assign (v := .int .i64 x) rfl rfl) ?_
      refine rw_nil ?_
      refine cw_seq ?_
      refine cw_region ?_
      refine sq 13 rfl rfl (Y_move (v := .int .i64 x) rfl rfl) ?_
      refine sq 14 rfl rfl (Y_rem (k := .i64) (a := x) (b := 8) rfl rfl rfl (by decide)) ?_
      refine sq 15 rfl rfl (Y_add (k := .i64) (a := (Int.tmod x 8)) (b := 8) rfl rfl rfl) ?_
      refine sq 16 rfl rfl (Y_rem (k := .i64) (a := (IntKind.i64.wrap ((Int.tmod x 8) + 8))) (b := 8) rfl rfl rfl (by decide)) ?_
      refine sq 5 rfl rfl (Y_assign (v := .int .i64 (Int.tmod (IntKind.i64.wrap ((Int.tmod x 8) + 8)) 8)) rfl rfl) ?_
      refine rw_nil ?_
      refine cw_seq ?_
      refine cw_region ?_
      refine sq 17 rfl rfl (Y_move (v := .int .i64 (i : Int)) rfl rfl) ?_
      refine sq 18 rfl rfl (Y_gt (k := .i64) (a := (i : Int)) (b := 0) rfl rfl rfl) ?_
      refine sq 19 rfl rfl (Y_move (v := .bool (decide (0 < (i : Int)))) rfl rfl) ?_
      refine sgq 20 (B := (decide (0 < (i : Int)))) (v := .int .i64 (Int.tmod (IntKind.i64.wrap ((Int.tmod x 8) + 8)) 8)) rfl rfl (wt_t (gd_of (t := 19) (by kernel_rfl) rfl)) (fun hg => (Y_move (v := .int .i64 (Int.tmod (IntKind.i64.wrap ((Int.tmod x 8) + 8)) 8)) rfl rfl)) ?_
      refine sgq 21 (B := (decide (0 < (i : Int)))) (v := .bool (decide (0 < (Int.tmod (IntKind.i64.wrap ((Int.tmod x 8) + 8)) 8)))) rfl rfl (wt_t (gd_of (t := 19) (by kernel_rfl) rfl)) (fun hg1 => (Y_gt (k := .i64) (a := (Int.tmod (IntKind.i64.wrap ((Int.tmod x 8) + 8)) 8)) (b := 0) rfl (gv_of (B := (decide (0 < (i : Int)))) (v := .int .i64 (Int.tmod (IntKind.i64.wrap ((Int.tmod x 8) + 8)) 8)) hg1) rfl)) ?_
      refine sq 22 rfl rfl (Y_and (b := (decide (0 < (i : Int)))) (z := (decide (0 < (Int.tmod (IntKind.i64.wrap ((Int.tmod x 8) + 8)) 8)))) rfl rfl rfl rfl) ?_
      refine rw_nil ?_
      refine cw_cond (b := ((decide (0 < (i : Int))) && (decide (0 < (Int.tmod (IntKind.i64.wrap ((Int.tmod x 8) + 8)) 8))))) rfl (fun hb1 => ?_) (fun hb1 => ?_)
      · skip
        have hF3 := ct hz1 hb1
        refine cw_region ?_
        refine sq 23 rfl rfl (Y_move (v := .slice B2 out.length c2) rfl (hf.get 3 0 rfl)) ?_
        refine sq 24 rfl rfl (Y_move (v := .int .i64 (i : Int)) rfl rfl) ?_
        refine sq 25 rfl rfl (Y_move (v := .int .i64 (Int.tmod (IntKind.i64.wrap ((Int.tmod x 8) + 8)) 8)) rfl rfl) ?_
        refine sq 26 rfl rfl (Y_buildS (zs := [.int .i64 0, .int .i64 0]) (vs := [(0, .int .i64 (i : Int)), (1, .int .i64 (Int.tmod (IntKind.i64.wrap ((Int.tmod x 8) + 8)) 8))]) (cs := [.int .i64 (i : Int), .int .i64 (Int.tmod (IntKind.i64.wrap ((Int.tmod x 8) + 8)) 8)]) k_pl_67 k_zero_67 rfl (mpc rfl (mpc rfl mpn)) rfl) ?_
        refine ss 27 rfl rfl (Ys_bslice (s := 2) (len := 1) (vs := [(0, .agg #[.int .i64 (i : Int), .int .i64 (Int.tmod (IntKind.i64.wrap ((Int.tmod x 8) + 8)) 8)])]) (cs := [.int .i64 (i : Int), .int .i64 (Int.tmod (IntKind.i64.wrap ((Int.tmod x 8) + 8)) 8)]) (zs := [.int .i64 0, .int .i64 0]) (m := 2) hS1 k_sl_26_67 k_sz_67_2 k_zc_67 rfl (mpc rfl mpn) rfl rfl rfl rfl rfl rfl) ?_
        rintro _ w_ ⟨b, rfl, hS4⟩
        have hS4 : ST w0 [] _ [⟨B2, 67, (out.flatMap enc_Term), c2 * 2⟩, ⟨some ⟨b, 0, none⟩, 67, ([(TTerm.mk (i : Int) (Int.tmod (IntKind.i64.wrap ((Int.tmod x 8) + 8)) 8))].flatMap enc_Term), 1 * 2⟩] [⟨B, (by_.flatMap encI)⟩] := hS4
        obtain ⟨hap, hF3⟩ := chk_inv hF3
        refine ss 28 rfl rfl (Ys_append (s := 2) (by' := 16) (i := 0) (nn := out.length) (c := c2) (k := 1) (len := (out ++ [(TTerm.mk (i : Int) (Int.tmod (IntKind.i64.wrap ((Int.tmod x 8) + 8)) 8))]).length) (B := B2) (xs := ([(TTerm.mk (i : Int) (Int.tmod (IntKind.i64.wrap ((Int.tmod x 8) + 8)) 8))].flatMap enc_Term)) (cs' := ((out ++ [(TTerm.mk (i : Int) (Int.tmod (IntKind.i64.wrap ((Int.tmod x 8) + 8)) 8))]).flatMap enc_Term)) hS4 k_sl_26_67 k_sz_67_2 k_by_67_16 k_zero_67 rfl (by decide) rfl rfl rfl rfl (fm_lenn (l := out) enc_Term_len rfl) rfl (hS4.cf (i := 1) rfl) (fm_lenn (l := [(TTerm.mk (i : Int) (Int.tmod (IntKind.i64.wrap ((Int.tmod x 8) + 8)) 8))]) enc_Term_len rfl) (fm_one' (enc := enc_Term) enc_Term_one [(TTerm.mk (i : Int) (Int.tmod (IntKind.i64.wrap ((Int.tmod x 8) + 8)) 8))]) (by have := hap; omega) (by have := hap; simp only [maxLen]; omega) (fm_app _ _) (app_len (l := out) (l' := [(TTerm.mk (i : Int) (Int.tmod (IntKind.i64.wrap ((Int.tmod x 8) + 8)) 8))]) rfl rfl)) ?_
        rintro _ w_1 ⟨B4, c4, rfl, hS5⟩
        have hS5 : ST w0 [] _ [⟨B4, 67, ((out ++ [(TTerm.mk (i : Int) (Int.tmod (IntKind.i64.wrap ((Int.tmod x 8) + 8)) 8))]).flatMap enc_Term), c4 * 2⟩, ⟨some ⟨b, 0, none⟩, 67, ([(TTerm.mk (i : Int) (Int.tmod (IntKind.i64.wrap ((Int.tmod x 8) + 8)) 8))].flatMap enc_Term), 1 * 2⟩] [⟨B, (by_.flatMap encI)⟩] := hS5
        refine sq 3 rfl rfl (Y_assign (v := .slice B4 ((out ++ [(TTerm.mk (i : Int) (Int.tmod (IntKind.i64.wrap ((Int.tmod x 8) + 8)) 8))]).length) c4) rfl rfl) ?_
        refine rw_nil ?_
        exact ⟨(out ++ [(TTerm.mk (i : Int) (Int.tmod (IntKind.i64.wrap ((Int.tmod x 8) + 8)) 8))]), B4, c4, (some_inj hF3), (FF.cons rfl (FF.cons (hf.get 6 1 rfl) (FF.cons (hf.get 7 2 rfl) (FF.cons (hf.get 8 3 rfl) FF.nil)))), (hS5.sel [0] rfl rfl)⟩
      · skip
        have hF4 := cf' hz1 hb1
        refine cw_skip ?_
        exact ⟨out, B2, c2, (some_inj hF4), (FF.cons (hf.get 3 0 rfl) (FF.cons (hf.get 6 1 rfl) (FF.cons (hf.get 7 2 rfl) (FF.cons (hf.get 8 3 rfl) FF.nil)))), (hS1.sel [0] rfl rfl)⟩
    rintro f w ⟨out1, B3, c3, rfl, hf1, hS3⟩
    refine cw_region ?_
    refine sq 29 rfl rfl (Y_add (k := .i64) (a := (i : Int)) (b := 1) rfl (hf1.get 8 3 rfl) rfl) ?_
    refine sq 8 rfl rfl (Y_move (v := .int .i64 (IntKind.i64.wrap ((i : Int) + 1))) rfl rfl) ?_
    refine rw_nil ?_
    obtain rfl := some_inj hF2
    exact ⟨k_1, Nat.lt_succ_self _, i + 1, out1, B3, c3, (FF.cons (hf1.get 3 0 rfl) (FF.cons (hf1.get 6 1 rfl) (FF.cons (hf1.get 7 2 rfl) (FF.cons (congrArg (Value.int .i64) (wr_succ hlt1 hN)) FF.nil)))), (hS3.sel [0] rfl rfl), (by omega), hL1⟩
  · skip
    obtain rfl : k_ = 0 := by have h := of_decide_eq_false hlt; omega
    refine cw_exit rfl ?_
    obtain rfl := some_inj hL
    refine cw_seq ?_
    refine cw_region ?_
    refine sq 30 rfl rfl (Y_move (v := .slice B2 out.length c2) rfl (hf.get 3 0 rfl)) ?_
    refine sq 2 rfl rfl (Y_assign (v := .slice B2 out.length c2) rfl rfl) ?_
    refine rw_nil ?_
    refine cw_ret ?_
    obtain rfl := some_inj hF1
    exact ret1 Try.results18 (v1 := .slice B2 out.length c2) (resAt_tmp rfl) ⟨B2, c2, rfl, (ST.subR (R' := []) (hS1.sel [0] rfl rfl) (fun _ h => by cases h))⟩

theorem c_spec_PhasePolyOf (c : TCircuit) (B : Option Addr) (c1 n : Nat) (w0 : World) (hn : c.Gates.length = n) (hS : ST w0 [] w0 [] [⟨B, (c.Gates.flatMap enc_Gate)⟩]) {r_ : TPhasePoly} {r_1 : Bool} (hF : F_spec_PhasePolyOf c = some (r_, r_1)) :
    CV Try.prog 5 #[.agg #[.int .i64 c.Qubits, .slice B n c1]] w0 (fun v w' => ∃ (B1 : Option Addr) (c2 : Nat) (B2 : Option Addr) (c3 : Nat), v = .tuple #[.agg #[.int .i64 r_.Qubits, .int .i64 r_.Phase, .slice B1 r_.Terms.length c2, .slice B2 r_.Out.Rows.length c3], .bool r_1] ∧ ST w0 [] w' [⟨B1, 67, (r_.Terms.flatMap enc_Term), c2 * 2⟩, ⟨B2, 3, (r_.Out.Rows.flatMap encI), c3 * 1⟩] []) := by
  subst hn
  unfold F_spec_PhasePolyOf at hF
  refine cv_of_cw 134 Try.func5 rfl Try.ntmps5 rfl ?_
  refine cw_seq ?_
  refine cw_region ?_
  refine ss 1 rfl rfl (Ys_box (T := 36) (v := .agg #[.int .i64 c.Qubits, .slice B c.Gates.length c1]) (cs := [.int .i64 c.Qubits, .slice B c.Gates.length c1]) (m := 2) hS rfl rfl rfl rfl) ?_
  rintro _ w_ ⟨b, rfl, hS1⟩
  refine ss 2 rfl rfl (Ys_alloc (T := 31) (cs := [.int .i64 0, .int .i64 0, .slice none 0 0, .slice none 0 0]) (m := 4) hS1 k_zero_31 rfl rfl rfl) ?_
  rintro _ w_1 ⟨b1, rfl, hS2⟩
  have hS2 : ST w0 [] _ [⟨some ⟨b, 0, none⟩, 36, [.int .i64 c.Qubits, .slice B c.Gates.length c1], 2⟩, ⟨some ⟨b1, 0, none⟩, 31, [.int .i64 0, .int .i64 0, .slice none 0 0, .slice none 0 0], 4⟩] [⟨B, (c.Gates.flatMap enc_Gate)⟩] := hS2
  refine sq 3 rfl rfl (Y_assign (v := .bool false) rfl rfl) ?_
  refine rw_nil ?_
  refine cw_seq ?_
  refine cw_seq ?_
  refine cw_region ?_
  refine sq 9 rfl rfl (Y_loadA (B := some ⟨b, 0, none⟩) (i := 0) (cs := [.int .i64 c.Qubits, .slice B c.Gates.length c1]) (vs := [.int .i64 c.Qubits, .slice B c.Gates.length c1]) k_ag_36 k_sz_36_2 rfl rfl (hS2.cf (i := 0) rfl) rfl rfl) ?_
  obtain ⟨r_2, hc, hF⟩ := bind_inv hF
  refine sc 10 rfl rfl (Yc_func (g := 14) (vs := [.agg #[.int .i64 c.Qubits, .slice B c.Gates.length c1]]) k_call_14 rfl (mc rfl mn) (c_spec_l4Good c B c1 c.Gates.length _ rfl (hS2.inn0 [(true, 0)] rfl) hc)) ?_
  rintro _ w_2 ⟨rfl, hd⟩
  have hS3 := hS2.out00 hd
  have hS3 : ST w0 [] _ [⟨some ⟨b, 0, none⟩, 36, [.int .i64 c.Qubits, .slice B c.Gates.length c1], 2⟩, ⟨some ⟨b1, 0, none⟩, 31, [.int .i64 0, .int .i64 0, .slice none 0 0, .slice none 0 0], 4⟩] [⟨B, (c.Gates.flatMap enc_Gate)⟩] := hS3
  refine sq 11 rfl rfl (Y_not (p := r_2) rfl rfl) ?_
  refine rw_nil ?_
  refine cw_cond (b := (!r_2)) rfl (fun hb => ?_) (fun hb => ?_)
  · skip
    have hF1 := ct hF hb
    refine cw_seq ?_
    refine cw_region ?_
    refine sq 12 rfl rfl (Y_buildS (zs := [.int .i64 0, .int .i64 0, .slice none 0 0, .slice none 0 0]) (vs := []) (cs := [.int .i64 0, .int .i64 0, .slice none 0 0, .slice none 0 0]) k_pl_31 k_zero_31 rfl mpn rfl) ?_
    refine ss0 rfl rfl (Ys_store (i := 1) (s := 4) (B := some ⟨b1, 0, none⟩) (T' := 31) (v := .agg #[.int .i64 0, .int .i64 0, .slice none 0 0, .slice none 0 0]) (vs := [.int .i64 0, .int .i64 0, .slice none 0 0, .slice none 0 0]) (k := 0) (cs' := [.int .i64 0, .int .i64 0, .slice none 0 0, .slice none 0 0]) hS3 k_sz_31_4 rfl rfl rfl rfl rfl rfl rfl (Nat.le_of_ble_eq_true rfl) rfl rfl) ?_
    rintro _ w_3 ⟨rfl, hS4⟩
    have hS4 : ST w0 [] _ [⟨some ⟨b, 0, none⟩, 36, [.int .i64 c.Qubits, .slice B c.Gates.length c1], 2⟩, ⟨some ⟨b1, 0, none⟩, 31, [.int .i64 0, .int .i64 0, .slice none 0 0, .slice none 0 0], 4⟩] [⟨B, (c.Gates.flatMap enc_Gate)⟩] := hS4
    refine sq 3 rfl rfl (Y_assign (v := .bool false) rfl rfl) ?_
    refine rw_nil ?_
    refine cw_ret ?_
    have hS5 := hS4.addNil 67
    have hS6 := hS5.addNil 3
    obtain ⟨rfl, rfl⟩ := pr2 (some_inj hF1)
    exact ret2 Try.results5 (v1 := .agg #[.int .i64 0, .int .i64 0, .slice none 0 0, .slice none 0 0]) (resAt_cellA (B := some ⟨b1, 0, none⟩) (i := 0) (cs := [.int .i64 0, .int .i64 0, .slice none 0 0, .slice none 0 0]) (vs := [.int .i64 0, .int .i64 0, .slice none 0 0, .slice none 0 0]) rfl k_ag_31 k_sz_31_4 (hS6.cf (i := 1) rfl) rfl rfl) (v2 := .bool false) (resAt_tmp rfl) ⟨none, 0, none, 0, rfl, (ST.subR (R' := []) (hS6.sel [2, 3] rfl rfl) (fun _ h => by cases h))⟩
  · skip
    have hF2 := cf' hF hb
    refine cw_skip ?_
    refine cw_seq ?_
    refine cw_region ?_
    refine sq 13 rfl rfl (Y_fieldAddr (B := some ⟨b, 0, none⟩) (i := 0) (s := 0) k_fd_36_0_0_3 k_sz_3_1 rfl rfl) ?_
    refine sq 14 rfl rfl (Y_load1 (B := some ⟨b, 0, none⟩) (i := 0) (cs := [.int .i64 c.Qubits, .slice B c.Gates.length c1]) (v := .int .i64 c.Qubits) k_sc_3 rfl rfl (hS3.cf (i := 0) rfl) rfl) ?_
    refine sq 15 rfl rfl (Y_conv (k := .i64) (a := c.Qubits) (T := 3) (T' := 45) k_us_3 k_int_45_u64 rfl rfl) ?_
    obtain ⟨hsh, hF2⟩ := chk_inv hF2
    refine sq 16 rfl rfl (Y_shl (k := .i64) (a := 1) (k' := .u64) (b := (IntKind.u64.wrap c.Qubits)) rfl rfl rfl hsh) ?_
    obtain ⟨hmk, hF2⟩ := chk_inv hF2
    refine ss 17 rfl rfl (Ys_make (s := 1) (by' := 8) (nn := (shlK .i64 1 (IntKind.u64.wrap c.Qubits)).toNat) (a := (shlK .i64 1 (IntKind.u64.wrap c.Qubits))) (b := (shlK .i64 1 (IntKind.u64.wrap c.Qubits))) (cs := ((List.replicate ((shlK .i64 1 (IntKind.u64.wrap c.Qubits)).toNat) 0).flatMap encI)) hS3 k_sl_27_3 k_sz_3_1 k_by_3_8 k_zero_3 rfl rfl rfl rfl hmk.1 rfl (by have := hmk; omega) (by have := hmk; omega) (by omega) (fm_rep (enc := encI) (d := 0) rfl _)) ?_
    rintro _ w_4 ⟨b2, rfl, hS7⟩
    have hS7 : ST w0 [] _ [⟨some ⟨b, 0, none⟩, 36, [.int .i64 c.Qubits, .slice B c.Gates.length c1], 2⟩, ⟨some ⟨b1, 0, none⟩, 31, [.int .i64 0, .int .i64 0, .slice none 0 0, .slice none 0 0], 4⟩, ⟨some ⟨b2, 0, none⟩, 3, ((List.replicate ((shlK .i64 1 (IntKind.u64.wrap c.Qubits)).toNat) 0).flatMap encI), ((shlK .i64 1 (IntKind.u64.wrap c.Qubits)).toNat) * 1⟩] [⟨B, (c.Gates.flatMap enc_Gate)⟩] := hS7
    refine sq 4 rfl rfl (Y_assign (v := .slice (some ⟨b2, 0, none⟩) ((shlK .i64 1 (IntKind.u64.wrap c.Qubits)).toNat) ((shlK .i64 1 (IntKind.u64.wrap c.Qubits)).toNat)) rfl rfl) ?_
    refine rw_nil ?_
    refine cw_seq ?_
    refine cw_region ?_
    refine sq 18 rfl rfl (Y_fieldAddr (B := some ⟨b, 0, none⟩) (i := 0) (s := 0) k_fd_36_0_0_3 k_sz_3_1 rfl rfl) ?_
    refine sq 19 rfl rfl (Y_load1 (B := some ⟨b, 0, none⟩) (i := 0) (cs := [.int .i64 c.Qubits, .slice B c.Gates.length c1]) (v := .int .i64 c.Qubits) k_sc_3 rfl rfl (hS7.cf (i := 0) rfl) rfl) ?_
    refine sq 20 rfl rfl (Y_buildS (zs := [.int .i64 0, .int .i64 0, .slice none 0 0, .slice none 0 0]) (vs := [(0, .int .i64 c.Qubits)]) (cs := [.int .i64 c.Qubits, .int .i64 0, .slice none 0 0, .slice none 0 0]) k_pl_31 k_zero_31 rfl (mpc rfl mpn) rfl) ?_
    refine ss 5 rfl rfl (Ys_alloc (T := 31) (cs := [.int .i64 0, .int .i64 0, .slice none 0 0, .slice none 0 0]) (m := 4) hS7 k_zero_31 rfl rfl rfl) ?_
    rintro _ w_5 ⟨b3, rfl, hS8⟩
    have hS8 : ST w0 [] _ [⟨some ⟨b, 0, none⟩, 36, [.int .i64 c.Qubits, .slice B c.Gates.length c1], 2⟩, ⟨some ⟨b1, 0, none⟩, 31, [.int .i64 0, .int .i64 0, .slice none 0 0, .slice none 0 0], 4⟩, ⟨some ⟨b2, 0, none⟩, 3, ((List.replicate ((shlK .i64 1 (IntKind.u64.wrap c.Qubits)).toNat) 0).flatMap encI), ((shlK .i64 1 (IntKind.u64.wrap c.Qubits)).toNat) * 1⟩, ⟨some ⟨b3, 0, none⟩, 31, [.int .i64 0, .int .i64 0, .slice none 0 0, .slice none 0 0], 4⟩] [⟨B, (c.Gates.flatMap enc_Gate)⟩] := hS8
    refine ss0 rfl rfl (Ys_store (i := 3) (s := 4) (B := some ⟨b3, 0, none⟩) (T' := 31) (v := .agg #[.int .i64 c.Qubits, .int .i64 0, .slice none 0 0, .slice none 0 0]) (vs := [.int .i64 c.Qubits, .int .i64 0, .slice none 0 0, .slice none 0 0]) (k := 0) (cs' := [.int .i64 c.Qubits, .int .i64 0, .slice none 0 0, .slice none 0 0]) hS8 k_sz_31_4 rfl rfl rfl rfl rfl rfl rfl (Nat.le_of_ble_eq_true rfl) rfl rfl) ?_
    rintro _ w_6 ⟨rfl, hS9⟩
    have hS9 : ST w0 [] _ [⟨some ⟨b, 0, none⟩, 36, [.int .i64 c.Qubits, .slice B c.Gates.length c1], 2⟩, ⟨some ⟨b1, 0, none⟩, 31, [.int .i64 0, .int .i64 0, .slice none 0 0, .slice none 0 0], 4⟩, ⟨some ⟨b2, 0, none⟩, 3, ((List.replicate ((shlK .i64 1 (IntKind.u64.wrap c.Qubits)).toNat) 0).flatMap encI), ((shlK .i64 1 (IntKind.u64.wrap c.Qubits)).toNat) * 1⟩, ⟨some ⟨b3, 0, none⟩, 31, [.int .i64 c.Qubits, .int .i64 0, .slice none 0 0, .slice none 0 0], 4⟩] [⟨B, (c.Gates.flatMap enc_Gate)⟩] := hS9
    refine rw_nil ?_
    refine cw_seq ?_
    refine cw_region ?_
    refine sq 21 rfl rfl (Y_fieldAddr (B := some ⟨b, 0, none⟩) (i := 0) (s := 0) k_fd_36_0_0_3 k_sz_3_1 rfl rfl) ?_
    refine sq 22 rfl rfl (Y_load1 (B := some ⟨b, 0, none⟩) (i := 0) (cs := [.int .i64 c.Qubits, .slice B c.Gates.length c1]) (v := .int .i64 c.Qubits) k_sc_3 rfl rfl (hS9.cf (i := 0) rfl) rfl) ?_
    obtain ⟨r_3, hc1, hF2⟩ := bind_inv hF2
    refine sc 23 rfl rfl (Yc_func (g := 15) (vs := [.int .i64 c.Qubits]) k_call_15 rfl (mc rfl mn) (c_spec_l12Identity c.Qubits _  (hS9.inn0 [] rfl) hc1)) ?_
    rintro _ w_7 ⟨B3, c4, rfl, hd1⟩
    have hS10 := hS9.out0 hd1
    have hS10 : ST w0 [] _ [⟨some ⟨b, 0, none⟩, 36, [.int .i64 c.Qubits, .slice B c.Gates.length c1], 2⟩, ⟨some ⟨b1, 0, none⟩, 31, [.int .i64 0, .int .i64 0, .slice none 0 0, .slice none 0 0], 4⟩, ⟨some ⟨b2, 0, none⟩, 3, ((List.replicate ((shlK .i64 1 (IntKind.u64.wrap c.Qubits)).toNat) 0).flatMap encI), ((shlK .i64 1 (IntKind.u64.wrap c.Qubits)).toNat) * 1⟩, ⟨some ⟨b3, 0, none⟩, 31, [.int .i64 c.Qubits, .int .i64 0, .slice none 0 0, .slice none 0 0], 4⟩, ⟨B3, 3, (r_3.Rows.flatMap encI), c4 * 1⟩] [⟨B, (c.Gates.flatMap enc_Gate)⟩] := hS10
    refine ss 6 rfl rfl (Ys_alloc (T := 29) (cs := [.slice none 0 0]) (m := 1) hS10 k_zero_29 rfl rfl rfl) ?_
    rintro _ w_8 ⟨b4, rfl, hS11⟩
    have hS11 : ST w0 [] _ [⟨some ⟨b, 0, none⟩, 36, [.int .i64 c.Qubits, .slice B c.Gates.length c1], 2⟩, ⟨some ⟨b1, 0, none⟩, 31, [.int .i64 0, .int .i64 0, .slice none 0 0, .slice none 0 0], 4⟩, ⟨some ⟨b2, 0, none⟩, 3, ((List.replicate ((shlK .i64 1 (IntKind.u64.wrap c.Qubits)).toNat) 0).flatMap encI), ((shlK .i64 1 (IntKind.u64.wrap c.Qubits)).toNat) * 1⟩, ⟨some ⟨b3, 0, none⟩, 31, [.int .i64 c.Qubits, .int .i64 0, .slice none 0 0, .slice none 0 0], 4⟩, ⟨B3, 3, (r_3.Rows.flatMap encI), c4 * 1⟩, ⟨some ⟨b4, 0, none⟩, 29, [.slice none 0 0], 1⟩] [⟨B, (c.Gates.flatMap enc_Gate)⟩] := hS11
    refine ss0 rfl rfl (Ys_store (i := 5) (s := 1) (B := some ⟨b4, 0, none⟩) (T' := 29) (v := .agg #[.slice B3 r_3.Rows.length c4]) (vs := [.slice B3 r_3.Rows.length c4]) (k := 0) (cs' := [.slice B3 r_3.Rows.length c4]) hS11 k_sz_29_1 rfl rfl rfl rfl rfl rfl rfl (Nat.le_of_ble_eq_true rfl) rfl rfl) ?_
    rintro _ w_9 ⟨rfl, hS12⟩
    have hS12 : ST w0 [] _ [⟨some ⟨b, 0, none⟩, 36, [.int .i64 c.Qubits, .slice B c.Gates.length c1], 2⟩, ⟨some ⟨b1, 0, none⟩, 31, [.int .i64 0, .int .i64 0, .slice none 0 0, .slice none 0 0], 4⟩, ⟨some ⟨b2, 0, none⟩, 3, ((List.replicate ((shlK .i64 1 (IntKind.u64.wrap c.Qubits)).toNat) 0).flatMap encI), ((shlK .i64 1 (IntKind.u64.wrap c.Qubits)).toNat) * 1⟩, ⟨some ⟨b3, 0, none⟩, 31, [.int .i64 c.Qubits, .int .i64 0, .slice none 0 0, .slice none 0 0], 4⟩, ⟨B3, 3, (r_3.Rows.flatMap encI), c4 * 1⟩, ⟨some ⟨b4, 0, none⟩, 29, [.slice B3 r_3.Rows.length c4], 1⟩] [⟨B, (c.Gates.flatMap enc_Gate)⟩] := hS12
    refine rw_nil ?_
    refine cw_seq ?_
    refine cw_seq ?_
    refine cw_region ?_
    refine sq 24 rfl rfl (Y_fieldAddr (B := some ⟨b, 0, none⟩) (i := 0) (s := 0) k_fd_36_1_1_34 k_sz_34_1 rfl rfl) ?_
    refine sq 25 rfl rfl (Y_load1 (B := some ⟨b, 0, none⟩) (i := 1) (cs := [.int .i64 c.Qubits, .slice B c.Gates.length c1]) (v := .slice B c.Gates.length c1) k_sc_34 rfl rfl (hS12.cf (i := 0) rfl) rfl) ?_
    refine sq 26 rfl rfl (Y_len (B := B) (m := c.Gates.length) (c := c1) k_sl_34_48 rfl rfl) ?_
    refine sq 27 rfl rfl (Y_move (v := .int .i64 0) rfl rfl) ?_
    refine rw_nil ?_
    obtain ⟨hN, hF2⟩ := chk_inv hF2
    obtain ⟨z, hz, hF3⟩ := bind_inv hF2
    refine cw_block ?_
    refine cw_loop (fun k f w => ∃ (i : Nat) (by_ : List Int) (Phase : Int) (Rows : List Int) (B4 : Option Addr) (c5 : Nat), FF f [(2, pt (some ⟨b1, 0, none⟩) 0), (4, .slice (some ⟨b2, 0, none⟩) ((shlK .i64 1 (IntKind.u64.wrap c.Qubits)).toNat) ((shlK .i64 1 (IntKind.u64.wrap c.Qubits)).toNat)), (5, pt (some ⟨b3, 0, none⟩) 0), (6, pt (some ⟨b4, 0, none⟩) 0), (25, .slice B c.Gates.length c1), (26, .int .i64 (c.Gates.length : Int)), (27, .int .i64 (i : Int))] ∧ by_.length = (shlK .i64 1 (IntKind.u64.wrap c.Qubits)).toNat ∧ ST w0 [] w [⟨some ⟨b1, 0, none⟩, 31, [.int .i64 0, .int .i64 0, .slice none 0 0, .slice none 0 0], 4⟩, ⟨some ⟨b2, 0, none⟩, 3, (by_.flatMap encI), ((shlK .i64 1 (IntKind.u64.wrap c.Qubits)).toNat) * 1⟩, ⟨some ⟨b3, 0, none⟩, 31, [.int .i64 c.Qubits, .int .i64 Phase, .slice none 0 0, .slice none 0 0], 4⟩, ⟨some ⟨b4, 0, none⟩, 29, [.slice B4 Rows.length c5], 1⟩, ⟨B4, 3, (Rows.flatMap encI), c5 * 1⟩] [⟨B, (c.Gates.flatMap enc_Gate)⟩] ∧ i + k = c.Gates.length ∧ forX (F_spec_PhasePolyOf_l1 c) k i (by_, Phase, Rows) = some z) c.Gates.length ⟨0, (List.replicate ((shlK .i64 1 (IntKind.u64.wrap c.Qubits)).toNat) 0), 0, r_3.Rows, B3, c4, (FF.cons rfl (FF.cons rfl (FF.cons rfl (FF.cons rfl (FF.cons rfl (FF.cons rfl (FF.cons rfl FF.nil))))))), List.length_replicate, (hS12.sel [1, 2, 3, 5, 4] rfl rfl), Nat.zero_add _, hz⟩ ?_
    rintro k_ f w ⟨i, by_, Phase, Rows, B4, c5, hf, hl, hS13, hik, hL⟩
    refine cw_seq ?_
    refine cw_region ?_
    refine sq 28 rfl rfl (Y_lt (k := .i64) (a := (i : Int)) (b := (c.Gates.length : Int)) rfl (hf.get 27 6 rfl) (hf.get 26 5 rfl)) ?_
    refine rw_nil ?_
    refine cw_seq ?_
    refine cw_cond (b := (decide ((i : Int) < (c.Gates.length : Int)))) rfl (fun hlt => ?_) (fun hlt => ?_)
    · skip
      have hlt1 : i < c.Gates.length := by have h := of_decide_eq_true hlt; omega
      obtain ⟨k_1, rfl⟩ : ∃ k2, k_ = k2 + 1 := ⟨k_ - 1, by omega⟩
      obtain ⟨y, hb1, hL1⟩ := forX_go hL
      unfold F_spec_PhasePolyOf_l1 at hb1
      refine cw_skip ?_
      refine cw_seq ?_
      obtain ⟨z1, hz1, hF4⟩ := bind_inv hb1
      refine cw_mid (fun f w => ∃ (by_1 : List Int) (Phase1 : Int) (Rows1 : List Int) (B5 : Option Addr) (c6 : Nat), .inl (by_1, Phase1, Rows1) = z1 ∧ FF f [(2, pt (some ⟨b1, 0, none⟩) 0), (4, .slice (some ⟨b2, 0, none⟩) ((shlK .i64 1 (IntKind.u64.wrap c.Qubits)).toNat) ((shlK .i64 1 (IntKind.u64.wrap c.Qubits)).toNat)), (5, pt (some ⟨b3, 0, none⟩) 0), (6, pt (some ⟨b4, 0, none⟩) 0), (25, .slice B c.Gates.length c1), (26, .int .i64 (c.Gates.length : Int)), (27, .int .i64 (i : Int))] ∧ by_1.length = (shlK .i64 1 (IntKind.u64.wrap c.Qubits)).toNat ∧ ST w0 [] w [⟨some ⟨b1, 0, none⟩, 31, [.int .i64 0, .int .i64 0, .slice none 0 0, .slice none 0 0], 4⟩, ⟨some ⟨b2, 0, none⟩, 3, (by_1.flatMap encI), ((shlK .i64 1 (IntKind.u64.wrap c.Qubits)).toNat) * 1⟩, ⟨some ⟨b3, 0, none⟩, 31, [.int .i64 c.Qubits, .int .i64 Phase1, .slice none 0 0, .slice none 0 0], 4⟩, ⟨some ⟨b4, 0, none⟩, 29, [.slice B5 Rows1.length c6], 1⟩, ⟨B5, 3, (Rows1.flatMap encI), c6 * 1⟩] [⟨B, (c.Gates.flatMap enc_Gate)⟩]) ?_ ?_
      · skip
        refine cw_block ?_
        refine cw_seq ?_
        refine cw_region ?_
        obtain ⟨x, hx, hz1⟩ := bind_inv hz1
        refine sq 29 rfl rfl (Y_index (B := B) (m := c.Gates.length) (c := c1) (k := .i64) (i := (i : Int)) k_sl_34_48 k_sz_48_3 rfl (hf.get 25 4 rfl) (hf.get 27 6 rfl) (gi_isSome enc_Gate_len rfl (hS13.rf (i := 0) rfl) hx) (getI_nn hx) (getI_ltI hx rfl)) ?_
        refine sq 30 rfl rfl (Y_loadA (B := B) (i := (i : Int).toNat * 3) (cs := (c.Gates.flatMap enc_Gate)) (vs := [.int .i64 x.Kind, .int .i64 x.A, .int .i64 x.B]) k_ag_48 k_sz_48_3 rfl rfl (hS13.rf (i := 0) rfl) (enc_Gate_len x) (gi_seg enc_Gate_len hx)) ?_
        refine ss 8 rfl rfl (Ys_alloc (T := 48) (cs := [.int .i64 0, .int .i64 0, .int .i64 0]) (m := 3) hS13 k_zero_48 rfl rfl rfl) ?_
        rintro _ w_10 ⟨b5, rfl, hS15⟩
        have hS15 : ST w0 [] _ [⟨some ⟨b1, 0, none⟩, 31, [.int .i64 0, .int .i64 0, .slice none 0 0, .slice none 0 0], 4⟩, ⟨some ⟨b2, 0, none⟩, 3, (by_.flatMap encI), ((shlK .i64 1 (IntKind.u64.wrap c.Qubits)).toNat) * 1⟩, ⟨some ⟨b3, 0, none⟩, 31, [.int .i64 c.Qubits, .int .i64 Phase, .slice none 0 0, .slice none 0 0], 4⟩, ⟨some ⟨b4, 0, none⟩, 29, [.slice B4 Rows.length c5], 1⟩, ⟨B4, 3, (Rows.flatMap encI), c5 * 1⟩, ⟨some ⟨b5, 0, none⟩, 48, [.int .i64 0, .int .i64 0, .int .i64 0], 3⟩] [⟨B, (c.Gates.flatMap enc_Gate)⟩] := hS15
        refine ss0 rfl rfl (Ys_store (i := 5) (s := 3) (B := some ⟨b5, 0, none⟩) (T' := 48) (v := .agg #[.int .i64 x.Kind, .int .i64 x.A, .int .i64 x.B]) (vs := [.int .i64 x.Kind, .int .i64 x.A, .int .i64 x.B]) (k := 0) (cs' := [.int .i64 x.Kind, .int .i64 x.A, .int .i64 x.B]) hS15 k_sz_48_3 rfl rfl rfl rfl rfl rfl rfl (Nat.le_of_ble_eq_true rfl) rfl rfl) ?_
        rintro _ w_11 ⟨rfl, hS16⟩
        have hS16 : ST w0 [] _ [⟨some ⟨b1, 0, none⟩, 31, [.int .i64 0, .int .i64 0, .slice none 0 0, .slice none 0 0], 4⟩, ⟨some ⟨b2, 0, none⟩, 3, (by_.flatMap encI), ((shlK .i64 1 (IntKind.u64.wrap c.Qubits)).toNat) * 1⟩, ⟨some ⟨b3, 0, none⟩, 31, [.int .i64 c.Qubits, .int .i64 Phase, .slice none 0 0, .slice none 0 0], 4⟩, ⟨some ⟨b4, 0, none⟩, 29, [.slice B4 Rows.length c5], 1⟩, ⟨B4, 3, (Rows.flatMap encI), c5 * 1⟩, ⟨some ⟨b5, 0, none⟩, 48, [.int .i64 x.Kind, .int .i64 x.A, .int .i64 x.B], 3⟩] [⟨B, (c.Gates.flatMap enc_Gate)⟩] := hS16
        refine rw_nil ?_
        refine cw_seq ?_
        refine cw_region ?_
        refine sq 31 rfl rfl (Y_fieldAddr (B := some ⟨b5, 0, none⟩) (i := 0) (s := 0) k_fd_48_0_0_3 k_sz_3_1 rfl rfl) ?_
        refine sq 32 rfl rfl (Y_load1 (B := some ⟨b5, 0, none⟩) (i := 0) (cs := [.int .i64 x.Kind, .int .i64 x.A, .int .i64 x.B]) (v := .int .i64 x.Kind) k_sc_3 rfl rfl (hS16.cf (i := 5) rfl) rfl) ?_
        refine rw_nil ?_
        refine cw_block ?_
        refine cw_seq ?_
        refine cw_region ?_
        refine sq 53 rfl rfl (Y_eq (k := .i64) (a := x.Kind) (b := 9) rfl rfl rfl) ?_
        refine sq 52 rfl rfl (Y_assign (v := .bool (x.Kind == 9)) rfl rfl) ?_
        refine rw_nil ?_
        refine cw_cond (b := (x.Kind == 9)) rfl (fun hb2 => ?_) (fun hb2 => ?_)
        · skip
          have hF5 := ct hz1 hb2
          refine cw_region ?_
          refine sq 54 rfl rfl (Y_loadA (B := some ⟨b4, 0, none⟩) (i := 0) (cs := [.slice B4 Rows.length c5]) (vs := [.slice B4 Rows.length c5]) k_ag_29 k_sz_29_1 rfl (hf.get 6 3 rfl) (hS16.cf (i := 3) rfl) rfl rfl) ?_
          refine sq 55 rfl rfl (Y_fieldAddr (B := some ⟨b5, 0, none⟩) (i := 0) (s := 0) k_fd_48_1_1_3 k_sz_3_1 rfl rfl) ?_
          refine sq 56 rfl rfl (Y_load1 (B := some ⟨b5, 0, none⟩) (i := 1) (cs := [.int .i64 x.Kind, .int .i64 x.A, .int .i64 x.B]) (v := .int .i64 x.A) k_sc_3 rfl rfl (hS16.cf (i := 5) rfl) rfl) ?_
          refine sq 57 rfl rfl (Y_fieldAddr (B := some ⟨b5, 0, none⟩) (i := 0) (s := 0) k_fd_48_2_2_3 k_sz_3_1 rfl rfl) ?_
          refine sq 58 rfl rfl (Y_load1 (B := some ⟨b5, 0, none⟩) (i := 2) (cs := [.int .i64 x.Kind, .int .i64 x.A, .int .i64 x.B]) (v := .int .i64 x.B) k_sc_3 rfl rfl (hS16.cf (i := 5) rfl) rfl) ?_
          obtain ⟨r_4, hc2, hF5⟩ := bind_inv hF5
          refine sc 59 rfl rfl (Yc_func (g := 16) (vs := [.agg #[.slice B4 Rows.length c5], .int .i64 x.A, .int .i64 x.B]) k_call_16 rfl (mc rfl (mc rfl (mc rfl mn))) (c_spec_l12CX (TLinear.mk Rows) x.A x.B B4 c5 Rows.length _ rfl (hS16.inn0 [(false, 4)] rfl) hc2)) ?_
          rintro _ w_12 ⟨B6, c7, rfl, hd2⟩
          have hS17 := hS16.out0 hd2
          have hS17 : ST w0 [] _ [⟨some ⟨b1, 0, none⟩, 31, [.int .i64 0, .int .i64 0, .slice none 0 0, .slice none 0 0], 4⟩, ⟨some ⟨b2, 0, none⟩, 3, (by_.flatMap encI), ((shlK .i64 1 (IntKind.u64.wrap c.Qubits)).toNat) * 1⟩, ⟨some ⟨b3, 0, none⟩, 31, [.int .i64 c.Qubits, .int .i64 Phase, .slice none 0 0, .slice none 0 0], 4⟩, ⟨some ⟨b4, 0, none⟩, 29, [.slice B4 Rows.length c5], 1⟩, ⟨B4, 3, (Rows.flatMap encI), c5 * 1⟩, ⟨some ⟨b5, 0, none⟩, 48, [.int .i64 x.Kind, .int .i64 x.A, .int .i64 x.B], 3⟩, ⟨B6, 3, (r_4.Rows.flatMap encI), c7 * 1⟩] [⟨B, (c.Gates.flatMap enc_Gate)⟩] := hS17
          refine ss0 rfl rfl (Ys_store (i := 3) (s := 1) (B := some ⟨b4, 0, none⟩) (T' := 29) (v := .agg #[.slice B6 r_4.Rows.length c7]) (vs := [.slice B6 r_4.Rows.length c7]) (k := 0) (cs' := [.slice B6 r_4.Rows.length c7]) hS17 k_sz_29_1 rfl (hf.get 6 3 rfl) rfl rfl rfl rfl rfl (Nat.le_of_ble_eq_true rfl) rfl rfl) ?_
          rintro _ w_13 ⟨rfl, hS18⟩
          have hS18 : ST w0 [] _ [⟨some ⟨b1, 0, none⟩, 31, [.int .i64 0, .int .i64 0, .slice none 0 0, .slice none 0 0], 4⟩, ⟨some ⟨b2, 0, none⟩, 3, (by_.flatMap encI), ((shlK .i64 1 (IntKind.u64.wrap c.Qubits)).toNat) * 1⟩, ⟨some ⟨b3, 0, none⟩, 31, [.int .i64 c.Qubits, .int .i64 Phase, .slice none 0 0, .slice none 0 0], 4⟩, ⟨some ⟨b4, 0, none⟩, 29, [.slice B6 r_4.Rows.length c7], 1⟩, ⟨B4, 3, (Rows.flatMap encI), c5 * 1⟩, ⟨some ⟨b5, 0, none⟩, 48, [.int .i64 x.Kind, .int .i64 x.A, .int .i64 x.B], 3⟩, ⟨B6, 3, (r_4.Rows.flatMap encI), c7 * 1⟩] [⟨B, (c.Gates.flatMap enc_Gate)⟩] := hS18
          refine rw_nil ?_
          exact ⟨by_, Phase, r_4.Rows, B6, c7, (some_inj hF5), (FF.cons (hf.get 2 0 rfl) (FF.cons (hf.get 4 1 rfl) (FF.cons (hf.get 5 2 rfl) (FF.cons (hf.get 6 3 rfl) (FF.cons (hf.get 25 4 rfl) (FF.cons (hf.get 26 5 rfl) (FF.cons (hf.get 27 6 rfl) FF.nil))))))), hl, (hS18.sel [0, 1, 2, 3, 6] rfl rfl)⟩
        · skip
          have hF6 := cf' hz1 hb2
          refine cw_seq ?_
          refine cw_region ?_
          refine sq 61 rfl rfl (Y_eq (k := .i64) (a := x.Kind) (b := 11) rfl rfl rfl) ?_
          refine sq 60 rfl rfl (Y_assign (v := .bool (x.Kind == 11)) rfl rfl) ?_
          refine rw_nil ?_
          refine cw_cond (b := (x.Kind == 11)) rfl (fun hb3 => ?_) (fun hb3 => ?_)
          · skip
            have hF7 := ct hF6 hb3
            obtain ⟨r_5, hc3, hF7⟩ := bind_inv hF7
            obtain ⟨r_6, hc4, hF7⟩ := bind_inv hF7
            obtain ⟨r_7, hc5, hF7⟩ := bind_inv hF7
            refine ra_start (ST.sel hS16 [0, 1, 2, 4, 5] rfl rfl).fn (by kernel_rfl) ?_
            have hS22 := hS16.drew
            refine ra_q 1 63 (v := pt (some ⟨b5, 0, none⟩) 1) rfl rfl rfl (by kernel_rfl) (by kernel_rfl) (by kernel_rfl) (ST.sel hS22 [0, 1, 2, 4, 5] rfl rfl) (fun w' hw' => (Y_fieldAddr (B := some ⟨b5, 0, none⟩) (i := 0) (s := 0) k_fd_48_1_1_3 k_sz_3_1 rfl rfl)) ?_
            refine ra_q 2 64 (v := .int .i64 x.A) rfl rfl rfl (by kernel_rfl) (by kernel_rfl) (by kernel_rfl) (ST.sel hS22 [0, 1, 2, 4, 5] rfl rfl) (fun w' hw' => (Y_load1 (B := some ⟨b5, 0, none⟩) (i := 1) (cs := [.int .i64 x.Kind, .int .i64 x.A, .int .i64 x.B]) (v := .int .i64 x.A) k_sc_3 rfl rfl (ST.cf hw' (i := 4) rfl) rfl)) ?_
            refine ra_q 3 65 (v := pt (some ⟨b5, 0, none⟩) 2) rfl rfl rfl (by kernel_rfl) (by kernel_rfl) (by kernel_rfl) (ST.sel hS22 [0, 1, 2, 4, 5] rfl rfl) (fun w' hw' => (Y_fieldAddr (B := some ⟨b5, 0, none⟩) (i := 0) (s := 0) k_fd_48_2_2_3 k_sz_3_1 rfl rfl)) ?_
            refine ra_q 4 66 (v := .int .i64 x.B) rfl rfl rfl (by kernel_rfl) (by kernel_rfl) (by kernel_rfl) (ST.sel hS22 [0, 1, 2, 4, 5] rfl rfl) (fun w' hw' => (Y_load1 (B := some ⟨b5, 0, none⟩) (i := 2) (cs := [.int .i64 x.Kind, .int .i64 x.A, .int .i64 x.B]) (v := .int .i64 x.B) k_sc_3 rfl rfl (ST.cf hw' (i := 4) rfl) rfl)) ?_
            refine ra_q 6 68 (v := pt (some ⟨b5, 0, none⟩) 2) rfl rfl rfl (by kernel_rfl) (by kernel_rfl) (by kernel_rfl) (ST.sel hS22 [0, 1, 2, 4, 5] rfl rfl) (fun w' hw' => (Y_fieldAddr (B := some ⟨b5, 0, none⟩) (i := 0) (s := 0) k_fd_48_2_2_3 k_sz_3_1 rfl rfl)) ?_
            refine ra_q 7 69 (v := .int .i64 x.B) rfl rfl rfl (by kernel_rfl) (by kernel_rfl) (by kernel_rfl) (ST.sel hS22 [0, 1, 2, 4, 5] rfl rfl) (fun w' hw' => (Y_load1 (B := some ⟨b5, 0, none⟩) (i := 2) (cs := [.int .i64 x.Kind, .int .i64 x.A, .int .i64 x.B]) (v := .int .i64 x.B) k_sc_3 rfl rfl (ST.cf hw' (i := 4) rfl) rfl)) ?_
            refine ra_q 8 70 (v := pt (some ⟨b5, 0, none⟩) 1) rfl rfl rfl (by kernel_rfl) (by kernel_rfl) (by kernel_rfl) (ST.sel hS22 [0, 1, 2, 4, 5] rfl rfl) (fun w' hw' => (Y_fieldAddr (B := some ⟨b5, 0, none⟩) (i := 0) (s := 0) k_fd_48_1_1_3 k_sz_3_1 rfl rfl)) ?_
            refine ra_q 9 71 (v := .int .i64 x.A) rfl rfl rfl (by kernel_rfl) (by kernel_rfl) (by kernel_rfl) (ST.sel hS22 [0, 1, 2, 4, 5] rfl rfl) (fun w' hw' => (Y_load1 (B := some ⟨b5, 0, none⟩) (i := 1) (cs := [.int .i64 x.Kind, .int .i64 x.A, .int .i64 x.B]) (v := .int .i64 x.A) k_sc_3 rfl rfl (ST.cf hw' (i := 4) rfl) rfl)) ?_
            refine ra_q 11 73 (v := pt (some ⟨b5, 0, none⟩) 1) rfl rfl rfl (by kernel_rfl) (by kernel_rfl) (by kernel_rfl) (ST.sel hS22 [0, 1, 2, 4, 5] rfl rfl) (fun w' hw' => (Y_fieldAddr (B := some ⟨b5, 0, none⟩) (i := 0) (s := 0) k_fd_48_1_1_3 k_sz_3_1 rfl rfl)) ?_
            refine ra_q 12 74 (v := .int .i64 x.A) rfl rfl rfl (by kernel_rfl) (by kernel_rfl) (by kernel_rfl) (ST.sel hS22 [0, 1, 2, 4, 5] rfl rfl) (fun w' hw' => (Y_load1 (B := some ⟨b5, 0, none⟩) (i := 1) (cs := [.int .i64 x.Kind, .int .i64 x.A, .int .i64 x.B]) (v := .int .i64 x.A) k_sc_3 rfl rfl (ST.cf hw' (i := 4) rfl) rfl)) ?_
            refine ra_q 13 75 (v := pt (some ⟨b5, 0, none⟩) 2) rfl rfl rfl (by kernel_rfl) (by kernel_rfl) (by kernel_rfl) (ST.sel hS22 [0, 1, 2, 4, 5] rfl rfl) (fun w' hw' => (Y_fieldAddr (B := some ⟨b5, 0, none⟩) (i := 0) (s := 0) k_fd_48_2_2_3 k_sz_3_1 rfl rfl)) ?_
            refine ra_q 14 76 (v := .int .i64 x.B) rfl rfl rfl (by kernel_rfl) (by kernel_rfl) (by kernel_rfl) (ST.sel hS22 [0, 1, 2, 4, 5] rfl rfl) (fun w' hw' => (Y_load1 (B := some ⟨b5, 0, none⟩) (i := 2) (cs := [.int .i64 x.Kind, .int .i64 x.A, .int .i64 x.B]) (v := .int .i64 x.B) k_sc_3 rfl rfl (ST.cf hw' (i := 4) rfl) rfl)) ?_
            refine ra_all (rs := [0]) (by kernel_rfl) rfl ?_
            refine ra_y 62 (i := 0) (v := .agg #[.slice B4 Rows.length c5]) rfl rfl rfl (Y_loadA (B := some ⟨b4, 0, none⟩) (i := 0) (cs := [.slice B4 Rows.length c5]) (vs := [.slice B4 Rows.length c5]) k_ag_29 k_sz_29_1 rfl (hf.get 6 3 rfl) (hS22.cf (i := 3) rfl) rfl rfl) (ST.sel hS22 [0, 1, 2, 4, 5] rfl rfl) ?_ ?_
            · skip
              refine ra_all (rs := [5]) (by kernel_rfl) rfl ?_
              refine ra_c 67 (i := 5) rfl rfl rfl (Yc_func (g := 16) (vs := [.agg #[.slice B4 Rows.length c5], .int .i64 x.A, .int .i64 x.B]) k_call_16 rfl (mc rfl (mc rfl (mc rfl mn))) (c_spec_l12CX (TLinear.mk Rows) x.A x.B B4 c5 Rows.length _ rfl (hS22.inn0 [(false, 4)] rfl) hc3)) ?_ ?_
              · rintro _ w_14 ⟨B7, c8, rfl, hd3⟩
                have hS23 := hS22.out0 hd3
                have hS23 : ST w0 [] _ [⟨some ⟨b1, 0, none⟩, 31, [.int .i64 0, .int .i64 0, .slice none 0 0, .slice none 0 0], 4⟩, ⟨some ⟨b2, 0, none⟩, 3, (by_.flatMap encI), ((shlK .i64 1 (IntKind.u64.wrap c.Qubits)).toNat) * 1⟩, ⟨some ⟨b3, 0, none⟩, 31, [.int .i64 c.Qubits, .int .i64 Phase, .slice none 0 0, .slice none 0 0], 4⟩, ⟨some ⟨b4, 0, none⟩, 29, [.slice B4 Rows.length c5], 1⟩, ⟨B4, 3, (Rows.flatMap encI), c5 * 1⟩, ⟨some ⟨b5, 0, none⟩, 48, [.int .i64 x.Kind, .int .i64 x.A, .int .i64 x.B], 3⟩, ⟨B7, 3, (r_5.Rows.flatMap encI), c8 * 1⟩] [⟨B, (c.Gates.flatMap enc_Gate)⟩] := hS23
                refine ⟨(ST.sel hS23 [0, 1, 2, 4, 5] rfl rfl), ?_⟩
                refine ra_all (rs := [10]) (by kernel_rfl) rfl ?_
                refine ra_c 72 (i := 10) rfl rfl rfl (Yc_func (g := 16) (vs := [.agg #[.slice B7 r_5.Rows.length c8], .int .i64 x.B, .int .i64 x.A]) k_call_16 rfl (mc rfl (mc rfl (mc rfl mn))) (c_spec_l12CX r_5 x.B x.A B7 c8 r_5.Rows.length _ rfl (hS23.inn0 [(false, 6)] rfl) hc4)) ?_ ?_
                · rintro _ w_15 ⟨B8, c9, rfl, hd4⟩
                  have hS24 := hS23.out0 hd4
                  have hS24 : ST w0 [] _ [⟨some ⟨b1, 0, none⟩, 31, [.int .i64 0, .int .i64 0, .slice none 0 0, .slice none 0 0], 4⟩, ⟨some ⟨b2, 0, none⟩, 3, (by_.flatMap encI), ((shlK .i64 1 (IntKind.u64.wrap c.Qubits)).toNat) * 1⟩, ⟨some ⟨b3, 0, none⟩, 31, [.int .i64 c.Qubits, .int .i64 Phase, .slice none 0 0, .slice none 0 0], 4⟩, ⟨some ⟨b4, 0, none⟩, 29, [.slice B4 Rows.length c5], 1⟩, ⟨B4, 3, (Rows.flatMap encI), c5 * 1⟩, ⟨some ⟨b5, 0, none⟩, 48, [.int .i64 x.Kind, .int .i64 x.A, .int .i64 x.B], 3⟩, ⟨B7, 3, (r_5.Rows.flatMap encI), c8 * 1⟩, ⟨B8, 3, (r_6.Rows.flatMap encI), c9 * 1⟩] [⟨B, (c.Gates.flatMap enc_Gate)⟩] := hS24
                  refine ⟨(ST.sel hS24 [0, 1, 2, 4, 5] rfl rfl), ?_⟩
                  refine ra_all (rs := [15]) (by kernel_rfl) rfl ?_
                  refine ra_c 77 (i := 15) rfl rfl rfl (Yc_func (g := 16) (vs := [.agg #[.slice B8 r_6.Rows.length c9], .int .i64 x.A, .int .i64 x.B]) k_call_16 rfl (mc rfl (mc rfl (mc rfl mn))) (c_spec_l12CX r_6 x.A x.B B8 c9 r_6.Rows.length _ rfl (hS24.inn0 [(false, 7)] rfl) hc5)) ?_ ?_
                  · rintro _ w_16 ⟨B9, c10, rfl, hd5⟩
                    have hS25 := hS24.out0 hd5
                    have hS25 : ST w0 [] _ [⟨some ⟨b1, 0, none⟩, 31, [.int .i64 0, .int .i64 0, .slice none 0 0, .slice none 0 0], 4⟩, ⟨some ⟨b2, 0, none⟩, 3, (by_.flatMap encI), ((shlK .i64 1 (IntKind.u64.wrap c.Qubits)).toNat) * 1⟩, ⟨some ⟨b3, 0, none⟩, 31, [.int .i64 c.Qubits, .int .i64 Phase, .slice none 0 0, .slice none 0 0], 4⟩, ⟨some ⟨b4, 0, none⟩, 29, [.slice B4 Rows.length c5], 1⟩, ⟨B4, 3, (Rows.flatMap encI), c5 * 1⟩, ⟨some ⟨b5, 0, none⟩, 48, [.int .i64 x.Kind, .int .i64 x.A, .int .i64 x.B], 3⟩, ⟨B7, 3, (r_5.Rows.flatMap encI), c8 * 1⟩, ⟨B8, 3, (r_6.Rows.flatMap encI), c9 * 1⟩, ⟨B9, 3, (r_7.Rows.flatMap encI), c10 * 1⟩] [⟨B, (c.Gates.flatMap enc_Gate)⟩] := hS25
                    refine ⟨(ST.sel hS25 [0, 1, 2, 4, 5] rfl rfl), ?_⟩
                    refine ra_all (rs := [16]) (by kernel_rfl) rfl ?_
                    refine ra_s0 (i := 16) rfl rfl rfl (Ys_store (i := 3) (s := 1) (B := some ⟨b4, 0, none⟩) (T' := 29) (v := .agg #[.slice B9 r_7.Rows.length c10]) (vs := [.slice B9 r_7.Rows.length c10]) (k := 0) (cs' := [.slice B9 r_7.Rows.length c10]) hS25 k_sz_29_1 rfl (hf.get 6 3 rfl) rfl rfl rfl rfl rfl (Nat.le_of_ble_eq_true rfl) rfl rfl) ?_ ?_
                    · rintro _ w_17 ⟨rfl, hS26⟩
                      have hS26 : ST w0 [] _ [⟨some ⟨b1, 0, none⟩, 31, [.int .i64 0, .int .i64 0, .slice none 0 0, .slice none 0 0], 4⟩, ⟨some ⟨b2, 0, none⟩, 3, (by_.flatMap encI), ((shlK .i64 1 (IntKind.u64.wrap c.Qubits)).toNat) * 1⟩, ⟨some ⟨b3, 0, none⟩, 31, [.int .i64 c.Qubits, .int .i64 Phase, .slice none 0 0, .slice none 0 0], 4⟩, ⟨some ⟨b4, 0, none⟩, 29, [.slice B9 r_7.Rows.length c10], 1⟩, ⟨B4, 3, (Rows.flatMap encI), c5 * 1⟩, ⟨some ⟨b5, 0, none⟩, 48, [.int .i64 x.Kind, .int .i64 x.A, .int .i64 x.B], 3⟩, ⟨B7, 3, (r_5.Rows.flatMap encI), c8 * 1⟩, ⟨B8, 3, (r_6.Rows.flatMap encI), c9 * 1⟩, ⟨B9, 3, (r_7.Rows.flatMap encI), c10 * 1⟩] [⟨B, (c.Gates.flatMap enc_Gate)⟩] := hS26
                      refine ⟨(ST.sel hS26 [0, 1, 2, 4, 5] rfl rfl), ?_⟩
                      refine ra_done (by kernel_rfl) ?_
                      exact ⟨by_, Phase, r_7.Rows, B9, c10, (some_inj hF7), (FF.cons (hf.get 2 0 rfl) (FF.cons (hf.get 4 1 rfl) (FF.cons (hf.get 5 2 rfl) (FF.cons (hf.get 6 3 rfl) (FF.cons (hf.get 25 4 rfl) (FF.cons (hf.get 26 5 rfl) (FF.cons (hf.get 27 6 rfl) FF.nil))))))), hl, (hS26.sel [0, 1, 2, 3, 8] rfl rfl)⟩
                    exact allR_nil
                  exact allR_nil
                exact allR_nil
              exact allR_nil
            exact allR_nil
          · skip
            have hF8 := cf' hF6 hb3
            refine cw_seq ?_
            refine cw_region ?_
            refine sq 79 rfl rfl (Y_eq (k := .i64) (a := x.Kind) (b := 10) rfl rfl rfl) ?_
            refine sq 78 rfl rfl (Y_assign (v := .bool (x.Kind == 10)) rfl rfl) ?_
            refine rw_nil ?_
            refine cw_cond (b := (x.Kind == 10)) rfl (fun hb4 => ?_) (fun hb4 => ?_)
            · skip
              have hF9 := ct hF8 hb4
              refine cw_seq ?_
              refine cw_region ?_
              refine sq 80 rfl rfl (Y_move (v := .slice (some ⟨b2, 0, none⟩) ((shlK .i64 1 (IntKind.u64.wrap c.Qubits)).toNat) ((shlK .i64 1 (IntKind.u64.wrap c.Qubits)).toNat)) rfl (hf.get 4 1 rfl)) ?_
              refine sq 81 rfl rfl (Y_fieldAddr (B := some ⟨b4, 0, none⟩) (i := 0) (s := 0) k_fd_29_0_0_27 k_sz_27_1 rfl (hf.get 6 3 rfl)) ?_
              refine sq 82 rfl rfl (Y_load1 (B := some ⟨b4, 0, none⟩) (i := 0) (cs := [.slice B4 Rows.length c5]) (v := .slice B4 Rows.length c5) k_sc_27 rfl rfl (hS16.cf (i := 3) rfl) rfl) ?_
              refine sq 83 rfl rfl (Y_fieldAddr (B := some ⟨b5, 0, none⟩) (i := 0) (s := 0) k_fd_48_1_1_3 k_sz_3_1 rfl rfl) ?_
              refine sq 84 rfl rfl (Y_load1 (B := some ⟨b5, 0, none⟩) (i := 1) (cs := [.int .i64 x.Kind, .int .i64 x.A, .int .i64 x.B]) (v := .int .i64 x.A) k_sc_3 rfl rfl (hS16.cf (i := 5) rfl) rfl) ?_
              obtain ⟨x1, hx1, hF9⟩ := bind_inv hF9
              refine sq 85 rfl rfl (Y_index (B := B4) (m := Rows.length) (c := c5) (k := .i64) (i := x.A) k_sl_27_3 k_sz_3_1 rfl rfl rfl (gi_isSome encI_len rfl (hS16.cf (i := 4) rfl) hx1) (getI_nn hx1) (getI_ltI hx1 rfl)) ?_
              refine sq 86 rfl rfl (Y_load1 (B := B4) (i := x.A.toNat * 1) (cs := (Rows.flatMap encI)) (v := .int .i64 x1) k_sc_3 rfl rfl (hS16.cf (i := 4) rfl) (gi_at0 encI_len hx1 rfl)) ?_
              obtain ⟨x2, hx2, hF9⟩ := bind_inv hF9
              refine sq 87 rfl rfl (Y_index (B := some ⟨b2, 0, none⟩) (m := (shlK .i64 1 (IntKind.u64.wrap c.Qubits)).toNat) (c := (shlK .i64 1 (IntKind.u64.wrap c.Qubits)).toNat) (k := .i64) (i := x1) k_sl_27_3 k_sz_3_1 rfl rfl rfl (gi_isSome encI_len rfl (hS16.cf (i := 1) rfl) hx2) (getI_nn hx2) (getI_ltI hx2 hl)) ?_
              refine sq 88 rfl rfl (Y_load1 (B := some ⟨b2, 0, none⟩) (i := x1.toNat * 1) (cs := (by_.flatMap encI)) (v := .int .i64 x2) k_sc_3 rfl rfl (hS16.cf (i := 1) rfl) (gi_at0 encI_len hx2 rfl)) ?_
              refine sq 89 rfl rfl (Y_add (k := .i64) (a := x2) (b := 2) rfl rfl rfl) ?_
              refine sq 90 rfl rfl (Y_index (B := some ⟨b2, 0, none⟩) (m := (shlK .i64 1 (IntKind.u64.wrap c.Qubits)).toNat) (c := (shlK .i64 1 (IntKind.u64.wrap c.Qubits)).toNat) (k := .i64) (i := x1) k_sl_27_3 k_sz_3_1 rfl rfl rfl (gi_isSome encI_len rfl (hS16.cf (i := 1) rfl) hx2) (getI_nn hx2) (getI_ltI hx2 hl)) ?_
              refine ss0 rfl rfl (Ys_store (i := 1) (s := 1) (B := some ⟨b2, 0, none⟩) (T' := 3) (v := .int .i64 (IntKind.i64.wrap (x2 + 2))) (vs := [.int .i64 (IntKind.i64.wrap (x2 + 2))]) (k := x1.toNat * 1) (cs' := ((by_.set x1.toNat (IntKind.i64.wrap (x2 + 2))).flatMap encI)) hS16 k_sz_3_1 rfl rfl rfl rfl rfl rfl rfl (gi_fit0 encI_len hx2) (gi_set encI_len hx2 (IntKind.i64.wrap (x2 + 2)) rfl) rfl) ?_
              rintro _ w_18 ⟨rfl, hS27⟩
              have hS27 : ST w0 [] _ [⟨some ⟨b1, 0, none⟩, 31, [.int .i64 0, .int .i64 0, .slice none 0 0, .slice none 0 0], 4⟩, ⟨some ⟨b2, 0, none⟩, 3, ((by_.set x1.toNat (IntKind.i64.wrap (x2 + 2))).flatMap encI), ((shlK .i64 1 (IntKind.u64.wrap c.Qubits)).toNat) * 1⟩, ⟨some ⟨b3, 0, none⟩, 31, [.int .i64 c.Qubits, .int .i64 Phase, .slice none 0 0, .slice none 0 0], 4⟩, ⟨some ⟨b4, 0, none⟩, 29, [.slice B4 Rows.length c5], 1⟩, ⟨B4, 3, (Rows.flatMap encI), c5 * 1⟩, ⟨some ⟨b5, 0, none⟩, 48, [.int .i64 x.Kind, .int .i64 x.A, .int .i64 x.B], 3⟩] [⟨B, (c.Gates.flatMap enc_Gate)⟩] := hS27
              refine rw_nil ?_
              refine cw_seq ?_
              refine cw_region ?_
              refine sq 91 rfl rfl (Y_move (v := .slice (some ⟨b2, 0, none⟩) ((shlK .i64 1 (IntKind.u64.wrap c.Qubits)).toNat) ((shlK .i64 1 (IntKind.u64.wrap c.Qubits)).toNat)) rfl (hf.get 4 1 rfl)) ?_
              refine sq 92 rfl rfl (Y_fieldAddr (B := some ⟨b4, 0, none⟩) (i := 0) (s := 0) k_fd_29_0_0_27 k_sz_27_1 rfl (hf.get 6 3 rfl)) ?_
              refine sq 93 rfl rfl (Y_load1 (B := some ⟨b4, 0, none⟩) (i := 0) (cs := [.slice B4 Rows.length c5]) (v := .slice B4 Rows.length c5) k_sc_27 rfl rfl (hS27.cf (i := 3) rfl) rfl) ?_
              refine sq 94 rfl rfl (Y_fieldAddr (B := some ⟨b5, 0, none⟩) (i := 0) (s := 0) k_fd_48_2_2_3 k_sz_3_1 rfl rfl) ?_
              refine sq 95 rfl rfl (Y_load1 (B := some ⟨b5, 0, none⟩) (i := 2) (cs := [.int .i64 x.Kind, .int .i64 x.A, .int .i64 x.B]) (v := .int .i64 x.B) k_sc_3 rfl rfl (hS27.cf (i := 5) rfl) rfl) ?_
              obtain ⟨x3, hx3, hF9⟩ := bind_inv hF9
              refine sq 96 rfl rfl (Y_index (B := B4) (m := Rows.length) (c := c5) (k := .i64) (i := x.B) k_sl_27_3 k_sz_3_1 rfl rfl rfl (gi_isSome encI_len rfl (hS27.cf (i := 4) rfl) hx3) (getI_nn hx3) (getI_ltI hx3 rfl)) ?_
              refine sq 97 rfl rfl (Y_load1 (B := B4) (i := x.B.toNat * 1) (cs := (Rows.flatMap encI)) (v := .int .i64 x3) k_sc_3 rfl rfl (hS27.cf (i := 4) rfl) (gi_at0 encI_len hx3 rfl)) ?_
              obtain ⟨x4, hx4, hF9⟩ := bind_inv hF9
              refine sq 98 rfl rfl (Y_index (B := some ⟨b2, 0, none⟩) (m := (shlK .i64 1 (IntKind.u64.wrap c.Qubits)).toNat) (c := (shlK .i64 1 (IntKind.u64.wrap c.Qubits)).toNat) (k := .i64) (i := x3) k_sl_27_3 k_sz_3_1 rfl rfl rfl (gi_isSome encI_len rfl (hS27.cf (i := 1) rfl) hx4) (getI_nn hx4) (getI_ltI hx4 (set_len _ _ _ hl))) ?_
              refine sq 99 rfl rfl (Y_load1 (B := some ⟨b2, 0, none⟩) (i := x3.toNat * 1) (cs := ((by_.set x1.toNat (IntKind.i64.wrap (x2 + 2))).flatMap encI)) (v := .int .i64 x4) k_sc_3 rfl rfl (hS27.cf (i := 1) rfl) (gi_at0 encI_len hx4 rfl)) ?_
              refine sq 100 rfl rfl (Y_add (k := .i64) (a := x4) (b := 2) rfl rfl rfl) ?_
              refine sq 101 rfl rfl (Y_index (B := some ⟨b2, 0, none⟩) (m := (shlK .i64 1 (IntKind.u64.wrap c.Qubits)).toNat) (c := (shlK .i64 1 (IntKind.u64.wrap c.Qubits)).toNat) (k := .i64) (i := x3) k_sl_27_3 k_sz_3_1 rfl rfl rfl (gi_isSome encI_len rfl (hS27.cf (i := 1) rfl) hx4) (getI_nn hx4) (getI_ltI hx4 (set_len _ _ _ hl))) ?_
              refine ss0 rfl rfl (Ys_store (i := 1) (s := 1) (B := some ⟨b2, 0, none⟩) (T' := 3) (v := .int .i64 (IntKind.i64.wrap (x4 + 2))) (vs := [.int .i64 (IntKind.i64.wrap (x4 + 2))]) (k := x3.toNat * 1) (cs' := (((by_.set x1.toNat (IntKind.i64.wrap (x2 + 2))).set x3.toNat (IntKind.i64.wrap (x4 + 2))).flatMap encI)) hS27 k_sz_3_1 rfl rfl rfl rfl rfl rfl rfl (gi_fit0 encI_len hx4) (gi_set encI_len hx4 (IntKind.i64.wrap (x4 + 2)) rfl) rfl) ?_
              rintro _ w_19 ⟨rfl, hS28⟩
              have hS28 : ST w0 [] _ [⟨some ⟨b1, 0, none⟩, 31, [.int .i64 0, .int .i64 0, .slice none 0 0, .slice none 0 0], 4⟩, ⟨some ⟨b2, 0, none⟩, 3, (((by_.set x1.toNat (IntKind.i64.wrap (x2 + 2))).set x3.toNat (IntKind.i64.wrap (x4 + 2))).flatMap encI), ((shlK .i64 1 (IntKind.u64.wrap c.Qubits)).toNat) * 1⟩, ⟨some ⟨b3, 0, none⟩, 31, [.int .i64 c.Qubits, .int .i64 Phase, .slice none 0 0, .slice none 0 0], 4⟩, ⟨some ⟨b4, 0, none⟩, 29, [.slice B4 Rows.length c5], 1⟩, ⟨B4, 3, (Rows.flatMap encI), c5 * 1⟩, ⟨some ⟨b5, 0, none⟩, 48, [.int .i64 x.Kind, .int .i64 x.A, .int .i64 x.B], 3⟩] [⟨B, (c.Gates.flatMap enc_Gate)⟩] := hS28
              refine rw_nil ?_
              obtain ⟨x5, hx5, hF9⟩ := bind_inv hF9
              refine ra_start (ST.sel hS28 [0, 2, 3, 4, 5] rfl rfl).fn (by kernel_rfl) ?_
              have hS29 := hS28.drew
              refine ra_q 0 102 (v := .slice (some ⟨b2, 0, none⟩) ((shlK .i64 1 (IntKind.u64.wrap c.Qubits)).toNat) ((shlK .i64 1 (IntKind.u64.wrap c.Qubits)).toNat)) rfl rfl rfl (by kernel_rfl) (by kernel_rfl) (by kernel_rfl) (ST.sel hS29 [0, 2, 3, 4, 5] rfl rfl) (fun w' hw' => (Y_move (v := .slice (some ⟨b2, 0, none⟩) ((shlK .i64 1 (IntKind.u64.wrap c.Qubits)).toNat) ((shlK .i64 1 (IntKind.u64.wrap c.Qubits)).toNat)) rfl (hf.get 4 1 rfl))) ?_
              refine ra_q 1 103 (v := pt (some ⟨b4, 0, none⟩) 0) rfl rfl rfl (by kernel_rfl) (by kernel_rfl) (by kernel_rfl) (ST.sel hS29 [0, 2, 3, 4, 5] rfl rfl) (fun w' hw' => (Y_fieldAddr (B := some ⟨b4, 0, none⟩) (i := 0) (s := 0) k_fd_29_0_0_27 k_sz_27_1 rfl (hf.get 6 3 rfl))) ?_
              refine ra_q 2 104 (v := .slice B4 Rows.length c5) rfl rfl rfl (by kernel_rfl) (by kernel_rfl) (by kernel_rfl) (ST.sel hS29 [0, 2, 3, 4, 5] rfl rfl) (fun w' hw' => (Y_load1 (B := some ⟨b4, 0, none⟩) (i := 0) (cs := [.slice B4 Rows.length c5]) (v := .slice B4 Rows.length c5) k_sc_27 rfl rfl (ST.cf hw' (i := 2) rfl) rfl)) ?_
              refine ra_q 3 105 (v := pt (some ⟨b5, 0, none⟩) 1) rfl rfl rfl (by kernel_rfl) (by kernel_rfl) (by kernel_rfl) (ST.sel hS29 [0, 2, 3, 4, 5] rfl rfl) (fun w' hw' => (Y_fieldAddr (B := some ⟨b5, 0, none⟩) (i := 0) (s := 0) k_fd_48_1_1_3 k_sz_3_1 rfl rfl)) ?_
              refine ra_q 4 106 (v := .int .i64 x.A) rfl rfl rfl (by kernel_rfl) (by kernel_rfl) (by kernel_rfl) (ST.sel hS29 [0, 2, 3, 4, 5] rfl rfl) (fun w' hw' => (Y_load1 (B := some ⟨b5, 0, none⟩) (i := 1) (cs := [.int .i64 x.Kind, .int .i64 x.A, .int .i64 x.B]) (v := .int .i64 x.A) k_sc_3 rfl rfl (ST.cf hw' (i := 4) rfl) rfl)) ?_
              refine ra_q 5 107 (v := pt B4 (x.A.toNat * 1)) rfl rfl rfl (by kernel_rfl) (by kernel_rfl) (by kernel_rfl) (ST.sel hS29 [0, 2, 3, 4, 5] rfl rfl) (fun w' hw' => (Y_index (B := B4) (m := Rows.length) (c := c5) (k := .i64) (i := x.A) k_sl_27_3 k_sz_3_1 rfl rfl rfl (gi_isSome encI_len rfl (ST.cf hw' (i := 3) rfl) hx1) (getI_nn hx1) (getI_ltI hx1 rfl))) ?_
              refine ra_q 6 108 (v := .int .i64 x1) rfl rfl rfl (by kernel_rfl) (by kernel_rfl) (by kernel_rfl) (ST.sel hS29 [0, 2, 3, 4, 5] rfl rfl) (fun w' hw' => (Y_load1 (B := B4) (i := x.A.toNat * 1) (cs := (Rows.flatMap encI)) (v := .int .i64 x1) k_sc_3 rfl rfl (ST.cf hw' (i := 3) rfl) (gi_at0 encI_len hx1 rfl))) ?_
              refine ra_q 7 109 (v := pt (some ⟨b4, 0, none⟩) 0) rfl rfl rfl (by kernel_rfl) (by kernel_rfl) (by kernel_rfl) (ST.sel hS29 [0, 2, 3, 4, 5] rfl rfl) (fun w' hw' => (Y_fieldAddr (B := some ⟨b4, 0, none⟩) (i := 0) (s := 0) k_fd_29_0_0_27 k_sz_27_1 rfl (hf.get 6 3 rfl))) ?_
              refine ra_q 8 110 (v := .slice B4 Rows.length c5) rfl rfl rfl (by kernel_rfl) (by kernel_rfl) (by kernel_rfl) (ST.sel hS29 [0, 2, 3, 4, 5] rfl rfl) (fun w' hw' => (Y_load1 (B := some ⟨b4, 0, none⟩) (i := 0) (cs := [.slice B4 Rows.length c5]) (v := .slice B4 Rows.length c5) k_sc_27 rfl rfl (ST.cf hw' (i := 2) rfl) rfl)) ?_
              refine ra_q 9 111 (v := pt (some ⟨b5, 0, none⟩) 2) rfl rfl rfl (by kernel_rfl) (by kernel_rfl) (by kernel_rfl) (ST.sel hS29 [0, 2, 3, 4, 5] rfl rfl) (fun w' hw' => (Y_fieldAddr (B := some ⟨b5, 0, none⟩) (i := 0) (s := 0) k_fd_48_2_2_3 k_sz_3_1 rfl rfl)) ?_
              refine ra_q 10 112 (v := .int .i64 x.B) rfl rfl rfl (by kernel_rfl) (by kernel_rfl) (by kernel_rfl) (ST.sel hS29 [0, 2, 3, 4, 5] rfl rfl) (fun w' hw' => (Y_load1 (B := some ⟨b5, 0, none⟩) (i := 2) (cs := [.int .i64 x.Kind, .int .i64 x.A, .int .i64 x.B]) (v := .int .i64 x.B) k_sc_3 rfl rfl (ST.cf hw' (i := 4) rfl) rfl)) ?_
              refine ra_q 11 113 (v := pt B4 (x.B.toNat * 1)) rfl rfl rfl (by kernel_rfl) (by kernel_rfl) (by kernel_rfl) (ST.sel hS29 [0, 2, 3, 4, 5] rfl rfl) (fun w' hw' => (Y_index (B := B4) (m := Rows.length) (c := c5) (k := .i64) (i := x.B) k_sl_27_3 k_sz_3_1 rfl rfl rfl (gi_isSome encI_len rfl (ST.cf hw' (i := 3) rfl) hx3) (getI_nn hx3) (getI_ltI hx3 rfl))) ?_
              refine ra_q 12 114 (v := .int .i64 x3) rfl rfl rfl (by kernel_rfl) (by kernel_rfl) (by kernel_rfl) (ST.sel hS29 [0, 2, 3, 4, 5] rfl rfl) (fun w' hw' => (Y_load1 (B := B4) (i := x.B.toNat * 1) (cs := (Rows.flatMap encI)) (v := .int .i64 x3) k_sc_3 rfl rfl (ST.cf hw' (i := 3) rfl) (gi_at0 encI_len hx3 rfl))) ?_
              refine ra_q 13 115 (v := .int .i64 (bits .xor .i64 x1 x3)) rfl rfl rfl (by kernel_rfl) (by kernel_rfl) (by kernel_rfl) (ST.sel hS29 [0, 2, 3, 4, 5] rfl rfl) (fun w' hw' => (Y_bxor (k := .i64) (a := x1) (b := x3) rfl rfl rfl)) ?_
              refine ra_all (rs := [14]) (by kernel_rfl) rfl ?_
              refine ra_y 116 (i := 14) (v := pt (some ⟨b2, 0, none⟩) ((bits .xor .i64 x1 x3).toNat * 1)) rfl rfl rfl (Y_index (B := some ⟨b2, 0, none⟩) (m := (shlK .i64 1 (IntKind.u64.wrap c.Qubits)).toNat) (c := (shlK .i64 1 (IntKind.u64.wrap c.Qubits)).toNat) (k := .i64) (i := (bits .xor .i64 x1 x3)) k_sl_27_3 k_sz_3_1 rfl rfl rfl (gi_isSome encI_len rfl (hS29.cf (i := 1) rfl) hx5) (getI_nn hx5) (getI_ltI hx5 (set_len _ _ _ (set_len _ _ _ hl)))) (ST.sel hS29 [0, 2, 3, 4, 5] rfl rfl) ?_ ?_
              · skip
                refine ra_all (rs := [15]) (by kernel_rfl) rfl ?_
                refine ra_y 117 (i := 15) (v := .int .i64 x5) rfl rfl rfl (Y_load1 (B := some ⟨b2, 0, none⟩) (i := (bits .xor .i64 x1 x3).toNat * 1) (cs := (((by_.set x1.toNat (IntKind.i64.wrap (x2 + 2))).set x3.toNat (IntKind.i64.wrap (x4 + 2))).flatMap encI)) (v := .int .i64 x5) k_sc_3 rfl rfl (hS29.cf (i := 1) rfl) (gi_at0 encI_len hx5 rfl)) (ST.sel hS29 [0, 2, 3, 4, 5] rfl rfl) ?_ ?_
                · skip
                  refine ra_q 16 118 (v := .int .i64 (IntKind.i64.wrap (x5 + 6))) rfl rfl rfl (by kernel_rfl) (by kernel_rfl) (by kernel_rfl) (ST.sel hS29 [0, 2, 3, 4, 5] rfl rfl) (fun w' hw' => (Y_add (k := .i64) (a := x5) (b := 6) rfl rfl rfl)) ?_
                  refine ra_all (rs := [17]) (by kernel_rfl) rfl ?_
                  refine ra_y 119 (i := 17) (v := pt (some ⟨b2, 0, none⟩) ((bits .xor .i64 x1 x3).toNat * 1)) rfl rfl rfl (Y_index (B := some ⟨b2, 0, none⟩) (m := (shlK .i64 1 (IntKind.u64.wrap c.Qubits)).toNat) (c := (shlK .i64 1 (IntKind.u64.wrap c.Qubits)).toNat) (k := .i64) (i := (bits .xor .i64 x1 x3)) k_sl_27_3 k_sz_3_1 rfl rfl rfl (gi_isSome encI_len rfl (hS29.cf (i := 1) rfl) hx5) (getI_nn hx5) (getI_ltI hx5 (set_len _ _ _ (set_len _ _ _ hl)))) (ST.sel hS29 [0, 2, 3, 4, 5] rfl rfl) ?_ ?_
                  · skip
                    refine ra_all (rs := [18]) (by kernel_rfl) rfl ?_
                    refine ra_s0 (i := 18) rfl rfl rfl (Ys_store (i := 1) (s := 1) (B := some ⟨b2, 0, none⟩) (T' := 3) (v := .int .i64 (IntKind.i64.wrap (x5 + 6))) (vs := [.int .i64 (IntKind.i64.wrap (x5 + 6))]) (k := (bits .xor .i64 x1 x3).toNat * 1) (cs' := ((((by_.set x1.toNat (IntKind.i64.wrap (x2 + 2))).set x3.toNat (IntKind.i64.wrap (x4 + 2))).set (bits .xor .i64 x1 x3).toNat (IntKind.i64.wrap (x5 + 6))).flatMap encI)) hS29 k_sz_3_1 rfl rfl rfl rfl rfl rfl rfl (gi_fit0 encI_len hx5) (gi_set encI_len hx5 (IntKind.i64.wrap (x5 + 6)) rfl) rfl) ?_ ?_
                    · rintro _ w_20 ⟨rfl, hS30⟩
                      have hS30 : ST w0 [] _ [⟨some ⟨b1, 0, none⟩, 31, [.int .i64 0, .int .i64 0, .slice none 0 0, .slice none 0 0], 4⟩, ⟨some ⟨b2, 0, none⟩, 3, ((((by_.set x1.toNat (IntKind.i64.wrap (x2 + 2))).set x3.toNat (IntKind.i64.wrap (x4 + 2))).set (bits .xor .i64 x1 x3).toNat (IntKind.i64.wrap (x5 + 6))).flatMap encI), ((shlK .i64 1 (IntKind.u64.wrap c.Qubits)).toNat) * 1⟩, ⟨some ⟨b3, 0, none⟩, 31, [.int .i64 c.Qubits, .int .i64 Phase, .slice none 0 0, .slice none 0 0], 4⟩, ⟨some ⟨b4, 0, none⟩, 29, [.slice B4 Rows.length c5], 1⟩, ⟨B4, 3, (Rows.flatMap encI), c5 * 1⟩, ⟨some ⟨b5, 0, none⟩, 48, [.int .i64 x.Kind, .int .i64 x.A, .int .i64 x.B], 3⟩] [⟨B, (c.Gates.flatMap enc_Gate)⟩] := hS30
                      refine ⟨(ST.sel hS30 [0, 2, 3, 4, 5] rfl rfl), ?_⟩
                      refine ra_done (by kernel_rfl) ?_
                      exact ⟨(((by_.set x1.toNat (IntKind.i64.wrap (x2 + 2))).set x3.toNat (IntKind.i64.wrap (x4 + 2))).set (bits .xor .i64 x1 x3).toNat (IntKind.i64.wrap (x5 + 6))), Phase, Rows, B4, c5, (some_inj hF9), (FF.cons (hf.get 2 0 rfl) (FF.cons (hf.get 4 1 rfl) (FF.cons (hf.get 5 2 rfl) (FF.cons (hf.get 6 3 rfl) (FF.cons (hf.get 25 4 rfl) (FF.cons (hf.get 26 5 rfl) (FF.cons (hf.get 27 6 rfl) FF.nil))))))), (set_len _ _ _ (set_len _ _ _ (set_len _ _ _ hl))), (hS30.sel [0, 1, 2, 3, 4] rfl rfl)⟩
                    exact allR_nil
                  exact allR_nil
                exact allR_nil
              exact allR_nil
            · skip
              have hF10 := cf' hF8 hb4
              refine cw_seq ?_
              refine cw_region ?_
              refine sq 121 rfl rfl (Y_eq (k := .i64) (a := x.Kind) (b := 12) rfl rfl rfl) ?_
              refine sq 120 rfl rfl (Y_assign (v := .bool (x.Kind == 12)) rfl rfl) ?_
              refine rw_nil ?_
              refine cw_cond (b := (x.Kind == 12)) rfl (fun hb5 => ?_) (fun hb5 => ?_)
              · skip
                have hF11 := ct hF10 hb5
                refine cw_region ?_
                refine sq 122 rfl rfl (Y_fieldAddr (B := some ⟨b3, 0, none⟩) (i := 0) (s := 0) k_fd_31_1_1_3 k_sz_3_1 rfl (hf.get 5 2 rfl)) ?_
                refine sq 123 rfl rfl (Y_load1 (B := some ⟨b3, 0, none⟩) (i := 1) (cs := [.int .i64 c.Qubits, .int .i64 Phase, .slice none 0 0, .slice none 0 0]) (v := .int .i64 Phase) k_sc_3 rfl rfl (hS16.cf (i := 2) rfl) rfl) ?_
                refine sq 124 rfl rfl (Y_add (k := .i64) (a := Phase) (b := 1) rfl rfl rfl) ?_
                refine sq 125 rfl rfl (Y_rem (k := .i64) (a := (IntKind.i64.wrap (Phase + 1))) (b := 8) rfl rfl rfl (by decide)) ?_
                refine sq 126 rfl rfl (Y_fieldAddr (B := some ⟨b3, 0, none⟩) (i := 0) (s := 0) k_fd_31_1_1_3 k_sz_3_1 rfl (hf.get 5 2 rfl)) ?_
                refine ss0 rfl rfl (Ys_store (i := 2) (s := 1) (B := some ⟨b3, 0, none⟩) (T' := 31) (v := .int .i64 (Int.tmod (IntKind.i64.wrap (Phase + 1)) 8)) (vs := [.int .i64 (Int.tmod (IntKind.i64.wrap (Phase + 1)) 8)]) (k := 1) (cs' := [.int .i64 c.Qubits, .int .i64 (Int.tmod (IntKind.i64.wrap (Phase + 1)) 8), .slice none 0 0, .slice none 0 0]) hS16 k_sz_3_1 rfl rfl rfl rfl rfl rfl rfl (Nat.le_of_ble_eq_true rfl) rfl rfl) ?_
                rintro _ w_21 ⟨rfl, hS31⟩
                have hS31 : ST w0 [] _ [⟨some ⟨b1, 0, none⟩, 31, [.int .i64 0, .int .i64 0, .slice none 0 0, .slice none 0 0], 4⟩, ⟨some ⟨b2, 0, none⟩, 3, (by_.flatMap encI), ((shlK .i64 1 (IntKind.u64.wrap c.Qubits)).toNat) * 1⟩, ⟨some ⟨b3, 0, none⟩, 31, [.int .i64 c.Qubits, .int .i64 (Int.tmod (IntKind.i64.wrap (Phase + 1)) 8), .slice none 0 0, .slice none 0 0], 4⟩, ⟨some ⟨b4, 0, none⟩, 29, [.slice B4 Rows.length c5], 1⟩, ⟨B4, 3, (Rows.flatMap encI), c5 * 1⟩, ⟨some ⟨b5, 0, none⟩, 48, [.int .i64 x.Kind, .int .i64 x.A, .int .i64 x.B], 3⟩] [⟨B, (c.Gates.flatMap enc_Gate)⟩] := hS31
                refine rw_nil ?_
                exact ⟨by_, (Int.tmod (IntKind.i64.wrap (Phase + 1)) 8), Rows, B4, c5, (some_inj hF11), (FF.cons (hf.get 2 0 rfl) (FF.cons (hf.get 4 1 rfl) (FF.cons (hf.get 5 2 rfl) (FF.cons (hf.get 6 3 rfl) (FF.cons (hf.get 25 4 rfl) (FF.cons (hf.get 26 5 rfl) (FF.cons (hf.get 27 6 rfl) FF.nil))))))), hl, (hS31.sel [0, 1, 2, 3, 4] rfl rfl)⟩
              · skip
                have hF12 := cf' hF10 hb5
                refine cw_seq ?_
                refine cw_seq ?_
                refine cw_region ?_
                refine sq 33 rfl rfl (Y_fieldAddr (B := some ⟨b5, 0, none⟩) (i := 0) (s := 0) k_fd_48_0_0_3 k_sz_3_1 rfl rfl) ?_
                refine sq 34 rfl rfl (Y_load1 (B := some ⟨b5, 0, none⟩) (i := 0) (cs := [.int .i64 x.Kind, .int .i64 x.A, .int .i64 x.B]) (v := .int .i64 x.Kind) k_sc_3 rfl rfl (hS16.cf (i := 5) rfl) rfl) ?_
                obtain ⟨r_8, hc6, hF12⟩ := bind_inv hF12
                refine sc 35 rfl rfl (Yc_func (g := 17) (vs := [.int .i64 x.Kind]) k_call_17 rfl (mc rfl mn) (c_spec_l13Coef x.Kind _  (hS16.inn0 [] rfl) hc6)) ?_
                rintro _ w_22 ⟨rfl, hd6⟩
                have hS32 := hS16.out00 hd6
                have hS32 : ST w0 [] _ [⟨some ⟨b1, 0, none⟩, 31, [.int .i64 0, .int .i64 0, .slice none 0 0, .slice none 0 0], 4⟩, ⟨some ⟨b2, 0, none⟩, 3, (by_.flatMap encI), ((shlK .i64 1 (IntKind.u64.wrap c.Qubits)).toNat) * 1⟩, ⟨some ⟨b3, 0, none⟩, 31, [.int .i64 c.Qubits, .int .i64 Phase, .slice none 0 0, .slice none 0 0], 4⟩, ⟨some ⟨b4, 0, none⟩, 29, [.slice B4 Rows.length c5], 1⟩, ⟨B4, 3, (Rows.flatMap encI), c5 * 1⟩, ⟨some ⟨b5, 0, none⟩, 48, [.int .i64 x.Kind, .int .i64 x.A, .int .i64 x.B], 3⟩] [⟨B, (c.Gates.flatMap enc_Gate)⟩] := hS32
                refine sq 36 rfl rfl (Y_eq (k := .i64) (a := r_8) (b := 0) rfl rfl rfl) ?_
                refine rw_nil ?_
                refine cw_cond (b := (r_8 == 0)) rfl (fun hb6 => ?_) (fun hb6 => ?_)
                · skip
                  have hF13 := ct hF12 hb6
                  refine cw_seq ?_
                  refine cw_region ?_
                  refine sq 37 rfl rfl (Y_buildS (zs := [.int .i64 0, .int .i64 0, .slice none 0 0, .slice none 0 0]) (vs := []) (cs := [.int .i64 0, .int .i64 0, .slice none 0 0, .slice none 0 0]) k_pl_31 k_zero_31 rfl mpn rfl) ?_
                  refine ss0 rfl rfl (Ys_store (i := 0) (s := 4) (B := some ⟨b1, 0, none⟩) (T' := 31) (v := .agg #[.int .i64 0, .int .i64 0, .slice none 0 0, .slice none 0 0]) (vs := [.int .i64 0, .int .i64 0, .slice none 0 0, .slice none 0 0]) (k := 0) (cs' := [.int .i64 0, .int .i64 0, .slice none 0 0, .slice none 0 0]) hS32 k_sz_31_4 rfl (hf.get 2 0 rfl) rfl rfl rfl rfl rfl (Nat.le_of_ble_eq_true rfl) rfl rfl) ?_
                  rintro _ w_23 ⟨rfl, hS33⟩
                  have hS33 : ST w0 [] _ [⟨some ⟨b1, 0, none⟩, 31, [.int .i64 0, .int .i64 0, .slice none 0 0, .slice none 0 0], 4⟩, ⟨some ⟨b2, 0, none⟩, 3, (by_.flatMap encI), ((shlK .i64 1 (IntKind.u64.wrap c.Qubits)).toNat) * 1⟩, ⟨some ⟨b3, 0, none⟩, 31, [.int .i64 c.Qubits, .int .i64 Phase, .slice none 0 0, .slice none 0 0], 4⟩, ⟨some ⟨b4, 0, none⟩, 29, [.slice B4 Rows.length c5], 1⟩, ⟨B4, 3, (Rows.flatMap encI), c5 * 1⟩, ⟨some ⟨b5, 0, none⟩, 48, [.int .i64 x.Kind, .int .i64 x.A, .int .i64 x.B], 3⟩] [⟨B, (c.Gates.flatMap enc_Gate)⟩] := hS33
                  refine sq 3 rfl rfl (Y_assign (v := .bool false) rfl rfl) ?_
                  refine rw_nil ?_
                  refine cw_ret ?_
                  have hS34 := hS33.addNil 67
                  have hS35 := hS34.addNil 3
                  obtain rfl := some_inj hF13
                  obtain rfl := some_inj hF4
                  obtain rfl := some_inj hL1
                  obtain ⟨rfl, rfl⟩ := pr2 (some_inj hF3)
                  exact ret2 Try.results5 (v1 := .agg #[.int .i64 0, .int .i64 0, .slice none 0 0, .slice none 0 0]) (resAt_cellA (B := some ⟨b1, 0, none⟩) (i := 0) (cs := [.int .i64 0, .int .i64 0, .slice none 0 0, .slice none 0 0]) (vs := [.int .i64 0, .int .i64 0, .slice none 0 0, .slice none 0 0]) (hf.get 2 0 rfl) k_ag_31 k_sz_31_4 (hS35.cf (i := 0) rfl) rfl rfl) (v2 := .bool false) (resAt_tmp rfl) ⟨none, 0, none, 0, rfl, (ST.subR (R' := []) (hS35.sel [6, 7] rfl rfl) (fun _ h => by cases h))⟩
                · skip
                  have hF14 := cf' hF12 hb6
                  refine cw_skip ?_
                  obtain ⟨x6, hx6, hF14⟩ := bind_inv hF14
                  obtain ⟨x7, hx7, hF14⟩ := bind_inv hF14
                  obtain ⟨r_9, hc7, hF14⟩ := bind_inv hF14
                  refine cw_mid (fun f w => FF f [(2, pt (some ⟨b1, 0, none⟩) 0), (4, .slice (some ⟨b2, 0, none⟩) ((shlK .i64 1 (IntKind.u64.wrap c.Qubits)).toNat) ((shlK .i64 1 (IntKind.u64.wrap c.Qubits)).toNat)), (5, pt (some ⟨b3, 0, none⟩) 0), (6, pt (some ⟨b4, 0, none⟩) 0), (25, .slice B c.Gates.length c1), (26, .int .i64 (c.Gates.length : Int)), (27, .int .i64 (i : Int))] ∧ ST w0 [] w [⟨some ⟨b1, 0, none⟩, 31, [.int .i64 0, .int .i64 0, .slice none 0 0, .slice none 0 0], 4⟩, ⟨some ⟨b2, 0, none⟩, 3, ((by_.set x6.toNat (IntKind.i64.wrap (x7 + r_9))).flatMap encI), ((shlK .i64 1 (IntKind.u64.wrap c.Qubits)).toNat) * 1⟩, ⟨some ⟨b3, 0, none⟩, 31, [.int .i64 c.Qubits, .int .i64 Phase, .slice none 0 0, .slice none 0 0], 4⟩, ⟨some ⟨b4, 0, none⟩, 29, [.slice B4 Rows.length c5], 1⟩, ⟨B4, 3, (Rows.flatMap encI), c5 * 1⟩] [⟨B, (c.Gates.flatMap enc_Gate)⟩]) ?_ ?_
                  · skip
                    refine ra_start (ST.sel hS32 [0, 2, 3, 4, 5] rfl rfl).fn (by kernel_rfl) ?_
                    have hS38 := hS32.drew
                    refine ra_q 0 38 (v := .slice (some ⟨b2, 0, none⟩) ((shlK .i64 1 (IntKind.u64.wrap c.Qubits)).toNat) ((shlK .i64 1 (IntKind.u64.wrap c.Qubits)).toNat)) rfl rfl rfl (by kernel_rfl) (by kernel_rfl) (by kernel_rfl) (ST.sel hS38 [0, 2, 3, 4, 5] rfl rfl) (fun w' hw' => (Y_move (v := .slice (some ⟨b2, 0, none⟩) ((shlK .i64 1 (IntKind.u64.wrap c.Qubits)).toNat) ((shlK .i64 1 (IntKind.u64.wrap c.Qubits)).toNat)) rfl (hf.get 4 1 rfl))) ?_
                    refine ra_q 1 39 (v := pt (some ⟨b4, 0, none⟩) 0) rfl rfl rfl (by kernel_rfl) (by kernel_rfl) (by kernel_rfl) (ST.sel hS38 [0, 2, 3, 4, 5] rfl rfl) (fun w' hw' => (Y_fieldAddr (B := some ⟨b4, 0, none⟩) (i := 0) (s := 0) k_fd_29_0_0_27 k_sz_27_1 rfl (hf.get 6 3 rfl))) ?_
                    refine ra_q 2 40 (v := .slice B4 Rows.length c5) rfl rfl rfl (by kernel_rfl) (by kernel_rfl) (by kernel_rfl) (ST.sel hS38 [0, 2, 3, 4, 5] rfl rfl) (fun w' hw' => (Y_load1 (B := some ⟨b4, 0, none⟩) (i := 0) (cs := [.slice B4 Rows.length c5]) (v := .slice B4 Rows.length c5) k_sc_27 rfl rfl (ST.cf hw' (i := 2) rfl) rfl)) ?_
                    refine ra_q 3 41 (v := pt (some ⟨b5, 0, none⟩) 1) rfl rfl rfl (by kernel_rfl) (by kernel_rfl) (by kernel_rfl) (ST.sel hS38 [0, 2, 3, 4, 5] rfl rfl) (fun w' hw' => (Y_fieldAddr (B := some ⟨b5, 0, none⟩) (i := 0) (s := 0) k_fd_48_1_1_3 k_sz_3_1 rfl rfl)) ?_
                    refine ra_q 4 42 (v := .int .i64 x.A) rfl rfl rfl (by kernel_rfl) (by kernel_rfl) (by kernel_rfl) (ST.sel hS38 [0, 2, 3, 4, 5] rfl rfl) (fun w' hw' => (Y_load1 (B := some ⟨b5, 0, none⟩) (i := 1) (cs := [.int .i64 x.Kind, .int .i64 x.A, .int .i64 x.B]) (v := .int .i64 x.A) k_sc_3 rfl rfl (ST.cf hw' (i := 4) rfl) rfl)) ?_
                    refine ra_q 5 43 (v := pt B4 (x.A.toNat * 1)) rfl rfl rfl (by kernel_rfl) (by kernel_rfl) (by kernel_rfl) (ST.sel hS38 [0, 2, 3, 4, 5] rfl rfl) (fun w' hw' => (Y_index (B := B4) (m := Rows.length) (c := c5) (k := .i64) (i := x.A) k_sl_27_3 k_sz_3_1 rfl rfl rfl (gi_isSome encI_len rfl (ST.cf hw' (i := 3) rfl) hx6) (getI_nn hx6) (getI_ltI hx6 rfl))) ?_
                    refine ra_q 6 44 (v := .int .i64 x6) rfl rfl rfl (by kernel_rfl) (by kernel_rfl) (by kernel_rfl) (ST.sel hS38 [0, 2, 3, 4, 5] rfl rfl) (fun w' hw' => (Y_load1 (B := B4) (i := x.A.toNat * 1) (cs := (Rows.flatMap encI)) (v := .int .i64 x6) k_sc_3 rfl rfl (ST.cf hw' (i := 3) rfl) (gi_at0 encI_len hx6 rfl))) ?_
                    refine ra_q 9 47 (v := pt (some ⟨b5, 0, none⟩) 0) rfl rfl rfl (by kernel_rfl) (by kernel_rfl) (by kernel_rfl) (ST.sel hS38 [0, 2, 3, 4, 5] rfl rfl) (fun w' hw' => (Y_fieldAddr (B := some ⟨b5, 0, none⟩) (i := 0) (s := 0) k_fd_48_0_0_3 k_sz_3_1 rfl rfl)) ?_
                    refine ra_q 10 48 (v := .int .i64 x.Kind) rfl rfl rfl (by kernel_rfl) (by kernel_rfl) (by kernel_rfl) (ST.sel hS38 [0, 2, 3, 4, 5] rfl rfl) (fun w' hw' => (Y_load1 (B := some ⟨b5, 0, none⟩) (i := 0) (cs := [.int .i64 x.Kind, .int .i64 x.A, .int .i64 x.B]) (v := .int .i64 x.Kind) k_sc_3 rfl rfl (ST.cf hw' (i := 4) rfl) rfl)) ?_
                    refine ra_all (rs := [7, 11]) (by kernel_rfl) rfl ?_
                    refine ra_y 45 (i := 7) (v := pt (some ⟨b2, 0, none⟩) (x6.toNat * 1)) rfl rfl rfl (Y_index (B := some ⟨b2, 0, none⟩) (m := (shlK .i64 1 (IntKind.u64.wrap c.Qubits)).toNat) (c := (shlK .i64 1 (IntKind.u64.wrap c.Qubits)).toNat) (k := .i64) (i := x6) k_sl_27_3 k_sz_3_1 rfl rfl rfl (gi_isSome encI_len rfl (hS38.cf (i := 1) rfl) hx7) (getI_nn hx7) (getI_ltI hx7 hl)) (ST.sel hS38 [0, 2, 3, 4, 5] rfl rfl) ?_ ?_
                    · skip
                      refine ra_all (rs := [8, 11]) (by kernel_rfl) rfl ?_
                      refine ra_y 46 (i := 8) (v := .int .i64 x7) rfl rfl rfl (Y_load1 (B := some ⟨b2, 0, none⟩) (i := x6.toNat * 1) (cs := (by_.flatMap encI)) (v := .int .i64 x7) k_sc_3 rfl rfl (hS38.cf (i := 1) rfl) (gi_at0 encI_len hx7 rfl)) (ST.sel hS38 [0, 2, 3, 4, 5] rfl rfl) ?_ ?_
                      · skip
                        refine ra_all (rs := [11]) (by kernel_rfl) rfl ?_
                        refine ra_c 49 (i := 11) rfl rfl rfl (Yc_func (g := 17) (vs := [.int .i64 x.Kind]) k_call_17 rfl (mc rfl mn) (c_spec_l13Coef x.Kind _  (hS38.inn0 [] rfl) hc7)) ?_ ?_
                        · rintro _ w_24 ⟨rfl, hd7⟩
                          have hS39 := hS38.out00 hd7
                          have hS39 : ST w0 [] _ [⟨some ⟨b1, 0, none⟩, 31, [.int .i64 0, .int .i64 0, .slice none 0 0, .slice none 0 0], 4⟩, ⟨some ⟨b2, 0, none⟩, 3, (by_.flatMap encI), ((shlK .i64 1 (IntKind.u64.wrap c.Qubits)).toNat) * 1⟩, ⟨some ⟨b3, 0, none⟩, 31, [.int .i64 c.Qubits, .int .i64 Phase, .slice none 0 0, .slice none 0 0], 4⟩, ⟨some ⟨b4, 0, none⟩, 29, [.slice B4 Rows.length c5], 1⟩, ⟨B4, 3, (Rows.flatMap encI), c5 * 1⟩, ⟨some ⟨b5, 0, none⟩, 48, [.int .i64 x.Kind, .int .i64 x.A, .int .i64 x.B], 3⟩] [⟨B, (c.Gates.flatMap enc_Gate)⟩] := hS39
                          refine ⟨(ST.sel hS39 [0, 2, 3, 4, 5] rfl rfl), ?_⟩
                          refine ra_q 12 50 (v := .int .i64 (IntKind.i64.wrap (x7 + r_9))) rfl rfl rfl (by kernel_rfl) (by kernel_rfl) (by kernel_rfl) (ST.sel hS39 [0, 2, 3, 4, 5] rfl rfl) (fun w' hw' => (Y_add (k := .i64) (a := x7) (b := r_9) rfl rfl rfl)) ?_
                          refine ra_all (rs := [13]) (by kernel_rfl) rfl ?_
                          refine ra_y 51 (i := 13) (v := pt (some ⟨b2, 0, none⟩) (x6.toNat * 1)) rfl rfl rfl (Y_index (B := some ⟨b2, 0, none⟩) (m := (shlK .i64 1 (IntKind.u64.wrap c.Qubits)).toNat) (c := (shlK .i64 1 (IntKind.u64.wrap c.Qubits)).toNat) (k := .i64) (i := x6) k_sl_27_3 k_sz_3_1 rfl rfl rfl (gi_isSome encI_len rfl (hS39.cf (i := 1) rfl) hx7) (getI_nn hx7) (getI_ltI hx7 hl)) (ST.sel hS39 [0, 2, 3, 4, 5] rfl rfl) ?_ ?_
                          · skip
                            refine ra_all (rs := [14]) (by kernel_rfl) rfl ?_
                            refine ra_s0 (i := 14) rfl rfl rfl (Ys_store (i := 1) (s := 1) (B := some ⟨b2, 0, none⟩) (T' := 3) (v := .int .i64 (IntKind.i64.wrap (x7 + r_9))) (vs := [.int .i64 (IntKind.i64.wrap (x7 + r_9))]) (k := x6.toNat * 1) (cs' := ((by_.set x6.toNat (IntKind.i64.wrap (x7 + r_9))).flatMap encI)) hS39 k_sz_3_1 rfl rfl rfl rfl rfl rfl rfl (gi_fit0 encI_len hx7) (gi_set encI_len hx7 (IntKind.i64.wrap (x7 + r_9)) rfl) rfl) ?_ ?_
                            · rintro _ w_25 ⟨rfl, hS40⟩
                              have hS40 : ST w0 [] _ [⟨some ⟨b1, 0, none⟩, 31, [.int .i64 0, .int .i64 0, .slice none 0 0, .slice none 0 0], 4⟩, ⟨some ⟨b2, 0, none⟩, 3, ((by_.set x6.toNat (IntKind.i64.wrap (x7 + r_9))).flatMap encI), ((shlK .i64 1 (IntKind.u64.wrap c.Qubits)).toNat) * 1⟩, ⟨some ⟨b3, 0, none⟩, 31, [.int .i64 c.Qubits, .int .i64 Phase, .slice none 0 0, .slice none 0 0], 4⟩, ⟨some ⟨b4, 0, none⟩, 29, [.slice B4 Rows.length c5], 1⟩, ⟨B4, 3, (Rows.flatMap encI), c5 * 1⟩, ⟨some ⟨b5, 0, none⟩, 48, [.int .i64 x.Kind, .int .i64 x.A, .int .i64 x.B], 3⟩] [⟨B, (c.Gates.flatMap enc_Gate)⟩] := hS40
                              refine ⟨(ST.sel hS40 [0, 2, 3, 4, 5] rfl rfl), ?_⟩
                              refine ra_done (by kernel_rfl) ?_
                              exact ⟨(FF.cons (hf.get 2 0 rfl) (FF.cons (hf.get 4 1 rfl) (FF.cons (hf.get 5 2 rfl) (FF.cons (hf.get 6 3 rfl) (FF.cons (hf.get 25 4 rfl) (FF.cons (hf.get 26 5 rfl) (FF.cons (hf.get 27 6 rfl) FF.nil))))))), (hS40.sel [0, 1, 2, 3, 4] rfl rfl)⟩
                            exact allR_nil
                          exact allR_nil
                        exact allR_nil
                      refine ra_c 49 (i := 11) rfl rfl rfl (Yc_func (g := 17) (vs := [.int .i64 x.Kind]) k_call_17 rfl (mc rfl mn) (c_spec_l13Coef x.Kind _  (hS38.inn0 [] rfl) hc7)) ?_ ?_
                      · rintro _ w_26 ⟨rfl, hd8⟩
                        have hS41 := hS38.out00 hd8
                        have hS41 : ST w0 [] _ [⟨some ⟨b1, 0, none⟩, 31, [.int .i64 0, .int .i64 0, .slice none 0 0, .slice none 0 0], 4⟩, ⟨some ⟨b2, 0, none⟩, 3, (by_.flatMap encI), ((shlK .i64 1 (IntKind.u64.wrap c.Qubits)).toNat) * 1⟩, ⟨some ⟨b3, 0, none⟩, 31, [.int .i64 c.Qubits, .int .i64 Phase, .slice none 0 0, .slice none 0 0], 4⟩, ⟨some ⟨b4, 0, none⟩, 29, [.slice B4 Rows.length c5], 1⟩, ⟨B4, 3, (Rows.flatMap encI), c5 * 1⟩, ⟨some ⟨b5, 0, none⟩, 48, [.int .i64 x.Kind, .int .i64 x.A, .int .i64 x.B], 3⟩] [⟨B, (c.Gates.flatMap enc_Gate)⟩] := hS41
                        refine ⟨(ST.sel hS41 [0, 2, 3, 4, 5] rfl rfl), ?_⟩
                        refine ra_all (rs := [8]) (by kernel_rfl) rfl ?_
                        refine ra_y 46 (i := 8) (v := .int .i64 x7) rfl rfl rfl (Y_load1 (B := some ⟨b2, 0, none⟩) (i := x6.toNat * 1) (cs := (by_.flatMap encI)) (v := .int .i64 x7) k_sc_3 rfl rfl (hS41.cf (i := 1) rfl) (gi_at0 encI_len hx7 rfl)) (ST.sel hS41 [0, 2, 3, 4, 5] rfl rfl) ?_ ?_
                        · skip
                          refine ra_q 12 50 (v := .int .i64 (IntKind.i64.wrap (x7 + r_9))) rfl rfl rfl (by kernel_rfl) (by kernel_rfl) (by kernel_rfl) (ST.sel hS41 [0, 2, 3, 4, 5] rfl rfl) (fun w' hw' => (Y_add (k := .i64) (a := x7) (b := r_9) rfl rfl rfl)) ?_
                          refine ra_all (rs := [13]) (by kernel_rfl) rfl ?_
                          refine ra_y 51 (i := 13) (v := pt (some ⟨b2, 0, none⟩) (x6.toNat * 1)) rfl rfl rfl (Y_index (B := some ⟨b2, 0, none⟩) (m := (shlK .i64 1 (IntKind.u64.wrap c.Qubits)).toNat) (c := (shlK .i64 1 (IntKind.u64.wrap c.Qubits)).toNat) (k := .i64) (i := x6) k_sl_27_3 k_sz_3_1 rfl rfl rfl (gi_isSome encI_len rfl (hS41.cf (i := 1) rfl) hx7) (getI_nn hx7) (getI_ltI hx7 hl)) (ST.sel hS41 [0, 2, 3, 4, 5] rfl rfl) ?_ ?_
                          · skip
                            refine ra_all (rs := [14]) (by kernel_rfl) rfl ?_
                            refine ra_s0 (i := 14) rfl rfl rfl (Ys_store (i := 1) (s := 1) (B := some ⟨b2, 0, none⟩) (T' := 3) (v := .int .i64 (IntKind.i64.wrap (x7 + r_9))) (vs := [.int .i64 (IntKind.i64.wrap (x7 + r_9))]) (k := x6.toNat * 1) (cs' := ((by_.set x6.toNat (IntKind.i64.wrap (x7 + r_9))).flatMap encI)) hS41 k_sz_3_1 rfl rfl rfl rfl rfl rfl rfl (gi_fit0 encI_len hx7) (gi_set encI_len hx7 (IntKind.i64.wrap (x7 + r_9)) rfl) rfl) ?_ ?_
                            · rintro _ w_27 ⟨rfl, hS42⟩
                              have hS42 : ST w0 [] _ [⟨some ⟨b1, 0, none⟩, 31, [.int .i64 0, .int .i64 0, .slice none 0 0, .slice none 0 0], 4⟩, ⟨some ⟨b2, 0, none⟩, 3, ((by_.set x6.toNat (IntKind.i64.wrap (x7 + r_9))).flatMap encI), ((shlK .i64 1 (IntKind.u64.wrap c.Qubits)).toNat) * 1⟩, ⟨some ⟨b3, 0, none⟩, 31, [.int .i64 c.Qubits, .int .i64 Phase, .slice none 0 0, .slice none 0 0], 4⟩, ⟨some ⟨b4, 0, none⟩, 29, [.slice B4 Rows.length c5], 1⟩, ⟨B4, 3, (Rows.flatMap encI), c5 * 1⟩, ⟨some ⟨b5, 0, none⟩, 48, [.int .i64 x.Kind, .int .i64 x.A, .int .i64 x.B], 3⟩] [⟨B, (c.Gates.flatMap enc_Gate)⟩] := hS42
                              refine ⟨(ST.sel hS42 [0, 2, 3, 4, 5] rfl rfl), ?_⟩
                              refine ra_done (by kernel_rfl) ?_
                              exact ⟨(FF.cons (hf.get 2 0 rfl) (FF.cons (hf.get 4 1 rfl) (FF.cons (hf.get 5 2 rfl) (FF.cons (hf.get 6 3 rfl) (FF.cons (hf.get 25 4 rfl) (FF.cons (hf.get 26 5 rfl) (FF.cons (hf.get 27 6 rfl) FF.nil))))))), (hS42.sel [0, 1, 2, 3, 4] rfl rfl)⟩
                            exact allR_nil
                          exact allR_nil
                        exact allR_nil
                      exact allR_nil
                    refine ra_c 49 (i := 11) rfl rfl rfl (Yc_func (g := 17) (vs := [.int .i64 x.Kind]) k_call_17 rfl (mc rfl mn) (c_spec_l13Coef x.Kind _  (hS38.inn0 [] rfl) hc7)) ?_ ?_
                    · rintro _ w_28 ⟨rfl, hd9⟩
                      have hS43 := hS38.out00 hd9
                      have hS43 : ST w0 [] _ [⟨some ⟨b1, 0, none⟩, 31, [.int .i64 0, .int .i64 0, .slice none 0 0, .slice none 0 0], 4⟩, ⟨some ⟨b2, 0, none⟩, 3, (by_.flatMap encI), ((shlK .i64 1 (IntKind.u64.wrap c.Qubits)).toNat) * 1⟩, ⟨some ⟨b3, 0, none⟩, 31, [.int .i64 c.Qubits, .int .i64 Phase, .slice none 0 0, .slice none 0 0], 4⟩, ⟨some ⟨b4, 0, none⟩, 29, [.slice B4 Rows.length c5], 1⟩, ⟨B4, 3, (Rows.flatMap encI), c5 * 1⟩, ⟨some ⟨b5, 0, none⟩, 48, [.int .i64 x.Kind, .int .i64 x.A, .int .i64 x.B], 3⟩] [⟨B, (c.Gates.flatMap enc_Gate)⟩] := hS43
                      refine ⟨(ST.sel hS43 [0, 2, 3, 4, 5] rfl rfl), ?_⟩
                      refine ra_all (rs := [7]) (by kernel_rfl) rfl ?_
                      refine ra_y 45 (i := 7) (v := pt (some ⟨b2, 0, none⟩) (x6.toNat * 1)) rfl rfl rfl (Y_index (B := some ⟨b2, 0, none⟩) (m := (shlK .i64 1 (IntKind.u64.wrap c.Qubits)).toNat) (c := (shlK .i64 1 (IntKind.u64.wrap c.Qubits)).toNat) (k := .i64) (i := x6) k_sl_27_3 k_sz_3_1 rfl rfl rfl (gi_isSome encI_len rfl (hS43.cf (i := 1) rfl) hx7) (getI_nn hx7) (getI_ltI hx7 hl)) (ST.sel hS43 [0, 2, 3, 4, 5] rfl rfl) ?_ ?_
                      · skip
                        refine ra_all (rs := [8]) (by kernel_rfl) rfl ?_
                        refine ra_y 46 (i := 8) (v := .int .i64 x7) rfl rfl rfl (Y_load1 (B := some ⟨b2, 0, none⟩) (i := x6.toNat * 1) (cs := (by_.flatMap encI)) (v := .int .i64 x7) k_sc_3 rfl rfl (hS43.cf (i := 1) rfl) (gi_at0 encI_len hx7 rfl)) (ST.sel hS43 [0, 2, 3, 4, 5] rfl rfl) ?_ ?_
                        · skip
                          refine ra_q 12 50 (v := .int .i64 (IntKind.i64.wrap (x7 + r_9))) rfl rfl rfl (by kernel_rfl) (by kernel_rfl) (by kernel_rfl) (ST.sel hS43 [0, 2, 3, 4, 5] rfl rfl) (fun w' hw' => (Y_add (k := .i64) (a := x7) (b := r_9) rfl rfl rfl)) ?_
                          refine ra_all (rs := [13]) (by kernel_rfl) rfl ?_
                          refine ra_y 51 (i := 13) (v := pt (some ⟨b2, 0, none⟩) (x6.toNat * 1)) rfl rfl rfl (Y_index (B := some ⟨b2, 0, none⟩) (m := (shlK .i64 1 (IntKind.u64.wrap c.Qubits)).toNat) (c := (shlK .i64 1 (IntKind.u64.wrap c.Qubits)).toNat) (k := .i64) (i := x6) k_sl_27_3 k_sz_3_1 rfl rfl rfl (gi_isSome encI_len rfl (hS43.cf (i := 1) rfl) hx7) (getI_nn hx7) (getI_ltI hx7 hl)) (ST.sel hS43 [0, 2, 3, 4, 5] rfl rfl) ?_ ?_
                          · skip
                            refine ra_all (rs := [14]) (by kernel_rfl) rfl ?_
                            refine ra_s0 (i := 14) rfl rfl rfl (Ys_store (i := 1) (s := 1) (B := some ⟨b2, 0, none⟩) (T' := 3) (v := .int .i64 (IntKind.i64.wrap (x7 + r_9))) (vs := [.int .i64 (IntKind.i64.wrap (x7 + r_9))]) (k := x6.toNat * 1) (cs' := ((by_.set x6.toNat (IntKind.i64.wrap (x7 + r_9))).flatMap encI)) hS43 k_sz_3_1 rfl rfl rfl rfl rfl rfl rfl (gi_fit0 encI_len hx7) (gi_set encI_len hx7 (IntKind.i64.wrap (x7 + r_9)) rfl) rfl) ?_ ?_
                            · rintro _ w_29 ⟨rfl, hS44⟩
                              have hS44 : ST w0 [] _ [⟨some ⟨b1, 0, none⟩, 31, [.int .i64 0, .int .i64 0, .slice none 0 0, .slice none 0 0], 4⟩, ⟨some ⟨b2, 0, none⟩, 3, ((by_.set x6.toNat (IntKind.i64.wrap (x7 + r_9))).flatMap encI), ((shlK .i64 1 (IntKind.u64.wrap c.Qubits)).toNat) * 1⟩, ⟨some ⟨b3, 0, none⟩, 31, [.int .i64 c.Qubits, .int .i64 Phase, .slice none 0 0, .slice none 0 0], 4⟩, ⟨some ⟨b4, 0, none⟩, 29, [.slice B4 Rows.length c5], 1⟩, ⟨B4, 3, (Rows.flatMap encI), c5 * 1⟩, ⟨some ⟨b5, 0, none⟩, 48, [.int .i64 x.Kind, .int .i64 x.A, .int .i64 x.B], 3⟩] [⟨B, (c.Gates.flatMap enc_Gate)⟩] := hS44
                              refine ⟨(ST.sel hS44 [0, 2, 3, 4, 5] rfl rfl), ?_⟩
                              refine ra_done (by kernel_rfl) ?_
                              exact ⟨(FF.cons (hf.get 2 0 rfl) (FF.cons (hf.get 4 1 rfl) (FF.cons (hf.get 5 2 rfl) (FF.cons (hf.get 6 3 rfl) (FF.cons (hf.get 25 4 rfl) (FF.cons (hf.get 26 5 rfl) (FF.cons (hf.get 27 6 rfl) FF.nil))))))), (hS44.sel [0, 1, 2, 3, 4] rfl rfl)⟩
                            exact allR_nil
                          exact allR_nil
                        exact allR_nil
                      exact allR_nil
                    exact allR_nil
                  rintro f w ⟨hf2, hS37⟩
                  exact ⟨(by_.set x6.toNat (IntKind.i64.wrap (x7 + r_9))), Phase, Rows, B4, c5, (some_inj hF14), (FF.cons (hf2.get 2 0 rfl) (FF.cons (hf2.get 4 1 rfl) (FF.cons (hf2.get 5 2 rfl) (FF.cons (hf2.get 6 3 rfl) (FF.cons (hf2.get 25 4 rfl) (FF.cons (hf2.get 26 5 rfl) (FF.cons (hf2.get 27 6 rfl) FF.nil))))))), (set_len _ _ _ hl), (hS37.sel [0, 1, 2, 3, 4] rfl rfl)⟩
      rintro f w ⟨by_1, Phase1, Rows1, B5, c6, rfl, hf1, hl1, hS14⟩
      refine cw_region ?_
      refine sq 127 rfl rfl (Y_add (k := .i64) (a := (i : Int)) (b := 1) rfl (hf1.get 27 6 rfl) rfl) ?_
      refine sq 27 rfl rfl (Y_move (v := .int .i64 (IntKind.i64.wrap ((i : Int) + 1))) rfl rfl) ?_
      refine rw_nil ?_
      obtain rfl := some_inj hF4
      exact ⟨k_1, Nat.lt_succ_self _, i + 1, by_1, Phase1, Rows1, B5, c6, (FF.cons (hf1.get 2 0 rfl) (FF.cons (hf1.get 4 1 rfl) (FF.cons (hf1.get 5 2 rfl) (FF.cons (hf1.get 6 3 rfl) (FF.cons (hf1.get 25 4 rfl) (FF.cons (hf1.get 26 5 rfl) (FF.cons (congrArg (Value.int .i64) (wr_succ hlt1 hN)) FF.nil))))))), hl1, (hS14.sel [0, 1, 2, 3, 4] rfl rfl), (by omega), hL1⟩
    · skip
      obtain rfl : k_ = 0 := by have h := of_decide_eq_false hlt; omega
      refine cw_exit rfl ?_
      obtain rfl := some_inj hL
      refine cw_seq ?_
      refine cw_region ?_
      refine sq 128 rfl rfl (Y_move (v := .slice (some ⟨b2, 0, none⟩) ((shlK .i64 1 (IntKind.u64.wrap c.Qubits)).toNat) ((shlK .i64 1 (IntKind.u64.wrap c.Qubits)).toNat)) rfl (hf.get 4 1 rfl)) ?_
      obtain ⟨r_10, hc8, hF3⟩ := bind_inv hF3
      refine sc 129 rfl rfl (Yc_func (g := 18) (vs := [.slice (some ⟨b2, 0, none⟩) ((shlK .i64 1 (IntKind.u64.wrap c.Qubits)).toNat) ((shlK .i64 1 (IntKind.u64.wrap c.Qubits)).toNat)]) k_call_18 rfl (mc rfl mn) (c_spec_l13List by_ (some ⟨b2, 0, none⟩) ((shlK .i64 1 (IntKind.u64.wrap c.Qubits)).toNat) ((shlK .i64 1 (IntKind.u64.wrap c.Qubits)).toNat) _ hl (hS13.inn0 [(false, 1)] rfl) hc8)) ?_
      rintro _ w_30 ⟨B10, c11, rfl, hd10⟩
      have hS45 := hS13.out0 hd10
      have hS45 : ST w0 [] _ [⟨some ⟨b1, 0, none⟩, 31, [.int .i64 0, .int .i64 0, .slice none 0 0, .slice none 0 0], 4⟩, ⟨some ⟨b2, 0, none⟩, 3, (by_.flatMap encI), ((shlK .i64 1 (IntKind.u64.wrap c.Qubits)).toNat) * 1⟩, ⟨some ⟨b3, 0, none⟩, 31, [.int .i64 c.Qubits, .int .i64 Phase, .slice none 0 0, .slice none 0 0], 4⟩, ⟨some ⟨b4, 0, none⟩, 29, [.slice B4 Rows.length c5], 1⟩, ⟨B4, 3, (Rows.flatMap encI), c5 * 1⟩, ⟨B10, 67, (r_10.flatMap enc_Term), c11 * 2⟩] [⟨B, (c.Gates.flatMap enc_Gate)⟩] := hS45
      refine sq 130 rfl rfl (Y_fieldAddr (B := some ⟨b3, 0, none⟩) (i := 0) (s := 0) k_fd_31_2_2_26 k_sz_26_1 rfl (hf.get 5 2 rfl)) ?_
      refine ss0 rfl rfl (Ys_store (i := 2) (s := 1) (B := some ⟨b3, 0, none⟩) (T' := 31) (v := .slice B10 r_10.length c11) (vs := [.slice B10 r_10.length c11]) (k := 2) (cs' := [.int .i64 c.Qubits, .int .i64 Phase, .slice B10 r_10.length c11, .slice none 0 0]) hS45 k_sz_26_1 rfl rfl rfl rfl rfl rfl rfl (Nat.le_of_ble_eq_true rfl) rfl rfl) ?_
      rintro _ w_31 ⟨rfl, hS46⟩
      have hS46 : ST w0 [] _ [⟨some ⟨b1, 0, none⟩, 31, [.int .i64 0, .int .i64 0, .slice none 0 0, .slice none 0 0], 4⟩, ⟨some ⟨b2, 0, none⟩, 3, (by_.flatMap encI), ((shlK .i64 1 (IntKind.u64.wrap c.Qubits)).toNat) * 1⟩, ⟨some ⟨b3, 0, none⟩, 31, [.int .i64 c.Qubits, .int .i64 Phase, .slice B10 r_10.length c11, .slice none 0 0], 4⟩, ⟨some ⟨b4, 0, none⟩, 29, [.slice B4 Rows.length c5], 1⟩, ⟨B4, 3, (Rows.flatMap encI), c5 * 1⟩, ⟨B10, 67, (r_10.flatMap enc_Term), c11 * 2⟩] [⟨B, (c.Gates.flatMap enc_Gate)⟩] := hS46
      refine rw_nil ?_
      refine cw_seq ?_
      refine cw_region ?_
      refine sq 131 rfl rfl (Y_loadA (B := some ⟨b4, 0, none⟩) (i := 0) (cs := [.slice B4 Rows.length c5]) (vs := [.slice B4 Rows.length c5]) k_ag_29 k_sz_29_1 rfl (hf.get 6 3 rfl) (hS46.cf (i := 3) rfl) rfl rfl) ?_
      refine sq 132 rfl rfl (Y_fieldAddr (B := some ⟨b3, 0, none⟩) (i := 0) (s := 0) k_fd_31_3_3_29 k_sz_29_1 rfl (hf.get 5 2 rfl)) ?_
      refine ss0 rfl rfl (Ys_store (i := 2) (s := 1) (B := some ⟨b3, 0, none⟩) (T' := 31) (v := .agg #[.slice B4 Rows.length c5]) (vs := [.slice B4 Rows.length c5]) (k := 3) (cs' := [.int .i64 c.Qubits, .int .i64 Phase, .slice B10 r_10.length c11, .slice B4 Rows.length c5]) hS46 k_sz_29_1 rfl rfl rfl rfl rfl rfl rfl (Nat.le_of_ble_eq_true rfl) rfl rfl) ?_
      rintro _ w_32 ⟨rfl, hS47⟩
      have hS47 : ST w0 [] _ [⟨some ⟨b1, 0, none⟩, 31, [.int .i64 0, .int .i64 0, .slice none 0 0, .slice none 0 0], 4⟩, ⟨some ⟨b2, 0, none⟩, 3, (by_.flatMap encI), ((shlK .i64 1 (IntKind.u64.wrap c.Qubits)).toNat) * 1⟩, ⟨some ⟨b3, 0, none⟩, 31, [.int .i64 c.Qubits, .int .i64 Phase, .slice B10 r_10.length c11, .slice B4 Rows.length c5], 4⟩, ⟨some ⟨b4, 0, none⟩, 29, [.slice B4 Rows.length c5], 1⟩, ⟨B4, 3, (Rows.flatMap encI), c5 * 1⟩, ⟨B10, 67, (r_10.flatMap enc_Term), c11 * 2⟩] [⟨B, (c.Gates.flatMap enc_Gate)⟩] := hS47
      refine rw_nil ?_
      refine cw_seq ?_
      refine cw_region ?_
      refine sq 133 rfl rfl (Y_loadA (B := some ⟨b3, 0, none⟩) (i := 0) (cs := [.int .i64 c.Qubits, .int .i64 Phase, .slice B10 r_10.length c11, .slice B4 Rows.length c5]) (vs := [.int .i64 c.Qubits, .int .i64 Phase, .slice B10 r_10.length c11, .slice B4 Rows.length c5]) k_ag_31 k_sz_31_4 rfl (hf.get 5 2 rfl) (hS47.cf (i := 2) rfl) rfl rfl) ?_
      refine ss0 rfl rfl (Ys_store (i := 0) (s := 4) (B := some ⟨b1, 0, none⟩) (T' := 31) (v := .agg #[.int .i64 c.Qubits, .int .i64 Phase, .slice B10 r_10.length c11, .slice B4 Rows.length c5]) (vs := [.int .i64 c.Qubits, .int .i64 Phase, .slice B10 r_10.length c11, .slice B4 Rows.length c5]) (k := 0) (cs' := [.int .i64 c.Qubits, .int .i64 Phase, .slice B10 r_10.length c11, .slice B4 Rows.length c5]) hS47 k_sz_31_4 rfl (hf.get 2 0 rfl) rfl rfl rfl rfl rfl (Nat.le_of_ble_eq_true rfl) rfl rfl) ?_
      rintro _ w_33 ⟨rfl, hS48⟩
      have hS48 : ST w0 [] _ [⟨some ⟨b1, 0, none⟩, 31, [.int .i64 c.Qubits, .int .i64 Phase, .slice B10 r_10.length c11, .slice B4 Rows.length c5], 4⟩, ⟨some ⟨b2, 0, none⟩, 3, (by_.flatMap encI), ((shlK .i64 1 (IntKind.u64.wrap c.Qubits)).toNat) * 1⟩, ⟨some ⟨b3, 0, none⟩, 31, [.int .i64 c.Qubits, .int .i64 Phase, .slice B10 r_10.length c11, .slice B4 Rows.length c5], 4⟩, ⟨some ⟨b4, 0, none⟩, 29, [.slice B4 Rows.length c5], 1⟩, ⟨B4, 3, (Rows.flatMap encI), c5 * 1⟩, ⟨B10, 67, (r_10.flatMap enc_Term), c11 * 2⟩] [⟨B, (c.Gates.flatMap enc_Gate)⟩] := hS48
      refine sq 3 rfl rfl (Y_assign (v := .bool true) rfl rfl) ?_
      refine rw_nil ?_
      refine cw_ret ?_
      obtain ⟨rfl, rfl⟩ := pr2 (some_inj hF3)
      exact ret2 Try.results5 (v1 := .agg #[.int .i64 c.Qubits, .int .i64 Phase, .slice B10 r_10.length c11, .slice B4 Rows.length c5]) (resAt_cellA (B := some ⟨b1, 0, none⟩) (i := 0) (cs := [.int .i64 c.Qubits, .int .i64 Phase, .slice B10 r_10.length c11, .slice B4 Rows.length c5]) (vs := [.int .i64 c.Qubits, .int .i64 Phase, .slice B10 r_10.length c11, .slice B4 Rows.length c5]) (hf.get 2 0 rfl) k_ag_31 k_sz_31_4 (hS48.cf (i := 0) rfl) rfl rfl) (v2 := .bool true) (resAt_tmp rfl) ⟨B10, c11, B4, c5, rfl, (ST.subR (R' := []) (hS48.sel [5, 4] rfl rfl) (fun _ h => by cases h))⟩

theorem c_laws_toGate (a : TGate)  (w0 : World)  (hS : ST w0 [] w0 [] []) {r_ : TGate} (hF : F_laws_toGate a = some r_) :
    CV Try.prog 36 #[.agg #[.int .i64 a.Kind, .int .i64 a.A, .int .i64 a.B]] w0 (fun v w' => v = .agg #[.int .i64 r_.Kind, .int .i64 r_.A, .int .i64 r_.B] ∧ ST w0 [] w' [] []) := by
  unfold F_laws_toGate at hF
  refine cv_of_cw 14 Try.func36 rfl Try.ntmps36 rfl ?_
  refine cw_seq ?_
  refine cw_region ?_
  refine ss 1 rfl rfl (Ys_box (T := 69) (v := .agg #[.int .i64 a.Kind, .int .i64 a.A, .int .i64 a.B]) (cs := [.int .i64 a.Kind, .int .i64 a.A, .int .i64 a.B]) (m := 3) hS rfl rfl rfl rfl) ?_
  rintro _ w_ ⟨b, rfl, hS1⟩
  refine ss 2 rfl rfl (Ys_alloc (T := 48) (cs := [.int .i64 0, .int .i64 0, .int .i64 0]) (m := 3) hS1 k_zero_48 rfl rfl rfl) ?_
  rintro _ w_1 ⟨b1, rfl, hS2⟩
  have hS2 : ST w0 [] _ [⟨some ⟨b, 0, none⟩, 69, [.int .i64 a.Kind, .int .i64 a.A, .int .i64 a.B], 3⟩, ⟨some ⟨b1, 0, none⟩, 48, [.int .i64 0, .int .i64 0, .int .i64 0], 3⟩] [] := hS2
  refine rw_nil ?_
  refine cw_seq ?_
  refine cw_region ?_
  refine ss 3 rfl rfl (Ys_alloc (T := 48) (cs := [.int .i64 0, .int .i64 0, .int .i64 0]) (m := 3) hS2 k_zero_48 rfl rfl rfl) ?_
  rintro _ w_2 ⟨b2, rfl, hS3⟩
  have hS3 : ST w0 [] _ [⟨some ⟨b, 0, none⟩, 69, [.int .i64 a.Kind, .int .i64 a.A, .int .i64 a.B], 3⟩, ⟨some ⟨b1, 0, none⟩, 48, [.int .i64 0, .int .i64 0, .int .i64 0], 3⟩, ⟨some ⟨b2, 0, none⟩, 48, [.int .i64 0, .int .i64 0, .int .i64 0], 3⟩] [] := hS3
  refine rw_nil ?_
  refine cw_seq ?_
  refine cw_region ?_
  refine sq 4 rfl rfl (Y_fieldAddr (B := some ⟨b, 0, none⟩) (i := 0) (s := 0) k_fd_69_0_0_3 k_sz_3_1 rfl rfl) ?_
  refine sq 5 rfl rfl (Y_load1 (B := some ⟨b, 0, none⟩) (i := 0) (cs := [.int .i64 a.Kind, .int .i64 a.A, .int .i64 a.B]) (v := .int .i64 a.Kind) k_sc_3 rfl rfl (hS3.cf (i := 0) rfl) rfl) ?_
  refine sq 6 rfl rfl (Y_fieldAddr (B := some ⟨b2, 0, none⟩) (i := 0) (s := 0) k_fd_48_0_0_3 k_sz_3_1 rfl rfl) ?_
  refine ss0 rfl rfl (Ys_store (i := 2) (s := 1) (B := some ⟨b2, 0, none⟩) (T' := 48) (v := .int .i64 a.Kind) (vs := [.int .i64 a.Kind]) (k := 0) (cs' := [.int .i64 a.Kind, .int .i64 0, .int .i64 0]) hS3 k_sz_3_1 rfl rfl rfl rfl rfl rfl rfl (Nat.le_of_ble_eq_true rfl) rfl rfl) ?_
  rintro _ w_3 ⟨rfl, hS4⟩
  have hS4 : ST w0 [] _ [⟨some ⟨b, 0, none⟩, 69, [.int .i64 a.Kind, .int .i64 a.A, .int .i64 a.B], 3⟩, ⟨some ⟨b1, 0, none⟩, 48, [.int .i64 0, .int .i64 0, .int .i64 0], 3⟩, ⟨some ⟨b2, 0, none⟩, 48, [.int .i64 a.Kind, .int .i64 0, .int .i64 0], 3⟩] [] := hS4
  refine rw_nil ?_
  refine cw_seq ?_
  refine cw_region ?_
  refine sq 7 rfl rfl (Y_fieldAddr (B := some ⟨b, 0, none⟩) (i := 0) (s := 0) k_fd_69_1_1_3 k_sz_3_1 rfl rfl) ?_
  refine sq 8 rfl rfl (Y_load1 (B := some ⟨b, 0, none⟩) (i := 1) (cs := [.int .i64 a.Kind, .int .i64 a.A, .int .i64 a.B]) (v := .int .i64 a.A) k_sc_3 rfl rfl (hS4.cf (i := 0) rfl) rfl) ?_
  refine sq 9 rfl rfl (Y_fieldAddr (B := some ⟨b2, 0, none⟩) (i := 0) (s := 0) k_fd_48_1_1_3 k_sz_3_1 rfl rfl) ?_
  refine ss0 rfl rfl (Ys_store (i := 2) (s := 1) (B := some ⟨b2, 0, none⟩) (T' := 48) (v := .int .i64 a.A) (vs := [.int .i64 a.A]) (k := 1) (cs' := [.int .i64 a.Kind, .int .i64 a.A, .int .i64 0]) hS4 k_sz_3_1 rfl rfl rfl rfl rfl rfl rfl (Nat.le_of_ble_eq_true rfl) rfl rfl) ?_
  rintro _ w_4 ⟨rfl, hS5⟩
  have hS5 : ST w0 [] _ [⟨some ⟨b, 0, none⟩, 69, [.int .i64 a.Kind, .int .i64 a.A, .int .i64 a.B], 3⟩, ⟨some ⟨b1, 0, none⟩, 48, [.int .i64 0, .int .i64 0, .int .i64 0], 3⟩, ⟨some ⟨b2, 0, none⟩, 48, [.int .i64 a.Kind, .int .i64 a.A, .int .i64 0], 3⟩] [] := hS5
  refine rw_nil ?_
  refine cw_seq ?_
  refine cw_region ?_
  refine sq 10 rfl rfl (Y_fieldAddr (B := some ⟨b, 0, none⟩) (i := 0) (s := 0) k_fd_69_2_2_3 k_sz_3_1 rfl rfl) ?_
  refine sq 11 rfl rfl (Y_load1 (B := some ⟨b, 0, none⟩) (i := 2) (cs := [.int .i64 a.Kind, .int .i64 a.A, .int .i64 a.B]) (v := .int .i64 a.B) k_sc_3 rfl rfl (hS5.cf (i := 0) rfl) rfl) ?_
  refine sq 12 rfl rfl (Y_fieldAddr (B := some ⟨b2, 0, none⟩) (i := 0) (s := 0) k_fd_48_2_2_3 k_sz_3_1 rfl rfl) ?_
  refine ss0 rfl rfl (Ys_store (i := 2) (s := 1) (B := some ⟨b2, 0, none⟩) (T' := 48) (v := .int .i64 a.B) (vs := [.int .i64 a.B]) (k := 2) (cs' := [.int .i64 a.Kind, .int .i64 a.A, .int .i64 a.B]) hS5 k_sz_3_1 rfl rfl rfl rfl rfl rfl rfl (Nat.le_of_ble_eq_true rfl) rfl rfl) ?_
  rintro _ w_5 ⟨rfl, hS6⟩
  have hS6 : ST w0 [] _ [⟨some ⟨b, 0, none⟩, 69, [.int .i64 a.Kind, .int .i64 a.A, .int .i64 a.B], 3⟩, ⟨some ⟨b1, 0, none⟩, 48, [.int .i64 0, .int .i64 0, .int .i64 0], 3⟩, ⟨some ⟨b2, 0, none⟩, 48, [.int .i64 a.Kind, .int .i64 a.A, .int .i64 a.B], 3⟩] [] := hS6
  refine rw_nil ?_
  refine cw_seq ?_
  refine cw_region ?_
  refine sq 13 rfl rfl (Y_loadA (B := some ⟨b2, 0, none⟩) (i := 0) (cs := [.int .i64 a.Kind, .int .i64 a.A, .int .i64 a.B]) (vs := [.int .i64 a.Kind, .int .i64 a.A, .int .i64 a.B]) k_ag_48 k_sz_48_3 rfl rfl (hS6.cf (i := 2) rfl) rfl rfl) ?_
  refine ss0 rfl rfl (Ys_store (i := 1) (s := 3) (B := some ⟨b1, 0, none⟩) (T' := 48) (v := .agg #[.int .i64 a.Kind, .int .i64 a.A, .int .i64 a.B]) (vs := [.int .i64 a.Kind, .int .i64 a.A, .int .i64 a.B]) (k := 0) (cs' := [.int .i64 a.Kind, .int .i64 a.A, .int .i64 a.B]) hS6 k_sz_48_3 rfl rfl rfl rfl rfl rfl rfl (Nat.le_of_ble_eq_true rfl) rfl rfl) ?_
  rintro _ w_6 ⟨rfl, hS7⟩
  have hS7 : ST w0 [] _ [⟨some ⟨b, 0, none⟩, 69, [.int .i64 a.Kind, .int .i64 a.A, .int .i64 a.B], 3⟩, ⟨some ⟨b1, 0, none⟩, 48, [.int .i64 a.Kind, .int .i64 a.A, .int .i64 a.B], 3⟩, ⟨some ⟨b2, 0, none⟩, 48, [.int .i64 a.Kind, .int .i64 a.A, .int .i64 a.B], 3⟩] [] := hS7
  refine rw_nil ?_
  refine cw_ret ?_
  obtain rfl := some_inj hF
  exact ret1 Try.results36 (v1 := .agg #[.int .i64 a.Kind, .int .i64 a.A, .int .i64 a.B]) (resAt_cellA (B := some ⟨b1, 0, none⟩) (i := 0) (cs := [.int .i64 a.Kind, .int .i64 a.A, .int .i64 a.B]) (vs := [.int .i64 a.Kind, .int .i64 a.A, .int .i64 a.B]) rfl k_ag_48 k_sz_48_3 (hS7.cf (i := 1) rfl) rfl rfl) ⟨rfl, (ST.subR (R' := []) (hS7.sel [] rfl rfl) (fun _ h => by cases h))⟩

theorem c_laws_toGateS (a : List TGate) (B : Option Addr) (c n : Nat) (w0 : World) (hn : a.length = n) (hS : ST w0 [] w0 [] [⟨B, (a.flatMap enc_Gate)⟩]) {r_ : List TGate} (hF : F_laws_toGateS a = some r_) :
    CV Try.prog 19 #[.slice B n c] w0 (fun v w' => ∃ (B1 : Option Addr) (c1 : Nat), v = .slice B1 r_.length c1 ∧ ST w0 [] w' [⟨B1, 48, (r_.flatMap enc_Gate), c1 * 3⟩] []) := by
  subst hn
  unfold F_laws_toGateS at hF
  refine cv_of_cw 23 Try.func19 rfl Try.ntmps19 rfl ?_
  refine cw_seq ?_
  refine cw_region ?_
  refine sq 2 rfl rfl (Y_assign (v := .slice none 0 0) rfl rfl) ?_
  refine rw_nil ?_
  refine cw_seq ?_
  refine cw_region ?_
  refine sq 5 rfl rfl (Y_move (v := .slice B a.length c) rfl rfl) ?_
  refine sq 6 rfl rfl (Y_len (B := B) (m := a.length) (c := c) k_sl_22_69 rfl rfl) ?_
  obtain ⟨hmk, hF⟩ := chk_inv hF
  refine ss 7 rfl rfl (Ys_make (s := 3) (by' := 24) (nn := a.length) (a := (a.length : Int)) (b := (a.length : Int)) (cs := ((List.replicate a.length (TGate.mk 0 0 0)).flatMap enc_Gate)) hS k_sl_34_48 k_sz_48_3 k_by_48_24 k_zero_48 rfl rfl rfl rfl hmk.1 rfl (by have := hmk; omega) (by have := hmk; omega) (by omega) (fm_rep (enc := enc_Gate) (d := (TGate.mk 0 0 0)) rfl _)) ?_
  rintro _ w_ ⟨b, rfl, hS1⟩
  refine sq 3 rfl rfl (Y_assign (v := .slice (some ⟨b, 0, none⟩) a.length a.length) rfl rfl) ?_
  refine rw_nil ?_
  refine cw_seq ?_
  refine cw_seq ?_
  refine cw_region ?_
  refine sq 4 rfl rfl (Y_assign (v := .int .i64 0) rfl rfl) ?_
  refine rw_nil ?_
  obtain ⟨hN, hF⟩ := chk_inv hF
  obtain ⟨z, hz, hF1⟩ := bind_inv hF
  refine cw_block ?_
  refine cw_loop (fun k f w => ∃ (i1 : Nat) (out : List TGate), FF f [(0, .slice B a.length c), (3, .slice (some ⟨b, 0, none⟩) a.length a.length), (4, .int .i64 (i1 : Int))] ∧ out.length = a.length ∧ ST w0 [] w [⟨some ⟨b, 0, none⟩, 48, (out.flatMap enc_Gate), a.length * 3⟩] [⟨B, (a.flatMap enc_Gate)⟩] ∧ i1 + k = a.length ∧ forN (F_laws_toGateS_l1 a) k i1 out = some z) a.length ⟨0, (List.replicate a.length (TGate.mk 0 0 0)), (FF.cons rfl (FF.cons rfl (FF.cons rfl FF.nil))), List.length_replicate, (hS1.sel [0] rfl rfl), Nat.zero_add _, hz⟩ ?_
  rintro k_ f w ⟨i1, out, hf, hl, hS2, hik, hL⟩
  refine cw_seq ?_
  refine cw_seq ?_
  refine cw_region ?_
  refine sq 8 rfl rfl (Y_move (v := .int .i64 (i1 : Int)) rfl (hf.get 4 2 rfl)) ?_
  refine sq 9 rfl rfl (Y_move (v := .slice B a.length c) rfl (hf.get 0 0 rfl)) ?_
  refine sq 10 rfl rfl (Y_len (B := B) (m := a.length) (c := c) k_sl_22_69 rfl rfl) ?_
  refine sq 11 rfl rfl (Y_lt (k := .i64) (a := (i1 : Int)) (b := (a.length : Int)) rfl rfl rfl) ?_
  refine rw_nil ?_
  refine cw_cond (b := (decide ((i1 : Int) < (a.length : Int)))) rfl (fun hlt => ?_) (fun hlt => ?_)
  · skip
    have hlt1 : i1 < a.length := by have h := of_decide_eq_true hlt; omega
    obtain ⟨k_1, rfl⟩ : ∃ k2, k_ = k2 + 1 := ⟨k_ - 1, by omega⟩
    obtain ⟨y, hb, hL1⟩ := forN_go hL
    unfold F_laws_toGateS_l1 at hb
    refine cw_skip ?_
    refine cw_seq ?_
    refine cw_block ?_
    refine cw_region ?_
    refine sq 14 rfl rfl (Y_move (v := .slice (some ⟨b, 0, none⟩) a.length a.length) rfl (hf.get 3 1 rfl)) ?_
    refine sq 15 rfl rfl (Y_move (v := .int .i64 (i1 : Int)) rfl (hf.get 4 2 rfl)) ?_
    refine sq 16 rfl rfl (Y_move (v := .slice B a.length c) rfl (hf.get 0 0 rfl)) ?_
    refine sq 17 rfl rfl (Y_move (v := .int .i64 (i1 : Int)) rfl (hf.get 4 2 rfl)) ?_
    obtain ⟨x, hx, hb⟩ := bind_inv hb
    refine sq 18 rfl rfl (Y_index (B := B) (m := a.length) (c := c) (k := .i64) (i := (i1 : Int)) k_sl_22_69 k_sz_69_3 rfl rfl rfl (gi_isSome enc_Gate_len rfl (hS2.rf (i := 0) rfl) hx) (getI_nn hx) (getI_ltI hx rfl)) ?_
    refine sq 19 rfl rfl (Y_loadA (B := B) (i := (i1 : Int).toNat * 3) (cs := (a.flatMap enc_Gate)) (vs := [.int .i64 x.Kind, .int .i64 x.A, .int .i64 x.B]) k_ag_69 k_sz_69_3 rfl rfl (hS2.rf (i := 0) rfl) (enc_Gate_len x) (gi_seg enc_Gate_len hx)) ?_
    obtain ⟨r_1, hc, hb⟩ := bind_inv hb
    refine sc 20 rfl rfl (Yc_func (g := 36) (vs := [.agg #[.int .i64 x.Kind, .int .i64 x.A, .int .i64 x.B]]) k_call_36 rfl (mc rfl mn) (c_laws_toGate x _  (hS2.inn0 [] rfl) hc)) ?_
    rintro _ w_1 ⟨rfl, hd⟩
    have hS3 := hS2.out00 hd
    obtain ⟨x1, hx1, hb⟩ := bind_inv hb
    refine sq 21 rfl rfl (Y_index (B := some ⟨b, 0, none⟩) (m := a.length) (c := a.length) (k := .i64) (i := (i1 : Int)) k_sl_34_48 k_sz_48_3 rfl rfl rfl (gi_isSome enc_Gate_len rfl (hS3.cf (i := 0) rfl) hx1) (getI_nn hx1) (getI_ltI hx1 hl)) ?_
    refine ss0 rfl rfl (Ys_store (i := 0) (s := 3) (B := some ⟨b, 0, none⟩) (T' := 48) (v := .agg #[.int .i64 r_1.Kind, .int .i64 r_1.A, .int .i64 r_1.B]) (vs := [.int .i64 r_1.Kind, .int .i64 r_1.A, .int .i64 r_1.B]) (k := (i1 : Int).toNat * 3) (cs' := ((out.set (i1 : Int).toNat r_1).flatMap enc_Gate)) hS3 k_sz_48_3 rfl rfl rfl rfl rfl rfl rfl (gi_fit0 enc_Gate_len hx1) (gi_set enc_Gate_len hx1 r_1 rfl) rfl) ?_
    rintro _ w_2 ⟨rfl, hS4⟩
    refine rw_nil ?_
    refine cw_region ?_
    refine sq 12 rfl rfl (Y_move (v := .int .i64 (i1 : Int)) rfl (hf.get 4 2 rfl)) ?_
    refine sq 13 rfl rfl (Y_add (k := .i64) (a := (i1 : Int)) (b := 1) rfl rfl rfl) ?_
    refine sq 4 rfl rfl (Y_assign (v := .int .i64 (IntKind.i64.wrap ((i1 : Int) + 1))) rfl rfl) ?_
    refine rw_nil ?_
    obtain rfl := some_inj hb
    exact ⟨k_1, Nat.lt_succ_self _, i1 + 1, (out.set (i1 : Int).toNat r_1), (FF.cons (hf.get 0 0 rfl) (FF.cons (hf.get 3 1 rfl) (FF.cons (congrArg (Value.int .i64) (wr_succ hlt1 hN)) FF.nil))), (set_len _ _ _ hl), (hS4.sel [0] rfl rfl), (by omega), hL1⟩
  · skip
    obtain rfl : k_ = 0 := by have h := of_decide_eq_false hlt; omega
    refine cw_exit rfl ?_
    obtain rfl := some_inj hL
    refine cw_seq ?_
    refine cw_region ?_
    refine sq 22 rfl rfl (Y_move (v := .slice (some ⟨b, 0, none⟩) a.length a.length) rfl (hf.get 3 1 rfl)) ?_
    refine sq 2 rfl rfl (Y_assign (v := .slice (some ⟨b, 0, none⟩) a.length a.length) rfl rfl) ?_
    refine rw_nil ?_
    refine cw_ret ?_
    obtain rfl := some_inj hF1
    exact ret1 Try.results19 (v1 := .slice (some ⟨b, 0, none⟩) a.length a.length) (resAt_tmp rfl) ⟨some ⟨b, 0, none⟩, a.length, (by simp [hl]), (ST.subR (R' := []) (hS2.sel [0] rfl rfl) (fun _ h => by cases h))⟩

theorem c_laws_toCircuit (a : TCircuit) (B : Option Addr) (c n : Nat) (w0 : World) (hn : a.Gates.length = n) (hS : ST w0 [] w0 [] [⟨B, (a.Gates.flatMap enc_Gate)⟩]) {r_ : TCircuit} (hF : F_laws_toCircuit a = some r_) :
    CV Try.prog 6 #[.agg #[.int .i64 a.Qubits, .slice B n c]] w0 (fun v w' => ∃ (B1 : Option Addr) (c1 : Nat), v = .agg #[.int .i64 r_.Qubits, .slice B1 r_.Gates.length c1] ∧ ST w0 [] w' [⟨B1, 48, (r_.Gates.flatMap enc_Gate), c1 * 3⟩] []) := by
  subst hn
  unfold F_laws_toCircuit at hF
  refine cv_of_cw 12 Try.func6 rfl Try.ntmps6 rfl ?_
  refine cw_seq ?_
  refine cw_region ?_
  refine ss 1 rfl rfl (Ys_box (T := 24) (v := .agg #[.int .i64 a.Qubits, .slice B a.Gates.length c]) (cs := [.int .i64 a.Qubits, .slice B a.Gates.length c]) (m := 2) hS rfl rfl rfl rfl) ?_
  rintro _ w_ ⟨b, rfl, hS1⟩
  refine ss 2 rfl rfl (Ys_alloc (T := 36) (cs := [.int .i64 0, .slice none 0 0]) (m := 2) hS1 k_zero_36 rfl rfl rfl) ?_
  rintro _ w_1 ⟨b1, rfl, hS2⟩
  have hS2 : ST w0 [] _ [⟨some ⟨b, 0, none⟩, 24, [.int .i64 a.Qubits, .slice B a.Gates.length c], 2⟩, ⟨some ⟨b1, 0, none⟩, 36, [.int .i64 0, .slice none 0 0], 2⟩] [⟨B, (a.Gates.flatMap enc_Gate)⟩] := hS2
  refine rw_nil ?_
  refine cw_seq ?_
  refine cw_region ?_
  refine ss 3 rfl rfl (Ys_alloc (T := 36) (cs := [.int .i64 0, .slice none 0 0]) (m := 2) hS2 k_zero_36 rfl rfl rfl) ?_
  rintro _ w_2 ⟨b2, rfl, hS3⟩
  have hS3 : ST w0 [] _ [⟨some ⟨b, 0, none⟩, 24, [.int .i64 a.Qubits, .slice B a.Gates.length c], 2⟩, ⟨some ⟨b1, 0, none⟩, 36, [.int .i64 0, .slice none 0 0], 2⟩, ⟨some ⟨b2, 0, none⟩, 36, [.int .i64 0, .slice none 0 0], 2⟩] [⟨B, (a.Gates.flatMap enc_Gate)⟩] := hS3
  refine rw_nil ?_
  refine cw_seq ?_
  refine cw_region ?_
  refine sq 4 rfl rfl (Y_fieldAddr (B := some ⟨b, 0, none⟩) (i := 0) (s := 0) k_fd_24_0_0_3 k_sz_3_1 rfl rfl) ?_
  refine sq 5 rfl rfl (Y_load1 (B := some ⟨b, 0, none⟩) (i := 0) (cs := [.int .i64 a.Qubits, .slice B a.Gates.length c]) (v := .int .i64 a.Qubits) k_sc_3 rfl rfl (hS3.cf (i := 0) rfl) rfl) ?_
  refine sq 6 rfl rfl (Y_fieldAddr (B := some ⟨b2, 0, none⟩) (i := 0) (s := 0) k_fd_36_0_0_3 k_sz_3_1 rfl rfl) ?_
  refine ss0 rfl rfl (Ys_store (i := 2) (s := 1) (B := some ⟨b2, 0, none⟩) (T' := 36) (v := .int .i64 a.Qubits) (vs := [.int .i64 a.Qubits]) (k := 0) (cs' := [.int .i64 a.Qubits, .slice none 0 0]) hS3 k_sz_3_1 rfl rfl rfl rfl rfl rfl rfl (Nat.le_of_ble_eq_true rfl) rfl rfl) ?_
  rintro _ w_3 ⟨rfl, hS4⟩
  have hS4 : ST w0 [] _ [⟨some ⟨b, 0, none⟩, 24, [.int .i64 a.Qubits, .slice B a.Gates.length c], 2⟩, ⟨some ⟨b1, 0, none⟩, 36, [.int .i64 0, .slice none 0 0], 2⟩, ⟨some ⟨b2, 0, none⟩, 36, [.int .i64 a.Qubits, .slice none 0 0], 2⟩] [⟨B, (a.Gates.flatMap enc_Gate)⟩] := hS4
  refine rw_nil ?_
  refine cw_seq ?_
  refine cw_region ?_
  refine sq 7 rfl rfl (Y_fieldAddr (B := some ⟨b, 0, none⟩) (i := 0) (s := 0) k_fd_24_1_1_22 k_sz_22_1 rfl rfl) ?_
  refine sq 8 rfl rfl (Y_load1 (B := some ⟨b, 0, none⟩) (i := 1) (cs := [.int .i64 a.Qubits, .slice B a.Gates.length c]) (v := .slice B a.Gates.length c) k_sc_22 rfl rfl (hS4.cf (i := 0) rfl) rfl) ?_
  obtain ⟨r_1, hc, hF⟩ := bind_inv hF
  refine sc 9 rfl rfl (Yc_func (g := 19) (vs := [.slice B a.Gates.length c]) k_call_19 rfl (mc rfl mn) (c_laws_toGateS a.Gates B c a.Gates.length _ rfl (hS4.inn0 [(true, 0)] rfl) hc)) ?_
  rintro _ w_4 ⟨B2, c2, rfl, hd⟩
  have hS5 := hS4.out0 hd
  have hS5 : ST w0 [] _ [⟨some ⟨b, 0, none⟩, 24, [.int .i64 a.Qubits, .slice B a.Gates.length c], 2⟩, ⟨some ⟨b1, 0, none⟩, 36, [.int .i64 0, .slice none 0 0], 2⟩, ⟨some ⟨b2, 0, none⟩, 36, [.int .i64 a.Qubits, .slice none 0 0], 2⟩, ⟨B2, 48, (r_1.flatMap enc_Gate), c2 * 3⟩] [⟨B, (a.Gates.flatMap enc_Gate)⟩] := hS5
  refine sq 10 rfl rfl (Y_fieldAddr (B := some ⟨b2, 0, none⟩) (i := 0) (s := 0) k_fd_36_1_1_34 k_sz_34_1 rfl rfl) ?_
  refine ss0 rfl rfl (Ys_store (i := 2) (s := 1) (B := some ⟨b2, 0, none⟩) (T' := 36) (v := .slice B2 r_1.length c2) (vs := [.slice B2 r_1.length c2]) (k := 1) (cs' := [.int .i64 a.Qubits, .slice B2 r_1.length c2]) hS5 k_sz_34_1 rfl rfl rfl rfl rfl rfl rfl (Nat.le_of_ble_eq_true rfl) rfl rfl) ?_
  rintro _ w_5 ⟨rfl, hS6⟩
  have hS6 : ST w0 [] _ [⟨some ⟨b, 0, none⟩, 24, [.int .i64 a.Qubits, .slice B a.Gates.length c], 2⟩, ⟨some ⟨b1, 0, none⟩, 36, [.int .i64 0, .slice none 0 0], 2⟩, ⟨some ⟨b2, 0, none⟩, 36, [.int .i64 a.Qubits, .slice B2 r_1.length c2], 2⟩, ⟨B2, 48, (r_1.flatMap enc_Gate), c2 * 3⟩] [⟨B, (a.Gates.flatMap enc_Gate)⟩] := hS6
  refine rw_nil ?_
  refine cw_seq ?_
  refine cw_region ?_
  refine sq 11 rfl rfl (Y_loadA (B := some ⟨b2, 0, none⟩) (i := 0) (cs := [.int .i64 a.Qubits, .slice B2 r_1.length c2]) (vs := [.int .i64 a.Qubits, .slice B2 r_1.length c2]) k_ag_36 k_sz_36_2 rfl rfl (hS6.cf (i := 2) rfl) rfl rfl) ?_
  refine ss0 rfl rfl (Ys_store (i := 1) (s := 2) (B := some ⟨b1, 0, none⟩) (T' := 36) (v := .agg #[.int .i64 a.Qubits, .slice B2 r_1.length c2]) (vs := [.int .i64 a.Qubits, .slice B2 r_1.length c2]) (k := 0) (cs' := [.int .i64 a.Qubits, .slice B2 r_1.length c2]) hS6 k_sz_36_2 rfl rfl rfl rfl rfl rfl rfl (Nat.le_of_ble_eq_true rfl) rfl rfl) ?_
  rintro _ w_6 ⟨rfl, hS7⟩
  have hS7 : ST w0 [] _ [⟨some ⟨b, 0, none⟩, 24, [.int .i64 a.Qubits, .slice B a.Gates.length c], 2⟩, ⟨some ⟨b1, 0, none⟩, 36, [.int .i64 a.Qubits, .slice B2 r_1.length c2], 2⟩, ⟨some ⟨b2, 0, none⟩, 36, [.int .i64 a.Qubits, .slice B2 r_1.length c2], 2⟩, ⟨B2, 48, (r_1.flatMap enc_Gate), c2 * 3⟩] [⟨B, (a.Gates.flatMap enc_Gate)⟩] := hS7
  refine rw_nil ?_
  refine cw_ret ?_
  obtain rfl := some_inj hF
  exact ret1 Try.results6 (v1 := .agg #[.int .i64 a.Qubits, .slice B2 r_1.length c2]) (resAt_cellA (B := some ⟨b1, 0, none⟩) (i := 0) (cs := [.int .i64 a.Qubits, .slice B2 r_1.length c2]) (vs := [.int .i64 a.Qubits, .slice B2 r_1.length c2]) rfl k_ag_36 k_sz_36_2 (hS7.cf (i := 1) rfl) rfl rfl) ⟨B2, c2, rfl, (ST.subR (R' := []) (hS7.sel [3] rfl rfl) (fun _ h => by cases h))⟩

theorem c_impl_within (n : Int) (low : Int) (high : Int)  (w0 : World)  (hS : ST w0 [] w0 [] []) {r_ : Bool} (hF : F_impl_within n low high = some r_) :
    CV Try.prog 37 #[.int .i64 n, .int .i64 low, .int .i64 high] w0 (fun v w' => v = .bool r_ ∧ ST w0 [] w' [] []) := by
  unfold F_impl_within at hF
  refine cv_of_cw 15 Try.func37 rfl Try.ntmps37 rfl ?_
  refine cw_seq ?_
  refine cw_region ?_
  refine sq 6 rfl rfl (Y_assign (v := .bool false) rfl rfl) ?_
  refine rw_nil ?_
  refine cw_seq ?_
  refine cw_region ?_
  refine sq 7 rfl rfl (Y_move (v := .int .i64 low) rfl rfl) ?_
  refine sq 8 rfl rfl (Y_move (v := .int .i64 n) rfl rfl) ?_
  refine sq 9 rfl rfl (Y_le (k := .i64) (a := low) (b := n) rfl rfl rfl) ?_
  refine sq 10 rfl rfl (Y_move (v := .bool (decide (low ≤ n))) rfl rfl) ?_
  refine sgq 11 (B := (decide (low ≤ n))) (v := .int .i64 n) rfl rfl (wt_t (gd_of (t := 10) (by kernel_rfl) rfl)) (fun hg => (Y_move (v := .int .i64 n) rfl rfl)) ?_
  refine sgq 12 (B := (decide (low ≤ n))) (v := .int .i64 high) rfl rfl (wt_t (gd_of (t := 10) (by kernel_rfl) rfl)) (fun hg1 => (Y_move (v := .int .i64 high) rfl rfl)) ?_
  refine sgq 13 (B := (decide (low ≤ n))) (v := .bool (decide (n ≤ high))) rfl rfl (wt_t (gd_of (t := 10) (by kernel_rfl) rfl)) (fun hg2 => (Y_le (k := .i64) (a := n) (b := high) rfl (gv_of (B := (decide (low ≤ n))) (v := .int .i64 n) hg2) (gv_of (B := (decide (low ≤ n))) (v := .int .i64 high) hg2))) ?_
  refine sq 14 rfl rfl (Y_and (b := (decide (low ≤ n))) (z := (decide (n ≤ high))) rfl rfl rfl rfl) ?_
  refine sq 6 rfl rfl (Y_assign (v := .bool ((decide (low ≤ n)) && (decide (n ≤ high)))) rfl rfl) ?_
  refine rw_nil ?_
  refine cw_ret ?_
  obtain rfl := some_inj hF
  exact ret1 Try.results37 (v1 := .bool ((decide (low ≤ n)) && (decide (n ≤ high)))) (resAt_tmp rfl) ⟨rfl, (ST.subR (R' := []) (hS.sel [] rfl rfl) (fun _ h => by cases h))⟩

theorem c_slices_IndexFunc_impl_Gate_impl_Gate (s : List TGate) (f_ : TGate → Option (Bool)) (B : Option Addr) (c n : Nat) (kf : Nat) (caps : Array Value) (Rf : List Ro) (w0 : World) (hn : s.length = n) (hk : callB Try.prog kf = true) (hp : ∀ (w : World), ST w [] w [] Rf → ∀ (x : TGate) (y : Bool), f_ x = some y → CV Try.prog kf ((.agg #[.int .i64 x.Kind, .int .i64 x.A, .int .i64 x.B]) :: caps.toList).toArray w (fun v w' => v = .bool y ∧ ST w [] w' [] [])) (hS : ST w0 [] w0 [] (⟨B, (s.flatMap enc_Gate)⟩ :: Rf)) {r_ : Int} (hF : F_slices_IndexFunc_impl_Gate_impl_Gate s f_ = some r_) :
    CV Try.prog 46 #[.slice B n c, .func (.func kf) #[] caps] w0 (fun v w' => v = .int .i64 r_ ∧ ST w0 [] w' [] []) := by
  subst hn
  unfold F_slices_IndexFunc_impl_Gate_impl_Gate at hF
  refine cv_of_cw 19 Try.func46 rfl Try.ntmps46 rfl ?_
  refine cw_seq ?_
  refine cw_region ?_
  refine sq 4 rfl rfl (Y_assign (v := .int .i64 0) rfl rfl) ?_
  refine rw_nil ?_
  refine cw_seq ?_
  refine cw_seq ?_
  refine cw_region ?_
  refine sq 6 rfl rfl (Y_move (v := .slice B s.length c) rfl rfl) ?_
  refine sq 7 rfl rfl (Y_len (B := B) (m := s.length) (c := c) k_sl_34_48 rfl rfl) ?_
  refine sq 8 rfl rfl (Y_move (v := .int .i64 0) rfl rfl) ?_
  refine rw_nil ?_
  obtain ⟨hN, hF⟩ := chk_inv hF
  obtain ⟨z, hz, hF1⟩ := bind_inv hF
  refine cw_block ?_
  refine cw_loop (fun k f w => ∃ (i : Nat), FF f [(0, .slice B s.length c), (1, .func (.func kf) #[] caps), (7, .int .i64 (s.length : Int)), (8, .int .i64 (i : Int))] ∧ ST w0 [] w [] (⟨B, (s.flatMap enc_Gate)⟩ :: Rf) ∧ i + k = s.length ∧ forX (F_slices_IndexFunc_impl_Gate_impl_Gate_l1 s f_) k i () = some z) s.length ⟨0, (FF.cons rfl (FF.cons rfl (FF.cons rfl (FF.cons rfl FF.nil)))), (hS.sel [] rfl rfl), Nat.zero_add _, hz⟩ ?_
  rintro k_ f w ⟨i, hf, hS1, hik, hL⟩
  refine cw_seq ?_
  refine cw_region ?_
  refine sq 9 rfl rfl (Y_lt (k := .i64) (a := (i : Int)) (b := (s.length : Int)) rfl (hf.get 8 3 rfl) (hf.get 7 2 rfl)) ?_
  refine rw_nil ?_
  refine cw_seq ?_
  refine cw_cond (b := (decide ((i : Int) < (s.length : Int)))) rfl (fun hlt => ?_) (fun hlt => ?_)
  · skip
    have hlt1 : i < s.length := by have h := of_decide_eq_true hlt; omega
    obtain ⟨k_1, rfl⟩ : ∃ k2, k_ = k2 + 1 := ⟨k_ - 1, by omega⟩
    obtain ⟨y1, hb, hL1⟩ := forX_go hL
    unfold F_slices_IndexFunc_impl_Gate_impl_Gate_l1 at hb
    refine cw_skip ?_
    refine cw_seq ?_
    refine cw_block ?_
    refine cw_seq ?_
    refine cw_region ?_
    refine sq 10 rfl rfl (Y_move (v := .int .i64 (i : Int)) rfl (hf.get 8 3 rfl)) ?_
    refine sq 5 rfl rfl (Y_assign (v := .int .i64 (i : Int)) rfl rfl) ?_
    refine rw_nil ?_
    refine cw_seq ?_
    refine cw_region ?_
    refine sq 11 rfl rfl (Y_move (v := .func (.func kf) #[] caps) rfl (hf.get 1 1 rfl)) ?_
    refine sq 12 rfl rfl (Y_move (v := .slice B s.length c) rfl (hf.get 0 0 rfl)) ?_
    refine sq 13 rfl rfl (Y_move (v := .int .i64 (i : Int)) rfl rfl) ?_
    obtain ⟨x1, hx, hb⟩ := bind_inv hb
    refine sq 14 rfl rfl (Y_index (B := B) (m := s.length) (c := c) (k := .i64) (i := (i : Int)) k_sl_34_48 k_sz_48_3 rfl rfl rfl (gi_isSome enc_Gate_len rfl (hS1.rf (i := 0) rfl) hx) (getI_nn hx) (getI_ltI hx rfl)) ?_
    refine sq 15 rfl rfl (Y_loadA (B := B) (i := (i : Int).toNat * 3) (cs := (s.flatMap enc_Gate)) (vs := [.int .i64 x1.Kind, .int .i64 x1.A, .int .i64 x1.B]) k_ag_48 k_sz_48_3 rfl rfl (hS1.rf (i := 0) rfl) (enc_Gate_len x1) (gi_seg enc_Gate_len hx)) ?_
    obtain ⟨r_1, hc, hb⟩ := bind_inv hb
    refine sc 16 rfl rfl (Yc_clos (g := kf) (vs := (.agg #[.int .i64 x1.Kind, .int .i64 x1.A, .int .i64 x1.B]) :: caps.toList) hk rfl rfl (clo_args (mc rfl mn)) (hp _ (hS1.innS (fun _ h => List.mem_cons_of_mem _ h)) x1 r_1 hc)) ?_
    rintro _ w_ ⟨rfl, hd⟩
    have hS2 := hS1.out00 hd
    refine rw_nil ?_
    refine cw_cond (b := r_1) rfl (fun hb1 => ?_) (fun hb1 => ?_)
    · skip
      have hF2 := ct hb hb1
      refine cw_seq ?_
      refine cw_region ?_
      refine sq 17 rfl rfl (Y_move (v := .int .i64 (i : Int)) rfl rfl) ?_
      refine sq 4 rfl rfl (Y_assign (v := .int .i64 (i : Int)) rfl rfl) ?_
      refine rw_nil ?_
      refine cw_ret ?_
      obtain rfl := some_inj hF2
      obtain rfl := some_inj hL1
      obtain rfl := some_inj hF1
      exact ret1 Try.results46 (v1 := .int .i64 (i : Int)) (resAt_tmp rfl) ⟨rfl, (ST.subR (R' := []) (hS2.sel [] rfl rfl) (fun _ h => by cases h))⟩
    · skip
      have hF3 := cf' hb hb1
      refine cw_skip ?_
      refine cw_region ?_
      refine sq 18 rfl rfl (Y_add (k := .i64) (a := (i : Int)) (b := 1) rfl (hf.get 8 3 rfl) rfl) ?_
      refine sq 8 rfl rfl (Y_move (v := .int .i64 (IntKind.i64.wrap ((i : Int) + 1))) rfl rfl) ?_
      refine rw_nil ?_
      obtain rfl := some_inj hF3
      exact ⟨k_1, Nat.lt_succ_self _, i + 1, (FF.cons (hf.get 0 0 rfl) (FF.cons (hf.get 1 1 rfl) (FF.cons (hf.get 7 2 rfl) (FF.cons (congrArg (Value.int .i64) (wr_succ hlt1 hN)) FF.nil)))), (hS2.sel [] rfl rfl), (by omega), hL1⟩
  · skip
    obtain rfl : k_ = 0 := by have h := of_decide_eq_false hlt; omega
    refine cw_exit rfl ?_
    obtain rfl := some_inj hL
    refine cw_seq ?_
    refine cw_region ?_
    refine sq 4 rfl rfl (Y_assign (v := .int .i64 (-1)) rfl rfl) ?_
    refine rw_nil ?_
    refine cw_ret ?_
    obtain rfl := some_inj hF1
    exact ret1 Try.results46 (v1 := .int .i64 (-1)) (resAt_tmp rfl) ⟨rfl, (ST.subR (R' := []) (hS1.sel [] rfl rfl) (fun _ h => by cases h))⟩

theorem c_slices_ContainsFunc_impl_Gate_impl_Gate (s : List TGate) (f_ : TGate → Option (Bool)) (B : Option Addr) (c n : Nat) (kf : Nat) (caps : Array Value) (Rf : List Ro) (w0 : World) (hn : s.length = n) (hk : callB Try.prog kf = true) (hp : ∀ (w : World), ST w [] w [] Rf → ∀ (x : TGate) (y : Bool), f_ x = some y → CV Try.prog kf ((.agg #[.int .i64 x.Kind, .int .i64 x.A, .int .i64 x.B]) :: caps.toList).toArray w (fun v w' => v = .bool y ∧ ST w [] w' [] [])) (hS : ST w0 [] w0 [] (⟨B, (s.flatMap enc_Gate)⟩ :: Rf)) {r_ : Bool} (hF : F_slices_ContainsFunc_impl_Gate_impl_Gate s f_ = some r_) :
    CV Try.prog 38 #[.slice B n c, .func (.func kf) #[] caps] w0 (fun v w' => v = .bool r_ ∧ ST w0 [] w' [] []) := by
  subst hn
  unfold F_slices_ContainsFunc_impl_Gate_impl_Gate at hF
  refine cv_of_cw 9 Try.func38 rfl Try.ntmps38 rfl ?_
  refine cw_seq ?_
  refine cw_region ?_
  refine sq 4 rfl rfl (Y_assign (v := .bool false) rfl rfl) ?_
  refine rw_nil ?_
  refine cw_seq ?_
  refine cw_region ?_
  refine sq 5 rfl rfl (Y_move (v := .slice B s.length c) rfl rfl) ?_
  refine sq 6 rfl rfl (Y_move (v := .func (.func kf) #[] caps) rfl rfl) ?_
  obtain ⟨r_1, hc, hF⟩ := bind_inv hF
  refine sc 7 rfl rfl (Yc_func (g := 46) (vs := [.slice B s.length c, .func (.func kf) #[] caps]) k_call_46 rfl (mc rfl (mc rfl mn)) (c_slices_IndexFunc_impl_Gate_impl_Gate s f_ B c s.length kf caps Rf _ rfl hk hp (hS.innS (subc (mem_at (i := 0) rfl) (fun _ h => List.mem_of_mem_drop (i := 1) h))) hc)) ?_
  rintro _ w_ ⟨rfl, hd⟩
  have hS1 := hS.out00 hd
  refine sq 8 rfl rfl (Y_ge (k := .i64) (a := r_1) (b := 0) rfl rfl rfl) ?_
  refine sq 4 rfl rfl (Y_assign (v := .bool (decide (0 ≤ r_1))) rfl rfl) ?_
  refine rw_nil ?_
  refine cw_ret ?_
  obtain rfl := some_inj hF
  exact ret1 Try.results38 (v1 := .bool (decide (0 ≤ r_1))) (resAt_tmp rfl) ⟨rfl, (ST.subR (R' := []) (hS1.sel [] rfl rfl) (fun _ h => by cases h))⟩

theorem c_impl_isTwo (kind : Int)  (w0 : World)  (hS : ST w0 [] w0 [] []) {r_ : Bool} (hF : F_impl_isTwo kind = some r_) :
    CV Try.prog 47 #[.int .i64 kind] w0 (fun v w' => v = .bool r_ ∧ ST w0 [] w' [] []) := by
  unfold F_impl_isTwo at hF
  refine cv_of_cw 5 Try.func47 rfl Try.ntmps47 rfl ?_
  refine cw_seq ?_
  refine cw_region ?_
  refine sq 2 rfl rfl (Y_assign (v := .bool false) rfl rfl) ?_
  refine rw_nil ?_
  refine cw_seq ?_
  refine cw_region ?_
  refine sq 3 rfl rfl (Y_move (v := .int .i64 kind) rfl rfl) ?_
  obtain ⟨r_1, hc, hF⟩ := bind_inv hF
  refine sc 4 rfl rfl (Yc_func (g := 37) (vs := [.int .i64 kind, .int .i64 9, .int .i64 11]) k_call_37 rfl (mc rfl (mc rfl (mc rfl mn))) (c_impl_within kind 9 11 _  (hS.inn0 [] rfl) hc)) ?_
  rintro _ w_ ⟨rfl, hd⟩
  have hS1 := hS.out00 hd
  refine sq 2 rfl rfl (Y_assign (v := .bool r_1) rfl rfl) ?_
  refine rw_nil ?_
  refine cw_ret ?_
  obtain rfl := some_inj hF
  exact ret1 Try.results47 (v1 := .bool r_1) (resAt_tmp rfl) ⟨rfl, (ST.subR (R' := []) (hS1.sel [] rfl rfl) (fun _ h => by cases h))⟩

theorem c_impl_IsValidGate (n : Int) (g : TGate)  (w0 : World)  (hS : ST w0 [] w0 [] []) {r_ : Bool} (hF : F_impl_IsValidGate n g = some r_) :
    CV Try.prog 40 #[.int .i64 n, .agg #[.int .i64 g.Kind, .int .i64 g.A, .int .i64 g.B]] w0 (fun v w' => v = .bool r_ ∧ ST w0 [] w' [] []) := by
  unfold F_impl_IsValidGate at hF
  refine cv_of_cw 60 Try.func40 rfl Try.ntmps40 rfl ?_
  refine cw_seq ?_
  refine cw_region ?_
  refine ss 3 rfl rfl (Ys_box (T := 48) (v := .agg #[.int .i64 g.Kind, .int .i64 g.A, .int .i64 g.B]) (cs := [.int .i64 g.Kind, .int .i64 g.A, .int .i64 g.B]) (m := 3) hS rfl rfl rfl rfl) ?_
  rintro _ w_ ⟨b, rfl, hS1⟩
  refine sq 4 rfl rfl (Y_assign (v := .bool false) rfl rfl) ?_
  refine rw_nil ?_
  refine cw_seq ?_
  refine cw_block ?_
  refine cw_seq ?_
  refine cw_region ?_
  refine sq 6 rfl rfl (Y_move (v := .int .i64 n) rfl rfl) ?_
  obtain ⟨r_1, hc, hF⟩ := bind_inv hF
  refine sc 7 rfl rfl (Yc_func (g := 37) (vs := [.int .i64 n, .int .i64 1, .int .i64 5]) k_call_37 rfl (mc rfl (mc rfl (mc rfl mn))) (c_impl_within n 1 5 _  (hS1.inn0 [] rfl) hc)) ?_
  rintro _ w_1 ⟨rfl, hd⟩
  have hS2 := hS1.out00 hd
  refine sq 8 rfl rfl (Y_not (p := r_1) rfl rfl) ?_
  refine sq 9 rfl rfl (Y_move (v := .bool (!r_1)) rfl rfl) ?_
  refine sgq 10 (B := (!(!r_1))) (v := pt (some ⟨b, 0, none⟩) 0) rfl rfl (wt_f (gd_of (t := 9) (by kernel_rfl) rfl)) (fun hg => (Y_fieldAddr (B := some ⟨b, 0, none⟩) (i := 0) (s := 0) k_fd_48_0_0_3 k_sz_3_1 rfl rfl)) ?_
  refine sgq 11 (B := (!(!r_1))) (v := .int .i64 g.Kind) rfl rfl (wt_f (gd_of (t := 9) (by kernel_rfl) rfl)) (fun hg1 => (Y_load1 (B := some ⟨b, 0, none⟩) (i := 0) (cs := [.int .i64 g.Kind, .int .i64 g.A, .int .i64 g.B]) (v := .int .i64 g.Kind) k_sc_3 rfl (gv_of (B := (!(!r_1))) (v := pt (some ⟨b, 0, none⟩) 0) hg1) (hS2.cf (i := 0) rfl) rfl)) ?_
  obtain ⟨r_2, hc1, hF⟩ := bind_inv hF
  refine sgc 12 (B := (!(!r_1))) (v := .bool r_2) (F := hS2.fn) rfl rfl (wt_f (gd_of (t := 9) (by kernel_rfl) rfl)) hS2 (fun hg2 => (Yc_func (g := 37) (vs := [.int .i64 g.Kind, .int .i64 1, .int .i64 12]) k_call_37 rfl (mc (gv_of (B := (!(!r_1))) (v := .int .i64 g.Kind) hg2) (mc rfl (mc rfl mn))) (CV.mono (c_impl_within g.Kind 1 12 _  (hS2.inn0 [] rfl) (gb_inv hc1 hg2)) (by rintro _ _ ⟨rfl, h⟩; exact ⟨rfl, hS2.out00 h⟩)))) ?_
  rintro w_2 hS3
  have hS3 : ST _ _ w_2 _ _ := hS3
  refine sgq 13 (B := (!(!r_1))) (v := .bool (!r_2)) rfl rfl (wt_f (gd_of (t := 9) (by kernel_rfl) rfl)) (fun hg3 => (Y_not (p := r_2) rfl (gv_of (B := (!(!r_1))) (v := .bool r_2) hg3))) ?_
  refine sq 14 rfl rfl (Y_or (b := (!r_1)) (z := (!r_2)) rfl rfl rfl rfl) ?_
  refine sq 5 rfl rfl (Y_assign (v := .bool ((!r_1) || (!r_2))) rfl rfl) ?_
  refine rw_nil ?_
  refine cw_cond (b := ((!r_1) || (!r_2))) rfl (fun hb => ?_) (fun hb => ?_)
  · skip
    have hF1 := ct hF hb
    refine cw_seq ?_
    refine cw_region ?_
    refine sq 4 rfl rfl (Y_assign (v := .bool false) rfl rfl) ?_
    refine rw_nil ?_
    refine cw_ret ?_
    obtain rfl := some_inj hF1
    exact ret1 Try.results40 (v1 := .bool false) (resAt_tmp rfl) ⟨rfl, (ST.subR (R' := []) (hS3.sel [] rfl rfl) (fun _ h => by cases h))⟩
  · skip
    have hF2 := cf' hF hb
    refine cw_seq ?_
    refine cw_region ?_
    refine sq 16 rfl rfl (Y_fieldAddr (B := some ⟨b, 0, none⟩) (i := 0) (s := 0) k_fd_48_0_0_3 k_sz_3_1 rfl rfl) ?_
    refine sq 17 rfl rfl (Y_load1 (B := some ⟨b, 0, none⟩) (i := 0) (cs := [.int .i64 g.Kind, .int .i64 g.A, .int .i64 g.B]) (v := .int .i64 g.Kind) k_sc_3 rfl rfl (hS3.cf (i := 0) rfl) rfl) ?_
    refine sq 18 rfl rfl (Y_eq (k := .i64) (a := g.Kind) (b := 12) rfl rfl rfl) ?_
    refine sq 15 rfl rfl (Y_assign (v := .bool (g.Kind == 12)) rfl rfl) ?_
    refine rw_nil ?_
    refine cw_cond (b := (g.Kind == 12)) rfl (fun hb1 => ?_) (fun hb1 => ?_)
    · skip
      have hF3 := ct hF2 hb1
      refine cw_seq ?_
      refine cw_region ?_
      refine sq 19 rfl rfl (Y_fieldAddr (B := some ⟨b, 0, none⟩) (i := 0) (s := 0) k_fd_48_1_1_3 k_sz_3_1 rfl rfl) ?_
      refine sq 20 rfl rfl (Y_load1 (B := some ⟨b, 0, none⟩) (i := 1) (cs := [.int .i64 g.Kind, .int .i64 g.A, .int .i64 g.B]) (v := .int .i64 g.A) k_sc_3 rfl rfl (hS3.cf (i := 0) rfl) rfl) ?_
      refine sq 21 rfl rfl (Y_eq (k := .i64) (a := g.A) (b := 0) rfl rfl rfl) ?_
      refine sq 22 rfl rfl (Y_move (v := .bool (g.A == 0)) rfl rfl) ?_
      refine sgq 23 (B := (g.A == 0)) (v := pt (some ⟨b, 0, none⟩) 2) rfl rfl (wt_t (gd_of (t := 22) (by kernel_rfl) rfl)) (fun hg4 => (Y_fieldAddr (B := some ⟨b, 0, none⟩) (i := 0) (s := 0) k_fd_48_2_2_3 k_sz_3_1 rfl rfl)) ?_
      refine sgq 24 (B := (g.A == 0)) (v := .int .i64 g.B) rfl rfl (wt_t (gd_of (t := 22) (by kernel_rfl) rfl)) (fun hg5 => (Y_load1 (B := some ⟨b, 0, none⟩) (i := 2) (cs := [.int .i64 g.Kind, .int .i64 g.A, .int .i64 g.B]) (v := .int .i64 g.B) k_sc_3 rfl (gv_of (B := (g.A == 0)) (v := pt (some ⟨b, 0, none⟩) 2) hg5) (hS3.cf (i := 0) rfl) rfl)) ?_
      refine sgq 25 (B := (g.A == 0)) (v := .bool (g.B == 0)) rfl rfl (wt_t (gd_of (t := 22) (by kernel_rfl) rfl)) (fun hg6 => (Y_eq (k := .i64) (a := g.B) (b := 0) rfl (gv_of (B := (g.A == 0)) (v := .int .i64 g.B) hg6) rfl)) ?_
      refine sq 26 rfl rfl (Y_and (b := (g.A == 0)) (z := (g.B == 0)) rfl rfl rfl rfl) ?_
      refine sq 4 rfl rfl (Y_assign (v := .bool ((g.A == 0) && (g.B == 0))) rfl rfl) ?_
      refine rw_nil ?_
      refine cw_ret ?_
      obtain rfl := some_inj hF3
      exact ret1 Try.results40 (v1 := .bool ((g.A == 0) && (g.B == 0))) (resAt_tmp rfl) ⟨rfl, (ST.subR (R' := []) (hS3.sel [] rfl rfl) (fun _ h => by cases h))⟩
    · skip
      have hF4 := cf' hF2 hb1
      refine cw_seq ?_
      refine cw_region ?_
      refine sq 28 rfl rfl (Y_fieldAddr (B := some ⟨b, 0, none⟩) (i := 0) (s := 0) k_fd_48_0_0_3 k_sz_3_1 rfl rfl) ?_
      refine sq 29 rfl rfl (Y_load1 (B := some ⟨b, 0, none⟩) (i := 0) (cs := [.int .i64 g.Kind, .int .i64 g.A, .int .i64 g.B]) (v := .int .i64 g.Kind) k_sc_3 rfl rfl (hS3.cf (i := 0) rfl) rfl) ?_
      obtain ⟨r_3, hc2, hF4⟩ := bind_inv hF4
      refine sc 30 rfl rfl (Yc_func (g := 47) (vs := [.int .i64 g.Kind]) k_call_47 rfl (mc rfl mn) (c_impl_isTwo g.Kind _  (hS3.inn0 [] rfl) hc2)) ?_
      rintro _ w_3 ⟨rfl, hd1⟩
      have hS4 := hS3.out00 hd1
      refine sq 27 rfl rfl (Y_assign (v := .bool r_3) rfl rfl) ?_
      refine rw_nil ?_
      refine cw_cond (b := r_3) rfl (fun hb2 => ?_) (fun hb2 => ?_)
      · skip
        have hF5 := ct hF4 hb2
        refine cw_seq ?_
        refine cw_region ?_
        refine sq 31 rfl rfl (Y_fieldAddr (B := some ⟨b, 0, none⟩) (i := 0) (s := 0) k_fd_48_1_1_3 k_sz_3_1 rfl rfl) ?_
        refine sq 32 rfl rfl (Y_load1 (B := some ⟨b, 0, none⟩) (i := 1) (cs := [.int .i64 g.Kind, .int .i64 g.A, .int .i64 g.B]) (v := .int .i64 g.A) k_sc_3 rfl rfl (hS4.cf (i := 0) rfl) rfl) ?_
        refine sq 33 rfl rfl (Y_move (v := .int .i64 n) rfl rfl) ?_
        refine sq 34 rfl rfl (Y_sub (k := .i64) (a := n) (b := 1) rfl rfl rfl) ?_
        obtain ⟨r_4, hc3, hF5⟩ := bind_inv hF5
        refine sc 35 rfl rfl (Yc_func (g := 37) (vs := [.int .i64 g.A, .int .i64 0, .int .i64 (IntKind.i64.wrap (n - 1))]) k_call_37 rfl (mc rfl (mc rfl (mc rfl mn))) (c_impl_within g.A 0 (IntKind.i64.wrap (n - 1)) _  (hS4.inn0 [] rfl) hc3)) ?_
        rintro _ w_4 ⟨rfl, hd2⟩
        have hS5 := hS4.out00 hd2
        refine sq 36 rfl rfl (Y_move (v := .bool r_4) rfl rfl) ?_
        refine sgq 37 (B := r_4) (v := pt (some ⟨b, 0, none⟩) 2) rfl rfl (wt_t (gd_of (t := 36) (by kernel_rfl) rfl)) (fun hg7 => (Y_fieldAddr (B := some ⟨b, 0, none⟩) (i := 0) (s := 0) k_fd_48_2_2_3 k_sz_3_1 rfl rfl)) ?_
        refine sgq 38 (B := r_4) (v := .int .i64 g.B) rfl rfl (wt_t (gd_of (t := 36) (by kernel_rfl) rfl)) (fun hg8 => (Y_load1 (B := some ⟨b, 0, none⟩) (i := 2) (cs := [.int .i64 g.Kind, .int .i64 g.A, .int .i64 g.B]) (v := .int .i64 g.B) k_sc_3 rfl (gv_of (B := r_4) (v := pt (some ⟨b, 0, none⟩) 2) hg8) (hS5.cf (i := 0) rfl) rfl)) ?_
        refine sgq 39 (B := r_4) (v := .int .i64 n) rfl rfl (wt_t (gd_of (t := 36) (by kernel_rfl) rfl)) (fun hg9 => (Y_move (v := .int .i64 n) rfl rfl)) ?_
        refine sgq 40 (B := r_4) (v := .int .i64 (IntKind.i64.wrap (n - 1))) rfl rfl (wt_t (gd_of (t := 36) (by kernel_rfl) rfl)) (fun hg10 => (Y_sub (k := .i64) (a := n) (b := 1) rfl (gv_of (B := r_4) (v := .int .i64 n) hg10) rfl)) ?_
        obtain ⟨r_5, hc4, hF5⟩ := bind_inv hF5
        refine sgc 41 (B := r_4) (v := .bool r_5) (F := hS5.fn) rfl rfl (wt_t (gd_of (t := 36) (by kernel_rfl) rfl)) hS5 (fun hg11 => (Yc_func (g := 37) (vs := [.int .i64 g.B, .int .i64 0, .int .i64 (IntKind.i64.wrap (n - 1))]) k_call_37 rfl (mc (gv_of (B := r_4) (v := .int .i64 g.B) hg11) (mc rfl (mc (gv_of (B := r_4) (v := .int .i64 (IntKind.i64.wrap (n - 1))) hg11) mn))) (CV.mono (c_impl_within g.B 0 (IntKind.i64.wrap (n - 1)) _  (hS5.inn0 [] rfl) (gb_inv hc4 hg11)) (by rintro _ _ ⟨rfl, h⟩; exact ⟨rfl, hS5.out00 h⟩)))) ?_
        rintro w_5 hS6
        have hS6 : ST _ _ w_5 _ _ := hS6
        refine sq 42 rfl rfl (Y_and (b := r_4) (z := r_5) rfl rfl rfl rfl) ?_
        refine sq 43 rfl rfl (Y_move (v := .bool (r_4 && r_5)) rfl rfl) ?_
        refine sgq 44 (B := (r_4 && r_5)) (v := pt (some ⟨b, 0, none⟩) 1) rfl rfl (wt_t (gd_of (t := 43) (by kernel_rfl) rfl)) (fun hg12 => (Y_fieldAddr (B := some ⟨b, 0, none⟩) (i := 0) (s := 0) k_fd_48_1_1_3 k_sz_3_1 rfl rfl)) ?_
        refine sgq 45 (B := (r_4 && r_5)) (v := .int .i64 g.A) rfl rfl (wt_t (gd_of (t := 43) (by kernel_rfl) rfl)) (fun hg13 => (Y_load1 (B := some ⟨b, 0, none⟩) (i := 1) (cs := [.int .i64 g.Kind, .int .i64 g.A, .int .i64 g.B]) (v := .int .i64 g.A) k_sc_3 rfl (gv_of (B := (r_4 && r_5)) (v := pt (some ⟨b, 0, none⟩) 1) hg13) (hS6.cf (i := 0) rfl) rfl)) ?_
        refine sgq 46 (B := (r_4 && r_5)) (v := pt (some ⟨b, 0, none⟩) 2) rfl rfl (wt_t (gd_of (t := 43) (by kernel_rfl) rfl)) (fun hg14 => (Y_fieldAddr (B := some ⟨b, 0, none⟩) (i := 0) (s := 0) k_fd_48_2_2_3 k_sz_3_1 rfl rfl)) ?_
        refine sgq 47 (B := (r_4 && r_5)) (v := .int .i64 g.B) rfl rfl (wt_t (gd_of (t := 43) (by kernel_rfl) rfl)) (fun hg15 => (Y_load1 (B := some ⟨b, 0, none⟩) (i := 2) (cs := [.int .i64 g.Kind, .int .i64 g.A, .int .i64 g.B]) (v := .int .i64 g.B) k_sc_3 rfl (gv_of (B := (r_4 && r_5)) (v := pt (some ⟨b, 0, none⟩) 2) hg15) (hS6.cf (i := 0) rfl) rfl)) ?_
        refine sgq 48 (B := (r_4 && r_5)) (v := .bool (g.A != g.B)) rfl rfl (wt_t (gd_of (t := 43) (by kernel_rfl) rfl)) (fun hg16 => (Y_ne (k := .i64) (a := g.A) (b := g.B) rfl (gv_of (B := (r_4 && r_5)) (v := .int .i64 g.A) hg16) (gv_of (B := (r_4 && r_5)) (v := .int .i64 g.B) hg16))) ?_
        refine sq 49 rfl rfl (Y_and (b := (r_4 && r_5)) (z := (g.A != g.B)) rfl rfl rfl rfl) ?_
        refine sq 4 rfl rfl (Y_assign (v := .bool ((r_4 && r_5) && (g.A != g.B))) rfl rfl) ?_
        refine rw_nil ?_
        refine cw_ret ?_
        obtain rfl := some_inj hF5
        exact ret1 Try.results40 (v1 := .bool ((r_4 && r_5) && (g.A != g.B))) (resAt_tmp rfl) ⟨rfl, (ST.subR (R' := []) (hS6.sel [] rfl rfl) (fun _ h => by cases h))⟩
      · skip
        have hF6 := cf' hF4 hb2
        refine cw_skip ?_
        refine cw_seq ?_
        refine cw_region ?_
        refine sq 50 rfl rfl (Y_fieldAddr (B := some ⟨b, 0, none⟩) (i := 0) (s := 0) k_fd_48_1_1_3 k_sz_3_1 rfl rfl) ?_
        refine sq 51 rfl rfl (Y_load1 (B := some ⟨b, 0, none⟩) (i := 1) (cs := [.int .i64 g.Kind, .int .i64 g.A, .int .i64 g.B]) (v := .int .i64 g.A) k_sc_3 rfl rfl (hS4.cf (i := 0) rfl) rfl) ?_
        refine sq 52 rfl rfl (Y_move (v := .int .i64 n) rfl rfl) ?_
        refine sq 53 rfl rfl (Y_sub (k := .i64) (a := n) (b := 1) rfl rfl rfl) ?_
        obtain ⟨r_6, hc5, hF6⟩ := bind_inv hF6
        refine sc 54 rfl rfl (Yc_func (g := 37) (vs := [.int .i64 g.A, .int .i64 0, .int .i64 (IntKind.i64.wrap (n - 1))]) k_call_37 rfl (mc rfl (mc rfl (mc rfl mn))) (c_impl_within g.A 0 (IntKind.i64.wrap (n - 1)) _  (hS4.inn0 [] rfl) hc5)) ?_
        rintro _ w_6 ⟨rfl, hd3⟩
        have hS7 := hS4.out00 hd3
        refine sq 55 rfl rfl (Y_move (v := .bool r_6) rfl rfl) ?_
        refine sgq 56 (B := r_6) (v := pt (some ⟨b, 0, none⟩) 2) rfl rfl (wt_t (gd_of (t := 55) (by kernel_rfl) rfl)) (fun hg17 => (Y_fieldAddr (B := some ⟨b, 0, none⟩) (i := 0) (s := 0) k_fd_48_2_2_3 k_sz_3_1 rfl rfl)) ?_
        refine sgq 57 (B := r_6) (v := .int .i64 g.B) rfl rfl (wt_t (gd_of (t := 55) (by kernel_rfl) rfl)) (fun hg18 => (Y_load1 (B := some ⟨b, 0, none⟩) (i := 2) (cs := [.int .i64 g.Kind, .int .i64 g.A, .int .i64 g.B]) (v := .int .i64 g.B) k_sc_3 rfl (gv_of (B := r_6) (v := pt (some ⟨b, 0, none⟩) 2) hg18) (hS7.cf (i := 0) rfl) rfl)) ?_
        refine sgq 58 (B := r_6) (v := .bool (g.B == 0)) rfl rfl (wt_t (gd_of (t := 55) (by kernel_rfl) rfl)) (fun hg19 => (Y_eq (k := .i64) (a := g.B) (b := 0) rfl (gv_of (B := r_6) (v := .int .i64 g.B) hg19) rfl)) ?_
        refine sq 59 rfl rfl (Y_and (b := r_6) (z := (g.B == 0)) rfl rfl rfl rfl) ?_
        refine sq 4 rfl rfl (Y_assign (v := .bool (r_6 && (g.B == 0))) rfl rfl) ?_
        refine rw_nil ?_
        refine cw_ret ?_
        obtain rfl := some_inj hF6
        exact ret1 Try.results40 (v1 := .bool (r_6 && (g.B == 0))) (resAt_tmp rfl) ⟨rfl, (ST.subR (R' := []) (hS7.sel [] rfl rfl) (fun _ h => by cases h))⟩

theorem c_impl_IsValidCircuit_1 (g : TGate) (p : TCircuit) (B : Option Addr) (B1 : Option Addr) (c n : Nat) (w0 : World) (hn : p.Gates.length = n) (hS : ST w0 [] w0 [] [⟨B, [.int .i64 p.Qubits, .slice B1 p.Gates.length c]⟩, ⟨B1, (p.Gates.flatMap enc_Gate)⟩]) {r_ : Bool} (hF : F_impl_IsValidCircuit_1 g p = some r_) :
    CV Try.prog 39 #[.agg #[.int .i64 g.Kind, .int .i64 g.A, .int .i64 g.B], pt B 0] w0 (fun v w' => v = .bool r_ ∧ ST w0 [] w' [] []) := by
  subst hn
  unfold F_impl_IsValidCircuit_1 at hF
  refine cv_of_cw 9 Try.func39 rfl Try.ntmps39 rfl ?_
  refine cw_seq ?_
  refine cw_region ?_
  refine ss 2 rfl rfl (Ys_box (T := 48) (v := .agg #[.int .i64 g.Kind, .int .i64 g.A, .int .i64 g.B]) (cs := [.int .i64 g.Kind, .int .i64 g.A, .int .i64 g.B]) (m := 3) hS rfl rfl rfl rfl) ?_
  rintro _ w_ ⟨b, rfl, hS1⟩
  refine sq 3 rfl rfl (Y_assign (v := .bool false) rfl rfl) ?_
  refine rw_nil ?_
  refine cw_seq ?_
  refine cw_region ?_
  refine sq 4 rfl rfl (Y_fieldAddr (B := B) (i := 0) (s := 0) k_fd_36_0_0_3 k_sz_3_1 rfl rfl) ?_
  refine sq 5 rfl rfl (Y_load1 (B := B) (i := 0) (cs := [.int .i64 p.Qubits, .slice B1 p.Gates.length c]) (v := .int .i64 p.Qubits) k_sc_3 rfl rfl (hS1.rf (i := 0) rfl) rfl) ?_
  refine sq 6 rfl rfl (Y_loadA (B := some ⟨b, 0, none⟩) (i := 0) (cs := [.int .i64 g.Kind, .int .i64 g.A, .int .i64 g.B]) (vs := [.int .i64 g.Kind, .int .i64 g.A, .int .i64 g.B]) k_ag_48 k_sz_48_3 rfl rfl (hS1.cf (i := 0) rfl) rfl rfl) ?_
  obtain ⟨r_1, hc, hF⟩ := bind_inv hF
  refine sc 7 rfl rfl (Yc_func (g := 40) (vs := [.int .i64 p.Qubits, .agg #[.int .i64 g.Kind, .int .i64 g.A, .int .i64 g.B]]) k_call_40 rfl (mc rfl (mc rfl mn)) (c_impl_IsValidGate p.Qubits g _  (hS1.inn0 [] rfl) hc)) ?_
  rintro _ w_1 ⟨rfl, hd⟩
  have hS2 := hS1.out00 hd
  refine sq 8 rfl rfl (Y_not (p := r_1) rfl rfl) ?_
  refine sq 3 rfl rfl (Y_assign (v := .bool (!r_1)) rfl rfl) ?_
  refine rw_nil ?_
  refine cw_ret ?_
  obtain rfl := some_inj hF
  exact ret1 Try.results39 (v1 := .bool (!r_1)) (resAt_tmp rfl) ⟨rfl, (ST.subR (R' := []) (hS2.sel [] rfl rfl) (fun _ h => by cases h))⟩

theorem c_impl_IsValidCircuit (c : TCircuit) (B : Option Addr) (c1 n : Nat) (w0 : World) (hn : c.Gates.length = n) (hS : ST w0 [] w0 [] [⟨B, (c.Gates.flatMap enc_Gate)⟩]) {r_ : Bool} (hF : F_impl_IsValidCircuit c = some r_) :
    CV Try.prog 20 #[.agg #[.int .i64 c.Qubits, .slice B n c1]] w0 (fun v w' => v = .bool r_ ∧ ST w0 [] w' [] []) := by
  subst hn
  unfold F_impl_IsValidCircuit at hF
  refine cv_of_cw 19 Try.func20 rfl Try.ntmps20 rfl ?_
  refine cw_seq ?_
  refine cw_region ?_
  refine ss 1 rfl rfl (Ys_box (T := 36) (v := .agg #[.int .i64 c.Qubits, .slice B c.Gates.length c1]) (cs := [.int .i64 c.Qubits, .slice B c.Gates.length c1]) (m := 2) hS rfl rfl rfl rfl) ?_
  rintro _ w_ ⟨b, rfl, hS1⟩
  refine sq 2 rfl rfl (Y_assign (v := .bool false) rfl rfl) ?_
  refine rw_nil ?_
  refine cw_seq ?_
  refine cw_region ?_
  refine sq 3 rfl rfl (Y_fieldAddr (B := some ⟨b, 0, none⟩) (i := 0) (s := 0) k_fd_36_0_0_3 k_sz_3_1 rfl rfl) ?_
  refine sq 4 rfl rfl (Y_load1 (B := some ⟨b, 0, none⟩) (i := 0) (cs := [.int .i64 c.Qubits, .slice B c.Gates.length c1]) (v := .int .i64 c.Qubits) k_sc_3 rfl rfl (hS1.cf (i := 0) rfl) rfl) ?_
  obtain ⟨r_1, hc, hF⟩ := bind_inv hF
  refine sc 5 rfl rfl (Yc_func (g := 37) (vs := [.int .i64 c.Qubits, .int .i64 1, .int .i64 5]) k_call_37 rfl (mc rfl (mc rfl (mc rfl mn))) (c_impl_within c.Qubits 1 5 _  (hS1.inn0 [] rfl) hc)) ?_
  rintro _ w_1 ⟨rfl, hd⟩
  have hS2 := hS1.out00 hd
  refine sq 6 rfl rfl (Y_move (v := .bool r_1) rfl rfl) ?_
  refine sgq 7 (B := r_1) (v := pt (some ⟨b, 0, none⟩) 1) rfl rfl (wt_t (gd_of (t := 6) (by kernel_rfl) rfl)) (fun hg => (Y_fieldAddr (B := some ⟨b, 0, none⟩) (i := 0) (s := 0) k_fd_36_1_1_34 k_sz_34_1 rfl rfl)) ?_
  refine sgq 8 (B := r_1) (v := .slice B c.Gates.length c1) rfl rfl (wt_t (gd_of (t := 6) (by kernel_rfl) rfl)) (fun hg1 => (Y_load1 (B := some ⟨b, 0, none⟩) (i := 1) (cs := [.int .i64 c.Qubits, .slice B c.Gates.length c1]) (v := .slice B c.Gates.length c1) k_sc_34 rfl (gv_of (B := r_1) (v := pt (some ⟨b, 0, none⟩) 1) hg1) (hS2.cf (i := 0) rfl) rfl)) ?_
  refine sgq 9 (B := r_1) (v := .int .i64 (c.Gates.length : Int)) rfl rfl (wt_t (gd_of (t := 6) (by kernel_rfl) rfl)) (fun hg2 => (Y_len (B := B) (m := c.Gates.length) (c := c1) k_sl_34_48 rfl (gv_of (B := r_1) (v := .slice B c.Gates.length c1) hg2))) ?_
  refine sgq 10 (B := r_1) (v := .bool (decide ((c.Gates.length : Int) ≤ 400))) rfl rfl (wt_t (gd_of (t := 6) (by kernel_rfl) rfl)) (fun hg3 => (Y_le (k := .i64) (a := (c.Gates.length : Int)) (b := 400) rfl (gv_of (B := r_1) (v := .int .i64 (c.Gates.length : Int)) hg3) rfl)) ?_
  refine sq 11 rfl rfl (Y_and (b := r_1) (z := (decide ((c.Gates.length : Int) ≤ 400))) rfl rfl rfl rfl) ?_
  refine sq 12 rfl rfl (Y_move (v := .bool (r_1 && (decide ((c.Gates.length : Int) ≤ 400)))) rfl rfl) ?_
  refine sgq 13 (B := (r_1 && (decide ((c.Gates.length : Int) ≤ 400)))) (v := pt (some ⟨b, 0, none⟩) 1) rfl rfl (wt_t (gd_of (t := 12) (by kernel_rfl) rfl)) (fun hg4 => (Y_fieldAddr (B := some ⟨b, 0, none⟩) (i := 0) (s := 0) k_fd_36_1_1_34 k_sz_34_1 rfl rfl)) ?_
  refine sgq 14 (B := (r_1 && (decide ((c.Gates.length : Int) ≤ 400)))) (v := .slice B c.Gates.length c1) rfl rfl (wt_t (gd_of (t := 12) (by kernel_rfl) rfl)) (fun hg5 => (Y_load1 (B := some ⟨b, 0, none⟩) (i := 1) (cs := [.int .i64 c.Qubits, .slice B c.Gates.length c1]) (v := .slice B c.Gates.length c1) k_sc_34 rfl (gv_of (B := (r_1 && (decide ((c.Gates.length : Int) ≤ 400)))) (v := pt (some ⟨b, 0, none⟩) 1) hg5) (hS2.cf (i := 0) rfl) rfl)) ?_
  refine sgq 15 (B := (r_1 && (decide ((c.Gates.length : Int) ≤ 400)))) (v := .func (.func 39) #[] #[pt (some ⟨b, 0, none⟩) 0]) rfl rfl (wt_t (gd_of (t := 12) (by kernel_rfl) rfl)) (fun hg6 => (Y_makeFunc (cs := [pt (some ⟨b, 0, none⟩) 0]) rfl rfl (mc rfl mn))) ?_
  obtain ⟨r_2, hc1, hF⟩ := bind_inv hF
  refine sgc 16 (B := (r_1 && (decide ((c.Gates.length : Int) ≤ 400)))) (v := .bool r_2) (F := hS2.fn) rfl rfl (wt_t (gd_of (t := 12) (by kernel_rfl) rfl)) hS2 (fun hg7 => (Yc_func (g := 38) (vs := [.slice B c.Gates.length c1, .func (.func 39) #[] #[pt (some ⟨b, 0, none⟩) 0]]) k_call_38 rfl (mc (gv_of (B := (r_1 && (decide ((c.Gates.length : Int) ≤ 400)))) (v := .slice B c.Gates.length c1) hg7) (mc (gv_of (B := (r_1 && (decide ((c.Gates.length : Int) ≤ 400)))) (v := .func (.func 39) #[] #[pt (some ⟨b, 0, none⟩) 0]) hg7) mn)) (CV.mono (c_slices_ContainsFunc_impl_Gate_impl_Gate c.Gates (fun x_0 => F_impl_IsValidCircuit_1 x_0 c) B c1 c.Gates.length 39 (#[pt (some ⟨b, 0, none⟩) 0]) [⟨some ⟨b, 0, none⟩, [.int .i64 c.Qubits, .slice B c.Gates.length c1]⟩, ⟨B, (c.Gates.flatMap enc_Gate)⟩] _ rfl k_call_39 (fun w hw x_0 y_ h_ => c_impl_IsValidCircuit_1 x_0 c (some ⟨b, 0, none⟩) B c1 c.Gates.length w rfl hw h_) (hS2.inn0 [(true, 0), (false, 0), (true, 0)] rfl) (gb_inv hc1 hg7)) (by rintro _ _ ⟨rfl, h⟩; exact ⟨rfl, hS2.out00 h⟩)))) ?_
  rintro w_2 hS3
  have hS3 : ST _ _ w_2 _ _ := hS3
  refine sgq 17 (B := (r_1 && (decide ((c.Gates.length : Int) ≤ 400)))) (v := .bool (!r_2)) rfl rfl (wt_t (gd_of (t := 12) (by kernel_rfl) rfl)) (fun hg8 => (Y_not (p := r_2) rfl (gv_of (B := (r_1 && (decide ((c.Gates.length : Int) ≤ 400)))) (v := .bool r_2) hg8))) ?_
  refine sq 18 rfl rfl (Y_and (b := (r_1 && (decide ((c.Gates.length : Int) ≤ 400)))) (z := (!r_2)) rfl rfl rfl rfl) ?_
  refine sq 2 rfl rfl (Y_assign (v := .bool ((r_1 && (decide ((c.Gates.length : Int) ≤ 400))) && (!r_2))) rfl rfl) ?_
  refine rw_nil ?_
  refine cw_ret ?_
  obtain rfl := some_inj hF
  exact ret1 Try.results20 (v1 := .bool ((r_1 && (decide ((c.Gates.length : Int) ≤ 400))) && (!r_2))) (resAt_tmp rfl) ⟨rfl, (ST.subR (R' := []) (hS3.sel [] rfl rfl) (fun _ h => by cases h))⟩

theorem c_impl_identityLinear (n : Int)  (w0 : World)  (hS : ST w0 [] w0 [] []) {r_ : TLinear} (hF : F_impl_identityLinear n = some r_) :
    CV Try.prog 21 #[.int .i64 n] w0 (fun v w' => ∃ (B : Option Addr) (c : Nat), v = .agg #[.slice B r_.Rows.length c] ∧ ST w0 [] w' [⟨B, 3, (r_.Rows.flatMap encI), c * 1⟩] []) := by
  unfold F_impl_identityLinear at hF
  refine cv_of_cw 19 Try.func21 rfl Try.ntmps21 rfl ?_
  refine cw_seq ?_
  refine cw_region ?_
  refine ss 2 rfl rfl (Ys_alloc (T := 29) (cs := [.slice none 0 0]) (m := 1) hS k_zero_29 rfl rfl rfl) ?_
  rintro _ w_ ⟨b, rfl, hS1⟩
  refine rw_nil ?_
  refine cw_seq ?_
  refine cw_region ?_
  refine sq 5 rfl rfl (Y_buildS (zs := [.slice none 0 0]) (vs := []) (cs := [.slice none 0 0]) k_pl_29 k_zero_29 rfl mpn rfl) ?_
  refine ss 3 rfl rfl (Ys_alloc (T := 29) (cs := [.slice none 0 0]) (m := 1) hS1 k_zero_29 rfl rfl rfl) ?_
  rintro _ w_1 ⟨b1, rfl, hS2⟩
  have hS2 : ST w0 [] _ [⟨some ⟨b, 0, none⟩, 29, [.slice none 0 0], 1⟩, ⟨some ⟨b1, 0, none⟩, 29, [.slice none 0 0], 1⟩] [] := hS2
  refine ss0 rfl rfl (Ys_store (i := 1) (s := 1) (B := some ⟨b1, 0, none⟩) (T' := 29) (v := .agg #[.slice none 0 0]) (vs := [.slice none 0 0]) (k := 0) (cs' := [.slice none 0 0]) hS2 k_sz_29_1 rfl rfl rfl rfl rfl rfl rfl (Nat.le_of_ble_eq_true rfl) rfl rfl) ?_
  rintro _ w_2 ⟨rfl, hS3⟩
  have hS3 : ST w0 [] _ [⟨some ⟨b, 0, none⟩, 29, [.slice none 0 0], 1⟩, ⟨some ⟨b1, 0, none⟩, 29, [.slice none 0 0], 1⟩] [] := hS3
  refine rw_nil ?_
  refine cw_seq ?_
  refine cw_seq ?_
  refine cw_region ?_
  refine sq 6 rfl rfl (Y_move (v := .int .i64 n) rfl rfl) ?_
  refine sq 7 rfl rfl (Y_move (v := .int .i64 0) rfl rfl) ?_
  refine rw_nil ?_
  obtain ⟨hN, hF⟩ := chk_inv hF
  obtain ⟨z, hz, hF1⟩ := bind_inv hF
  have hS5 := hS3.addNil 3
  refine cw_block ?_
  refine cw_loop (fun k f w => ∃ (i : Nat) (Rows : List Int) (B1 : Option Addr) (c1 : Nat), FF f [(2, pt (some ⟨b, 0, none⟩) 0), (3, pt (some ⟨b1, 0, none⟩) 0), (6, .int .i64 n), (7, .int .i64 (i : Int))] ∧ ST w0 [] w [⟨some ⟨b, 0, none⟩, 29, [.slice none 0 0], 1⟩, ⟨some ⟨b1, 0, none⟩, 29, [.slice B1 Rows.length c1], 1⟩, ⟨B1, 3, (Rows.flatMap encI), c1 * 1⟩] [] ∧ i + k = n.toNat ∧ forN F_impl_identityLinear_l1 k i Rows = some z) n.toNat ⟨0, [], none, 0, (FF.cons rfl (FF.cons rfl (FF.cons rfl (FF.cons rfl FF.nil)))), (hS5.sel [0, 1, 2] rfl rfl), Nat.zero_add _, hz⟩ ?_
  rintro k_ f w ⟨i, Rows, B1, c1, hf, hS4, hik, hL⟩
  refine cw_seq ?_
  refine cw_region ?_
  refine sq 8 rfl rfl (Y_lt (k := .i64) (a := (i : Int)) (b := n) rfl (hf.get 7 3 rfl) (hf.get 6 2 rfl)) ?_
  refine rw_nil ?_
  refine cw_seq ?_
  refine cw_cond (b := (decide ((i : Int) < n))) rfl (fun hlt => ?_) (fun hlt => ?_)
  · skip
    have hlt1 : i < n.toNat := by have h := of_decide_eq_true hlt; omega
    obtain ⟨k_1, rfl⟩ : ∃ k2, k_ = k2 + 1 := ⟨k_ - 1, by omega⟩
    obtain ⟨y, hb, hL1⟩ := forN_go hL
    unfold F_impl_identityLinear_l1 at hb
    refine cw_skip ?_
    refine cw_seq ?_
    refine cw_block ?_
    refine cw_seq ?_
    refine cw_region ?_
    refine sq 9 rfl rfl (Y_move (v := .int .i64 (i : Int)) rfl (hf.get 7 3 rfl)) ?_
    refine sq 4 rfl rfl (Y_assign (v := .int .i64 (i : Int)) rfl rfl) ?_
    refine rw_nil ?_
    obtain ⟨hsh, hb⟩ := chk_inv hb
    obtain ⟨hap, hb⟩ := chk_inv hb
    refine cw_mid (fun f w => ∃ (B3 : Option Addr) (c3 : Nat), FF f [(2, pt (some ⟨b, 0, none⟩) 0), (3, pt (some ⟨b1, 0, none⟩) 0), (6, .int .i64 n), (7, .int .i64 (i : Int))] ∧ ST w0 [] w [⟨some ⟨b, 0, none⟩, 29, [.slice none 0 0], 1⟩, ⟨some ⟨b1, 0, none⟩, 29, [.slice B3 ((Rows ++ [(shlK .i64 1 (i : Int))]).length) c3], 1⟩, ⟨B3, 3, ((Rows ++ [(shlK .i64 1 (i : Int))]).flatMap encI), c3 * 1⟩] []) ?_ ?_
    · skip
      refine ra_start (ST.sel hS4 [0] rfl rfl).fn (by kernel_rfl) ?_
      have hS7 := hS4.drew
      refine ra_q 0 10 (v := pt (some ⟨b1, 0, none⟩) 0) rfl rfl rfl (by kernel_rfl) (by kernel_rfl) (by kernel_rfl) (ST.sel hS7 [0] rfl rfl) (fun w' hw' => (Y_fieldAddr (B := some ⟨b1, 0, none⟩) (i := 0) (s := 0) k_fd_29_0_0_27 k_sz_27_1 rfl (hf.get 3 1 rfl))) ?_
      refine ra_q 2 12 (v := .int .i64 (i : Int)) rfl rfl rfl (by kernel_rfl) (by kernel_rfl) (by kernel_rfl) (ST.sel hS7 [0] rfl rfl) (fun w' hw' => (Y_move (v := .int .i64 (i : Int)) rfl rfl)) ?_
      refine ra_q 3 13 (v := .int .i64 (shlK .i64 1 (i : Int))) rfl rfl rfl (by kernel_rfl) (by kernel_rfl) (by kernel_rfl) (ST.sel hS7 [0] rfl rfl) (fun w' hw' => (Y_shl (k := .i64) (a := 1) (k' := .i64) (b := (i : Int)) rfl rfl rfl hsh)) ?_
      refine ra_all (rs := [1, 4]) (by kernel_rfl) rfl ?_
      refine ra_y 11 (i := 1) (v := .slice B1 Rows.length c1) rfl rfl rfl (Y_load1 (B := some ⟨b1, 0, none⟩) (i := 0) (cs := [.slice B1 Rows.length c1]) (v := .slice B1 Rows.length c1) k_sc_27 rfl rfl (hS7.cf (i := 1) rfl) rfl) (ST.sel hS7 [0] rfl rfl) ?_ ?_
      · skip
        refine ra_all (rs := [4]) (by kernel_rfl) rfl ?_
        refine ra_s 14 (i := 4) rfl rfl rfl (Ys_bslice (s := 1) (len := 1) (vs := [(0, .int .i64 (shlK .i64 1 (i : Int)))]) (cs := [.int .i64 (shlK .i64 1 (i : Int))]) (zs := [.int .i64 0]) (m := 1) hS7 k_sl_27_3 k_sz_3_1 k_zc_3 rfl (mpc rfl mpn) rfl rfl rfl rfl rfl rfl) ?_ ?_
        · rintro _ w_3 ⟨b2, rfl, hS8⟩
          have hS8 : ST w0 [] _ [⟨some ⟨b, 0, none⟩, 29, [.slice none 0 0], 1⟩, ⟨some ⟨b1, 0, none⟩, 29, [.slice B1 Rows.length c1], 1⟩, ⟨B1, 3, (Rows.flatMap encI), c1 * 1⟩, ⟨some ⟨b2, 0, none⟩, 3, ([(shlK .i64 1 (i : Int))].flatMap encI), 1 * 1⟩] [] := hS8
          refine ⟨(ST.sel hS8 [0] rfl rfl), ?_⟩
          refine ra_all (rs := [5]) (by kernel_rfl) rfl ?_
          refine ra_s 15 (i := 5) rfl rfl rfl (Ys_append (s := 1) (by' := 8) (i := 2) (nn := Rows.length) (c := c1) (k := 1) (len := (Rows ++ [(shlK .i64 1 (i : Int))]).length) (B := B1) (xs := ([(shlK .i64 1 (i : Int))].flatMap encI)) (cs' := ((Rows ++ [(shlK .i64 1 (i : Int))]).flatMap encI)) hS8 k_sl_27_3 k_sz_3_1 k_by_3_8 k_zero_3 rfl (by decide) rfl rfl rfl rfl (fm_lenn (l := Rows) encI_len rfl) rfl (hS8.cf (i := 3) rfl) (fm_lenn (l := [(shlK .i64 1 (i : Int))]) encI_len rfl) (fm_one' (enc := encI) encI_one [(shlK .i64 1 (i : Int))]) (by have := hap; omega) (by have := hap; simp only [maxLen]; omega) (fm_app _ _) (app_len (l := Rows) (l' := [(shlK .i64 1 (i : Int))]) rfl rfl)) ?_ ?_
          · rintro _ w_4 ⟨B2, c2, rfl, hS9⟩
            have hS9 : ST w0 [] _ [⟨some ⟨b, 0, none⟩, 29, [.slice none 0 0], 1⟩, ⟨some ⟨b1, 0, none⟩, 29, [.slice B1 Rows.length c1], 1⟩, ⟨B2, 3, ((Rows ++ [(shlK .i64 1 (i : Int))]).flatMap encI), c2 * 1⟩, ⟨some ⟨b2, 0, none⟩, 3, ([(shlK .i64 1 (i : Int))].flatMap encI), 1 * 1⟩] [] := hS9
            refine ⟨(ST.sel hS9 [0] rfl rfl), ?_⟩
            refine ra_q 6 16 (v := pt (some ⟨b1, 0, none⟩) 0) rfl rfl rfl (by kernel_rfl) (by kernel_rfl) (by kernel_rfl) (ST.sel hS9 [0] rfl rfl) (fun w' hw' => (Y_fieldAddr (B := some ⟨b1, 0, none⟩) (i := 0) (s := 0) k_fd_29_0_0_27 k_sz_27_1 rfl (hf.get 3 1 rfl))) ?_
            refine ra_all (rs := [7]) (by kernel_rfl) rfl ?_
            refine ra_s0 (i := 7) rfl rfl rfl (Ys_store (i := 1) (s := 1) (B := some ⟨b1, 0, none⟩) (T' := 29) (v := .slice B2 ((Rows ++ [(shlK .i64 1 (i : Int))]).length) c2) (vs := [.slice B2 ((Rows ++ [(shlK .i64 1 (i : Int))]).length) c2]) (k := 0) (cs' := [.slice B2 ((Rows ++ [(shlK .i64 1 (i : Int))]).length) c2]) hS9 k_sz_27_1 rfl rfl rfl rfl rfl rfl rfl (Nat.le_of_ble_eq_true rfl) rfl rfl) ?_ ?_
            · rintro _ w_5 ⟨rfl, hS10⟩
              have hS10 : ST w0 [] _ [⟨some ⟨b, 0, none⟩, 29, [.slice none 0 0], 1⟩, ⟨some ⟨b1, 0, none⟩, 29, [.slice B2 ((Rows ++ [(shlK .i64 1 (i : Int))]).length) c2], 1⟩, ⟨B2, 3, ((Rows ++ [(shlK .i64 1 (i : Int))]).flatMap encI), c2 * 1⟩, ⟨some ⟨b2, 0, none⟩, 3, ([(shlK .i64 1 (i : Int))].flatMap encI), 1 * 1⟩] [] := hS10
              refine ⟨(ST.sel hS10 [0] rfl rfl), ?_⟩
              refine ra_done (by kernel_rfl) ?_
              exact ⟨B2, c2, (FF.cons (hf.get 2 0 rfl) (FF.cons (hf.get 3 1 rfl) (FF.cons (hf.get 6 2 rfl) (FF.cons (hf.get 7 3 rfl) FF.nil)))), (hS10.sel [0, 1, 2] rfl rfl)⟩
            exact allR_nil
          exact allR_nil
        exact allR_nil
      refine ra_s 14 (i := 4) rfl rfl rfl (Ys_bslice (s := 1) (len := 1) (vs := [(0, .int .i64 (shlK .i64 1 (i : Int)))]) (cs := [.int .i64 (shlK .i64 1 (i : Int))]) (zs := [.int .i64 0]) (m := 1) hS7 k_sl_27_3 k_sz_3_1 k_zc_3 rfl (mpc rfl mpn) rfl rfl rfl rfl rfl rfl) ?_ ?_
      · rintro _ w_6 ⟨b2, rfl, hS11⟩
        have hS11 : ST w0 [] _ [⟨some ⟨b, 0, none⟩, 29, [.slice none 0 0], 1⟩, ⟨some ⟨b1, 0, none⟩, 29, [.slice B1 Rows.length c1], 1⟩, ⟨B1, 3, (Rows.flatMap encI), c1 * 1⟩, ⟨some ⟨b2, 0, none⟩, 3, ([(shlK .i64 1 (i : Int))].flatMap encI), 1 * 1⟩] [] := hS11
        refine ⟨(ST.sel hS11 [0] rfl rfl), ?_⟩
        refine ra_all (rs := [1]) (by kernel_rfl) rfl ?_
        refine ra_y 11 (i := 1) (v := .slice B1 Rows.length c1) rfl rfl rfl (Y_load1 (B := some ⟨b1, 0, none⟩) (i := 0) (cs := [.slice B1 Rows.length c1]) (v := .slice B1 Rows.length c1) k_sc_27 rfl rfl (hS11.cf (i := 1) rfl) rfl) (ST.sel hS11 [0] rfl rfl) ?_ ?_
        · skip
          refine ra_all (rs := [5]) (by kernel_rfl) rfl ?_
          refine ra_s 15 (i := 5) rfl rfl rfl (Ys_append (s := 1) (by' := 8) (i := 2) (nn := Rows.length) (c := c1) (k := 1) (len := (Rows ++ [(shlK .i64 1 (i : Int))]).length) (B := B1) (xs := ([(shlK .i64 1 (i : Int))].flatMap encI)) (cs' := ((Rows ++ [(shlK .i64 1 (i : Int))]).flatMap encI)) hS11 k_sl_27_3 k_sz_3_1 k_by_3_8 k_zero_3 rfl (by decide) rfl rfl rfl rfl (fm_lenn (l := Rows) encI_len rfl) rfl (hS11.cf (i := 3) rfl) (fm_lenn (l := [(shlK .i64 1 (i : Int))]) encI_len rfl) (fm_one' (enc := encI) encI_one [(shlK .i64 1 (i : Int))]) (by have := hap; omega) (by have := hap; simp only [maxLen]; omega) (fm_app _ _) (app_len (l := Rows) (l' := [(shlK .i64 1 (i : Int))]) rfl rfl)) ?_ ?_
          · rintro _ w_7 ⟨B2, c2, rfl, hS12⟩
            have hS12 : ST w0 [] _ [⟨some ⟨b, 0, none⟩, 29, [.slice none 0 0], 1⟩, ⟨some ⟨b1, 0, none⟩, 29, [.slice B1 Rows.length c1], 1⟩, ⟨B2, 3, ((Rows ++ [(shlK .i64 1 (i : Int))]).flatMap encI), c2 * 1⟩, ⟨some ⟨b2, 0, none⟩, 3, ([(shlK .i64 1 (i : Int))].flatMap encI), 1 * 1⟩] [] := hS12
            refine ⟨(ST.sel hS12 [0] rfl rfl), ?_⟩
            refine ra_q 6 16 (v := pt (some ⟨b1, 0, none⟩) 0) rfl rfl rfl (by kernel_rfl) (by kernel_rfl) (by kernel_rfl) (ST.sel hS12 [0] rfl rfl) (fun w' hw' => (Y_fieldAddr (B := some ⟨b1, 0, none⟩) (i := 0) (s := 0) k_fd_29_0_0_27 k_sz_27_1 rfl (hf.get 3 1 rfl))) ?_
            refine ra_all (rs := [7]) (by kernel_rfl) rfl ?_
            refine ra_s0 (i := 7) rfl rfl rfl (Ys_store (i := 1) (s := 1) (B := some ⟨b1, 0, none⟩) (T' := 29) (v := .slice B2 ((Rows ++ [(shlK .i64 1 (i : Int))]).length) c2) (vs := [.slice B2 ((Rows ++ [(shlK .i64 1 (i : Int))]).length) c2]) (k := 0) (cs' := [.slice B2 ((Rows ++ [(shlK .i64 1 (i : Int))]).length) c2]) hS12 k_sz_27_1 rfl rfl rfl rfl rfl rfl rfl (Nat.le_of_ble_eq_true rfl) rfl rfl) ?_ ?_
            · rintro _ w_8 ⟨rfl, hS13⟩
              have hS13 : ST w0 [] _ [⟨some ⟨b, 0, none⟩, 29, [.slice none 0 0], 1⟩, ⟨some ⟨b1, 0, none⟩, 29, [.slice B2 ((Rows ++ [(shlK .i64 1 (i : Int))]).length) c2], 1⟩, ⟨B2, 3, ((Rows ++ [(shlK .i64 1 (i : Int))]).flatMap encI), c2 * 1⟩, ⟨some ⟨b2, 0, none⟩, 3, ([(shlK .i64 1 (i : Int))].flatMap encI), 1 * 1⟩] [] := hS13
              refine ⟨(ST.sel hS13 [0] rfl rfl), ?_⟩
              refine ra_done (by kernel_rfl) ?_
              exact ⟨B2, c2, (FF.cons (hf.get 2 0 rfl) (FF.cons (hf.get 3 1 rfl) (FF.cons (hf.get 6 2 rfl) (FF.cons (hf.get 7 3 rfl) FF.nil)))), (hS13.sel [0, 1, 2] rfl rfl)⟩
            exact allR_nil
          exact allR_nil
        exact allR_nil
      exact allR_nil
    rintro f w ⟨B3, c3, hf1, hS6⟩
    refine cw_region ?_
    refine sq 17 rfl rfl (Y_add (k := .i64) (a := (i : Int)) (b := 1) rfl (hf1.get 7 3 rfl) rfl) ?_
    refine sq 7 rfl rfl (Y_move (v := .int .i64 (IntKind.i64.wrap ((i : Int) + 1))) rfl rfl) ?_
    refine rw_nil ?_
    obtain rfl := some_inj hb
    exact ⟨k_1, Nat.lt_succ_self _, i + 1, (Rows ++ [(shlK .i64 1 (i : Int))]), B3, c3, (FF.cons (hf1.get 2 0 rfl) (FF.cons (hf1.get 3 1 rfl) (FF.cons (hf1.get 6 2 rfl) (FF.cons (congrArg (Value.int .i64) (wr_succ hlt1 hN)) FF.nil)))), (hS6.sel [0, 1, 2] rfl rfl), (by omega), hL1⟩
  · skip
    obtain rfl : k_ = 0 := by have h := of_decide_eq_false hlt; omega
    refine cw_exit rfl ?_
    obtain rfl := some_inj hL
    refine cw_seq ?_
    refine cw_region ?_
    refine sq 18 rfl rfl (Y_loadA (B := some ⟨b1, 0, none⟩) (i := 0) (cs := [.slice B1 Rows.length c1]) (vs := [.slice B1 Rows.length c1]) k_ag_29 k_sz_29_1 rfl (hf.get 3 1 rfl) (hS4.cf (i := 1) rfl) rfl rfl) ?_
    refine ss0 rfl rfl (Ys_store (i := 0) (s := 1) (B := some ⟨b, 0, none⟩) (T' := 29) (v := .agg #[.slice B1 Rows.length c1]) (vs := [.slice B1 Rows.length c1]) (k := 0) (cs' := [.slice B1 Rows.length c1]) hS4 k_sz_29_1 rfl (hf.get 2 0 rfl) rfl rfl rfl rfl rfl (Nat.le_of_ble_eq_true rfl) rfl rfl) ?_
    rintro _ w_9 ⟨rfl, hS14⟩
    have hS14 : ST w0 [] _ [⟨some ⟨b, 0, none⟩, 29, [.slice B1 Rows.length c1], 1⟩, ⟨some ⟨b1, 0, none⟩, 29, [.slice B1 Rows.length c1], 1⟩, ⟨B1, 3, (Rows.flatMap encI), c1 * 1⟩] [] := hS14
    refine rw_nil ?_
    refine cw_ret ?_
    obtain rfl := some_inj hF1
    exact ret1 Try.results21 (v1 := .agg #[.slice B1 Rows.length c1]) (resAt_cellA (B := some ⟨b, 0, none⟩) (i := 0) (cs := [.slice B1 Rows.length c1]) (vs := [.slice B1 Rows.length c1]) (hf.get 2 0 rfl) k_ag_29 k_sz_29_1 (hS14.cf (i := 0) rfl) rfl rfl) ⟨B1, c1, rfl, (ST.subR (R' := []) (hS14.sel [2] rfl rfl) (fun _ h => by cases h))⟩

theorem c_impl_coefficients_add (c : List Int) (mask : Int) (coef : Int) (B : Option Addr) (w0 : World) (hlen : c.length = 32) (hS : ST w0 (bl [⟨B, 54, (c.flatMap encI), 32⟩]) w0 [⟨B, 54, (c.flatMap encI), 32⟩] []) {m : List Int} (hF : F_impl_coefficients_add c mask coef = some m) :
    CV Try.prog 22 #[pt B 0, .int .i64 mask, .int .i64 coef] w0 (fun v w' => v = .tuple #[] ∧ m.length = 32 ∧ ST w0 (bl [⟨B, 54, (c.flatMap encI), 32⟩]) w' [⟨B, 54, (m.flatMap encI), 32⟩] []) := by
  unfold F_impl_coefficients_add at hF
  refine cv_of_cw 20 Try.func22 rfl Try.ntmps22 rfl ?_
  obtain ⟨x, hx, hF⟩ := bind_inv hF
  refine ra_start (ST.sel hS [] rfl rfl).fn (by kernel_rfl) ?_
  have hS1 := hS.drew
  refine ra_q 0 6 (v := pt B 0) rfl rfl rfl (by kernel_rfl) (by kernel_rfl) (by kernel_rfl) (ST.sel hS1 [] rfl rfl) (fun w' hw' => (Y_move (v := pt B 0) rfl rfl)) ?_
  refine ra_q 1 7 (v := .int .i64 mask) rfl rfl rfl (by kernel_rfl) (by kernel_rfl) (by kernel_rfl) (ST.sel hS1 [] rfl rfl) (fun w' hw' => (Y_move (v := .int .i64 mask) rfl rfl)) ?_
  refine ra_q 2 8 (v := pt B 0) rfl rfl rfl (by kernel_rfl) (by kernel_rfl) (by kernel_rfl) (ST.sel hS1 [] rfl rfl) (fun w' hw' => (Y_move (v := pt B 0) rfl rfl)) ?_
  refine ra_q 3 9 (v := .int .i64 mask) rfl rfl rfl (by kernel_rfl) (by kernel_rfl) (by kernel_rfl) (ST.sel hS1 [] rfl rfl) (fun w' hw' => (Y_move (v := .int .i64 mask) rfl rfl)) ?_
  refine ra_q 4 10 (v := pt B 0) rfl rfl rfl (by kernel_rfl) (by kernel_rfl) (by kernel_rfl) (ST.sel hS1 [] rfl rfl) (fun w' hw' => (Y_nilCheck (B := B) (i := 0) rfl rfl)) ?_
  refine ra_q 5 11 (v := pt B (mask.toNat * 1)) rfl rfl rfl (by kernel_rfl) (by kernel_rfl) (by kernel_rfl) (ST.sel hS1 [] rfl rfl) (fun w' hw' => (Y_indexArr0 (B := B) (k := .i64) (i := mask) k_ar_54_32_3 k_sz_3_1 rfl rfl rfl (getI_nn hx) (getI_ltI hx hlen))) ?_
  refine ra_q 7 13 (v := .int .i64 coef) rfl rfl rfl (by kernel_rfl) (by kernel_rfl) (by kernel_rfl) (ST.sel hS1 [] rfl rfl) (fun w' hw' => (Y_move (v := .int .i64 coef) rfl rfl)) ?_
  refine ra_q 12 18 (v := pt B 0) rfl rfl rfl (by kernel_rfl) (by kernel_rfl) (by kernel_rfl) (ST.sel hS1 [] rfl rfl) (fun w' hw' => (Y_nilCheck (B := B) (i := 0) rfl rfl)) ?_
  refine ra_all (rs := [6]) (by kernel_rfl) rfl ?_
  refine ra_y 12 (i := 6) (v := .int .i64 x) rfl rfl rfl (Y_load1 (B := B) (i := mask.toNat * 1) (cs := (c.flatMap encI)) (v := .int .i64 x) k_sc_3 rfl rfl (hS1.cf (i := 0) rfl) (gi_at0 encI_len hx rfl)) (ST.sel hS1 [] rfl rfl) ?_ ?_
  · skip
    refine ra_q 8 14 (v := .int .i64 (IntKind.i64.wrap (x + coef))) rfl rfl rfl (by kernel_rfl) (by kernel_rfl) (by kernel_rfl) (ST.sel hS1 [] rfl rfl) (fun w' hw' => (Y_add (k := .i64) (a := x) (b := coef) rfl rfl rfl)) ?_
    refine ra_q 9 15 (v := .int .i64 (Int.tmod (IntKind.i64.wrap (x + coef)) 8)) rfl rfl rfl (by kernel_rfl) (by kernel_rfl) (by kernel_rfl) (ST.sel hS1 [] rfl rfl) (fun w' hw' => (Y_rem (k := .i64) (a := (IntKind.i64.wrap (x + coef))) (b := 8) rfl rfl rfl (by decide))) ?_
    refine ra_q 10 16 (v := .int .i64 (IntKind.i64.wrap ((Int.tmod (IntKind.i64.wrap (x + coef)) 8) + 8))) rfl rfl rfl (by kernel_rfl) (by kernel_rfl) (by kernel_rfl) (ST.sel hS1 [] rfl rfl) (fun w' hw' => (Y_add (k := .i64) (a := (Int.tmod (IntKind.i64.wrap (x + coef)) 8)) (b := 8) rfl rfl rfl)) ?_
    refine ra_q 11 17 (v := .int .i64 (Int.tmod (IntKind.i64.wrap ((Int.tmod (IntKind.i64.wrap (x + coef)) 8) + 8)) 8)) rfl rfl rfl (by kernel_rfl) (by kernel_rfl) (by kernel_rfl) (ST.sel hS1 [] rfl rfl) (fun w' hw' => (Y_rem (k := .i64) (a := (IntKind.i64.wrap ((Int.tmod (IntKind.i64.wrap (x + coef)) 8) + 8))) (b := 8) rfl rfl rfl (by decide))) ?_
    refine ra_q 13 19 (v := pt B (mask.toNat * 1)) rfl rfl rfl (by kernel_rfl) (by kernel_rfl) (by kernel_rfl) (ST.sel hS1 [] rfl rfl) (fun w' hw' => (Y_indexArr0 (B := B) (k := .i64) (i := mask) k_ar_54_32_3 k_sz_3_1 rfl rfl rfl (getI_nn hx) (getI_ltI hx hlen))) ?_
    refine ra_all (rs := [14]) (by kernel_rfl) rfl ?_
    refine ra_s0 (i := 14) rfl rfl rfl (Ys_store (i := 0) (s := 1) (B := B) (T' := 54) (v := .int .i64 (Int.tmod (IntKind.i64.wrap ((Int.tmod (IntKind.i64.wrap (x + coef)) 8) + 8)) 8)) (vs := [.int .i64 (Int.tmod (IntKind.i64.wrap ((Int.tmod (IntKind.i64.wrap (x + coef)) 8) + 8)) 8)]) (k := mask.toNat * 1) (cs' := ((c.set mask.toNat (Int.tmod (IntKind.i64.wrap ((Int.tmod (IntKind.i64.wrap (x + coef)) 8) + 8)) 8)).flatMap encI)) hS1 k_sz_3_1 rfl rfl rfl rfl rfl rfl rfl (gi_fit0 encI_len hx) (gi_set encI_len hx (Int.tmod (IntKind.i64.wrap ((Int.tmod (IntKind.i64.wrap (x + coef)) 8) + 8)) 8) rfl) rfl) ?_ ?_
    · rintro _ w_ ⟨rfl, hS2⟩
      refine ⟨(ST.sel hS2 [] rfl rfl), ?_⟩
      refine ra_done (by kernel_rfl) ?_
      obtain rfl := some_inj hF
      exact ret0 Try.results22  ⟨rfl, (set_len _ _ _ hlen), (ST.subR (R' := []) (hS2.sel [0] rfl rfl) (fun _ h => by cases h))⟩
    exact allR_nil
  exact allR_nil

theorem c_impl_rotationCoef (kind : Int)  (w0 : World)  (hS : ST w0 [] w0 [] []) {r_ : Int} (hF : F_impl_rotationCoef kind = some r_) :
    CV Try.prog 23 #[.int .i64 kind] w0 (fun v w' => v = .int .i64 r_ ∧ ST w0 [] w' [] []) := by
  unfold F_impl_rotationCoef at hF
  refine cv_of_cw 14 Try.func23 rfl Try.ntmps23 rfl ?_
  refine cw_seq ?_
  refine cw_region ?_
  refine sq 2 rfl rfl (Y_assign (v := .int .i64 0) rfl rfl) ?_
  refine rw_nil ?_
  refine cw_seq ?_
  refine cw_seq ?_
  refine cw_region ?_
  refine sq 3 rfl rfl (Y_move (v := .int .i64 kind) rfl rfl) ?_
  refine rw_nil ?_
  refine cw_block ?_
  refine cw_seq ?_
  refine cw_region ?_
  refine sq 5 rfl rfl (Y_eq (k := .i64) (a := kind) (b := 4) rfl rfl rfl) ?_
  refine sq 4 rfl rfl (Y_assign (v := .bool (kind == 4)) rfl rfl) ?_
  refine rw_nil ?_
  refine cw_cond (b := (kind == 4)) rfl (fun hb => ?_) (fun hb => ?_)
  · skip
    have hF1 := ct hF hb
    refine cw_seq ?_
    refine cw_region ?_
    refine sq 2 rfl rfl (Y_assign (v := .int .i64 4) rfl rfl) ?_
    refine rw_nil ?_
    refine cw_ret ?_
    obtain rfl := some_inj hF1
    exact ret1 Try.results23 (v1 := .int .i64 4) (resAt_tmp rfl) ⟨rfl, (ST.subR (R' := []) (hS.sel [] rfl rfl) (fun _ h => by cases h))⟩
  · skip
    have hF2 := cf' hF hb
    refine cw_seq ?_
    refine cw_region ?_
    refine sq 7 rfl rfl (Y_eq (k := .i64) (a := kind) (b := 5) rfl rfl rfl) ?_
    refine sq 6 rfl rfl (Y_assign (v := .bool (kind == 5)) rfl rfl) ?_
    refine rw_nil ?_
    refine cw_cond (b := (kind == 5)) rfl (fun hb1 => ?_) (fun hb1 => ?_)
    · skip
      have hF3 := ct hF2 hb1
      refine cw_seq ?_
      refine cw_region ?_
      refine sq 2 rfl rfl (Y_assign (v := .int .i64 2) rfl rfl) ?_
      refine rw_nil ?_
      refine cw_ret ?_
      obtain rfl := some_inj hF3
      exact ret1 Try.results23 (v1 := .int .i64 2) (resAt_tmp rfl) ⟨rfl, (ST.subR (R' := []) (hS.sel [] rfl rfl) (fun _ h => by cases h))⟩
    · skip
      have hF4 := cf' hF2 hb1
      refine cw_seq ?_
      refine cw_region ?_
      refine sq 9 rfl rfl (Y_eq (k := .i64) (a := kind) (b := 6) rfl rfl rfl) ?_
      refine sq 8 rfl rfl (Y_assign (v := .bool (kind == 6)) rfl rfl) ?_
      refine rw_nil ?_
      refine cw_cond (b := (kind == 6)) rfl (fun hb2 => ?_) (fun hb2 => ?_)
      · skip
        have hF5 := ct hF4 hb2
        refine cw_seq ?_
        refine cw_region ?_
        refine sq 2 rfl rfl (Y_assign (v := .int .i64 6) rfl rfl) ?_
        refine rw_nil ?_
        refine cw_ret ?_
        obtain rfl := some_inj hF5
        exact ret1 Try.results23 (v1 := .int .i64 6) (resAt_tmp rfl) ⟨rfl, (ST.subR (R' := []) (hS.sel [] rfl rfl) (fun _ h => by cases h))⟩
      · skip
        have hF6 := cf' hF4 hb2
        refine cw_seq ?_
        refine cw_region ?_
        refine sq 11 rfl rfl (Y_eq (k := .i64) (a := kind) (b := 7) rfl rfl rfl) ?_
        refine sq 10 rfl rfl (Y_assign (v := .bool (kind == 7)) rfl rfl) ?_
        refine rw_nil ?_
        refine cw_cond (b := (kind == 7)) rfl (fun hb3 => ?_) (fun hb3 => ?_)
        · skip
          have hF7 := ct hF6 hb3
          refine cw_seq ?_
          refine cw_region ?_
          refine sq 2 rfl rfl (Y_assign (v := .int .i64 1) rfl rfl) ?_
          refine rw_nil ?_
          refine cw_ret ?_
          obtain rfl := some_inj hF7
          exact ret1 Try.results23 (v1 := .int .i64 1) (resAt_tmp rfl) ⟨rfl, (ST.subR (R' := []) (hS.sel [] rfl rfl) (fun _ h => by cases h))⟩
        · skip
          have hF8 := cf' hF6 hb3
          refine cw_seq ?_
          refine cw_region ?_
          refine sq 13 rfl rfl (Y_eq (k := .i64) (a := kind) (b := 8) rfl rfl rfl) ?_
          refine sq 12 rfl rfl (Y_assign (v := .bool (kind == 8)) rfl rfl) ?_
          refine rw_nil ?_
          refine cw_cond (b := (kind == 8)) rfl (fun hb4 => ?_) (fun hb4 => ?_)
          · skip
            have hF9 := ct hF8 hb4
            refine cw_seq ?_
            refine cw_region ?_
            refine sq 2 rfl rfl (Y_assign (v := .int .i64 7) rfl rfl) ?_
            refine rw_nil ?_
            refine cw_ret ?_
            obtain rfl := some_inj hF9
            exact ret1 Try.results23 (v1 := .int .i64 7) (resAt_tmp rfl) ⟨rfl, (ST.subR (R' := []) (hS.sel [] rfl rfl) (fun _ h => by cases h))⟩
          · skip
            have hF10 := cf' hF8 hb4
            refine cw_skip ?_
            refine cw_seq ?_
            refine cw_region ?_
            refine sq 2 rfl rfl (Y_assign (v := .int .i64 0) rfl rfl) ?_
            refine rw_nil ?_
            refine cw_ret ?_
            obtain rfl := some_inj hF10
            exact ret1 Try.results23 (v1 := .int .i64 0) (resAt_tmp rfl) ⟨rfl, (ST.subR (R' := []) (hS.sel [] rfl rfl) (fun _ h => by cases h))⟩
end Go.VK
