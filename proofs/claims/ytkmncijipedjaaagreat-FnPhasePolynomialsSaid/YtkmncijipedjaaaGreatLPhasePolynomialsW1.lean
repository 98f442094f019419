/- Walks: each Go function returns what its Lean function says. By program. -/
import Derived.Test.YtkmncijipedjaaaGreatLPhasePolynomialsFa
import Derived.Test.YtkmncijipedjaaaGreatLibU
set_option linter.unusedVariables false
set_option maxRecDepth 100000
set_option maxHeartbeats 4000000
namespace Go.VK
open Go.RowKit
open Go.Proofs
open Go.IntKind
attribute [local irreducible] CW RW RA CV Y Yw Yc Ys RetOf
attribute [local irreducible] F_impl_within F_slices_IndexFunc_impl_Gate_impl_Gate F_slices_ContainsFunc_impl_Gate_impl_Gate F_impl_isTwo F_impl_IsValidGate F_impl_IsValidCircuit_1 F_impl_IsValidCircuit F_impl_identityLinear F_impl_coefficients_add F_impl_rotationCoef F_impl_coefficients_terms F_impl_PhasePolyOf F_spec_l1Cur_next F_spec_l1Cur_pick F_spec_l1Cur_one F_spec_l1In F_spec_l1Cur_gate F_spec_l1Cur_built F_spec_l1Cur_among F_spec_l1Cur_circuit F_spec_l1Cur_anyCircuit F_spec_l1Cur_cxtz F_spec_DrawPhasePolyOf F_spec_l13List F_spec_l12Identity F_spec_l4Gate F_spec_l4Good F_spec_l1Own F_spec_l12CX F_spec_l13Coef
theorem c_impl_within (n : Int) (low : Int) (high : Int)  (w0 : World)  (hS : ST w0 [] w0 [] []) {r_ : Bool} (hF : F_impl_within n low high = some r_) :
  CV Tryz.prog 77 #[vi n, vi low, vi high] w0 (fun v w' => v = .bool r_ ∧ ST w0 [] w' [] []) := by
 unfold F_impl_within at hF
 refine cv_of_cw 15 Tryz.func77 rfl Tryz.ntmps77 rfl ?_
 refine cq (cr ?_)
 refine sQ 6 (yg (.bool false)) (rn (cq (cr ?_)))
 refine sQ 7 (ym (vi low)) <| sQ 8 (ym (vi n)) <| sQ 9 (Y_le (k := .i64) (a := low) (b := n) rfl rfl rfl) <| sQ 10 (ym (.bool (decide (low ≤ n)))) ?_
 refine sgq 11 (B := (decide (low ≤ n))) (v := vi n) rfl rfl (uT_ 10) (fun hg => (ym (vi n))) ?_
 refine sgq 12 (B := (decide (low ≤ n))) (v := vi high) rfl rfl (uT_ 10) (fun hg1 => (ym (vi high))) ?_
 refine sgq 13 (B := (decide (low ≤ n))) (v := .bool (decide (n ≤ high))) rfl rfl (uT_ 10) (fun hg2 => (Y_le (k := .i64) (a := n) (b := high) rfl (gv_of (v := vi n) hg2) (gv_of (v := vi high) hg2))) ?_
 refine sQ 14 (Y_and (b := (decide (low ≤ n))) (z := (decide (n ≤ high))) rfl rfl rfl rfl) <| sQ 6 (yg (.bool ((decide (low ≤ n)) && (decide (n ≤ high))))) (rn (ct_ ?_))
 obtain rfl := sI hF
 exact ret1 Tryz.results77 (v1 := .bool ((decide (low ≤ n)) && (decide (n ≤ high)))) (resAt_tmp rfl) ⟨rfl, (hS.sN [])⟩

theorem c_slices_IndexFunc_impl_Gate_impl_Gate (s : List TGate) (f_ : TGate → Option (Bool)) (B : Option Addr) (c n : Nat) (kf : Nat) (caps : Array Value) (Rf : List Ro) (w0 : World) (hn : s.length = n) (hk : callB Tryz.prog kf = true) (hp : ∀ (w : World), ST w [] w [] Rf → ∀ (x : TGate) (y : Bool), f_ x = some y → CV Tryz.prog kf ((.agg #[vi x.Kind, vi x.A, vi x.B]) :: caps.toList).toArray w (fun v w' => v = .bool y ∧ ST w [] w' [] [])) (hS : ST w0 [] w0 [] (⟨B, (s.flatMap eN0)⟩ :: Rf)) {r_ : Int} (hF : F_slices_IndexFunc_impl_Gate_impl_Gate s f_ = some r_) :
  CV Tryz.prog 191 #[.slice B n c, .func (.func kf) #[] caps] w0 (fun v w' => v = vi r_ ∧ ST w0 [] w' [] []) := by
 subst hn
 unfold F_slices_IndexFunc_impl_Gate_impl_Gate at hF
 refine cv_of_cw 19 Tryz.func191 rfl Tryz.ntmps191 rfl ?_
 refine cq (cr ?_)
 refine sQ 4 (yg (vi 0)) (rn (cq (cq (cr ?_))))
 refine sQ 6 (ym (.slice B s.length c)) <| sQ 7 (Y_len (B := B) (m := s.length) (c := c) K5 rfl rfl) <| sQ 8 (ym (vi 0)) (rn ?_)
 obtain ⟨hN, hF⟩ := chk_inv hF
 obtain ⟨z, hz, hF1⟩ := bI hF
 refine cw_block ?_
 refine cw_loop (fun k f w => ∃ (i : Nat), FF f [(0, .slice B s.length c), (1, .func (.func kf) #[] caps), (7, vi (s.length : Int)), (8, vi (i : Int))] ∧ ST w0 [] w [] (⟨B, (s.flatMap eN0)⟩ :: Rf) ∧ i + k = s.length ∧ forX (F_slices_IndexFunc_impl_Gate_impl_Gate_l1 s f_) k i () = some z) s.length ⟨0, (fc rfl (fc rfl (fc rfl (fc rfl fn_)))), (hS.sel [] rfl rfl), Nat.zero_add _, hz⟩ ?_
 rintro k_ f w ⟨i, hf, hS1, hik, hL⟩
 refine cq (cr ?_)
 refine sQ 9 (yL (i : Int) (s.length : Int) rfl (hf.g 8 3) (hf.g 7 2)) (rn (cq ?_))
 refine cw_cond (b := (decide ((i : Int) < (s.length : Int)))) rfl (fun hlt => ?_) (fun hlt => ?_)
 ·skip
  have hlt1 : i < s.length := by have h := of_decide_eq_true hlt; omega
  obtain ⟨K7, rfl⟩ : ∃ k2, k_ = k2 + 1 := ⟨k_ - 1, by omega⟩
  obtain ⟨y1, hb, hL1⟩ := forX_go hL
  unfold F_slices_IndexFunc_impl_Gate_impl_Gate_l1 at hb
  refine cw_skip (cq (cw_block (cq (cr ?_))))
  refine sQ 10 (ym (vi (i : Int)) rfl (hf.g 8 3)) <| sQ 5 (yg (vi (i : Int))) (rn (cq (cr ?_)))
  refine sQ 11 (ym (.func (.func kf) #[] caps) rfl (hf.g 1 1)) <| sQ 12 (ym (.slice B s.length c) rfl (hf.g 0 0)) <| sQ 13 (ym (vi (i : Int))) ?_
  obtain ⟨x1, hx, hb⟩ := bI hb
  refine sQ 14 (Y_index (B := B) (m := s.length) (c := c) (k := .i64) (i := (i : Int)) K5 K3 rfl rfl rfl (gi_isSome eN1 rfl (hS1.rf (i := 0) rfl) hx) (getI_nn hx) (getI_ltI hx rfl)) <| sQ 15 (ya B ((i : Int).toNat * 3) (s.flatMap eN0) [vi x1.Kind, vi x1.A, vi x1.B] K24 K3 (hS1.rf (i := 0) rfl) rfl rfl (eN1 x1) (gi_seg eN1 hx)) ?_
  obtain ⟨r_1, hc, hb⟩ := bI hb
  refine sc 16 rfl rfl (Yc_clos (g := kf) (vs := (.agg #[vi x1.Kind, vi x1.A, vi x1.B]) :: caps.toList) hk rfl rfl (clo_args (mc rfl mn)) (hp _ (hS1.innS (fun _ h => mOd (i := 1) h)) x1 r_1 hc)) ?_
  rintro _ w_ ⟨rfl, hd⟩
  have hS2 := hS1.out00 hd
  refine rn ?_
  refine cw_cond (b := r_1) rfl (fun hb1 => ?_) (fun hb1 => ?_)
  ·skip
   have hF2 := ct hb hb1
   refine cq (cr ?_)
   refine sQ 17 (ym (vi (i : Int))) <| sQ 4 (yg (vi (i : Int))) (rn (ct_ ?_))
   obtain rfl := sI hF2
   obtain rfl := sI hL1
   obtain rfl := sI hF1
   exact ret1 Tryz.results191 (v1 := vi (i : Int)) (resAt_tmp rfl) ⟨rfl, (hS2.sN [])⟩
  ·skip
   have hF3 := cf' hb hb1
   refine cw_skip (cr ?_)
   refine sQ 18 (yP (i : Int) 1 rfl (hf.g 8 3)) <| sQ 8 (ym (vi (i64.wrap ((i : Int) + 1)))) (rn ?_)
   obtain rfl := sI hF3
   exact ⟨K7, Nat.lt_succ_self _, i + 1, (fc (hf.g 0 0) (fc (hf.g 1 1) (fc (hf.g 7 2) (fc (congrArg (Value.int .i64) (wr_succ hlt1 hN)) fn_)))), (hS2.sel [] rfl rfl), (by omega), hL1⟩
 ·skip
  obtain rfl : k_ = 0 := by have h := of_decide_eq_false hlt; omega
  refine cw_exit rfl ?_
  obtain rfl := sI hL
  refine cq (cr ?_)
  refine sQ 4 (yg (vi (-1))) (rn (ct_ ?_))
  obtain rfl := sI hF1
  exact ret1 Tryz.results191 (v1 := vi (-1)) (resAt_tmp rfl) ⟨rfl, (hS1.sN [])⟩

theorem c_slices_ContainsFunc_impl_Gate_impl_Gate (s : List TGate) (f_ : TGate → Option (Bool)) (B : Option Addr) (c n : Nat) (kf : Nat) (caps : Array Value) (Rf : List Ro) (w0 : World) (hn : s.length = n) (hk : callB Tryz.prog kf = true) (hp : ∀ (w : World), ST w [] w [] Rf → ∀ (x : TGate) (y : Bool), f_ x = some y → CV Tryz.prog kf ((.agg #[vi x.Kind, vi x.A, vi x.B]) :: caps.toList).toArray w (fun v w' => v = .bool y ∧ ST w [] w' [] [])) (hS : ST w0 [] w0 [] (⟨B, (s.flatMap eN0)⟩ :: Rf)) {r_ : Bool} (hF : F_slices_ContainsFunc_impl_Gate_impl_Gate s f_ = some r_) :
  CV Tryz.prog 92 #[.slice B n c, .func (.func kf) #[] caps] w0 (fun v w' => v = .bool r_ ∧ ST w0 [] w' [] []) := by
 subst hn
 unfold F_slices_ContainsFunc_impl_Gate_impl_Gate at hF
 refine cv_of_cw 9 Tryz.func92 rfl Tryz.ntmps92 rfl ?_
 refine cq (cr ?_)
 refine sQ 4 (yg (.bool false)) (rn (cq (cr ?_)))
 refine sQ 5 (ym (.slice B s.length c)) <| sQ 6 (ym (.func (.func kf) #[] caps)) ?_
 obtain ⟨r_1, hc, hF⟩ := bI hF
 refine sc 7 rfl rfl (yC [.slice B s.length c, .func (.func kf) #[] caps] k_call_191 (c_slices_IndexFunc_impl_Gate_impl_Gate s f_ B c s.length kf caps Rf _ rfl hk hp (hS.innS (sk 0 (fun _ h => mOd (i := 1) h))) hc)) ?_
 rintro _ w_ ⟨rfl, hd⟩
 have hS1 := hS.out00 hd
 refine sQ 8 (Y_ge (k := .i64) (a := r_1) (b := 0) rfl rfl rfl) <| sQ 4 (yg (.bool (decide (0 ≤ r_1)))) (rn (ct_ ?_))
 obtain rfl := sI hF
 exact ret1 Tryz.results92 (v1 := .bool (decide (0 ≤ r_1))) (resAt_tmp rfl) ⟨rfl, (hS1.sN [])⟩

theorem c_impl_isTwo (kind : Int)  (w0 : World)  (hS : ST w0 [] w0 [] []) {r_ : Bool} (hF : F_impl_isTwo kind = some r_) :
  CV Tryz.prog 94 #[vi kind] w0 (fun v w' => v = .bool r_ ∧ ST w0 [] w' [] []) := by
 unfold F_impl_isTwo at hF
 refine cv_of_cw 5 Tryz.func94 rfl Tryz.ntmps94 rfl ?_
 refine cq (cr ?_)
 refine sQ 2 (yg (.bool false)) (rn (cq (cr ?_)))
 refine sQ 3 (ym (vi kind)) ?_
 obtain ⟨r_1, hc, hF⟩ := bI hF
 refine sc 4 rfl rfl (yC [vi kind, vi 9, vi 11] K30 (c_impl_within kind 9 11 _  (hS.inn0 [] rfl) hc)) ?_
 rintro _ w_ ⟨rfl, hd⟩
 have hS1 := hS.out00 hd
 refine sQ 2 (yg (.bool r_1)) (rn (ct_ ?_))
 obtain rfl := sI hF
 exact ret1 Tryz.results94 (v1 := .bool r_1) (resAt_tmp rfl) ⟨rfl, (hS1.sN [])⟩

theorem c_impl_IsValidGate (n : Int) (g : TGate)  (w0 : World)  (hS : ST w0 [] w0 [] []) {r_ : Bool} (hF : F_impl_IsValidGate n g = some r_) :
  CV Tryz.prog 186 #[vi n, .agg #[vi g.Kind, vi g.A, vi g.B]] w0 (fun v w' => v = .bool r_ ∧ ST w0 [] w' [] []) := by
 unfold F_impl_IsValidGate at hF
 refine cv_of_cw 60 Tryz.func186 rfl Tryz.ntmps186 rfl ?_
 refine cq (cr ?_)
 refine sS 3 (yB 120 (.agg #[vi g.Kind, vi g.A, vi g.B]) [vi g.Kind, vi g.A, vi g.B] 3 hS) ?_
 rintro _ w_ ⟨b, rfl, hS1⟩
 refine sQ 4 (yg (.bool false)) (rn (cq (cw_block (cq (cr ?_)))))
 refine sQ 6 (ym (vi n)) ?_
 obtain ⟨r_1, hc, hF⟩ := bI hF
 refine sc 7 rfl rfl (yC [vi n, vi 1, vi 5] K30 (c_impl_within n 1 5 _  (hS1.inn0 [] rfl) hc)) ?_
 rintro _ w_1 ⟨rfl, hd⟩
 have hS2 := hS1.out00 hd
 refine sQ 8 (Y_not (p := r_1) rfl rfl) <| sQ 9 (ym (.bool (!r_1))) ?_
 refine sgq 10 (B := (!(!r_1))) (v := pt (aD b) 0) rfl rfl (uF_ 9) (fun hg => (yd (aD b) 0 0 K33 K0)) ?_
 refine sgq 11 (B := (!(!r_1))) (v := vi g.Kind) rfl rfl (uF_ 9) (fun hg1 => (yl (aD b) 0 [vi g.Kind, vi g.A, vi g.B] (vi g.Kind) K1 (hS2.c 0) rfl (gv_of (v := pt (aD b) 0) hg1))) ?_
 obtain ⟨r_2, hc1, hF⟩ := bI hF
 refine sgc 12 (B := (!(!r_1))) (v := .bool r_2) (F := hS2.fn) rfl rfl (uF_ 9) hS2 (fun hg2 => (yC [vi g.Kind, vi 1, vi 12] K30 (CV.mono (c_impl_within g.Kind 1 12 _  (hS2.inn0 [] rfl) (gb_inv hc1 hg2)) (by rintro _ _ ⟨rfl, h⟩; exact ⟨rfl, hS2.out00 h⟩)) rfl (mc (gv_of (v := vi g.Kind) hg2) (mc rfl (mc rfl mn))))) ?_
 rintro w_2 hS3
 refine sgq 13 (B := (!(!r_1))) (v := .bool (!r_2)) rfl rfl (uF_ 9) (fun hg3 => (Y_not (p := r_2) rfl (gv_of (v := .bool r_2) hg3))) ?_
 refine sQ 14 (Y_or (b := (!r_1)) (z := (!r_2)) rfl rfl rfl rfl) <| sQ 5 (yg (.bool ((!r_1) || (!r_2)))) (rn ?_)
 refine cw_cond (b := ((!r_1) || (!r_2))) rfl (fun hb => ?_) (fun hb => ?_)
 ·skip
  have hF1 := ct hF hb
  refine cq (cr ?_)
  refine sQ 4 (yg (.bool false)) (rn (ct_ ?_))
  obtain rfl := sI hF1
  exact ret1 Tryz.results186 (v1 := .bool false) (resAt_tmp rfl) ⟨rfl, (hS3.sN [])⟩
 ·skip
  have hF2 := cf' hF hb
  refine cq (cr ?_)
  refine sQ 16 (yd (aD b) 0 0 K33 K0) <| sQ 17 (yl (aD b) 0 [vi g.Kind, vi g.A, vi g.B] (vi g.Kind) K1 (hS3.c 0)) <| sQ 18 (yE g.Kind 12) <| sQ 15 (yg (.bool (g.Kind == 12))) (rn ?_)
  refine cw_cond (b := (g.Kind == 12)) rfl (fun hb1 => ?_) (fun hb1 => ?_)
  ·skip
   have hF3 := ct hF2 hb1
   refine cq (cr ?_)
   refine sQ 19 (yd (aD b) 0 0 K18 K0) <| sQ 20 (yl (aD b) 1 [vi g.Kind, vi g.A, vi g.B] (vi g.A) K1 (hS3.c 0)) <| sQ 21 (yE g.A 0) <| sQ 22 (ym (.bool (g.A == 0))) ?_
   refine sgq 23 (B := (g.A == 0)) (v := pt (aD b) 2) rfl rfl (uT_ 22) (fun hg4 => (yd (aD b) 0 0 K26 K0)) ?_
   refine sgq 24 (B := (g.A == 0)) (v := vi g.B) rfl rfl (uT_ 22) (fun hg5 => (yl (aD b) 2 [vi g.Kind, vi g.A, vi g.B] (vi g.B) K1 (hS3.c 0) rfl (gv_of (v := pt (aD b) 2) hg5))) ?_
   refine sgq 25 (B := (g.A == 0)) (v := .bool (g.B == 0)) rfl rfl (uT_ 22) (fun hg6 => (yE g.B 0 rfl (gv_of (v := vi g.B) hg6))) ?_
   refine sQ 26 (Y_and (b := (g.A == 0)) (z := (g.B == 0)) rfl rfl rfl rfl) <| sQ 4 (yg (.bool ((g.A == 0) && (g.B == 0)))) (rn (ct_ ?_))
   obtain rfl := sI hF3
   exact ret1 Tryz.results186 (v1 := .bool ((g.A == 0) && (g.B == 0))) (resAt_tmp rfl) ⟨rfl, (hS3.sN [])⟩
  ·skip
   have hF4 := cf' hF2 hb1
   refine cq (cr ?_)
   refine sQ 28 (yd (aD b) 0 0 K33 K0) <| sQ 29 (yl (aD b) 0 [vi g.Kind, vi g.A, vi g.B] (vi g.Kind) K1 (hS3.c 0)) ?_
   obtain ⟨r_3, hc2, hF4⟩ := bI hF4
   refine sc 30 rfl rfl (yC [vi g.Kind] k_call_94 (c_impl_isTwo g.Kind _  (hS3.inn0 [] rfl) hc2)) ?_
   rintro _ w_3 ⟨rfl, hd1⟩
   have hS4 := hS3.out00 hd1
   refine sQ 27 (yg (.bool r_3)) (rn ?_)
   refine cw_cond (b := r_3) rfl (fun hb2 => ?_) (fun hb2 => ?_)
   ·skip
    have hF5 := ct hF4 hb2
    refine cq (cr ?_)
    refine sQ 31 (yd (aD b) 0 0 K18 K0) <| sQ 32 (yl (aD b) 1 [vi g.Kind, vi g.A, vi g.B] (vi g.A) K1 (hS4.c 0)) <| sQ 33 (ym (vi n)) <| sQ 34 (yM n 1) ?_
    obtain ⟨r_4, hc3, hF5⟩ := bI hF5
    refine sc 35 rfl rfl (yC [vi g.A, vi 0, vi (i64.wrap (n - 1))] K30 (c_impl_within g.A 0 (i64.wrap (n - 1)) _  (hS4.inn0 [] rfl) hc3)) ?_
    rintro _ w_4 ⟨rfl, hd2⟩
    have hS5 := hS4.out00 hd2
    refine sQ 36 (ym (.bool r_4)) ?_
    refine sgq 37 (B := r_4) (v := pt (aD b) 2) rfl rfl (uT_ 36) (fun hg7 => (yd (aD b) 0 0 K26 K0)) ?_
    refine sgq 38 (B := r_4) (v := vi g.B) rfl rfl (uT_ 36) (fun hg8 => (yl (aD b) 2 [vi g.Kind, vi g.A, vi g.B] (vi g.B) K1 (hS5.c 0) rfl (gv_of (v := pt (aD b) 2) hg8))) ?_
    refine sgq 39 (B := r_4) (v := vi n) rfl rfl (uT_ 36) (fun hg9 => (ym (vi n))) ?_
    refine sgq 40 (B := r_4) (v := vi (i64.wrap (n - 1))) rfl rfl (uT_ 36) (fun hg10 => (yM n 1 rfl (gv_of (v := vi n) hg10))) ?_
    obtain ⟨r_5, hc4, hF5⟩ := bI hF5
    refine sgc 41 (B := r_4) (v := .bool r_5) (F := hS5.fn) rfl rfl (uT_ 36) hS5 (fun hg11 => (yC [vi g.B, vi 0, vi (i64.wrap (n - 1))] K30 (CV.mono (c_impl_within g.B 0 (i64.wrap (n - 1)) _  (hS5.inn0 [] rfl) (gb_inv hc4 hg11)) (by rintro _ _ ⟨rfl, h⟩; exact ⟨rfl, hS5.out00 h⟩)) rfl (mc (gv_of (v := vi g.B) hg11) (mc rfl (mc (gv_of (v := vi (i64.wrap (n - 1))) hg11) mn))))) ?_
    rintro w_5 hS6
    refine sQ 42 (Y_and (b := r_4) (z := r_5) rfl rfl rfl rfl) <| sQ 43 (ym (.bool (r_4 && r_5))) ?_
    refine sgq 44 (B := (r_4 && r_5)) (v := pt (aD b) 1) rfl rfl (uT_ 43) (fun hg12 => (yd (aD b) 0 0 K18 K0)) ?_
    refine sgq 45 (B := (r_4 && r_5)) (v := vi g.A) rfl rfl (uT_ 43) (fun hg13 => (yl (aD b) 1 [vi g.Kind, vi g.A, vi g.B] (vi g.A) K1 (hS6.c 0) rfl (gv_of (v := pt (aD b) 1) hg13))) ?_
    refine sgq 46 (B := (r_4 && r_5)) (v := pt (aD b) 2) rfl rfl (uT_ 43) (fun hg14 => (yd (aD b) 0 0 K26 K0)) ?_
    refine sgq 47 (B := (r_4 && r_5)) (v := vi g.B) rfl rfl (uT_ 43) (fun hg15 => (yl (aD b) 2 [vi g.Kind, vi g.A, vi g.B] (vi g.B) K1 (hS6.c 0) rfl (gv_of (v := pt (aD b) 2) hg15))) ?_
    refine sgq 48 (B := (r_4 && r_5)) (v := .bool (g.A != g.B)) rfl rfl (uT_ 43) (fun hg16 => (Y_ne (k := .i64) (a := g.A) (b := g.B) rfl (gv_of (v := vi g.A) hg16) (gv_of (v := vi g.B) hg16))) ?_
    refine sQ 49 (Y_and (b := (r_4 && r_5)) (z := (g.A != g.B)) rfl rfl rfl rfl) <| sQ 4 (yg (.bool ((r_4 && r_5) && (g.A != g.B)))) (rn (ct_ ?_))
    obtain rfl := sI hF5
    exact ret1 Tryz.results186 (v1 := .bool ((r_4 && r_5) && (g.A != g.B))) (resAt_tmp rfl) ⟨rfl, (hS6.sN [])⟩
   ·skip
    have hF6 := cf' hF4 hb2
    refine cw_skip (cq (cr ?_))
    refine sQ 50 (yd (aD b) 0 0 K18 K0) <| sQ 51 (yl (aD b) 1 [vi g.Kind, vi g.A, vi g.B] (vi g.A) K1 (hS4.c 0)) <| sQ 52 (ym (vi n)) <| sQ 53 (yM n 1) ?_
    obtain ⟨r_6, hc5, hF6⟩ := bI hF6
    refine sc 54 rfl rfl (yC [vi g.A, vi 0, vi (i64.wrap (n - 1))] K30 (c_impl_within g.A 0 (i64.wrap (n - 1)) _  (hS4.inn0 [] rfl) hc5)) ?_
    rintro _ w_6 ⟨rfl, hd3⟩
    have hS7 := hS4.out00 hd3
    refine sQ 55 (ym (.bool r_6)) ?_
    refine sgq 56 (B := r_6) (v := pt (aD b) 2) rfl rfl (uT_ 55) (fun hg17 => (yd (aD b) 0 0 K26 K0)) ?_
    refine sgq 57 (B := r_6) (v := vi g.B) rfl rfl (uT_ 55) (fun hg18 => (yl (aD b) 2 [vi g.Kind, vi g.A, vi g.B] (vi g.B) K1 (hS7.c 0) rfl (gv_of (v := pt (aD b) 2) hg18))) ?_
    refine sgq 58 (B := r_6) (v := .bool (g.B == 0)) rfl rfl (uT_ 55) (fun hg19 => (yE g.B 0 rfl (gv_of (v := vi g.B) hg19))) ?_
    refine sQ 59 (Y_and (b := r_6) (z := (g.B == 0)) rfl rfl rfl rfl) <| sQ 4 (yg (.bool (r_6 && (g.B == 0)))) (rn (ct_ ?_))
    obtain rfl := sI hF6
    exact ret1 Tryz.results186 (v1 := .bool (r_6 && (g.B == 0))) (resAt_tmp rfl) ⟨rfl, (hS7.sN [])⟩

theorem c_impl_IsValidCircuit_1 (g : TGate) (p : TCircuit) (B : Option Addr) (B1 : Option Addr) (c n : Nat) (w0 : World) (hn : p.Gates.length = n) (hS : ST w0 [] w0 [] [⟨B, [vi p.Qubits, .slice B1 n c]⟩, ⟨B1, (p.Gates.flatMap eN0)⟩]) {r_ : Bool} (hF : F_impl_IsValidCircuit_1 g p = some r_) :
  CV Tryz.prog 185 #[.agg #[vi g.Kind, vi g.A, vi g.B], pt B 0] w0 (fun v w' => v = .bool r_ ∧ ST w0 [] w' [] []) := by
 subst hn
 unfold F_impl_IsValidCircuit_1 at hF
 refine cv_of_cw 9 Tryz.func185 rfl Tryz.ntmps185 rfl ?_
 refine cq (cr ?_)
 refine sS 2 (yB 120 (.agg #[vi g.Kind, vi g.A, vi g.B]) [vi g.Kind, vi g.A, vi g.B] 3 hS) ?_
 rintro _ w_ ⟨b, rfl, hS1⟩
 refine sQ 3 (yg (.bool false)) (rn (cq (cr ?_)))
 refine sQ 4 (yd B 0 0 K31 K0) <| sQ 5 (yl B 0 [vi p.Qubits, .slice B1 p.Gates.length c] (vi p.Qubits) K1 (hS1.rf (i := 0) rfl)) <| sQ 6 (yb (aD b) 0 [vi g.Kind, vi g.A, vi g.B] K24 K3 (hS1.c 0)) ?_
 obtain ⟨r_1, hc, hF⟩ := bI hF
 refine sc 7 rfl rfl (yC [vi p.Qubits, .agg #[vi g.Kind, vi g.A, vi g.B]] k_call_186 (c_impl_IsValidGate p.Qubits g _  (hS1.inn0 [] rfl) hc)) ?_
 rintro _ w_1 ⟨rfl, hd⟩
 have hS2 := hS1.out00 hd
 refine sQ 8 (Y_not (p := r_1) rfl rfl) <| sQ 3 (yg (.bool (!r_1))) (rn (ct_ ?_))
 obtain rfl := sI hF
 exact ret1 Tryz.results185 (v1 := .bool (!r_1)) (resAt_tmp rfl) ⟨rfl, (hS2.sN [])⟩

theorem c_impl_IsValidCircuit (c : TCircuit) (B : Option Addr) (c1 n : Nat) (w0 : World) (hn : c.Gates.length = n) (hS : ST w0 [] w0 [] [⟨B, (c.Gates.flatMap eN0)⟩]) {r_ : Bool} (hF : F_impl_IsValidCircuit c = some r_) :
  CV Tryz.prog 87 #[.agg #[vi c.Qubits, .slice B n c1]] w0 (fun v w' => v = .bool r_ ∧ ST w0 [] w' [] []) := by
 subst hn
 unfold F_impl_IsValidCircuit at hF
 refine cv_of_cw 19 Tryz.func87 rfl Tryz.ntmps87 rfl ?_
 refine cq (cr ?_)
 refine sS 1 (yB 28 (.agg #[vi c.Qubits, .slice B c.Gates.length c1]) [vi c.Qubits, .slice B c.Gates.length c1] 2 hS) ?_
 rintro _ w_ ⟨b, rfl, hS1⟩
 refine sQ 2 (yg (.bool false)) (rn (cq (cr ?_)))
 refine sQ 3 (yd (aD b) 0 0 K31 K0) <| sQ 4 (yl (aD b) 0 [vi c.Qubits, .slice B c.Gates.length c1] (vi c.Qubits) K1 (hS1.c 0)) ?_
 obtain ⟨r_1, hc, hF⟩ := bI hF
 refine sc 5 rfl rfl (yC [vi c.Qubits, vi 1, vi 5] K30 (c_impl_within c.Qubits 1 5 _  (hS1.inn0 [] rfl) hc)) ?_
 rintro _ w_1 ⟨rfl, hd⟩
 have hS2 := hS1.out00 hd
 refine sQ 6 (ym (.bool r_1)) ?_
 refine sgq 7 (B := r_1) (v := pt (aD b) 1) rfl rfl (uT_ 6) (fun hg => (yd (aD b) 0 0 K36 K21)) ?_
 refine sgq 8 (B := r_1) (v := .slice B c.Gates.length c1) rfl rfl (uT_ 6) (fun hg1 => (yl (aD b) 1 [vi c.Qubits, .slice B c.Gates.length c1] (.slice B c.Gates.length c1) K37 (hS2.c 0) rfl (gv_of (v := pt (aD b) 1) hg1))) ?_
 refine sgq 9 (B := r_1) (v := vi (c.Gates.length : Int)) rfl rfl (uT_ 6) (fun hg2 => (Y_len (B := B) (m := c.Gates.length) (c := c1) K5 rfl (gv_of (v := .slice B c.Gates.length c1) hg2))) ?_
 refine sgq 10 (B := r_1) (v := .bool (decide ((c.Gates.length : Int) ≤ 400))) rfl rfl (uT_ 6) (fun hg3 => (Y_le (k := .i64) (a := (c.Gates.length : Int)) (b := 400) rfl (gv_of (v := vi (c.Gates.length : Int)) hg3) rfl)) ?_
 refine sQ 11 (Y_and (b := r_1) (z := (decide ((c.Gates.length : Int) ≤ 400))) rfl rfl rfl rfl) <| sQ 12 (ym (.bool (r_1 && (decide ((c.Gates.length : Int) ≤ 400))))) ?_
 refine sgq 13 (B := (r_1 && (decide ((c.Gates.length : Int) ≤ 400)))) (v := pt (aD b) 1) rfl rfl (uT_ 12) (fun hg4 => (yd (aD b) 0 0 K36 K21)) ?_
 refine sgq 14 (B := (r_1 && (decide ((c.Gates.length : Int) ≤ 400)))) (v := .slice B c.Gates.length c1) rfl rfl (uT_ 12) (fun hg5 => (yl (aD b) 1 [vi c.Qubits, .slice B c.Gates.length c1] (.slice B c.Gates.length c1) K37 (hS2.c 0) rfl (gv_of (v := pt (aD b) 1) hg5))) ?_
 refine sgq 15 (B := (r_1 && (decide ((c.Gates.length : Int) ≤ 400)))) (v := .func (.func 185) #[] #[pt (aD b) 0]) rfl rfl (uT_ 12) (fun hg6 => (Y_makeFunc (cs := [pt (aD b) 0]) rfl rfl (mc rfl mn))) ?_
 obtain ⟨r_2, hc1, hF⟩ := bI hF
 refine sgc 16 (B := (r_1 && (decide ((c.Gates.length : Int) ≤ 400)))) (v := .bool r_2) (F := hS2.fn) rfl rfl (uT_ 12) hS2 (fun hg7 => (yC [.slice B c.Gates.length c1, .func (.func 185) #[] #[pt (aD b) 0]] k_call_92 (CV.mono (c_slices_ContainsFunc_impl_Gate_impl_Gate c.Gates (fun x_0 => F_impl_IsValidCircuit_1 x_0 c) B c1 c.Gates.length 185 (#[pt (aD b) 0]) [⟨aD b, [vi c.Qubits, .slice B c.Gates.length c1]⟩, ⟨B, (c.Gates.flatMap eN0)⟩] _ rfl k_call_185 (fun w hw x_0 y_0 h_ => c_impl_IsValidCircuit_1 x_0 c (aD b) B c1 c.Gates.length w rfl hw h_) (hS2.inn0 [(true, 0), (false, 0), (true, 0)] rfl) (gb_inv hc1 hg7)) (by rintro _ _ ⟨rfl, h⟩; exact ⟨rfl, hS2.out00 h⟩)) rfl (mc (gv_of (v := .slice B c.Gates.length c1) hg7) (mc (gv_of (v := .func (.func 185) #[] #[pt (aD b) 0]) hg7) mn)))) ?_
 rintro w_2 hS3
 refine sgq 17 (B := (r_1 && (decide ((c.Gates.length : Int) ≤ 400)))) (v := .bool (!r_2)) rfl rfl (uT_ 12) (fun hg8 => (Y_not (p := r_2) rfl (gv_of (v := .bool r_2) hg8))) ?_
 refine sQ 18 (Y_and (b := (r_1 && (decide ((c.Gates.length : Int) ≤ 400)))) (z := (!r_2)) rfl rfl rfl rfl) <| sQ 2 (yg (.bool ((r_1 && (decide ((c.Gates.length : Int) ≤ 400))) && (!r_2)))) (rn (ct_ ?_))
 obtain rfl := sI hF
 exact ret1 Tryz.results87 (v1 := .bool ((r_1 && (decide ((c.Gates.length : Int) ≤ 400))) && (!r_2))) (resAt_tmp rfl) ⟨rfl, (hS3.sN [])⟩

theorem c_impl_identityLinear (n : Int)  (w0 : World)  (hS : ST w0 [] w0 [] []) {r_ : TLinear} (hF : F_impl_identityLinear n = some r_) :
  CV Tryz.prog 123 #[vi n] w0 (fun v w' => ∃ (B : Option Addr) (c : Nat), v = .agg #[.slice B r_.Rows.length c] ∧ ST w0 [] w' [⟨B, 3, (r_.Rows.flatMap encI), c * 1⟩] []) := by
 unfold F_impl_identityLinear at hF
 refine cv_of_cw 19 Tryz.func123 rfl Tryz.ntmps123 rfl ?_
 refine cq (cr ?_)
 refine sS 2 (yN [.slice none 0 0] 1 hS K60) ?_
 rintro _ w_ ⟨b, rfl, hS1⟩
 refine rn (cq (cr ?_))
 refine sQ 5 (Y_buildS (zs := [.slice none 0 0]) (vs := []) (cs := [.slice none 0 0]) k_pl_60 K60 rfl mpn rfl) ?_
 refine sS 3 (yN [.slice none 0 0] 1 hS1 K60) ?_
 rintro _ w_1 ⟨b1, rfl, hS2⟩
 refine s0 (yT 1 1 (aD b1) 60 (.agg #[.slice none 0 0]) [.slice none 0 0] 0 hS2 K19) ?_
 rintro _ w_2 ⟨rfl, hS3⟩
 refine rn (cq (cq (cr ?_)))
 refine sQ 6 (ym (vi n)) <| sQ 7 (ym (vi 0)) (rn ?_)
 obtain ⟨hN, hF⟩ := chk_inv hF
 obtain ⟨z, hz, hF1⟩ := bI hF
 have hS5 := hS3.addNil 3
 refine cw_block ?_
 refine cw_loop (fun k f w => ∃ (i : Nat) (Rows : List Int) (B1 : Option Addr) (c1 : Nat), FF f [(2, pt (aD b) 0), (3, pt (aD b1) 0), (6, vi n), (7, vi (i : Int))] ∧ ST w0 [] w [⟨aD b, 60, [.slice none 0 0], 1⟩, ⟨aD b1, 60, [.slice B1 Rows.length c1], 1⟩, ⟨B1, 3, (Rows.flatMap encI), c1 * 1⟩] [] ∧ i + k = n.toNat ∧ forN F_impl_identityLinear_l1 k i Rows = some z) n.toNat ⟨0, [], none, 0, (fc rfl (fc rfl (fc rfl (fc rfl fn_)))), (hS5.sel [0, 1, 2] rfl rfl), Nat.zero_add _, hz⟩ ?_
 rintro k_ f w ⟨i, Rows, B1, c1, hf, hS4, hik, hL⟩
 refine cq (cr ?_)
 refine sQ 8 (yL (i : Int) n rfl (hf.g 7 3) (hf.g 6 2)) (rn (cq ?_))
 refine cw_cond (b := (decide ((i : Int) < n))) rfl (fun hlt => ?_) (fun hlt => ?_)
 ·skip
  have hlt1 : i < n.toNat := by have h := of_decide_eq_true hlt; omega
  obtain ⟨K7, rfl⟩ : ∃ k2, k_ = k2 + 1 := ⟨k_ - 1, by omega⟩
  obtain ⟨y, hb, hL1⟩ := forN_go hL
  unfold F_impl_identityLinear_l1 at hb
  refine cw_skip (cq (cw_block (cq (cr ?_))))
  refine sQ 9 (ym (vi (i : Int)) rfl (hf.g 7 3)) <| sQ 4 (yg (vi (i : Int))) (rn ?_)
  obtain ⟨hsh, hb⟩ := chk_inv hb
  obtain ⟨hap, hb⟩ := chk_inv hb
  refine cw_mid (fun f w => ∃ (B3 : Option Addr) (c3 : Nat), FF f [(2, pt (aD b) 0), (3, pt (aD b1) 0), (6, vi n), (7, vi (i : Int))] ∧ ST w0 [] w [⟨aD b, 60, [.slice none 0 0], 1⟩, ⟨aD b1, 60, [.slice B3 ((Rows ++ [(shlK .i64 1 (i : Int))]).length) c3], 1⟩, ⟨B3, 3, ((Rows ++ [(shlK .i64 1 (i : Int))]).flatMap encI), c3 * 1⟩] []) ?_ ?_
  ·skip
   refine ra_start (hS4.se [0]).fn (by kernel_rfl) ?_
   have hS7 := hS4.drew
   refine rq 0 10 (v := pt (aD b1) 0) rfl (hS7.se [0]) (fun w' hw' => (yd (aD b1) 0 0 K29 K14 rfl (hf.g 3 1))) ?_
   refine rq 2 12 (v := vi (i : Int)) rfl (hS7.se [0]) (fun w' hw' => (ym (vi (i : Int)))) ?_
   refine rq 3 13 (v := vi (shlK .i64 1 (i : Int))) rfl (hS7.se [0]) (fun w' hw' => (Y_shl (k := .i64) (a := 1) (k' := .i64) (b := (i : Int)) rfl rfl rfl hsh)) ?_
   refine rA [1, 4] ?_
   refine ra_y 11 (i := 1) (v := .slice B1 Rows.length c1) rfl rfl rfl (yl (aD b1) 0 [.slice B1 Rows.length c1] (.slice B1 Rows.length c1) K13 (hS7.c 1)) (hS7.se [0]) ?_ ?_
   ·skip
    refine rA [4] ?_
    refine rS 14 4 rfl (Ys_bslice (s := 1) (len := 1) (vs := [(0, vi (shlK .i64 1 (i : Int)))]) (cs := [vi (shlK .i64 1 (i : Int))]) (zs := [vi 0]) (m := 1) hS7 K2 K0 K46 rfl (mpc rfl mpn) rfl rfl rfl (by kernel_rfl) (by kernel_rfl) rfl) ?_ ?_
    ·rintro _ w_3 ⟨b2, rfl, hS8⟩
     refine ⟨(hS8.se [0]), ?_⟩
     refine rA [5] ?_
     refine rS 15 5 rfl (Ys_append (s := 1) (by' := 8) (i := 2) (nn := Rows.length) (c := c1) (k := 1) (len := (Rows ++ [(shlK .i64 1 (i : Int))]).length) (B := B1) (xs := ([(shlK .i64 1 (i : Int))].flatMap encI)) (cs' := ((Rows ++ [(shlK .i64 1 (i : Int))]).flatMap encI)) hS8 K2 K0 K76 K57 rfl (by decide) rfl rfl rfl rfl (fm_lenn (l := Rows) encI_len rfl) rfl (hS8.c 3) (fm_lenn (l := [(shlK .i64 1 (i : Int))]) encI_len rfl) (fm_one' (enc := encI) encI_one [(shlK .i64 1 (i : Int))]) (by have := hap; omega) (by have := hap; simp only [maxLen]; omega) (fm_app _ _) (app_len (l := Rows) (l' := [(shlK .i64 1 (i : Int))]) rfl rfl)) ?_ ?_
     ·rintro _ w_4 ⟨B2, c2, rfl, hS9⟩
      refine ⟨(hS9.se [0]), ?_⟩
      refine rq 6 16 (v := pt (aD b1) 0) rfl (hS9.se [0]) (fun w' hw' => (yd (aD b1) 0 0 K29 K14 rfl (hf.g 3 1))) ?_
      refine rA [7] ?_
      refine rZ 7 rfl (yT 1 1 (aD b1) 60 (.slice B2 ((Rows ++ [(shlK .i64 1 (i : Int))]).length) c2) [.slice B2 ((Rows ++ [(shlK .i64 1 (i : Int))]).length) c2] 0 hS9 K14) ?_ ?_
      ·rintro _ w_5 ⟨rfl, hS10⟩
       refine ⟨(hS10.se [0]), ?_⟩
       refine ra_done (by kernel_rfl) ?_
       exact ⟨B2, c2, (fc (hf.g 2 0) (fc (hf.g 3 1) (fc (hf.g 6 2) (fc (hf.g 7 3) fn_)))), (hS10.sel [0, 1, 2] rfl rfl)⟩
      exact aN
     exact aN
    exact aN
   refine rS 14 4 rfl (Ys_bslice (s := 1) (len := 1) (vs := [(0, vi (shlK .i64 1 (i : Int)))]) (cs := [vi (shlK .i64 1 (i : Int))]) (zs := [vi 0]) (m := 1) hS7 K2 K0 K46 rfl (mpc rfl mpn) rfl rfl rfl (by kernel_rfl) (by kernel_rfl) rfl) ?_ ?_
   ·rintro _ w_6 ⟨b2, rfl, hS11⟩
    refine ⟨(hS11.se [0]), ?_⟩
    refine rA [1] ?_
    refine ra_y 11 (i := 1) (v := .slice B1 Rows.length c1) rfl rfl rfl (yl (aD b1) 0 [.slice B1 Rows.length c1] (.slice B1 Rows.length c1) K13 (hS11.c 1)) (hS11.se [0]) ?_ ?_
    ·skip
     refine rA [5] ?_
     refine rS 15 5 rfl (Ys_append (s := 1) (by' := 8) (i := 2) (nn := Rows.length) (c := c1) (k := 1) (len := (Rows ++ [(shlK .i64 1 (i : Int))]).length) (B := B1) (xs := ([(shlK .i64 1 (i : Int))].flatMap encI)) (cs' := ((Rows ++ [(shlK .i64 1 (i : Int))]).flatMap encI)) hS11 K2 K0 K76 K57 rfl (by decide) rfl rfl rfl rfl (fm_lenn (l := Rows) encI_len rfl) rfl (hS11.c 3) (fm_lenn (l := [(shlK .i64 1 (i : Int))]) encI_len rfl) (fm_one' (enc := encI) encI_one [(shlK .i64 1 (i : Int))]) (by have := hap; omega) (by have := hap; simp only [maxLen]; omega) (fm_app _ _) (app_len (l := Rows) (l' := [(shlK .i64 1 (i : Int))]) rfl rfl)) ?_ ?_
     ·rintro _ w_7 ⟨B2, c2, rfl, hS12⟩
      refine ⟨(hS12.se [0]), ?_⟩
      refine rq 6 16 (v := pt (aD b1) 0) rfl (hS12.se [0]) (fun w' hw' => (yd (aD b1) 0 0 K29 K14 rfl (hf.g 3 1))) ?_
      refine rA [7] ?_
      refine rZ 7 rfl (yT 1 1 (aD b1) 60 (.slice B2 ((Rows ++ [(shlK .i64 1 (i : Int))]).length) c2) [.slice B2 ((Rows ++ [(shlK .i64 1 (i : Int))]).length) c2] 0 hS12 K14) ?_ ?_
      ·rintro _ w_8 ⟨rfl, hS13⟩
       refine ⟨(hS13.se [0]), ?_⟩
       refine ra_done (by kernel_rfl) ?_
       exact ⟨B2, c2, (fc (hf.g 2 0) (fc (hf.g 3 1) (fc (hf.g 6 2) (fc (hf.g 7 3) fn_)))), (hS13.sel [0, 1, 2] rfl rfl)⟩
      exact aN
     exact aN
    exact aN
   exact aN
  rintro f w ⟨B3, c3, hf1, hS6⟩
  refine cr ?_
  refine sQ 17 (yP (i : Int) 1 rfl (hf1.g 7 3)) <| sQ 7 (ym (vi (i64.wrap ((i : Int) + 1)))) (rn ?_)
  obtain rfl := sI hb
  exact ⟨K7, Nat.lt_succ_self _, i + 1, (Rows ++ [(shlK .i64 1 (i : Int))]), B3, c3, (fc (hf1.g 2 0) (fc (hf1.g 3 1) (fc (hf1.g 6 2) (fc (congrArg (Value.int .i64) (wr_succ hlt1 hN)) fn_)))), (hS6.sel [0, 1, 2] rfl rfl), (by omega), hL1⟩
 ·skip
  obtain rfl : k_ = 0 := by have h := of_decide_eq_false hlt; omega
  refine cw_exit rfl ?_
  obtain rfl := sI hL
  refine cq (cr ?_)
  refine sQ 18 (yb (aD b1) 0 [.slice B1 Rows.length c1] K51 K19 (hS4.c 1) rfl (hf.g 3 1)) ?_
  refine s0 (yT 0 1 (aD b) 60 (.agg #[.slice B1 Rows.length c1]) [.slice B1 Rows.length c1] 0 hS4 K19 rfl (hf.g 2 0)) ?_
  rintro _ w_9 ⟨rfl, hS14⟩
  refine rn (ct_ ?_)
  obtain rfl := sI hF1
  exact ret1 Tryz.results123 (v1 := .agg #[.slice B1 Rows.length c1]) (resAt_cellA (B := aD b) (i := 0) (cs := [.slice B1 Rows.length c1]) (vs := [.slice B1 Rows.length c1]) (hf.g 2 0) K51 K19 (hS14.c 0) rfl rfl) ⟨B1, c1, rfl, (hS14.sN [2])⟩

theorem c_impl_coefficients_add (c : List Int) (mask : Int) (coef : Int) (B : Option Addr) (w0 : World) (hlen : c.length = 32) (hS : ST w0 (bl [⟨B, 171, (c.flatMap encI), 32⟩]) w0 [⟨B, 171, (c.flatMap encI), 32⟩] []) {m : List Int} (hF : F_impl_coefficients_add c mask coef = some m) :
  CV Tryz.prog 124 #[pt B 0, vi mask, vi coef] w0 (fun v w' => v = .tuple #[] ∧ m.length = 32 ∧ ST w0 (bl [⟨B, 171, (c.flatMap encI), 32⟩]) w' [⟨B, 171, (m.flatMap encI), 32⟩] []) := by
 unfold F_impl_coefficients_add at hF
 refine cv_of_cw 20 Tryz.func124 rfl Tryz.ntmps124 rfl ?_
 obtain ⟨x, hx, hF⟩ := bI hF
 refine ra_start (hS.se []).fn (by kernel_rfl) ?_
 have hS1 := hS.drew
 refine rq 0 6 (v := pt B 0) rfl (hS1.se []) (fun w' hw' => (ym (pt B 0))) ?_
 refine rq 1 7 (v := vi mask) rfl (hS1.se []) (fun w' hw' => (ym (vi mask))) ?_
 refine rq 2 8 (v := pt B 0) rfl (hS1.se []) (fun w' hw' => (ym (pt B 0))) ?_
 refine rq 3 9 (v := vi mask) rfl (hS1.se []) (fun w' hw' => (ym (vi mask))) ?_
 refine rq 4 10 (v := pt B 0) rfl (hS1.se []) (fun w' hw' => (Y_nilCheck (B := B) (i := 0) rfl rfl)) ?_
 refine rq 5 11 (v := pt B (mask.toNat * 1)) rfl (hS1.se []) (fun w' hw' => (Y_indexArr0 (B := B) (k := .i64) (i := mask) K92 K0 rfl rfl rfl (getI_nn hx) (getI_ltI hx hlen))) ?_
 refine rq 7 13 (v := vi coef) rfl (hS1.se []) (fun w' hw' => (ym (vi coef))) ?_
 refine rq 12 18 (v := pt B 0) rfl (hS1.se []) (fun w' hw' => (Y_nilCheck (B := B) (i := 0) rfl rfl)) ?_
 refine rA [6] ?_
 refine ra_y 12 (i := 6) (v := vi x) rfl rfl rfl (yl B (mask.toNat * 1) (c.flatMap encI) (vi x) K1 (hS1.c 0) rfl rfl (gi_at0 encI_len hx rfl)) (hS1.se []) ?_ ?_
 ·skip
  refine rq 8 14 (v := vi (i64.wrap (x + coef))) rfl (hS1.se []) (fun w' hw' => (yP x coef)) ?_
  refine rq 9 15 (v := vi (Int.tmod (i64.wrap (x + coef)) 8)) rfl (hS1.se []) (fun w' hw' => (Y_rem (k := .i64) (a := (i64.wrap (x + coef))) (b := 8) rfl rfl rfl (by decide))) ?_
  refine rq 10 16 (v := vi (i64.wrap ((Int.tmod (i64.wrap (x + coef)) 8) + 8))) rfl (hS1.se []) (fun w' hw' => (yP (Int.tmod (i64.wrap (x + coef)) 8) 8)) ?_
  refine rq 11 17 (v := vi (Int.tmod (i64.wrap ((Int.tmod (i64.wrap (x + coef)) 8) + 8)) 8)) rfl (hS1.se []) (fun w' hw' => (Y_rem (k := .i64) (a := (i64.wrap ((Int.tmod (i64.wrap (x + coef)) 8) + 8))) (b := 8) rfl rfl rfl (by decide))) ?_
  refine rq 13 19 (v := pt B (mask.toNat * 1)) rfl (hS1.se []) (fun w' hw' => (Y_indexArr0 (B := B) (k := .i64) (i := mask) K92 K0 rfl rfl rfl (getI_nn hx) (getI_ltI hx hlen))) ?_
  refine rA [14] ?_
  refine rZ 14 rfl (yS 0 1 B 171 (vi (Int.tmod (i64.wrap ((Int.tmod (i64.wrap (x + coef)) 8) + 8)) 8)) [vi (Int.tmod (i64.wrap ((Int.tmod (i64.wrap (x + coef)) 8) + 8)) 8)] (mask.toNat * 1) ((c.set mask.toNat (Int.tmod (i64.wrap ((Int.tmod (i64.wrap (x + coef)) 8) + 8)) 8)).flatMap encI) hS1 K0 rfl rfl rfl rfl rfl rfl rfl (gi_fit0 encI_len hx) (gi_set encI_len hx (Int.tmod (i64.wrap ((Int.tmod (i64.wrap (x + coef)) 8) + 8)) 8) rfl)) ?_ ?_
  ·rintro _ w_ ⟨rfl, hS2⟩
   refine ⟨(hS2.se []), ?_⟩
   refine ra_done (by kernel_rfl) ?_
   obtain rfl := sI hF
   exact ret0 Tryz.results124  ⟨rfl, (set_len _ _ _ hlen), (hS2.sN [0])⟩
  exact aN
 exact aN

theorem c_impl_rotationCoef (kind : Int)  (w0 : World)  (hS : ST w0 [] w0 [] []) {r_ : Int} (hF : F_impl_rotationCoef kind = some r_) :
  CV Tryz.prog 125 #[vi kind] w0 (fun v w' => v = vi r_ ∧ ST w0 [] w' [] []) := by
 unfold F_impl_rotationCoef at hF
 refine cv_of_cw 14 Tryz.func125 rfl Tryz.ntmps125 rfl ?_
 refine cq (cr ?_)
 refine sQ 2 (yg (vi 0)) (rn (cq (cq (cr ?_))))
 refine sQ 3 (ym (vi kind)) (rn (cw_block (cq (cr ?_))))
 refine sQ 5 (yE kind 4) <| sQ 4 (yg (.bool (kind == 4))) (rn ?_)
 refine cw_cond (b := (kind == 4)) rfl (fun hb => ?_) (fun hb => ?_)
 ·skip
  have hF1 := ct hF hb
  refine cq (cr ?_)
  refine sQ 2 (yg (vi 4)) (rn (ct_ ?_))
  obtain rfl := sI hF1
  exact ret1 Tryz.results125 (v1 := vi 4) (resAt_tmp rfl) ⟨rfl, (hS.sN [])⟩
 ·skip
  have hF2 := cf' hF hb
  refine cq (cr ?_)
  refine sQ 7 (yE kind 5) <| sQ 6 (yg (.bool (kind == 5))) (rn ?_)
  refine cw_cond (b := (kind == 5)) rfl (fun hb1 => ?_) (fun hb1 => ?_)
  ·skip
   have hF3 := ct hF2 hb1
   refine cq (cr ?_)
   refine sQ 2 (yg (vi 2)) (rn (ct_ ?_))
   obtain rfl := sI hF3
   exact ret1 Tryz.results125 (v1 := vi 2) (resAt_tmp rfl) ⟨rfl, (hS.sN [])⟩
  ·skip
   have hF4 := cf' hF2 hb1
   refine cq (cr ?_)
   refine sQ 9 (yE kind 6) <| sQ 8 (yg (.bool (kind == 6))) (rn ?_)
   refine cw_cond (b := (kind == 6)) rfl (fun hb2 => ?_) (fun hb2 => ?_)
   ·skip
    have hF5 := ct hF4 hb2
    refine cq (cr ?_)
    refine sQ 2 (yg (vi 6)) (rn (ct_ ?_))
    obtain rfl := sI hF5
    exact ret1 Tryz.results125 (v1 := vi 6) (resAt_tmp rfl) ⟨rfl, (hS.sN [])⟩
   ·skip
    have hF6 := cf' hF4 hb2
    refine cq (cr ?_)
    refine sQ 11 (yE kind 7) <| sQ 10 (yg (.bool (kind == 7))) (rn ?_)
    refine cw_cond (b := (kind == 7)) rfl (fun hb3 => ?_) (fun hb3 => ?_)
    ·skip
     have hF7 := ct hF6 hb3
     refine cq (cr ?_)
     refine sQ 2 (yg (vi 1)) (rn (ct_ ?_))
     obtain rfl := sI hF7
     exact ret1 Tryz.results125 (v1 := vi 1) (resAt_tmp rfl) ⟨rfl, (hS.sN [])⟩
    ·skip
     have hF8 := cf' hF6 hb3
     refine cq (cr ?_)
     refine sQ 13 (yE kind 8) <| sQ 12 (yg (.bool (kind == 8))) (rn ?_)
     refine cw_cond (b := (kind == 8)) rfl (fun hb4 => ?_) (fun hb4 => ?_)
     ·skip
      have hF9 := ct hF8 hb4
      refine cq (cr ?_)
      refine sQ 2 (yg (vi 7)) (rn (ct_ ?_))
      obtain rfl := sI hF9
      exact ret1 Tryz.results125 (v1 := vi 7) (resAt_tmp rfl) ⟨rfl, (hS.sN [])⟩
     ·skip
      have hF10 := cf' hF8 hb4
      refine cw_skip (cq (cr ?_))
      refine sQ 2 (yg (vi 0)) (rn (ct_ ?_))
      obtain rfl := sI hF10
      exact ret1 Tryz.results125 (v1 := vi 0) (resAt_tmp rfl) ⟨rfl, (hS.sN [])⟩

theorem c_impl_coefficients_terms (c : List Int)  (w0 : World) (hlen : c.length = 32) (hS : ST w0 [] w0 [] []) {r_ : List TTerm} (hF : F_impl_coefficients_terms c = some r_) :
  CV Tryz.prog 126 #[.agg (c.flatMap encI).toArray] w0 (fun v w' => ∃ (B : Option Addr) (c1 : Nat), v = .slice B r_.length c1 ∧ ST w0 [] w' [⟨B, 157, (r_.flatMap enc_Term), c1 * 2⟩] []) := by
 unfold F_impl_coefficients_terms at hF
 refine cv_of_cw 26 Tryz.func126 rfl Tryz.ntmps126 rfl ?_
 refine cq (cr ?_)
 refine sS 1 (yB 171 (.agg (c.flatMap encI).toArray) (c.flatMap encI) 32 hS rfl rfl rfl (fm_lenn2 encI_len hlen rfl)) ?_
 rintro _ w_ ⟨b, rfl, hS1⟩
 refine sQ 2 (yg (.slice none 0 0)) (rn (cq (cr ?_)))
 refine sS 6 (Ys_bslice0 (s := 2) (e := 157) hS1 K40 K34 rfl) ?_
 rintro _ w_1 ⟨b1, rfl, hS2⟩
 refine sQ 3 (yg (.slice (aD b1) 0 0)) (rn (cq (cq (cr ?_))))
 refine sQ 7 (yb (aD b) 0 (c.flatMap encI) k_ag_171 K65 (hS2.c 0) rfl rfl (fm_lenn2 encI_len hlen rfl) (fm_whole encI_len hlen rfl)) <| sQ 8 (ym (vi 0)) (rn ?_)
 obtain ⟨z, hz, hF1⟩ := bI hF
 refine cw_block ?_
 refine cw_loop (fun k f w => ∃ (i : Nat) (out : List TTerm) (B1 : Option Addr) (c2 : Nat), FF f [(3, .slice B1 out.length c2), (7, .agg (c.flatMap encI).toArray), (8, vi (i : Int))] ∧ ST w0 [] w [⟨B1, 157, (out.flatMap enc_Term), c2 * 2⟩] [] ∧ i + k = 32 ∧ forN (F_impl_coefficients_terms_l1 c) k i out = some z) 32 ⟨0, [], aD b1, 0, (fc rfl (fc rfl (fc rfl fn_))), (hS2.sel [1] rfl rfl), Nat.zero_add _, hz⟩ ?_
 rintro k_ f w ⟨i, out, B1, c2, hf, hS3, hik, hL⟩
 refine cq (cr ?_)
 refine sQ 9 (yL (i : Int) 32 rfl (hf.g 8 2)) (rn (cq ?_))
 refine cw_cond (b := (decide ((i : Int) < 32))) rfl (fun hlt => ?_) (fun hlt => ?_)
 ·skip
  have hlt1 : i < 32 := by have h := of_decide_eq_true hlt; omega
  obtain ⟨K7, rfl⟩ : ∃ k2, k_ = k2 + 1 := ⟨k_ - 1, by omega⟩
  obtain ⟨y, hb, hL1⟩ := forN_go hL
  unfold F_impl_coefficients_terms_l1 at hb
  refine cw_skip (cq ?_)
  obtain ⟨z1, hz1, hF2⟩ := bI hb
  refine cw_mid (fun f w => ∃ (out1 : List TTerm) (B2 : Option Addr) (c3 : Nat), out1 = z1 ∧ FF f [(3, .slice B2 out1.length c3), (7, .agg (c.flatMap encI).toArray), (8, vi (i : Int))] ∧ ST w0 [] w [⟨B2, 157, (out1.flatMap enc_Term), c3 * 2⟩] []) ?_ ?_
  ·skip
   refine cw_block (cq (cr ?_))
   refine sQ 10 (ym (vi (i : Int)) rfl (hf.g 8 2)) ?_
   obtain ⟨x, hx, hz1⟩ := bI hz1
   refine sQ 11 (Y_idx1 (cl := (c.flatMap encI)) (k := .i64) (i := (i : Int)) (v := vi x) K92 K0 K1 rfl (hf.g 7 1) (hf.g 8 2) (getI_nn hx) (getI_ltI hx hlen) (gi_at0 encI_len hx rfl)) <| sQ 4 (yg (vi (i : Int))) <| sQ 5 (yg (vi x)) (rn (cq (cr ?_)))
   refine sQ 12 (ym (vi (i : Int))) <| sQ 13 (Y_gt (k := .i64) (a := (i : Int)) (b := 0) rfl rfl rfl) <| sQ 14 (ym (.bool (decide (0 < (i : Int))))) ?_
   refine sgq 15 (B := (decide (0 < (i : Int)))) (v := vi x) rfl rfl (uT_ 14) (fun hg => (ym (vi x))) ?_
   refine sgq 16 (B := (decide (0 < (i : Int)))) (v := .bool (decide (0 < x))) rfl rfl (uT_ 14) (fun hg1 => (Y_gt (k := .i64) (a := x) (b := 0) rfl (gv_of (v := vi x) hg1) rfl)) ?_
   refine sQ 17 (Y_and (b := (decide (0 < (i : Int)))) (z := (decide (0 < x))) rfl rfl rfl rfl) (rn ?_)
   refine cw_cond (b := ((decide (0 < (i : Int))) && (decide (0 < x)))) rfl (fun hb1 => ?_) (fun hb1 => ?_)
   ·skip
    have hF3 := ct hz1 hb1
    refine cr ?_
    refine sQ 18 (ym (.slice B1 out.length c2) rfl (hf.g 3 0)) <| sQ 19 (ym (vi (i : Int))) <| sQ 20 (ym (vi x)) <| sQ 21 (Y_buildS (zs := [vi 0, vi 0]) (vs := [(0, vi (i : Int)), (1, vi x)]) (cs := [vi (i : Int), vi x]) k_pl_157 K70 rfl (mpc rfl (mpc rfl mpn)) rfl) ?_
    refine sS 22 (Ys_bslice (s := 2) (len := 1) (vs := [(0, .agg #[vi (i : Int), vi x])]) (cs := [vi (i : Int), vi x]) (zs := [vi 0, vi 0]) (m := 2) hS3 K40 K34 k_zc_157 rfl (mpc rfl mpn) rfl rfl rfl (by kernel_rfl) (by kernel_rfl) rfl) ?_
    rintro _ w_2 ⟨b2, rfl, hS5⟩
    obtain ⟨hap, hF3⟩ := chk_inv hF3
    refine sS 23 (Ys_append (s := 2) (by' := 16) (i := 0) (nn := out.length) (c := c2) (k := 1) (len := (out ++ [(TTerm.mk (i : Int) x)]).length) (B := B1) (xs := ([(TTerm.mk (i : Int) x)].flatMap enc_Term)) (cs' := ((out ++ [(TTerm.mk (i : Int) x)]).flatMap enc_Term)) hS5 K40 K34 k_by_157_16 K70 rfl (by decide) rfl rfl rfl rfl (fm_lenn (l := out) enc_Term_len rfl) rfl (hS5.c 1) (fm_lenn (l := [(TTerm.mk (i : Int) x)]) enc_Term_len rfl) (fm_one' (enc := enc_Term) enc_Term_one [(TTerm.mk (i : Int) x)]) (by have := hap; omega) (by have := hap; simp only [maxLen]; omega) (fm_app _ _) (app_len (l := out) (l' := [(TTerm.mk (i : Int) x)]) rfl rfl)) ?_
    rintro _ w_3 ⟨B3, c4, rfl, hS6⟩
    refine sQ 3 (yg (.slice B3 ((out ++ [(TTerm.mk (i : Int) x)]).length) c4)) (rn ?_)
    exact ⟨(out ++ [(TTerm.mk (i : Int) x)]), B3, c4, (sI hF3), (fc rfl (fc (hf.g 7 1) (fc (hf.g 8 2) fn_))), (hS6.sel [0] rfl rfl)⟩
   ·skip
    have hF4 := cf' hz1 hb1
    refine cw_skip ?_
    exact ⟨out, B1, c2, (sI hF4), (fc (hf.g 3 0) (fc (hf.g 7 1) (fc (hf.g 8 2) fn_))), (hS3.sel [0] rfl rfl)⟩
  rintro f w ⟨out1, B2, c3, rfl, hf1, hS4⟩
  refine cr ?_
  refine sQ 24 (yP (i : Int) 1 rfl (hf1.g 8 2)) <| sQ 8 (ym (vi (i64.wrap ((i : Int) + 1)))) (rn ?_)
  obtain rfl := sI hF2
  exact ⟨K7, Nat.lt_succ_self _, i + 1, out1, B2, c3, (fc (hf1.g 3 0) (fc (hf1.g 7 1) (fc (congrArg (Value.int .i64) (wr_succ hlt1 (show 32 ≤ 9223372036854775807 by decide))) fn_))), (hS4.sel [0] rfl rfl), (by omega), hL1⟩
 ·skip
  obtain rfl : k_ = 0 := by have h := of_decide_eq_false hlt; omega
  refine cw_exit rfl ?_
  obtain rfl := sI hL
  refine cq (cr ?_)
  refine sQ 25 (ym (.slice B1 out.length c2) rfl (hf.g 3 0)) <| sQ 2 (yg (.slice B1 out.length c2)) (rn (ct_ ?_))
  obtain rfl := sI hF1
  exact ret1 Tryz.results126 (v1 := .slice B1 out.length c2) (resAt_tmp rfl) ⟨B1, c2, rfl, (hS3.sN [0])⟩

theorem c_impl_PhasePolyOf (c : TCircuit) (B : Option Addr) (c1 n : Nat) (w0 : World) (hn : c.Gates.length = n) (hS : ST w0 [] w0 [] [⟨B, (c.Gates.flatMap eN0)⟩]) {r_ : TPhasePoly} {r_1 : Bool} (hF : F_impl_PhasePolyOf c = some (r_, r_1)) :
  CV Tryz.prog 32 #[.agg #[vi c.Qubits, .slice B n c1]] w0 (fun v w' => ∃ (B1 : Option Addr) (c2 : Nat) (B2 : Option Addr) (c3 : Nat), v = .tuple #[.agg #[vi r_.Qubits, vi r_.Phase, .slice B1 r_.Terms.length c2, .slice B2 r_.Out.Rows.length c3], .bool r_1] ∧ ST w0 [] w' [⟨B1, 157, (r_.Terms.flatMap enc_Term), c2 * 2⟩, ⟨B2, 3, (r_.Out.Rows.flatMap encI), c3 * 1⟩] []) := by
 subst hn
 unfold F_impl_PhasePolyOf at hF
 refine cv_of_cw 118 Tryz.func32 rfl Tryz.ntmps32 rfl ?_
 refine cq (cr ?_)
 refine sS 1 (yB 28 (.agg #[vi c.Qubits, .slice B c.Gates.length c1]) [vi c.Qubits, .slice B c.Gates.length c1] 2 hS) ?_
 rintro _ w_ ⟨b, rfl, hS1⟩
 refine sS 2 (yN [vi 0, vi 0, .slice none 0 0, .slice none 0 0] 4 hS1 K32) ?_
 rintro _ w_1 ⟨b1, rfl, hS2⟩
 refine sQ 3 (yg (.bool false)) (rn (cq (cq (cr ?_))))
 refine sQ 10 (yb (aD b) 0 [vi c.Qubits, .slice B c.Gates.length c1] K22 K11 (hS2.c 0)) ?_
 obtain ⟨r_2, hc, hF⟩ := bI hF
 refine sc 11 rfl rfl (yC [.agg #[vi c.Qubits, .slice B c.Gates.length c1]] K93 (c_impl_IsValidCircuit c B c1 c.Gates.length _ rfl (hS2.inn0 [(true, 0)] rfl) hc)) ?_
 rintro _ w_2 ⟨rfl, hd⟩
 have hS3 := hS2.out00 hd
 refine sQ 12 (Y_not (p := r_2) rfl rfl) (rn ?_)
 refine cw_cond (b := (!r_2)) rfl (fun hb => ?_) (fun hb => ?_)
 ·skip
  have hF1 := ct hF hb
  refine cq (cr ?_)
  refine sQ 13 (Y_buildS (zs := [vi 0, vi 0, .slice none 0 0, .slice none 0 0]) (vs := []) (cs := [vi 0, vi 0, .slice none 0 0, .slice none 0 0]) K58 K32 rfl mpn rfl) ?_
  refine s0 (yT 1 4 (aD b1) 62 (.agg #[vi 0, vi 0, .slice none 0 0, .slice none 0 0]) [vi 0, vi 0, .slice none 0 0, .slice none 0 0] 0 hS3 K20) ?_
  rintro _ w_3 ⟨rfl, hS4⟩
  refine sQ 3 (yg (.bool false)) (rn (ct_ ?_))
  have hS5 := hS4.addNil 157
  have hS6 := hS5.addNil 3
  obtain ⟨rfl, rfl⟩ := pr2 (sI hF1)
  exact ret2 Tryz.results32 (v1 := .agg #[vi 0, vi 0, .slice none 0 0, .slice none 0 0]) (resAt_cellA (B := aD b1) (i := 0) (cs := [vi 0, vi 0, .slice none 0 0, .slice none 0 0]) (vs := [vi 0, vi 0, .slice none 0 0, .slice none 0 0]) rfl K47 K20 (hS6.c 1) rfl rfl) (v2 := .bool false) (resAt_tmp rfl) ⟨none, 0, none, 0, rfl, (hS6.sN [2, 3])⟩
 ·skip
  have hF2 := cf' hF hb
  refine cw_skip (cq ?_)
  obtain ⟨r_3, hc1, hF2⟩ := bI hF2
  refine cw_mid (fun f w => ∃ (B4 : Option Addr) (B5 : Option Addr) (c5 : Nat) (B6 : Option Addr), FF f [(1, pt (aD b) 0), (2, pt (aD b1) 0), (4, pt B4 0), (5, pt B6 0)] ∧ ST w0 [] w [⟨aD b, 28, [vi c.Qubits, .slice B c.Gates.length c1], 2⟩, ⟨aD b1, 62, [vi 0, vi 0, .slice none 0 0, .slice none 0 0], 4⟩, ⟨B4, 62, [vi c.Qubits, vi 0, .slice none 0 0, .slice B5 r_3.Rows.length c5], 4⟩, ⟨B5, 3, (r_3.Rows.flatMap encI), c5 * 1⟩, ⟨B6, 171, ((List.replicate 32 0).flatMap encI), 32⟩] [⟨B, (c.Gates.flatMap eN0)⟩]) ?_ ?_
  ·skip
   refine ra_start (hS3.se [0, 1]).fn (by kernel_rfl) ?_
   have hS9 := hS3.drew
   refine rq 0 14 (v := pt (aD b) 0) rfl (hS9.se [0, 1]) (fun w' hw' => (yd (aD b) 0 0 K31 K0)) ?_
   refine rq 1 15 (v := vi c.Qubits) rfl (hS9.se [0, 1]) (fun w' hw' => (yl (aD b) 0 [vi c.Qubits, .slice B c.Gates.length c1] (vi c.Qubits) K1 (ST.cf hw' (i := 0) rfl))) ?_
   refine rq 2 16 (v := pt (aD b) 0) rfl (hS9.se [0, 1]) (fun w' hw' => (yd (aD b) 0 0 K31 K0)) ?_
   refine rq 3 17 (v := vi c.Qubits) rfl (hS9.se [0, 1]) (fun w' hw' => (yl (aD b) 0 [vi c.Qubits, .slice B c.Gates.length c1] (vi c.Qubits) K1 (ST.cf hw' (i := 0) rfl))) ?_
   refine rq 6 20 (v := .agg ((List.replicate 32 0).flatMap encI).toArray) rfl (hS9.se [0, 1]) (fun w' hw' => (show Y _ _ _ _ _ (.agg ((List.replicate 32 0).flatMap encI).toArray) from Y_buildA (zs := [vi 0, vi 0, vi 0, vi 0, vi 0, vi 0, vi 0, vi 0, vi 0, vi 0, vi 0, vi 0, vi 0, vi 0, vi 0, vi 0, vi 0, vi 0, vi 0, vi 0, vi 0, vi 0, vi 0, vi 0, vi 0, vi 0, vi 0, vi 0, vi 0, vi 0, vi 0, vi 0]) (vs := []) (cs := [vi 0, vi 0, vi 0, vi 0, vi 0, vi 0, vi 0, vi 0, vi 0, vi 0, vi 0, vi 0, vi 0, vi 0, vi 0, vi 0, vi 0, vi 0, vi 0, vi 0, vi 0, vi 0, vi 0, vi 0, vi 0, vi 0, vi 0, vi 0, vi 0, vi 0, vi 0, vi 0]) K92 K0 K77 rfl rfl rfl)) ?_
   refine rA [4, 7, 8] ?_
   refine rC 18 4 rfl (yC [vi c.Qubits] K83 (c_impl_identityLinear c.Qubits _  (hS9.inn0 [] rfl) hc1)) ?_ ?_
   ·rintro _ w_4 ⟨B3, c4, rfl, hd1⟩
    have hS10 := hS9.out0 hd1
    refine ⟨(hS10.se [0, 1]), ?_⟩
    refine rq 5 19 (v := .agg #[vi c.Qubits, vi 0, .slice none 0 0, .slice B3 r_3.Rows.length c4]) rfl (hS10.se [0, 1]) (fun w' hw' => (Y_buildS (zs := [vi 0, vi 0, .slice none 0 0, .slice none 0 0]) (vs := [(0, vi c.Qubits), (3, .agg #[.slice B3 r_3.Rows.length c4])]) (cs := [vi c.Qubits, vi 0, .slice none 0 0, .slice B3 r_3.Rows.length c4]) K58 K32 rfl (mpc rfl (mpc rfl mpn)) rfl)) ?_
    refine rA [7, 8] ?_
    refine rS 4 7 rfl (yN [vi 0, vi 0, .slice none 0 0, .slice none 0 0] 4 hS10 K32) ?_ ?_
    ·rintro _ w_5 ⟨b2, rfl, hS11⟩
     refine ⟨(hS11.se [0, 1]), ?_⟩
     refine rA [8] ?_
     refine rS 5 8 rfl (yN ((List.replicate 32 0).flatMap encI) 32 hS11 K77) ?_ ?_
     ·rintro _ w_6 ⟨b3, rfl, hS12⟩
      refine ⟨(hS12.se [0, 1]), ?_⟩
      refine rA [9] ?_
      refine rZ 9 rfl (yT 3 4 (aD b2) 62 (.agg #[vi c.Qubits, vi 0, .slice none 0 0, .slice B3 r_3.Rows.length c4]) [vi c.Qubits, vi 0, .slice none 0 0, .slice B3 r_3.Rows.length c4] 0 hS12 K20) ?_ ?_
      ·rintro _ w_7 ⟨rfl, hS13⟩
       refine ⟨(hS13.se [0, 1]), ?_⟩
       refine rA [10] ?_
       refine rZ 10 rfl (yT 4 32 (aD b3) 171 (.agg ((List.replicate 32 0).flatMap encI).toArray) ((List.replicate 32 0).flatMap encI) 0 hS13 K65 rfl rfl rfl rfl (fm_lenn2 encI_len (List.length_replicate (n := 32)) rfl) (fm_one' encI_one _) rfl (fm_fit encI_len (List.length_replicate (n := 32)) rfl) (fm_spl encI_len (List.length_replicate (n := 32)) (List.length_replicate (n := 32)))) ?_ ?_
       ·rintro _ w_8 ⟨rfl, hS14⟩
        refine ⟨(hS14.se [0, 1]), ?_⟩
        refine ra_done (by kernel_rfl) ?_
        exact ⟨aD b2, B3, c4, aD b3, (fc rfl (fc rfl (fc rfl (fc rfl fn_)))), (hS14.sel [0, 1, 3, 2, 4] rfl rfl)⟩
       exact aN
      exact aN
     exact aN
    refine rS 5 8 rfl (yN ((List.replicate 32 0).flatMap encI) 32 hS10 K77) ?_ ?_
    ·rintro _ w_9 ⟨b3, rfl, hS15⟩
     refine ⟨(hS15.se [0, 1]), ?_⟩
     refine rA [7] ?_
     refine rS 4 7 rfl (yN [vi 0, vi 0, .slice none 0 0, .slice none 0 0] 4 hS15 K32) ?_ ?_
     ·rintro _ w_10 ⟨b2, rfl, hS16⟩
      refine ⟨(hS16.se [0, 1]), ?_⟩
      refine rA [9] ?_
      refine rZ 9 rfl (yT 4 4 (aD b2) 62 (.agg #[vi c.Qubits, vi 0, .slice none 0 0, .slice B3 r_3.Rows.length c4]) [vi c.Qubits, vi 0, .slice none 0 0, .slice B3 r_3.Rows.length c4] 0 hS16 K20) ?_ ?_
      ·rintro _ w_11 ⟨rfl, hS17⟩
       refine ⟨(hS17.se [0, 1]), ?_⟩
       refine rA [10] ?_
       refine rZ 10 rfl (yT 3 32 (aD b3) 171 (.agg ((List.replicate 32 0).flatMap encI).toArray) ((List.replicate 32 0).flatMap encI) 0 hS17 K65 rfl rfl rfl rfl (fm_lenn2 encI_len (List.length_replicate (n := 32)) rfl) (fm_one' encI_one _) rfl (fm_fit encI_len (List.length_replicate (n := 32)) rfl) (fm_spl encI_len (List.length_replicate (n := 32)) (List.length_replicate (n := 32)))) ?_ ?_
       ·rintro _ w_12 ⟨rfl, hS18⟩
        refine ⟨(hS18.se [0, 1]), ?_⟩
        refine ra_done (by kernel_rfl) ?_
        exact ⟨aD b2, B3, c4, aD b3, (fc rfl (fc rfl (fc rfl (fc rfl fn_)))), (hS18.sel [0, 1, 4, 2, 3] rfl rfl)⟩
       exact aN
      exact aN
     exact aN
    exact aN
   refine rS 4 7 rfl (yN [vi 0, vi 0, .slice none 0 0, .slice none 0 0] 4 hS9 K32) ?_ ?_
   ·rintro _ w_13 ⟨b2, rfl, hS19⟩
    refine ⟨(hS19.se [0, 1]), ?_⟩
    refine rA [4, 8] ?_
    refine rC 18 4 rfl (yC [vi c.Qubits] K83 (c_impl_identityLinear c.Qubits _  (hS19.inn0 [] rfl) hc1)) ?_ ?_
    ·rintro _ w_14 ⟨B3, c4, rfl, hd2⟩
     have hS20 := hS19.out0 hd2
     refine ⟨(hS20.se [0, 1]), ?_⟩
     refine rq 5 19 (v := .agg #[vi c.Qubits, vi 0, .slice none 0 0, .slice B3 r_3.Rows.length c4]) rfl (hS20.se [0, 1]) (fun w' hw' => (Y_buildS (zs := [vi 0, vi 0, .slice none 0 0, .slice none 0 0]) (vs := [(0, vi c.Qubits), (3, .agg #[.slice B3 r_3.Rows.length c4])]) (cs := [vi c.Qubits, vi 0, .slice none 0 0, .slice B3 r_3.Rows.length c4]) K58 K32 rfl (mpc rfl (mpc rfl mpn)) rfl)) ?_
     refine rA [8] ?_
     refine rS 5 8 rfl (yN ((List.replicate 32 0).flatMap encI) 32 hS20 K77) ?_ ?_
     ·rintro _ w_15 ⟨b3, rfl, hS21⟩
      refine ⟨(hS21.se [0, 1]), ?_⟩
      refine rA [9] ?_
      refine rZ 9 rfl (yT 2 4 (aD b2) 62 (.agg #[vi c.Qubits, vi 0, .slice none 0 0, .slice B3 r_3.Rows.length c4]) [vi c.Qubits, vi 0, .slice none 0 0, .slice B3 r_3.Rows.length c4] 0 hS21 K20) ?_ ?_
      ·rintro _ w_16 ⟨rfl, hS22⟩
       refine ⟨(hS22.se [0, 1]), ?_⟩
       refine rA [10] ?_
       refine rZ 10 rfl (yT 4 32 (aD b3) 171 (.agg ((List.replicate 32 0).flatMap encI).toArray) ((List.replicate 32 0).flatMap encI) 0 hS22 K65 rfl rfl rfl rfl (fm_lenn2 encI_len (List.length_replicate (n := 32)) rfl) (fm_one' encI_one _) rfl (fm_fit encI_len (List.length_replicate (n := 32)) rfl) (fm_spl encI_len (List.length_replicate (n := 32)) (List.length_replicate (n := 32)))) ?_ ?_
       ·rintro _ w_17 ⟨rfl, hS23⟩
        refine ⟨(hS23.se [0, 1]), ?_⟩
        refine ra_done (by kernel_rfl) ?_
        exact ⟨aD b2, B3, c4, aD b3, (fc rfl (fc rfl (fc rfl (fc rfl fn_)))), (hS23.sel [0, 1, 2, 3, 4] rfl rfl)⟩
       exact aN
      exact aN
     exact aN
    refine rS 5 8 rfl (yN ((List.replicate 32 0).flatMap encI) 32 hS19 K77) ?_ ?_
    ·rintro _ w_18 ⟨b3, rfl, hS24⟩
     refine ⟨(hS24.se [0, 1]), ?_⟩
     refine rA [4] ?_
     refine rC 18 4 rfl (yC [vi c.Qubits] K83 (c_impl_identityLinear c.Qubits _  (hS24.inn0 [] rfl) hc1)) ?_ ?_
     ·rintro _ w_19 ⟨B3, c4, rfl, hd3⟩
      have hS25 := hS24.out0 hd3
      refine ⟨(hS25.se [0, 1]), ?_⟩
      refine rq 5 19 (v := .agg #[vi c.Qubits, vi 0, .slice none 0 0, .slice B3 r_3.Rows.length c4]) rfl (hS25.se [0, 1]) (fun w' hw' => (Y_buildS (zs := [vi 0, vi 0, .slice none 0 0, .slice none 0 0]) (vs := [(0, vi c.Qubits), (3, .agg #[.slice B3 r_3.Rows.length c4])]) (cs := [vi c.Qubits, vi 0, .slice none 0 0, .slice B3 r_3.Rows.length c4]) K58 K32 rfl (mpc rfl (mpc rfl mpn)) rfl)) ?_
      refine rA [9] ?_
      refine rZ 9 rfl (yT 2 4 (aD b2) 62 (.agg #[vi c.Qubits, vi 0, .slice none 0 0, .slice B3 r_3.Rows.length c4]) [vi c.Qubits, vi 0, .slice none 0 0, .slice B3 r_3.Rows.length c4] 0 hS25 K20) ?_ ?_
      ·rintro _ w_20 ⟨rfl, hS26⟩
       refine ⟨(hS26.se [0, 1]), ?_⟩
       refine rA [10] ?_
       refine rZ 10 rfl (yT 3 32 (aD b3) 171 (.agg ((List.replicate 32 0).flatMap encI).toArray) ((List.replicate 32 0).flatMap encI) 0 hS26 K65 rfl rfl rfl rfl (fm_lenn2 encI_len (List.length_replicate (n := 32)) rfl) (fm_one' encI_one _) rfl (fm_fit encI_len (List.length_replicate (n := 32)) rfl) (fm_spl encI_len (List.length_replicate (n := 32)) (List.length_replicate (n := 32)))) ?_ ?_
       ·rintro _ w_21 ⟨rfl, hS27⟩
        refine ⟨(hS27.se [0, 1]), ?_⟩
        refine ra_done (by kernel_rfl) ?_
        exact ⟨aD b2, B3, c4, aD b3, (fc rfl (fc rfl (fc rfl (fc rfl fn_)))), (hS27.sel [0, 1, 2, 4, 3] rfl rfl)⟩
       exact aN
      exact aN
     exact aN
    exact aN
   refine rS 5 8 rfl (yN ((List.replicate 32 0).flatMap encI) 32 hS9 K77) ?_ ?_
   ·rintro _ w_22 ⟨b3, rfl, hS28⟩
    refine ⟨(hS28.se [0, 1]), ?_⟩
    refine rA [4, 7] ?_
    refine rC 18 4 rfl (yC [vi c.Qubits] K83 (c_impl_identityLinear c.Qubits _  (hS28.inn0 [] rfl) hc1)) ?_ ?_
    ·rintro _ w_23 ⟨B3, c4, rfl, hd4⟩
     have hS29 := hS28.out0 hd4
     refine ⟨(hS29.se [0, 1]), ?_⟩
     refine rq 5 19 (v := .agg #[vi c.Qubits, vi 0, .slice none 0 0, .slice B3 r_3.Rows.length c4]) rfl (hS29.se [0, 1]) (fun w' hw' => (Y_buildS (zs := [vi 0, vi 0, .slice none 0 0, .slice none 0 0]) (vs := [(0, vi c.Qubits), (3, .agg #[.slice B3 r_3.Rows.length c4])]) (cs := [vi c.Qubits, vi 0, .slice none 0 0, .slice B3 r_3.Rows.length c4]) K58 K32 rfl (mpc rfl (mpc rfl mpn)) rfl)) ?_
     refine rA [7] ?_
     refine rS 4 7 rfl (yN [vi 0, vi 0, .slice none 0 0, .slice none 0 0] 4 hS29 K32) ?_ ?_
     ·rintro _ w_24 ⟨b2, rfl, hS30⟩
      refine ⟨(hS30.se [0, 1]), ?_⟩
      refine rA [9] ?_
      refine rZ 9 rfl (yT 4 4 (aD b2) 62 (.agg #[vi c.Qubits, vi 0, .slice none 0 0, .slice B3 r_3.Rows.length c4]) [vi c.Qubits, vi 0, .slice none 0 0, .slice B3 r_3.Rows.length c4] 0 hS30 K20) ?_ ?_
      ·rintro _ w_25 ⟨rfl, hS31⟩
       refine ⟨(hS31.se [0, 1]), ?_⟩
       refine rA [10] ?_
       refine rZ 10 rfl (yT 2 32 (aD b3) 171 (.agg ((List.replicate 32 0).flatMap encI).toArray) ((List.replicate 32 0).flatMap encI) 0 hS31 K65 rfl rfl rfl rfl (fm_lenn2 encI_len (List.length_replicate (n := 32)) rfl) (fm_one' encI_one _) rfl (fm_fit encI_len (List.length_replicate (n := 32)) rfl) (fm_spl encI_len (List.length_replicate (n := 32)) (List.length_replicate (n := 32)))) ?_ ?_
       ·rintro _ w_26 ⟨rfl, hS32⟩
        refine ⟨(hS32.se [0, 1]), ?_⟩
        refine ra_done (by kernel_rfl) ?_
        exact ⟨aD b2, B3, c4, aD b3, (fc rfl (fc rfl (fc rfl (fc rfl fn_)))), (hS32.sel [0, 1, 4, 3, 2] rfl rfl)⟩
       exact aN
      exact aN
     exact aN
    refine rS 4 7 rfl (yN [vi 0, vi 0, .slice none 0 0, .slice none 0 0] 4 hS28 K32) ?_ ?_
    ·rintro _ w_27 ⟨b2, rfl, hS33⟩
     refine ⟨(hS33.se [0, 1]), ?_⟩
     refine rA [4] ?_
     refine rC 18 4 rfl (yC [vi c.Qubits] K83 (c_impl_identityLinear c.Qubits _  (hS33.inn0 [] rfl) hc1)) ?_ ?_
     ·rintro _ w_28 ⟨B3, c4, rfl, hd5⟩
      have hS34 := hS33.out0 hd5
      refine ⟨(hS34.se [0, 1]), ?_⟩
      refine rq 5 19 (v := .agg #[vi c.Qubits, vi 0, .slice none 0 0, .slice B3 r_3.Rows.length c4]) rfl (hS34.se [0, 1]) (fun w' hw' => (Y_buildS (zs := [vi 0, vi 0, .slice none 0 0, .slice none 0 0]) (vs := [(0, vi c.Qubits), (3, .agg #[.slice B3 r_3.Rows.length c4])]) (cs := [vi c.Qubits, vi 0, .slice none 0 0, .slice B3 r_3.Rows.length c4]) K58 K32 rfl (mpc rfl (mpc rfl mpn)) rfl)) ?_
      refine rA [9] ?_
      refine rZ 9 rfl (yT 3 4 (aD b2) 62 (.agg #[vi c.Qubits, vi 0, .slice none 0 0, .slice B3 r_3.Rows.length c4]) [vi c.Qubits, vi 0, .slice none 0 0, .slice B3 r_3.Rows.length c4] 0 hS34 K20) ?_ ?_
      ·rintro _ w_29 ⟨rfl, hS35⟩
       refine ⟨(hS35.se [0, 1]), ?_⟩
       refine rA [10] ?_
       refine rZ 10 rfl (yT 2 32 (aD b3) 171 (.agg ((List.replicate 32 0).flatMap encI).toArray) ((List.replicate 32 0).flatMap encI) 0 hS35 K65 rfl rfl rfl rfl (fm_lenn2 encI_len (List.length_replicate (n := 32)) rfl) (fm_one' encI_one _) rfl (fm_fit encI_len (List.length_replicate (n := 32)) rfl) (fm_spl encI_len (List.length_replicate (n := 32)) (List.length_replicate (n := 32)))) ?_ ?_
       ·rintro _ w_30 ⟨rfl, hS36⟩
        have hS36 : ST w0 [] _ [⟨aD b, 28, [vi c.Qubits, .slice B c.Gates.length c1], 2⟩, ⟨aD b1, 62, [vi 0, vi 0, .slice none 0 0, .slice none 0 0], 4⟩, ⟨aD b3, 171, ((List.replicate 32 0).flatMap encI), 32⟩, ⟨aD b2, 62, [vi c.Qubits, vi 0, .slice none 0 0, .slice B3 r_3.Rows.length c4], 4⟩, ⟨B3, 3, (r_3.Rows.flatMap encI), c4 * 1⟩] [⟨B, (c.Gates.flatMap eN0)⟩] := hS36
        refine ⟨(hS36.se [0, 1]), ?_⟩
        refine ra_done (by kernel_rfl) ?_
        exact ⟨aD b2, B3, c4, aD b3, (fc rfl (fc rfl (fc rfl (fc rfl fn_)))), (hS36.sel [0, 1, 3, 4, 2] rfl rfl)⟩
       exact aN
      exact aN
     exact aN
    exact aN
   exact aN
  rintro f w ⟨B4, B5, c5, B6, hf, hS8⟩
  refine cq (cr ?_)
  refine sQ 21 (yd B4 0 0 K66 K19 rfl (hf.g 4 2)) <| sQ 22 (yd B4 3 0 K29 K14) <| sQ 23 (yl B4 3 [vi c.Qubits, vi 0, .slice none 0 0, .slice B5 r_3.Rows.length c5] (.slice B5 r_3.Rows.length c5) K13 (hS8.c 2)) <| sQ 6 (yg (.slice B5 r_3.Rows.length c5)) (rn (cq (cq (cr ?_))))
  refine sQ 24 (yd (aD b) 0 0 K36 K21 rfl (hf.g 1 0)) <| sQ 25 (yl (aD b) 1 [vi c.Qubits, .slice B c.Gates.length c1] (.slice B c.Gates.length c1) K37 (hS8.c 0)) <| sQ 26 (Y_len (B := B) (m := c.Gates.length) (c := c1) K5 rfl rfl) <| sQ 27 (ym (vi 0)) (rn ?_)
  obtain ⟨hN, hF2⟩ := chk_inv hF2
  obtain ⟨z, hz, hF3⟩ := bI hF2
  refine cw_block ?_
  refine cw_loop (fun k f w => ∃ (i : Nat) (Phase : Int) (Out : List Int) (sums : List Int), FF f [(2, pt (aD b1) 0), (4, pt B4 0), (5, pt B6 0), (6, .slice B5 r_3.Rows.length c5), (25, .slice B c.Gates.length c1), (26, vi (c.Gates.length : Int)), (27, vi (i : Int))] ∧ Out.length = r_3.Rows.length ∧ sums.length = 32 ∧ ST w0 [] w [⟨aD b1, 62, [vi 0, vi 0, .slice none 0 0, .slice none 0 0], 4⟩, ⟨B4, 62, [vi c.Qubits, vi Phase, .slice none 0 0, .slice B5 r_3.Rows.length c5], 4⟩, ⟨B5, 3, (Out.flatMap encI), c5 * 1⟩, ⟨B6, 171, (sums.flatMap encI), 32⟩] [⟨B, (c.Gates.flatMap eN0)⟩] ∧ i + k = c.Gates.length ∧ forX (F_impl_PhasePolyOf_l1 c) k i (Phase, Out, sums) = some z) c.Gates.length ⟨0, 0, r_3.Rows, (List.replicate 32 0), (fc (hf.g 2 1) (fc (hf.g 4 2) (fc (hf.g 5 3) (fc rfl (fc rfl (fc rfl (fc rfl fn_))))))), rfl, (List.length_replicate (n := 32)), (hS8.sel [1, 2, 3, 4] rfl rfl), Nat.zero_add _, hz⟩ ?_
  rintro k_ f w ⟨i, Phase, Out, sums, hf1, hl, hl1, hS37, hik, hL⟩
  refine cq (cr ?_)
  refine sQ 28 (yL (i : Int) (c.Gates.length : Int) rfl (hf1.g 27 6) (hf1.g 26 5)) (rn (cq ?_))
  refine cw_cond (b := (decide ((i : Int) < (c.Gates.length : Int)))) rfl (fun hlt => ?_) (fun hlt => ?_)
  ·skip
   have hlt1 : i < c.Gates.length := by have h := of_decide_eq_true hlt; omega
   obtain ⟨K7, rfl⟩ : ∃ k2, k_ = k2 + 1 := ⟨k_ - 1, by omega⟩
   obtain ⟨y, hb1, hL1⟩ := forX_go hL
   unfold F_impl_PhasePolyOf_l1 at hb1
   refine cw_skip (cq ?_)
   obtain ⟨z1, hz1, hF4⟩ := bI hb1
   refine cw_mid (fun f w => ∃ (Phase1 : Int) (Out1 : List Int) (sums1 : List Int), .inl (Phase1, Out1, sums1) = z1 ∧ FF f [(2, pt (aD b1) 0), (4, pt B4 0), (5, pt B6 0), (6, .slice B5 r_3.Rows.length c5), (25, .slice B c.Gates.length c1), (26, vi (c.Gates.length : Int)), (27, vi (i : Int))] ∧ Out1.length = r_3.Rows.length ∧ sums1.length = 32 ∧ ST w0 [] w [⟨aD b1, 62, [vi 0, vi 0, .slice none 0 0, .slice none 0 0], 4⟩, ⟨B4, 62, [vi c.Qubits, vi Phase1, .slice none 0 0, .slice B5 r_3.Rows.length c5], 4⟩, ⟨B5, 3, (Out1.flatMap encI), c5 * 1⟩, ⟨B6, 171, (sums1.flatMap encI), 32⟩] [⟨B, (c.Gates.flatMap eN0)⟩]) ?_ ?_
   ·skip
    refine cw_block (cq (cr ?_))
    obtain ⟨x, hx, hz1⟩ := bI hz1
    refine sQ 29 (Y_index (B := B) (m := c.Gates.length) (c := c1) (k := .i64) (i := (i : Int)) K5 K3 rfl (hf1.g 25 4) (hf1.g 27 6) (gi_isSome eN1 rfl (hS37.rf (i := 0) rfl) hx) (getI_nn hx) (getI_ltI hx rfl)) <| sQ 30 (ya B ((i : Int).toNat * 3) (c.Gates.flatMap eN0) [vi x.Kind, vi x.A, vi x.B] K24 K3 (hS37.rf (i := 0) rfl) rfl rfl (eN1 x) (gi_seg eN1 hx)) ?_
    refine sS 8 (yN [vi 0, vi 0, vi 0] 3 hS37 K9) ?_
    rintro _ w_31 ⟨b4, rfl, hS39⟩
    refine s0 (yT 4 3 (aD b4) 120 (.agg #[vi x.Kind, vi x.A, vi x.B]) [vi x.Kind, vi x.A, vi x.B] 0 hS39 K3) ?_
    rintro _ w_32 ⟨rfl, hS40⟩
    refine rn (cq (cr ?_))
    refine sQ 31 (yd (aD b4) 0 0 K33 K0) <| sQ 32 (yl (aD b4) 0 [vi x.Kind, vi x.A, vi x.B] (vi x.Kind) K1 (hS40.c 4)) (rn (cw_block (cq (cr ?_))))
    refine sQ 47 (yE x.Kind 9) <| sQ 46 (yg (.bool (x.Kind == 9))) (rn ?_)
    refine cw_cond (b := (x.Kind == 9)) rfl (fun hb2 => ?_) (fun hb2 => ?_)
    ·skip
     have hF5 := ct hz1 hb2
     obtain ⟨x1, hx1, hF5⟩ := bI hF5
     obtain ⟨x2, hx2, hF5⟩ := bI hF5
     refine cw_mid (fun f w => FF f [(2, pt (aD b1) 0), (4, pt B4 0), (5, pt B6 0), (6, .slice B5 r_3.Rows.length c5), (25, .slice B c.Gates.length c1), (26, vi (c.Gates.length : Int)), (27, vi (i : Int))] ∧ ST w0 [] w [⟨aD b1, 62, [vi 0, vi 0, .slice none 0 0, .slice none 0 0], 4⟩, ⟨B4, 62, [vi c.Qubits, vi Phase, .slice none 0 0, .slice B5 r_3.Rows.length c5], 4⟩, ⟨B5, 3, ((Out.set x.B.toNat (bits .xor .i64 x1 x2)).flatMap encI), c5 * 1⟩, ⟨B6, 171, (sums.flatMap encI), 32⟩] [⟨B, (c.Gates.flatMap eN0)⟩]) ?_ ?_
     ·skip
      refine ra_start (hS40.se [0, 1, 3, 4]).fn (by kernel_rfl) ?_
      have hS42 := hS40.drew
      refine rq 0 48 (v := .slice B5 r_3.Rows.length c5) rfl (hS42.se [0, 1, 3, 4]) (fun w' hw' => (ym (.slice B5 r_3.Rows.length c5) rfl (hf1.g 6 3))) ?_
      refine rq 1 49 (v := pt (aD b4) 2) rfl (hS42.se [0, 1, 3, 4]) (fun w' hw' => (yd (aD b4) 0 0 K26 K0)) ?_
      refine rq 2 50 (v := vi x.B) rfl (hS42.se [0, 1, 3, 4]) (fun w' hw' => (yl (aD b4) 2 [vi x.Kind, vi x.A, vi x.B] (vi x.B) K1 (ST.cf hw' (i := 3) rfl))) ?_
      refine rq 5 53 (v := .slice B5 r_3.Rows.length c5) rfl (hS42.se [0, 1, 3, 4]) (fun w' hw' => (ym (.slice B5 r_3.Rows.length c5) rfl (hf1.g 6 3))) ?_
      refine rq 6 54 (v := pt (aD b4) 1) rfl (hS42.se [0, 1, 3, 4]) (fun w' hw' => (yd (aD b4) 0 0 K18 K0)) ?_
      refine rq 7 55 (v := vi x.A) rfl (hS42.se [0, 1, 3, 4]) (fun w' hw' => (yl (aD b4) 1 [vi x.Kind, vi x.A, vi x.B] (vi x.A) K1 (ST.cf hw' (i := 3) rfl))) ?_
      refine rA [3, 8] ?_
      refine ra_y 51 (i := 3) (v := pt B5 (x.B.toNat * 1)) rfl rfl rfl (Y_index (B := B5) (m := r_3.Rows.length) (c := c5) (k := .i64) (i := x.B) K2 K0 rfl rfl rfl (gi_isSome encI_len rfl (hS42.c 2) hx1) (getI_nn hx1) (getI_ltI hx1 hl)) (hS42.se [0, 1, 3, 4]) ?_ ?_
      ·skip
       refine rA [4, 8] ?_
       refine ra_y 52 (i := 4) (v := vi x1) rfl rfl rfl (yl B5 (x.B.toNat * 1) (Out.flatMap encI) (vi x1) K1 (hS42.c 2) rfl rfl (gi_at0 encI_len hx1 rfl)) (hS42.se [0, 1, 3, 4]) ?_ ?_
       ·skip
        refine rA [8] ?_
        refine ra_y 56 (i := 8) (v := pt B5 (x.A.toNat * 1)) rfl rfl rfl (Y_index (B := B5) (m := r_3.Rows.length) (c := c5) (k := .i64) (i := x.A) K2 K0 rfl rfl rfl (gi_isSome encI_len rfl (hS42.c 2) hx2) (getI_nn hx2) (getI_ltI hx2 hl)) (hS42.se [0, 1, 3, 4]) ?_ ?_
        ·skip
         refine rA [9] ?_
         refine ra_y 57 (i := 9) (v := vi x2) rfl rfl rfl (yl B5 (x.A.toNat * 1) (Out.flatMap encI) (vi x2) K1 (hS42.c 2) rfl rfl (gi_at0 encI_len hx2 rfl)) (hS42.se [0, 1, 3, 4]) ?_ ?_
         ·skip
          refine rq 10 58 (v := vi (bits .xor .i64 x1 x2)) rfl (hS42.se [0, 1, 3, 4]) (fun w' hw' => (Y_bxor (k := .i64) (a := x1) (b := x2) rfl rfl rfl)) ?_
          refine rA [11] ?_
          refine ra_y 59 (i := 11) (v := pt B5 (x.B.toNat * 1)) rfl rfl rfl (Y_index (B := B5) (m := r_3.Rows.length) (c := c5) (k := .i64) (i := x.B) K2 K0 rfl rfl rfl (gi_isSome encI_len rfl (hS42.c 2) hx1) (getI_nn hx1) (getI_ltI hx1 hl)) (hS42.se [0, 1, 3, 4]) ?_ ?_
          ·skip
           refine rA [12] ?_
           refine rZ 12 rfl (yS 2 1 B5 3 (vi (bits .xor .i64 x1 x2)) [vi (bits .xor .i64 x1 x2)] (x.B.toNat * 1) ((Out.set x.B.toNat (bits .xor .i64 x1 x2)).flatMap encI) hS42 K0 rfl rfl rfl rfl rfl rfl rfl (gi_fit0 encI_len hx1) (gi_set encI_len hx1 (bits .xor .i64 x1 x2) rfl)) ?_ ?_
           ·rintro _ w_33 ⟨rfl, hS43⟩
            refine ⟨(hS43.se [0, 1, 3, 4]), ?_⟩
            refine ra_done (by kernel_rfl) ?_
            exact ⟨(fc (hf1.g 2 0) (fc (hf1.g 4 1) (fc (hf1.g 5 2) (fc (hf1.g 6 3) (fc (hf1.g 25 4) (fc (hf1.g 26 5) (fc (hf1.g 27 6) fn_))))))), (hS43.sel [0, 1, 2, 3] rfl rfl)⟩
           exact aN
          exact aN
         exact aN
        exact aN
       refine ra_y 56 (i := 8) (v := pt B5 (x.A.toNat * 1)) rfl rfl rfl (Y_index (B := B5) (m := r_3.Rows.length) (c := c5) (k := .i64) (i := x.A) K2 K0 rfl rfl rfl (gi_isSome encI_len rfl (hS42.c 2) hx2) (getI_nn hx2) (getI_ltI hx2 hl)) (hS42.se [0, 1, 3, 4]) ?_ ?_
       ·skip
        refine rA [4, 9] ?_
        refine ra_y 52 (i := 4) (v := vi x1) rfl rfl rfl (yl B5 (x.B.toNat * 1) (Out.flatMap encI) (vi x1) K1 (hS42.c 2) rfl rfl (gi_at0 encI_len hx1 rfl)) (hS42.se [0, 1, 3, 4]) ?_ ?_
        ·skip
         refine rA [9] ?_
         refine ra_y 57 (i := 9) (v := vi x2) rfl rfl rfl (yl B5 (x.A.toNat * 1) (Out.flatMap encI) (vi x2) K1 (hS42.c 2) rfl rfl (gi_at0 encI_len hx2 rfl)) (hS42.se [0, 1, 3, 4]) ?_ ?_
         ·skip
          refine rq 10 58 (v := vi (bits .xor .i64 x1 x2)) rfl (hS42.se [0, 1, 3, 4]) (fun w' hw' => (Y_bxor (k := .i64) (a := x1) (b := x2) rfl rfl rfl)) ?_
          refine rA [11] ?_
          refine ra_y 59 (i := 11) (v := pt B5 (x.B.toNat * 1)) rfl rfl rfl (Y_index (B := B5) (m := r_3.Rows.length) (c := c5) (k := .i64) (i := x.B) K2 K0 rfl rfl rfl (gi_isSome encI_len rfl (hS42.c 2) hx1) (getI_nn hx1) (getI_ltI hx1 hl)) (hS42.se [0, 1, 3, 4]) ?_ ?_
          ·skip
           refine rA [12] ?_
           refine rZ 12 rfl (yS 2 1 B5 3 (vi (bits .xor .i64 x1 x2)) [vi (bits .xor .i64 x1 x2)] (x.B.toNat * 1) ((Out.set x.B.toNat (bits .xor .i64 x1 x2)).flatMap encI) hS42 K0 rfl rfl rfl rfl rfl rfl rfl (gi_fit0 encI_len hx1) (gi_set encI_len hx1 (bits .xor .i64 x1 x2) rfl)) ?_ ?_
           ·rintro _ w_34 ⟨rfl, hS44⟩
            refine ⟨(hS44.se [0, 1, 3, 4]), ?_⟩
            refine ra_done (by kernel_rfl) ?_
            exact ⟨(fc (hf1.g 2 0) (fc (hf1.g 4 1) (fc (hf1.g 5 2) (fc (hf1.g 6 3) (fc (hf1.g 25 4) (fc (hf1.g 26 5) (fc (hf1.g 27 6) fn_))))))), (hS44.sel [0, 1, 2, 3] rfl rfl)⟩
           exact aN
          exact aN
         exact aN
        refine ra_y 57 (i := 9) (v := vi x2) rfl rfl rfl (yl B5 (x.A.toNat * 1) (Out.flatMap encI) (vi x2) K1 (hS42.c 2) rfl rfl (gi_at0 encI_len hx2 rfl)) (hS42.se [0, 1, 3, 4]) ?_ ?_
        ·skip
         refine rA [4] ?_
         refine ra_y 52 (i := 4) (v := vi x1) rfl rfl rfl (yl B5 (x.B.toNat * 1) (Out.flatMap encI) (vi x1) K1 (hS42.c 2) rfl rfl (gi_at0 encI_len hx1 rfl)) (hS42.se [0, 1, 3, 4]) ?_ ?_
         ·skip
          refine rq 10 58 (v := vi (bits .xor .i64 x1 x2)) rfl (hS42.se [0, 1, 3, 4]) (fun w' hw' => (Y_bxor (k := .i64) (a := x1) (b := x2) rfl rfl rfl)) ?_
          refine rA [11] ?_
          refine ra_y 59 (i := 11) (v := pt B5 (x.B.toNat * 1)) rfl rfl rfl (Y_index (B := B5) (m := r_3.Rows.length) (c := c5) (k := .i64) (i := x.B) K2 K0 rfl rfl rfl (gi_isSome encI_len rfl (hS42.c 2) hx1) (getI_nn hx1) (getI_ltI hx1 hl)) (hS42.se [0, 1, 3, 4]) ?_ ?_
          ·skip
           refine rA [12] ?_
           refine rZ 12 rfl (yS 2 1 B5 3 (vi (bits .xor .i64 x1 x2)) [vi (bits .xor .i64 x1 x2)] (x.B.toNat * 1) ((Out.set x.B.toNat (bits .xor .i64 x1 x2)).flatMap encI) hS42 K0 rfl rfl rfl rfl rfl rfl rfl (gi_fit0 encI_len hx1) (gi_set encI_len hx1 (bits .xor .i64 x1 x2) rfl)) ?_ ?_
           ·rintro _ w_35 ⟨rfl, hS45⟩
            refine ⟨(hS45.se [0, 1, 3, 4]), ?_⟩
            refine ra_done (by kernel_rfl) ?_
            exact ⟨(fc (hf1.g 2 0) (fc (hf1.g 4 1) (fc (hf1.g 5 2) (fc (hf1.g 6 3) (fc (hf1.g 25 4) (fc (hf1.g 26 5) (fc (hf1.g 27 6) fn_))))))), (hS45.sel [0, 1, 2, 3] rfl rfl)⟩
           exact aN
          exact aN
         exact aN
        exact aN
       exact aN
      refine ra_y 56 (i := 8) (v := pt B5 (x.A.toNat * 1)) rfl rfl rfl (Y_index (B := B5) (m := r_3.Rows.length) (c := c5) (k := .i64) (i := x.A) K2 K0 rfl rfl rfl (gi_isSome encI_len rfl (hS42.c 2) hx2) (getI_nn hx2) (getI_ltI hx2 hl)) (hS42.se [0, 1, 3, 4]) ?_ ?_
      ·skip
       refine rA [3, 9] ?_
       refine ra_y 51 (i := 3) (v := pt B5 (x.B.toNat * 1)) rfl rfl rfl (Y_index (B := B5) (m := r_3.Rows.length) (c := c5) (k := .i64) (i := x.B) K2 K0 rfl rfl rfl (gi_isSome encI_len rfl (hS42.c 2) hx1) (getI_nn hx1) (getI_ltI hx1 hl)) (hS42.se [0, 1, 3, 4]) ?_ ?_
       ·skip
        refine rA [4, 9] ?_
        refine ra_y 52 (i := 4) (v := vi x1) rfl rfl rfl (yl B5 (x.B.toNat * 1) (Out.flatMap encI) (vi x1) K1 (hS42.c 2) rfl rfl (gi_at0 encI_len hx1 rfl)) (hS42.se [0, 1, 3, 4]) ?_ ?_
        ·skip
         refine rA [9] ?_
         refine ra_y 57 (i := 9) (v := vi x2) rfl rfl rfl (yl B5 (x.A.toNat * 1) (Out.flatMap encI) (vi x2) K1 (hS42.c 2) rfl rfl (gi_at0 encI_len hx2 rfl)) (hS42.se [0, 1, 3, 4]) ?_ ?_
         ·skip
          refine rq 10 58 (v := vi (bits .xor .i64 x1 x2)) rfl (hS42.se [0, 1, 3, 4]) (fun w' hw' => (Y_bxor (k := .i64) (a := x1) (b := x2) rfl rfl rfl)) ?_
          refine rA [11] ?_
          refine ra_y 59 (i := 11) (v := pt B5 (x.B.toNat * 1)) rfl rfl rfl (Y_index (B := B5) (m := r_3.Rows.length) (c := c5) (k := .i64) (i := x.B) K2 K0 rfl rfl rfl (gi_isSome encI_len rfl (hS42.c 2) hx1) (getI_nn hx1) (getI_ltI hx1 hl)) (hS42.se [0, 1, 3, 4]) ?_ ?_
          ·skip
           refine rA [12] ?_
           refine rZ 12 rfl (yS 2 1 B5 3 (vi (bits .xor .i64 x1 x2)) [vi (bits .xor .i64 x1 x2)] (x.B.toNat * 1) ((Out.set x.B.toNat (bits .xor .i64 x1 x2)).flatMap encI) hS42 K0 rfl rfl rfl rfl rfl rfl rfl (gi_fit0 encI_len hx1) (gi_set encI_len hx1 (bits .xor .i64 x1 x2) rfl)) ?_ ?_
           ·rintro _ w_36 ⟨rfl, hS46⟩
            refine ⟨(hS46.se [0, 1, 3, 4]), ?_⟩
            refine ra_done (by kernel_rfl) ?_
            exact ⟨(fc (hf1.g 2 0) (fc (hf1.g 4 1) (fc (hf1.g 5 2) (fc (hf1.g 6 3) (fc (hf1.g 25 4) (fc (hf1.g 26 5) (fc (hf1.g 27 6) fn_))))))), (hS46.sel [0, 1, 2, 3] rfl rfl)⟩
           exact aN
          exact aN
         exact aN
        refine ra_y 57 (i := 9) (v := vi x2) rfl rfl rfl (yl B5 (x.A.toNat * 1) (Out.flatMap encI) (vi x2) K1 (hS42.c 2) rfl rfl (gi_at0 encI_len hx2 rfl)) (hS42.se [0, 1, 3, 4]) ?_ ?_
        ·skip
         refine rA [4] ?_
         refine ra_y 52 (i := 4) (v := vi x1) rfl rfl rfl (yl B5 (x.B.toNat * 1) (Out.flatMap encI) (vi x1) K1 (hS42.c 2) rfl rfl (gi_at0 encI_len hx1 rfl)) (hS42.se [0, 1, 3, 4]) ?_ ?_
         ·skip
          refine rq 10 58 (v := vi (bits .xor .i64 x1 x2)) rfl (hS42.se [0, 1, 3, 4]) (fun w' hw' => (Y_bxor (k := .i64) (a := x1) (b := x2) rfl rfl rfl)) ?_
          refine rA [11] ?_
          refine ra_y 59 (i := 11) (v := pt B5 (x.B.toNat * 1)) rfl rfl rfl (Y_index (B := B5) (m := r_3.Rows.length) (c := c5) (k := .i64) (i := x.B) K2 K0 rfl rfl rfl (gi_isSome encI_len rfl (hS42.c 2) hx1) (getI_nn hx1) (getI_ltI hx1 hl)) (hS42.se [0, 1, 3, 4]) ?_ ?_
          ·skip
           refine rA [12] ?_
           refine rZ 12 rfl (yS 2 1 B5 3 (vi (bits .xor .i64 x1 x2)) [vi (bits .xor .i64 x1 x2)] (x.B.toNat * 1) ((Out.set x.B.toNat (bits .xor .i64 x1 x2)).flatMap encI) hS42 K0 rfl rfl rfl rfl rfl rfl rfl (gi_fit0 encI_len hx1) (gi_set encI_len hx1 (bits .xor .i64 x1 x2) rfl)) ?_ ?_
           ·rintro _ w_37 ⟨rfl, hS47⟩
            refine ⟨(hS47.se [0, 1, 3, 4]), ?_⟩
            refine ra_done (by kernel_rfl) ?_
            exact ⟨(fc (hf1.g 2 0) (fc (hf1.g 4 1) (fc (hf1.g 5 2) (fc (hf1.g 6 3) (fc (hf1.g 25 4) (fc (hf1.g 26 5) (fc (hf1.g 27 6) fn_))))))), (hS47.sel [0, 1, 2, 3] rfl rfl)⟩
           exact aN
          exact aN
         exact aN
        exact aN
       refine ra_y 57 (i := 9) (v := vi x2) rfl rfl rfl (yl B5 (x.A.toNat * 1) (Out.flatMap encI) (vi x2) K1 (hS42.c 2) rfl rfl (gi_at0 encI_len hx2 rfl)) (hS42.se [0, 1, 3, 4]) ?_ ?_
       ·skip
        refine rA [3] ?_
        refine ra_y 51 (i := 3) (v := pt B5 (x.B.toNat * 1)) rfl rfl rfl (Y_index (B := B5) (m := r_3.Rows.length) (c := c5) (k := .i64) (i := x.B) K2 K0 rfl rfl rfl (gi_isSome encI_len rfl (hS42.c 2) hx1) (getI_nn hx1) (getI_ltI hx1 hl)) (hS42.se [0, 1, 3, 4]) ?_ ?_
        ·skip
         refine rA [4] ?_
         refine ra_y 52 (i := 4) (v := vi x1) rfl rfl rfl (yl B5 (x.B.toNat * 1) (Out.flatMap encI) (vi x1) K1 (hS42.c 2) rfl rfl (gi_at0 encI_len hx1 rfl)) (hS42.se [0, 1, 3, 4]) ?_ ?_
         ·skip
          refine rq 10 58 (v := vi (bits .xor .i64 x1 x2)) rfl (hS42.se [0, 1, 3, 4]) (fun w' hw' => (Y_bxor (k := .i64) (a := x1) (b := x2) rfl rfl rfl)) ?_
          refine rA [11] ?_
          refine ra_y 59 (i := 11) (v := pt B5 (x.B.toNat * 1)) rfl rfl rfl (Y_index (B := B5) (m := r_3.Rows.length) (c := c5) (k := .i64) (i := x.B) K2 K0 rfl rfl rfl (gi_isSome encI_len rfl (hS42.c 2) hx1) (getI_nn hx1) (getI_ltI hx1 hl)) (hS42.se [0, 1, 3, 4]) ?_ ?_
          ·skip
           refine rA [12] ?_
           refine rZ 12 rfl (yS 2 1 B5 3 (vi (bits .xor .i64 x1 x2)) [vi (bits .xor .i64 x1 x2)] (x.B.toNat * 1) ((Out.set x.B.toNat (bits .xor .i64 x1 x2)).flatMap encI) hS42 K0 rfl rfl rfl rfl rfl rfl rfl (gi_fit0 encI_len hx1) (gi_set encI_len hx1 (bits .xor .i64 x1 x2) rfl)) ?_ ?_
           ·rintro _ w_38 ⟨rfl, hS48⟩
            refine ⟨(hS48.se [0, 1, 3, 4]), ?_⟩
            refine ra_done (by kernel_rfl) ?_
            exact ⟨(fc (hf1.g 2 0) (fc (hf1.g 4 1) (fc (hf1.g 5 2) (fc (hf1.g 6 3) (fc (hf1.g 25 4) (fc (hf1.g 26 5) (fc (hf1.g 27 6) fn_))))))), (hS48.sel [0, 1, 2, 3] rfl rfl)⟩
           exact aN
          exact aN
         exact aN
        exact aN
       exact aN
      exact aN
     rintro f w ⟨hf3, hS41⟩
     exact ⟨Phase, (Out.set x.B.toNat (bits .xor .i64 x1 x2)), sums, (sI hF5), (fc (hf3.g 2 0) (fc (hf3.g 4 1) (fc (hf3.g 5 2) (fc (hf3.g 6 3) (fc (hf3.g 25 4) (fc (hf3.g 26 5) (fc (hf3.g 27 6) fn_))))))), (set_len _ _ _ hl), hl1, (hS41.sel [0, 1, 2, 3] rfl rfl)⟩
    ·skip
     have hF6 := cf' hz1 hb2
     refine cq (cr ?_)
     refine sQ 61 (yE x.Kind 11) <| sQ 60 (yg (.bool (x.Kind == 11))) (rn ?_)
     refine cw_cond (b := (x.Kind == 11)) rfl (fun hb3 => ?_) (fun hb3 => ?_)
     ·skip
      have hF7 := ct hF6 hb3
      obtain ⟨x3, hx3, hF7⟩ := bI hF7
      obtain ⟨x4, hx4, hF7⟩ := bI hF7
      obtain ⟨x5, hx5, hF7⟩ := bI hF7
      refine cw_mid (fun f w => FF f [(2, pt (aD b1) 0), (4, pt B4 0), (5, pt B6 0), (6, .slice B5 r_3.Rows.length c5), (25, .slice B c.Gates.length c1), (26, vi (c.Gates.length : Int)), (27, vi (i : Int))] ∧ ST w0 [] w [⟨aD b1, 62, [vi 0, vi 0, .slice none 0 0, .slice none 0 0], 4⟩, ⟨B4, 62, [vi c.Qubits, vi Phase, .slice none 0 0, .slice B5 r_3.Rows.length c5], 4⟩, ⟨B5, 3, (((Out.set x.A.toNat x3).set x.B.toNat x4).flatMap encI), c5 * 1⟩, ⟨B6, 171, (sums.flatMap encI), 32⟩] [⟨B, (c.Gates.flatMap eN0)⟩]) ?_ ?_
      ·skip
       refine ra_start (hS40.se [0, 1, 3, 4]).fn (by kernel_rfl) ?_
       have hS50 := hS40.drew
       refine rq 0 62 (v := .slice B5 r_3.Rows.length c5) rfl (hS50.se [0, 1, 3, 4]) (fun w' hw' => (ym (.slice B5 r_3.Rows.length c5) rfl (hf1.g 6 3))) ?_
       refine rq 1 63 (v := pt (aD b4) 1) rfl (hS50.se [0, 1, 3, 4]) (fun w' hw' => (yd (aD b4) 0 0 K18 K0)) ?_
       refine rq 2 64 (v := vi x.A) rfl (hS50.se [0, 1, 3, 4]) (fun w' hw' => (yl (aD b4) 1 [vi x.Kind, vi x.A, vi x.B] (vi x.A) K1 (ST.cf hw' (i := 3) rfl))) ?_
       refine rq 3 65 (v := .slice B5 r_3.Rows.length c5) rfl (hS50.se [0, 1, 3, 4]) (fun w' hw' => (ym (.slice B5 r_3.Rows.length c5) rfl (hf1.g 6 3))) ?_
       refine rq 4 66 (v := pt (aD b4) 2) rfl (hS50.se [0, 1, 3, 4]) (fun w' hw' => (yd (aD b4) 0 0 K26 K0)) ?_
       refine rq 5 67 (v := vi x.B) rfl (hS50.se [0, 1, 3, 4]) (fun w' hw' => (yl (aD b4) 2 [vi x.Kind, vi x.A, vi x.B] (vi x.B) K1 (ST.cf hw' (i := 3) rfl))) ?_
       refine rq 6 68 (v := .slice B5 r_3.Rows.length c5) rfl (hS50.se [0, 1, 3, 4]) (fun w' hw' => (ym (.slice B5 r_3.Rows.length c5) rfl (hf1.g 6 3))) ?_
       refine rq 7 69 (v := pt (aD b4) 2) rfl (hS50.se [0, 1, 3, 4]) (fun w' hw' => (yd (aD b4) 0 0 K26 K0)) ?_
       refine rq 8 70 (v := vi x.B) rfl (hS50.se [0, 1, 3, 4]) (fun w' hw' => (yl (aD b4) 2 [vi x.Kind, vi x.A, vi x.B] (vi x.B) K1 (ST.cf hw' (i := 3) rfl))) ?_
       refine rq 11 73 (v := .slice B5 r_3.Rows.length c5) rfl (hS50.se [0, 1, 3, 4]) (fun w' hw' => (ym (.slice B5 r_3.Rows.length c5) rfl (hf1.g 6 3))) ?_
       refine rq 12 74 (v := pt (aD b4) 1) rfl (hS50.se [0, 1, 3, 4]) (fun w' hw' => (yd (aD b4) 0 0 K18 K0)) ?_
       refine rq 13 75 (v := vi x.A) rfl (hS50.se [0, 1, 3, 4]) (fun w' hw' => (yl (aD b4) 1 [vi x.Kind, vi x.A, vi x.B] (vi x.A) K1 (ST.cf hw' (i := 3) rfl))) ?_
       refine rA [9, 14] ?_
       refine ra_y 71 (i := 9) (v := pt B5 (x.B.toNat * 1)) rfl rfl rfl (Y_index (B := B5) (m := r_3.Rows.length) (c := c5) (k := .i64) (i := x.B) K2 K0 rfl rfl rfl (gi_isSome encI_len rfl (hS50.c 2) hx3) (getI_nn hx3) (getI_ltI hx3 hl)) (hS50.se [0, 1, 3, 4]) ?_ ?_
       ·skip
        refine rA [10, 14] ?_
        refine ra_y 72 (i := 10) (v := vi x3) rfl rfl rfl (yl B5 (x.B.toNat * 1) (Out.flatMap encI) (vi x3) K1 (hS50.c 2) rfl rfl (gi_at0 encI_len hx3 rfl)) (hS50.se [0, 1, 3, 4]) ?_ ?_
        ·skip
         refine rA [14] ?_
         refine ra_y 76 (i := 14) (v := pt B5 (x.A.toNat * 1)) rfl rfl rfl (Y_index (B := B5) (m := r_3.Rows.length) (c := c5) (k := .i64) (i := x.A) K2 K0 rfl rfl rfl (gi_isSome encI_len rfl (hS50.c 2) hx4) (getI_nn hx4) (getI_ltI hx4 hl)) (hS50.se [0, 1, 3, 4]) ?_ ?_
         ·skip
          refine rA [15] ?_
          refine ra_y 77 (i := 15) (v := vi x4) rfl rfl rfl (yl B5 (x.A.toNat * 1) (Out.flatMap encI) (vi x4) K1 (hS50.c 2) rfl rfl (gi_at0 encI_len hx4 rfl)) (hS50.se [0, 1, 3, 4]) ?_ ?_
          ·skip
           refine rA [16] ?_
           refine ra_y 78 (i := 16) (v := pt B5 (x.A.toNat * 1)) rfl rfl rfl (Y_index (B := B5) (m := r_3.Rows.length) (c := c5) (k := .i64) (i := x.A) K2 K0 rfl rfl rfl (gi_isSome encI_len rfl (hS50.c 2) hx4) (getI_nn hx4) (getI_ltI hx4 hl)) (hS50.se [0, 1, 3, 4]) ?_ ?_
           ·skip
            refine rA [17] ?_
            refine rZ 17 rfl (yS 2 1 B5 3 (vi x3) [vi x3] (x.A.toNat * 1) ((Out.set x.A.toNat x3).flatMap encI) hS50 K0 rfl rfl rfl rfl rfl rfl rfl (gi_fit0 encI_len hx4) (gi_set encI_len hx4 x3 rfl)) ?_ ?_
            ·rintro _ w_39 ⟨rfl, hS51⟩
             refine ⟨(hS51.se [0, 1, 3, 4]), ?_⟩
             refine rA [18] ?_
             refine ra_y 79 (i := 18) (v := pt B5 (x.B.toNat * 1)) rfl rfl rfl (Y_index (B := B5) (m := r_3.Rows.length) (c := c5) (k := .i64) (i := x.B) K2 K0 rfl rfl rfl (gi_isSome encI_len rfl (hS51.c 2) hx5) (getI_nn hx5) (getI_ltI hx5 (set_len _ _ _ hl))) (hS51.se [0, 1, 3, 4]) ?_ ?_
             ·skip
              refine rA [19] ?_
              refine rZ 19 rfl (yS 2 1 B5 3 (vi x4) [vi x4] (x.B.toNat * 1) (((Out.set x.A.toNat x3).set x.B.toNat x4).flatMap encI) hS51 K0 rfl rfl rfl rfl rfl rfl rfl (gi_fit0 encI_len hx5) (gi_set encI_len hx5 x4 rfl)) ?_ ?_
              ·rintro _ w_40 ⟨rfl, hS52⟩
               refine ⟨(hS52.se [0, 1, 3, 4]), ?_⟩
               refine ra_done (by kernel_rfl) ?_
               exact ⟨(fc (hf1.g 2 0) (fc (hf1.g 4 1) (fc (hf1.g 5 2) (fc (hf1.g 6 3) (fc (hf1.g 25 4) (fc (hf1.g 26 5) (fc (hf1.g 27 6) fn_))))))), (hS52.sel [0, 1, 2, 3] rfl rfl)⟩
              exact aN
             exact aN
            exact aN
           exact aN
          exact aN
         exact aN
        refine ra_y 76 (i := 14) (v := pt B5 (x.A.toNat * 1)) rfl rfl rfl (Y_index (B := B5) (m := r_3.Rows.length) (c := c5) (k := .i64) (i := x.A) K2 K0 rfl rfl rfl (gi_isSome encI_len rfl (hS50.c 2) hx4) (getI_nn hx4) (getI_ltI hx4 hl)) (hS50.se [0, 1, 3, 4]) ?_ ?_
        ·skip
         refine rA [10, 15] ?_
         refine ra_y 72 (i := 10) (v := vi x3) rfl rfl rfl (yl B5 (x.B.toNat * 1) (Out.flatMap encI) (vi x3) K1 (hS50.c 2) rfl rfl (gi_at0 encI_len hx3 rfl)) (hS50.se [0, 1, 3, 4]) ?_ ?_
         ·skip
          refine rA [15] ?_
          refine ra_y 77 (i := 15) (v := vi x4) rfl rfl rfl (yl B5 (x.A.toNat * 1) (Out.flatMap encI) (vi x4) K1 (hS50.c 2) rfl rfl (gi_at0 encI_len hx4 rfl)) (hS50.se [0, 1, 3, 4]) ?_ ?_
          ·skip
           refine rA [16] ?_
           refine ra_y 78 (i := 16) (v := pt B5 (x.A.toNat * 1)) rfl rfl rfl (Y_index (B := B5) (m := r_3.Rows.length) (c := c5) (k := .i64) (i := x.A) K2 K0 rfl rfl rfl (gi_isSome encI_len rfl (hS50.c 2) hx4) (getI_nn hx4) (getI_ltI hx4 hl)) (hS50.se [0, 1, 3, 4]) ?_ ?_
           ·skip
            refine rA [17] ?_
            refine rZ 17 rfl (yS 2 1 B5 3 (vi x3) [vi x3] (x.A.toNat * 1) ((Out.set x.A.toNat x3).flatMap encI) hS50 K0 rfl rfl rfl rfl rfl rfl rfl (gi_fit0 encI_len hx4) (gi_set encI_len hx4 x3 rfl)) ?_ ?_
            ·rintro _ w_41 ⟨rfl, hS53⟩
             refine ⟨(hS53.se [0, 1, 3, 4]), ?_⟩
             refine rA [18] ?_
             refine ra_y 79 (i := 18) (v := pt B5 (x.B.toNat * 1)) rfl rfl rfl (Y_index (B := B5) (m := r_3.Rows.length) (c := c5) (k := .i64) (i := x.B) K2 K0 rfl rfl rfl (gi_isSome encI_len rfl (hS53.c 2) hx5) (getI_nn hx5) (getI_ltI hx5 (set_len _ _ _ hl))) (hS53.se [0, 1, 3, 4]) ?_ ?_
             ·skip
              refine rA [19] ?_
              refine rZ 19 rfl (yS 2 1 B5 3 (vi x4) [vi x4] (x.B.toNat * 1) (((Out.set x.A.toNat x3).set x.B.toNat x4).flatMap encI) hS53 K0 rfl rfl rfl rfl rfl rfl rfl (gi_fit0 encI_len hx5) (gi_set encI_len hx5 x4 rfl)) ?_ ?_
              ·rintro _ w_42 ⟨rfl, hS54⟩
               refine ⟨(hS54.se [0, 1, 3, 4]), ?_⟩
               refine ra_done (by kernel_rfl) ?_
               exact ⟨(fc (hf1.g 2 0) (fc (hf1.g 4 1) (fc (hf1.g 5 2) (fc (hf1.g 6 3) (fc (hf1.g 25 4) (fc (hf1.g 26 5) (fc (hf1.g 27 6) fn_))))))), (hS54.sel [0, 1, 2, 3] rfl rfl)⟩
              exact aN
             exact aN
            exact aN
           exact aN
          exact aN
         refine ra_y 77 (i := 15) (v := vi x4) rfl rfl rfl (yl B5 (x.A.toNat * 1) (Out.flatMap encI) (vi x4) K1 (hS50.c 2) rfl rfl (gi_at0 encI_len hx4 rfl)) (hS50.se [0, 1, 3, 4]) ?_ ?_
         ·skip
          refine rA [10] ?_
          refine ra_y 72 (i := 10) (v := vi x3) rfl rfl rfl (yl B5 (x.B.toNat * 1) (Out.flatMap encI) (vi x3) K1 (hS50.c 2) rfl rfl (gi_at0 encI_len hx3 rfl)) (hS50.se [0, 1, 3, 4]) ?_ ?_
          ·skip
           refine rA [16] ?_
           refine ra_y 78 (i := 16) (v := pt B5 (x.A.toNat * 1)) rfl rfl rfl (Y_index (B := B5) (m := r_3.Rows.length) (c := c5) (k := .i64) (i := x.A) K2 K0 rfl rfl rfl (gi_isSome encI_len rfl (hS50.c 2) hx4) (getI_nn hx4) (getI_ltI hx4 hl)) (hS50.se [0, 1, 3, 4]) ?_ ?_
           ·skip
            refine rA [17] ?_
            refine rZ 17 rfl (yS 2 1 B5 3 (vi x3) [vi x3] (x.A.toNat * 1) ((Out.set x.A.toNat x3).flatMap encI) hS50 K0 rfl rfl rfl rfl rfl rfl rfl (gi_fit0 encI_len hx4) (gi_set encI_len hx4 x3 rfl)) ?_ ?_
            ·rintro _ w_43 ⟨rfl, hS55⟩
             refine ⟨(hS55.se [0, 1, 3, 4]), ?_⟩
             refine rA [18] ?_
             refine ra_y 79 (i := 18) (v := pt B5 (x.B.toNat * 1)) rfl rfl rfl (Y_index (B := B5) (m := r_3.Rows.length) (c := c5) (k := .i64) (i := x.B) K2 K0 rfl rfl rfl (gi_isSome encI_len rfl (hS55.c 2) hx5) (getI_nn hx5) (getI_ltI hx5 (set_len _ _ _ hl))) (hS55.se [0, 1, 3, 4]) ?_ ?_
             ·skip
              refine rA [19] ?_
              refine rZ 19 rfl (yS 2 1 B5 3 (vi x4) [vi x4] (x.B.toNat * 1) (((Out.set x.A.toNat x3).set x.B.toNat x4).flatMap encI) hS55 K0 rfl rfl rfl rfl rfl rfl rfl (gi_fit0 encI_len hx5) (gi_set encI_len hx5 x4 rfl)) ?_ ?_
              ·rintro _ w_44 ⟨rfl, hS56⟩
               refine ⟨(hS56.se [0, 1, 3, 4]), ?_⟩
               refine ra_done (by kernel_rfl) ?_
               exact ⟨(fc (hf1.g 2 0) (fc (hf1.g 4 1) (fc (hf1.g 5 2) (fc (hf1.g 6 3) (fc (hf1.g 25 4) (fc (hf1.g 26 5) (fc (hf1.g 27 6) fn_))))))), (hS56.sel [0, 1, 2, 3] rfl rfl)⟩
              exact aN
             exact aN
            exact aN
           exact aN
          exact aN
         exact aN
        exact aN
       refine ra_y 76 (i := 14) (v := pt B5 (x.A.toNat * 1)) rfl rfl rfl (Y_index (B := B5) (m := r_3.Rows.length) (c := c5) (k := .i64) (i := x.A) K2 K0 rfl rfl rfl (gi_isSome encI_len rfl (hS50.c 2) hx4) (getI_nn hx4) (getI_ltI hx4 hl)) (hS50.se [0, 1, 3, 4]) ?_ ?_
       ·skip
        refine rA [9, 15] ?_
        refine ra_y 71 (i := 9) (v := pt B5 (x.B.toNat * 1)) rfl rfl rfl (Y_index (B := B5) (m := r_3.Rows.length) (c := c5) (k := .i64) (i := x.B) K2 K0 rfl rfl rfl (gi_isSome encI_len rfl (hS50.c 2) hx3) (getI_nn hx3) (getI_ltI hx3 hl)) (hS50.se [0, 1, 3, 4]) ?_ ?_
        ·skip
         refine rA [10, 15] ?_
         refine ra_y 72 (i := 10) (v := vi x3) rfl rfl rfl (yl B5 (x.B.toNat * 1) (Out.flatMap encI) (vi x3) K1 (hS50.c 2) rfl rfl (gi_at0 encI_len hx3 rfl)) (hS50.se [0, 1, 3, 4]) ?_ ?_
         ·skip
          refine rA [15] ?_
          refine ra_y 77 (i := 15) (v := vi x4) rfl rfl rfl (yl B5 (x.A.toNat * 1) (Out.flatMap encI) (vi x4) K1 (hS50.c 2) rfl rfl (gi_at0 encI_len hx4 rfl)) (hS50.se [0, 1, 3, 4]) ?_ ?_
          ·skip
           refine rA [16] ?_
           refine ra_y 78 (i := 16) (v := pt B5 (x.A.toNat * 1)) rfl rfl rfl (Y_index (B := B5) (m := r_3.Rows.length) (c := c5) (k := .i64) (i := x.A) K2 K0 rfl rfl rfl (gi_isSome encI_len rfl (hS50.c 2) hx4) (getI_nn hx4) (getI_ltI hx4 hl)) (hS50.se [0, 1, 3, 4]) ?_ ?_
           ·skip
            refine rA [17] ?_
            refine rZ 17 rfl (yS 2 1 B5 3 (vi x3) [vi x3] (x.A.toNat * 1) ((Out.set x.A.toNat x3).flatMap encI) hS50 K0 rfl rfl rfl rfl rfl rfl rfl (gi_fit0 encI_len hx4) (gi_set encI_len hx4 x3 rfl)) ?_ ?_
            ·rintro _ w_45 ⟨rfl, hS57⟩
             refine ⟨(hS57.se [0, 1, 3, 4]), ?_⟩
             refine rA [18] ?_
             refine ra_y 79 (i := 18) (v := pt B5 (x.B.toNat * 1)) rfl rfl rfl (Y_index (B := B5) (m := r_3.Rows.length) (c := c5) (k := .i64) (i := x.B) K2 K0 rfl rfl rfl (gi_isSome encI_len rfl (hS57.c 2) hx5) (getI_nn hx5) (getI_ltI hx5 (set_len _ _ _ hl))) (hS57.se [0, 1, 3, 4]) ?_ ?_
             ·skip
              refine rA [19] ?_
              refine rZ 19 rfl (yS 2 1 B5 3 (vi x4) [vi x4] (x.B.toNat * 1) (((Out.set x.A.toNat x3).set x.B.toNat x4).flatMap encI) hS57 K0 rfl rfl rfl rfl rfl rfl rfl (gi_fit0 encI_len hx5) (gi_set encI_len hx5 x4 rfl)) ?_ ?_
              ·rintro _ w_46 ⟨rfl, hS58⟩
               refine ⟨(hS58.se [0, 1, 3, 4]), ?_⟩
               refine ra_done (by kernel_rfl) ?_
               exact ⟨(fc (hf1.g 2 0) (fc (hf1.g 4 1) (fc (hf1.g 5 2) (fc (hf1.g 6 3) (fc (hf1.g 25 4) (fc (hf1.g 26 5) (fc (hf1.g 27 6) fn_))))))), (hS58.sel [0, 1, 2, 3] rfl rfl)⟩
              exact aN
             exact aN
            exact aN
           exact aN
          exact aN
         refine ra_y 77 (i := 15) (v := vi x4) rfl rfl rfl (yl B5 (x.A.toNat * 1) (Out.flatMap encI) (vi x4) K1 (hS50.c 2) rfl rfl (gi_at0 encI_len hx4 rfl)) (hS50.se [0, 1, 3, 4]) ?_ ?_
         ·skip
          refine rA [10] ?_
          refine ra_y 72 (i := 10) (v := vi x3) rfl rfl rfl (yl B5 (x.B.toNat * 1) (Out.flatMap encI) (vi x3) K1 (hS50.c 2) rfl rfl (gi_at0 encI_len hx3 rfl)) (hS50.se [0, 1, 3, 4]) ?_ ?_
          ·skip
           refine rA [16] ?_
           refine ra_y 78 (i := 16) (v := pt B5 (x.A.toNat * 1)) rfl rfl rfl (Y_index (B := B5) (m := r_3.Rows.length) (c := c5) (k := .i64) (i := x.A) K2 K0 rfl rfl rfl (gi_isSome encI_len rfl (hS50.c 2) hx4) (getI_nn hx4) (getI_ltI hx4 hl)) (hS50.se [0, 1, 3, 4]) ?_ ?_
           ·skip
            refine rA [17] ?_
            refine rZ 17 rfl (yS 2 1 B5 3 (vi x3) [vi x3] (x.A.toNat * 1) ((Out.set x.A.toNat x3).flatMap encI) hS50 K0 rfl rfl rfl rfl rfl rfl rfl (gi_fit0 encI_len hx4) (gi_set encI_len hx4 x3 rfl)) ?_ ?_
            ·rintro _ w_47 ⟨rfl, hS59⟩
             refine ⟨(hS59.se [0, 1, 3, 4]), ?_⟩
             refine rA [18] ?_
             refine ra_y 79 (i := 18) (v := pt B5 (x.B.toNat * 1)) rfl rfl rfl (Y_index (B := B5) (m := r_3.Rows.length) (c := c5) (k := .i64) (i := x.B) K2 K0 rfl rfl rfl (gi_isSome encI_len rfl (hS59.c 2) hx5) (getI_nn hx5) (getI_ltI hx5 (set_len _ _ _ hl))) (hS59.se [0, 1, 3, 4]) ?_ ?_
             ·skip
              refine rA [19] ?_
              refine rZ 19 rfl (yS 2 1 B5 3 (vi x4) [vi x4] (x.B.toNat * 1) (((Out.set x.A.toNat x3).set x.B.toNat x4).flatMap encI) hS59 K0 rfl rfl rfl rfl rfl rfl rfl (gi_fit0 encI_len hx5) (gi_set encI_len hx5 x4 rfl)) ?_ ?_
              ·rintro _ w_48 ⟨rfl, hS60⟩
               refine ⟨(hS60.se [0, 1, 3, 4]), ?_⟩
               refine ra_done (by kernel_rfl) ?_
               exact ⟨(fc (hf1.g 2 0) (fc (hf1.g 4 1) (fc (hf1.g 5 2) (fc (hf1.g 6 3) (fc (hf1.g 25 4) (fc (hf1.g 26 5) (fc (hf1.g 27 6) fn_))))))), (hS60.sel [0, 1, 2, 3] rfl rfl)⟩
              exact aN
             exact aN
            exact aN
           exact aN
          exact aN
         exact aN
        refine ra_y 77 (i := 15) (v := vi x4) rfl rfl rfl (yl B5 (x.A.toNat * 1) (Out.flatMap encI) (vi x4) K1 (hS50.c 2) rfl rfl (gi_at0 encI_len hx4 rfl)) (hS50.se [0, 1, 3, 4]) ?_ ?_
        ·skip
         refine rA [9] ?_
         refine ra_y 71 (i := 9) (v := pt B5 (x.B.toNat * 1)) rfl rfl rfl (Y_index (B := B5) (m := r_3.Rows.length) (c := c5) (k := .i64) (i := x.B) K2 K0 rfl rfl rfl (gi_isSome encI_len rfl (hS50.c 2) hx3) (getI_nn hx3) (getI_ltI hx3 hl)) (hS50.se [0, 1, 3, 4]) ?_ ?_
         ·skip
          refine rA [10] ?_
          refine ra_y 72 (i := 10) (v := vi x3) rfl rfl rfl (yl B5 (x.B.toNat * 1) (Out.flatMap encI) (vi x3) K1 (hS50.c 2) rfl rfl (gi_at0 encI_len hx3 rfl)) (hS50.se [0, 1, 3, 4]) ?_ ?_
          ·skip
           refine rA [16] ?_
           refine ra_y 78 (i := 16) (v := pt B5 (x.A.toNat * 1)) rfl rfl rfl (Y_index (B := B5) (m := r_3.Rows.length) (c := c5) (k := .i64) (i := x.A) K2 K0 rfl rfl rfl (gi_isSome encI_len rfl (hS50.c 2) hx4) (getI_nn hx4) (getI_ltI hx4 hl)) (hS50.se [0, 1, 3, 4]) ?_ ?_
           ·skip
            refine rA [17] ?_
            refine rZ 17 rfl (yS 2 1 B5 3 (vi x3) [vi x3] (x.A.toNat * 1) ((Out.set x.A.toNat x3).flatMap encI) hS50 K0 rfl rfl rfl rfl rfl rfl rfl (gi_fit0 encI_len hx4) (gi_set encI_len hx4 x3 rfl)) ?_ ?_
            ·rintro _ w_49 ⟨rfl, hS61⟩
             refine ⟨(hS61.se [0, 1, 3, 4]), ?_⟩
             refine rA [18] ?_
             refine ra_y 79 (i := 18) (v := pt B5 (x.B.toNat * 1)) rfl rfl rfl (Y_index (B := B5) (m := r_3.Rows.length) (c := c5) (k := .i64) (i := x.B) K2 K0 rfl rfl rfl (gi_isSome encI_len rfl (hS61.c 2) hx5) (getI_nn hx5) (getI_ltI hx5 (set_len _ _ _ hl))) (hS61.se [0, 1, 3, 4]) ?_ ?_
             ·skip
              refine rA [19] ?_
              refine rZ 19 rfl (yS 2 1 B5 3 (vi x4) [vi x4] (x.B.toNat * 1) (((Out.set x.A.toNat x3).set x.B.toNat x4).flatMap encI) hS61 K0 rfl rfl rfl rfl rfl rfl rfl (gi_fit0 encI_len hx5) (gi_set encI_len hx5 x4 rfl)) ?_ ?_
              ·rintro _ w_50 ⟨rfl, hS62⟩
               refine ⟨(hS62.se [0, 1, 3, 4]), ?_⟩
               refine ra_done (by kernel_rfl) ?_
               exact ⟨(fc (hf1.g 2 0) (fc (hf1.g 4 1) (fc (hf1.g 5 2) (fc (hf1.g 6 3) (fc (hf1.g 25 4) (fc (hf1.g 26 5) (fc (hf1.g 27 6) fn_))))))), (hS62.sel [0, 1, 2, 3] rfl rfl)⟩
              exact aN
             exact aN
            exact aN
           exact aN
          exact aN
         exact aN
        exact aN
       exact aN
      rintro f w ⟨hf4, hS49⟩
      exact ⟨Phase, ((Out.set x.A.toNat x3).set x.B.toNat x4), sums, (sI hF7), (fc (hf4.g 2 0) (fc (hf4.g 4 1) (fc (hf4.g 5 2) (fc (hf4.g 6 3) (fc (hf4.g 25 4) (fc (hf4.g 26 5) (fc (hf4.g 27 6) fn_))))))), (set_len _ _ _ (set_len _ _ _ hl)), hl1, (hS49.sel [0, 1, 2, 3] rfl rfl)⟩
     ·skip
      have hF8 := cf' hF6 hb3
      refine cq (cr ?_)
      refine sQ 81 (yE x.Kind 10) <| sQ 80 (yg (.bool (x.Kind == 10))) (rn ?_)
      refine cw_cond (b := (x.Kind == 10)) rfl (fun hb4 => ?_) (fun hb4 => ?_)
      ·skip
       have hF9 := ct hF8 hb4
       refine cq (cr ?_)
       refine sQ 82 (ym (.slice B5 r_3.Rows.length c5) rfl (hf1.g 6 3)) <| sQ 83 (yd (aD b4) 0 0 K18 K0) <| sQ 84 (yl (aD b4) 1 [vi x.Kind, vi x.A, vi x.B] (vi x.A) K1 (hS40.c 4)) ?_
       obtain ⟨x6, hx6, hF9⟩ := bI hF9
       refine sQ 85 (Y_index (B := B5) (m := r_3.Rows.length) (c := c5) (k := .i64) (i := x.A) K2 K0 rfl rfl rfl (gi_isSome encI_len rfl (hS40.c 2) hx6) (getI_nn hx6) (getI_ltI hx6 hl)) <| sQ 86 (yl B5 (x.A.toNat * 1) (Out.flatMap encI) (vi x6) K1 (hS40.c 2) rfl rfl (gi_at0 encI_len hx6 rfl)) ?_
       obtain ⟨m, hc2, hF9⟩ := bI hF9
       refine sc 87 rfl rfl (yC [pt B6 0, vi x6, vi 2] K94 (c_impl_coefficients_add sums x6 2 B6 _ hl1 (hS40.inn [false, false, false, true, false] rfl [] rfl) hc2) rfl (mc (hf1.g 5 2) (mc rfl (mc rfl mn)))) ?_
       rintro _ w_51 ⟨rfl, hl4, hd6⟩
       have hS63 := hS40.out [false, false, false, true, false] rfl hd6
       refine rn (cq (cr ?_))
       refine sQ 88 (ym (.slice B5 r_3.Rows.length c5) rfl (hf1.g 6 3)) <| sQ 89 (yd (aD b4) 0 0 K26 K0) <| sQ 90 (yl (aD b4) 2 [vi x.Kind, vi x.A, vi x.B] (vi x.B) K1 (hS63.c 3)) ?_
       obtain ⟨x7, hx7, hF9⟩ := bI hF9
       refine sQ 91 (Y_index (B := B5) (m := r_3.Rows.length) (c := c5) (k := .i64) (i := x.B) K2 K0 rfl rfl rfl (gi_isSome encI_len rfl (hS63.c 2) hx7) (getI_nn hx7) (getI_ltI hx7 hl)) <| sQ 92 (yl B5 (x.B.toNat * 1) (Out.flatMap encI) (vi x7) K1 (hS63.c 2) rfl rfl (gi_at0 encI_len hx7 rfl)) ?_
       obtain ⟨m1, hc3, hF9⟩ := bI hF9
       refine sc 93 rfl rfl (yC [pt B6 0, vi x7, vi 2] K94 (c_impl_coefficients_add m x7 2 B6 _ hl4 (hS63.inn [false, false, false, false, true] rfl [] rfl) hc3) rfl (mc (hf1.g 5 2) (mc rfl (mc rfl mn)))) ?_
       rintro _ w_52 ⟨rfl, hl5, hd7⟩
       have hS64 := hS63.out [false, false, false, false, true] rfl hd7
       refine rn ?_
       obtain ⟨m2, hc4, hF9⟩ := bI hF9
       refine ra_start (hS64.se [0, 1, 2, 3]).fn (by kernel_rfl) ?_
       have hS66 := hS64.drew
       refine rq 0 94 (v := .slice B5 r_3.Rows.length c5) rfl (hS66.se [0, 1, 2, 3]) (fun w' hw' => (ym (.slice B5 r_3.Rows.length c5) rfl (hf1.g 6 3))) ?_
       refine rq 1 95 (v := pt (aD b4) 1) rfl (hS66.se [0, 1, 2, 3]) (fun w' hw' => (yd (aD b4) 0 0 K18 K0)) ?_
       refine rq 2 96 (v := vi x.A) rfl (hS66.se [0, 1, 2, 3]) (fun w' hw' => (yl (aD b4) 1 [vi x.Kind, vi x.A, vi x.B] (vi x.A) K1 (ST.cf hw' (i := 3) rfl))) ?_
       refine rq 3 97 (v := pt B5 (x.A.toNat * 1)) rfl (hS66.se [0, 1, 2, 3]) (fun w' hw' => (Y_index (B := B5) (m := r_3.Rows.length) (c := c5) (k := .i64) (i := x.A) K2 K0 rfl rfl rfl (gi_isSome encI_len rfl (ST.cf hw' (i := 2) rfl) hx6) (getI_nn hx6) (getI_ltI hx6 hl))) ?_
       refine rq 4 98 (v := vi x6) rfl (hS66.se [0, 1, 2, 3]) (fun w' hw' => (yl B5 (x.A.toNat * 1) (Out.flatMap encI) (vi x6) K1 (ST.cf hw' (i := 2) rfl) rfl rfl (gi_at0 encI_len hx6 rfl))) ?_
       refine rq 5 99 (v := .slice B5 r_3.Rows.length c5) rfl (hS66.se [0, 1, 2, 3]) (fun w' hw' => (ym (.slice B5 r_3.Rows.length c5) rfl (hf1.g 6 3))) ?_
       refine rq 6 100 (v := pt (aD b4) 2) rfl (hS66.se [0, 1, 2, 3]) (fun w' hw' => (yd (aD b4) 0 0 K26 K0)) ?_
       refine rq 7 101 (v := vi x.B) rfl (hS66.se [0, 1, 2, 3]) (fun w' hw' => (yl (aD b4) 2 [vi x.Kind, vi x.A, vi x.B] (vi x.B) K1 (ST.cf hw' (i := 3) rfl))) ?_
       refine rq 8 102 (v := pt B5 (x.B.toNat * 1)) rfl (hS66.se [0, 1, 2, 3]) (fun w' hw' => (Y_index (B := B5) (m := r_3.Rows.length) (c := c5) (k := .i64) (i := x.B) K2 K0 rfl rfl rfl (gi_isSome encI_len rfl (ST.cf hw' (i := 2) rfl) hx7) (getI_nn hx7) (getI_ltI hx7 hl))) ?_
       refine rq 9 103 (v := vi x7) rfl (hS66.se [0, 1, 2, 3]) (fun w' hw' => (yl B5 (x.B.toNat * 1) (Out.flatMap encI) (vi x7) K1 (ST.cf hw' (i := 2) rfl) rfl rfl (gi_at0 encI_len hx7 rfl))) ?_
       refine rq 10 104 (v := vi (bits .xor .i64 x6 x7)) rfl (hS66.se [0, 1, 2, 3]) (fun w' hw' => (Y_bxor (k := .i64) (a := x6) (b := x7) rfl rfl rfl)) ?_
       refine rA [11] ?_
       refine rC 105 11 rfl (yC [pt B6 0, vi (bits .xor .i64 x6 x7), vi 6] K94 (c_impl_coefficients_add m1 (bits .xor .i64 x6 x7) 6 B6 _ hl5 (hS66.inn [false, false, false, false, true] rfl [] rfl) hc4) rfl (mc (hf1.g 5 2) (mc rfl (mc rfl mn)))) ?_ ?_
       ·rintro _ w_53 ⟨rfl, hl6, hd8⟩
        have hS67 := hS66.out [false, false, false, false, true] rfl hd8
        refine ⟨(hS67.se [0, 1, 2, 3]), ?_⟩
        refine ra_done (by kernel_rfl) ?_
        exact ⟨Phase, Out, m2, (sI hF9), (fc (hf1.g 2 0) (fc (hf1.g 4 1) (fc (hf1.g 5 2) (fc (hf1.g 6 3) (fc (hf1.g 25 4) (fc (hf1.g 26 5) (fc (hf1.g 27 6) fn_))))))), hl, hl6, (hS67.sel [0, 1, 2, 4] rfl rfl)⟩
       exact aN
      ·skip
       have hF10 := cf' hF8 hb4
       refine cq (cr ?_)
       refine sQ 107 (yE x.Kind 12) <| sQ 106 (yg (.bool (x.Kind == 12))) (rn ?_)
       refine cw_cond (b := (x.Kind == 12)) rfl (fun hb5 => ?_) (fun hb5 => ?_)
       ·skip
        have hF11 := ct hF10 hb5
        refine cr ?_
        refine sQ 108 (yd B4 0 0 K61 K0 rfl (hf1.g 4 1)) <| sQ 109 (yl B4 1 [vi c.Qubits, vi Phase, .slice none 0 0, .slice B5 r_3.Rows.length c5] (vi Phase) K1 (hS40.c 1)) <| sQ 110 (yP Phase 1) <| sQ 111 (Y_rem (k := .i64) (a := (i64.wrap (Phase + 1))) (b := 8) rfl rfl rfl (by decide)) <| sQ 112 (yd B4 0 0 K61 K0 rfl (hf1.g 4 1)) ?_
        refine s0 (yS 1 1 B4 62 (vi (Int.tmod (i64.wrap (Phase + 1)) 8)) [vi (Int.tmod (i64.wrap (Phase + 1)) 8)] 1 [vi c.Qubits, vi (Int.tmod (i64.wrap (Phase + 1)) 8), .slice none 0 0, .slice B5 r_3.Rows.length c5] hS40 K0) ?_
        rintro _ w_54 ⟨rfl, hS68⟩
        refine rn ?_
        exact ⟨(Int.tmod (i64.wrap (Phase + 1)) 8), Out, sums, (sI hF11), (fc (hf1.g 2 0) (fc (hf1.g 4 1) (fc (hf1.g 5 2) (fc (hf1.g 6 3) (fc (hf1.g 25 4) (fc (hf1.g 26 5) (fc (hf1.g 27 6) fn_))))))), hl, hl1, (hS68.sel [0, 1, 2, 3] rfl rfl)⟩
       ·skip
        have hF12 := cf' hF10 hb5
        refine cq (cr ?_)
        refine sQ 33 (yd (aD b4) 0 0 K33 K0) <| sQ 34 (yl (aD b4) 0 [vi x.Kind, vi x.A, vi x.B] (vi x.Kind) K1 (hS40.c 4)) ?_
        obtain ⟨r_4, hc5, hF12⟩ := bI hF12
        refine sc 35 rfl rfl (yC [vi x.Kind] k_call_125 (c_impl_rotationCoef x.Kind _  (hS40.inn0 [] rfl) hc5)) ?_
        rintro _ w_55 ⟨rfl, hd9⟩
        have hS69 := hS40.out00 hd9
        refine sQ 9 (yg (vi r_4)) (rn (cq (cq (cr ?_))))
        refine sQ 36 (ym (vi r_4)) <| sQ 37 (yE r_4 0) (rn ?_)
        refine cw_cond (b := (r_4 == 0)) rfl (fun hb6 => ?_) (fun hb6 => ?_)
        ·skip
         have hF13 := ct hF12 hb6
         refine cq (cr ?_)
         refine sQ 38 (Y_buildS (zs := [vi 0, vi 0, .slice none 0 0, .slice none 0 0]) (vs := []) (cs := [vi 0, vi 0, .slice none 0 0, .slice none 0 0]) K58 K32 rfl mpn rfl) ?_
         refine s0 (yT 0 4 (aD b1) 62 (.agg #[vi 0, vi 0, .slice none 0 0, .slice none 0 0]) [vi 0, vi 0, .slice none 0 0, .slice none 0 0] 0 hS69 K20 rfl (hf1.g 2 0)) ?_
         rintro _ w_56 ⟨rfl, hS70⟩
         refine sQ 3 (yg (.bool false)) (rn (ct_ ?_))
         have hS71 := hS70.addNil 157
         have hS72 := hS71.addNil 3
         obtain rfl := sI hF13
         obtain rfl := sI hF4
         obtain rfl := sI hL1
         obtain ⟨rfl, rfl⟩ := pr2 (sI hF3)
         exact ret2 Tryz.results32 (v1 := .agg #[vi 0, vi 0, .slice none 0 0, .slice none 0 0]) (resAt_cellA (B := aD b1) (i := 0) (cs := [vi 0, vi 0, .slice none 0 0, .slice none 0 0]) (vs := [vi 0, vi 0, .slice none 0 0, .slice none 0 0]) (hf1.g 2 0) K47 K20 (hS72.c 0) rfl rfl) (v2 := .bool false) (resAt_tmp rfl) ⟨none, 0, none, 0, rfl, (hS72.sN [5, 6])⟩
        ·skip
         have hF14 := cf' hF12 hb6
         refine cw_skip (cr ?_)
         refine sQ 39 (ym (.slice B5 r_3.Rows.length c5) rfl (hf1.g 6 3)) <| sQ 40 (yd (aD b4) 0 0 K18 K0) <| sQ 41 (yl (aD b4) 1 [vi x.Kind, vi x.A, vi x.B] (vi x.A) K1 (hS69.c 4)) ?_
         obtain ⟨x8, hx8, hF14⟩ := bI hF14
         refine sQ 42 (Y_index (B := B5) (m := r_3.Rows.length) (c := c5) (k := .i64) (i := x.A) K2 K0 rfl rfl rfl (gi_isSome encI_len rfl (hS69.c 2) hx8) (getI_nn hx8) (getI_ltI hx8 hl)) <| sQ 43 (yl B5 (x.A.toNat * 1) (Out.flatMap encI) (vi x8) K1 (hS69.c 2) rfl rfl (gi_at0 encI_len hx8 rfl)) <| sQ 44 (ym (vi r_4)) ?_
         obtain ⟨m3, hc6, hF14⟩ := bI hF14
         refine sc 45 rfl rfl (yC [pt B6 0, vi x8, vi r_4] K94 (c_impl_coefficients_add sums x8 r_4 B6 _ hl1 (hS69.inn [false, false, false, true, false] rfl [] rfl) hc6) rfl (mc (hf1.g 5 2) (mc rfl (mc rfl mn)))) ?_
         rintro _ w_57 ⟨rfl, hl7, hd10⟩
         have hS73 := hS69.out [false, false, false, true, false] rfl hd10
         refine rn ?_
         exact ⟨Phase, Out, m3, (sI hF14), (fc (hf1.g 2 0) (fc (hf1.g 4 1) (fc (hf1.g 5 2) (fc (hf1.g 6 3) (fc (hf1.g 25 4) (fc (hf1.g 26 5) (fc (hf1.g 27 6) fn_))))))), hl, hl7, (hS73.sel [0, 1, 2, 4] rfl rfl)⟩
   rintro f w ⟨Phase1, Out1, sums1, rfl, hf2, hl2, hl3, hS38⟩
   refine cr ?_
   refine sQ 113 (yP (i : Int) 1 rfl (hf2.g 27 6)) <| sQ 27 (ym (vi (i64.wrap ((i : Int) + 1)))) (rn ?_)
   obtain rfl := sI hF4
   exact ⟨K7, Nat.lt_succ_self _, i + 1, Phase1, Out1, sums1, (fc (hf2.g 2 0) (fc (hf2.g 4 1) (fc (hf2.g 5 2) (fc (hf2.g 6 3) (fc (hf2.g 25 4) (fc (hf2.g 26 5) (fc (congrArg (Value.int .i64) (wr_succ hlt1 hN)) fn_))))))), hl2, hl3, (hS38.sel [0, 1, 2, 3] rfl rfl), (by omega), hL1⟩
  ·skip
   obtain rfl : k_ = 0 := by have h := of_decide_eq_false hlt; omega
   refine cw_exit rfl ?_
   obtain rfl := sI hL
   refine cq (cr ?_)
   refine sQ 114 (yb B6 0 (sums.flatMap encI) k_ag_171 K65 (hS37.c 3) rfl (hf1.g 5 2) (fm_lenn2 encI_len hl1 rfl) (fm_whole encI_len hl1 rfl)) ?_
   obtain ⟨r_5, hc7, hF3⟩ := bI hF3
   refine sc 115 rfl rfl (yC [.agg (sums.flatMap encI).toArray] k_call_126 (c_impl_coefficients_terms sums _ hl1 (hS37.inn0 [] rfl) hc7)) ?_
   rintro _ w_58 ⟨B7, c6, rfl, hd11⟩
   have hS74 := hS37.out0 hd11
   refine sQ 116 (yd B4 0 0 K71 K62 rfl (hf1.g 4 1)) ?_
   refine s0 (yS 1 1 B4 62 (.slice B7 r_5.length c6) [.slice B7 r_5.length c6] 2 [vi c.Qubits, vi Phase, .slice B7 r_5.length c6, .slice B5 r_3.Rows.length c5] hS74 K62) ?_
   rintro _ w_59 ⟨rfl, hS75⟩
   refine rn (cq (cr ?_))
   refine sQ 117 (yb B4 0 [vi c.Qubits, vi Phase, .slice B7 r_5.length c6, .slice B5 r_3.Rows.length c5] K47 K20 (hS75.c 1) rfl (hf1.g 4 1)) ?_
   refine s0 (yT 0 4 (aD b1) 62 (.agg #[vi c.Qubits, vi Phase, .slice B7 r_5.length c6, .slice B5 r_3.Rows.length c5]) [vi c.Qubits, vi Phase, .slice B7 r_5.length c6, .slice B5 r_3.Rows.length c5] 0 hS75 K20 rfl (hf1.g 2 0)) ?_
   rintro _ w_60 ⟨rfl, hS76⟩
   have hS76 : ST w0 [] _ [⟨aD b1, 62, [vi c.Qubits, vi Phase, .slice B7 r_5.length c6, .slice B5 r_3.Rows.length c5], 4⟩, ⟨B4, 62, [vi c.Qubits, vi Phase, .slice B7 r_5.length c6, .slice B5 r_3.Rows.length c5], 4⟩, ⟨B5, 3, (Out.flatMap encI), c5 * 1⟩, ⟨B6, 171, (sums.flatMap encI), 32⟩, ⟨B7, 157, (r_5.flatMap enc_Term), c6 * 2⟩] [⟨B, (c.Gates.flatMap eN0)⟩] := hS76
   refine sQ 3 (yg (.bool true)) (rn (ct_ ?_))
   obtain ⟨rfl, rfl⟩ := pr2 (sI hF3)
   exact ret2 Tryz.results32 (v1 := .agg #[vi c.Qubits, vi Phase, .slice B7 r_5.length c6, .slice B5 r_3.Rows.length c5]) (resAt_cellA (B := aD b1) (i := 0) (cs := [vi c.Qubits, vi Phase, .slice B7 r_5.length c6, .slice B5 r_3.Rows.length c5]) (vs := [vi c.Qubits, vi Phase, .slice B7 r_5.length c6, .slice B5 r_3.Rows.length c5]) (hf1.g 2 0) K47 K20 (hS76.c 0) rfl rfl) (v2 := .bool true) (resAt_tmp rfl) ⟨B7, c6, B5, c5, (by simp [hl]), (hS76.sN [4, 2])⟩

theorem c_spec_l1Cur_next (c : Tl1Cur) (B : Option Addr) (B1 : Option Addr) (c1 n : Nat) (w0 : World) (hn : c.code.length = n) (hS : ST w0 (bl [⟨B, 115, [.slice B1 n c1, vi c.at_, .int .u64 c.seed], 3⟩]) w0 [⟨B, 115, [.slice B1 n c1, vi c.at_, .int .u64 c.seed], 3⟩] [⟨B1, (c.code.flatMap enc_u8)⟩]) {r_ : Int} {m : Tl1Cur} (hF : F_spec_l1Cur_next c = some (r_, m)) :
  CV Tryz.prog 218 #[pt B 0] w0 (fun v w' => v = vi r_ ∧ ST w0 (bl [⟨B, 115, [.slice B1 n c1, vi c.at_, .int .u64 c.seed], 3⟩]) w' [⟨B, 115, [.slice B1 n c1, vi m.at_, .int .u64 m.seed], 3⟩] []) := by
 subst hn
 unfold F_spec_l1Cur_next at hF
 refine cv_of_cw 62 Tryz.func218 rfl Tryz.ntmps218 rfl ?_
 refine cq (cr ?_)
 refine sQ 2 (yg (vi 0)) (rn (cq (cr ?_)))
 refine sQ 3 (yg (vi 0)) (rn (cq ?_))
 obtain ⟨z, hz, hF1⟩ := bI hF
 refine cw_mid (fun f w => ∃ (b : Int), b = z ∧ FF f [(0, pt B 0), (3, vi b)] ∧ ST w0 (bl [⟨B, 115, [.slice B1 c.code.length c1, vi c.at_, .int .u64 c.seed], 3⟩]) w [⟨B, 115, [.slice B1 c.code.length c1, vi c.at_, .int .u64 c.seed], 3⟩] [⟨B1, (c.code.flatMap enc_u8)⟩]) ?_ ?_
 ·skip
  refine cq ?_
  refine ra_start (hS.se [0]).fn (by kernel_rfl) ?_
  have hS2 := hS.drew
  refine rq 0 4 (v := pt B 0) rfl (hS2.se [0]) (fun w' hw' => (ym (pt B 0))) ?_
  refine rq 1 5 (v := pt B 0) rfl (hS2.se [0]) (fun w' hw' => (Y_nilCheck (B := B) (i := 0) rfl rfl)) ?_
  refine rq 2 6 (v := pt B 1) rfl (hS2.se [0]) (fun w' hw' => (yd B 0 0 K84 K0)) ?_
  refine rq 3 7 (v := vi c.at_) rfl (hS2.se [0]) (fun w' hw' => (yl B 1 [.slice B1 c.code.length c1, vi c.at_, .int .u64 c.seed] (vi c.at_) K1 (ST.cf hw' (i := 0) rfl))) ?_
  refine rq 4 8 (v := pt B 0) rfl (hS2.se [0]) (fun w' hw' => (ym (pt B 0))) ?_
  refine rq 5 9 (v := pt B 0) rfl (hS2.se [0]) (fun w' hw' => (Y_nilCheck (B := B) (i := 0) rfl rfl)) ?_
  refine rq 6 10 (v := pt B 0) rfl (hS2.se [0]) (fun w' hw' => (yd B 0 0 K111 K112)) ?_
  refine rq 7 11 (v := .slice B1 c.code.length c1) rfl (hS2.se [0]) (fun w' hw' => (yl B 0 [.slice B1 c.code.length c1, vi c.at_, .int .u64 c.seed] (.slice B1 c.code.length c1) K113 (ST.cf hw' (i := 0) rfl))) ?_
  refine rq 8 12 (v := vi (c.code.length : Int)) rfl (hS2.se [0]) (fun w' hw' => (Y_len (B := B1) (m := c.code.length) (c := c1) K85 rfl rfl)) ?_
  refine rq 9 13 (v := .bool (decide (c.at_ < (c.code.length : Int)))) rfl (hS2.se [0]) (fun w' hw' => (yL c.at_ (c.code.length : Int))) ?_
  refine ra_done (by kernel_rfl) ?_
  refine cw_cond (b := (decide (c.at_ < (c.code.length : Int)))) rfl (fun hb => ?_) (fun hb => ?_)
  ·skip
   have hF2 := ct hz hb
   obtain ⟨x, hx, hF2⟩ := bI hF2
   refine ra_start (hS2.se [0]).fn (by kernel_rfl) ?_
   have hS3 := hS2.drew
   refine rq 0 14 (v := pt B 0) rfl (hS3.se [0]) (fun w' hw' => (ym (pt B 0))) ?_
   refine rq 1 15 (v := pt B 0) rfl (hS3.se [0]) (fun w' hw' => (Y_nilCheck (B := B) (i := 0) rfl rfl)) ?_
   refine rq 2 16 (v := pt B 0) rfl (hS3.se [0]) (fun w' hw' => (yd B 0 0 K111 K112)) ?_
   refine rq 3 17 (v := .slice B1 c.code.length c1) rfl (hS3.se [0]) (fun w' hw' => (yl B 0 [.slice B1 c.code.length c1, vi c.at_, .int .u64 c.seed] (.slice B1 c.code.length c1) K113 (ST.cf hw' (i := 0) rfl))) ?_
   refine rq 4 18 (v := pt B 0) rfl (hS3.se [0]) (fun w' hw' => (ym (pt B 0))) ?_
   refine rq 5 19 (v := pt B 0) rfl (hS3.se [0]) (fun w' hw' => (Y_nilCheck (B := B) (i := 0) rfl rfl)) ?_
   refine rq 6 20 (v := pt B 1) rfl (hS3.se [0]) (fun w' hw' => (yd B 0 0 K84 K0)) ?_
   refine rq 7 21 (v := vi c.at_) rfl (hS3.se [0]) (fun w' hw' => (yl B 1 [.slice B1 c.code.length c1, vi c.at_, .int .u64 c.seed] (vi c.at_) K1 (ST.cf hw' (i := 0) rfl))) ?_
   refine rq 8 22 (v := pt B1 (c.at_.toNat * 1)) rfl (hS3.se [0]) (fun w' hw' => (Y_index (B := B1) (m := c.code.length) (c := c1) (k := .i64) (i := c.at_) K85 k_sz_5_1 rfl rfl rfl (gi_isSome enc_u8_len rfl (ST.rf hw' (i := 0) rfl) hx) (getI_nn hx) (getI_ltI hx rfl))) ?_
   refine rq 9 23 (v := .int .u8 x) rfl (hS3.se [0]) (fun w' hw' => (yl B1 (c.at_.toNat * 1) (c.code.flatMap enc_u8) (.int .u8 x) k_sc_5 (ST.rf hw' (i := 0) rfl) rfl rfl (gi_at0 enc_u8_len hx rfl))) ?_
   refine rq 10 24 (v := vi (i64.wrap x)) rfl (hS3.se [0]) (fun w' hw' => (Y_conv (k := .u8) (a := x) (T := 5) (T' := 3) k_us_5 K28 rfl rfl)) ?_
   refine rq 11 3 (v := vi (i64.wrap x)) rfl (hS3.se [0]) (fun w' hw' => (yg (vi (i64.wrap x)))) ?_
   refine ra_done (by kernel_rfl) ?_
   exact ⟨(i64.wrap x), (sI hF2), (fc rfl (fc rfl fn_)), (hS3.sel [0] rfl rfl)⟩
  ·skip
   have hF3 := cf' hz hb
   refine cw_skip ?_
   exact ⟨0, (sI hF3), (fc rfl (fc rfl fn_)), (hS2.sel [0] rfl rfl)⟩
 rintro f w ⟨b, rfl, hf, hS1⟩
 refine cq (cr ?_)
 refine sQ 25 (ym (pt B 0) rfl (hf.g 0 0)) <| sQ 26 (Y_nilCheck (B := B) (i := 0) rfl rfl) <| sQ 27 (yd B 0 0 K84 K0) <| sQ 28 (yl B 1 [.slice B1 c.code.length c1, vi c.at_, .int .u64 c.seed] (vi c.at_) K1 (hS1.c 0)) <| sQ 29 (yP c.at_ 1) <| sQ 30 (Y_nilCheck (B := B) (i := 0) rfl rfl) ?_
 refine sQ 31 (yd B 0 0 K84 K0) ?_
 refine s0 (yS 0 1 B 115 (vi (i64.wrap (c.at_ + 1))) [vi (i64.wrap (c.at_ + 1))] 1 [.slice B1 c.code.length c1, vi (i64.wrap (c.at_ + 1)), .int .u64 c.seed] hS1 K0) ?_
 rintro _ w_ ⟨rfl, hS4⟩
 refine rn (cq (cr ?_))
 refine sQ 32 (ym (pt B 0) rfl (hf.g 0 0)) <| sQ 33 (ym (pt B 0) rfl (hf.g 0 0)) <| sQ 34 (Y_nilCheck (B := B) (i := 0) rfl rfl) <| sQ 35 (yd B 0 0 K114 K95) <| sQ 36 (yl B 2 [.slice B1 c.code.length c1, vi (i64.wrap (c.at_ + 1)), .int .u64 c.seed] (.int .u64 c.seed) k_sc_113 (hS4.c 0)) <| sQ 37 (Y_mul (k := .u64) (a := c.seed) (b := 6364136223846793005) rfl rfl rfl) ?_
 refine sQ 38 (ym (vi b) rfl (hf.g 3 1)) <| sQ 39 (Y_conv (k := .i64) (a := b) (T := 3) (T' := 113) K54 k_int_113_u64 rfl rfl) <| sQ 40 (Y_add (k := .u64) (a := (IntKind.u64.wrap (c.seed * 6364136223846793005))) (b := (IntKind.u64.wrap b)) rfl rfl rfl) <| sQ 41 (Y_add (k := .u64) (a := (IntKind.u64.wrap ((IntKind.u64.wrap (c.seed * 6364136223846793005)) + (IntKind.u64.wrap b)))) (b := 1442695040888963407) rfl rfl rfl) <| sQ 42 (Y_nilCheck (B := B) (i := 0) rfl rfl) <| sQ 43 (yd B 0 0 K114 K95) ?_
 refine s0 (yS 0 1 B 115 (.int .u64 (IntKind.u64.wrap ((IntKind.u64.wrap ((IntKind.u64.wrap (c.seed * 6364136223846793005)) + (IntKind.u64.wrap b))) + 1442695040888963407))) [.int .u64 (IntKind.u64.wrap ((IntKind.u64.wrap ((IntKind.u64.wrap (c.seed * 6364136223846793005)) + (IntKind.u64.wrap b))) + 1442695040888963407))] 2 [.slice B1 c.code.length c1, vi (i64.wrap (c.at_ + 1)), .int .u64 (IntKind.u64.wrap ((IntKind.u64.wrap ((IntKind.u64.wrap (c.seed * 6364136223846793005)) + (IntKind.u64.wrap b))) + 1442695040888963407))] hS4 K95) ?_
 rintro _ w_1 ⟨rfl, hS5⟩
 refine rn (cq (cq ?_))
 refine ra_start (hS5.se [0]).fn (by kernel_rfl) ?_
 have hS6 := hS5.drew
 refine rq 0 44 (v := pt B 0) rfl (hS6.se [0]) (fun w' hw' => (ym (pt B 0) rfl (hf.g 0 0))) ?_
 refine rq 1 45 (v := pt B 0) rfl (hS6.se [0]) (fun w' hw' => (Y_nilCheck (B := B) (i := 0) rfl rfl)) ?_
 refine rq 2 46 (v := pt B 1) rfl (hS6.se [0]) (fun w' hw' => (yd B 0 0 K84 K0)) ?_
 refine rq 3 47 (v := vi (i64.wrap (c.at_ + 1))) rfl (hS6.se [0]) (fun w' hw' => (yl B 1 [.slice B1 c.code.length c1, vi (i64.wrap (c.at_ + 1)), .int .u64 (IntKind.u64.wrap ((IntKind.u64.wrap ((IntKind.u64.wrap (c.seed * 6364136223846793005)) + (IntKind.u64.wrap b))) + 1442695040888963407))] (vi (i64.wrap (c.at_ + 1))) K1 (ST.cf hw' (i := 0) rfl))) ?_
 refine rq 4 48 (v := pt B 0) rfl (hS6.se [0]) (fun w' hw' => (ym (pt B 0) rfl (hf.g 0 0))) ?_
 refine rq 5 49 (v := pt B 0) rfl (hS6.se [0]) (fun w' hw' => (Y_nilCheck (B := B) (i := 0) rfl rfl)) ?_
 refine rq 6 50 (v := pt B 0) rfl (hS6.se [0]) (fun w' hw' => (yd B 0 0 K111 K112)) ?_
 refine rq 7 51 (v := .slice B1 c.code.length c1) rfl (hS6.se [0]) (fun w' hw' => (yl B 0 [.slice B1 c.code.length c1, vi (i64.wrap (c.at_ + 1)), .int .u64 (IntKind.u64.wrap ((IntKind.u64.wrap ((IntKind.u64.wrap (c.seed * 6364136223846793005)) + (IntKind.u64.wrap b))) + 1442695040888963407))] (.slice B1 c.code.length c1) K113 (ST.cf hw' (i := 0) rfl))) ?_
 refine rq 8 52 (v := vi (c.code.length : Int)) rfl (hS6.se [0]) (fun w' hw' => (Y_len (B := B1) (m := c.code.length) (c := c1) K85 rfl rfl)) ?_
 refine rq 9 53 (v := .bool (decide ((i64.wrap (c.at_ + 1)) ≤ (c.code.length : Int)))) rfl (hS6.se [0]) (fun w' hw' => (Y_le (k := .i64) (a := (i64.wrap (c.at_ + 1))) (b := (c.code.length : Int)) rfl rfl rfl)) ?_
 refine ra_done (by kernel_rfl) ?_
 refine cw_cond (b := (decide ((i64.wrap (c.at_ + 1)) ≤ (c.code.length : Int)))) rfl (fun hb1 => ?_) (fun hb1 => ?_)
 ·skip
  have hF4 := ct hF1 hb1
  refine cq (cr ?_)
  refine sQ 54 (ym (vi b) rfl (hf.g 3 1)) <| sQ 2 (yg (vi b)) (rn (ct_ ?_))
  obtain ⟨rfl, rfl⟩ := pr2 (sI hF4)
  exact ret1 Tryz.results218 (v1 := vi b) (resAt_tmp rfl) ⟨rfl, (hS6.sN [0])⟩
 ·skip
  have hF5 := cf' hF1 hb1
  refine cw_skip (cq (cr ?_))
  refine sQ 55 (ym (pt B 0) rfl (hf.g 0 0)) <| sQ 56 (Y_nilCheck (B := B) (i := 0) rfl rfl) <| sQ 57 (yd B 0 0 K114 K95) <| sQ 58 (yl B 2 [.slice B1 c.code.length c1, vi (i64.wrap (c.at_ + 1)), .int .u64 (IntKind.u64.wrap ((IntKind.u64.wrap ((IntKind.u64.wrap (c.seed * 6364136223846793005)) + (IntKind.u64.wrap b))) + 1442695040888963407))] (.int .u64 (IntKind.u64.wrap ((IntKind.u64.wrap ((IntKind.u64.wrap (c.seed * 6364136223846793005)) + (IntKind.u64.wrap b))) + 1442695040888963407))) k_sc_113 (hS6.c 0)) <| sQ 59 (Y_shr (k := .u64) (a := (IntKind.u64.wrap ((IntKind.u64.wrap ((IntKind.u64.wrap (c.seed * 6364136223846793005)) + (IntKind.u64.wrap b))) + 1442695040888963407))) (k' := .u64) (b := 40) rfl rfl rfl (by decide)) <| sQ 60 (Y_band (k := .u64) (a := (shrK .u64 (IntKind.u64.wrap ((IntKind.u64.wrap ((IntKind.u64.wrap (c.seed * 6364136223846793005)) + (IntKind.u64.wrap b))) + 1442695040888963407)) 40)) (b := 255) rfl rfl rfl) ?_
  refine sQ 61 (Y_conv (k := .u64) (a := (bits .and .u64 (shrK .u64 (IntKind.u64.wrap ((IntKind.u64.wrap ((IntKind.u64.wrap (c.seed * 6364136223846793005)) + (IntKind.u64.wrap b))) + 1442695040888963407)) 40) 255)) (T := 113) (T' := 3) K115 K28 rfl rfl) <| sQ 2 (yg (vi (i64.wrap (bits .and .u64 (shrK .u64 (IntKind.u64.wrap ((IntKind.u64.wrap ((IntKind.u64.wrap (c.seed * 6364136223846793005)) + (IntKind.u64.wrap b))) + 1442695040888963407)) 40) 255)))) (rn (ct_ ?_))
  obtain ⟨rfl, rfl⟩ := pr2 (sI hF5)
  exact ret1 Tryz.results218 (v1 := vi (i64.wrap (bits .and .u64 (shrK .u64 (IntKind.u64.wrap ((IntKind.u64.wrap ((IntKind.u64.wrap (c.seed * 6364136223846793005)) + (IntKind.u64.wrap b))) + 1442695040888963407)) 40) 255))) (resAt_tmp rfl) ⟨rfl, (hS6.sN [0])⟩

theorem c_spec_l1Cur_pick (c : Tl1Cur) (n1 : Int) (B : Option Addr) (B1 : Option Addr) (c1 n : Nat) (w0 : World) (hn : c.code.length = n) (hS : ST w0 (bl [⟨B, 115, [.slice B1 n c1, vi c.at_, .int .u64 c.seed], 3⟩]) w0 [⟨B, 115, [.slice B1 n c1, vi c.at_, .int .u64 c.seed], 3⟩] [⟨B1, (c.code.flatMap enc_u8)⟩]) {r_ : Int} {m : Tl1Cur} (hF : F_spec_l1Cur_pick c n1 = some (r_, m)) :
  CV Tryz.prog 116 #[pt B 0, vi n1] w0 (fun v w' => v = vi r_ ∧ ST w0 (bl [⟨B, 115, [.slice B1 n c1, vi c.at_, .int .u64 c.seed], 3⟩]) w' [⟨B, 115, [.slice B1 n c1, vi m.at_, .int .u64 m.seed], 3⟩] []) := by
 subst hn
 unfold F_spec_l1Cur_pick at hF
 refine cv_of_cw 20 Tryz.func116 rfl Tryz.ntmps116 rfl ?_
 refine cq (cr ?_)
 refine sQ 4 (yg (vi 0)) (rn (cq (cq (cr ?_))))
 refine sQ 6 (ym (vi n1)) <| sQ 7 (Y_le (k := .i64) (a := n1) (b := 1) rfl rfl rfl) (rn ?_)
 refine cw_cond (b := (decide (n1 ≤ 1))) rfl (fun hb => ?_) (fun hb => ?_)
 ·skip
  have hF1 := ct hF hb
  refine cq (cr ?_)
  refine sQ 4 (yg (vi 0)) (rn (ct_ ?_))
  obtain ⟨rfl, rfl⟩ := pr2 (sI hF1)
  exact ret1 Tryz.results116 (v1 := vi 0) (resAt_tmp rfl) ⟨rfl, (hS.sN [0])⟩
 ·skip
  have hF2 := cf' hF hb
  refine cw_skip (cq (cr ?_))
  refine sQ 8 (ym (pt B 0)) ?_
  obtain ⟨⟨r_1, m1⟩, hc, hF2⟩ := bI hF2
  refine sc 9 rfl rfl (yC [pt B 0] k_call_218 (c_spec_l1Cur_next c B B1 c1 c.code.length _ rfl (hS.inn [true] rfl [(true, 0)] rfl) hc)) ?_
  rintro _ w_ ⟨rfl, hd⟩
  have hS1 := hS.out [true] rfl hd
  refine sQ 5 (yg (vi r_1)) (rn (cq ?_))
  obtain ⟨z, hz, hF3⟩ := bI hF2
  refine cw_mid (fun f w => ∃ (at_ : Int) (seed : Int) (x : Int), (at_, seed, x) = z ∧ FF f [(1, vi n1), (5, vi x)] ∧ ST w0 (bl [⟨B, 115, [.slice B1 c.code.length c1, vi c.at_, .int .u64 c.seed], 3⟩]) w [⟨B, 115, [.slice B1 c.code.length c1, vi at_, .int .u64 seed], 3⟩] [⟨B1, (c.code.flatMap enc_u8)⟩]) ?_ ?_
  ·skip
   refine cq (cr ?_)
   refine sQ 10 (ym (vi n1)) <| sQ 11 (Y_gt (k := .i64) (a := n1) (b := 200) rfl rfl rfl) (rn ?_)
   refine cw_cond (b := (decide (200 < n1))) rfl (fun hb1 => ?_) (fun hb1 => ?_)
   ·skip
    have hF4 := ct hz hb1
    refine cr ?_
    refine sQ 12 (ym (vi r_1)) <| sQ 13 (yX r_1 256) <| sQ 14 (ym (pt B 0)) ?_
    obtain ⟨⟨r_2, m2⟩, hc1, hF4⟩ := bI hF4
    refine sc 15 rfl rfl (yC [pt B 0] k_call_218 (c_spec_l1Cur_next (Tl1Cur.mk c.code m1.at_ m1.seed) B B1 c1 c.code.length _ rfl (hS1.inn [true] rfl [(true, 0)] rfl) hc1)) ?_
    rintro _ w_1 ⟨rfl, hd1⟩
    have hS3 := hS1.out [true] rfl hd1
    refine sQ 16 (yP (i64.wrap (r_1 * 256)) r_2) <| sQ 5 (yg (vi (i64.wrap ((i64.wrap (r_1 * 256)) + r_2)))) (rn ?_)
    exact ⟨m2.at_, m2.seed, (i64.wrap ((i64.wrap (r_1 * 256)) + r_2)), (sI hF4), (fc rfl (fc rfl fn_)), (hS3.sel [0] rfl rfl)⟩
   ·skip
    have hF5 := cf' hz hb1
    refine cw_skip ?_
    exact ⟨m1.at_, m1.seed, r_1, (sI hF5), (fc rfl (fc rfl fn_)), (hS1.sel [0] rfl rfl)⟩
  rintro f w ⟨at_, seed, x, rfl, hf, hS2⟩
  refine cq (cr ?_)
  refine sQ 17 (ym (vi x) rfl (hf.g 5 1)) <| sQ 18 (ym (vi n1) rfl (hf.g 1 0)) ?_
  obtain ⟨hne, hF3⟩ := chk_inv hF3
  refine sQ 19 (Y_rem (k := .i64) (a := x) (b := n1) rfl rfl rfl hne) <| sQ 4 (yg (vi (Int.tmod x n1))) (rn (ct_ ?_))
  obtain ⟨rfl, rfl⟩ := pr2 (sI hF3)
  exact ret1 Tryz.results116 (v1 := vi (Int.tmod x n1)) (resAt_tmp rfl) ⟨rfl, (hS2.sN [0])⟩

theorem c_spec_l1Cur_one (c : Tl1Cur) (n1 : Int) (B : Option Addr) (B1 : Option Addr) (c1 n : Nat) (w0 : World) (hn : c.code.length = n) (hS : ST w0 (bl [⟨B, 115, [.slice B1 n c1, vi c.at_, .int .u64 c.seed], 3⟩]) w0 [⟨B, 115, [.slice B1 n c1, vi c.at_, .int .u64 c.seed], 3⟩] [⟨B1, (c.code.flatMap enc_u8)⟩]) {r_ : Bool} {m : Tl1Cur} (hF : F_spec_l1Cur_one c n1 = some (r_, m)) :
  CV Tryz.prog 118 #[pt B 0, vi n1] w0 (fun v w' => v = .bool r_ ∧ ST w0 (bl [⟨B, 115, [.slice B1 n c1, vi c.at_, .int .u64 c.seed], 3⟩]) w' [⟨B, 115, [.slice B1 n c1, vi m.at_, .int .u64 m.seed], 3⟩] []) := by
 subst hn
 unfold F_spec_l1Cur_one at hF
 refine cv_of_cw 9 Tryz.func118 rfl Tryz.ntmps118 rfl ?_
 refine cq (cr ?_)
 refine sQ 4 (yg (.bool false)) (rn (cq (cr ?_)))
 refine sQ 5 (ym (pt B 0)) <| sQ 6 (ym (vi n1)) ?_
 obtain ⟨⟨r_1, m1⟩, hc, hF⟩ := bI hF
 refine sc 7 rfl rfl (yC [pt B 0, vi n1] K38 (c_spec_l1Cur_pick c n1 B B1 c1 c.code.length _ rfl (hS.inn [true] rfl [(true, 0)] rfl) hc)) ?_
 rintro _ w_ ⟨rfl, hd⟩
 have hS1 := hS.out [true] rfl hd
 refine sQ 8 (yE r_1 0) <| sQ 4 (yg (.bool (r_1 == 0))) (rn (ct_ ?_))
 obtain ⟨rfl, rfl⟩ := pr2 (sI hF)
 exact ret1 Tryz.results118 (v1 := .bool (r_1 == 0)) (resAt_tmp rfl) ⟨rfl, (hS1.sN [0])⟩

theorem c_spec_l1In (n : Int) (lo : Int) (hi : Int)  (w0 : World)  (hS : ST w0 [] w0 [] []) {r_ : Bool} (hF : F_spec_l1In n lo hi = some r_) :
  CV Tryz.prog 181 #[vi n, vi lo, vi hi] w0 (fun v w' => v = .bool r_ ∧ ST w0 [] w' [] []) := by
 unfold F_spec_l1In at hF
 refine cv_of_cw 15 Tryz.func181 rfl Tryz.ntmps181 rfl ?_
 refine cq (cr ?_)
 refine sQ 6 (yg (.bool false)) (rn (cq (cr ?_)))
 refine sQ 7 (ym (vi n)) <| sQ 8 (ym (vi lo)) <| sQ 9 (Y_ge (k := .i64) (a := n) (b := lo) rfl rfl rfl) <| sQ 10 (ym (.bool (decide (lo ≤ n)))) ?_
 refine sgq 11 (B := (decide (lo ≤ n))) (v := vi n) rfl rfl (uT_ 10) (fun hg => (ym (vi n))) ?_
 refine sgq 12 (B := (decide (lo ≤ n))) (v := vi hi) rfl rfl (uT_ 10) (fun hg1 => (ym (vi hi))) ?_
 refine sgq 13 (B := (decide (lo ≤ n))) (v := .bool (decide (n ≤ hi))) rfl rfl (uT_ 10) (fun hg2 => (Y_le (k := .i64) (a := n) (b := hi) rfl (gv_of (v := vi n) hg2) (gv_of (v := vi hi) hg2))) ?_
 refine sQ 14 (Y_and (b := (decide (lo ≤ n))) (z := (decide (n ≤ hi))) rfl rfl rfl rfl) <| sQ 6 (yg (.bool ((decide (lo ≤ n)) && (decide (n ≤ hi))))) (rn (ct_ ?_))
 obtain rfl := sI hF
 exact ret1 Tryz.results181 (v1 := .bool ((decide (lo ≤ n)) && (decide (n ≤ hi)))) (resAt_tmp rfl) ⟨rfl, (hS.sN [])⟩

theorem c_spec_l1Cur_gate (c : Tl1Cur) (n1 : Int) (kinds : List Int) (B : Option Addr) (B1 : Option Addr) (c1 n : Nat) (B2 : Option Addr) (c2 n2 : Nat) (w0 : World) (hn : c.code.length = n) (hn1 : kinds.length = n2) (hS : ST w0 (bl [⟨B, 115, [.slice B1 n c1, vi c.at_, .int .u64 c.seed], 3⟩]) w0 [⟨B, 115, [.slice B1 n c1, vi c.at_, .int .u64 c.seed], 3⟩] [⟨B1, (c.code.flatMap enc_u8)⟩, ⟨B2, (kinds.flatMap encI)⟩]) {r_ : TGate} {m : Tl1Cur} (hF : F_spec_l1Cur_gate c n1 kinds = some (r_, m)) :
  CV Tryz.prog 258 #[pt B 0, vi n1, .slice B2 n2 c2] w0 (fun v w' => v = .agg #[vi r_.Kind, vi r_.A, vi r_.B] ∧ ST w0 (bl [⟨B, 115, [.slice B1 n c1, vi c.at_, .int .u64 c.seed], 3⟩]) w' [⟨B, 115, [.slice B1 n c1, vi m.at_, .int .u64 m.seed], 3⟩] []) := by
 subst hn
 subst hn1
 unfold F_spec_l1Cur_gate at hF
 refine cv_of_cw 42 Tryz.func258 rfl Tryz.ntmps258 rfl ?_
 refine cq (cr ?_)
 refine sS 6 (yN [vi 0, vi 0, vi 0] 3 hS K9) ?_
 rintro _ w_ ⟨b, rfl, hS1⟩
 refine rn (cq (cr ?_))
 refine sQ 8 (ym (.slice B2 kinds.length c2)) <| sQ 9 (ym (pt B 0)) <| sQ 10 (ym (.slice B2 kinds.length c2)) <| sQ 11 (Y_len (B := B2) (m := kinds.length) (c := c2) K2 rfl rfl) ?_
 obtain ⟨⟨r_1, m1⟩, hc, hF⟩ := bI hF
 refine sc 12 rfl rfl (yC [pt B 0, vi (kinds.length : Int)] K38 (c_spec_l1Cur_pick c (kinds.length : Int) B B1 c1 c.code.length _ rfl (hS1.inn [true, false] rfl [(true, 0)] rfl) hc)) ?_
 rintro _ w_1 ⟨rfl, hd⟩
 have hS2 := hS1.out [true, false] rfl hd
 obtain ⟨x, hx, hF⟩ := bI hF
 refine sQ 13 (Y_index (B := B2) (m := kinds.length) (c := c2) (k := .i64) (i := r_1) K2 K0 rfl rfl rfl (gi_isSome encI_len rfl (hS2.rf (i := 1) rfl) hx) (getI_nn hx) (getI_ltI hx rfl)) <| sQ 14 (yl B2 (r_1.toNat * 1) (kinds.flatMap encI) (vi x) K1 (hS2.rf (i := 1) rfl) rfl rfl (gi_at0 encI_len hx rfl)) <| sQ 15 (Y_buildS (zs := [vi 0, vi 0, vi 0]) (vs := [(0, vi x)]) (cs := [vi x, vi 0, vi 0]) K41 K9 rfl (mpc rfl mpn) rfl) ?_
 refine sS 7 (yN [vi 0, vi 0, vi 0] 3 hS2 K9) ?_
 rintro _ w_2 ⟨b1, rfl, hS3⟩
 refine s0 (yT 2 3 (aD b1) 120 (.agg #[vi x, vi 0, vi 0]) [vi x, vi 0, vi 0] 0 hS3 K3) ?_
 rintro _ w_3 ⟨rfl, hS4⟩
 refine rn (cq (cq (cr ?_)))
 refine sQ 16 (yd (aD b1) 0 0 K33 K0) <| sQ 17 (yl (aD b1) 0 [vi x, vi 0, vi 0] (vi x) K1 (hS4.c 2)) <| sQ 18 (yE x 12) (rn ?_)
 refine cw_cond (b := (x == 12)) rfl (fun hb => ?_) (fun hb => ?_)
 ·skip
  have hF1 := ct hF hb
  refine cq (cr ?_)
  refine sQ 19 (yb (aD b1) 0 [vi x, vi 0, vi 0] K24 K3 (hS4.c 2)) ?_
  refine s0 (yT 0 3 (aD b) 120 (.agg #[vi x, vi 0, vi 0]) [vi x, vi 0, vi 0] 0 hS4 K3) ?_
  rintro _ w_4 ⟨rfl, hS5⟩
  refine rn (ct_ ?_)
  obtain ⟨rfl, rfl⟩ := pr2 (sI hF1)
  exact ret1 Tryz.results258 (v1 := .agg #[vi x, vi 0, vi 0]) (resAt_cellA (B := aD b) (i := 0) (cs := [vi x, vi 0, vi 0]) (vs := [vi x, vi 0, vi 0]) rfl K24 K3 (hS5.c 0) rfl rfl) ⟨rfl, (hS5.sN [1])⟩
 ·skip
  have hF2 := cf' hF hb
  refine cw_skip (cq (cr ?_))
  refine sQ 20 (ym (pt B 0)) <| sQ 21 (ym (vi n1)) ?_
  obtain ⟨⟨r_2, m2⟩, hc1, hF2⟩ := bI hF2
  refine sc 22 rfl rfl (yC [pt B 0, vi n1] K38 (c_spec_l1Cur_pick (Tl1Cur.mk c.code m1.at_ m1.seed) n1 B B1 c1 c.code.length _ rfl (hS4.inn [false, true, false] rfl [(true, 0)] rfl) hc1)) ?_
  rintro _ w_5 ⟨rfl, hd1⟩
  have hS6 := hS4.out [false, true, false] rfl hd1
  refine sQ 23 (yd (aD b1) 0 0 K18 K0) ?_
  refine s0 (yS 1 1 (aD b1) 120 (vi r_2) [vi r_2] 1 [vi x, vi r_2, vi 0] hS6 K0) ?_
  rintro _ w_6 ⟨rfl, hS7⟩
  refine rn (cq ?_)
  obtain ⟨z, hz, hF3⟩ := bI hF2
  refine cw_mid (fun f w => ∃ (at_ : Int) (seed : Int) (B3 : Int), .inl (at_, seed, B3) = z ∧ FF f [(6, pt (aD b) 0), (7, pt (aD b1) 0)] ∧ ST w0 (bl [⟨B, 115, [.slice B1 c.code.length c1, vi c.at_, .int .u64 c.seed], 3⟩]) w [⟨B, 115, [.slice B1 c.code.length c1, vi at_, .int .u64 seed], 3⟩, ⟨aD b, 120, [vi 0, vi 0, vi 0], 3⟩, ⟨aD b1, 120, [vi x, vi r_2, vi B3], 3⟩] [⟨B1, (c.code.flatMap enc_u8)⟩, ⟨B2, (kinds.flatMap encI)⟩]) ?_ ?_
  ·skip
   refine cq (cr ?_)
   refine sQ 24 (yd (aD b1) 0 0 K33 K0) <| sQ 25 (yl (aD b1) 0 [vi x, vi r_2, vi 0] (vi x) K1 (hS7.c 1)) ?_
   obtain ⟨r_3, hc2, hz⟩ := bI hz
   refine sc 26 rfl rfl (yC [vi x, vi 9, vi 11] K72 (c_spec_l1In x 9 11 _  (hS7.inn0 [] rfl) hc2)) ?_
   rintro _ w_7 ⟨rfl, hd2⟩
   have hS9 := hS7.out00 hd2
   refine rn ?_
   refine cw_cond (b := r_3) rfl (fun hb1 => ?_) (fun hb1 => ?_)
   ·skip
    have hF4 := ct hz hb1
    refine cq (cq (cr ?_))
    refine sQ 27 (ym (vi n1)) <| sQ 28 (yE n1 1) (rn ?_)
    refine cw_cond (b := (n1 == 1)) rfl (fun hb2 => ?_) (fun hb2 => ?_)
    ·skip
     have hF5 := ct hF4 hb2
     refine cq (cr ?_)
     refine sQ 29 (Y_buildS (zs := [vi 0, vi 0, vi 0]) (vs := [(0, vi 1)]) (cs := [vi 1, vi 0, vi 0]) K41 K9 rfl (mpc rfl mpn) rfl) ?_
     refine s0 (yT 0 3 (aD b) 120 (.agg #[vi 1, vi 0, vi 0]) [vi 1, vi 0, vi 0] 0 hS9 K3) ?_
     rintro _ w_8 ⟨rfl, hS10⟩
     refine rn (ct_ ?_)
     obtain rfl := sI hF5
     obtain ⟨rfl, rfl⟩ := pr2 (sI hF3)
     exact ret1 Tryz.results258 (v1 := .agg #[vi 1, vi 0, vi 0]) (resAt_cellA (B := aD b) (i := 0) (cs := [vi 1, vi 0, vi 0]) (vs := [vi 1, vi 0, vi 0]) rfl K24 K3 (hS10.c 0) rfl rfl) ⟨rfl, (hS10.sN [2])⟩
    ·skip
     have hF6 := cf' hF4 hb2
     refine cw_skip ?_
     obtain ⟨⟨r_4, m3⟩, hc3, hF6⟩ := bI hF6
     obtain ⟨hne, hF6⟩ := chk_inv hF6
     refine cw_mid (fun f w => FF f [(6, pt (aD b) 0), (7, pt (aD b1) 0)] ∧ ST w0 (bl [⟨B, 115, [.slice B1 c.code.length c1, vi c.at_, .int .u64 c.seed], 3⟩]) w [⟨B, 115, [.slice B1 c.code.length c1, vi m3.at_, .int .u64 m3.seed], 3⟩, ⟨aD b, 120, [vi 0, vi 0, vi 0], 3⟩, ⟨aD b1, 120, [vi x, vi r_2, vi (Int.tmod (i64.wrap ((i64.wrap (r_2 + 1)) + r_4)) n1)], 3⟩] [⟨B1, (c.code.flatMap enc_u8)⟩, ⟨B2, (kinds.flatMap encI)⟩]) ?_ ?_
     ·skip
      refine ra_start (hS9.se [0]).fn (by kernel_rfl) ?_
      have hS13 := hS9.drew
      refine rq 0 30 (v := pt (aD b1) 1) rfl (hS13.se [0]) (fun w' hw' => (yd (aD b1) 0 0 K18 K0)) ?_
      refine rq 3 33 (v := pt B 0) rfl (hS13.se [0]) (fun w' hw' => (ym (pt B 0))) ?_
      refine rq 4 34 (v := vi n1) rfl (hS13.se [0]) (fun w' hw' => (ym (vi n1))) ?_
      refine rq 5 35 (v := vi (i64.wrap (n1 - 1))) rfl (hS13.se [0]) (fun w' hw' => (yM n1 1)) ?_
      refine rq 8 38 (v := vi n1) rfl (hS13.se [0]) (fun w' hw' => (ym (vi n1))) ?_
      refine rA [1, 6] ?_
      refine ra_y 31 (i := 1) (v := vi r_2) rfl rfl rfl (yl (aD b1) 1 [vi x, vi r_2, vi 0] (vi r_2) K1 (hS13.c 1)) (hS13.se [0]) ?_ ?_
      ·skip
       refine rq 2 32 (v := vi (i64.wrap (r_2 + 1))) rfl (hS13.se [0]) (fun w' hw' => (yP r_2 1)) ?_
       refine rA [6] ?_
       refine rC 36 6 rfl (yC [pt B 0, vi (i64.wrap (n1 - 1))] K38 (c_spec_l1Cur_pick (Tl1Cur.mk c.code m2.at_ m2.seed) (i64.wrap (n1 - 1)) B B1 c1 c.code.length _ rfl (hS13.inn [false, false, true] rfl [(true, 0)] rfl) hc3)) ?_ ?_
       ·rintro _ w_9 ⟨rfl, hd3⟩
        have hS14 := hS13.out [false, false, true] rfl hd3
        refine ⟨(hS14.se [0]), ?_⟩
        refine rq 7 37 (v := vi (i64.wrap ((i64.wrap (r_2 + 1)) + r_4))) rfl (hS14.se [0]) (fun w' hw' => (yP (i64.wrap (r_2 + 1)) r_4)) ?_
        refine rq 9 39 (v := vi (Int.tmod (i64.wrap ((i64.wrap (r_2 + 1)) + r_4)) n1)) rfl (hS14.se [0]) (fun w' hw' => (Y_rem (k := .i64) (a := (i64.wrap ((i64.wrap (r_2 + 1)) + r_4))) (b := n1) rfl rfl rfl hne)) ?_
        refine rq 10 40 (v := pt (aD b1) 2) rfl (hS14.se [0]) (fun w' hw' => (yd (aD b1) 0 0 K26 K0)) ?_
        refine rA [11] ?_
        refine rZ 11 rfl (yS 1 1 (aD b1) 120 (vi (Int.tmod (i64.wrap ((i64.wrap (r_2 + 1)) + r_4)) n1)) [vi (Int.tmod (i64.wrap ((i64.wrap (r_2 + 1)) + r_4)) n1)] 2 [vi x, vi r_2, vi (Int.tmod (i64.wrap ((i64.wrap (r_2 + 1)) + r_4)) n1)] hS14 K0) ?_ ?_
        ·rintro _ w_10 ⟨rfl, hS15⟩
         refine ⟨(hS15.se [0]), ?_⟩
         refine ra_done (by kernel_rfl) ?_
         exact ⟨(fc rfl (fc rfl fn_)), (hS15.sel [2, 0, 1] rfl rfl)⟩
        exact aN
       exact aN
      refine rC 36 6 rfl (yC [pt B 0, vi (i64.wrap (n1 - 1))] K38 (c_spec_l1Cur_pick (Tl1Cur.mk c.code m2.at_ m2.seed) (i64.wrap (n1 - 1)) B B1 c1 c.code.length _ rfl (hS13.inn [false, false, true] rfl [(true, 0)] rfl) hc3)) ?_ ?_
      ·rintro _ w_11 ⟨rfl, hd4⟩
       have hS16 := hS13.out [false, false, true] rfl hd4
       refine ⟨(hS16.se [0]), ?_⟩
       refine rA [1] ?_
       refine ra_y 31 (i := 1) (v := vi r_2) rfl rfl rfl (yl (aD b1) 1 [vi x, vi r_2, vi 0] (vi r_2) K1 (hS16.c 1)) (hS16.se [0]) ?_ ?_
       ·skip
        refine rq 2 32 (v := vi (i64.wrap (r_2 + 1))) rfl (hS16.se [0]) (fun w' hw' => (yP r_2 1)) ?_
        refine rq 7 37 (v := vi (i64.wrap ((i64.wrap (r_2 + 1)) + r_4))) rfl (hS16.se [0]) (fun w' hw' => (yP (i64.wrap (r_2 + 1)) r_4)) ?_
        refine rq 9 39 (v := vi (Int.tmod (i64.wrap ((i64.wrap (r_2 + 1)) + r_4)) n1)) rfl (hS16.se [0]) (fun w' hw' => (Y_rem (k := .i64) (a := (i64.wrap ((i64.wrap (r_2 + 1)) + r_4))) (b := n1) rfl rfl rfl hne)) ?_
        refine rq 10 40 (v := pt (aD b1) 2) rfl (hS16.se [0]) (fun w' hw' => (yd (aD b1) 0 0 K26 K0)) ?_
        refine rA [11] ?_
        refine rZ 11 rfl (yS 1 1 (aD b1) 120 (vi (Int.tmod (i64.wrap ((i64.wrap (r_2 + 1)) + r_4)) n1)) [vi (Int.tmod (i64.wrap ((i64.wrap (r_2 + 1)) + r_4)) n1)] 2 [vi x, vi r_2, vi (Int.tmod (i64.wrap ((i64.wrap (r_2 + 1)) + r_4)) n1)] hS16 K0) ?_ ?_
        ·rintro _ w_12 ⟨rfl, hS17⟩
         refine ⟨(hS17.se [0]), ?_⟩
         refine ra_done (by kernel_rfl) ?_
         exact ⟨(fc rfl (fc rfl fn_)), (hS17.sel [2, 0, 1] rfl rfl)⟩
        exact aN
       exact aN
      exact aN
     rintro f w ⟨hf1, hS12⟩
     exact ⟨m3.at_, m3.seed, (Int.tmod (i64.wrap ((i64.wrap (r_2 + 1)) + r_4)) n1), (sI hF6), (fc (hf1.g 6 0) (fc (hf1.g 7 1) fn_)), (hS12.sel [0, 1, 2] rfl rfl)⟩
   ·skip
    have hF7 := cf' hz hb1
    refine cw_skip ?_
    exact ⟨m2.at_, m2.seed, 0, (sI hF7), (fc rfl (fc rfl fn_)), (hS9.sel [2, 0, 1] rfl rfl)⟩
  rintro f w ⟨at_, seed, B3, rfl, hf, hS8⟩
  refine cq (cr ?_)
  refine sQ 41 (yb (aD b1) 0 [vi x, vi r_2, vi B3] K24 K3 (hS8.c 2) rfl (hf.g 7 1)) ?_
  refine s0 (yT 1 3 (aD b) 120 (.agg #[vi x, vi r_2, vi B3]) [vi x, vi r_2, vi B3] 0 hS8 K3 rfl (hf.g 6 0)) ?_
  rintro _ w_13 ⟨rfl, hS18⟩
  refine rn (ct_ ?_)
  obtain ⟨rfl, rfl⟩ := pr2 (sI hF3)
  exact ret1 Tryz.results258 (v1 := .agg #[vi x, vi r_2, vi B3]) (resAt_cellA (B := aD b) (i := 0) (cs := [vi x, vi r_2, vi B3]) (vs := [vi x, vi r_2, vi B3]) (hf.g 6 0) K24 K3 (hS18.c 1) rfl rfl) ⟨rfl, (hS18.sN [0])⟩

theorem c_spec_l1Cur_built (c : Tl1Cur) (n1 : Int) (most : Int) (kinds : List Int) (B : Option Addr) (B1 : Option Addr) (c1 n : Nat) (B2 : Option Addr) (c2 n2 : Nat) (w0 : World) (hn : c.code.length = n) (hn1 : kinds.length = n2) (hS : ST w0 (bl [⟨B, 115, [.slice B1 n c1, vi c.at_, .int .u64 c.seed], 3⟩]) w0 [⟨B, 115, [.slice B1 n c1, vi c.at_, .int .u64 c.seed], 3⟩] [⟨B1, (c.code.flatMap enc_u8)⟩, ⟨B2, (kinds.flatMap encI)⟩]) {r_ : TCircuit} {m : Tl1Cur} (hF : F_spec_l1Cur_built c n1 most kinds = some (r_, m)) :
  CV Tryz.prog 165 #[pt B 0, vi n1, vi most, .slice B2 n2 c2] w0 (fun v w' => ∃ (B3 : Option Addr) (c3 : Nat), v = .agg #[vi r_.Qubits, .slice B3 r_.Gates.length c3] ∧ ST w0 (bl [⟨B, 115, [.slice B1 n c1, vi c.at_, .int .u64 c.seed], 3⟩]) w' [⟨B, 115, [.slice B1 n c1, vi m.at_, .int .u64 m.seed], 3⟩, ⟨B3, 120, (r_.Gates.flatMap eN0), c3 * 3⟩] []) := by
 subst hn
 subst hn1
 unfold F_spec_l1Cur_built at hF
 refine cv_of_cw 31 Tryz.func165 rfl Tryz.ntmps165 rfl ?_
 refine cq (cr ?_)
 refine sS 8 (yN [vi 0, .slice none 0 0] 2 hS K45) ?_
 rintro _ w_ ⟨b, rfl, hS1⟩
 refine rn (cq (cr ?_))
 refine sQ 11 (ym (vi n1)) <| sQ 12 (Y_buildS (zs := [vi 0, .slice none 0 0]) (vs := [(0, vi n1)]) (cs := [vi n1, .slice none 0 0]) K96 K45 rfl (mpc rfl mpn) rfl) ?_
 refine sS 9 (yN [vi 0, .slice none 0 0] 2 hS1 K45) ?_
 rintro _ w_1 ⟨b1, rfl, hS2⟩
 refine s0 (yT 2 2 (aD b1) 28 (.agg #[vi n1, .slice none 0 0]) [vi n1, .slice none 0 0] 0 hS2 K11) ?_
 rintro _ w_2 ⟨rfl, hS3⟩
 refine rn (cq (cq (cr ?_)))
 refine sQ 13 (ym (pt B 0)) <| sQ 14 (ym (vi most)) <| sQ 15 (yP most 1) ?_
 obtain ⟨⟨r_1, m1⟩, hc, hF⟩ := bI hF
 refine sc 16 rfl rfl (yC [pt B 0, vi (i64.wrap (most + 1))] K38 (c_spec_l1Cur_pick c (i64.wrap (most + 1)) B B1 c1 c.code.length _ rfl (hS3.inn [true, false, false] rfl [(true, 0)] rfl) hc)) ?_
 rintro _ w_3 ⟨rfl, hd⟩
 have hS4 := hS3.out [true, false, false] rfl hd
 refine sQ 10 (yg (vi r_1)) (rn ?_)
 obtain ⟨z, hz, hF1⟩ := bI hF
 have hS6 := hS4.addNil 120
 refine cw_block ?_
 refine cw_loop (fun k f w => ∃ (at_ : Int) (seed : Int) (Gates : List TGate) (k_ : Int) (B4 : Option Addr) (c4 : Nat), FF f [(0, pt B 0), (1, vi n1), (3, .slice B2 kinds.length c2), (8, pt (aD b) 0), (9, pt (aD b1) 0), (10, vi k_)] ∧ ST w0 (bl [⟨B, 115, [.slice B1 c.code.length c1, vi c.at_, .int .u64 c.seed], 3⟩]) w [⟨B, 115, [.slice B1 c.code.length c1, vi at_, .int .u64 seed], 3⟩, ⟨aD b, 28, [vi 0, .slice none 0 0], 2⟩, ⟨aD b1, 28, [vi n1, .slice B4 Gates.length c4], 2⟩, ⟨B4, 120, (Gates.flatMap eN0), c4 * 3⟩] [⟨B1, (c.code.flatMap enc_u8)⟩, ⟨B2, (kinds.flatMap encI)⟩] ∧ whX (F_spec_l1Cur_built_l1 c n1 kinds) k (at_, seed, Gates, k_) = some z) fuel ⟨m1.at_, m1.seed, [], r_1, none, 0, (fc rfl (fc rfl (fc rfl (fc rfl (fc rfl (fc rfl fn_)))))), (hS6.sel [2, 0, 1, 3] rfl rfl), hz⟩ ?_
 rintro K7 f w ⟨at_, seed, Gates, k_, B4, c4, hf, hS5, hL⟩
 obtain ⟨K16, y, rfl, hb, hL1⟩ := whX_go hL
 unfold F_spec_l1Cur_built_l1 at hb
 refine cq (cq (cr ?_))
 refine sQ 17 (ym (vi k_) rfl (hf.g 10 5)) <| sQ 18 (Y_gt (k := .i64) (a := k_) (b := 0) rfl rfl rfl) (rn ?_)
 refine cw_cond (b := (decide (0 < k_))) rfl (fun hb1 => ?_) (fun hb1 => ?_)
 ·skip
  have hF2 := ct hb hb1
  refine cw_skip (cq (cw_block ?_))
  obtain ⟨⟨r_2, m2⟩, hc1, hF2⟩ := bI hF2
  obtain ⟨hap, hF2⟩ := chk_inv hF2
  refine cw_mid (fun f w => ∃ (B6 : Option Addr) (c6 : Nat), FF f [(0, pt B 0), (1, vi n1), (3, .slice B2 kinds.length c2), (8, pt (aD b) 0), (9, pt (aD b1) 0), (10, vi k_)] ∧ ST w0 (bl [⟨B, 115, [.slice B1 c.code.length c1, vi c.at_, .int .u64 c.seed], 3⟩]) w [⟨B, 115, [.slice B1 c.code.length c1, vi m2.at_, .int .u64 m2.seed], 3⟩, ⟨aD b, 28, [vi 0, .slice none 0 0], 2⟩, ⟨aD b1, 28, [vi n1, .slice B6 ((Gates ++ [r_2]).length) c6], 2⟩, ⟨B6, 120, ((Gates ++ [r_2]).flatMap eN0), c6 * 3⟩] [⟨B1, (c.code.flatMap enc_u8)⟩, ⟨B2, (kinds.flatMap encI)⟩]) ?_ ?_
  ·skip
   refine ra_start (hS5.se [1]).fn (by kernel_rfl) ?_
   have hS9 := hS5.drew
   refine rq 0 21 (v := pt (aD b1) 1) rfl (hS9.se [1]) (fun w' hw' => (yd (aD b1) 0 0 K36 K21 rfl (hf.g 9 4))) ?_
   refine rq 2 23 (v := pt B 0) rfl (hS9.se [1]) (fun w' hw' => (ym (pt B 0) rfl (hf.g 0 0))) ?_
   refine rq 3 24 (v := vi n1) rfl (hS9.se [1]) (fun w' hw' => (ym (vi n1) rfl (hf.g 1 1))) ?_
   refine rq 4 25 (v := .slice B2 kinds.length c2) rfl (hS9.se [1]) (fun w' hw' => (ym (.slice B2 kinds.length c2) rfl (hf.g 3 2))) ?_
   refine rA [1, 5] ?_
   refine ra_y 22 (i := 1) (v := .slice B4 Gates.length c4) rfl rfl rfl (yl (aD b1) 1 [vi n1, .slice B4 Gates.length c4] (.slice B4 Gates.length c4) K37 (hS9.c 2)) (hS9.se [1]) ?_ ?_
   ·skip
    refine rA [5] ?_
    refine rC 26 5 rfl (yC [pt B 0, vi n1, .slice B2 kinds.length c2] k_call_258 (c_spec_l1Cur_gate (Tl1Cur.mk c.code at_ seed) n1 kinds B B1 c1 c.code.length B2 c2 kinds.length _ rfl rfl (hS9.inn [true, false, false, false] rfl [(true, 0), (true, 1)] rfl) hc1)) ?_ ?_
    ·rintro _ w_4 ⟨rfl, hd1⟩
     have hS10 := hS9.out [true, false, false, false] rfl hd1
     refine ⟨(hS10.se [0]), ?_⟩
     refine rA [6] ?_
     refine rS 27 6 rfl (Ys_bslice (s := 3) (len := 1) (vs := [(0, .agg #[vi r_2.Kind, vi r_2.A, vi r_2.B])]) (cs := [vi r_2.Kind, vi r_2.A, vi r_2.B]) (zs := [vi 0, vi 0, vi 0]) (m := 3) hS10 K5 K3 K35 rfl (mpc rfl mpn) rfl rfl rfl (by kernel_rfl) (by kernel_rfl) rfl) ?_ ?_
     ·rintro _ w_5 ⟨b2, rfl, hS11⟩
      refine ⟨(hS11.se [0]), ?_⟩
      refine rA [7] ?_
      refine rS 28 7 rfl (Ys_append (s := 3) (by' := 24) (i := 2) (nn := Gates.length) (c := c4) (k := 1) (len := (Gates ++ [r_2]).length) (B := B4) (xs := ([r_2].flatMap eN0)) (cs' := ((Gates ++ [r_2]).flatMap eN0)) hS11 K5 K3 K27 K9 rfl (by decide) rfl rfl rfl rfl (fm_lenn (l := Gates) eN1 rfl) rfl (hS11.c 4) (fm_lenn (l := [r_2]) eN1 rfl) (fm_one' (enc := eN0) enc_Gate_one [r_2]) (by have := hap; omega) (by have := hap; simp only [maxLen]; omega) (fm_app _ _) (app_len (l := Gates) (l' := [r_2]) rfl rfl)) ?_ ?_
      ·rintro _ w_6 ⟨B5, c5, rfl, hS12⟩
       refine ⟨(hS12.se [0]), ?_⟩
       refine rq 8 29 (v := pt (aD b1) 1) rfl (hS12.se [0]) (fun w' hw' => (yd (aD b1) 0 0 K36 K21 rfl (hf.g 9 4))) ?_
       refine rA [9] ?_
       refine rZ 9 rfl (yS 1 1 (aD b1) 28 (.slice B5 ((Gates ++ [r_2]).length) c5) [.slice B5 ((Gates ++ [r_2]).length) c5] 1 [vi n1, .slice B5 ((Gates ++ [r_2]).length) c5] hS12 K21) ?_ ?_
       ·rintro _ w_7 ⟨rfl, hS13⟩
        refine ⟨(hS13.se [0]), ?_⟩
        refine ra_done (by kernel_rfl) ?_
        exact ⟨B5, c5, (fc (hf.g 0 0) (fc (hf.g 1 1) (fc (hf.g 3 2) (fc (hf.g 8 3) (fc (hf.g 9 4) (fc (hf.g 10 5) fn_)))))), (hS13.sel [3, 0, 1, 2] rfl rfl)⟩
       exact aN
      exact aN
     exact aN
    exact aN
   refine rC 26 5 rfl (yC [pt B 0, vi n1, .slice B2 kinds.length c2] k_call_258 (c_spec_l1Cur_gate (Tl1Cur.mk c.code at_ seed) n1 kinds B B1 c1 c.code.length B2 c2 kinds.length _ rfl rfl (hS9.inn [true, false, false, false] rfl [(true, 0), (true, 1)] rfl) hc1)) ?_ ?_
   ·rintro _ w_8 ⟨rfl, hd2⟩
    have hS14 := hS9.out [true, false, false, false] rfl hd2
    refine ⟨(hS14.se [0]), ?_⟩
    refine rA [1, 6] ?_
    refine ra_y 22 (i := 1) (v := .slice B4 Gates.length c4) rfl rfl rfl (yl (aD b1) 1 [vi n1, .slice B4 Gates.length c4] (.slice B4 Gates.length c4) K37 (hS14.c 1)) (hS14.se [0]) ?_ ?_
    ·skip
     refine rA [6] ?_
     refine rS 27 6 rfl (Ys_bslice (s := 3) (len := 1) (vs := [(0, .agg #[vi r_2.Kind, vi r_2.A, vi r_2.B])]) (cs := [vi r_2.Kind, vi r_2.A, vi r_2.B]) (zs := [vi 0, vi 0, vi 0]) (m := 3) hS14 K5 K3 K35 rfl (mpc rfl mpn) rfl rfl rfl (by kernel_rfl) (by kernel_rfl) rfl) ?_ ?_
     ·rintro _ w_9 ⟨b2, rfl, hS15⟩
      refine ⟨(hS15.se [0]), ?_⟩
      refine rA [7] ?_
      refine rS 28 7 rfl (Ys_append (s := 3) (by' := 24) (i := 2) (nn := Gates.length) (c := c4) (k := 1) (len := (Gates ++ [r_2]).length) (B := B4) (xs := ([r_2].flatMap eN0)) (cs' := ((Gates ++ [r_2]).flatMap eN0)) hS15 K5 K3 K27 K9 rfl (by decide) rfl rfl rfl rfl (fm_lenn (l := Gates) eN1 rfl) rfl (hS15.c 4) (fm_lenn (l := [r_2]) eN1 rfl) (fm_one' (enc := eN0) enc_Gate_one [r_2]) (by have := hap; omega) (by have := hap; simp only [maxLen]; omega) (fm_app _ _) (app_len (l := Gates) (l' := [r_2]) rfl rfl)) ?_ ?_
      ·rintro _ w_10 ⟨B5, c5, rfl, hS16⟩
       refine ⟨(hS16.se [0]), ?_⟩
       refine rq 8 29 (v := pt (aD b1) 1) rfl (hS16.se [0]) (fun w' hw' => (yd (aD b1) 0 0 K36 K21 rfl (hf.g 9 4))) ?_
       refine rA [9] ?_
       refine rZ 9 rfl (yS 1 1 (aD b1) 28 (.slice B5 ((Gates ++ [r_2]).length) c5) [.slice B5 ((Gates ++ [r_2]).length) c5] 1 [vi n1, .slice B5 ((Gates ++ [r_2]).length) c5] hS16 K21) ?_ ?_
       ·rintro _ w_11 ⟨rfl, hS17⟩
        refine ⟨(hS17.se [0]), ?_⟩
        refine ra_done (by kernel_rfl) ?_
        exact ⟨B5, c5, (fc (hf.g 0 0) (fc (hf.g 1 1) (fc (hf.g 3 2) (fc (hf.g 8 3) (fc (hf.g 9 4) (fc (hf.g 10 5) fn_)))))), (hS17.sel [3, 0, 1, 2] rfl rfl)⟩
       exact aN
      exact aN
     exact aN
    refine rS 27 6 rfl (Ys_bslice (s := 3) (len := 1) (vs := [(0, .agg #[vi r_2.Kind, vi r_2.A, vi r_2.B])]) (cs := [vi r_2.Kind, vi r_2.A, vi r_2.B]) (zs := [vi 0, vi 0, vi 0]) (m := 3) hS14 K5 K3 K35 rfl (mpc rfl mpn) rfl rfl rfl (by kernel_rfl) (by kernel_rfl) rfl) ?_ ?_
    ·rintro _ w_12 ⟨b2, rfl, hS18⟩
     refine ⟨(hS18.se [0]), ?_⟩
     refine rA [1] ?_
     refine ra_y 22 (i := 1) (v := .slice B4 Gates.length c4) rfl rfl rfl (yl (aD b1) 1 [vi n1, .slice B4 Gates.length c4] (.slice B4 Gates.length c4) K37 (hS18.c 1)) (hS18.se [0]) ?_ ?_
     ·skip
      refine rA [7] ?_
      refine rS 28 7 rfl (Ys_append (s := 3) (by' := 24) (i := 2) (nn := Gates.length) (c := c4) (k := 1) (len := (Gates ++ [r_2]).length) (B := B4) (xs := ([r_2].flatMap eN0)) (cs' := ((Gates ++ [r_2]).flatMap eN0)) hS18 K5 K3 K27 K9 rfl (by decide) rfl rfl rfl rfl (fm_lenn (l := Gates) eN1 rfl) rfl (hS18.c 4) (fm_lenn (l := [r_2]) eN1 rfl) (fm_one' (enc := eN0) enc_Gate_one [r_2]) (by have := hap; omega) (by have := hap; simp only [maxLen]; omega) (fm_app _ _) (app_len (l := Gates) (l' := [r_2]) rfl rfl)) ?_ ?_
      ·rintro _ w_13 ⟨B5, c5, rfl, hS19⟩
       refine ⟨(hS19.se [0]), ?_⟩
       refine rq 8 29 (v := pt (aD b1) 1) rfl (hS19.se [0]) (fun w' hw' => (yd (aD b1) 0 0 K36 K21 rfl (hf.g 9 4))) ?_
       refine rA [9] ?_
       refine rZ 9 rfl (yS 1 1 (aD b1) 28 (.slice B5 ((Gates ++ [r_2]).length) c5) [.slice B5 ((Gates ++ [r_2]).length) c5] 1 [vi n1, .slice B5 ((Gates ++ [r_2]).length) c5] hS19 K21) ?_ ?_
       ·rintro _ w_14 ⟨rfl, hS20⟩
        refine ⟨(hS20.se [0]), ?_⟩
        refine ra_done (by kernel_rfl) ?_
        exact ⟨B5, c5, (fc (hf.g 0 0) (fc (hf.g 1 1) (fc (hf.g 3 2) (fc (hf.g 8 3) (fc (hf.g 9 4) (fc (hf.g 10 5) fn_)))))), (hS20.sel [3, 0, 1, 2] rfl rfl)⟩
       exact aN
      exact aN
     exact aN
    exact aN
   exact aN
  rintro f w ⟨B6, c6, hf1, hS8⟩
  refine cr ?_
  refine sQ 19 (ym (vi k_) rfl (hf1.g 10 5)) <| sQ 20 (yM k_ 1) <| sQ 10 (yg (vi (i64.wrap (k_ - 1)))) (rn ?_)
  obtain rfl := sI hF2
  exact ⟨K16, Nat.lt_succ_self _, m2.at_, m2.seed, (Gates ++ [r_2]), (i64.wrap (k_ - 1)), B6, c6, (fc (hf1.g 0 0) (fc (hf1.g 1 1) (fc (hf1.g 3 2) (fc (hf1.g 8 3) (fc (hf1.g 9 4) (fc rfl fn_)))))), (hS8.sel [0, 1, 2, 3] rfl rfl), hL1⟩
 ·skip
  have hF3 := cf' hb hb1
  refine cw_exit rfl ?_
  obtain rfl := sI hF3
  obtain rfl := sI hL1
  refine cq (cr ?_)
  refine sQ 30 (yb (aD b1) 0 [vi n1, .slice B4 Gates.length c4] K22 K11 (hS5.c 2) rfl (hf.g 9 4)) ?_
  refine s0 (yT 1 2 (aD b) 28 (.agg #[vi n1, .slice B4 Gates.length c4]) [vi n1, .slice B4 Gates.length c4] 0 hS5 K11 rfl (hf.g 8 3)) ?_
  rintro _ w_15 ⟨rfl, hS21⟩
  refine rn (ct_ ?_)
  obtain ⟨rfl, rfl⟩ := pr2 (sI hF1)
  exact ret1 Tryz.results165 (v1 := .agg #[vi n1, .slice B4 Gates.length c4]) (resAt_cellA (B := aD b) (i := 0) (cs := [vi n1, .slice B4 Gates.length c4]) (vs := [vi n1, .slice B4 Gates.length c4]) (hf.g 8 3) K22 K11 (hS21.c 1) rfl rfl) ⟨B4, c4, rfl, (hS21.sN [0, 3])⟩

theorem c_spec_l1Cur_among (c : Tl1Cur) (list : List Int) (B : Option Addr) (B1 : Option Addr) (c1 n : Nat) (B2 : Option Addr) (c2 n1 : Nat) (w0 : World) (hn : c.code.length = n) (hn1 : list.length = n1) (hS : ST w0 (bl [⟨B, 115, [.slice B1 n c1, vi c.at_, .int .u64 c.seed], 3⟩]) w0 [⟨B, 115, [.slice B1 n c1, vi c.at_, .int .u64 c.seed], 3⟩] [⟨B1, (c.code.flatMap enc_u8)⟩, ⟨B2, (list.flatMap encI)⟩]) {r_ : Int} {m : Tl1Cur} (hF : F_spec_l1Cur_among c list = some (r_, m)) :
  CV Tryz.prog 224 #[pt B 0, .slice B2 n1 c2] w0 (fun v w' => v = vi r_ ∧ ST w0 (bl [⟨B, 115, [.slice B1 n c1, vi c.at_, .int .u64 c.seed], 3⟩]) w' [⟨B, 115, [.slice B1 n c1, vi m.at_, .int .u64 m.seed], 3⟩] []) := by
 subst hn
 subst hn1
 unfold F_spec_l1Cur_among at hF
 refine cv_of_cw 12 Tryz.func224 rfl Tryz.ntmps224 rfl ?_
 refine cq (cr ?_)
 refine sQ 4 (yg (vi 0)) (rn (cq (cr ?_)))
 refine sQ 5 (ym (.slice B2 list.length c2)) <| sQ 6 (ym (pt B 0)) <| sQ 7 (ym (.slice B2 list.length c2)) <| sQ 8 (Y_len (B := B2) (m := list.length) (c := c2) K2 rfl rfl) ?_
 obtain ⟨⟨r_1, m1⟩, hc, hF⟩ := bI hF
 refine sc 9 rfl rfl (yC [pt B 0, vi (list.length : Int)] K38 (c_spec_l1Cur_pick c (list.length : Int) B B1 c1 c.code.length _ rfl (hS.inn [true] rfl [(true, 0)] rfl) hc)) ?_
 rintro _ w_ ⟨rfl, hd⟩
 have hS1 := hS.out [true] rfl hd
 obtain ⟨x, hx, hF⟩ := bI hF
 refine sQ 10 (Y_index (B := B2) (m := list.length) (c := c2) (k := .i64) (i := r_1) K2 K0 rfl rfl rfl (gi_isSome encI_len rfl (hS1.rf (i := 1) rfl) hx) (getI_nn hx) (getI_ltI hx rfl)) <| sQ 11 (yl B2 (r_1.toNat * 1) (list.flatMap encI) (vi x) K1 (hS1.rf (i := 1) rfl) rfl rfl (gi_at0 encI_len hx rfl)) <| sQ 4 (yg (vi x)) (rn (ct_ ?_))
 obtain ⟨rfl, rfl⟩ := pr2 (sI hF)
 exact ret1 Tryz.results224 (v1 := vi x) (resAt_tmp rfl) ⟨rfl, (hS1.sN [0])⟩

theorem c_spec_l1Cur_circuit (c : Tl1Cur) (B : Option Addr) (B1 : Option Addr) (c1 n : Nat) (w0 : World) (hn : c.code.length = n) (hS : ST w0 (bl [⟨B, 115, [.slice B1 n c1, vi c.at_, .int .u64 c.seed], 3⟩]) w0 [⟨B, 115, [.slice B1 n c1, vi c.at_, .int .u64 c.seed], 3⟩] [⟨B1, (c.code.flatMap enc_u8)⟩]) {r_ : TCircuit} {m : Tl1Cur} (hF : F_spec_l1Cur_circuit c = some (r_, m)) :
  CV Tryz.prog 223 #[pt B 0] w0 (fun v w' => ∃ (B2 : Option Addr) (c2 : Nat), v = .agg #[vi r_.Qubits, .slice B2 r_.Gates.length c2] ∧ ST w0 (bl [⟨B, 115, [.slice B1 n c1, vi c.at_, .int .u64 c.seed], 3⟩]) w' [⟨B, 115, [.slice B1 n c1, vi m.at_, .int .u64 m.seed], 3⟩, ⟨B2, 120, (r_.Gates.flatMap eN0), c2 * 3⟩] []) := by
 subst hn
 unfold F_spec_l1Cur_circuit at hF
 refine cv_of_cw 9 Tryz.func223 rfl Tryz.ntmps223 rfl ?_
 refine cq (cr ?_)
 refine sS 2 (yN [vi 0, .slice none 0 0] 2 hS K45) ?_
 rintro _ w_ ⟨b, rfl, hS1⟩
 refine rn (cq (cr ?_))
 refine sQ 3 (ym (pt B 0)) <| sQ 4 (ym (pt B 0)) ?_
 refine sS 5 (Ys_bslice (s := 1) (len := 4) (vs := [(0, vi 1), (1, vi 2), (2, vi 2), (3, vi 3)]) (cs := [vi 1, vi 2, vi 2, vi 3]) (zs := [vi 0, vi 0, vi 0, vi 0]) (m := 4) hS1 K2 K0 K46 rfl (mpc rfl (mpc rfl (mpc rfl (mpc rfl mpn)))) rfl rfl rfl (by kernel_rfl) (by kernel_rfl) rfl) ?_
 rintro _ w_1 ⟨b1, rfl, hS2⟩
 obtain ⟨⟨r_1, m1⟩, hc, hF⟩ := bI hF
 refine sc 6 rfl rfl (yC [pt B 0, .slice (aD b1) 4 4] k_call_224 (c_spec_l1Cur_among c [1, 2, 2, 3] B B1 c1 c.code.length (aD b1) 4 4 _ rfl rfl (hS2.inn [true, false, false] rfl [(true, 0), (false, 1)] rfl) hc)) ?_
 rintro _ w_2 ⟨rfl, hd⟩
 have hS3 := hS2.out [true, false, false] rfl hd
 refine sS 7 (Ys_bslice (s := 1) (len := 15) (vs := [(0, vi 1), (1, vi 2), (2, vi 3), (3, vi 4), (4, vi 5), (5, vi 6), (6, vi 7), (7, vi 8), (8, vi 9), (9, vi 9), (10, vi 10), (11, vi 11), (12, vi 12), (13, vi 7), (14, vi 1)]) (cs := [vi 1, vi 2, vi 3, vi 4, vi 5, vi 6, vi 7, vi 8, vi 9, vi 9, vi 10, vi 11, vi 12, vi 7, vi 1]) (zs := [vi 0, vi 0, vi 0, vi 0, vi 0, vi 0, vi 0, vi 0, vi 0, vi 0, vi 0, vi 0, vi 0, vi 0, vi 0]) (m := 15) hS3 K2 K0 K46 rfl (mpc rfl (mpc rfl (mpc rfl (mpc rfl (mpc rfl (mpc rfl (mpc rfl (mpc rfl (mpc rfl (mpc rfl (mpc rfl (mpc rfl (mpc rfl (mpc rfl (mpc rfl mpn))))))))))))))) rfl rfl rfl (by kernel_rfl) (by kernel_rfl) rfl) ?_
 rintro _ w_3 ⟨b2, rfl, hS4⟩
 obtain ⟨⟨r_2, m2⟩, hc1, hF⟩ := bI hF
 refine sc 8 rfl rfl (yC [pt B 0, vi r_1, vi 8, .slice (aD b2) 15 15] k_call_165 (c_spec_l1Cur_built (Tl1Cur.mk c.code m1.at_ m1.seed) r_1 8 [1, 2, 3, 4, 5, 6, 7, 8, 9, 9, 10, 11, 12, 7, 1] B B1 c1 c.code.length (aD b2) 15 15 _ rfl rfl (hS4.inn [false, false, true, false] rfl [(true, 0), (false, 2)] rfl) hc1)) ?_
 rintro _ w_4 ⟨B3, c3, rfl, hd1⟩
 have hS5 := hS4.out [false, false, true, false] rfl hd1
 refine s0 (yT 0 2 (aD b) 28 (.agg #[vi r_2.Qubits, .slice B3 r_2.Gates.length c3]) [vi r_2.Qubits, .slice B3 r_2.Gates.length c3] 0 hS5 K11) ?_
 rintro _ w_5 ⟨rfl, hS6⟩
 refine rn (ct_ ?_)
 obtain ⟨rfl, rfl⟩ := pr2 (sI hF)
 exact ret1 Tryz.results223 (v1 := .agg #[vi r_2.Qubits, .slice B3 r_2.Gates.length c3]) (resAt_cellA (B := aD b) (i := 0) (cs := [vi r_2.Qubits, .slice B3 r_2.Gates.length c3]) (vs := [vi r_2.Qubits, .slice B3 r_2.Gates.length c3]) rfl K22 K11 (hS6.c 0) rfl rfl) ⟨B3, c3, rfl, (hS6.sN [3, 4])⟩

theorem c_spec_l1Cur_anyCircuit (c : Tl1Cur) (B : Option Addr) (B1 : Option Addr) (c1 n : Nat) (w0 : World) (hn : c.code.length = n) (hS : ST w0 (bl [⟨B, 115, [.slice B1 n c1, vi c.at_, .int .u64 c.seed], 3⟩]) w0 [⟨B, 115, [.slice B1 n c1, vi c.at_, .int .u64 c.seed], 3⟩] [⟨B1, (c.code.flatMap enc_u8)⟩]) {r_ : TCircuit} {m : Tl1Cur} (hF : F_spec_l1Cur_anyCircuit c = some (r_, m)) :
  CV Tryz.prog 132 #[pt B 0] w0 (fun v w' => ∃ (B2 : Option Addr) (c2 : Nat), v = .agg #[vi r_.Qubits, .slice B2 r_.Gates.length c2] ∧ ST w0 (bl [⟨B, 115, [.slice B1 n c1, vi c.at_, .int .u64 c.seed], 3⟩]) w' [⟨B, 115, [.slice B1 n c1, vi m.at_, .int .u64 m.seed], 3⟩, ⟨B2, 120, (r_.Gates.flatMap eN0), c2 * 3⟩] []) := by
 subst hn
 unfold F_spec_l1Cur_anyCircuit at hF
 refine cv_of_cw 31 Tryz.func132 rfl Tryz.ntmps132 rfl ?_
 refine cq (cr ?_)
 refine sS 2 (yN [vi 0, .slice none 0 0] 2 hS K45) ?_
 rintro _ w_ ⟨b, rfl, hS1⟩
 refine rn (cq (cr ?_))
 refine sQ 4 (ym (pt B 0)) ?_
 obtain ⟨⟨r_1, m1⟩, hc, hF⟩ := bI hF
 refine sc 5 rfl rfl (yC [pt B 0] k_call_223 (c_spec_l1Cur_circuit c B B1 c1 c.code.length _ rfl (hS1.inn [true, false] rfl [(true, 0)] rfl) hc)) ?_
 rintro _ w_1 ⟨B3, c3, rfl, hd⟩
 have hS2 := hS1.out [true, false] rfl hd
 refine sS 3 (yN [vi 0, .slice none 0 0] 2 hS2 K45) ?_
 rintro _ w_2 ⟨b1, rfl, hS3⟩
 refine s0 (yT 3 2 (aD b1) 28 (.agg #[vi r_1.Qubits, .slice B3 r_1.Gates.length c3]) [vi r_1.Qubits, .slice B3 r_1.Gates.length c3] 0 hS3 K11) ?_
 rintro _ w_3 ⟨rfl, hS4⟩
 refine rn (cq ?_)
 obtain ⟨z, hz, hF1⟩ := bI hF
 refine cw_mid (fun f w => ∃ (at_ : Int) (seed : Int) (Qubits : Int) (Gates : List TGate) (B4 : Option Addr) (c4 : Nat), (at_, seed, Qubits, Gates) = z ∧ FF f [(2, pt (aD b) 0), (3, pt (aD b1) 0)] ∧ ST w0 (bl [⟨B, 115, [.slice B1 c.code.length c1, vi c.at_, .int .u64 c.seed], 3⟩]) w [⟨B, 115, [.slice B1 c.code.length c1, vi at_, .int .u64 seed], 3⟩, ⟨aD b, 28, [vi 0, .slice none 0 0], 2⟩, ⟨aD b1, 28, [vi Qubits, .slice B4 Gates.length c4], 2⟩, ⟨B4, 120, (Gates.flatMap eN0), c4 * 3⟩] [⟨B1, (c.code.flatMap enc_u8)⟩]) ?_ ?_
 ·skip
  refine cq (cr ?_)
  refine sQ 6 (ym (pt B 0)) ?_
  obtain ⟨⟨r_2, m2⟩, hc1, hz⟩ := bI hz
  refine sc 7 rfl rfl (yC [pt B 0, vi 14] K38 (c_spec_l1Cur_pick (Tl1Cur.mk c.code m1.at_ m1.seed) 14 B B1 c1 c.code.length _ rfl (hS4.inn [false, true, false, false] rfl [(true, 0)] rfl) hc1)) ?_
  rintro _ w_4 ⟨rfl, hd1⟩
  have hS6 := hS4.out [false, true, false, false] rfl hd1
  refine rn (cw_block (cq (cr ?_)))
  refine sQ 9 (yE r_2 0) <| sQ 8 (yg (.bool (r_2 == 0))) (rn ?_)
  refine cw_cond (b := (r_2 == 0)) rfl (fun hb => ?_) (fun hb => ?_)
  ·skip
   have hF2 := ct hz hb
   refine cr ?_
   refine sQ 10 (ym (pt B 0)) ?_
   refine sS 11 (Ys_bslice (s := 1) (len := 4) (vs := [(0, vi 0), (1, vi 1), (2, vi 5), (3, vi 6)]) (cs := [vi 0, vi 1, vi 5, vi 6]) (zs := [vi 0, vi 0, vi 0, vi 0]) (m := 4) hS6 K2 K0 K46 rfl (mpc rfl (mpc rfl (mpc rfl (mpc rfl mpn)))) rfl rfl rfl (by kernel_rfl) (by kernel_rfl) rfl) ?_
   rintro _ w_5 ⟨b2, rfl, hS7⟩
   obtain ⟨⟨r_3, m3⟩, hc2, hF2⟩ := bI hF2
   refine sc 12 rfl rfl (yC [pt B 0, .slice (aD b2) 4 4] k_call_224 (c_spec_l1Cur_among (Tl1Cur.mk c.code m2.at_ m2.seed) [0, 1, 5, 6] B B1 c1 c.code.length (aD b2) 4 4 _ rfl rfl (hS7.inn [false, false, false, true, false] rfl [(true, 0), (false, 3)] rfl) hc2)) ?_
   rintro _ w_6 ⟨rfl, hd2⟩
   have hS8 := hS7.out [false, false, false, true, false] rfl hd2
   refine sQ 13 (yd (aD b1) 0 0 K31 K0) ?_
   refine s0 (yS 2 1 (aD b1) 28 (vi r_3) [vi r_3] 0 [vi r_3, .slice B3 r_1.Gates.length c3] hS8 K0) ?_
   rintro _ w_7 ⟨rfl, hS9⟩
   refine rn ?_
   exact ⟨m3.at_, m3.seed, r_3, r_1.Gates, B3, c3, (sI hF2), (fc rfl (fc rfl fn_)), (hS9.sel [4, 0, 2, 1] rfl rfl)⟩
  ·skip
   have hF3 := cf' hz hb
   refine cq (cr ?_)
   refine sQ 15 (yE r_2 1) <| sQ 14 (yg (.bool (r_2 == 1))) (rn ?_)
   refine cw_cond (b := (r_2 == 1)) rfl (fun hb1 => ?_) (fun hb1 => ?_)
   ·skip
    have hF4 := ct hF3 hb1
    obtain ⟨⟨r_4, m4⟩, hc3, hF4⟩ := bI hF4
    obtain ⟨⟨r_5, m5⟩, hc4, hF4⟩ := bI hF4
    obtain ⟨⟨r_6, m6⟩, hc5, hF4⟩ := bI hF4
    obtain ⟨hap, hF4⟩ := chk_inv hF4
    refine cw_mid (fun f w => ∃ (B6 : Option Addr) (c6 : Nat), FF f [(2, pt (aD b) 0), (3, pt (aD b1) 0)] ∧ ST w0 (bl [⟨B, 115, [.slice B1 c.code.length c1, vi c.at_, .int .u64 c.seed], 3⟩]) w [⟨B, 115, [.slice B1 c.code.length c1, vi m6.at_, .int .u64 m6.seed], 3⟩, ⟨aD b, 28, [vi 0, .slice none 0 0], 2⟩, ⟨aD b1, 28, [vi r_1.Qubits, .slice B6 ((r_1.Gates ++ [(TGate.mk r_4 (i64.wrap (r_5 - 1)) (i64.wrap (r_6 - 1)))]).length) c6], 2⟩, ⟨B6, 120, ((r_1.Gates ++ [(TGate.mk r_4 (i64.wrap (r_5 - 1)) (i64.wrap (r_6 - 1)))]).flatMap eN0), c6 * 3⟩] [⟨B1, (c.code.flatMap enc_u8)⟩]) ?_ ?_
    ·skip
     refine ra_start (hS6.se [0]).fn (by kernel_rfl) ?_
     have hS14 := hS6.drew
     refine rq 0 16 (v := pt (aD b1) 1) rfl (hS14.se [0]) (fun w' hw' => (yd (aD b1) 0 0 K36 K21)) ?_
     refine rq 2 18 (v := pt B 0) rfl (hS14.se [0]) (fun w' hw' => (ym (pt B 0))) ?_
     refine rq 4 20 (v := pt B 0) rfl (hS14.se [0]) (fun w' hw' => (ym (pt B 0))) ?_
     refine rq 7 23 (v := pt B 0) rfl (hS14.se [0]) (fun w' hw' => (ym (pt B 0))) ?_
     refine rA [1, 3] ?_
     refine ra_y 17 (i := 1) (v := .slice B3 r_1.Gates.length c3) rfl rfl rfl (yl (aD b1) 1 [vi r_1.Qubits, .slice B3 r_1.Gates.length c3] (.slice B3 r_1.Gates.length c3) K37 (hS14.c 2)) (hS14.se [0]) ?_ ?_
     ·skip
      refine rA [3] ?_
      refine rC 19 3 rfl (yC [pt B 0, vi 14] K38 (c_spec_l1Cur_pick (Tl1Cur.mk c.code m2.at_ m2.seed) 14 B B1 c1 c.code.length _ rfl (hS14.inn [false, false, false, true] rfl [(true, 0)] rfl) hc3)) ?_ ?_
      ·rintro _ w_8 ⟨rfl, hd3⟩
       have hS15 := hS14.out [false, false, false, true] rfl hd3
       refine ⟨(hS15.se [0]), ?_⟩
       refine rA [5] ?_
       refine rC 21 5 rfl (yC [pt B 0, vi 4] K38 (c_spec_l1Cur_pick (Tl1Cur.mk c.code m4.at_ m4.seed) 4 B B1 c1 c.code.length _ rfl (hS15.inn [false, false, false, true] rfl [(true, 0)] rfl) hc4)) ?_ ?_
       ·rintro _ w_9 ⟨rfl, hd4⟩
        have hS16 := hS15.out [false, false, false, true] rfl hd4
        refine ⟨(hS16.se [0]), ?_⟩
        refine rq 6 22 (v := vi (i64.wrap (r_5 - 1))) rfl (hS16.se [0]) (fun w' hw' => (yM r_5 1)) ?_
        refine rA [8] ?_
        refine rC 24 8 rfl (yC [pt B 0, vi 4] K38 (c_spec_l1Cur_pick (Tl1Cur.mk c.code m5.at_ m5.seed) 4 B B1 c1 c.code.length _ rfl (hS16.inn [false, false, false, true] rfl [(true, 0)] rfl) hc5)) ?_ ?_
        ·rintro _ w_10 ⟨rfl, hd5⟩
         have hS17 := hS16.out [false, false, false, true] rfl hd5
         refine ⟨(hS17.se [0]), ?_⟩
         refine rq 9 25 (v := vi (i64.wrap (r_6 - 1))) rfl (hS17.se [0]) (fun w' hw' => (yM r_6 1)) ?_
         refine rq 10 26 (v := .agg #[vi r_4, vi (i64.wrap (r_5 - 1)), vi (i64.wrap (r_6 - 1))]) rfl (hS17.se [0]) (fun w' hw' => (Y_buildS (zs := [vi 0, vi 0, vi 0]) (vs := [(0, vi r_4), (1, vi (i64.wrap (r_5 - 1))), (2, vi (i64.wrap (r_6 - 1)))]) (cs := [vi r_4, vi (i64.wrap (r_5 - 1)), vi (i64.wrap (r_6 - 1))]) K41 K9 rfl (mpc rfl (mpc rfl (mpc rfl mpn))) rfl)) ?_
         refine rA [11] ?_
         refine rS 27 11 rfl (Ys_bslice (s := 3) (len := 1) (vs := [(0, .agg #[vi r_4, vi (i64.wrap (r_5 - 1)), vi (i64.wrap (r_6 - 1))])]) (cs := [vi r_4, vi (i64.wrap (r_5 - 1)), vi (i64.wrap (r_6 - 1))]) (zs := [vi 0, vi 0, vi 0]) (m := 3) hS17 K5 K3 K35 rfl (mpc rfl mpn) rfl rfl rfl (by kernel_rfl) (by kernel_rfl) rfl) ?_ ?_
         ·rintro _ w_11 ⟨b3, rfl, hS18⟩
          refine ⟨(hS18.se [0]), ?_⟩
          refine rA [12] ?_
          refine rS 28 12 rfl (Ys_append (s := 3) (by' := 24) (i := 1) (nn := r_1.Gates.length) (c := c3) (k := 1) (len := (r_1.Gates ++ [(TGate.mk r_4 (i64.wrap (r_5 - 1)) (i64.wrap (r_6 - 1)))]).length) (B := B3) (xs := ([(TGate.mk r_4 (i64.wrap (r_5 - 1)) (i64.wrap (r_6 - 1)))].flatMap eN0)) (cs' := ((r_1.Gates ++ [(TGate.mk r_4 (i64.wrap (r_5 - 1)) (i64.wrap (r_6 - 1)))]).flatMap eN0)) hS18 K5 K3 K27 K9 rfl (by decide) rfl rfl rfl rfl (fm_lenn (l := r_1.Gates) eN1 rfl) rfl (hS18.c 4) (fm_lenn (l := [(TGate.mk r_4 (i64.wrap (r_5 - 1)) (i64.wrap (r_6 - 1)))]) eN1 rfl) (fm_one' (enc := eN0) enc_Gate_one [(TGate.mk r_4 (i64.wrap (r_5 - 1)) (i64.wrap (r_6 - 1)))]) (by have := hap; omega) (by have := hap; simp only [maxLen]; omega) (fm_app _ _) (app_len (l := r_1.Gates) (l' := [(TGate.mk r_4 (i64.wrap (r_5 - 1)) (i64.wrap (r_6 - 1)))]) rfl rfl)) ?_ ?_
          ·rintro _ w_12 ⟨B5, c5, rfl, hS19⟩
           refine ⟨(hS19.se [0]), ?_⟩
           refine rq 13 29 (v := pt (aD b1) 1) rfl (hS19.se [0]) (fun w' hw' => (yd (aD b1) 0 0 K36 K21)) ?_
           refine rA [14] ?_
           refine rZ 14 rfl (yS 2 1 (aD b1) 28 (.slice B5 ((r_1.Gates ++ [(TGate.mk r_4 (i64.wrap (r_5 - 1)) (i64.wrap (r_6 - 1)))]).length) c5) [.slice B5 ((r_1.Gates ++ [(TGate.mk r_4 (i64.wrap (r_5 - 1)) (i64.wrap (r_6 - 1)))]).length) c5] 1 [vi r_1.Qubits, .slice B5 ((r_1.Gates ++ [(TGate.mk r_4 (i64.wrap (r_5 - 1)) (i64.wrap (r_6 - 1)))]).length) c5] hS19 K21) ?_ ?_
           ·rintro _ w_13 ⟨rfl, hS20⟩
            refine ⟨(hS20.se [0]), ?_⟩
            refine ra_done (by kernel_rfl) ?_
            exact ⟨B5, c5, (fc rfl (fc rfl fn_)), (hS20.sel [3, 0, 2, 1] rfl rfl)⟩
           exact aN
          exact aN
         exact aN
        exact aN
       exact aN
      exact aN
     refine rC 19 3 rfl (yC [pt B 0, vi 14] K38 (c_spec_l1Cur_pick (Tl1Cur.mk c.code m2.at_ m2.seed) 14 B B1 c1 c.code.length _ rfl (hS14.inn [false, false, false, true] rfl [(true, 0)] rfl) hc3)) ?_ ?_
     ·rintro _ w_14 ⟨rfl, hd6⟩
      have hS21 := hS14.out [false, false, false, true] rfl hd6
      refine ⟨(hS21.se [0]), ?_⟩
      refine rA [1, 5] ?_
      refine ra_y 17 (i := 1) (v := .slice B3 r_1.Gates.length c3) rfl rfl rfl (yl (aD b1) 1 [vi r_1.Qubits, .slice B3 r_1.Gates.length c3] (.slice B3 r_1.Gates.length c3) K37 (hS21.c 2)) (hS21.se [0]) ?_ ?_
      ·skip
       refine rA [5] ?_
       refine rC 21 5 rfl (yC [pt B 0, vi 4] K38 (c_spec_l1Cur_pick (Tl1Cur.mk c.code m4.at_ m4.seed) 4 B B1 c1 c.code.length _ rfl (hS21.inn [false, false, false, true] rfl [(true, 0)] rfl) hc4)) ?_ ?_
       ·rintro _ w_15 ⟨rfl, hd7⟩
        have hS22 := hS21.out [false, false, false, true] rfl hd7
        refine ⟨(hS22.se [0]), ?_⟩
        refine rq 6 22 (v := vi (i64.wrap (r_5 - 1))) rfl (hS22.se [0]) (fun w' hw' => (yM r_5 1)) ?_
        refine rA [8] ?_
        refine rC 24 8 rfl (yC [pt B 0, vi 4] K38 (c_spec_l1Cur_pick (Tl1Cur.mk c.code m5.at_ m5.seed) 4 B B1 c1 c.code.length _ rfl (hS22.inn [false, false, false, true] rfl [(true, 0)] rfl) hc5)) ?_ ?_
        ·rintro _ w_16 ⟨rfl, hd8⟩
         have hS23 := hS22.out [false, false, false, true] rfl hd8
         refine ⟨(hS23.se [0]), ?_⟩
         refine rq 9 25 (v := vi (i64.wrap (r_6 - 1))) rfl (hS23.se [0]) (fun w' hw' => (yM r_6 1)) ?_
         refine rq 10 26 (v := .agg #[vi r_4, vi (i64.wrap (r_5 - 1)), vi (i64.wrap (r_6 - 1))]) rfl (hS23.se [0]) (fun w' hw' => (Y_buildS (zs := [vi 0, vi 0, vi 0]) (vs := [(0, vi r_4), (1, vi (i64.wrap (r_5 - 1))), (2, vi (i64.wrap (r_6 - 1)))]) (cs := [vi r_4, vi (i64.wrap (r_5 - 1)), vi (i64.wrap (r_6 - 1))]) K41 K9 rfl (mpc rfl (mpc rfl (mpc rfl mpn))) rfl)) ?_
         refine rA [11] ?_
         refine rS 27 11 rfl (Ys_bslice (s := 3) (len := 1) (vs := [(0, .agg #[vi r_4, vi (i64.wrap (r_5 - 1)), vi (i64.wrap (r_6 - 1))])]) (cs := [vi r_4, vi (i64.wrap (r_5 - 1)), vi (i64.wrap (r_6 - 1))]) (zs := [vi 0, vi 0, vi 0]) (m := 3) hS23 K5 K3 K35 rfl (mpc rfl mpn) rfl rfl rfl (by kernel_rfl) (by kernel_rfl) rfl) ?_ ?_
         ·rintro _ w_17 ⟨b3, rfl, hS24⟩
          refine ⟨(hS24.se [0]), ?_⟩
          refine rA [12] ?_
          refine rS 28 12 rfl (Ys_append (s := 3) (by' := 24) (i := 1) (nn := r_1.Gates.length) (c := c3) (k := 1) (len := (r_1.Gates ++ [(TGate.mk r_4 (i64.wrap (r_5 - 1)) (i64.wrap (r_6 - 1)))]).length) (B := B3) (xs := ([(TGate.mk r_4 (i64.wrap (r_5 - 1)) (i64.wrap (r_6 - 1)))].flatMap eN0)) (cs' := ((r_1.Gates ++ [(TGate.mk r_4 (i64.wrap (r_5 - 1)) (i64.wrap (r_6 - 1)))]).flatMap eN0)) hS24 K5 K3 K27 K9 rfl (by decide) rfl rfl rfl rfl (fm_lenn (l := r_1.Gates) eN1 rfl) rfl (hS24.c 4) (fm_lenn (l := [(TGate.mk r_4 (i64.wrap (r_5 - 1)) (i64.wrap (r_6 - 1)))]) eN1 rfl) (fm_one' (enc := eN0) enc_Gate_one [(TGate.mk r_4 (i64.wrap (r_5 - 1)) (i64.wrap (r_6 - 1)))]) (by have := hap; omega) (by have := hap; simp only [maxLen]; omega) (fm_app _ _) (app_len (l := r_1.Gates) (l' := [(TGate.mk r_4 (i64.wrap (r_5 - 1)) (i64.wrap (r_6 - 1)))]) rfl rfl)) ?_ ?_
          ·rintro _ w_18 ⟨B5, c5, rfl, hS25⟩
           refine ⟨(hS25.se [0]), ?_⟩
           refine rq 13 29 (v := pt (aD b1) 1) rfl (hS25.se [0]) (fun w' hw' => (yd (aD b1) 0 0 K36 K21)) ?_
           refine rA [14] ?_
           refine rZ 14 rfl (yS 2 1 (aD b1) 28 (.slice B5 ((r_1.Gates ++ [(TGate.mk r_4 (i64.wrap (r_5 - 1)) (i64.wrap (r_6 - 1)))]).length) c5) [.slice B5 ((r_1.Gates ++ [(TGate.mk r_4 (i64.wrap (r_5 - 1)) (i64.wrap (r_6 - 1)))]).length) c5] 1 [vi r_1.Qubits, .slice B5 ((r_1.Gates ++ [(TGate.mk r_4 (i64.wrap (r_5 - 1)) (i64.wrap (r_6 - 1)))]).length) c5] hS25 K21) ?_ ?_
           ·rintro _ w_19 ⟨rfl, hS26⟩
            refine ⟨(hS26.se [0]), ?_⟩
            refine ra_done (by kernel_rfl) ?_
            exact ⟨B5, c5, (fc rfl (fc rfl fn_)), (hS26.sel [3, 0, 2, 1] rfl rfl)⟩
           exact aN
          exact aN
         exact aN
        exact aN
       exact aN
      refine rC 21 5 rfl (yC [pt B 0, vi 4] K38 (c_spec_l1Cur_pick (Tl1Cur.mk c.code m4.at_ m4.seed) 4 B B1 c1 c.code.length _ rfl (hS21.inn [false, false, false, true] rfl [(true, 0)] rfl) hc4)) ?_ ?_
      ·rintro _ w_20 ⟨rfl, hd9⟩
       have hS27 := hS21.out [false, false, false, true] rfl hd9
       refine ⟨(hS27.se [0]), ?_⟩
       refine rq 6 22 (v := vi (i64.wrap (r_5 - 1))) rfl (hS27.se [0]) (fun w' hw' => (yM r_5 1)) ?_
       refine rA [1, 8] ?_
       refine ra_y 17 (i := 1) (v := .slice B3 r_1.Gates.length c3) rfl rfl rfl (yl (aD b1) 1 [vi r_1.Qubits, .slice B3 r_1.Gates.length c3] (.slice B3 r_1.Gates.length c3) K37 (hS27.c 2)) (hS27.se [0]) ?_ ?_
       ·skip
        refine rA [8] ?_
        refine rC 24 8 rfl (yC [pt B 0, vi 4] K38 (c_spec_l1Cur_pick (Tl1Cur.mk c.code m5.at_ m5.seed) 4 B B1 c1 c.code.length _ rfl (hS27.inn [false, false, false, true] rfl [(true, 0)] rfl) hc5)) ?_ ?_
        ·rintro _ w_21 ⟨rfl, hd10⟩
         have hS28 := hS27.out [false, false, false, true] rfl hd10
         refine ⟨(hS28.se [0]), ?_⟩
         refine rq 9 25 (v := vi (i64.wrap (r_6 - 1))) rfl (hS28.se [0]) (fun w' hw' => (yM r_6 1)) ?_
         refine rq 10 26 (v := .agg #[vi r_4, vi (i64.wrap (r_5 - 1)), vi (i64.wrap (r_6 - 1))]) rfl (hS28.se [0]) (fun w' hw' => (Y_buildS (zs := [vi 0, vi 0, vi 0]) (vs := [(0, vi r_4), (1, vi (i64.wrap (r_5 - 1))), (2, vi (i64.wrap (r_6 - 1)))]) (cs := [vi r_4, vi (i64.wrap (r_5 - 1)), vi (i64.wrap (r_6 - 1))]) K41 K9 rfl (mpc rfl (mpc rfl (mpc rfl mpn))) rfl)) ?_
         refine rA [11] ?_
         refine rS 27 11 rfl (Ys_bslice (s := 3) (len := 1) (vs := [(0, .agg #[vi r_4, vi (i64.wrap (r_5 - 1)), vi (i64.wrap (r_6 - 1))])]) (cs := [vi r_4, vi (i64.wrap (r_5 - 1)), vi (i64.wrap (r_6 - 1))]) (zs := [vi 0, vi 0, vi 0]) (m := 3) hS28 K5 K3 K35 rfl (mpc rfl mpn) rfl rfl rfl (by kernel_rfl) (by kernel_rfl) rfl) ?_ ?_
         ·rintro _ w_22 ⟨b3, rfl, hS29⟩
          refine ⟨(hS29.se [0]), ?_⟩
          refine rA [12] ?_
          refine rS 28 12 rfl (Ys_append (s := 3) (by' := 24) (i := 1) (nn := r_1.Gates.length) (c := c3) (k := 1) (len := (r_1.Gates ++ [(TGate.mk r_4 (i64.wrap (r_5 - 1)) (i64.wrap (r_6 - 1)))]).length) (B := B3) (xs := ([(TGate.mk r_4 (i64.wrap (r_5 - 1)) (i64.wrap (r_6 - 1)))].flatMap eN0)) (cs' := ((r_1.Gates ++ [(TGate.mk r_4 (i64.wrap (r_5 - 1)) (i64.wrap (r_6 - 1)))]).flatMap eN0)) hS29 K5 K3 K27 K9 rfl (by decide) rfl rfl rfl rfl (fm_lenn (l := r_1.Gates) eN1 rfl) rfl (hS29.c 4) (fm_lenn (l := [(TGate.mk r_4 (i64.wrap (r_5 - 1)) (i64.wrap (r_6 - 1)))]) eN1 rfl) (fm_one' (enc := eN0) enc_Gate_one [(TGate.mk r_4 (i64.wrap (r_5 - 1)) (i64.wrap (r_6 - 1)))]) (by have := hap; omega) (by have := hap; simp only [maxLen]; omega) (fm_app _ _) (app_len (l := r_1.Gates) (l' := [(TGate.mk r_4 (i64.wrap (r_5 - 1)) (i64.wrap (r_6 - 1)))]) rfl rfl)) ?_ ?_
          ·rintro _ w_23 ⟨B5, c5, rfl, hS30⟩
           refine ⟨(hS30.se [0]), ?_⟩
           refine rq 13 29 (v := pt (aD b1) 1) rfl (hS30.se [0]) (fun w' hw' => (yd (aD b1) 0 0 K36 K21)) ?_
           refine rA [14] ?_
           refine rZ 14 rfl (yS 2 1 (aD b1) 28 (.slice B5 ((r_1.Gates ++ [(TGate.mk r_4 (i64.wrap (r_5 - 1)) (i64.wrap (r_6 - 1)))]).length) c5) [.slice B5 ((r_1.Gates ++ [(TGate.mk r_4 (i64.wrap (r_5 - 1)) (i64.wrap (r_6 - 1)))]).length) c5] 1 [vi r_1.Qubits, .slice B5 ((r_1.Gates ++ [(TGate.mk r_4 (i64.wrap (r_5 - 1)) (i64.wrap (r_6 - 1)))]).length) c5] hS30 K21) ?_ ?_
           ·rintro _ w_24 ⟨rfl, hS31⟩
            refine ⟨(hS31.se [0]), ?_⟩
            refine ra_done (by kernel_rfl) ?_
            exact ⟨B5, c5, (fc rfl (fc rfl fn_)), (hS31.sel [3, 0, 2, 1] rfl rfl)⟩
           exact aN
          exact aN
         exact aN
        exact aN
       refine rC 24 8 rfl (yC [pt B 0, vi 4] K38 (c_spec_l1Cur_pick (Tl1Cur.mk c.code m5.at_ m5.seed) 4 B B1 c1 c.code.length _ rfl (hS27.inn [false, false, false, true] rfl [(true, 0)] rfl) hc5)) ?_ ?_
       ·rintro _ w_25 ⟨rfl, hd11⟩
        have hS32 := hS27.out [false, false, false, true] rfl hd11
        refine ⟨(hS32.se [0]), ?_⟩
        refine rq 9 25 (v := vi (i64.wrap (r_6 - 1))) rfl (hS32.se [0]) (fun w' hw' => (yM r_6 1)) ?_
        refine rq 10 26 (v := .agg #[vi r_4, vi (i64.wrap (r_5 - 1)), vi (i64.wrap (r_6 - 1))]) rfl (hS32.se [0]) (fun w' hw' => (Y_buildS (zs := [vi 0, vi 0, vi 0]) (vs := [(0, vi r_4), (1, vi (i64.wrap (r_5 - 1))), (2, vi (i64.wrap (r_6 - 1)))]) (cs := [vi r_4, vi (i64.wrap (r_5 - 1)), vi (i64.wrap (r_6 - 1))]) K41 K9 rfl (mpc rfl (mpc rfl (mpc rfl mpn))) rfl)) ?_
        refine rA [1, 11] ?_
        refine ra_y 17 (i := 1) (v := .slice B3 r_1.Gates.length c3) rfl rfl rfl (yl (aD b1) 1 [vi r_1.Qubits, .slice B3 r_1.Gates.length c3] (.slice B3 r_1.Gates.length c3) K37 (hS32.c 2)) (hS32.se [0]) ?_ ?_
        ·skip
         refine rA [11] ?_
         refine rS 27 11 rfl (Ys_bslice (s := 3) (len := 1) (vs := [(0, .agg #[vi r_4, vi (i64.wrap (r_5 - 1)), vi (i64.wrap (r_6 - 1))])]) (cs := [vi r_4, vi (i64.wrap (r_5 - 1)), vi (i64.wrap (r_6 - 1))]) (zs := [vi 0, vi 0, vi 0]) (m := 3) hS32 K5 K3 K35 rfl (mpc rfl mpn) rfl rfl rfl (by kernel_rfl) (by kernel_rfl) rfl) ?_ ?_
         ·rintro _ w_26 ⟨b3, rfl, hS33⟩
          refine ⟨(hS33.se [0]), ?_⟩
          refine rA [12] ?_
          refine rS 28 12 rfl (Ys_append (s := 3) (by' := 24) (i := 1) (nn := r_1.Gates.length) (c := c3) (k := 1) (len := (r_1.Gates ++ [(TGate.mk r_4 (i64.wrap (r_5 - 1)) (i64.wrap (r_6 - 1)))]).length) (B := B3) (xs := ([(TGate.mk r_4 (i64.wrap (r_5 - 1)) (i64.wrap (r_6 - 1)))].flatMap eN0)) (cs' := ((r_1.Gates ++ [(TGate.mk r_4 (i64.wrap (r_5 - 1)) (i64.wrap (r_6 - 1)))]).flatMap eN0)) hS33 K5 K3 K27 K9 rfl (by decide) rfl rfl rfl rfl (fm_lenn (l := r_1.Gates) eN1 rfl) rfl (hS33.c 4) (fm_lenn (l := [(TGate.mk r_4 (i64.wrap (r_5 - 1)) (i64.wrap (r_6 - 1)))]) eN1 rfl) (fm_one' (enc := eN0) enc_Gate_one [(TGate.mk r_4 (i64.wrap (r_5 - 1)) (i64.wrap (r_6 - 1)))]) (by have := hap; omega) (by have := hap; simp only [maxLen]; omega) (fm_app _ _) (app_len (l := r_1.Gates) (l' := [(TGate.mk r_4 (i64.wrap (r_5 - 1)) (i64.wrap (r_6 - 1)))]) rfl rfl)) ?_ ?_
          ·rintro _ w_27 ⟨B5, c5, rfl, hS34⟩
           refine ⟨(hS34.se [0]), ?_⟩
           refine rq 13 29 (v := pt (aD b1) 1) rfl (hS34.se [0]) (fun w' hw' => (yd (aD b1) 0 0 K36 K21)) ?_
           refine rA [14] ?_
           refine rZ 14 rfl (yS 2 1 (aD b1) 28 (.slice B5 ((r_1.Gates ++ [(TGate.mk r_4 (i64.wrap (r_5 - 1)) (i64.wrap (r_6 - 1)))]).length) c5) [.slice B5 ((r_1.Gates ++ [(TGate.mk r_4 (i64.wrap (r_5 - 1)) (i64.wrap (r_6 - 1)))]).length) c5] 1 [vi r_1.Qubits, .slice B5 ((r_1.Gates ++ [(TGate.mk r_4 (i64.wrap (r_5 - 1)) (i64.wrap (r_6 - 1)))]).length) c5] hS34 K21) ?_ ?_
           ·rintro _ w_28 ⟨rfl, hS35⟩
            refine ⟨(hS35.se [0]), ?_⟩
            refine ra_done (by kernel_rfl) ?_
            exact ⟨B5, c5, (fc rfl (fc rfl fn_)), (hS35.sel [3, 0, 2, 1] rfl rfl)⟩
           exact aN
          exact aN
         exact aN
        refine rS 27 11 rfl (Ys_bslice (s := 3) (len := 1) (vs := [(0, .agg #[vi r_4, vi (i64.wrap (r_5 - 1)), vi (i64.wrap (r_6 - 1))])]) (cs := [vi r_4, vi (i64.wrap (r_5 - 1)), vi (i64.wrap (r_6 - 1))]) (zs := [vi 0, vi 0, vi 0]) (m := 3) hS32 K5 K3 K35 rfl (mpc rfl mpn) rfl rfl rfl (by kernel_rfl) (by kernel_rfl) rfl) ?_ ?_
        ·rintro _ w_29 ⟨b3, rfl, hS36⟩
         have hS36 : ST w0 (bl [⟨B, 115, [.slice B1 c.code.length c1, vi c.at_, .int .u64 c.seed], 3⟩]) _ [⟨aD b, 28, [vi 0, .slice none 0 0], 2⟩, ⟨B3, 120, (r_1.Gates.flatMap eN0), c3 * 3⟩, ⟨aD b1, 28, [vi r_1.Qubits, .slice B3 r_1.Gates.length c3], 2⟩, ⟨B, 115, [.slice B1 c.code.length c1, vi m6.at_, .int .u64 m6.seed], 3⟩, ⟨aD b3, 120, ([(TGate.mk r_4 (i64.wrap (r_5 - 1)) (i64.wrap (r_6 - 1)))].flatMap eN0), 1 * 3⟩] [⟨B1, (c.code.flatMap enc_u8)⟩] := hS36
         refine ⟨(hS36.se [0]), ?_⟩
         refine rA [1] ?_
         refine ra_y 17 (i := 1) (v := .slice B3 r_1.Gates.length c3) rfl rfl rfl (yl (aD b1) 1 [vi r_1.Qubits, .slice B3 r_1.Gates.length c3] (.slice B3 r_1.Gates.length c3) K37 (hS36.c 2)) (hS36.se [0]) ?_ ?_
         ·skip
          refine rA [12] ?_
          refine rS 28 12 rfl (Ys_append (s := 3) (by' := 24) (i := 1) (nn := r_1.Gates.length) (c := c3) (k := 1) (len := (r_1.Gates ++ [(TGate.mk r_4 (i64.wrap (r_5 - 1)) (i64.wrap (r_6 - 1)))]).length) (B := B3) (xs := ([(TGate.mk r_4 (i64.wrap (r_5 - 1)) (i64.wrap (r_6 - 1)))].flatMap eN0)) (cs' := ((r_1.Gates ++ [(TGate.mk r_4 (i64.wrap (r_5 - 1)) (i64.wrap (r_6 - 1)))]).flatMap eN0)) hS36 K5 K3 K27 K9 rfl (by decide) rfl rfl rfl rfl (fm_lenn (l := r_1.Gates) eN1 rfl) rfl (hS36.c 4) (fm_lenn (l := [(TGate.mk r_4 (i64.wrap (r_5 - 1)) (i64.wrap (r_6 - 1)))]) eN1 rfl) (fm_one' (enc := eN0) enc_Gate_one [(TGate.mk r_4 (i64.wrap (r_5 - 1)) (i64.wrap (r_6 - 1)))]) (by have := hap; omega) (by have := hap; simp only [maxLen]; omega) (fm_app _ _) (app_len (l := r_1.Gates) (l' := [(TGate.mk r_4 (i64.wrap (r_5 - 1)) (i64.wrap (r_6 - 1)))]) rfl rfl)) ?_ ?_
          ·rintro _ w_30 ⟨B5, c5, rfl, hS37⟩
           refine ⟨(hS37.se [0]), ?_⟩
           refine rq 13 29 (v := pt (aD b1) 1) rfl (hS37.se [0]) (fun w' hw' => (yd (aD b1) 0 0 K36 K21)) ?_
           refine rA [14] ?_
           refine rZ 14 rfl (yS 2 1 (aD b1) 28 (.slice B5 ((r_1.Gates ++ [(TGate.mk r_4 (i64.wrap (r_5 - 1)) (i64.wrap (r_6 - 1)))]).length) c5) [.slice B5 ((r_1.Gates ++ [(TGate.mk r_4 (i64.wrap (r_5 - 1)) (i64.wrap (r_6 - 1)))]).length) c5] 1 [vi r_1.Qubits, .slice B5 ((r_1.Gates ++ [(TGate.mk r_4 (i64.wrap (r_5 - 1)) (i64.wrap (r_6 - 1)))]).length) c5] hS37 K21) ?_ ?_
           ·rintro _ w_31 ⟨rfl, hS38⟩
            refine ⟨(hS38.se [0]), ?_⟩
            refine ra_done (by kernel_rfl) ?_
            exact ⟨B5, c5, (fc rfl (fc rfl fn_)), (hS38.sel [3, 0, 2, 1] rfl rfl)⟩
           exact aN
          exact aN
         exact aN
        exact aN
       exact aN
      exact aN
     exact aN
    rintro f w ⟨B6, c6, hf1, hS13⟩
    exact ⟨m6.at_, m6.seed, r_1.Qubits, (r_1.Gates ++ [(TGate.mk r_4 (i64.wrap (r_5 - 1)) (i64.wrap (r_6 - 1)))]), B6, c6, (sI hF4), (fc (hf1.g 2 0) (fc (hf1.g 3 1) fn_)), (hS13.sel [0, 1, 2, 3] rfl rfl)⟩
   ·skip
    have hF5 := cf' hF3 hb1
    refine cw_skip ?_
    exact ⟨m2.at_, m2.seed, r_1.Qubits, r_1.Gates, B3, c3, (sI hF5), (fc rfl (fc rfl fn_)), (hS6.sel [3, 0, 2, 1] rfl rfl)⟩
 rintro f w ⟨at_, seed, Qubits, Gates, B4, c4, rfl, hf, hS5⟩
 refine cq (cr ?_)
 refine sQ 30 (yb (aD b1) 0 [vi Qubits, .slice B4 Gates.length c4] K22 K11 (hS5.c 2) rfl (hf.g 3 1)) ?_
 refine s0 (yT 1 2 (aD b) 28 (.agg #[vi Qubits, .slice B4 Gates.length c4]) [vi Qubits, .slice B4 Gates.length c4] 0 hS5 K11 rfl (hf.g 2 0)) ?_
 rintro _ w_32 ⟨rfl, hS39⟩
 refine rn (ct_ ?_)
 obtain ⟨rfl, rfl⟩ := pr2 (sI hF1)
 exact ret1 Tryz.results132 (v1 := .agg #[vi Qubits, .slice B4 Gates.length c4]) (resAt_cellA (B := aD b) (i := 0) (cs := [vi Qubits, .slice B4 Gates.length c4]) (vs := [vi Qubits, .slice B4 Gates.length c4]) (hf.g 2 0) K22 K11 (hS39.c 1) rfl rfl) ⟨B4, c4, rfl, (hS39.sN [0, 3])⟩

theorem c_spec_l1Cur_cxtz (c : Tl1Cur) (n1 : Int) (B : Option Addr) (B1 : Option Addr) (c1 n : Nat) (w0 : World) (hn : c.code.length = n) (hS : ST w0 (bl [⟨B, 115, [.slice B1 n c1, vi c.at_, .int .u64 c.seed], 3⟩]) w0 [⟨B, 115, [.slice B1 n c1, vi c.at_, .int .u64 c.seed], 3⟩] [⟨B1, (c.code.flatMap enc_u8)⟩]) {r_ : TCircuit} {m : Tl1Cur} (hF : F_spec_l1Cur_cxtz c n1 = some (r_, m)) :
  CV Tryz.prog 133 #[pt B 0, vi n1] w0 (fun v w' => ∃ (B2 : Option Addr) (c2 : Nat), v = .agg #[vi r_.Qubits, .slice B2 r_.Gates.length c2] ∧ ST w0 (bl [⟨B, 115, [.slice B1 n c1, vi c.at_, .int .u64 c.seed], 3⟩]) w' [⟨B, 115, [.slice B1 n c1, vi m.at_, .int .u64 m.seed], 3⟩, ⟨B2, 120, (r_.Gates.flatMap eN0), c2 * 3⟩] []) := by
 subst hn
 unfold F_spec_l1Cur_cxtz at hF
 refine cv_of_cw 9 Tryz.func133 rfl Tryz.ntmps133 rfl ?_
 refine cq (cr ?_)
 refine sS 4 (yN [vi 0, .slice none 0 0] 2 hS K45) ?_
 rintro _ w_ ⟨b, rfl, hS1⟩
 refine rn (cq (cr ?_))
 refine sQ 5 (ym (pt B 0)) <| sQ 6 (ym (vi n1)) ?_
 refine sS 7 (Ys_bslice (s := 1) (len := 12) (vs := [(0, vi 4), (1, vi 5), (2, vi 6), (3, vi 7), (4, vi 7), (5, vi 8), (6, vi 9), (7, vi 9), (8, vi 9), (9, vi 10), (10, vi 11), (11, vi 12)]) (cs := [vi 4, vi 5, vi 6, vi 7, vi 7, vi 8, vi 9, vi 9, vi 9, vi 10, vi 11, vi 12]) (zs := [vi 0, vi 0, vi 0, vi 0, vi 0, vi 0, vi 0, vi 0, vi 0, vi 0, vi 0, vi 0]) (m := 12) hS1 K2 K0 K46 rfl (mpc rfl (mpc rfl (mpc rfl (mpc rfl (mpc rfl (mpc rfl (mpc rfl (mpc rfl (mpc rfl (mpc rfl (mpc rfl (mpc rfl mpn)))))))))))) rfl rfl rfl (by kernel_rfl) (by kernel_rfl) rfl) ?_
 rintro _ w_1 ⟨b1, rfl, hS2⟩
 obtain ⟨⟨r_1, m1⟩, hc, hF⟩ := bI hF
 refine sc 8 rfl rfl (yC [pt B 0, vi n1, vi 10, .slice (aD b1) 12 12] k_call_165 (c_spec_l1Cur_built c n1 10 [4, 5, 6, 7, 7, 8, 9, 9, 9, 10, 11, 12] B B1 c1 c.code.length (aD b1) 12 12 _ rfl rfl (hS2.inn [true, false, false] rfl [(true, 0), (false, 1)] rfl) hc)) ?_
 rintro _ w_2 ⟨B3, c3, rfl, hd⟩
 have hS3 := hS2.out [true, false, false] rfl hd
 refine s0 (yT 0 2 (aD b) 28 (.agg #[vi r_1.Qubits, .slice B3 r_1.Gates.length c3]) [vi r_1.Qubits, .slice B3 r_1.Gates.length c3] 0 hS3 K11) ?_
 rintro _ w_3 ⟨rfl, hS4⟩
 refine rn (ct_ ?_)
 obtain ⟨rfl, rfl⟩ := pr2 (sI hF)
 exact ret1 Tryz.results133 (v1 := .agg #[vi r_1.Qubits, .slice B3 r_1.Gates.length c3]) (resAt_cellA (B := aD b) (i := 0) (cs := [vi r_1.Qubits, .slice B3 r_1.Gates.length c3]) (vs := [vi r_1.Qubits, .slice B3 r_1.Gates.length c3]) rfl K22 K11 (hS4.c 0) rfl rfl) ⟨B3, c3, rfl, (hS4.sN [2, 3])⟩

theorem c_spec_DrawPhasePolyOf (code : List Int) (B : Option Addr) (c n : Nat) (w0 : World) (hn : code.length = n) (hS : ST w0 [] w0 [] [⟨B, (code.flatMap enc_u8)⟩]) {r_ : TCircuit} (hF : F_spec_DrawPhasePolyOf code = some r_) :
  CV Tryz.prog 37 #[.slice B n c] w0 (fun v w' => ∃ (B1 : Option Addr) (c1 : Nat), v = .agg #[vi r_.Qubits, .slice B1 r_.Gates.length c1] ∧ ST w0 [] w' [⟨B1, 120, (r_.Gates.flatMap eN0), c1 * 3⟩] []) := by
 subst hn
 unfold F_spec_DrawPhasePolyOf at hF
 refine cv_of_cw 16 Tryz.func37 rfl Tryz.ntmps37 rfl ?_
 refine cq (cr ?_)
 refine sS 2 (yN [vi 0, .slice none 0 0] 2 hS K45) ?_
 rintro _ w_ ⟨b, rfl, hS1⟩
 refine rn (cq (cr ?_))
 refine sQ 4 (ym (.slice B code.length c)) <| sQ 5 (Y_buildS (zs := [.slice none 0 0, vi 0, .int .u64 0]) (vs := [(0, .slice B code.length c)]) (cs := [.slice B code.length c, vi 0, .int .u64 0]) k_pl_115 k_zero_115 rfl (mpc rfl mpn) rfl) ?_
 refine sS 6 (yB 115 (.agg #[.slice B code.length c, vi 0, .int .u64 0]) [.slice B code.length c, vi 0, .int .u64 0] 3 hS1) ?_
 rintro _ w_1 ⟨b1, rfl, hS2⟩
 refine sQ 3 (yg (pt (aD b1) 0)) (rn (cq (cq (cr ?_))))
 refine sQ 7 (ym (pt (aD b1) 0)) ?_
 obtain ⟨⟨r_1, m⟩, hc, hF⟩ := bI hF
 refine sc 8 rfl rfl (yC [pt (aD b1) 0, vi 8] k_call_118 (c_spec_l1Cur_one (Tl1Cur.mk code 0 0) 8 (aD b1) B c code.length _ rfl (hS2.inn [false, true] rfl [(true, 0)] rfl) hc)) ?_
 rintro _ w_2 ⟨rfl, hd⟩
 have hS3 := hS2.out [false, true] rfl hd
 refine rn ?_
 refine cw_cond (b := r_1) rfl (fun hb => ?_) (fun hb => ?_)
 ·skip
  have hF1 := ct hF hb
  refine cq (cr ?_)
  refine sQ 9 (ym (pt (aD b1) 0)) ?_
  obtain ⟨⟨r_2, m1⟩, hc1, hF1⟩ := bI hF1
  refine sc 10 rfl rfl (yC [pt (aD b1) 0] k_call_132 (c_spec_l1Cur_anyCircuit (Tl1Cur.mk code m.at_ m.seed) (aD b1) B c code.length _ rfl (hS3.inn [false, true] rfl [(true, 0)] rfl) hc1)) ?_
  rintro _ w_3 ⟨B2, c2, rfl, hd1⟩
  have hS4 := hS3.out [false, true] rfl hd1
  refine s0 (yT 0 2 (aD b) 28 (.agg #[vi r_2.Qubits, .slice B2 r_2.Gates.length c2]) [vi r_2.Qubits, .slice B2 r_2.Gates.length c2] 0 hS4 K11) ?_
  rintro _ w_4 ⟨rfl, hS5⟩
  refine rn (ct_ ?_)
  obtain rfl := sI hF1
  exact ret1 Tryz.results37 (v1 := .agg #[vi r_2.Qubits, .slice B2 r_2.Gates.length c2]) (resAt_cellA (B := aD b) (i := 0) (cs := [vi r_2.Qubits, .slice B2 r_2.Gates.length c2]) (vs := [vi r_2.Qubits, .slice B2 r_2.Gates.length c2]) rfl K22 K11 (hS5.c 0) rfl rfl) ⟨B2, c2, rfl, (hS5.sN [2])⟩
 ·skip
  have hF2 := cf' hF hb
  refine cw_skip (cq (cr ?_))
  refine sQ 11 (ym (pt (aD b1) 0)) <| sQ 12 (ym (pt (aD b1) 0)) ?_
  obtain ⟨⟨r_3, m2⟩, hc2, hF2⟩ := bI hF2
  refine sc 13 rfl rfl (yC [pt (aD b1) 0, vi 5] K38 (c_spec_l1Cur_pick (Tl1Cur.mk code m.at_ m.seed) 5 (aD b1) B c code.length _ rfl (hS3.inn [false, true] rfl [(true, 0)] rfl) hc2)) ?_
  rintro _ w_5 ⟨rfl, hd2⟩
  have hS6 := hS3.out [false, true] rfl hd2
  refine sQ 14 (yP 1 r_3) ?_
  obtain ⟨⟨r_4, m3⟩, hc3, hF2⟩ := bI hF2
  refine sc 15 rfl rfl (yC [pt (aD b1) 0, vi (i64.wrap (1 + r_3))] k_call_133 (c_spec_l1Cur_cxtz (Tl1Cur.mk code m2.at_ m2.seed) (i64.wrap (1 + r_3)) (aD b1) B c code.length _ rfl (hS6.inn [false, true] rfl [(true, 0)] rfl) hc3)) ?_
  rintro _ w_6 ⟨B3, c3, rfl, hd3⟩
  have hS7 := hS6.out [false, true] rfl hd3
  refine s0 (yT 0 2 (aD b) 28 (.agg #[vi r_4.Qubits, .slice B3 r_4.Gates.length c3]) [vi r_4.Qubits, .slice B3 r_4.Gates.length c3] 0 hS7 K11) ?_
  rintro _ w_7 ⟨rfl, hS8⟩
  refine rn (ct_ ?_)
  obtain rfl := sI hF2
  exact ret1 Tryz.results37 (v1 := .agg #[vi r_4.Qubits, .slice B3 r_4.Gates.length c3]) (resAt_cellA (B := aD b) (i := 0) (cs := [vi r_4.Qubits, .slice B3 r_4.Gates.length c3]) (vs := [vi r_4.Qubits, .slice B3 r_4.Gates.length c3]) rfl K22 K11 (hS8.c 0) rfl rfl) ⟨B3, c3, rfl, (hS8.sN [2])⟩

theorem c_spec_l13List (by_ : List Int) (B : Option Addr) (c n : Nat) (w0 : World) (hn : by_.length = n) (hS : ST w0 [] w0 [] [⟨B, (by_.flatMap encI)⟩]) {r_ : List TTerm} (hF : F_spec_l13List by_ = some r_) :
  CV Tryz.prog 117 #[.slice B n c] w0 (fun v w' => ∃ (B1 : Option Addr) (c1 : Nat), v = .slice B1 r_.length c1 ∧ ST w0 [] w' [⟨B1, 157, (r_.flatMap enc_Term), c1 * 2⟩] []) := by
 subst hn
 unfold F_spec_l13List at hF
 refine cv_of_cw 31 Tryz.func117 rfl Tryz.ntmps117 rfl ?_
 refine cq (cr ?_)
 refine sQ 2 (yg (.slice none 0 0)) (rn (cq (cr ?_)))
 refine sQ 3 (yg (.slice none 0 0)) (rn (cq (cq (cr ?_))))
 refine sQ 6 (ym (.slice B by_.length c)) <| sQ 7 (Y_len (B := B) (m := by_.length) (c := c) K2 rfl rfl) <| sQ 8 (ym (vi 0)) (rn ?_)
 obtain ⟨hN, hF⟩ := chk_inv hF
 obtain ⟨z, hz, hF1⟩ := bI hF
 have hS2 := hS.addNil 157
 refine cw_block ?_
 refine cw_loop (fun k f w => ∃ (i : Nat) (out : List TTerm) (B2 : Option Addr) (c2 : Nat), FF f [(3, .slice B2 out.length c2), (6, .slice B by_.length c), (7, vi (by_.length : Int)), (8, vi (i : Int))] ∧ ST w0 [] w [⟨B2, 157, (out.flatMap enc_Term), c2 * 2⟩] [⟨B, (by_.flatMap encI)⟩] ∧ i + k = by_.length ∧ forN (F_spec_l13List_l1 by_) k i out = some z) by_.length ⟨0, [], none, 0, (fc rfl (fc rfl (fc rfl (fc rfl fn_)))), (hS2.sel [0] rfl rfl), Nat.zero_add _, hz⟩ ?_
 rintro k_ f w ⟨i, out, B2, c2, hf, hS1, hik, hL⟩
 refine cq (cr ?_)
 refine sQ 9 (yL (i : Int) (by_.length : Int) rfl (hf.g 8 3) (hf.g 7 2)) (rn (cq ?_))
 refine cw_cond (b := (decide ((i : Int) < (by_.length : Int)))) rfl (fun hlt => ?_) (fun hlt => ?_)
 ·skip
  have hlt1 : i < by_.length := by have h := of_decide_eq_true hlt; omega
  obtain ⟨K7, rfl⟩ : ∃ k2, k_ = k2 + 1 := ⟨k_ - 1, by omega⟩
  obtain ⟨y, hb, hL1⟩ := forN_go hL
  unfold F_spec_l13List_l1 at hb
  refine cw_skip (cq ?_)
  obtain ⟨z1, hz1, hF2⟩ := bI hb
  refine cw_mid (fun f w => ∃ (out1 : List TTerm) (B3 : Option Addr) (c3 : Nat), out1 = z1 ∧ FF f [(3, .slice B3 out1.length c3), (6, .slice B by_.length c), (7, vi (by_.length : Int)), (8, vi (i : Int))] ∧ ST w0 [] w [⟨B3, 157, (out1.flatMap enc_Term), c3 * 2⟩] [⟨B, (by_.flatMap encI)⟩]) ?_ ?_
  ·skip
   refine cw_block (cq (cr ?_))
   refine sQ 10 (ym (vi (i : Int)) rfl (hf.g 8 3)) ?_
   obtain ⟨x, hx, hz1⟩ := bI hz1
   refine sQ 11 (Y_index (B := B) (m := by_.length) (c := c) (k := .i64) (i := (i : Int)) K2 K0 rfl (hf.g 6 1) (hf.g 8 3) (gi_isSome encI_len rfl (hS1.rf (i := 0) rfl) hx) (getI_nn hx) (getI_ltI hx rfl)) <| sQ 12 (yl B ((i : Int).toNat * 1) (by_.flatMap encI) (vi x) K1 (hS1.rf (i := 0) rfl) rfl rfl (gi_at0 encI_len hx rfl)) <| sQ 4 (yg (vi (i : Int))) <| sQ 5 (yg (vi x)) (rn (cq (cr ?_)))
   refine sQ 13 (ym (vi x)) <| sQ 14 (Y_rem (k := .i64) (a := x) (b := 8) rfl rfl rfl (by decide)) <| sQ 15 (yP (Int.tmod x 8) 8) <| sQ 16 (Y_rem (k := .i64) (a := (i64.wrap ((Int.tmod x 8) + 8))) (b := 8) rfl rfl rfl (by decide)) <| sQ 5 (yg (vi (Int.tmod (i64.wrap ((Int.tmod x 8) + 8)) 8))) (rn (cq (cr ?_)))
   refine sQ 17 (ym (vi (i : Int))) <| sQ 18 (Y_gt (k := .i64) (a := (i : Int)) (b := 0) rfl rfl rfl) <| sQ 19 (ym (.bool (decide (0 < (i : Int))))) ?_
   refine sgq 20 (B := (decide (0 < (i : Int)))) (v := vi (Int.tmod (i64.wrap ((Int.tmod x 8) + 8)) 8)) rfl rfl (uT_ 19) (fun hg => (ym (vi (Int.tmod (i64.wrap ((Int.tmod x 8) + 8)) 8)))) ?_
   refine sgq 21 (B := (decide (0 < (i : Int)))) (v := .bool (decide (0 < (Int.tmod (i64.wrap ((Int.tmod x 8) + 8)) 8)))) rfl rfl (uT_ 19) (fun hg1 => (Y_gt (k := .i64) (a := (Int.tmod (i64.wrap ((Int.tmod x 8) + 8)) 8)) (b := 0) rfl (gv_of (v := vi (Int.tmod (i64.wrap ((Int.tmod x 8) + 8)) 8)) hg1) rfl)) ?_
   refine sQ 22 (Y_and (b := (decide (0 < (i : Int)))) (z := (decide (0 < (Int.tmod (i64.wrap ((Int.tmod x 8) + 8)) 8)))) rfl rfl rfl rfl) (rn ?_)
   refine cw_cond (b := ((decide (0 < (i : Int))) && (decide (0 < (Int.tmod (i64.wrap ((Int.tmod x 8) + 8)) 8))))) rfl (fun hb1 => ?_) (fun hb1 => ?_)
   ·skip
    have hF3 := ct hz1 hb1
    refine cr ?_
    refine sQ 23 (ym (.slice B2 out.length c2) rfl (hf.g 3 0)) <| sQ 24 (ym (vi (i : Int))) <| sQ 25 (ym (vi (Int.tmod (i64.wrap ((Int.tmod x 8) + 8)) 8))) <| sQ 26 (Y_buildS (zs := [vi 0, vi 0]) (vs := [(0, vi (i : Int)), (1, vi (Int.tmod (i64.wrap ((Int.tmod x 8) + 8)) 8))]) (cs := [vi (i : Int), vi (Int.tmod (i64.wrap ((Int.tmod x 8) + 8)) 8)]) k_pl_157 K70 rfl (mpc rfl (mpc rfl mpn)) rfl) ?_
    refine sS 27 (Ys_bslice (s := 2) (len := 1) (vs := [(0, .agg #[vi (i : Int), vi (Int.tmod (i64.wrap ((Int.tmod x 8) + 8)) 8)])]) (cs := [vi (i : Int), vi (Int.tmod (i64.wrap ((Int.tmod x 8) + 8)) 8)]) (zs := [vi 0, vi 0]) (m := 2) hS1 K40 K34 k_zc_157 rfl (mpc rfl mpn) rfl rfl rfl (by kernel_rfl) (by kernel_rfl) rfl) ?_
    rintro _ w_ ⟨b, rfl, hS4⟩
    obtain ⟨hap, hF3⟩ := chk_inv hF3
    refine sS 28 (Ys_append (s := 2) (by' := 16) (i := 0) (nn := out.length) (c := c2) (k := 1) (len := (out ++ [(TTerm.mk (i : Int) (Int.tmod (i64.wrap ((Int.tmod x 8) + 8)) 8))]).length) (B := B2) (xs := ([(TTerm.mk (i : Int) (Int.tmod (i64.wrap ((Int.tmod x 8) + 8)) 8))].flatMap enc_Term)) (cs' := ((out ++ [(TTerm.mk (i : Int) (Int.tmod (i64.wrap ((Int.tmod x 8) + 8)) 8))]).flatMap enc_Term)) hS4 K40 K34 k_by_157_16 K70 rfl (by decide) rfl rfl rfl rfl (fm_lenn (l := out) enc_Term_len rfl) rfl (hS4.c 1) (fm_lenn (l := [(TTerm.mk (i : Int) (Int.tmod (i64.wrap ((Int.tmod x 8) + 8)) 8))]) enc_Term_len rfl) (fm_one' (enc := enc_Term) enc_Term_one [(TTerm.mk (i : Int) (Int.tmod (i64.wrap ((Int.tmod x 8) + 8)) 8))]) (by have := hap; omega) (by have := hap; simp only [maxLen]; omega) (fm_app _ _) (app_len (l := out) (l' := [(TTerm.mk (i : Int) (Int.tmod (i64.wrap ((Int.tmod x 8) + 8)) 8))]) rfl rfl)) ?_
    rintro _ w_1 ⟨B4, c4, rfl, hS5⟩
    refine sQ 3 (yg (.slice B4 ((out ++ [(TTerm.mk (i : Int) (Int.tmod (i64.wrap ((Int.tmod x 8) + 8)) 8))]).length) c4)) (rn ?_)
    exact ⟨(out ++ [(TTerm.mk (i : Int) (Int.tmod (i64.wrap ((Int.tmod x 8) + 8)) 8))]), B4, c4, (sI hF3), (fc rfl (fc (hf.g 6 1) (fc (hf.g 7 2) (fc (hf.g 8 3) fn_)))), (hS5.sel [0] rfl rfl)⟩
   ·skip
    have hF4 := cf' hz1 hb1
    refine cw_skip ?_
    exact ⟨out, B2, c2, (sI hF4), (fc (hf.g 3 0) (fc (hf.g 6 1) (fc (hf.g 7 2) (fc (hf.g 8 3) fn_)))), (hS1.sel [0] rfl rfl)⟩
  rintro f w ⟨out1, B3, c3, rfl, hf1, hS3⟩
  refine cr ?_
  refine sQ 29 (yP (i : Int) 1 rfl (hf1.g 8 3)) <| sQ 8 (ym (vi (i64.wrap ((i : Int) + 1)))) (rn ?_)
  obtain rfl := sI hF2
  exact ⟨K7, Nat.lt_succ_self _, i + 1, out1, B3, c3, (fc (hf1.g 3 0) (fc (hf1.g 6 1) (fc (hf1.g 7 2) (fc (congrArg (Value.int .i64) (wr_succ hlt1 hN)) fn_)))), (hS3.sel [0] rfl rfl), (by omega), hL1⟩
 ·skip
  obtain rfl : k_ = 0 := by have h := of_decide_eq_false hlt; omega
  refine cw_exit rfl ?_
  obtain rfl := sI hL
  refine cq (cr ?_)
  refine sQ 30 (ym (.slice B2 out.length c2) rfl (hf.g 3 0)) <| sQ 2 (yg (.slice B2 out.length c2)) (rn (ct_ ?_))
  obtain rfl := sI hF1
  exact ret1 Tryz.results117 (v1 := .slice B2 out.length c2) (resAt_tmp rfl) ⟨B2, c2, rfl, (hS1.sN [0])⟩

theorem c_spec_l12Identity (n : Int)  (w0 : World)  (hS : ST w0 [] w0 [] []) {r_ : TLinear} (hF : F_spec_l12Identity n = some r_) :
  CV Tryz.prog 121 #[vi n] w0 (fun v w' => ∃ (B : Option Addr) (c : Nat), v = .agg #[.slice B r_.Rows.length c] ∧ ST w0 [] w' [⟨B, 3, (r_.Rows.flatMap encI), c * 1⟩] []) := by
 unfold F_spec_l12Identity at hF
 refine cv_of_cw 19 Tryz.func121 rfl Tryz.ntmps121 rfl ?_
 refine cq (cr ?_)
 refine sS 2 (yN [.slice none 0 0] 1 hS K60) ?_
 rintro _ w_ ⟨b, rfl, hS1⟩
 refine rn (cq (cr ?_))
 refine sS 3 (yN [.slice none 0 0] 1 hS1 K60) ?_
 rintro _ w_1 ⟨b1, rfl, hS2⟩
 refine rn (cq (cq (cr ?_)))
 refine sQ 4 (yg (vi 0)) (rn ?_)
 obtain ⟨hN, hF⟩ := chk_inv hF
 obtain ⟨z, hz, hF1⟩ := bI hF
 have hS4 := hS2.addNil 3
 refine cw_block ?_
 refine cw_loop (fun k f w => ∃ (i1 : Nat) (Rows : List Int) (B1 : Option Addr) (c1 : Nat), FF f [(0, vi n), (2, pt (aD b) 0), (3, pt (aD b1) 0), (4, vi (i1 : Int))] ∧ ST w0 [] w [⟨aD b, 60, [.slice none 0 0], 1⟩, ⟨aD b1, 60, [.slice B1 Rows.length c1], 1⟩, ⟨B1, 3, (Rows.flatMap encI), c1 * 1⟩] [] ∧ i1 + k = n.toNat ∧ forN F_spec_l12Identity_l1 k i1 Rows = some z) n.toNat ⟨0, [], none, 0, (fc rfl (fc rfl (fc rfl (fc rfl fn_)))), (hS4.sel [0, 1, 2] rfl rfl), Nat.zero_add _, hz⟩ ?_
 rintro k_ f w ⟨i1, Rows, B1, c1, hf, hS3, hik, hL⟩
 refine cq (cq (cr ?_))
 refine sQ 5 (ym (vi (i1 : Int)) rfl (hf.g 4 3)) <| sQ 6 (ym (vi n) rfl (hf.g 0 0)) <| sQ 7 (yL (i1 : Int) n) (rn ?_)
 refine cw_cond (b := (decide ((i1 : Int) < n))) rfl (fun hlt => ?_) (fun hlt => ?_)
 ·skip
  have hlt1 : i1 < n.toNat := by have h := of_decide_eq_true hlt; omega
  obtain ⟨K7, rfl⟩ : ∃ k2, k_ = k2 + 1 := ⟨k_ - 1, by omega⟩
  obtain ⟨y, hb, hL1⟩ := forN_go hL
  unfold F_spec_l12Identity_l1 at hb
  refine cw_skip (cq (cw_block (cr ?_)))
  refine sQ 10 (yd (aD b1) 0 0 K29 K14 rfl (hf.g 3 2)) <| sQ 11 (yl (aD b1) 0 [.slice B1 Rows.length c1] (.slice B1 Rows.length c1) K13 (hS3.c 1)) <| sQ 12 (ym (vi (i1 : Int)) rfl (hf.g 4 3)) <| sQ 13 (Y_conv (k := .i64) (a := (i1 : Int)) (T := 3) (T' := 77) K54 K59 rfl rfl) ?_
  obtain ⟨hsh, hb⟩ := chk_inv hb
  refine sQ 14 (Y_shl (k := .i64) (a := 1) (k' := .u64) (b := (IntKind.u64.wrap (i1 : Int))) rfl rfl rfl hsh) ?_
  refine sS 15 (Ys_bslice (s := 1) (len := 1) (vs := [(0, vi (shlK .i64 1 (IntKind.u64.wrap (i1 : Int))))]) (cs := [vi (shlK .i64 1 (IntKind.u64.wrap (i1 : Int)))]) (zs := [vi 0]) (m := 1) hS3 K2 K0 K46 rfl (mpc rfl mpn) rfl rfl rfl (by kernel_rfl) (by kernel_rfl) rfl) ?_
  rintro _ w_2 ⟨b2, rfl, hS5⟩
  obtain ⟨hap, hb⟩ := chk_inv hb
  refine sS 16 (Ys_append (s := 1) (by' := 8) (i := 2) (nn := Rows.length) (c := c1) (k := 1) (len := (Rows ++ [(shlK .i64 1 (IntKind.u64.wrap (i1 : Int)))]).length) (B := B1) (xs := ([(shlK .i64 1 (IntKind.u64.wrap (i1 : Int)))].flatMap encI)) (cs' := ((Rows ++ [(shlK .i64 1 (IntKind.u64.wrap (i1 : Int)))]).flatMap encI)) hS5 K2 K0 K76 K57 rfl (by decide) rfl rfl rfl rfl (fm_lenn (l := Rows) encI_len rfl) rfl (hS5.c 3) (fm_lenn (l := [(shlK .i64 1 (IntKind.u64.wrap (i1 : Int)))]) encI_len rfl) (fm_one' (enc := encI) encI_one [(shlK .i64 1 (IntKind.u64.wrap (i1 : Int)))]) (by have := hap; omega) (by have := hap; simp only [maxLen]; omega) (fm_app _ _) (app_len (l := Rows) (l' := [(shlK .i64 1 (IntKind.u64.wrap (i1 : Int)))]) rfl rfl)) ?_
  rintro _ w_3 ⟨B2, c2, rfl, hS6⟩
  refine sQ 17 (yd (aD b1) 0 0 K29 K14 rfl (hf.g 3 2)) ?_
  refine s0 (yT 1 1 (aD b1) 60 (.slice B2 ((Rows ++ [(shlK .i64 1 (IntKind.u64.wrap (i1 : Int)))]).length) c2) [.slice B2 ((Rows ++ [(shlK .i64 1 (IntKind.u64.wrap (i1 : Int)))]).length) c2] 0 hS6 K14) ?_
  rintro _ w_4 ⟨rfl, hS7⟩
  refine rn (cr ?_)
  refine sQ 8 (ym (vi (i1 : Int)) rfl (hf.g 4 3)) <| sQ 9 (yP (i1 : Int) 1) <| sQ 4 (yg (vi (i64.wrap ((i1 : Int) + 1)))) (rn ?_)
  obtain rfl := sI hb
  exact ⟨K7, Nat.lt_succ_self _, i1 + 1, (Rows ++ [(shlK .i64 1 (IntKind.u64.wrap (i1 : Int)))]), B2, c2, (fc (hf.g 0 0) (fc (hf.g 2 1) (fc (hf.g 3 2) (fc (congrArg (Value.int .i64) (wr_succ hlt1 hN)) fn_)))), (hS7.sel [0, 1, 2] rfl rfl), (by omega), hL1⟩
 ·skip
  obtain rfl : k_ = 0 := by have h := of_decide_eq_false hlt; omega
  refine cw_exit rfl ?_
  obtain rfl := sI hL
  refine cq (cr ?_)
  refine sQ 18 (yb (aD b1) 0 [.slice B1 Rows.length c1] K51 K19 (hS3.c 1) rfl (hf.g 3 2)) ?_
  refine s0 (yT 0 1 (aD b) 60 (.agg #[.slice B1 Rows.length c1]) [.slice B1 Rows.length c1] 0 hS3 K19 rfl (hf.g 2 1)) ?_
  rintro _ w_5 ⟨rfl, hS8⟩
  refine rn (ct_ ?_)
  obtain rfl := sI hF1
  exact ret1 Tryz.results121 (v1 := .agg #[.slice B1 Rows.length c1]) (resAt_cellA (B := aD b) (i := 0) (cs := [.slice B1 Rows.length c1]) (vs := [.slice B1 Rows.length c1]) (hf.g 2 1) K51 K19 (hS8.c 0) rfl rfl) ⟨B1, c1, rfl, (hS8.sN [2])⟩

theorem c_spec_l4Gate (n : Int) (g : TGate)  (w0 : World)  (hS : ST w0 [] w0 [] []) {r_ : Bool} (hF : F_spec_l4Gate n g = some r_) :
  CV Tryz.prog 225 #[vi n, .agg #[vi g.Kind, vi g.A, vi g.B]] w0 (fun v w' => v = .bool r_ ∧ ST w0 [] w' [] []) := by
 unfold F_spec_l4Gate at hF
 refine cv_of_cw 55 Tryz.func225 rfl Tryz.ntmps225 rfl ?_
 refine cq (cr ?_)
 refine sS 3 (yB 120 (.agg #[vi g.Kind, vi g.A, vi g.B]) [vi g.Kind, vi g.A, vi g.B] 3 hS) ?_
 rintro _ w_ ⟨b, rfl, hS1⟩
 refine sQ 4 (yg (.bool false)) (rn (cq (cw_block (cq (cr ?_)))))
 refine sQ 6 (yd (aD b) 0 0 K33 K0) <| sQ 7 (yl (aD b) 0 [vi g.Kind, vi g.A, vi g.B] (vi g.Kind) K1 (hS1.c 0)) ?_
 obtain ⟨r_1, hc, hF⟩ := bI hF
 refine sc 8 rfl rfl (yC [vi g.Kind, vi 1, vi 8] K72 (c_spec_l1In g.Kind 1 8 _  (hS1.inn0 [] rfl) hc)) ?_
 rintro _ w_1 ⟨rfl, hd⟩
 have hS2 := hS1.out00 hd
 refine sQ 5 (yg (.bool r_1)) (rn ?_)
 refine cw_cond (b := r_1) rfl (fun hb => ?_) (fun hb => ?_)
 ·skip
  have hF1 := ct hF hb
  refine cq (cr ?_)
  refine sQ 9 (yd (aD b) 0 0 K18 K0) <| sQ 10 (yl (aD b) 1 [vi g.Kind, vi g.A, vi g.B] (vi g.A) K1 (hS2.c 0)) <| sQ 11 (ym (vi n)) <| sQ 12 (yM n 1) ?_
  obtain ⟨r_2, hc1, hF1⟩ := bI hF1
  refine sc 13 rfl rfl (yC [vi g.A, vi 0, vi (i64.wrap (n - 1))] K72 (c_spec_l1In g.A 0 (i64.wrap (n - 1)) _  (hS2.inn0 [] rfl) hc1)) ?_
  rintro _ w_2 ⟨rfl, hd1⟩
  have hS3 := hS2.out00 hd1
  refine sQ 14 (ym (.bool r_2)) ?_
  refine sgq 15 (B := r_2) (v := pt (aD b) 2) rfl rfl (uT_ 14) (fun hg => (yd (aD b) 0 0 K26 K0)) ?_
  refine sgq 16 (B := r_2) (v := vi g.B) rfl rfl (uT_ 14) (fun hg1 => (yl (aD b) 2 [vi g.Kind, vi g.A, vi g.B] (vi g.B) K1 (hS3.c 0) rfl (gv_of (v := pt (aD b) 2) hg1))) ?_
  refine sgq 17 (B := r_2) (v := .bool (g.B == 0)) rfl rfl (uT_ 14) (fun hg2 => (yE g.B 0 rfl (gv_of (v := vi g.B) hg2))) ?_
  refine sQ 18 (Y_and (b := r_2) (z := (g.B == 0)) rfl rfl rfl rfl) <| sQ 4 (yg (.bool (r_2 && (g.B == 0)))) (rn (ct_ ?_))
  obtain rfl := sI hF1
  exact ret1 Tryz.results225 (v1 := .bool (r_2 && (g.B == 0))) (resAt_tmp rfl) ⟨rfl, (hS3.sN [])⟩
 ·skip
  have hF2 := cf' hF hb
  refine cq (cr ?_)
  refine sQ 20 (yd (aD b) 0 0 K33 K0) <| sQ 21 (yl (aD b) 0 [vi g.Kind, vi g.A, vi g.B] (vi g.Kind) K1 (hS2.c 0)) ?_
  obtain ⟨r_3, hc2, hF2⟩ := bI hF2
  refine sc 22 rfl rfl (yC [vi g.Kind, vi 9, vi 11] K72 (c_spec_l1In g.Kind 9 11 _  (hS2.inn0 [] rfl) hc2)) ?_
  rintro _ w_3 ⟨rfl, hd2⟩
  have hS4 := hS2.out00 hd2
  refine sQ 19 (yg (.bool r_3)) (rn ?_)
  refine cw_cond (b := r_3) rfl (fun hb1 => ?_) (fun hb1 => ?_)
  ·skip
   have hF3 := ct hF2 hb1
   refine cq (cr ?_)
   refine sQ 23 (yd (aD b) 0 0 K18 K0) <| sQ 24 (yl (aD b) 1 [vi g.Kind, vi g.A, vi g.B] (vi g.A) K1 (hS4.c 0)) <| sQ 25 (ym (vi n)) <| sQ 26 (yM n 1) ?_
   obtain ⟨r_4, hc3, hF3⟩ := bI hF3
   refine sc 27 rfl rfl (yC [vi g.A, vi 0, vi (i64.wrap (n - 1))] K72 (c_spec_l1In g.A 0 (i64.wrap (n - 1)) _  (hS4.inn0 [] rfl) hc3)) ?_
   rintro _ w_4 ⟨rfl, hd3⟩
   have hS5 := hS4.out00 hd3
   refine sQ 28 (ym (.bool r_4)) ?_
   refine sgq 29 (B := r_4) (v := pt (aD b) 2) rfl rfl (uT_ 28) (fun hg3 => (yd (aD b) 0 0 K26 K0)) ?_
   refine sgq 30 (B := r_4) (v := vi g.B) rfl rfl (uT_ 28) (fun hg4 => (yl (aD b) 2 [vi g.Kind, vi g.A, vi g.B] (vi g.B) K1 (hS5.c 0) rfl (gv_of (v := pt (aD b) 2) hg4))) ?_
   refine sgq 31 (B := r_4) (v := vi n) rfl rfl (uT_ 28) (fun hg5 => (ym (vi n))) ?_
   refine sgq 32 (B := r_4) (v := vi (i64.wrap (n - 1))) rfl rfl (uT_ 28) (fun hg6 => (yM n 1 rfl (gv_of (v := vi n) hg6))) ?_
   obtain ⟨r_5, hc4, hF3⟩ := bI hF3
   refine sgc 33 (B := r_4) (v := .bool r_5) (F := hS5.fn) rfl rfl (uT_ 28) hS5 (fun hg7 => (yC [vi g.B, vi 0, vi (i64.wrap (n - 1))] K72 (CV.mono (c_spec_l1In g.B 0 (i64.wrap (n - 1)) _  (hS5.inn0 [] rfl) (gb_inv hc4 hg7)) (by rintro _ _ ⟨rfl, h⟩; exact ⟨rfl, hS5.out00 h⟩)) rfl (mc (gv_of (v := vi g.B) hg7) (mc rfl (mc (gv_of (v := vi (i64.wrap (n - 1))) hg7) mn))))) ?_
   rintro w_5 hS6
   refine sQ 34 (Y_and (b := r_4) (z := r_5) rfl rfl rfl rfl) <| sQ 35 (ym (.bool (r_4 && r_5))) ?_
   refine sgq 36 (B := (r_4 && r_5)) (v := pt (aD b) 1) rfl rfl (uT_ 35) (fun hg8 => (yd (aD b) 0 0 K18 K0)) ?_
   refine sgq 37 (B := (r_4 && r_5)) (v := vi g.A) rfl rfl (uT_ 35) (fun hg9 => (yl (aD b) 1 [vi g.Kind, vi g.A, vi g.B] (vi g.A) K1 (hS6.c 0) rfl (gv_of (v := pt (aD b) 1) hg9))) ?_
   refine sgq 38 (B := (r_4 && r_5)) (v := pt (aD b) 2) rfl rfl (uT_ 35) (fun hg10 => (yd (aD b) 0 0 K26 K0)) ?_
   refine sgq 39 (B := (r_4 && r_5)) (v := vi g.B) rfl rfl (uT_ 35) (fun hg11 => (yl (aD b) 2 [vi g.Kind, vi g.A, vi g.B] (vi g.B) K1 (hS6.c 0) rfl (gv_of (v := pt (aD b) 2) hg11))) ?_
   refine sgq 40 (B := (r_4 && r_5)) (v := .bool (g.A != g.B)) rfl rfl (uT_ 35) (fun hg12 => (Y_ne (k := .i64) (a := g.A) (b := g.B) rfl (gv_of (v := vi g.A) hg12) (gv_of (v := vi g.B) hg12))) ?_
   refine sQ 41 (Y_and (b := (r_4 && r_5)) (z := (g.A != g.B)) rfl rfl rfl rfl) <| sQ 4 (yg (.bool ((r_4 && r_5) && (g.A != g.B)))) (rn (ct_ ?_))
   obtain rfl := sI hF3
   exact ret1 Tryz.results225 (v1 := .bool ((r_4 && r_5) && (g.A != g.B))) (resAt_tmp rfl) ⟨rfl, (hS6.sN [])⟩
  ·skip
   have hF4 := cf' hF2 hb1
   refine cw_skip (cq (cr ?_))
   refine sQ 42 (yd (aD b) 0 0 K33 K0) <| sQ 43 (yl (aD b) 0 [vi g.Kind, vi g.A, vi g.B] (vi g.Kind) K1 (hS4.c 0)) <| sQ 44 (yE g.Kind 12) <| sQ 45 (ym (.bool (g.Kind == 12))) ?_
   refine sgq 46 (B := (g.Kind == 12)) (v := pt (aD b) 1) rfl rfl (uT_ 45) (fun hg13 => (yd (aD b) 0 0 K18 K0)) ?_
   refine sgq 47 (B := (g.Kind == 12)) (v := vi g.A) rfl rfl (uT_ 45) (fun hg14 => (yl (aD b) 1 [vi g.Kind, vi g.A, vi g.B] (vi g.A) K1 (hS4.c 0) rfl (gv_of (v := pt (aD b) 1) hg14))) ?_
   refine sgq 48 (B := (g.Kind == 12)) (v := .bool (g.A == 0)) rfl rfl (uT_ 45) (fun hg15 => (yE g.A 0 rfl (gv_of (v := vi g.A) hg15))) ?_
   refine sQ 49 (Y_and (b := (g.Kind == 12)) (z := (g.A == 0)) rfl rfl rfl rfl) <| sQ 50 (ym (.bool ((g.Kind == 12) && (g.A == 0)))) ?_
   refine sgq 51 (B := ((g.Kind == 12) && (g.A == 0))) (v := pt (aD b) 2) rfl rfl (uT_ 50) (fun hg16 => (yd (aD b) 0 0 K26 K0)) ?_
   refine sgq 52 (B := ((g.Kind == 12) && (g.A == 0))) (v := vi g.B) rfl rfl (uT_ 50) (fun hg17 => (yl (aD b) 2 [vi g.Kind, vi g.A, vi g.B] (vi g.B) K1 (hS4.c 0) rfl (gv_of (v := pt (aD b) 2) hg17))) ?_
   refine sgq 53 (B := ((g.Kind == 12) && (g.A == 0))) (v := .bool (g.B == 0)) rfl rfl (uT_ 50) (fun hg18 => (yE g.B 0 rfl (gv_of (v := vi g.B) hg18))) ?_
   refine sQ 54 (Y_and (b := ((g.Kind == 12) && (g.A == 0))) (z := (g.B == 0)) rfl rfl rfl rfl) <| sQ 4 (yg (.bool (((g.Kind == 12) && (g.A == 0)) && (g.B == 0)))) (rn (ct_ ?_))
   obtain rfl := sI hF4
   exact ret1 Tryz.results225 (v1 := .bool (((g.Kind == 12) && (g.A == 0)) && (g.B == 0))) (resAt_tmp rfl) ⟨rfl, (hS4.sN [])⟩

theorem c_spec_l4Good (c : TCircuit) (B : Option Addr) (c1 n : Nat) (w0 : World) (hn : c.Gates.length = n) (hS : ST w0 [] w0 [] [⟨B, (c.Gates.flatMap eN0)⟩]) {r_ : Bool} (hF : F_spec_l4Good c = some r_) :
  CV Tryz.prog 134 #[.agg #[vi c.Qubits, .slice B n c1]] w0 (fun v w' => v = .bool r_ ∧ ST w0 [] w' [] []) := by
 subst hn
 unfold F_spec_l4Good at hF
 refine cv_of_cw 28 Tryz.func134 rfl Tryz.ntmps134 rfl ?_
 refine cq (cr ?_)
 refine sS 1 (yB 28 (.agg #[vi c.Qubits, .slice B c.Gates.length c1]) [vi c.Qubits, .slice B c.Gates.length c1] 2 hS) ?_
 rintro _ w_ ⟨b, rfl, hS1⟩
 refine sQ 2 (yg (.bool false)) (rn (cq (cq (cr ?_))))
 refine sQ 5 (yd (aD b) 0 0 K31 K0) <| sQ 6 (yl (aD b) 0 [vi c.Qubits, .slice B c.Gates.length c1] (vi c.Qubits) K1 (hS1.c 0)) ?_
 obtain ⟨r_1, hc, hF⟩ := bI hF
 refine sc 7 rfl rfl (yC [vi c.Qubits, vi 1, vi 5] K72 (c_spec_l1In c.Qubits 1 5 _  (hS1.inn0 [] rfl) hc)) ?_
 rintro _ w_1 ⟨rfl, hd⟩
 have hS2 := hS1.out00 hd
 refine sQ 8 (Y_not (p := r_1) rfl rfl) <| sQ 9 (ym (.bool (!r_1))) ?_
 refine sgq 10 (B := (!(!r_1))) (v := pt (aD b) 1) rfl rfl (uF_ 9) (fun hg => (yd (aD b) 0 0 K36 K21)) ?_
 refine sgq 11 (B := (!(!r_1))) (v := .slice B c.Gates.length c1) rfl rfl (uF_ 9) (fun hg1 => (yl (aD b) 1 [vi c.Qubits, .slice B c.Gates.length c1] (.slice B c.Gates.length c1) K37 (hS2.c 0) rfl (gv_of (v := pt (aD b) 1) hg1))) ?_
 refine sgq 12 (B := (!(!r_1))) (v := vi (c.Gates.length : Int)) rfl rfl (uF_ 9) (fun hg2 => (Y_len (B := B) (m := c.Gates.length) (c := c1) K5 rfl (gv_of (v := .slice B c.Gates.length c1) hg2))) ?_
 refine sgq 13 (B := (!(!r_1))) (v := .bool (decide (400 < (c.Gates.length : Int)))) rfl rfl (uF_ 9) (fun hg3 => (Y_gt (k := .i64) (a := (c.Gates.length : Int)) (b := 400) rfl (gv_of (v := vi (c.Gates.length : Int)) hg3) rfl)) ?_
 refine sQ 14 (Y_or (b := (!r_1)) (z := (decide (400 < (c.Gates.length : Int)))) rfl rfl rfl rfl) (rn ?_)
 refine cw_cond (b := ((!r_1) || (decide (400 < (c.Gates.length : Int))))) rfl (fun hb => ?_) (fun hb => ?_)
 ·skip
  have hF1 := ct hF hb
  refine cq (cr ?_)
  refine sQ 2 (yg (.bool false)) (rn (ct_ ?_))
  obtain rfl := sI hF1
  exact ret1 Tryz.results134 (v1 := .bool false) (resAt_tmp rfl) ⟨rfl, (hS2.sN [])⟩
 ·skip
  have hF2 := cf' hF hb
  refine cw_skip (cq (cq (cr ?_)))
  refine sQ 15 (yd (aD b) 0 0 K36 K21) <| sQ 16 (yl (aD b) 1 [vi c.Qubits, .slice B c.Gates.length c1] (.slice B c.Gates.length c1) K37 (hS2.c 0)) <| sQ 17 (Y_len (B := B) (m := c.Gates.length) (c := c1) K5 rfl rfl) <| sQ 18 (ym (vi 0)) (rn ?_)
  obtain ⟨hN, hF2⟩ := chk_inv hF2
  obtain ⟨z, hz, hF3⟩ := bI hF2
  refine cw_block ?_
  refine cw_loop (fun k f w => ∃ (i : Nat), FF f [(1, pt (aD b) 0), (16, .slice B c.Gates.length c1), (17, vi (c.Gates.length : Int)), (18, vi (i : Int))] ∧ ST w0 [] w [⟨aD b, 28, [vi c.Qubits, .slice B c.Gates.length c1], 2⟩] [⟨B, (c.Gates.flatMap eN0)⟩] ∧ i + k = c.Gates.length ∧ forX (F_spec_l4Good_l1 c) k i () = some z) c.Gates.length ⟨0, (fc rfl (fc rfl (fc rfl (fc rfl fn_)))), (hS2.sel [0] rfl rfl), Nat.zero_add _, hz⟩ ?_
  rintro k_ f w ⟨i, hf, hS3, hik, hL⟩
  refine cq (cr ?_)
  refine sQ 19 (yL (i : Int) (c.Gates.length : Int) rfl (hf.g 18 3) (hf.g 17 2)) (rn (cq ?_))
  refine cw_cond (b := (decide ((i : Int) < (c.Gates.length : Int)))) rfl (fun hlt => ?_) (fun hlt => ?_)
  ·skip
   have hlt1 : i < c.Gates.length := by have h := of_decide_eq_true hlt; omega
   obtain ⟨K7, rfl⟩ : ∃ k2, k_ = k2 + 1 := ⟨k_ - 1, by omega⟩
   obtain ⟨y, hb1, hL1⟩ := forX_go hL
   unfold F_spec_l4Good_l1 at hb1
   refine cw_skip (cq (cw_block (cq (cr ?_))))
   obtain ⟨x, hx, hb1⟩ := bI hb1
   refine sQ 20 (Y_index (B := B) (m := c.Gates.length) (c := c1) (k := .i64) (i := (i : Int)) K5 K3 rfl (hf.g 16 1) (hf.g 18 3) (gi_isSome eN1 rfl (hS3.rf (i := 0) rfl) hx) (getI_nn hx) (getI_ltI hx rfl)) <| sQ 21 (ya B ((i : Int).toNat * 3) (c.Gates.flatMap eN0) [vi x.Kind, vi x.A, vi x.B] K24 K3 (hS3.rf (i := 0) rfl) rfl rfl (eN1 x) (gi_seg eN1 hx)) ?_
   refine sS 4 (yN [vi 0, vi 0, vi 0] 3 hS3 K9) ?_
   rintro _ w_2 ⟨b1, rfl, hS4⟩
   refine s0 (yT 1 3 (aD b1) 120 (.agg #[vi x.Kind, vi x.A, vi x.B]) [vi x.Kind, vi x.A, vi x.B] 0 hS4 K3) ?_
   rintro _ w_3 ⟨rfl, hS5⟩
   refine rn (cq (cr ?_))
   refine sQ 22 (yd (aD b) 0 0 K31 K0 rfl (hf.g 1 0)) <| sQ 23 (yl (aD b) 0 [vi c.Qubits, .slice B c.Gates.length c1] (vi c.Qubits) K1 (hS5.c 0)) <| sQ 24 (yb (aD b1) 0 [vi x.Kind, vi x.A, vi x.B] K24 K3 (hS5.c 1)) ?_
   obtain ⟨r_2, hc1, hb1⟩ := bI hb1
   refine sc 25 rfl rfl (yC [vi c.Qubits, .agg #[vi x.Kind, vi x.A, vi x.B]] k_call_225 (c_spec_l4Gate c.Qubits x _  (hS5.inn0 [] rfl) hc1)) ?_
   rintro _ w_4 ⟨rfl, hd1⟩
   have hS6 := hS5.out00 hd1
   refine sQ 26 (Y_not (p := r_2) rfl rfl) (rn ?_)
   refine cw_cond (b := (!r_2)) rfl (fun hb2 => ?_) (fun hb2 => ?_)
   ·skip
    have hF4 := ct hb1 hb2
    refine cq (cr ?_)
    refine sQ 2 (yg (.bool false)) (rn (ct_ ?_))
    obtain rfl := sI hF4
    obtain rfl := sI hL1
    obtain rfl := sI hF3
    exact ret1 Tryz.results134 (v1 := .bool false) (resAt_tmp rfl) ⟨rfl, (hS6.sN [])⟩
   ·skip
    have hF5 := cf' hb1 hb2
    refine cw_skip (cr ?_)
    refine sQ 27 (yP (i : Int) 1 rfl (hf.g 18 3)) <| sQ 18 (ym (vi (i64.wrap ((i : Int) + 1)))) (rn ?_)
    obtain rfl := sI hF5
    exact ⟨K7, Nat.lt_succ_self _, i + 1, (fc (hf.g 1 0) (fc (hf.g 16 1) (fc (hf.g 17 2) (fc (congrArg (Value.int .i64) (wr_succ hlt1 hN)) fn_)))), (hS6.sel [0] rfl rfl), (by omega), hL1⟩
  ·skip
   obtain rfl : k_ = 0 := by have h := of_decide_eq_false hlt; omega
   refine cw_exit rfl ?_
   obtain rfl := sI hL
   refine cq (cr ?_)
   refine sQ 2 (yg (.bool true)) (rn (ct_ ?_))
   obtain rfl := sI hF3
   exact ret1 Tryz.results134 (v1 := .bool true) (resAt_tmp rfl) ⟨rfl, (hS3.sN [])⟩

theorem c_spec_l1Own (l : List Int) (B : Option Addr) (c n : Nat) (w0 : World) (hn : l.length = n) (hS : ST w0 [] w0 [] [⟨B, (l.flatMap encI)⟩]) {r_ : List Int} (hF : F_spec_l1Own l = some r_) :
  CV Tryz.prog 75 #[.slice B n c] w0 (fun v w' => ∃ (B1 : Option Addr) (c1 : Nat), v = .slice B1 r_.length c1 ∧ ST w0 [] w' [⟨B1, 3, (r_.flatMap encI), c1 * 1⟩] []) := by
 subst hn
 unfold F_spec_l1Own at hF
 refine cv_of_cw 6 Tryz.func75 rfl Tryz.ntmps75 rfl ?_
 refine cq (cr ?_)
 refine sQ 2 (yg (.slice none 0 0)) (rn (cq (cr ?_)))
 refine sS 3 (Ys_bslice0 (s := 1) (e := 3) hS K2 K0 rfl) ?_
 rintro _ w_ ⟨b, rfl, hS1⟩
 refine sQ 4 (ym (.slice B l.length c)) ?_
 obtain ⟨hap, hF⟩ := chk_inv hF
 refine sS 5 (Ys_append (s := 1) (by' := 8) (i := 0) (nn := 0) (c := 0) (k := l.length) (len := l.length) (B := aD b) (xs := (l.flatMap encI)) (cs' := (l.flatMap encI)) hS1 K2 K0 K76 K57 rfl (by decide) rfl rfl rfl rfl (fm_lenn (l := []) encI_len rfl) rfl (hS1.rf (i := 0) rfl) (fm_lenn (l := l) encI_len rfl) (fm_one' (enc := encI) encI_one l) (by have := hap; omega) (by have := hap; simp only [maxLen]; omega) rfl (app_len0 (l := l) rfl)) ?_
 rintro _ w_1 ⟨B2, c2, rfl, hS2⟩
 refine sQ 2 (yg (.slice B2 l.length c2)) (rn (ct_ ?_))
 obtain rfl := sI hF
 exact ret1 Tryz.results75 (v1 := .slice B2 l.length c2) (resAt_tmp rfl) ⟨B2, c2, rfl, (hS2.sN [0])⟩

theorem c_spec_l12CX (m : TLinear) (a : Int) (b : Int) (B : Option Addr) (c n : Nat) (w0 : World) (hn : m.Rows.length = n) (hS : ST w0 [] w0 [] [⟨B, (m.Rows.flatMap encI)⟩]) {r_ : TLinear} (hF : F_spec_l12CX m a b = some r_) :
  CV Tryz.prog 135 #[.agg #[.slice B n c], vi a, vi b] w0 (fun v w' => ∃ (B1 : Option Addr) (c1 : Nat), v = .agg #[.slice B1 r_.Rows.length c1] ∧ ST w0 [] w' [⟨B1, 3, (r_.Rows.flatMap encI), c1 * 1⟩] []) := by
 subst hn
 unfold F_spec_l12CX at hF
 refine cv_of_cw 25 Tryz.func135 rfl Tryz.ntmps135 rfl ?_
 refine cq (cr ?_)
 refine sS 3 (yB 60 (.agg #[.slice B m.Rows.length c]) [.slice B m.Rows.length c] 1 hS) ?_
 rintro _ w_ ⟨b1, rfl, hS1⟩
 refine sS 6 (yN [.slice none 0 0] 1 hS1 K60) ?_
 rintro _ w_1 ⟨b2, rfl, hS2⟩
 refine rn (cq (cr ?_))
 refine sQ 8 (yd (aD b1) 0 0 K29 K14) <| sQ 9 (yl (aD b1) 0 [.slice B m.Rows.length c] (.slice B m.Rows.length c) K13 (hS2.c 0)) ?_
 obtain ⟨r_1, hc, hF⟩ := bI hF
 refine sc 10 rfl rfl (yC [.slice B m.Rows.length c] k_call_75 (c_spec_l1Own m.Rows B c m.Rows.length _ rfl (hS2.inn0 [(true, 0)] rfl) hc)) ?_
 rintro _ w_2 ⟨B2, c2, rfl, hd⟩
 have hS3 := hS2.out0 hd
 refine sQ 11 (Y_buildS (zs := [.slice none 0 0]) (vs := [(0, .slice B2 r_1.length c2)]) (cs := [.slice B2 r_1.length c2]) k_pl_60 K60 rfl (mpc rfl mpn) rfl) ?_
 refine sS 7 (yN [.slice none 0 0] 1 hS3 K60) ?_
 rintro _ w_3 ⟨b3, rfl, hS4⟩
 refine s0 (yT 3 1 (aD b3) 60 (.agg #[.slice B2 r_1.length c2]) [.slice B2 r_1.length c2] 0 hS4 K19) ?_
 rintro _ w_4 ⟨rfl, hS5⟩
 refine rn (cq ?_)
 obtain ⟨x, hx, hF⟩ := bI hF
 obtain ⟨x1, hx1, hF⟩ := bI hF
 refine cw_mid (fun f w => FF f [(6, pt (aD b2) 0), (7, pt (aD b3) 0)] ∧ ST w0 [] w [⟨aD b2, 60, [.slice none 0 0], 1⟩, ⟨aD b3, 60, [.slice B2 r_1.length c2], 1⟩, ⟨B2, 3, ((r_1.set b.toNat (bits .xor .i64 x x1)).flatMap encI), c2 * 1⟩] [⟨B, (m.Rows.flatMap encI)⟩]) ?_ ?_
 ·skip
  refine ra_start (hS5.se [0, 1, 3]).fn (by kernel_rfl) ?_
  have hS7 := hS5.drew
  refine rq 0 12 (v := pt (aD b3) 0) rfl (hS7.se [0, 1, 3]) (fun w' hw' => (yd (aD b3) 0 0 K29 K14)) ?_
  refine rq 1 13 (v := .slice B2 r_1.length c2) rfl (hS7.se [0, 1, 3]) (fun w' hw' => (yl (aD b3) 0 [.slice B2 r_1.length c2] (.slice B2 r_1.length c2) K13 (ST.cf hw' (i := 2) rfl))) ?_
  refine rq 2 14 (v := vi b) rfl (hS7.se [0, 1, 3]) (fun w' hw' => (ym (vi b))) ?_
  refine rq 5 17 (v := pt (aD b3) 0) rfl (hS7.se [0, 1, 3]) (fun w' hw' => (yd (aD b3) 0 0 K29 K14)) ?_
  refine rq 6 18 (v := .slice B2 r_1.length c2) rfl (hS7.se [0, 1, 3]) (fun w' hw' => (yl (aD b3) 0 [.slice B2 r_1.length c2] (.slice B2 r_1.length c2) K13 (ST.cf hw' (i := 2) rfl))) ?_
  refine rq 7 19 (v := vi a) rfl (hS7.se [0, 1, 3]) (fun w' hw' => (ym (vi a))) ?_
  refine rA [3, 8] ?_
  refine ra_y 15 (i := 3) (v := pt B2 (b.toNat * 1)) rfl rfl rfl (Y_index (B := B2) (m := r_1.length) (c := c2) (k := .i64) (i := b) K2 K0 rfl rfl rfl (gi_isSome encI_len rfl (hS7.c 2) hx) (getI_nn hx) (getI_ltI hx rfl)) (hS7.se [0, 1, 3]) ?_ ?_
  ·skip
   refine rA [4, 8] ?_
   refine ra_y 16 (i := 4) (v := vi x) rfl rfl rfl (yl B2 (b.toNat * 1) (r_1.flatMap encI) (vi x) K1 (hS7.c 2) rfl rfl (gi_at0 encI_len hx rfl)) (hS7.se [0, 1, 3]) ?_ ?_
   ·skip
    refine rA [8] ?_
    refine ra_y 20 (i := 8) (v := pt B2 (a.toNat * 1)) rfl rfl rfl (Y_index (B := B2) (m := r_1.length) (c := c2) (k := .i64) (i := a) K2 K0 rfl rfl rfl (gi_isSome encI_len rfl (hS7.c 2) hx1) (getI_nn hx1) (getI_ltI hx1 rfl)) (hS7.se [0, 1, 3]) ?_ ?_
    ·skip
     refine rA [9] ?_
     refine ra_y 21 (i := 9) (v := vi x1) rfl rfl rfl (yl B2 (a.toNat * 1) (r_1.flatMap encI) (vi x1) K1 (hS7.c 2) rfl rfl (gi_at0 encI_len hx1 rfl)) (hS7.se [0, 1, 3]) ?_ ?_
     ·skip
      refine rq 10 22 (v := vi (bits .xor .i64 x x1)) rfl (hS7.se [0, 1, 3]) (fun w' hw' => (Y_bxor (k := .i64) (a := x) (b := x1) rfl rfl rfl)) ?_
      refine rA [11] ?_
      refine ra_y 23 (i := 11) (v := pt B2 (b.toNat * 1)) rfl rfl rfl (Y_index (B := B2) (m := r_1.length) (c := c2) (k := .i64) (i := b) K2 K0 rfl rfl rfl (gi_isSome encI_len rfl (hS7.c 2) hx) (getI_nn hx) (getI_ltI hx rfl)) (hS7.se [0, 1, 3]) ?_ ?_
      ·skip
       refine rA [12] ?_
       refine rZ 12 rfl (yS 2 1 B2 3 (vi (bits .xor .i64 x x1)) [vi (bits .xor .i64 x x1)] (b.toNat * 1) ((r_1.set b.toNat (bits .xor .i64 x x1)).flatMap encI) hS7 K0 rfl rfl rfl rfl rfl rfl rfl (gi_fit0 encI_len hx) (gi_set encI_len hx (bits .xor .i64 x x1) rfl)) ?_ ?_
       ·rintro _ w_5 ⟨rfl, hS8⟩
        refine ⟨(hS8.se [0, 1, 3]), ?_⟩
        refine ra_done (by kernel_rfl) ?_
        exact ⟨(fc rfl (fc rfl fn_)), (hS8.sel [1, 3, 2] rfl rfl)⟩
       exact aN
      exact aN
     exact aN
    exact aN
   refine ra_y 20 (i := 8) (v := pt B2 (a.toNat * 1)) rfl rfl rfl (Y_index (B := B2) (m := r_1.length) (c := c2) (k := .i64) (i := a) K2 K0 rfl rfl rfl (gi_isSome encI_len rfl (hS7.c 2) hx1) (getI_nn hx1) (getI_ltI hx1 rfl)) (hS7.se [0, 1, 3]) ?_ ?_
   ·skip
    refine rA [4, 9] ?_
    refine ra_y 16 (i := 4) (v := vi x) rfl rfl rfl (yl B2 (b.toNat * 1) (r_1.flatMap encI) (vi x) K1 (hS7.c 2) rfl rfl (gi_at0 encI_len hx rfl)) (hS7.se [0, 1, 3]) ?_ ?_
    ·skip
     refine rA [9] ?_
     refine ra_y 21 (i := 9) (v := vi x1) rfl rfl rfl (yl B2 (a.toNat * 1) (r_1.flatMap encI) (vi x1) K1 (hS7.c 2) rfl rfl (gi_at0 encI_len hx1 rfl)) (hS7.se [0, 1, 3]) ?_ ?_
     ·skip
      refine rq 10 22 (v := vi (bits .xor .i64 x x1)) rfl (hS7.se [0, 1, 3]) (fun w' hw' => (Y_bxor (k := .i64) (a := x) (b := x1) rfl rfl rfl)) ?_
      refine rA [11] ?_
      refine ra_y 23 (i := 11) (v := pt B2 (b.toNat * 1)) rfl rfl rfl (Y_index (B := B2) (m := r_1.length) (c := c2) (k := .i64) (i := b) K2 K0 rfl rfl rfl (gi_isSome encI_len rfl (hS7.c 2) hx) (getI_nn hx) (getI_ltI hx rfl)) (hS7.se [0, 1, 3]) ?_ ?_
      ·skip
       refine rA [12] ?_
       refine rZ 12 rfl (yS 2 1 B2 3 (vi (bits .xor .i64 x x1)) [vi (bits .xor .i64 x x1)] (b.toNat * 1) ((r_1.set b.toNat (bits .xor .i64 x x1)).flatMap encI) hS7 K0 rfl rfl rfl rfl rfl rfl rfl (gi_fit0 encI_len hx) (gi_set encI_len hx (bits .xor .i64 x x1) rfl)) ?_ ?_
       ·rintro _ w_6 ⟨rfl, hS9⟩
        refine ⟨(hS9.se [0, 1, 3]), ?_⟩
        refine ra_done (by kernel_rfl) ?_
        exact ⟨(fc rfl (fc rfl fn_)), (hS9.sel [1, 3, 2] rfl rfl)⟩
       exact aN
      exact aN
     exact aN
    refine ra_y 21 (i := 9) (v := vi x1) rfl rfl rfl (yl B2 (a.toNat * 1) (r_1.flatMap encI) (vi x1) K1 (hS7.c 2) rfl rfl (gi_at0 encI_len hx1 rfl)) (hS7.se [0, 1, 3]) ?_ ?_
    ·skip
     refine rA [4] ?_
     refine ra_y 16 (i := 4) (v := vi x) rfl rfl rfl (yl B2 (b.toNat * 1) (r_1.flatMap encI) (vi x) K1 (hS7.c 2) rfl rfl (gi_at0 encI_len hx rfl)) (hS7.se [0, 1, 3]) ?_ ?_
     ·skip
      refine rq 10 22 (v := vi (bits .xor .i64 x x1)) rfl (hS7.se [0, 1, 3]) (fun w' hw' => (Y_bxor (k := .i64) (a := x) (b := x1) rfl rfl rfl)) ?_
      refine rA [11] ?_
      refine ra_y 23 (i := 11) (v := pt B2 (b.toNat * 1)) rfl rfl rfl (Y_index (B := B2) (m := r_1.length) (c := c2) (k := .i64) (i := b) K2 K0 rfl rfl rfl (gi_isSome encI_len rfl (hS7.c 2) hx) (getI_nn hx) (getI_ltI hx rfl)) (hS7.se [0, 1, 3]) ?_ ?_
      ·skip
       refine rA [12] ?_
       refine rZ 12 rfl (yS 2 1 B2 3 (vi (bits .xor .i64 x x1)) [vi (bits .xor .i64 x x1)] (b.toNat * 1) ((r_1.set b.toNat (bits .xor .i64 x x1)).flatMap encI) hS7 K0 rfl rfl rfl rfl rfl rfl rfl (gi_fit0 encI_len hx) (gi_set encI_len hx (bits .xor .i64 x x1) rfl)) ?_ ?_
       ·rintro _ w_7 ⟨rfl, hS10⟩
        refine ⟨(hS10.se [0, 1, 3]), ?_⟩
        refine ra_done (by kernel_rfl) ?_
        exact ⟨(fc rfl (fc rfl fn_)), (hS10.sel [1, 3, 2] rfl rfl)⟩
       exact aN
      exact aN
     exact aN
    exact aN
   exact aN
  refine ra_y 20 (i := 8) (v := pt B2 (a.toNat * 1)) rfl rfl rfl (Y_index (B := B2) (m := r_1.length) (c := c2) (k := .i64) (i := a) K2 K0 rfl rfl rfl (gi_isSome encI_len rfl (hS7.c 2) hx1) (getI_nn hx1) (getI_ltI hx1 rfl)) (hS7.se [0, 1, 3]) ?_ ?_
  ·skip
   refine rA [3, 9] ?_
   refine ra_y 15 (i := 3) (v := pt B2 (b.toNat * 1)) rfl rfl rfl (Y_index (B := B2) (m := r_1.length) (c := c2) (k := .i64) (i := b) K2 K0 rfl rfl rfl (gi_isSome encI_len rfl (hS7.c 2) hx) (getI_nn hx) (getI_ltI hx rfl)) (hS7.se [0, 1, 3]) ?_ ?_
   ·skip
    refine rA [4, 9] ?_
    refine ra_y 16 (i := 4) (v := vi x) rfl rfl rfl (yl B2 (b.toNat * 1) (r_1.flatMap encI) (vi x) K1 (hS7.c 2) rfl rfl (gi_at0 encI_len hx rfl)) (hS7.se [0, 1, 3]) ?_ ?_
    ·skip
     refine rA [9] ?_
     refine ra_y 21 (i := 9) (v := vi x1) rfl rfl rfl (yl B2 (a.toNat * 1) (r_1.flatMap encI) (vi x1) K1 (hS7.c 2) rfl rfl (gi_at0 encI_len hx1 rfl)) (hS7.se [0, 1, 3]) ?_ ?_
     ·skip
      refine rq 10 22 (v := vi (bits .xor .i64 x x1)) rfl (hS7.se [0, 1, 3]) (fun w' hw' => (Y_bxor (k := .i64) (a := x) (b := x1) rfl rfl rfl)) ?_
      refine rA [11] ?_
      refine ra_y 23 (i := 11) (v := pt B2 (b.toNat * 1)) rfl rfl rfl (Y_index (B := B2) (m := r_1.length) (c := c2) (k := .i64) (i := b) K2 K0 rfl rfl rfl (gi_isSome encI_len rfl (hS7.c 2) hx) (getI_nn hx) (getI_ltI hx rfl)) (hS7.se [0, 1, 3]) ?_ ?_
      ·skip
       refine rA [12] ?_
       refine rZ 12 rfl (yS 2 1 B2 3 (vi (bits .xor .i64 x x1)) [vi (bits .xor .i64 x x1)] (b.toNat * 1) ((r_1.set b.toNat (bits .xor .i64 x x1)).flatMap encI) hS7 K0 rfl rfl rfl rfl rfl rfl rfl (gi_fit0 encI_len hx) (gi_set encI_len hx (bits .xor .i64 x x1) rfl)) ?_ ?_
       ·rintro _ w_8 ⟨rfl, hS11⟩
        refine ⟨(hS11.se [0, 1, 3]), ?_⟩
        refine ra_done (by kernel_rfl) ?_
        exact ⟨(fc rfl (fc rfl fn_)), (hS11.sel [1, 3, 2] rfl rfl)⟩
       exact aN
      exact aN
     exact aN
    refine ra_y 21 (i := 9) (v := vi x1) rfl rfl rfl (yl B2 (a.toNat * 1) (r_1.flatMap encI) (vi x1) K1 (hS7.c 2) rfl rfl (gi_at0 encI_len hx1 rfl)) (hS7.se [0, 1, 3]) ?_ ?_
    ·skip
     refine rA [4] ?_
     refine ra_y 16 (i := 4) (v := vi x) rfl rfl rfl (yl B2 (b.toNat * 1) (r_1.flatMap encI) (vi x) K1 (hS7.c 2) rfl rfl (gi_at0 encI_len hx rfl)) (hS7.se [0, 1, 3]) ?_ ?_
     ·skip
      refine rq 10 22 (v := vi (bits .xor .i64 x x1)) rfl (hS7.se [0, 1, 3]) (fun w' hw' => (Y_bxor (k := .i64) (a := x) (b := x1) rfl rfl rfl)) ?_
      refine rA [11] ?_
      refine ra_y 23 (i := 11) (v := pt B2 (b.toNat * 1)) rfl rfl rfl (Y_index (B := B2) (m := r_1.length) (c := c2) (k := .i64) (i := b) K2 K0 rfl rfl rfl (gi_isSome encI_len rfl (hS7.c 2) hx) (getI_nn hx) (getI_ltI hx rfl)) (hS7.se [0, 1, 3]) ?_ ?_
      ·skip
       refine rA [12] ?_
       refine rZ 12 rfl (yS 2 1 B2 3 (vi (bits .xor .i64 x x1)) [vi (bits .xor .i64 x x1)] (b.toNat * 1) ((r_1.set b.toNat (bits .xor .i64 x x1)).flatMap encI) hS7 K0 rfl rfl rfl rfl rfl rfl rfl (gi_fit0 encI_len hx) (gi_set encI_len hx (bits .xor .i64 x x1) rfl)) ?_ ?_
       ·rintro _ w_9 ⟨rfl, hS12⟩
        refine ⟨(hS12.se [0, 1, 3]), ?_⟩
        refine ra_done (by kernel_rfl) ?_
        exact ⟨(fc rfl (fc rfl fn_)), (hS12.sel [1, 3, 2] rfl rfl)⟩
       exact aN
      exact aN
     exact aN
    exact aN
   refine ra_y 21 (i := 9) (v := vi x1) rfl rfl rfl (yl B2 (a.toNat * 1) (r_1.flatMap encI) (vi x1) K1 (hS7.c 2) rfl rfl (gi_at0 encI_len hx1 rfl)) (hS7.se [0, 1, 3]) ?_ ?_
   ·skip
    refine rA [3] ?_
    refine ra_y 15 (i := 3) (v := pt B2 (b.toNat * 1)) rfl rfl rfl (Y_index (B := B2) (m := r_1.length) (c := c2) (k := .i64) (i := b) K2 K0 rfl rfl rfl (gi_isSome encI_len rfl (hS7.c 2) hx) (getI_nn hx) (getI_ltI hx rfl)) (hS7.se [0, 1, 3]) ?_ ?_
    ·skip
     refine rA [4] ?_
     refine ra_y 16 (i := 4) (v := vi x) rfl rfl rfl (yl B2 (b.toNat * 1) (r_1.flatMap encI) (vi x) K1 (hS7.c 2) rfl rfl (gi_at0 encI_len hx rfl)) (hS7.se [0, 1, 3]) ?_ ?_
     ·skip
      refine rq 10 22 (v := vi (bits .xor .i64 x x1)) rfl (hS7.se [0, 1, 3]) (fun w' hw' => (Y_bxor (k := .i64) (a := x) (b := x1) rfl rfl rfl)) ?_
      refine rA [11] ?_
      refine ra_y 23 (i := 11) (v := pt B2 (b.toNat * 1)) rfl rfl rfl (Y_index (B := B2) (m := r_1.length) (c := c2) (k := .i64) (i := b) K2 K0 rfl rfl rfl (gi_isSome encI_len rfl (hS7.c 2) hx) (getI_nn hx) (getI_ltI hx rfl)) (hS7.se [0, 1, 3]) ?_ ?_
      ·skip
       refine rA [12] ?_
       refine rZ 12 rfl (yS 2 1 B2 3 (vi (bits .xor .i64 x x1)) [vi (bits .xor .i64 x x1)] (b.toNat * 1) ((r_1.set b.toNat (bits .xor .i64 x x1)).flatMap encI) hS7 K0 rfl rfl rfl rfl rfl rfl rfl (gi_fit0 encI_len hx) (gi_set encI_len hx (bits .xor .i64 x x1) rfl)) ?_ ?_
       ·rintro _ w_10 ⟨rfl, hS13⟩
        refine ⟨(hS13.se [0, 1, 3]), ?_⟩
        refine ra_done (by kernel_rfl) ?_
        exact ⟨(fc rfl (fc rfl fn_)), (hS13.sel [1, 3, 2] rfl rfl)⟩
       exact aN
      exact aN
     exact aN
    exact aN
   exact aN
  exact aN
 rintro f w ⟨hf, hS6⟩
 refine cq (cr ?_)
 refine sQ 24 (yb (aD b3) 0 [.slice B2 r_1.length c2] K51 K19 (hS6.c 1) rfl (hf.g 7 1)) ?_
 refine s0 (yT 0 1 (aD b2) 60 (.agg #[.slice B2 r_1.length c2]) [.slice B2 r_1.length c2] 0 hS6 K19 rfl (hf.g 6 0)) ?_
 rintro _ w_11 ⟨rfl, hS14⟩
 refine rn (ct_ ?_)
 obtain rfl := sI hF
 exact ret1 Tryz.results135 (v1 := .agg #[.slice B2 r_1.length c2]) (resAt_cellA (B := aD b2) (i := 0) (cs := [.slice B2 r_1.length c2]) (vs := [.slice B2 r_1.length c2]) (hf.g 6 0) K51 K19 (hS14.c 0) rfl rfl) ⟨B2, c2, (by simp [(set_len _ _ _ rfl)]), (hS14.sN [2])⟩

theorem c_spec_l13Coef (kind : Int)  (w0 : World)  (hS : ST w0 [] w0 [] []) {r_ : Int} (hF : F_spec_l13Coef kind = some r_) :
  CV Tryz.prog 136 #[vi kind] w0 (fun v w' => v = vi r_ ∧ ST w0 [] w' [] []) := by
 unfold F_spec_l13Coef at hF
 refine cv_of_cw 14 Tryz.func136 rfl Tryz.ntmps136 rfl ?_
 refine cq (cr ?_)
 refine sQ 2 (yg (vi 0)) (rn (cq (cq (cr ?_))))
 refine sQ 3 (ym (vi kind)) (rn (cw_block (cq (cr ?_))))
 refine sQ 5 (yE kind 4) <| sQ 4 (yg (.bool (kind == 4))) (rn ?_)
 refine cw_cond (b := (kind == 4)) rfl (fun hb => ?_) (fun hb => ?_)
 ·skip
  have hF1 := ct hF hb
  refine cq (cr ?_)
  refine sQ 2 (yg (vi 4)) (rn (ct_ ?_))
  obtain rfl := sI hF1
  exact ret1 Tryz.results136 (v1 := vi 4) (resAt_tmp rfl) ⟨rfl, (hS.sN [])⟩
 ·skip
  have hF2 := cf' hF hb
  refine cq (cr ?_)
  refine sQ 7 (yE kind 5) <| sQ 6 (yg (.bool (kind == 5))) (rn ?_)
  refine cw_cond (b := (kind == 5)) rfl (fun hb1 => ?_) (fun hb1 => ?_)
  ·skip
   have hF3 := ct hF2 hb1
   refine cq (cr ?_)
   refine sQ 2 (yg (vi 2)) (rn (ct_ ?_))
   obtain rfl := sI hF3
   exact ret1 Tryz.results136 (v1 := vi 2) (resAt_tmp rfl) ⟨rfl, (hS.sN [])⟩
  ·skip
   have hF4 := cf' hF2 hb1
   refine cq (cr ?_)
   refine sQ 9 (yE kind 6) <| sQ 8 (yg (.bool (kind == 6))) (rn ?_)
   refine cw_cond (b := (kind == 6)) rfl (fun hb2 => ?_) (fun hb2 => ?_)
   ·skip
    have hF5 := ct hF4 hb2
    refine cq (cr ?_)
    refine sQ 2 (yg (vi 6)) (rn (ct_ ?_))
    obtain rfl := sI hF5
    exact ret1 Tryz.results136 (v1 := vi 6) (resAt_tmp rfl) ⟨rfl, (hS.sN [])⟩
   ·skip
    have hF6 := cf' hF4 hb2
    refine cq (cr ?_)
    refine sQ 11 (yE kind 7) <| sQ 10 (yg (.bool (kind == 7))) (rn ?_)
    refine cw_cond (b := (kind == 7)) rfl (fun hb3 => ?_) (fun hb3 => ?_)
    ·skip
     have hF7 := ct hF6 hb3
     refine cq (cr ?_)
     refine sQ 2 (yg (vi 1)) (rn (ct_ ?_))
     obtain rfl := sI hF7
     exact ret1 Tryz.results136 (v1 := vi 1) (resAt_tmp rfl) ⟨rfl, (hS.sN [])⟩
    ·skip
     have hF8 := cf' hF6 hb3
     refine cq (cr ?_)
     refine sQ 13 (yE kind 8) <| sQ 12 (yg (.bool (kind == 8))) (rn ?_)
     refine cw_cond (b := (kind == 8)) rfl (fun hb4 => ?_) (fun hb4 => ?_)
     ·skip
      have hF9 := ct hF8 hb4
      refine cq (cr ?_)
      refine sQ 2 (yg (vi 7)) (rn (ct_ ?_))
      obtain rfl := sI hF9
      exact ret1 Tryz.results136 (v1 := vi 7) (resAt_tmp rfl) ⟨rfl, (hS.sN [])⟩
     ·skip
      have hF10 := cf' hF8 hb4
      refine cw_skip (cq (cr ?_))
      refine sQ 2 (yg (vi 0)) (rn (ct_ ?_))
      obtain rfl := sI hF10
      exact ret1 Tryz.results136 (v1 := vi 0) (resAt_tmp rfl) ⟨rfl, (hS.sN [])⟩
end Go.VK
