/- Walks: each Go function returns what its Lean function says. By program. -/
import Derived.Test.YtchihdcajdocgaaGreatDoorLCliffordWordsFa
set_option linter.unusedVariables false
set_option maxRecDepth 100000
set_option maxHeartbeats 4000000
namespace Go.VK
open Go.RowKit
open Go.Proofs
open Go.IntKind
attribute [local irreducible] CW RW RA CV Y Yw Yc Ys RetOf
attribute [local irreducible] F_laws_big F_spec_l1Has F_spec_l3Dim F_spec_l1In F_spec_l1All F_spec_l1Good F_spec_l1Even F_spec_l2Good F_spec_l3Good F_spec_l2C_ring F_spec_l1Root F_spec_l1Half F_spec_l2Low F_spec_l1Add F_spec_l2C_add F_spec_l1Mul F_spec_l2C_mul F_spec_l2C_times F_spec_l1Turn F_spec_l2Power F_spec_l3Unit F_spec_l1Conj F_spec_l2Conj F_spec_l3Adj F_spec_EqualMatrices F_spec_IsUnitary F_spec_l9Good F_spec_l1Neg F_spec_l2Neg F_spec_l6One F_spec_l9Pauli F_spec_l9Bloch F_spec_BlochOf F_impl_within F_impl_isCoef F_impl_IsValidRing F_impl_isEven F_impl_IsValidDyadic F_impl_ringIf F_impl_MulRing
theorem c_laws_big (code : List Int) (more : List Int) (B : Option Addr) (c n : Nat) (B1 : Option Addr) (c1 n1 : Nat) (w0 : World) (hn : code.length = n) (hn1 : more.length = n1) (hS : ST w0 [] w0 [] [⟨B, (code.flatMap enc_u8)⟩, ⟨B1, (more.flatMap enc_u8)⟩]) {r_ : Bool} (hF : F_laws_big code more = some r_) :
  CV Tryz.prog 5 #[.slice B n c, .slice B1 n1 c1] w0 (fun v w' => v = .bool r_ ∧ ST w0 [] w' [] []) := by
 subst hn
 subst hn1
 unfold F_laws_big at hF
 refine cv_of_cw 16 Tryz.func5 rfl Tryz.ntmps5 rfl ?_
 refine cq (cr ?_)
 refine sQ 4 (yg (.bool false)) (rn (cq (cr ?_)))
 refine sQ 5 (ym (.slice B code.length c)) <| sQ 6 (Y_len (B := B) (m := code.length) (c := c) K60 rfl rfl) <| sQ 7 (Y_gt (k := .i64) (a := (code.length : Int)) (b := 1048576) rfl rfl rfl) <| sQ 8 (ym (.bool (decide (1048576 < (code.length : Int))))) ?_
 refine sgq 9 (B := (!(decide (1048576 < (code.length : Int))))) (v := .slice B1 more.length c1) rfl rfl (uF_ 8) (fun hg => (ym (.slice B1 more.length c1))) ?_
 refine sgq 10 (B := (!(decide (1048576 < (code.length : Int))))) (v := vi (more.length : Int)) rfl rfl (uF_ 8) (fun hg1 => (Y_len (B := B1) (m := more.length) (c := c1) K60 rfl (gv_of (v := .slice B1 more.length c1) hg1))) ?_
 refine sgq 11 (B := (!(decide (1048576 < (code.length : Int))))) (v := .slice B code.length c) rfl rfl (uF_ 8) (fun hg2 => (ym (.slice B code.length c))) ?_
 refine sgq 12 (B := (!(decide (1048576 < (code.length : Int))))) (v := vi (code.length : Int)) rfl rfl (uF_ 8) (fun hg3 => (Y_len (B := B) (m := code.length) (c := c) K60 rfl (gv_of (v := .slice B code.length c) hg3))) ?_
 refine sgq 13 (B := (!(decide (1048576 < (code.length : Int))))) (v := vi (i64.wrap (1048576 - (code.length : Int)))) rfl rfl (uF_ 8) (fun hg4 => (yM 1048576 (code.length : Int) rfl rfl (gv_of (v := vi (code.length : Int)) hg4))) ?_
 refine sgq 14 (B := (!(decide (1048576 < (code.length : Int))))) (v := .bool (decide ((i64.wrap (1048576 - (code.length : Int))) < (more.length : Int)))) rfl rfl (uF_ 8) (fun hg5 => (Y_gt (k := .i64) (a := (more.length : Int)) (b := (i64.wrap (1048576 - (code.length : Int)))) rfl (gv_of (v := vi (more.length : Int)) hg5) (gv_of (v := vi (i64.wrap (1048576 - (code.length : Int)))) hg5))) ?_
 refine sQ 15 (Y_or (b := (decide (1048576 < (code.length : Int)))) (z := (decide ((i64.wrap (1048576 - (code.length : Int))) < (more.length : Int)))) rfl rfl rfl rfl) <| sQ 4 (yg (.bool ((decide (1048576 < (code.length : Int))) || (decide ((i64.wrap (1048576 - (code.length : Int))) < (more.length : Int)))))) (rn (ct_ ?_))
 obtain rfl := sI hF
 exact ret1 Tryz.results5 (v1 := .bool ((decide (1048576 < (code.length : Int))) || (decide ((i64.wrap (1048576 - (code.length : Int))) < (more.length : Int))))) (resAt_tmp rfl) ⟨rfl, (hS.sN [])⟩

theorem c_spec_l1Has (l : List Int) (n1 : Int) (B : Option Addr) (c n : Nat) (w0 : World) (hn : l.length = n) (hS : ST w0 [] w0 [] [⟨B, (l.flatMap encI)⟩]) {r_ : Bool} (hF : F_spec_l1Has l n1 = some r_) :
  CV Tryz.prog 118 #[.slice B n c, vi n1] w0 (fun v w' => v = .bool r_ ∧ ST w0 [] w' [] []) := by
 subst hn
 unfold F_spec_l1Has at hF
 refine cv_of_cw 17 Tryz.func118 rfl Tryz.ntmps118 rfl ?_
 refine cq (cr ?_)
 refine sQ 4 (yg (.bool false)) (rn (cq (cq (cr ?_))))
 refine sQ 7 (ym (.slice B l.length c)) <| sQ 8 (Y_len (B := B) (m := l.length) (c := c) K53 rfl rfl) <| sQ 9 (ym (vi 0)) (rn ?_)
 obtain ⟨hN, hF⟩ := chk_inv hF
 obtain ⟨z, hz, hF1⟩ := bI hF
 refine cw_block ?_
 refine cw_loop (fun k f w => ∃ (i : Nat), FF f [(1, vi n1), (7, .slice B l.length c), (8, vi (l.length : Int)), (9, vi (i : Int))] ∧ ST w0 [] w [] [⟨B, (l.flatMap encI)⟩] ∧ i + k = l.length ∧ forX (F_spec_l1Has_l1 l n1) k i () = some z) l.length ⟨0, (fc rfl (fc rfl (fc rfl (fc rfl fn_)))), (hS.sel [] rfl rfl), Nat.zero_add _, hz⟩ ?_
 rintro k_ f w ⟨i, hf, hS1, hik, hL⟩
 refine cq (cr ?_)
 refine sQ 10 (yL (i : Int) (l.length : Int) rfl (hf.g 9 3) (hf.g 8 2)) (rn (cq ?_))
 refine cw_cond (b := (decide ((i : Int) < (l.length : Int)))) rfl (fun hlt => ?_) (fun hlt => ?_)
 ·skip
  have hlt1 : i < l.length := by have h := of_decide_eq_true hlt; omega
  obtain ⟨K9, rfl⟩ : ∃ k2, k_ = k2 + 1 := ⟨k_ - 1, by omega⟩
  obtain ⟨y, hb, hL1⟩ := forX_go hL
  unfold F_spec_l1Has_l1 at hb
  refine cw_skip (cq (cw_block (cq (cr ?_))))
  obtain ⟨x, hx, hb⟩ := bI hb
  refine sQ 11 (Y_index (B := B) (m := l.length) (c := c) (k := .i64) (i := (i : Int)) K53 K2 rfl (hf.g 7 1) (hf.g 9 3) (gi_isSome encI_len rfl (hS1.rf (i := 0) rfl) hx) (getI_nn hx) (getI_ltI hx rfl)) <| sQ 12 (yl B ((i : Int).toNat * 1) (l.flatMap encI) (vi x) K1 (hS1.rf (i := 0) rfl) rfl rfl (gi_at0 encI_len hx rfl)) <| sQ 6 (yg (vi x)) (rn (cq (cr ?_)))
  refine sQ 13 (ym (vi x)) <| sQ 14 (ym (vi n1) rfl (hf.g 1 0)) <| sQ 15 (yE x n1) (rn ?_)
  refine cw_cond (b := (x == n1)) rfl (fun hb1 => ?_) (fun hb1 => ?_)
  ·skip
   have hF2 := ct hb hb1
   refine cq (cr ?_)
   refine sQ 4 (yg (.bool true)) (rn (ct_ ?_))
   obtain rfl := sI hF2
   obtain rfl := sI hL1
   obtain rfl := sI hF1
   exact ret1 Tryz.results118 (v1 := .bool true) (resAt_tmp rfl) ⟨rfl, (hS1.sN [])⟩
  ·skip
   have hF3 := cf' hb hb1
   refine cw_skip (cr ?_)
   refine sQ 16 (yP (i : Int) 1 rfl (hf.g 9 3)) <| sQ 9 (ym (vi (i64.wrap ((i : Int) + 1)))) (rn ?_)
   obtain rfl := sI hF3
   exact ⟨K9, Nat.lt_succ_self _, i + 1, (fc (hf.g 1 0) (fc (hf.g 7 1) (fc (hf.g 8 2) (fc (congrArg (Value.int .i64) (wr_succ hlt1 hN)) fn_)))), (hS1.sel [] rfl rfl), (by omega), hL1⟩
 ·skip
  obtain rfl : k_ = 0 := by have h := of_decide_eq_false hlt; omega
  refine cw_exit rfl ?_
  obtain rfl := sI hL
  refine cq (cr ?_)
  refine sQ 4 (yg (.bool false)) (rn (ct_ ?_))
  obtain rfl := sI hF1
  exact ret1 Tryz.results118 (v1 := .bool false) (resAt_tmp rfl) ⟨rfl, (hS1.sN [])⟩

theorem c_spec_l3Dim (n : Int)  (w0 : World)  (hS : ST w0 [] w0 [] []) {r_ : Bool} (hF : F_spec_l3Dim n = some r_) :
  CV Tryz.prog 62 #[vi n] w0 (fun v w' => v = .bool r_ ∧ ST w0 [] w' [] []) := by
 unfold F_spec_l3Dim at hF
 refine cv_of_cw 6 Tryz.func62 rfl Tryz.ntmps62 rfl ?_
 refine cq (cr ?_)
 refine sQ 2 (yg (.bool false)) (rn (cq (cr ?_)))
 refine sS 3 (Ys_bslice (s := 1) (len := 6) (vs := [(0, vi 1), (1, vi 2), (2, vi 4), (3, vi 8), (4, vi 16), (5, vi 32)]) (cs := [vi 1, vi 2, vi 4, vi 8, vi 16, vi 32]) (zs := [vi 0, vi 0, vi 0, vi 0, vi 0, vi 0]) (m := 6) hS K53 K2 K108 rfl (mpc rfl (mpc rfl (mpc rfl (mpc rfl (mpc rfl (mpc rfl mpn)))))) rfl rfl rfl (by kernel_rfl) (by kernel_rfl) rfl) ?_
 rintro _ w_ ⟨b, rfl, hS1⟩
 refine sQ 4 (ym (vi n)) ?_
 obtain ⟨r_1, hc, hF⟩ := bI hF
 refine sc 5 rfl rfl (yC [.slice (aD b) 6 6, vi n] k_call_118 (c_spec_l1Has [1, 2, 4, 8, 16, 32] n (aD b) 6 6 _ rfl (hS1.inn0 [(false, 0)] rfl) hc)) ?_
 rintro _ w_1 ⟨rfl, hd⟩
 have hS2 := hS1.out00 hd
 refine sQ 2 (yg (.bool r_1)) (rn (ct_ ?_))
 obtain rfl := sI hF
 exact ret1 Tryz.results62 (v1 := .bool r_1) (resAt_tmp rfl) ⟨rfl, (hS2.sN [])⟩

theorem c_spec_l1In (n : Int) (lo : Int) (hi : Int)  (w0 : World)  (hS : ST w0 [] w0 [] []) {r_ : Bool} (hF : F_spec_l1In n lo hi = some r_) :
  CV Tryz.prog 37 #[vi n, vi lo, vi hi] w0 (fun v w' => v = .bool r_ ∧ ST w0 [] w' [] []) := by
 unfold F_spec_l1In at hF
 refine cv_of_cw 15 Tryz.func37 rfl Tryz.ntmps37 rfl ?_
 refine cq (cr ?_)
 refine sQ 6 (yg (.bool false)) (rn (cq (cr ?_)))
 refine sQ 7 (ym (vi n)) <| sQ 8 (ym (vi lo)) <| sQ 9 (Y_ge (k := .i64) (a := n) (b := lo) rfl rfl rfl) <| sQ 10 (ym (.bool (decide (lo ≤ n)))) ?_
 refine sgq 11 (B := (decide (lo ≤ n))) (v := vi n) rfl rfl (uT_ 10) (fun hg => (ym (vi n))) ?_
 refine sgq 12 (B := (decide (lo ≤ n))) (v := vi hi) rfl rfl (uT_ 10) (fun hg1 => (ym (vi hi))) ?_
 refine sgq 13 (B := (decide (lo ≤ n))) (v := .bool (decide (n ≤ hi))) rfl rfl (uT_ 10) (fun hg2 => (Y_le (k := .i64) (a := n) (b := hi) rfl (gv_of (v := vi n) hg2) (gv_of (v := vi hi) hg2))) ?_
 refine sQ 14 (Y_and (b := (decide (lo ≤ n))) (z := (decide (n ≤ hi))) rfl rfl rfl rfl) <| sQ 6 (yg (.bool ((decide (lo ≤ n)) && (decide (n ≤ hi))))) (rn (ct_ ?_))
 obtain rfl := sI hF
 exact ret1 Tryz.results37 (v1 := .bool ((decide (lo ≤ n)) && (decide (n ≤ hi)))) (resAt_tmp rfl) ⟨rfl, (hS.sN [])⟩

theorem c_spec_l1All (l : List Int) (lo : Int) (hi : Int) (B : Option Addr) (c n : Nat) (w0 : World) (hn : l.length = n) (hS : ST w0 [] w0 [] [⟨B, (l.flatMap encI)⟩]) {r_ : Bool} (hF : F_spec_l1All l lo hi = some r_) :
  CV Tryz.prog 144 #[.slice B n c, vi lo, vi hi] w0 (fun v w' => v = .bool r_ ∧ ST w0 [] w' [] []) := by
 subst hn
 unfold F_spec_l1All at hF
 refine cv_of_cw 21 Tryz.func144 rfl Tryz.ntmps144 rfl ?_
 refine cq (cr ?_)
 refine sQ 6 (yg (.bool false)) (rn (cq (cq (cr ?_))))
 refine sQ 9 (ym (.slice B l.length c)) <| sQ 10 (Y_len (B := B) (m := l.length) (c := c) K53 rfl rfl) <| sQ 11 (ym (vi 0)) (rn ?_)
 obtain ⟨hN, hF⟩ := chk_inv hF
 obtain ⟨z, hz, hF1⟩ := bI hF
 refine cw_block ?_
 refine cw_loop (fun k f w => ∃ (i : Nat), FF f [(1, vi lo), (2, vi hi), (9, .slice B l.length c), (10, vi (l.length : Int)), (11, vi (i : Int))] ∧ ST w0 [] w [] [⟨B, (l.flatMap encI)⟩] ∧ i + k = l.length ∧ forX (F_spec_l1All_l1 l lo hi) k i () = some z) l.length ⟨0, (fc rfl (fc rfl (fc rfl (fc rfl (fc rfl fn_))))), (hS.sel [] rfl rfl), Nat.zero_add _, hz⟩ ?_
 rintro k_ f w ⟨i, hf, hS1, hik, hL⟩
 refine cq (cr ?_)
 refine sQ 12 (yL (i : Int) (l.length : Int) rfl (hf.g 11 4) (hf.g 10 3)) (rn (cq ?_))
 refine cw_cond (b := (decide ((i : Int) < (l.length : Int)))) rfl (fun hlt => ?_) (fun hlt => ?_)
 ·skip
  have hlt1 : i < l.length := by have h := of_decide_eq_true hlt; omega
  obtain ⟨K9, rfl⟩ : ∃ k2, k_ = k2 + 1 := ⟨k_ - 1, by omega⟩
  obtain ⟨y, hb, hL1⟩ := forX_go hL
  unfold F_spec_l1All_l1 at hb
  refine cw_skip (cq (cw_block (cq (cr ?_))))
  obtain ⟨x, hx, hb⟩ := bI hb
  refine sQ 13 (Y_index (B := B) (m := l.length) (c := c) (k := .i64) (i := (i : Int)) K53 K2 rfl (hf.g 9 2) (hf.g 11 4) (gi_isSome encI_len rfl (hS1.rf (i := 0) rfl) hx) (getI_nn hx) (getI_ltI hx rfl)) <| sQ 14 (yl B ((i : Int).toNat * 1) (l.flatMap encI) (vi x) K1 (hS1.rf (i := 0) rfl) rfl rfl (gi_at0 encI_len hx rfl)) <| sQ 8 (yg (vi x)) (rn (cq (cr ?_)))
  refine sQ 15 (ym (vi x)) <| sQ 16 (ym (vi lo) rfl (hf.g 1 0)) <| sQ 17 (ym (vi hi) rfl (hf.g 2 1)) ?_
  obtain ⟨r_1, hc, hb⟩ := bI hb
  refine sc 18 rfl rfl (yC [vi x, vi lo, vi hi] K61 (c_spec_l1In x lo hi _  (hS1.inn0 [] rfl) hc)) ?_
  rintro _ w_ ⟨rfl, hd⟩
  have hS2 := hS1.out00 hd
  refine sQ 19 (Y_not (p := r_1) rfl rfl) (rn ?_)
  refine cw_cond (b := (!r_1)) rfl (fun hb1 => ?_) (fun hb1 => ?_)
  ·skip
   have hF2 := ct hb hb1
   refine cq (cr ?_)
   refine sQ 6 (yg (.bool false)) (rn (ct_ ?_))
   obtain rfl := sI hF2
   obtain rfl := sI hL1
   obtain rfl := sI hF1
   exact ret1 Tryz.results144 (v1 := .bool false) (resAt_tmp rfl) ⟨rfl, (hS2.sN [])⟩
  ·skip
   have hF3 := cf' hb hb1
   refine cw_skip (cr ?_)
   refine sQ 20 (yP (i : Int) 1 rfl (hf.g 11 4)) <| sQ 11 (ym (vi (i64.wrap ((i : Int) + 1)))) (rn ?_)
   obtain rfl := sI hF3
   exact ⟨K9, Nat.lt_succ_self _, i + 1, (fc (hf.g 1 0) (fc (hf.g 2 1) (fc (hf.g 9 2) (fc (hf.g 10 3) (fc (congrArg (Value.int .i64) (wr_succ hlt1 hN)) fn_))))), (hS2.sel [] rfl rfl), (by omega), hL1⟩
 ·skip
  obtain rfl : k_ = 0 := by have h := of_decide_eq_false hlt; omega
  refine cw_exit rfl ?_
  obtain rfl := sI hL
  refine cq (cr ?_)
  refine sQ 6 (yg (.bool true)) (rn (ct_ ?_))
  obtain rfl := sI hF1
  exact ret1 Tryz.results144 (v1 := .bool true) (resAt_tmp rfl) ⟨rfl, (hS1.sN [])⟩

theorem c_spec_l1Good (x : TRing)  (w0 : World)  (hS : ST w0 [] w0 [] []) {r_ : Bool} (hF : F_spec_l1Good x = some r_) :
  CV Tryz.prog 119 #[gR_ x] w0 (fun v w' => v = .bool r_ ∧ ST w0 [] w' [] []) := by
 unfold F_spec_l1Good at hF
 refine cv_of_cw 13 Tryz.func119 rfl Tryz.ntmps119 rfl ?_
 refine cq (cr ?_)
 refine sS 1 (yB 52 (gR_ x) (kR_ x) 4 hS) ?_
 rintro _ w_ ⟨b, rfl, hS1⟩
 refine sQ 2 (yg (.bool false)) (rn (cq (cr ?_)))
 refine sQ 3 (yd (aD b) 0 0 K20 K2) <| sQ 4 (yl (aD b) 0 (kR_ x) (vi x.A) K1 (hS1.c 0)) <| sQ 5 (yd (aD b) 0 0 K21 K2) <| sQ 6 (yl (aD b) 1 (kR_ x) (vi x.B) K1 (hS1.c 0)) <| sQ 7 (yd (aD b) 0 0 K22 K2) <| sQ 8 (yl (aD b) 2 (kR_ x) (vi x.C) K1 (hS1.c 0)) ?_
 refine sQ 9 (yd (aD b) 0 0 K23 K2) <| sQ 10 (yl (aD b) 3 (kR_ x) (vi x.D) K1 (hS1.c 0)) ?_
 refine sS 11 (Ys_bslice (s := 1) (len := 4) (vs := [(0, vi x.A), (1, vi x.B), (2, vi x.C), (3, vi x.D)]) (cs := kR_ x) (zs := [vi 0, vi 0, vi 0, vi 0]) (m := 4) hS1 K53 K2 K108 rfl (mpc rfl (mpc rfl (mpc rfl (mpc rfl mpn)))) rfl rfl rfl (by kernel_rfl) (by kernel_rfl) rfl) ?_
 rintro _ w_1 ⟨b1, rfl, hS2⟩
 obtain ⟨r_1, hc, hF⟩ := bI hF
 refine sc 12 rfl rfl (yC [.slice (aD b1) 4 4, vi (-1000000000), vi 1000000000] k_call_144 (c_spec_l1All [x.A, x.B, x.C, x.D] (-1000000000) 1000000000 (aD b1) 4 4 _ rfl (hS2.inn0 [(false, 1)] rfl) hc)) ?_
 rintro _ w_2 ⟨rfl, hd⟩
 have hS3 := hS2.out00 hd
 refine sQ 2 (yg (.bool r_1)) (rn (ct_ ?_))
 obtain rfl := sI hF
 exact ret1 Tryz.results119 (v1 := .bool r_1) (resAt_tmp rfl) ⟨rfl, (hS3.sN [])⟩

theorem c_spec_l1Even (x : TRing)  (w0 : World)  (hS : ST w0 [] w0 [] []) {r_ : Bool} (hF : F_spec_l1Even x = some r_) :
  CV Tryz.prog 120 #[gR_ x] w0 (fun v w' => v = .bool r_ ∧ ST w0 [] w' [] []) := by
 unfold F_spec_l1Even at hF
 refine cv_of_cw 19 Tryz.func120 rfl Tryz.ntmps120 rfl ?_
 refine cq (cr ?_)
 refine sS 1 (yB 52 (gR_ x) (kR_ x) 4 hS) ?_
 rintro _ w_ ⟨b, rfl, hS1⟩
 refine sQ 2 (yg (.bool false)) (rn (cq (cr ?_)))
 refine sQ 3 (yd (aD b) 0 0 K20 K2) <| sQ 4 (yl (aD b) 0 (kR_ x) (vi x.A) K1 (hS1.c 0)) <| sQ 5 (yd (aD b) 0 0 K22 K2) <| sQ 6 (yl (aD b) 2 (kR_ x) (vi x.C) K1 (hS1.c 0)) <| sQ 7 (yP x.A x.C) <| sQ 8 (Y_rem (k := .i64) (a := (i64.wrap (x.A + x.C))) (b := 2) rfl rfl rfl (by decide)) ?_
 refine sQ 9 (yE (Int.tmod (i64.wrap (x.A + x.C)) 2) 0) <| sQ 10 (ym (.bool ((Int.tmod (i64.wrap (x.A + x.C)) 2) == 0))) ?_
 refine sgq 11 (B := ((Int.tmod (i64.wrap (x.A + x.C)) 2) == 0)) (v := pt (aD b) 1) rfl rfl (uT_ 10) (fun hg => (yd (aD b) 0 0 K21 K2)) ?_
 refine sgq 12 (B := ((Int.tmod (i64.wrap (x.A + x.C)) 2) == 0)) (v := vi x.B) rfl rfl (uT_ 10) (fun hg1 => (yl (aD b) 1 (kR_ x) (vi x.B) K1 (hS1.c 0) rfl (gv_of (v := pt (aD b) 1) hg1))) ?_
 refine sgq 13 (B := ((Int.tmod (i64.wrap (x.A + x.C)) 2) == 0)) (v := pt (aD b) 3) rfl rfl (uT_ 10) (fun hg2 => (yd (aD b) 0 0 K23 K2)) ?_
 refine sgq 14 (B := ((Int.tmod (i64.wrap (x.A + x.C)) 2) == 0)) (v := vi x.D) rfl rfl (uT_ 10) (fun hg3 => (yl (aD b) 3 (kR_ x) (vi x.D) K1 (hS1.c 0) rfl (gv_of (v := pt (aD b) 3) hg3))) ?_
 refine sgq 15 (B := ((Int.tmod (i64.wrap (x.A + x.C)) 2) == 0)) (v := vi (i64.wrap (x.B + x.D))) rfl rfl (uT_ 10) (fun hg4 => (yP x.B x.D rfl (gv_of (v := vi x.B) hg4) (gv_of (v := vi x.D) hg4))) ?_
 refine sgq 16 (B := ((Int.tmod (i64.wrap (x.A + x.C)) 2) == 0)) (v := vi (Int.tmod (i64.wrap (x.B + x.D)) 2)) rfl rfl (uT_ 10) (fun hg5 => (Y_rem (k := .i64) (a := (i64.wrap (x.B + x.D))) (b := 2) rfl (gv_of (v := vi (i64.wrap (x.B + x.D))) hg5) rfl (by decide))) ?_
 refine sgq 17 (B := ((Int.tmod (i64.wrap (x.A + x.C)) 2) == 0)) (v := .bool ((Int.tmod (i64.wrap (x.B + x.D)) 2) == 0)) rfl rfl (uT_ 10) (fun hg6 => (yE (Int.tmod (i64.wrap (x.B + x.D)) 2) 0 rfl (gv_of (v := vi (Int.tmod (i64.wrap (x.B + x.D)) 2)) hg6))) ?_
 refine sQ 18 (Y_and (b := ((Int.tmod (i64.wrap (x.A + x.C)) 2) == 0)) (z := ((Int.tmod (i64.wrap (x.B + x.D)) 2) == 0)) rfl rfl rfl rfl) <| sQ 2 (yg (.bool (((Int.tmod (i64.wrap (x.A + x.C)) 2) == 0) && ((Int.tmod (i64.wrap (x.B + x.D)) 2) == 0)))) (rn (ct_ ?_))
 obtain rfl := sI hF
 exact ret1 Tryz.results120 (v1 := .bool (((Int.tmod (i64.wrap (x.A + x.C)) 2) == 0) && ((Int.tmod (i64.wrap (x.B + x.D)) 2) == 0))) (resAt_tmp rfl) ⟨rfl, (hS1.sN [])⟩

theorem c_spec_l2Good (x : TDyadic)  (w0 : World)  (hS : ST w0 [] w0 [] []) {r_ : Bool} (hF : F_spec_l2Good x = some r_) :
  CV Tryz.prog 63 #[gD_ x] w0 (fun v w' => v = .bool r_ ∧ ST w0 [] w' [] []) := by
 unfold F_spec_l2Good at hF
 refine cv_of_cw 22 Tryz.func63 rfl Tryz.ntmps63 rfl ?_
 refine cq (cr ?_)
 refine sS 1 (yB 54 (gD_ x) (kD_ x) 5 hS) ?_
 rintro _ w_ ⟨b, rfl, hS1⟩
 refine sQ 2 (yg (.bool false)) (rn (cq (cr ?_)))
 refine sQ 3 (yd (aD b) 0 3 K33 K4) <| sQ 4 (ya (aD b) 0 (kD_ x) (kR_ x.Num) K10 K4 (hS1.c 0)) ?_
 obtain ⟨r_1, hc, hF⟩ := bI hF
 refine sc 5 rfl rfl (yC [gR_ x.Num] k_call_119 (c_spec_l1Good x.Num _  (hS1.inn0 [] rfl) hc)) ?_
 rintro _ w_1 ⟨rfl, hd⟩
 have hS2 := hS1.out00 hd
 refine sQ 6 (ym (.bool r_1)) ?_
 refine sgq 7 (B := r_1) (v := pt (aD b) 4) rfl rfl (uT_ 6) (fun hg => (yd (aD b) 0 0 K30 K2)) ?_
 refine sgq 8 (B := r_1) (v := vi x.Exp) rfl rfl (uT_ 6) (fun hg1 => (yl (aD b) 4 (kD_ x) (vi x.Exp) K1 (hS2.c 0) rfl (gv_of (v := pt (aD b) 4) hg1))) ?_
 obtain ⟨r_2, hc1, hF⟩ := bI hF
 refine sgc 9 (B := r_1) (v := .bool r_2) (F := hS2.fn) rfl rfl (uT_ 6) hS2 (fun hg2 => (yC [vi x.Exp, vi 0, vi 60] K61 (CV.mono (c_spec_l1In x.Exp 0 60 _  (hS2.inn0 [] rfl) (gb_inv hc1 hg2)) (by rintro _ _ ⟨rfl, h⟩; exact ⟨rfl, hS2.out00 h⟩)) rfl (mc (gv_of (v := vi x.Exp) hg2) (mc rfl (mc rfl mn))))) ?_
 rintro w_2 hS3
 refine sQ 10 (Y_and (b := r_1) (z := r_2) rfl rfl rfl rfl) <| sQ 11 (ym (.bool (r_1 && r_2))) ?_
 refine sgq 12 (B := (r_1 && r_2)) (v := pt (aD b) 4) rfl rfl (uT_ 11) (fun hg3 => (yd (aD b) 0 0 K30 K2)) ?_
 refine sgq 13 (B := (r_1 && r_2)) (v := vi x.Exp) rfl rfl (uT_ 11) (fun hg4 => (yl (aD b) 4 (kD_ x) (vi x.Exp) K1 (hS3.c 0) rfl (gv_of (v := pt (aD b) 4) hg4))) ?_
 refine sgq 14 (B := (r_1 && r_2)) (v := .bool (x.Exp == 0)) rfl rfl (uT_ 11) (fun hg5 => (yE x.Exp 0 rfl (gv_of (v := vi x.Exp) hg5))) ?_
 refine sgq 15 (B := (r_1 && r_2)) (v := .bool (x.Exp == 0)) rfl rfl (uT_ 11) (fun hg6 => (ym (.bool (x.Exp == 0)) rfl (gv_of (v := .bool (x.Exp == 0)) hg6))) ?_
 refine sgq 16 (B := ((r_1 && r_2) && (!(x.Exp == 0)))) (v := pt (aD b) 0) rfl rfl (wt_gf (gd_of (t := 15) (by kernel_rfl) rfl)) (fun hg7 => (yd (aD b) 0 3 K33 K4)) ?_
 refine sgq 17 (B := ((r_1 && r_2) && (!(x.Exp == 0)))) (v := gR_ x.Num) rfl rfl (wt_gf (gd_of (t := 15) (by kernel_rfl) rfl)) (fun hg8 => (ya (aD b) 0 (kD_ x) (kR_ x.Num) K10 K4 (hS3.c 0) rfl (gv_of (v := pt (aD b) 0) hg8))) ?_
 obtain ⟨r_3, hc2, hF⟩ := bI hF
 refine sgc 18 (B := ((r_1 && r_2) && (!(x.Exp == 0)))) (v := .bool r_3) (F := hS3.fn) rfl rfl (wt_gf (gd_of (t := 15) (by kernel_rfl) rfl)) hS3 (fun hg9 => (yC [gR_ x.Num] k_call_120 (CV.mono (c_spec_l1Even x.Num _  (hS3.inn0 [] rfl) (gb_inv hc2 hg9)) (by rintro _ _ ⟨rfl, h⟩; exact ⟨rfl, hS3.out00 h⟩)) rfl (mc (gv_of (v := gR_ x.Num) hg9) mn))) ?_
 rintro w_3 hS4
 refine sgq 19 (B := ((r_1 && r_2) && (!(x.Exp == 0)))) (v := .bool (!r_3)) rfl rfl (wt_gf (gd_of (t := 15) (by kernel_rfl) rfl)) (fun hg10 => (Y_not (p := r_3) rfl (gv_of (v := .bool r_3) hg10))) ?_
 refine sgq 20 (B := (r_1 && r_2)) (v := .bool ((x.Exp == 0) || (!r_3))) rfl rfl (uT_ 11) (fun hg11 => (Y_or (b := (x.Exp == 0)) (z := (!r_3)) rfl (gv_of (v := .bool (x.Exp == 0)) hg11) rfl (gv_and (B := (r_1 && r_2)) (C := (!(x.Exp == 0))) (v := .bool (!r_3)) hg11))) ?_
 refine sQ 21 (Y_and (b := (r_1 && r_2)) (z := ((x.Exp == 0) || (!r_3))) rfl rfl rfl rfl) <| sQ 2 (yg (.bool ((r_1 && r_2) && ((x.Exp == 0) || (!r_3))))) (rn (ct_ ?_))
 obtain rfl := sI hF
 exact ret1 Tryz.results63 (v1 := .bool ((r_1 && r_2) && ((x.Exp == 0) || (!r_3)))) (resAt_tmp rfl) ⟨rfl, (hS4.sN [])⟩

theorem c_spec_l3Good (m : TMatrix) (B : Option Addr) (c n : Nat) (w0 : World) (hn : m.Cells.length = n) (hS : ST w0 [] w0 [] [⟨B, (m.Cells.flatMap eN0)⟩]) {r_ : Bool} (hF : F_spec_l3Good m = some r_) :
  CV Tryz.prog 27 #[.agg #[vi m.Rows, vi m.Cols, .slice B n c]] w0 (fun v w' => v = .bool r_ ∧ ST w0 [] w' [] []) := by
 subst hn
 unfold F_spec_l3Good at hF
 refine cv_of_cw 37 Tryz.func27 rfl Tryz.ntmps27 rfl ?_
 refine cq (cr ?_)
 refine sS 1 (yB 26 (gM_ m B c) (kM_ m B c) 3 hS) ?_
 rintro _ w_ ⟨b, rfl, hS1⟩
 refine sQ 2 (yg (.bool false)) (rn (cq (cq (cr ?_))))
 refine sQ 5 (yd (aD b) 0 0 K35 K2) <| sQ 6 (yl (aD b) 0 (kM_ m B c) (vi m.Rows) K1 (hS1.c 0)) ?_
 obtain ⟨r_1, hc, hF⟩ := bI hF
 refine sc 7 rfl rfl (yC [vi m.Rows] k_call_62 (c_spec_l3Dim m.Rows _  (hS1.inn0 [] rfl) hc)) ?_
 rintro _ w_1 ⟨rfl, hd⟩
 have hS2 := hS1.out00 hd
 refine sQ 8 (Y_not (p := r_1) rfl rfl) <| sQ 9 (ym (.bool (!r_1))) ?_
 refine sgq 10 (B := (!(!r_1))) (v := pt (aD b) 1) rfl rfl (uF_ 9) (fun hg => (yd (aD b) 0 0 K31 K2)) ?_
 refine sgq 11 (B := (!(!r_1))) (v := vi m.Cols) rfl rfl (uF_ 9) (fun hg1 => (yl (aD b) 1 (kM_ m B c) (vi m.Cols) K1 (hS2.c 0) rfl (gv_of (v := pt (aD b) 1) hg1))) ?_
 obtain ⟨r_2, hc1, hF⟩ := bI hF
 refine sgc 12 (B := (!(!r_1))) (v := .bool r_2) (F := hS2.fn) rfl rfl (uF_ 9) hS2 (fun hg2 => (yC [vi m.Cols] k_call_62 (CV.mono (c_spec_l3Dim m.Cols _  (hS2.inn0 [] rfl) (gb_inv hc1 hg2)) (by rintro _ _ ⟨rfl, h⟩; exact ⟨rfl, hS2.out00 h⟩)) rfl (mc (gv_of (v := vi m.Cols) hg2) mn))) ?_
 rintro w_2 hS3
 refine sgq 13 (B := (!(!r_1))) (v := .bool (!r_2)) rfl rfl (uF_ 9) (fun hg3 => (Y_not (p := r_2) rfl (gv_of (v := .bool r_2) hg3))) ?_
 refine sQ 14 (Y_or (b := (!r_1)) (z := (!r_2)) rfl rfl rfl rfl) <| sQ 15 (ym (.bool ((!r_1) || (!r_2)))) ?_
 refine sgq 16 (B := (!((!r_1) || (!r_2)))) (v := pt (aD b) 2) rfl rfl (uF_ 15) (fun hg4 => (yd (aD b) 0 0 K27 K8)) ?_
 refine sgq 17 (B := (!((!r_1) || (!r_2)))) (v := .slice B m.Cells.length c) rfl rfl (uF_ 15) (fun hg5 => (yl (aD b) 2 (kM_ m B c) (.slice B m.Cells.length c) K12 (hS3.c 0) rfl (gv_of (v := pt (aD b) 2) hg5))) ?_
 refine sgq 18 (B := (!((!r_1) || (!r_2)))) (v := vi (m.Cells.length : Int)) rfl rfl (uF_ 15) (fun hg6 => (Y_len (B := B) (m := m.Cells.length) (c := c) K7 rfl (gv_of (v := .slice B m.Cells.length c) hg6))) ?_
 refine sgq 19 (B := (!((!r_1) || (!r_2)))) (v := pt (aD b) 0) rfl rfl (uF_ 15) (fun hg7 => (yd (aD b) 0 0 K35 K2)) ?_
 refine sgq 20 (B := (!((!r_1) || (!r_2)))) (v := vi m.Rows) rfl rfl (uF_ 15) (fun hg8 => (yl (aD b) 0 (kM_ m B c) (vi m.Rows) K1 (hS3.c 0) rfl (gv_of (v := pt (aD b) 0) hg8))) ?_
 refine sgq 21 (B := (!((!r_1) || (!r_2)))) (v := pt (aD b) 1) rfl rfl (uF_ 15) (fun hg9 => (yd (aD b) 0 0 K31 K2)) ?_
 refine sgq 22 (B := (!((!r_1) || (!r_2)))) (v := vi m.Cols) rfl rfl (uF_ 15) (fun hg10 => (yl (aD b) 1 (kM_ m B c) (vi m.Cols) K1 (hS3.c 0) rfl (gv_of (v := pt (aD b) 1) hg10))) ?_
 refine sgq 23 (B := (!((!r_1) || (!r_2)))) (v := vi (i64.wrap (m.Rows * m.Cols))) rfl rfl (uF_ 15) (fun hg11 => (yX m.Rows m.Cols rfl (gv_of (v := vi m.Rows) hg11) (gv_of (v := vi m.Cols) hg11))) ?_
 refine sgq 24 (B := (!((!r_1) || (!r_2)))) (v := .bool ((m.Cells.length : Int) != (i64.wrap (m.Rows * m.Cols)))) rfl rfl (uF_ 15) (fun hg12 => (Y_ne (k := .i64) (a := (m.Cells.length : Int)) (b := (i64.wrap (m.Rows * m.Cols))) rfl (gv_of (v := vi (m.Cells.length : Int)) hg12) (gv_of (v := vi (i64.wrap (m.Rows * m.Cols))) hg12))) ?_
 refine sQ 25 (Y_or (b := ((!r_1) || (!r_2))) (z := ((m.Cells.length : Int) != (i64.wrap (m.Rows * m.Cols)))) rfl rfl rfl rfl) (rn ?_)
 refine cw_cond (b := (((!r_1) || (!r_2)) || ((m.Cells.length : Int) != (i64.wrap (m.Rows * m.Cols))))) rfl (fun hb => ?_) (fun hb => ?_)
 ·skip
  have hF1 := ct hF hb
  refine cq (cr ?_)
  refine sQ 2 (yg (.bool false)) (rn (ct_ ?_))
  obtain rfl := sI hF1
  exact ret1 Tryz.results27 (v1 := .bool false) (resAt_tmp rfl) ⟨rfl, (hS3.sN [])⟩
 ·skip
  have hF2 := cf' hF hb
  refine cw_skip (cq (cq (cr ?_)))
  refine sQ 26 (yd (aD b) 0 0 K27 K8) <| sQ 27 (yl (aD b) 2 (kM_ m B c) (.slice B m.Cells.length c) K12 (hS3.c 0)) <| sQ 28 (Y_len (B := B) (m := m.Cells.length) (c := c) K7 rfl rfl) <| sQ 29 (ym (vi 0)) (rn ?_)
  obtain ⟨hN, hF2⟩ := chk_inv hF2
  obtain ⟨z, hz, hF3⟩ := bI hF2
  refine cw_block ?_
  refine cw_loop (fun k f w => ∃ (i : Nat), FF f [(27, .slice B m.Cells.length c), (28, vi (m.Cells.length : Int)), (29, vi (i : Int))] ∧ ST w0 [] w [] [⟨B, (m.Cells.flatMap eN0)⟩] ∧ i + k = m.Cells.length ∧ forX (F_spec_l3Good_l1 m) k i () = some z) m.Cells.length ⟨0, (fc rfl (fc rfl (fc rfl fn_))), (hS3.sel [] rfl rfl), Nat.zero_add _, hz⟩ ?_
  rintro k_ f w ⟨i, hf, hS4, hik, hL⟩
  refine cq (cr ?_)
  refine sQ 30 (yL (i : Int) (m.Cells.length : Int) rfl (hf.g 29 2) (hf.g 28 1)) (rn (cq ?_))
  refine cw_cond (b := (decide ((i : Int) < (m.Cells.length : Int)))) rfl (fun hlt => ?_) (fun hlt => ?_)
  ·skip
   have hlt1 : i < m.Cells.length := by have h := of_decide_eq_true hlt; omega
   obtain ⟨K9, rfl⟩ : ∃ k2, k_ = k2 + 1 := ⟨k_ - 1, by omega⟩
   obtain ⟨y, hb1, hL1⟩ := forX_go hL
   unfold F_spec_l3Good_l1 at hb1
   refine cw_skip (cq (cw_block (cq (cr ?_))))
   obtain ⟨x, hx, hb1⟩ := bI hb1
   refine sQ 31 (Y_index (B := B) (m := m.Cells.length) (c := c) (k := .i64) (i := (i : Int)) K7 K0 rfl (hf.g 27 0) (hf.g 29 2) (gi_isSome eN2 rfl (hS4.rf (i := 0) rfl) hx) (getI_nn hx) (getI_ltI hx rfl)) <| sQ 32 (ya B ((i : Int).toNat * 5) (m.Cells.flatMap eN0) (kD_ x) K3 K0 (hS4.rf (i := 0) rfl) rfl rfl (eN2 x) (gi_seg eN2 hx)) ?_
   refine sS 4 (yN kZ_ 5 hS4 K5) ?_
   rintro _ w_3 ⟨b1, rfl, hS5⟩
   refine s0 (yT 0 5 (aD b1) 54 (gD_ x) (kD_ x) 0 hS5 K0) ?_
   rintro _ w_4 ⟨rfl, hS6⟩
   refine rn (cq (cr ?_))
   refine sQ 33 (yb (aD b1) 0 (kD_ x) K3 K0 (hS6.c 0)) ?_
   obtain ⟨r_3, hc2, hb1⟩ := bI hb1
   refine sc 34 rfl rfl (yC [gD_ x] k_call_63 (c_spec_l2Good x _  (hS6.inn0 [] rfl) hc2)) ?_
   rintro _ w_5 ⟨rfl, hd1⟩
   have hS7 := hS6.out00 hd1
   refine sQ 35 (Y_not (p := r_3) rfl rfl) (rn ?_)
   refine cw_cond (b := (!r_3)) rfl (fun hb2 => ?_) (fun hb2 => ?_)
   ·skip
    have hF4 := ct hb1 hb2
    refine cq (cr ?_)
    refine sQ 2 (yg (.bool false)) (rn (ct_ ?_))
    obtain rfl := sI hF4
    obtain rfl := sI hL1
    obtain rfl := sI hF3
    exact ret1 Tryz.results27 (v1 := .bool false) (resAt_tmp rfl) ⟨rfl, (hS7.sN [])⟩
   ·skip
    have hF5 := cf' hb1 hb2
    refine cw_skip (cr ?_)
    refine sQ 36 (yP (i : Int) 1 rfl (hf.g 29 2)) <| sQ 29 (ym (vi (i64.wrap ((i : Int) + 1)))) (rn ?_)
    obtain rfl := sI hF5
    exact ⟨K9, Nat.lt_succ_self _, i + 1, (fc (hf.g 27 0) (fc (hf.g 28 1) (fc (congrArg (Value.int .i64) (wr_succ hlt1 hN)) fn_))), (hS7.sel [] rfl rfl), (by omega), hL1⟩
  ·skip
   obtain rfl : k_ = 0 := by have h := of_decide_eq_false hlt; omega
   refine cw_exit rfl ?_
   obtain rfl := sI hL
   refine cq (cr ?_)
   refine sQ 2 (yg (.bool true)) (rn (ct_ ?_))
   obtain rfl := sI hF3
   exact ret1 Tryz.results27 (v1 := .bool true) (resAt_tmp rfl) ⟨rfl, (hS4.sN [])⟩

theorem c_spec_l2C_ring (c : Tl2C) (x : TRing) (B : Option Addr) (w0 : World)  (hS : ST w0 (bl [⟨B, 59, [.bool c.bad], 1⟩]) w0 [⟨B, 59, [.bool c.bad], 1⟩] []) {r_ : TRing} {m : Tl2C} (hF : F_spec_l2C_ring c x = some (r_, m)) :
  CV Tryz.prog 113 #[pt B 0, gR_ x] w0 (fun v w' => v = (gR_ r_) ∧ ST w0 (bl [⟨B, 59, [.bool c.bad], 1⟩]) w' [⟨B, 59, [.bool m.bad], 1⟩] []) := by
 unfold F_spec_l2C_ring at hF
 refine cv_of_cw 13 Tryz.func113 rfl Tryz.ntmps113 rfl ?_
 refine cq (cr ?_)
 refine sS 3 (yB 52 (gR_ x) (kR_ x) 4 hS) ?_
 rintro _ w_ ⟨b, rfl, hS1⟩
 refine sS 4 (yN [vi 0, vi 0, vi 0, vi 0] 4 hS1 K16) ?_
 rintro _ w_1 ⟨b1, rfl, hS2⟩
 refine rn (cq (cq (cr ?_)))
 refine sQ 5 (yb (aD b) 0 (kR_ x) K10 K4 (hS2.c 1)) ?_
 obtain ⟨r_1, hc, hF⟩ := bI hF
 refine sc 6 rfl rfl (yC [gR_ x] k_call_119 (c_spec_l1Good x _  (hS2.inn0 [] rfl) hc)) ?_
 rintro _ w_2 ⟨rfl, hd⟩
 have hS3 := hS2.out00 hd
 refine sQ 7 (Y_not (p := r_1) rfl rfl) (rn ?_)
 refine cw_cond (b := (!r_1)) rfl (fun hb => ?_) (fun hb => ?_)
 ·skip
  have hF1 := ct hF hb
  refine cq (cr ?_)
  refine sQ 8 (ym (pt B 0)) <| sQ 9 (Y_nilCheck (B := B) (i := 0) rfl rfl) <| sQ 10 (yd B 0 0 K65 K54) ?_
  refine s0 (yT 0 1 B 59 (.bool true) [.bool true] 0 hS3 K54) ?_
  rintro _ w_3 ⟨rfl, hS4⟩
  refine rn (cq (cr ?_))
  refine sQ 11 (Y_buildS (zs := [vi 0, vi 0, vi 0, vi 0]) (vs := []) (cs := [vi 0, vi 0, vi 0, vi 0]) K32 K16 rfl mpn rfl) ?_
  refine s0 (yT 2 4 (aD b1) 52 (.agg #[vi 0, vi 0, vi 0, vi 0]) [vi 0, vi 0, vi 0, vi 0] 0 hS4 K4) ?_
  rintro _ w_4 ⟨rfl, hS5⟩
  refine rn (ct_ ?_)
  obtain ⟨rfl, rfl⟩ := pr2 (sI hF1)
  exact ret1 Tryz.results113 (v1 := .agg #[vi 0, vi 0, vi 0, vi 0]) (resAt_cellA (B := aD b1) (i := 0) (cs := [vi 0, vi 0, vi 0, vi 0]) (vs := [vi 0, vi 0, vi 0, vi 0]) rfl K10 K4 (hS5.c 2) rfl rfl) ⟨rfl, (hS5.sN [0])⟩
 ·skip
  have hF2 := cf' hF hb
  refine cw_skip (cq (cr ?_))
  refine sQ 12 (yb (aD b) 0 (kR_ x) K10 K4 (hS3.c 1)) ?_
  refine s0 (yT 2 4 (aD b1) 52 (gR_ x) (kR_ x) 0 hS3 K4) ?_
  rintro _ w_5 ⟨rfl, hS6⟩
  refine rn (ct_ ?_)
  obtain ⟨rfl, rfl⟩ := pr2 (sI hF2)
  exact ret1 Tryz.results113 (v1 := gR_ x) (resAt_cellA (B := aD b1) (i := 0) (cs := kR_ x) (vs := kR_ x) rfl K10 K4 (hS6.c 2) rfl rfl) ⟨rfl, (hS6.sN [0])⟩

theorem c_spec_l1Root (x : TRing)  (w0 : World)  (hS : ST w0 [] w0 [] []) {r_ : TRing} (hF : F_spec_l1Root x = some r_) :
  CV Tryz.prog 114 #[gR_ x] w0 (fun v w' => v = (gR_ r_) ∧ ST w0 [] w' [] []) := by
 unfold F_spec_l1Root at hF
 refine cv_of_cw 24 Tryz.func114 rfl Tryz.ntmps114 rfl ?_
 refine cq (cr ?_)
 refine sS 1 (yB 52 (gR_ x) (kR_ x) 4 hS) ?_
 rintro _ w_ ⟨b, rfl, hS1⟩
 refine sS 2 (yN [vi 0, vi 0, vi 0, vi 0] 4 hS1 K16) ?_
 rintro _ w_1 ⟨b1, rfl, hS2⟩
 refine rn (cq (cr ?_))
 refine sQ 3 (yd (aD b) 0 0 K21 K2) <| sQ 4 (yl (aD b) 1 (kR_ x) (vi x.B) K1 (hS2.c 0)) <| sQ 5 (yd (aD b) 0 0 K23 K2) <| sQ 6 (yl (aD b) 3 (kR_ x) (vi x.D) K1 (hS2.c 0)) <| sQ 7 (yM x.B x.D) <| sQ 8 (yd (aD b) 0 0 K20 K2) ?_
 refine sQ 9 (yl (aD b) 0 (kR_ x) (vi x.A) K1 (hS2.c 0)) <| sQ 10 (yd (aD b) 0 0 K22 K2) <| sQ 11 (yl (aD b) 2 (kR_ x) (vi x.C) K1 (hS2.c 0)) <| sQ 12 (yP x.A x.C) <| sQ 13 (yd (aD b) 0 0 K21 K2) <| sQ 14 (yl (aD b) 1 (kR_ x) (vi x.B) K1 (hS2.c 0)) ?_
 refine sQ 15 (yd (aD b) 0 0 K23 K2) <| sQ 16 (yl (aD b) 3 (kR_ x) (vi x.D) K1 (hS2.c 0)) <| sQ 17 (yP x.B x.D) <| sQ 18 (yd (aD b) 0 0 K22 K2) <| sQ 19 (yl (aD b) 2 (kR_ x) (vi x.C) K1 (hS2.c 0)) <| sQ 20 (yd (aD b) 0 0 K20 K2) ?_
 refine sQ 21 (yl (aD b) 0 (kR_ x) (vi x.A) K1 (hS2.c 0)) <| sQ 22 (yM x.C x.A) <| sQ 23 (Y_buildS (zs := [vi 0, vi 0, vi 0, vi 0]) (vs := [(0, vi (i64.wrap (x.B - x.D))), (1, vi (i64.wrap (x.A + x.C))), (2, vi (i64.wrap (x.B + x.D))), (3, vi (i64.wrap (x.C - x.A)))]) (cs := [vi (i64.wrap (x.B - x.D)), vi (i64.wrap (x.A + x.C)), vi (i64.wrap (x.B + x.D)), vi (i64.wrap (x.C - x.A))]) K32 K16 rfl (mpc rfl (mpc rfl (mpc rfl (mpc rfl mpn)))) rfl) ?_
 refine s0 (yT 1 4 (aD b1) 52 (.agg #[vi (i64.wrap (x.B - x.D)), vi (i64.wrap (x.A + x.C)), vi (i64.wrap (x.B + x.D)), vi (i64.wrap (x.C - x.A))]) [vi (i64.wrap (x.B - x.D)), vi (i64.wrap (x.A + x.C)), vi (i64.wrap (x.B + x.D)), vi (i64.wrap (x.C - x.A))] 0 hS2 K4) ?_
 rintro _ w_2 ⟨rfl, hS3⟩
 refine rn (ct_ ?_)
 obtain rfl := sI hF
 exact ret1 Tryz.results114 (v1 := .agg #[vi (i64.wrap (x.B - x.D)), vi (i64.wrap (x.A + x.C)), vi (i64.wrap (x.B + x.D)), vi (i64.wrap (x.C - x.A))]) (resAt_cellA (B := aD b1) (i := 0) (cs := [vi (i64.wrap (x.B - x.D)), vi (i64.wrap (x.A + x.C)), vi (i64.wrap (x.B + x.D)), vi (i64.wrap (x.C - x.A))]) (vs := [vi (i64.wrap (x.B - x.D)), vi (i64.wrap (x.A + x.C)), vi (i64.wrap (x.B + x.D)), vi (i64.wrap (x.C - x.A))]) rfl K10 K4 (hS3.c 1) rfl rfl) ⟨rfl, (hS3.sN [])⟩

theorem c_spec_l1Half (x : TRing)  (w0 : World)  (hS : ST w0 [] w0 [] []) {r_ : TRing} (hF : F_spec_l1Half x = some r_) :
  CV Tryz.prog 143 #[gR_ x] w0 (fun v w' => v = (gR_ r_) ∧ ST w0 [] w' [] []) := by
 unfold F_spec_l1Half at hF
 refine cv_of_cw 19 Tryz.func143 rfl Tryz.ntmps143 rfl ?_
 refine cq (cr ?_)
 refine sS 1 (yB 52 (gR_ x) (kR_ x) 4 hS) ?_
 rintro _ w_ ⟨b, rfl, hS1⟩
 refine sS 2 (yN [vi 0, vi 0, vi 0, vi 0] 4 hS1 K16) ?_
 rintro _ w_1 ⟨b1, rfl, hS2⟩
 refine rn (cq (cr ?_))
 refine sQ 4 (yb (aD b) 0 (kR_ x) K10 K4 (hS2.c 0)) ?_
 obtain ⟨r_1, hc, hF⟩ := bI hF
 refine sc 5 rfl rfl (yC [gR_ x] K71 (c_spec_l1Root x _  (hS2.inn0 [] rfl) hc)) ?_
 rintro _ w_2 ⟨rfl, hd⟩
 have hS3 := hS2.out00 hd
 refine sS 3 (yN [vi 0, vi 0, vi 0, vi 0] 4 hS3 K16) ?_
 rintro _ w_3 ⟨b2, rfl, hS4⟩
 refine s0 (yT 2 4 (aD b2) 52 (gR_ r_1) (kR_ r_1) 0 hS4 K4) ?_
 rintro _ w_4 ⟨rfl, hS5⟩
 refine rn (cq (cr ?_))
 refine sQ 6 (yd (aD b2) 0 0 K20 K2) <| sQ 7 (yl (aD b2) 0 (kR_ r_1) (vi r_1.A) K1 (hS5.c 2)) <| sQ 8 (Y_quo (k := .i64) (a := r_1.A) (b := 2) rfl rfl rfl (by decide)) <| sQ 9 (yd (aD b2) 0 0 K21 K2) <| sQ 10 (yl (aD b2) 1 (kR_ r_1) (vi r_1.B) K1 (hS5.c 2)) <| sQ 11 (Y_quo (k := .i64) (a := r_1.B) (b := 2) rfl rfl rfl (by decide)) ?_
 refine sQ 12 (yd (aD b2) 0 0 K22 K2) <| sQ 13 (yl (aD b2) 2 (kR_ r_1) (vi r_1.C) K1 (hS5.c 2)) <| sQ 14 (Y_quo (k := .i64) (a := r_1.C) (b := 2) rfl rfl rfl (by decide)) <| sQ 15 (yd (aD b2) 0 0 K23 K2) <| sQ 16 (yl (aD b2) 3 (kR_ r_1) (vi r_1.D) K1 (hS5.c 2)) <| sQ 17 (Y_quo (k := .i64) (a := r_1.D) (b := 2) rfl rfl rfl (by decide)) ?_
 refine sQ 18 (Y_buildS (zs := [vi 0, vi 0, vi 0, vi 0]) (vs := [(0, vi (i64.wrap (Int.tdiv r_1.A 2))), (1, vi (i64.wrap (Int.tdiv r_1.B 2))), (2, vi (i64.wrap (Int.tdiv r_1.C 2))), (3, vi (i64.wrap (Int.tdiv r_1.D 2)))]) (cs := [vi (i64.wrap (Int.tdiv r_1.A 2)), vi (i64.wrap (Int.tdiv r_1.B 2)), vi (i64.wrap (Int.tdiv r_1.C 2)), vi (i64.wrap (Int.tdiv r_1.D 2))]) K32 K16 rfl (mpc rfl (mpc rfl (mpc rfl (mpc rfl mpn)))) rfl) ?_
 refine s0 (yT 1 4 (aD b1) 52 (.agg #[vi (i64.wrap (Int.tdiv r_1.A 2)), vi (i64.wrap (Int.tdiv r_1.B 2)), vi (i64.wrap (Int.tdiv r_1.C 2)), vi (i64.wrap (Int.tdiv r_1.D 2))]) [vi (i64.wrap (Int.tdiv r_1.A 2)), vi (i64.wrap (Int.tdiv r_1.B 2)), vi (i64.wrap (Int.tdiv r_1.C 2)), vi (i64.wrap (Int.tdiv r_1.D 2))] 0 hS5 K4) ?_
 rintro _ w_5 ⟨rfl, hS6⟩
 refine rn (ct_ ?_)
 obtain rfl := sI hF
 exact ret1 Tryz.results143 (v1 := .agg #[vi (i64.wrap (Int.tdiv r_1.A 2)), vi (i64.wrap (Int.tdiv r_1.B 2)), vi (i64.wrap (Int.tdiv r_1.C 2)), vi (i64.wrap (Int.tdiv r_1.D 2))]) (resAt_cellA (B := aD b1) (i := 0) (cs := [vi (i64.wrap (Int.tdiv r_1.A 2)), vi (i64.wrap (Int.tdiv r_1.B 2)), vi (i64.wrap (Int.tdiv r_1.C 2)), vi (i64.wrap (Int.tdiv r_1.D 2))]) (vs := [vi (i64.wrap (Int.tdiv r_1.A 2)), vi (i64.wrap (Int.tdiv r_1.B 2)), vi (i64.wrap (Int.tdiv r_1.C 2)), vi (i64.wrap (Int.tdiv r_1.D 2))]) rfl K10 K4 (hS6.c 1) rfl rfl) ⟨rfl, (hS6.sN [])⟩

theorem c_spec_l2Low (num : TRing) (exp : Int)  (w0 : World)  (hS : ST w0 [] w0 [] []) {r_ : TDyadic} (hF : F_spec_l2Low num exp = some r_) :
  CV Tryz.prog 115 #[gR_ num, vi exp] w0 (fun v w' => v = (gD_ r_) ∧ ST w0 [] w' [] []) := by
 unfold F_spec_l2Low at hF
 refine cv_of_cw 18 Tryz.func115 rfl Tryz.ntmps115 rfl ?_
 refine cq (cr ?_)
 refine sS 2 (yB 52 (gR_ num) (kR_ num) 4 hS) ?_
 rintro _ w_ ⟨b, rfl, hS1⟩
 refine sS 4 (yN kZ_ 5 hS1 K5) ?_
 rintro _ w_1 ⟨b1, rfl, hS2⟩
 refine rn (cq ?_)
 obtain ⟨z, hz, hF1⟩ := bI hF
 refine cw_block ?_
 refine cw_loop (fun k f w => ∃ (exp1 : Int) (A : Int) (B : Int) (C : Int) (D : Int), FF f [(1, vi exp1), (2, pt (aD b) 0), (4, pt (aD b1) 0)] ∧ ST w0 [] w [⟨aD b, 52, [vi A, vi B, vi C, vi D], 4⟩, ⟨aD b1, 54, kZ_, 5⟩] [] ∧ whX F_spec_l2Low_l1 k (exp1, A, B, C, D) = some z) fuel ⟨exp, num.A, num.B, num.C, num.D, (fc rfl (fc rfl (fc rfl fn_))), (hS2.sel [0, 1] rfl rfl), hz⟩ ?_
 rintro k_ f w ⟨exp1, A, B, C, D, hf, hS3, hL⟩
 obtain ⟨K9, y, rfl, hb, hL1⟩ := whX_go hL
 unfold F_spec_l2Low_l1 at hb
 refine cq (cq (cr ?_))
 refine sQ 5 (ym (vi exp1) rfl (hf.g 1 0)) <| sQ 6 (Y_gt (k := .i64) (a := exp1) (b := 0) rfl rfl rfl) <| sQ 7 (ym (.bool (decide (0 < exp1)))) ?_
 refine sgq 8 (B := (decide (0 < exp1))) (v := .agg #[vi A, vi B, vi C, vi D]) rfl rfl (uT_ 7) (fun hg => (yb (aD b) 0 [vi A, vi B, vi C, vi D] K10 K4 (hS3.c 0) rfl (hf.g 2 1))) ?_
 obtain ⟨r_1, hc, hb⟩ := bI hb
 refine sgc 9 (B := (decide (0 < exp1))) (v := .bool r_1) (F := hS3.fn) rfl rfl (uT_ 7) hS3 (fun hg1 => (yC [.agg #[vi A, vi B, vi C, vi D]] k_call_120 (CV.mono (c_spec_l1Even (TRing.mk A B C D) _  (hS3.inn0 [] rfl) (gb_inv hc hg1)) (by rintro _ _ ⟨rfl, h⟩; exact ⟨rfl, hS3.out00 h⟩)) rfl (mc (gv_of (v := .agg #[vi A, vi B, vi C, vi D]) hg1) mn))) ?_
 rintro w_2 hS4
 refine sQ 10 (Y_and (b := (decide (0 < exp1))) (z := r_1) rfl rfl rfl rfl) (rn ?_)
 refine cw_cond (b := ((decide (0 < exp1)) && r_1)) rfl (fun hb1 => ?_) (fun hb1 => ?_)
 ·skip
  have hF2 := ct hb hb1
  refine cw_skip (cw_block (cq (cr ?_)))
  refine sQ 11 (yb (aD b) 0 [vi A, vi B, vi C, vi D] K10 K4 (hS4.c 0) rfl (hf.g 2 1)) ?_
  obtain ⟨r_2, hc1, hF2⟩ := bI hF2
  refine sc 12 rfl rfl (yC [.agg #[vi A, vi B, vi C, vi D]] k_call_143 (c_spec_l1Half (TRing.mk A B C D) _  (hS4.inn0 [] rfl) hc1)) ?_
  rintro _ w_3 ⟨rfl, hd⟩
  have hS5 := hS4.out00 hd
  refine s0 (yT 0 4 (aD b) 52 (gR_ r_2) (kR_ r_2) 0 hS5 K4 rfl (hf.g 2 1)) ?_
  rintro _ w_4 ⟨rfl, hS6⟩
  refine rn (cr ?_)
  refine sQ 13 (ym (vi exp1) rfl (hf.g 1 0)) <| sQ 14 (yM exp1 1) <| sQ 1 (yg (vi (i64.wrap (exp1 - 1)))) (rn ?_)
  obtain rfl := sI hF2
  exact ⟨K9, Nat.lt_succ_self _, (i64.wrap (exp1 - 1)), r_2.A, r_2.B, r_2.C, r_2.D, (fc rfl (fc (hf.g 2 1) (fc (hf.g 4 2) fn_))), (hS6.sel [0, 1] rfl rfl), hL1⟩
 ·skip
  have hF3 := cf' hb hb1
  refine cw_exit rfl ?_
  obtain rfl := sI hF3
  obtain rfl := sI hL1
  refine cq (cr ?_)
  refine sQ 15 (yb (aD b) 0 [vi A, vi B, vi C, vi D] K10 K4 (hS4.c 0) rfl (hf.g 2 1)) <| sQ 16 (ym (vi exp1) rfl (hf.g 1 0)) <| sQ 17 (Y_buildS (zs := kZ_) (vs := [(0, .agg #[vi A, vi B, vi C, vi D]), (1, vi exp1)]) (cs := [vi A, vi B, vi C, vi D, vi exp1]) K24 K5 rfl (mpc rfl (mpc rfl mpn)) rfl) ?_
  refine s0 (yT 1 5 (aD b1) 54 (.agg #[vi A, vi B, vi C, vi D, vi exp1]) [vi A, vi B, vi C, vi D, vi exp1] 0 hS4 K0 rfl (hf.g 4 2)) ?_
  rintro _ w_5 ⟨rfl, hS7⟩
  refine rn (ct_ ?_)
  obtain rfl := sI hF1
  exact ret1 Tryz.results115 (v1 := .agg #[vi A, vi B, vi C, vi D, vi exp1]) (resAt_cellA (B := aD b1) (i := 0) (cs := [vi A, vi B, vi C, vi D, vi exp1]) (vs := [vi A, vi B, vi C, vi D, vi exp1]) (hf.g 4 2) K3 K0 (hS7.c 1) rfl rfl) ⟨rfl, (hS7.sN [])⟩

theorem c_spec_l1Add (x : TRing) (y : TRing)  (w0 : World)  (hS : ST w0 [] w0 [] []) {r_ : TRing} (hF : F_spec_l1Add x y = some r_) :
  CV Tryz.prog 116 #[gR_ x, gR_ y] w0 (fun v w' => v = (gR_ r_) ∧ ST w0 [] w' [] []) := by
 unfold F_spec_l1Add at hF
 refine cv_of_cw 26 Tryz.func116 rfl Tryz.ntmps116 rfl ?_
 refine cq (cr ?_)
 refine sS 2 (yB 52 (gR_ x) (kR_ x) 4 hS) ?_
 rintro _ w_ ⟨b, rfl, hS1⟩
 refine sS 3 (yB 52 (gR_ y) (kR_ y) 4 hS1) ?_
 rintro _ w_1 ⟨b1, rfl, hS2⟩
 refine sS 4 (yN [vi 0, vi 0, vi 0, vi 0] 4 hS2 K16) ?_
 rintro _ w_2 ⟨b2, rfl, hS3⟩
 refine rn (cq (cr ?_))
 refine sQ 5 (yd (aD b) 0 0 K20 K2) <| sQ 6 (yl (aD b) 0 (kR_ x) (vi x.A) K1 (hS3.c 0)) <| sQ 7 (yd (aD b1) 0 0 K20 K2) <| sQ 8 (yl (aD b1) 0 (kR_ y) (vi y.A) K1 (hS3.c 1)) <| sQ 9 (yP x.A y.A) <| sQ 10 (yd (aD b) 0 0 K21 K2) ?_
 refine sQ 11 (yl (aD b) 1 (kR_ x) (vi x.B) K1 (hS3.c 0)) <| sQ 12 (yd (aD b1) 0 0 K21 K2) <| sQ 13 (yl (aD b1) 1 (kR_ y) (vi y.B) K1 (hS3.c 1)) <| sQ 14 (yP x.B y.B) <| sQ 15 (yd (aD b) 0 0 K22 K2) <| sQ 16 (yl (aD b) 2 (kR_ x) (vi x.C) K1 (hS3.c 0)) ?_
 refine sQ 17 (yd (aD b1) 0 0 K22 K2) <| sQ 18 (yl (aD b1) 2 (kR_ y) (vi y.C) K1 (hS3.c 1)) <| sQ 19 (yP x.C y.C) <| sQ 20 (yd (aD b) 0 0 K23 K2) <| sQ 21 (yl (aD b) 3 (kR_ x) (vi x.D) K1 (hS3.c 0)) <| sQ 22 (yd (aD b1) 0 0 K23 K2) ?_
 refine sQ 23 (yl (aD b1) 3 (kR_ y) (vi y.D) K1 (hS3.c 1)) <| sQ 24 (yP x.D y.D) <| sQ 25 (Y_buildS (zs := [vi 0, vi 0, vi 0, vi 0]) (vs := [(0, vi (i64.wrap (x.A + y.A))), (1, vi (i64.wrap (x.B + y.B))), (2, vi (i64.wrap (x.C + y.C))), (3, vi (i64.wrap (x.D + y.D)))]) (cs := [vi (i64.wrap (x.A + y.A)), vi (i64.wrap (x.B + y.B)), vi (i64.wrap (x.C + y.C)), vi (i64.wrap (x.D + y.D))]) K32 K16 rfl (mpc rfl (mpc rfl (mpc rfl (mpc rfl mpn)))) rfl) ?_
 refine s0 (yT 2 4 (aD b2) 52 (.agg #[vi (i64.wrap (x.A + y.A)), vi (i64.wrap (x.B + y.B)), vi (i64.wrap (x.C + y.C)), vi (i64.wrap (x.D + y.D))]) [vi (i64.wrap (x.A + y.A)), vi (i64.wrap (x.B + y.B)), vi (i64.wrap (x.C + y.C)), vi (i64.wrap (x.D + y.D))] 0 hS3 K4) ?_
 rintro _ w_3 ⟨rfl, hS4⟩
 refine rn (ct_ ?_)
 obtain rfl := sI hF
 exact ret1 Tryz.results116 (v1 := .agg #[vi (i64.wrap (x.A + y.A)), vi (i64.wrap (x.B + y.B)), vi (i64.wrap (x.C + y.C)), vi (i64.wrap (x.D + y.D))]) (resAt_cellA (B := aD b2) (i := 0) (cs := [vi (i64.wrap (x.A + y.A)), vi (i64.wrap (x.B + y.B)), vi (i64.wrap (x.C + y.C)), vi (i64.wrap (x.D + y.D))]) (vs := [vi (i64.wrap (x.A + y.A)), vi (i64.wrap (x.B + y.B)), vi (i64.wrap (x.C + y.C)), vi (i64.wrap (x.D + y.D))]) rfl K10 K4 (hS4.c 2) rfl rfl) ⟨rfl, (hS4.sN [])⟩

theorem c_spec_l2C_add (c : Tl2C) (x : TDyadic) (y : TDyadic) (B : Option Addr) (w0 : World)  (hS : ST w0 (bl [⟨B, 59, [.bool c.bad], 1⟩]) w0 [⟨B, 59, [.bool c.bad], 1⟩] []) {r_ : TDyadic} {m : Tl2C} (hF : F_spec_l2C_add c x y = some (r_, m)) :
  CV Tryz.prog 60 #[pt B 0, gD_ x, gD_ y] w0 (fun v w' => v = (gD_ r_) ∧ ST w0 (bl [⟨B, 59, [.bool c.bad], 1⟩]) w' [⟨B, 59, [.bool m.bad], 1⟩] []) := by
 unfold F_spec_l2C_add at hF
 refine cv_of_cw 45 Tryz.func60 rfl Tryz.ntmps60 rfl ?_
 refine cq (cr ?_)
 refine sS 4 (yB 54 (gD_ x) (kD_ x) 5 hS) ?_
 rintro _ w_ ⟨b, rfl, hS1⟩
 refine sS 5 (yB 54 (gD_ y) (kD_ y) 5 hS1) ?_
 rintro _ w_1 ⟨b1, rfl, hS2⟩
 refine sS 6 (yN kZ_ 5 hS2 K5) ?_
 rintro _ w_2 ⟨b2, rfl, hS3⟩
 refine rn (cq ?_)
 obtain ⟨z, hz, hF1⟩ := bI hF
 refine cw_block ?_
 refine cw_loop (fun k f w => ∃ (bad : Bool) (A : Int) (B1 : Int) (C : Int) (D : Int) (Exp : Int), FF f [(0, pt B 0), (4, pt (aD b) 0), (5, pt (aD b1) 0), (6, pt (aD b2) 0)] ∧ ST w0 (bl [⟨B, 59, [.bool c.bad], 1⟩]) w [⟨B, 59, [.bool bad], 1⟩, ⟨aD b, 54, [vi A, vi B1, vi C, vi D, vi Exp], 5⟩, ⟨aD b1, 54, kD_ y, 5⟩, ⟨aD b2, 54, kZ_, 5⟩] [] ∧ whX (F_spec_l2C_add_l1 y) k (bad, A, B1, C, D, Exp) = some z) fuel ⟨c.bad, x.Num.A, x.Num.B, x.Num.C, x.Num.D, x.Exp, (fc rfl (fc rfl (fc rfl (fc rfl fn_)))), (hS3.sel [0, 1, 2, 3] rfl rfl), hz⟩ ?_
 rintro k_ f w ⟨bad, A, B1, C, D, Exp, hf, hS4, hL⟩
 obtain ⟨K9, y1, rfl, hb, hL1⟩ := whX_go hL
 unfold F_spec_l2C_add_l1 at hb
 refine cq (cq (cr ?_))
 refine sQ 7 (yd (aD b) 0 0 K30 K2 rfl (hf.g 4 1)) <| sQ 8 (yl (aD b) 4 [vi A, vi B1, vi C, vi D, vi Exp] (vi Exp) K1 (hS4.c 1)) <| sQ 9 (yd (aD b1) 0 0 K30 K2 rfl (hf.g 5 2)) <| sQ 10 (yl (aD b1) 4 (kD_ y) (vi y.Exp) K1 (hS4.c 2)) <| sQ 11 (yL Exp y.Exp) (rn ?_)
 refine cw_cond (b := (decide (Exp < y.Exp))) rfl (fun hb1 => ?_) (fun hb1 => ?_)
 ·skip
  have hF2 := ct hb hb1
  refine cw_skip (cw_block ?_)
  obtain ⟨r_1, hc, hF2⟩ := bI hF2
  obtain ⟨⟨r_2, m1⟩, hc1, hF2⟩ := bI hF2
  refine cw_mid (fun f w => FF f [(0, pt B 0), (4, pt (aD b) 0), (5, pt (aD b1) 0), (6, pt (aD b2) 0)] ∧ ST w0 (bl [⟨B, 59, [.bool c.bad], 1⟩]) w [⟨B, 59, [.bool m1.bad], 1⟩, ⟨aD b, 54, [vi r_2.A, vi r_2.B, vi r_2.C, vi r_2.D, vi (i64.wrap (Exp + 1))], 5⟩, ⟨aD b1, 54, kD_ y, 5⟩, ⟨aD b2, 54, kZ_, 5⟩] []) ?_ ?_
  ·skip
   refine ra_start (hS4.se [2, 3]).fn (by kernel_rfl) ?_
   have hS8 := hS4.drew
   refine rq 0 12 (v := pt B 0) rfl (hS8.se [2, 3]) (fun w' hw' => (ym (pt B 0) rfl (hf.g 0 0))) ?_
   refine rq 1 13 (v := pt (aD b) 0) rfl (hS8.se [2, 3]) (fun w' hw' => (yd (aD b) 0 3 K33 K4 rfl (hf.g 4 1))) ?_
   refine rq 5 17 (v := pt (aD b) 4) rfl (hS8.se [2, 3]) (fun w' hw' => (yd (aD b) 0 0 K30 K2 rfl (hf.g 4 1))) ?_
   refine rA [2, 6] ?_
   refine ra_y 14 (i := 2) (v := .agg #[vi A, vi B1, vi C, vi D]) rfl rfl rfl (ya (aD b) 0 [vi A, vi B1, vi C, vi D, vi Exp] [vi A, vi B1, vi C, vi D] K10 K4 (hS8.c 1)) (hS8.se [2, 3]) ?_ ?_
   ·skip
    refine rA [3, 6] ?_
    refine rC 15 3 rfl (yC [.agg #[vi A, vi B1, vi C, vi D]] K71 (c_spec_l1Root (TRing.mk A B1 C D) _  (hS8.inn0 [] rfl) hc)) ?_ ?_
    ·rintro _ w_3 ⟨rfl, hd⟩
     have hS9 := hS8.out00 hd
     refine ⟨(hS9.se [2, 3]), ?_⟩
     refine rA [4, 6] ?_
     refine rC 16 4 rfl (yC [pt B 0, gR_ r_1] K62 (c_spec_l2C_ring (Tl2C.mk bad) r_1 B _  (hS9.inn [true, false, false, false] rfl [] rfl) hc1)) ?_ ?_
     ·rintro _ w_4 ⟨rfl, hd1⟩
      have hS10 := hS9.out [true, false, false, false] rfl hd1
      refine ⟨(hS10.se [1, 2]), ?_⟩
      refine rA [6] ?_
      refine ra_y 18 (i := 6) (v := vi Exp) rfl rfl rfl (yl (aD b) 4 [vi A, vi B1, vi C, vi D, vi Exp] (vi Exp) K1 (hS10.c 0)) (hS10.se [1, 2]) ?_ ?_
      ·skip
       refine rq 7 19 (v := vi (i64.wrap (Exp + 1))) rfl (hS10.se [1, 2]) (fun w' hw' => (yP Exp 1)) ?_
       refine rq 8 20 (v := .agg #[vi r_2.A, vi r_2.B, vi r_2.C, vi r_2.D, vi (i64.wrap (Exp + 1))]) rfl (hS10.se [1, 2]) (fun w' hw' => (Y_buildS (zs := kZ_) (vs := [(0, gR_ r_2), (1, vi (i64.wrap (Exp + 1)))]) (cs := [vi r_2.A, vi r_2.B, vi r_2.C, vi r_2.D, vi (i64.wrap (Exp + 1))]) K24 K5 rfl (mpc rfl (mpc rfl mpn)) rfl)) ?_
       refine rA [9] ?_
       refine rZ 9 rfl (yT 0 5 (aD b) 54 (.agg #[vi r_2.A, vi r_2.B, vi r_2.C, vi r_2.D, vi (i64.wrap (Exp + 1))]) [vi r_2.A, vi r_2.B, vi r_2.C, vi r_2.D, vi (i64.wrap (Exp + 1))] 0 hS10 K0 rfl (hf.g 4 1)) ?_ ?_
       ·rintro _ w_5 ⟨rfl, hS11⟩
        refine ⟨(hS11.se [1, 2]), ?_⟩
        refine ra_done (by kernel_rfl) ?_
        exact ⟨(fc (hf.g 0 0) (fc (hf.g 4 1) (fc (hf.g 5 2) (fc (hf.g 6 3) fn_)))), (hS11.sel [3, 0, 1, 2] rfl rfl)⟩
       exact aN
      exact aN
     refine ra_y 18 (i := 6) (v := vi Exp) rfl rfl rfl (yl (aD b) 4 [vi A, vi B1, vi C, vi D, vi Exp] (vi Exp) K1 (hS9.c 1)) (hS9.se [2, 3]) ?_ ?_
     ·skip
      refine rq 7 19 (v := vi (i64.wrap (Exp + 1))) rfl (hS9.se [2, 3]) (fun w' hw' => (yP Exp 1)) ?_
      refine rA [4] ?_
      refine rC 16 4 rfl (yC [pt B 0, gR_ r_1] K62 (c_spec_l2C_ring (Tl2C.mk bad) r_1 B _  (hS9.inn [true, false, false, false] rfl [] rfl) hc1)) ?_ ?_
      ·rintro _ w_6 ⟨rfl, hd2⟩
       have hS12 := hS9.out [true, false, false, false] rfl hd2
       refine ⟨(hS12.se [1, 2]), ?_⟩
       refine rq 8 20 (v := .agg #[vi r_2.A, vi r_2.B, vi r_2.C, vi r_2.D, vi (i64.wrap (Exp + 1))]) rfl (hS12.se [1, 2]) (fun w' hw' => (Y_buildS (zs := kZ_) (vs := [(0, gR_ r_2), (1, vi (i64.wrap (Exp + 1)))]) (cs := [vi r_2.A, vi r_2.B, vi r_2.C, vi r_2.D, vi (i64.wrap (Exp + 1))]) K24 K5 rfl (mpc rfl (mpc rfl mpn)) rfl)) ?_
       refine rA [9] ?_
       refine rZ 9 rfl (yT 0 5 (aD b) 54 (.agg #[vi r_2.A, vi r_2.B, vi r_2.C, vi r_2.D, vi (i64.wrap (Exp + 1))]) [vi r_2.A, vi r_2.B, vi r_2.C, vi r_2.D, vi (i64.wrap (Exp + 1))] 0 hS12 K0 rfl (hf.g 4 1)) ?_ ?_
       ·rintro _ w_7 ⟨rfl, hS13⟩
        refine ⟨(hS13.se [1, 2]), ?_⟩
        refine ra_done (by kernel_rfl) ?_
        exact ⟨(fc (hf.g 0 0) (fc (hf.g 4 1) (fc (hf.g 5 2) (fc (hf.g 6 3) fn_)))), (hS13.sel [3, 0, 1, 2] rfl rfl)⟩
       exact aN
      exact aN
     exact aN
    refine ra_y 18 (i := 6) (v := vi Exp) rfl rfl rfl (yl (aD b) 4 [vi A, vi B1, vi C, vi D, vi Exp] (vi Exp) K1 (hS8.c 1)) (hS8.se [2, 3]) ?_ ?_
    ·skip
     refine rq 7 19 (v := vi (i64.wrap (Exp + 1))) rfl (hS8.se [2, 3]) (fun w' hw' => (yP Exp 1)) ?_
     refine rA [3] ?_
     refine rC 15 3 rfl (yC [.agg #[vi A, vi B1, vi C, vi D]] K71 (c_spec_l1Root (TRing.mk A B1 C D) _  (hS8.inn0 [] rfl) hc)) ?_ ?_
     ·rintro _ w_8 ⟨rfl, hd3⟩
      have hS14 := hS8.out00 hd3
      refine ⟨(hS14.se [2, 3]), ?_⟩
      refine rA [4] ?_
      refine rC 16 4 rfl (yC [pt B 0, gR_ r_1] K62 (c_spec_l2C_ring (Tl2C.mk bad) r_1 B _  (hS14.inn [true, false, false, false] rfl [] rfl) hc1)) ?_ ?_
      ·rintro _ w_9 ⟨rfl, hd4⟩
       have hS15 := hS14.out [true, false, false, false] rfl hd4
       refine ⟨(hS15.se [1, 2]), ?_⟩
       refine rq 8 20 (v := .agg #[vi r_2.A, vi r_2.B, vi r_2.C, vi r_2.D, vi (i64.wrap (Exp + 1))]) rfl (hS15.se [1, 2]) (fun w' hw' => (Y_buildS (zs := kZ_) (vs := [(0, gR_ r_2), (1, vi (i64.wrap (Exp + 1)))]) (cs := [vi r_2.A, vi r_2.B, vi r_2.C, vi r_2.D, vi (i64.wrap (Exp + 1))]) K24 K5 rfl (mpc rfl (mpc rfl mpn)) rfl)) ?_
       refine rA [9] ?_
       refine rZ 9 rfl (yT 0 5 (aD b) 54 (.agg #[vi r_2.A, vi r_2.B, vi r_2.C, vi r_2.D, vi (i64.wrap (Exp + 1))]) [vi r_2.A, vi r_2.B, vi r_2.C, vi r_2.D, vi (i64.wrap (Exp + 1))] 0 hS15 K0 rfl (hf.g 4 1)) ?_ ?_
       ·rintro _ w_10 ⟨rfl, hS16⟩
        refine ⟨(hS16.se [1, 2]), ?_⟩
        refine ra_done (by kernel_rfl) ?_
        exact ⟨(fc (hf.g 0 0) (fc (hf.g 4 1) (fc (hf.g 5 2) (fc (hf.g 6 3) fn_)))), (hS16.sel [3, 0, 1, 2] rfl rfl)⟩
       exact aN
      exact aN
     exact aN
    exact aN
   refine ra_y 18 (i := 6) (v := vi Exp) rfl rfl rfl (yl (aD b) 4 [vi A, vi B1, vi C, vi D, vi Exp] (vi Exp) K1 (hS8.c 1)) (hS8.se [2, 3]) ?_ ?_
   ·skip
    refine rq 7 19 (v := vi (i64.wrap (Exp + 1))) rfl (hS8.se [2, 3]) (fun w' hw' => (yP Exp 1)) ?_
    refine rA [2] ?_
    refine ra_y 14 (i := 2) (v := .agg #[vi A, vi B1, vi C, vi D]) rfl rfl rfl (ya (aD b) 0 [vi A, vi B1, vi C, vi D, vi Exp] [vi A, vi B1, vi C, vi D] K10 K4 (hS8.c 1)) (hS8.se [2, 3]) ?_ ?_
    ·skip
     refine rA [3] ?_
     refine rC 15 3 rfl (yC [.agg #[vi A, vi B1, vi C, vi D]] K71 (c_spec_l1Root (TRing.mk A B1 C D) _  (hS8.inn0 [] rfl) hc)) ?_ ?_
     ·rintro _ w_11 ⟨rfl, hd5⟩
      have hS17 := hS8.out00 hd5
      refine ⟨(hS17.se [2, 3]), ?_⟩
      refine rA [4] ?_
      refine rC 16 4 rfl (yC [pt B 0, gR_ r_1] K62 (c_spec_l2C_ring (Tl2C.mk bad) r_1 B _  (hS17.inn [true, false, false, false] rfl [] rfl) hc1)) ?_ ?_
      ·rintro _ w_12 ⟨rfl, hd6⟩
       have hS18 := hS17.out [true, false, false, false] rfl hd6
       refine ⟨(hS18.se [1, 2]), ?_⟩
       refine rq 8 20 (v := .agg #[vi r_2.A, vi r_2.B, vi r_2.C, vi r_2.D, vi (i64.wrap (Exp + 1))]) rfl (hS18.se [1, 2]) (fun w' hw' => (Y_buildS (zs := kZ_) (vs := [(0, gR_ r_2), (1, vi (i64.wrap (Exp + 1)))]) (cs := [vi r_2.A, vi r_2.B, vi r_2.C, vi r_2.D, vi (i64.wrap (Exp + 1))]) K24 K5 rfl (mpc rfl (mpc rfl mpn)) rfl)) ?_
       refine rA [9] ?_
       refine rZ 9 rfl (yT 0 5 (aD b) 54 (.agg #[vi r_2.A, vi r_2.B, vi r_2.C, vi r_2.D, vi (i64.wrap (Exp + 1))]) [vi r_2.A, vi r_2.B, vi r_2.C, vi r_2.D, vi (i64.wrap (Exp + 1))] 0 hS18 K0 rfl (hf.g 4 1)) ?_ ?_
       ·rintro _ w_13 ⟨rfl, hS19⟩
        refine ⟨(hS19.se [1, 2]), ?_⟩
        refine ra_done (by kernel_rfl) ?_
        exact ⟨(fc (hf.g 0 0) (fc (hf.g 4 1) (fc (hf.g 5 2) (fc (hf.g 6 3) fn_)))), (hS19.sel [3, 0, 1, 2] rfl rfl)⟩
       exact aN
      exact aN
     exact aN
    exact aN
   exact aN
  rintro f w ⟨hf1, hS7⟩
  obtain rfl := sI hF2
  exact ⟨K9, Nat.lt_succ_self _, m1.bad, r_2.A, r_2.B, r_2.C, r_2.D, (i64.wrap (Exp + 1)), (fc (hf1.g 0 0) (fc (hf1.g 4 1) (fc (hf1.g 5 2) (fc (hf1.g 6 3) fn_)))), (hS7.sel [0, 1, 2, 3] rfl rfl), hL1⟩
 ·skip
  have hF3 := cf' hb hb1
  refine cw_exit rfl ?_
  obtain rfl := sI hF3
  obtain rfl := sI hL1
  refine cq ?_
  obtain ⟨z1, hz1, hF4⟩ := bI hF1
  refine cw_block ?_
  refine cw_loop (fun k f w => ∃ (bad1 : Bool) (A1 : Int) (B2 : Int) (C1 : Int) (D1 : Int) (Exp1 : Int), FF f [(0, pt B 0), (4, pt (aD b) 0), (5, pt (aD b1) 0), (6, pt (aD b2) 0)] ∧ ST w0 (bl [⟨B, 59, [.bool c.bad], 1⟩]) w [⟨B, 59, [.bool bad1], 1⟩, ⟨aD b, 54, [vi A, vi B1, vi C, vi D, vi Exp], 5⟩, ⟨aD b1, 54, [vi A1, vi B2, vi C1, vi D1, vi Exp1], 5⟩, ⟨aD b2, 54, kZ_, 5⟩] [] ∧ whX (F_spec_l2C_add_l2 Exp bad A C D) k (bad1, A1, B2, C1, D1, Exp1) = some z1) fuel ⟨bad, y.Num.A, y.Num.B, y.Num.C, y.Num.D, y.Exp, (fc (hf.g 0 0) (fc (hf.g 4 1) (fc (hf.g 5 2) (fc (hf.g 6 3) fn_)))), (hS4.sel [0, 1, 2, 3] rfl rfl), hz1⟩ ?_
  rintro K15 f w ⟨bad1, A1, B2, C1, D1, Exp1, hf2, hS20, hL2⟩
  obtain ⟨K29, y2, rfl, hb2, hL3⟩ := whX_go hL2
  unfold F_spec_l2C_add_l2 at hb2
  refine cq (cq (cr ?_))
  refine sQ 21 (yd (aD b1) 0 0 K30 K2 rfl (hf2.g 5 2)) <| sQ 22 (yl (aD b1) 4 [vi A1, vi B2, vi C1, vi D1, vi Exp1] (vi Exp1) K1 (hS20.c 2)) <| sQ 23 (yd (aD b) 0 0 K30 K2 rfl (hf2.g 4 1)) <| sQ 24 (yl (aD b) 4 [vi A, vi B1, vi C, vi D, vi Exp] (vi Exp) K1 (hS20.c 1)) <| sQ 25 (yL Exp1 Exp) (rn ?_)
  refine cw_cond (b := (decide (Exp1 < Exp))) rfl (fun hb3 => ?_) (fun hb3 => ?_)
  ·skip
   have hF5 := ct hb2 hb3
   refine cw_skip (cw_block ?_)
   obtain ⟨r_3, hc2, hF5⟩ := bI hF5
   obtain ⟨⟨r_4, m2⟩, hc3, hF5⟩ := bI hF5
   refine cw_mid (fun f w => FF f [(0, pt B 0), (4, pt (aD b) 0), (5, pt (aD b1) 0), (6, pt (aD b2) 0)] ∧ ST w0 (bl [⟨B, 59, [.bool c.bad], 1⟩]) w [⟨B, 59, [.bool m2.bad], 1⟩, ⟨aD b, 54, [vi A, vi B1, vi C, vi D, vi Exp], 5⟩, ⟨aD b1, 54, [vi r_4.A, vi r_4.B, vi r_4.C, vi r_4.D, vi (i64.wrap (Exp1 + 1))], 5⟩, ⟨aD b2, 54, kZ_, 5⟩] []) ?_ ?_
   ·skip
    refine ra_start (hS20.se [1, 3]).fn (by kernel_rfl) ?_
    have hS24 := hS20.drew
    refine rq 0 26 (v := pt B 0) rfl (hS24.se [1, 3]) (fun w' hw' => (ym (pt B 0) rfl (hf2.g 0 0))) ?_
    refine rq 1 27 (v := pt (aD b1) 0) rfl (hS24.se [1, 3]) (fun w' hw' => (yd (aD b1) 0 3 K33 K4 rfl (hf2.g 5 2))) ?_
    refine rq 5 31 (v := pt (aD b1) 4) rfl (hS24.se [1, 3]) (fun w' hw' => (yd (aD b1) 0 0 K30 K2 rfl (hf2.g 5 2))) ?_
    refine rA [2, 6] ?_
    refine ra_y 28 (i := 2) (v := .agg #[vi A1, vi B2, vi C1, vi D1]) rfl rfl rfl (ya (aD b1) 0 [vi A1, vi B2, vi C1, vi D1, vi Exp1] [vi A1, vi B2, vi C1, vi D1] K10 K4 (hS24.c 2)) (hS24.se [1, 3]) ?_ ?_
    ·skip
     refine rA [3, 6] ?_
     refine rC 29 3 rfl (yC [.agg #[vi A1, vi B2, vi C1, vi D1]] K71 (c_spec_l1Root (TRing.mk A1 B2 C1 D1) _  (hS24.inn0 [] rfl) hc2)) ?_ ?_
     ·rintro _ w_14 ⟨rfl, hd7⟩
      have hS25 := hS24.out00 hd7
      refine ⟨(hS25.se [1, 3]), ?_⟩
      refine rA [4, 6] ?_
      refine rC 30 4 rfl (yC [pt B 0, gR_ r_3] K62 (c_spec_l2C_ring (Tl2C.mk bad1) r_3 B _  (hS25.inn [true, false, false, false] rfl [] rfl) hc3)) ?_ ?_
      ·rintro _ w_15 ⟨rfl, hd8⟩
       have hS26 := hS25.out [true, false, false, false] rfl hd8
       refine ⟨(hS26.se [0, 2]), ?_⟩
       refine rA [6] ?_
       refine ra_y 32 (i := 6) (v := vi Exp1) rfl rfl rfl (yl (aD b1) 4 [vi A1, vi B2, vi C1, vi D1, vi Exp1] (vi Exp1) K1 (hS26.c 1)) (hS26.se [0, 2]) ?_ ?_
       ·skip
        refine rq 7 33 (v := vi (i64.wrap (Exp1 + 1))) rfl (hS26.se [0, 2]) (fun w' hw' => (yP Exp1 1)) ?_
        refine rq 8 34 (v := .agg #[vi r_4.A, vi r_4.B, vi r_4.C, vi r_4.D, vi (i64.wrap (Exp1 + 1))]) rfl (hS26.se [0, 2]) (fun w' hw' => (Y_buildS (zs := kZ_) (vs := [(0, gR_ r_4), (1, vi (i64.wrap (Exp1 + 1)))]) (cs := [vi r_4.A, vi r_4.B, vi r_4.C, vi r_4.D, vi (i64.wrap (Exp1 + 1))]) K24 K5 rfl (mpc rfl (mpc rfl mpn)) rfl)) ?_
        refine rA [9] ?_
        refine rZ 9 rfl (yT 1 5 (aD b1) 54 (.agg #[vi r_4.A, vi r_4.B, vi r_4.C, vi r_4.D, vi (i64.wrap (Exp1 + 1))]) [vi r_4.A, vi r_4.B, vi r_4.C, vi r_4.D, vi (i64.wrap (Exp1 + 1))] 0 hS26 K0 rfl (hf2.g 5 2)) ?_ ?_
        ·rintro _ w_16 ⟨rfl, hS27⟩
         refine ⟨(hS27.se [0, 2]), ?_⟩
         refine ra_done (by kernel_rfl) ?_
         exact ⟨(fc (hf2.g 0 0) (fc (hf2.g 4 1) (fc (hf2.g 5 2) (fc (hf2.g 6 3) fn_)))), (hS27.sel [3, 0, 1, 2] rfl rfl)⟩
        exact aN
       exact aN
      refine ra_y 32 (i := 6) (v := vi Exp1) rfl rfl rfl (yl (aD b1) 4 [vi A1, vi B2, vi C1, vi D1, vi Exp1] (vi Exp1) K1 (hS25.c 2)) (hS25.se [1, 3]) ?_ ?_
      ·skip
       refine rq 7 33 (v := vi (i64.wrap (Exp1 + 1))) rfl (hS25.se [1, 3]) (fun w' hw' => (yP Exp1 1)) ?_
       refine rA [4] ?_
       refine rC 30 4 rfl (yC [pt B 0, gR_ r_3] K62 (c_spec_l2C_ring (Tl2C.mk bad1) r_3 B _  (hS25.inn [true, false, false, false] rfl [] rfl) hc3)) ?_ ?_
       ·rintro _ w_17 ⟨rfl, hd9⟩
        have hS28 := hS25.out [true, false, false, false] rfl hd9
        refine ⟨(hS28.se [0, 2]), ?_⟩
        refine rq 8 34 (v := .agg #[vi r_4.A, vi r_4.B, vi r_4.C, vi r_4.D, vi (i64.wrap (Exp1 + 1))]) rfl (hS28.se [0, 2]) (fun w' hw' => (Y_buildS (zs := kZ_) (vs := [(0, gR_ r_4), (1, vi (i64.wrap (Exp1 + 1)))]) (cs := [vi r_4.A, vi r_4.B, vi r_4.C, vi r_4.D, vi (i64.wrap (Exp1 + 1))]) K24 K5 rfl (mpc rfl (mpc rfl mpn)) rfl)) ?_
        refine rA [9] ?_
        refine rZ 9 rfl (yT 1 5 (aD b1) 54 (.agg #[vi r_4.A, vi r_4.B, vi r_4.C, vi r_4.D, vi (i64.wrap (Exp1 + 1))]) [vi r_4.A, vi r_4.B, vi r_4.C, vi r_4.D, vi (i64.wrap (Exp1 + 1))] 0 hS28 K0 rfl (hf2.g 5 2)) ?_ ?_
        ·rintro _ w_18 ⟨rfl, hS29⟩
         refine ⟨(hS29.se [0, 2]), ?_⟩
         refine ra_done (by kernel_rfl) ?_
         exact ⟨(fc (hf2.g 0 0) (fc (hf2.g 4 1) (fc (hf2.g 5 2) (fc (hf2.g 6 3) fn_)))), (hS29.sel [3, 0, 1, 2] rfl rfl)⟩
        exact aN
       exact aN
      exact aN
     refine ra_y 32 (i := 6) (v := vi Exp1) rfl rfl rfl (yl (aD b1) 4 [vi A1, vi B2, vi C1, vi D1, vi Exp1] (vi Exp1) K1 (hS24.c 2)) (hS24.se [1, 3]) ?_ ?_
     ·skip
      refine rq 7 33 (v := vi (i64.wrap (Exp1 + 1))) rfl (hS24.se [1, 3]) (fun w' hw' => (yP Exp1 1)) ?_
      refine rA [3] ?_
      refine rC 29 3 rfl (yC [.agg #[vi A1, vi B2, vi C1, vi D1]] K71 (c_spec_l1Root (TRing.mk A1 B2 C1 D1) _  (hS24.inn0 [] rfl) hc2)) ?_ ?_
      ·rintro _ w_19 ⟨rfl, hd10⟩
       have hS30 := hS24.out00 hd10
       refine ⟨(hS30.se [1, 3]), ?_⟩
       refine rA [4] ?_
       refine rC 30 4 rfl (yC [pt B 0, gR_ r_3] K62 (c_spec_l2C_ring (Tl2C.mk bad1) r_3 B _  (hS30.inn [true, false, false, false] rfl [] rfl) hc3)) ?_ ?_
       ·rintro _ w_20 ⟨rfl, hd11⟩
        have hS31 := hS30.out [true, false, false, false] rfl hd11
        refine ⟨(hS31.se [0, 2]), ?_⟩
        refine rq 8 34 (v := .agg #[vi r_4.A, vi r_4.B, vi r_4.C, vi r_4.D, vi (i64.wrap (Exp1 + 1))]) rfl (hS31.se [0, 2]) (fun w' hw' => (Y_buildS (zs := kZ_) (vs := [(0, gR_ r_4), (1, vi (i64.wrap (Exp1 + 1)))]) (cs := [vi r_4.A, vi r_4.B, vi r_4.C, vi r_4.D, vi (i64.wrap (Exp1 + 1))]) K24 K5 rfl (mpc rfl (mpc rfl mpn)) rfl)) ?_
        refine rA [9] ?_
        refine rZ 9 rfl (yT 1 5 (aD b1) 54 (.agg #[vi r_4.A, vi r_4.B, vi r_4.C, vi r_4.D, vi (i64.wrap (Exp1 + 1))]) [vi r_4.A, vi r_4.B, vi r_4.C, vi r_4.D, vi (i64.wrap (Exp1 + 1))] 0 hS31 K0 rfl (hf2.g 5 2)) ?_ ?_
        ·rintro _ w_21 ⟨rfl, hS32⟩
         refine ⟨(hS32.se [0, 2]), ?_⟩
         refine ra_done (by kernel_rfl) ?_
         exact ⟨(fc (hf2.g 0 0) (fc (hf2.g 4 1) (fc (hf2.g 5 2) (fc (hf2.g 6 3) fn_)))), (hS32.sel [3, 0, 1, 2] rfl rfl)⟩
        exact aN
       exact aN
      exact aN
     exact aN
    refine ra_y 32 (i := 6) (v := vi Exp1) rfl rfl rfl (yl (aD b1) 4 [vi A1, vi B2, vi C1, vi D1, vi Exp1] (vi Exp1) K1 (hS24.c 2)) (hS24.se [1, 3]) ?_ ?_
    ·skip
     refine rq 7 33 (v := vi (i64.wrap (Exp1 + 1))) rfl (hS24.se [1, 3]) (fun w' hw' => (yP Exp1 1)) ?_
     refine rA [2] ?_
     refine ra_y 28 (i := 2) (v := .agg #[vi A1, vi B2, vi C1, vi D1]) rfl rfl rfl (ya (aD b1) 0 [vi A1, vi B2, vi C1, vi D1, vi Exp1] [vi A1, vi B2, vi C1, vi D1] K10 K4 (hS24.c 2)) (hS24.se [1, 3]) ?_ ?_
     ·skip
      refine rA [3] ?_
      refine rC 29 3 rfl (yC [.agg #[vi A1, vi B2, vi C1, vi D1]] K71 (c_spec_l1Root (TRing.mk A1 B2 C1 D1) _  (hS24.inn0 [] rfl) hc2)) ?_ ?_
      ·rintro _ w_22 ⟨rfl, hd12⟩
       have hS33 := hS24.out00 hd12
       refine ⟨(hS33.se [1, 3]), ?_⟩
       refine rA [4] ?_
       refine rC 30 4 rfl (yC [pt B 0, gR_ r_3] K62 (c_spec_l2C_ring (Tl2C.mk bad1) r_3 B _  (hS33.inn [true, false, false, false] rfl [] rfl) hc3)) ?_ ?_
       ·rintro _ w_23 ⟨rfl, hd13⟩
        have hS34 := hS33.out [true, false, false, false] rfl hd13
        refine ⟨(hS34.se [0, 2]), ?_⟩
        refine rq 8 34 (v := .agg #[vi r_4.A, vi r_4.B, vi r_4.C, vi r_4.D, vi (i64.wrap (Exp1 + 1))]) rfl (hS34.se [0, 2]) (fun w' hw' => (Y_buildS (zs := kZ_) (vs := [(0, gR_ r_4), (1, vi (i64.wrap (Exp1 + 1)))]) (cs := [vi r_4.A, vi r_4.B, vi r_4.C, vi r_4.D, vi (i64.wrap (Exp1 + 1))]) K24 K5 rfl (mpc rfl (mpc rfl mpn)) rfl)) ?_
        refine rA [9] ?_
        refine rZ 9 rfl (yT 1 5 (aD b1) 54 (.agg #[vi r_4.A, vi r_4.B, vi r_4.C, vi r_4.D, vi (i64.wrap (Exp1 + 1))]) [vi r_4.A, vi r_4.B, vi r_4.C, vi r_4.D, vi (i64.wrap (Exp1 + 1))] 0 hS34 K0 rfl (hf2.g 5 2)) ?_ ?_
        ·rintro _ w_24 ⟨rfl, hS35⟩
         refine ⟨(hS35.se [0, 2]), ?_⟩
         refine ra_done (by kernel_rfl) ?_
         exact ⟨(fc (hf2.g 0 0) (fc (hf2.g 4 1) (fc (hf2.g 5 2) (fc (hf2.g 6 3) fn_)))), (hS35.sel [3, 0, 1, 2] rfl rfl)⟩
        exact aN
       exact aN
      exact aN
     exact aN
    exact aN
   rintro f w ⟨hf3, hS23⟩
   obtain rfl := sI hF5
   exact ⟨K29, Nat.lt_succ_self _, m2.bad, r_4.A, r_4.B, r_4.C, r_4.D, (i64.wrap (Exp1 + 1)), (fc (hf3.g 0 0) (fc (hf3.g 4 1) (fc (hf3.g 5 2) (fc (hf3.g 6 3) fn_)))), (hS23.sel [0, 1, 2, 3] rfl rfl), hL3⟩
  ·skip
   have hF6 := cf' hb2 hb3
   refine cw_exit rfl ?_
   obtain rfl := sI hF6
   obtain rfl := sI hL3
   refine cq ?_
   obtain ⟨r_5, hc4, hF4⟩ := bI hF4
   obtain ⟨⟨r_6, m3⟩, hc5, hF4⟩ := bI hF4
   obtain ⟨r_7, hc6, hF4⟩ := bI hF4
   refine ra_start (hS20.se [1, 2]).fn (by kernel_rfl) ?_
   have hS39 := hS20.drew
   refine rq 0 35 (v := pt B 0) rfl (hS39.se [1, 2]) (fun w' hw' => (ym (pt B 0) rfl (hf2.g 0 0))) ?_
   refine rq 1 36 (v := pt (aD b) 0) rfl (hS39.se [1, 2]) (fun w' hw' => (yd (aD b) 0 3 K33 K4 rfl (hf2.g 4 1))) ?_
   refine rq 2 37 (v := .agg #[vi A, vi B1, vi C, vi D]) rfl (hS39.se [1, 2]) (fun w' hw' => (ya (aD b) 0 [vi A, vi B1, vi C, vi D, vi Exp] [vi A, vi B1, vi C, vi D] K10 K4 (ST.cf hw' (i := 0) rfl))) ?_
   refine rq 3 38 (v := pt (aD b1) 0) rfl (hS39.se [1, 2]) (fun w' hw' => (yd (aD b1) 0 3 K33 K4 rfl (hf2.g 5 2))) ?_
   refine rq 4 39 (v := .agg #[vi A1, vi B2, vi C1, vi D1]) rfl (hS39.se [1, 2]) (fun w' hw' => (ya (aD b1) 0 [vi A1, vi B2, vi C1, vi D1, vi Exp1] [vi A1, vi B2, vi C1, vi D1] K10 K4 (ST.cf hw' (i := 1) rfl))) ?_
   refine rq 7 42 (v := pt (aD b) 4) rfl (hS39.se [1, 2]) (fun w' hw' => (yd (aD b) 0 0 K30 K2 rfl (hf2.g 4 1))) ?_
   refine rq 8 43 (v := vi Exp) rfl (hS39.se [1, 2]) (fun w' hw' => (yl (aD b) 4 [vi A, vi B1, vi C, vi D, vi Exp] (vi Exp) K1 (ST.cf hw' (i := 0) rfl))) ?_
   refine rA [5] ?_
   refine rC 40 5 rfl (yC [.agg #[vi A, vi B1, vi C, vi D], .agg #[vi A1, vi B2, vi C1, vi D1]] k_call_116 (c_spec_l1Add (TRing.mk A B1 C D) (TRing.mk A1 B2 C1 D1) _  (hS39.inn0 [] rfl) hc4)) ?_ ?_
   ·rintro _ w_25 ⟨rfl, hd14⟩
    have hS40 := hS39.out00 hd14
    refine ⟨(hS40.se [1, 2]), ?_⟩
    refine rA [6] ?_
    refine rC 41 6 rfl (yC [pt B 0, gR_ r_5] K62 (c_spec_l2C_ring (Tl2C.mk bad1) r_5 B _  (hS40.inn [true, false, false, false] rfl [] rfl) hc5)) ?_ ?_
    ·rintro _ w_26 ⟨rfl, hd15⟩
     have hS41 := hS40.out [true, false, false, false] rfl hd15
     refine ⟨(hS41.se [0, 1]), ?_⟩
     refine rA [9] ?_
     refine rC 44 9 rfl (yC [gR_ r_6, vi Exp] K119 (c_spec_l2Low r_6 Exp _  (hS41.inn0 [] rfl) hc6)) ?_ ?_
     ·rintro _ w_27 ⟨rfl, hd16⟩
      have hS42 := hS41.out00 hd16
      refine ⟨(hS42.se [0, 1]), ?_⟩
      refine rA [10] ?_
      refine rZ 10 rfl (yT 2 5 (aD b2) 54 (gD_ r_7) (kD_ r_7) 0 hS42 K0 rfl (hf2.g 6 3)) ?_ ?_
      ·rintro _ w_28 ⟨rfl, hS43⟩
       refine ⟨(hS43.se [0, 1]), ?_⟩
       refine ra_done (by kernel_rfl) ?_
       refine ct_ ?_
       obtain ⟨rfl, rfl⟩ := pr2 (sI hF4)
       exact ret1 Tryz.results60 (v1 := gD_ r_7) (resAt_cellA (B := aD b2) (i := 0) (cs := kD_ r_7) (vs := kD_ r_7) (hf2.g 6 3) K3 K0 (hS43.c 2) rfl rfl) ⟨rfl, (hS43.sN [3])⟩
      exact aN
     exact aN
    exact aN
   exact aN

theorem c_spec_l1Mul (x : TRing) (y : TRing)  (w0 : World)  (hS : ST w0 [] w0 [] []) {r_ : TRing} (hF : F_spec_l1Mul x y = some r_) :
  CV Tryz.prog 117 #[gR_ x, gR_ y] w0 (fun v w' => v = (gR_ r_) ∧ ST w0 [] w' [] []) := by
 unfold F_spec_l1Mul at hF
 refine cv_of_cw 98 Tryz.func117 rfl Tryz.ntmps117 rfl ?_
 refine cq (cr ?_)
 refine sS 2 (yB 52 (gR_ x) (kR_ x) 4 hS) ?_
 rintro _ w_ ⟨b, rfl, hS1⟩
 refine sS 3 (yB 52 (gR_ y) (kR_ y) 4 hS1) ?_
 rintro _ w_1 ⟨b1, rfl, hS2⟩
 refine sS 4 (yN [vi 0, vi 0, vi 0, vi 0] 4 hS2 K16) ?_
 rintro _ w_2 ⟨b2, rfl, hS3⟩
 refine rn (cq (cr ?_))
 refine sQ 5 (yd (aD b) 0 0 K20 K2) <| sQ 6 (yl (aD b) 0 (kR_ x) (vi x.A) K1 (hS3.c 0)) <| sQ 7 (yd (aD b1) 0 0 K20 K2) <| sQ 8 (yl (aD b1) 0 (kR_ y) (vi y.A) K1 (hS3.c 1)) <| sQ 9 (yX x.A y.A) <| sQ 10 (yd (aD b) 0 0 K21 K2) ?_
 refine sQ 11 (yl (aD b) 1 (kR_ x) (vi x.B) K1 (hS3.c 0)) <| sQ 12 (yd (aD b1) 0 0 K23 K2) <| sQ 13 (yl (aD b1) 3 (kR_ y) (vi y.D) K1 (hS3.c 1)) <| sQ 14 (yX x.B y.D) <| sQ 15 (yM (i64.wrap (x.A * y.A)) (i64.wrap (x.B * y.D))) <| sQ 16 (yd (aD b) 0 0 K22 K2) ?_
 refine sQ 17 (yl (aD b) 2 (kR_ x) (vi x.C) K1 (hS3.c 0)) <| sQ 18 (yd (aD b1) 0 0 K22 K2) <| sQ 19 (yl (aD b1) 2 (kR_ y) (vi y.C) K1 (hS3.c 1)) <| sQ 20 (yX x.C y.C) <| sQ 21 (yM (i64.wrap ((i64.wrap (x.A * y.A)) - (i64.wrap (x.B * y.D)))) (i64.wrap (x.C * y.C))) <| sQ 22 (yd (aD b) 0 0 K23 K2) ?_
 refine sQ 23 (yl (aD b) 3 (kR_ x) (vi x.D) K1 (hS3.c 0)) <| sQ 24 (yd (aD b1) 0 0 K21 K2) <| sQ 25 (yl (aD b1) 1 (kR_ y) (vi y.B) K1 (hS3.c 1)) <| sQ 26 (yX x.D y.B) <| sQ 27 (yM (i64.wrap ((i64.wrap ((i64.wrap (x.A * y.A)) - (i64.wrap (x.B * y.D)))) - (i64.wrap (x.C * y.C)))) (i64.wrap (x.D * y.B))) <| sQ 28 (yd (aD b) 0 0 K20 K2) ?_
 refine sQ 29 (yl (aD b) 0 (kR_ x) (vi x.A) K1 (hS3.c 0)) <| sQ 30 (yd (aD b1) 0 0 K21 K2) <| sQ 31 (yl (aD b1) 1 (kR_ y) (vi y.B) K1 (hS3.c 1)) <| sQ 32 (yX x.A y.B) <| sQ 33 (yd (aD b) 0 0 K21 K2) <| sQ 34 (yl (aD b) 1 (kR_ x) (vi x.B) K1 (hS3.c 0)) ?_
 refine sQ 35 (yd (aD b1) 0 0 K20 K2) <| sQ 36 (yl (aD b1) 0 (kR_ y) (vi y.A) K1 (hS3.c 1)) <| sQ 37 (yX x.B y.A) <| sQ 38 (yP (i64.wrap (x.A * y.B)) (i64.wrap (x.B * y.A))) <| sQ 39 (yd (aD b) 0 0 K22 K2) <| sQ 40 (yl (aD b) 2 (kR_ x) (vi x.C) K1 (hS3.c 0)) ?_
 refine sQ 41 (yd (aD b1) 0 0 K23 K2) <| sQ 42 (yl (aD b1) 3 (kR_ y) (vi y.D) K1 (hS3.c 1)) <| sQ 43 (yX x.C y.D) <| sQ 44 (yM (i64.wrap ((i64.wrap (x.A * y.B)) + (i64.wrap (x.B * y.A)))) (i64.wrap (x.C * y.D))) <| sQ 45 (yd (aD b) 0 0 K23 K2) <| sQ 46 (yl (aD b) 3 (kR_ x) (vi x.D) K1 (hS3.c 0)) ?_
 refine sQ 47 (yd (aD b1) 0 0 K22 K2) <| sQ 48 (yl (aD b1) 2 (kR_ y) (vi y.C) K1 (hS3.c 1)) <| sQ 49 (yX x.D y.C) <| sQ 50 (yM (i64.wrap ((i64.wrap ((i64.wrap (x.A * y.B)) + (i64.wrap (x.B * y.A)))) - (i64.wrap (x.C * y.D)))) (i64.wrap (x.D * y.C))) <| sQ 51 (yd (aD b) 0 0 K20 K2) <| sQ 52 (yl (aD b) 0 (kR_ x) (vi x.A) K1 (hS3.c 0)) ?_
 refine sQ 53 (yd (aD b1) 0 0 K22 K2) <| sQ 54 (yl (aD b1) 2 (kR_ y) (vi y.C) K1 (hS3.c 1)) <| sQ 55 (yX x.A y.C) <| sQ 56 (yd (aD b) 0 0 K21 K2) <| sQ 57 (yl (aD b) 1 (kR_ x) (vi x.B) K1 (hS3.c 0)) <| sQ 58 (yd (aD b1) 0 0 K21 K2) ?_
 refine sQ 59 (yl (aD b1) 1 (kR_ y) (vi y.B) K1 (hS3.c 1)) <| sQ 60 (yX x.B y.B) <| sQ 61 (yP (i64.wrap (x.A * y.C)) (i64.wrap (x.B * y.B))) <| sQ 62 (yd (aD b) 0 0 K22 K2) <| sQ 63 (yl (aD b) 2 (kR_ x) (vi x.C) K1 (hS3.c 0)) <| sQ 64 (yd (aD b1) 0 0 K20 K2) ?_
 refine sQ 65 (yl (aD b1) 0 (kR_ y) (vi y.A) K1 (hS3.c 1)) <| sQ 66 (yX x.C y.A) <| sQ 67 (yP (i64.wrap ((i64.wrap (x.A * y.C)) + (i64.wrap (x.B * y.B)))) (i64.wrap (x.C * y.A))) <| sQ 68 (yd (aD b) 0 0 K23 K2) <| sQ 69 (yl (aD b) 3 (kR_ x) (vi x.D) K1 (hS3.c 0)) <| sQ 70 (yd (aD b1) 0 0 K23 K2) ?_
 refine sQ 71 (yl (aD b1) 3 (kR_ y) (vi y.D) K1 (hS3.c 1)) <| sQ 72 (yX x.D y.D) <| sQ 73 (yM (i64.wrap ((i64.wrap ((i64.wrap (x.A * y.C)) + (i64.wrap (x.B * y.B)))) + (i64.wrap (x.C * y.A)))) (i64.wrap (x.D * y.D))) <| sQ 74 (yd (aD b) 0 0 K20 K2) <| sQ 75 (yl (aD b) 0 (kR_ x) (vi x.A) K1 (hS3.c 0)) <| sQ 76 (yd (aD b1) 0 0 K23 K2) ?_
 refine sQ 77 (yl (aD b1) 3 (kR_ y) (vi y.D) K1 (hS3.c 1)) <| sQ 78 (yX x.A y.D) <| sQ 79 (yd (aD b) 0 0 K21 K2) <| sQ 80 (yl (aD b) 1 (kR_ x) (vi x.B) K1 (hS3.c 0)) <| sQ 81 (yd (aD b1) 0 0 K22 K2) <| sQ 82 (yl (aD b1) 2 (kR_ y) (vi y.C) K1 (hS3.c 1)) ?_
 refine sQ 83 (yX x.B y.C) <| sQ 84 (yP (i64.wrap (x.A * y.D)) (i64.wrap (x.B * y.C))) <| sQ 85 (yd (aD b) 0 0 K22 K2) <| sQ 86 (yl (aD b) 2 (kR_ x) (vi x.C) K1 (hS3.c 0)) <| sQ 87 (yd (aD b1) 0 0 K21 K2) <| sQ 88 (yl (aD b1) 1 (kR_ y) (vi y.B) K1 (hS3.c 1)) ?_
 refine sQ 89 (yX x.C y.B) <| sQ 90 (yP (i64.wrap ((i64.wrap (x.A * y.D)) + (i64.wrap (x.B * y.C)))) (i64.wrap (x.C * y.B))) <| sQ 91 (yd (aD b) 0 0 K23 K2) <| sQ 92 (yl (aD b) 3 (kR_ x) (vi x.D) K1 (hS3.c 0)) <| sQ 93 (yd (aD b1) 0 0 K20 K2) <| sQ 94 (yl (aD b1) 0 (kR_ y) (vi y.A) K1 (hS3.c 1)) ?_
 refine sQ 95 (yX x.D y.A) <| sQ 96 (yP (i64.wrap ((i64.wrap ((i64.wrap (x.A * y.D)) + (i64.wrap (x.B * y.C)))) + (i64.wrap (x.C * y.B)))) (i64.wrap (x.D * y.A))) <| sQ 97 (Y_buildS (zs := [vi 0, vi 0, vi 0, vi 0]) (vs := [(0, vi (i64.wrap ((i64.wrap ((i64.wrap ((i64.wrap (x.A * y.A)) - (i64.wrap (x.B * y.D)))) - (i64.wrap (x.C * y.C)))) - (i64.wrap (x.D * y.B))))), (1, vi (i64.wrap ((i64.wrap ((i64.wrap ((i64.wrap (x.A * y.B)) + (i64.wrap (x.B * y.A)))) - (i64.wrap (x.C * y.D)))) - (i64.wrap (x.D * y.C))))), (2, vi (i64.wrap ((i64.wrap ((i64.wrap ((i64.wrap (x.A * y.C)) + (i64.wrap (x.B * y.B)))) + (i64.wrap (x.C * y.A)))) - (i64.wrap (x.D * y.D))))), (3, vi (i64.wrap ((i64.wrap ((i64.wrap ((i64.wrap (x.A * y.D)) + (i64.wrap (x.B * y.C)))) + (i64.wrap (x.C * y.B)))) + (i64.wrap (x.D * y.A)))))]) (cs := [vi (i64.wrap ((i64.wrap ((i64.wrap ((i64.wrap (x.A * y.A)) - (i64.wrap (x.B * y.D)))) - (i64.wrap (x.C * y.C)))) - (i64.wrap (x.D * y.B)))), vi (i64.wrap ((i64.wrap ((i64.wrap ((i64.wrap (x.A * y.B)) + (i64.wrap (x.B * y.A)))) - (i64.wrap (x.C * y.D)))) - (i64.wrap (x.D * y.C)))), vi (i64.wrap ((i64.wrap ((i64.wrap ((i64.wrap (x.A * y.C)) + (i64.wrap (x.B * y.B)))) + (i64.wrap (x.C * y.A)))) - (i64.wrap (x.D * y.D)))), vi (i64.wrap ((i64.wrap ((i64.wrap ((i64.wrap (x.A * y.D)) + (i64.wrap (x.B * y.C)))) + (i64.wrap (x.C * y.B)))) + (i64.wrap (x.D * y.A))))]) K32 K16 rfl (mpc rfl (mpc rfl (mpc rfl (mpc rfl mpn)))) rfl) ?_
 refine s0 (yT 2 4 (aD b2) 52 (.agg #[vi (i64.wrap ((i64.wrap ((i64.wrap ((i64.wrap (x.A * y.A)) - (i64.wrap (x.B * y.D)))) - (i64.wrap (x.C * y.C)))) - (i64.wrap (x.D * y.B)))), vi (i64.wrap ((i64.wrap ((i64.wrap ((i64.wrap (x.A * y.B)) + (i64.wrap (x.B * y.A)))) - (i64.wrap (x.C * y.D)))) - (i64.wrap (x.D * y.C)))), vi (i64.wrap ((i64.wrap ((i64.wrap ((i64.wrap (x.A * y.C)) + (i64.wrap (x.B * y.B)))) + (i64.wrap (x.C * y.A)))) - (i64.wrap (x.D * y.D)))), vi (i64.wrap ((i64.wrap ((i64.wrap ((i64.wrap (x.A * y.D)) + (i64.wrap (x.B * y.C)))) + (i64.wrap (x.C * y.B)))) + (i64.wrap (x.D * y.A))))]) [vi (i64.wrap ((i64.wrap ((i64.wrap ((i64.wrap (x.A * y.A)) - (i64.wrap (x.B * y.D)))) - (i64.wrap (x.C * y.C)))) - (i64.wrap (x.D * y.B)))), vi (i64.wrap ((i64.wrap ((i64.wrap ((i64.wrap (x.A * y.B)) + (i64.wrap (x.B * y.A)))) - (i64.wrap (x.C * y.D)))) - (i64.wrap (x.D * y.C)))), vi (i64.wrap ((i64.wrap ((i64.wrap ((i64.wrap (x.A * y.C)) + (i64.wrap (x.B * y.B)))) + (i64.wrap (x.C * y.A)))) - (i64.wrap (x.D * y.D)))), vi (i64.wrap ((i64.wrap ((i64.wrap ((i64.wrap (x.A * y.D)) + (i64.wrap (x.B * y.C)))) + (i64.wrap (x.C * y.B)))) + (i64.wrap (x.D * y.A))))] 0 hS3 K4) ?_
 rintro _ w_3 ⟨rfl, hS4⟩
 refine rn (ct_ ?_)
 obtain rfl := sI hF
 exact ret1 Tryz.results117 (v1 := .agg #[vi (i64.wrap ((i64.wrap ((i64.wrap ((i64.wrap (x.A * y.A)) - (i64.wrap (x.B * y.D)))) - (i64.wrap (x.C * y.C)))) - (i64.wrap (x.D * y.B)))), vi (i64.wrap ((i64.wrap ((i64.wrap ((i64.wrap (x.A * y.B)) + (i64.wrap (x.B * y.A)))) - (i64.wrap (x.C * y.D)))) - (i64.wrap (x.D * y.C)))), vi (i64.wrap ((i64.wrap ((i64.wrap ((i64.wrap (x.A * y.C)) + (i64.wrap (x.B * y.B)))) + (i64.wrap (x.C * y.A)))) - (i64.wrap (x.D * y.D)))), vi (i64.wrap ((i64.wrap ((i64.wrap ((i64.wrap (x.A * y.D)) + (i64.wrap (x.B * y.C)))) + (i64.wrap (x.C * y.B)))) + (i64.wrap (x.D * y.A))))]) (resAt_cellA (B := aD b2) (i := 0) (cs := [vi (i64.wrap ((i64.wrap ((i64.wrap ((i64.wrap (x.A * y.A)) - (i64.wrap (x.B * y.D)))) - (i64.wrap (x.C * y.C)))) - (i64.wrap (x.D * y.B)))), vi (i64.wrap ((i64.wrap ((i64.wrap ((i64.wrap (x.A * y.B)) + (i64.wrap (x.B * y.A)))) - (i64.wrap (x.C * y.D)))) - (i64.wrap (x.D * y.C)))), vi (i64.wrap ((i64.wrap ((i64.wrap ((i64.wrap (x.A * y.C)) + (i64.wrap (x.B * y.B)))) + (i64.wrap (x.C * y.A)))) - (i64.wrap (x.D * y.D)))), vi (i64.wrap ((i64.wrap ((i64.wrap ((i64.wrap (x.A * y.D)) + (i64.wrap (x.B * y.C)))) + (i64.wrap (x.C * y.B)))) + (i64.wrap (x.D * y.A))))]) (vs := [vi (i64.wrap ((i64.wrap ((i64.wrap ((i64.wrap (x.A * y.A)) - (i64.wrap (x.B * y.D)))) - (i64.wrap (x.C * y.C)))) - (i64.wrap (x.D * y.B)))), vi (i64.wrap ((i64.wrap ((i64.wrap ((i64.wrap (x.A * y.B)) + (i64.wrap (x.B * y.A)))) - (i64.wrap (x.C * y.D)))) - (i64.wrap (x.D * y.C)))), vi (i64.wrap ((i64.wrap ((i64.wrap ((i64.wrap (x.A * y.C)) + (i64.wrap (x.B * y.B)))) + (i64.wrap (x.C * y.A)))) - (i64.wrap (x.D * y.D)))), vi (i64.wrap ((i64.wrap ((i64.wrap ((i64.wrap (x.A * y.D)) + (i64.wrap (x.B * y.C)))) + (i64.wrap (x.C * y.B)))) + (i64.wrap (x.D * y.A))))]) rfl K10 K4 (hS4.c 2) rfl rfl) ⟨rfl, (hS4.sN [])⟩

theorem c_spec_l2C_mul (c : Tl2C) (x : TDyadic) (y : TDyadic) (B : Option Addr) (w0 : World)  (hS : ST w0 (bl [⟨B, 59, [.bool c.bad], 1⟩]) w0 [⟨B, 59, [.bool c.bad], 1⟩] []) {r_ : TDyadic} {m : Tl2C} (hF : F_spec_l2C_mul c x y = some (r_, m)) :
  CV Tryz.prog 61 #[pt B 0, gD_ x, gD_ y] w0 (fun v w' => v = (gD_ r_) ∧ ST w0 (bl [⟨B, 59, [.bool c.bad], 1⟩]) w' [⟨B, 59, [.bool m.bad], 1⟩] []) := by
 unfold F_spec_l2C_mul at hF
 refine cv_of_cw 30 Tryz.func61 rfl Tryz.ntmps61 rfl ?_
 refine cq (cr ?_)
 refine sS 4 (yB 54 (gD_ x) (kD_ x) 5 hS) ?_
 rintro _ w_ ⟨b, rfl, hS1⟩
 refine sS 5 (yB 54 (gD_ y) (kD_ y) 5 hS1) ?_
 rintro _ w_1 ⟨b1, rfl, hS2⟩
 refine sS 6 (yN kZ_ 5 hS2 K5) ?_
 rintro _ w_2 ⟨b2, rfl, hS3⟩
 refine rn (cq (cq (cr ?_)))
 refine sQ 7 (yd (aD b) 0 0 K30 K2) <| sQ 8 (yl (aD b) 4 (kD_ x) (vi x.Exp) K1 (hS3.c 1)) <| sQ 9 (yd (aD b1) 0 0 K30 K2) <| sQ 10 (yl (aD b1) 4 (kD_ y) (vi y.Exp) K1 (hS3.c 2)) <| sQ 11 (yP x.Exp y.Exp) <| sQ 12 (Y_gt (k := .i64) (a := (i64.wrap (x.Exp + y.Exp))) (b := 60) rfl rfl rfl) (rn ?_)
 refine cw_cond (b := (decide (60 < (i64.wrap (x.Exp + y.Exp))))) rfl (fun hb => ?_) (fun hb => ?_)
 ·skip
  have hF1 := ct hF hb
  refine cq (cr ?_)
  refine sQ 13 (ym (pt B 0)) <| sQ 14 (Y_nilCheck (B := B) (i := 0) rfl rfl) <| sQ 15 (yd B 0 0 K65 K54) ?_
  refine s0 (yT 0 1 B 59 (.bool true) [.bool true] 0 hS3 K54) ?_
  rintro _ w_3 ⟨rfl, hS4⟩
  refine rn (cq (cr ?_))
  refine sQ 16 (Y_buildS (zs := kZ_) (vs := []) (cs := kZ_) K24 K5 rfl mpn rfl) ?_
  refine s0 (yT 3 5 (aD b2) 54 gZ_ kZ_ 0 hS4 K0) ?_
  rintro _ w_4 ⟨rfl, hS5⟩
  refine rn (ct_ ?_)
  obtain ⟨rfl, rfl⟩ := pr2 (sI hF1)
  exact ret1 Tryz.results61 (v1 := gZ_) (resAt_cellA (B := aD b2) (i := 0) (cs := kZ_) (vs := kZ_) rfl K3 K0 (hS5.c 3) rfl rfl) ⟨rfl, (hS5.sN [0])⟩
 ·skip
  have hF2 := cf' hF hb
  refine cw_skip (cq ?_)
  obtain ⟨r_1, hc, hF2⟩ := bI hF2
  obtain ⟨⟨r_2, m1⟩, hc1, hF2⟩ := bI hF2
  obtain ⟨r_3, hc2, hF2⟩ := bI hF2
  refine ra_start (hS3.se [1, 2]).fn (by kernel_rfl) ?_
  have hS9 := hS3.drew
  refine rq 0 17 (v := pt B 0) rfl (hS9.se [1, 2]) (fun w' hw' => (ym (pt B 0))) ?_
  refine rq 1 18 (v := pt (aD b) 0) rfl (hS9.se [1, 2]) (fun w' hw' => (yd (aD b) 0 3 K33 K4)) ?_
  refine rq 2 19 (v := gR_ x.Num) rfl (hS9.se [1, 2]) (fun w' hw' => (ya (aD b) 0 (kD_ x) (kR_ x.Num) K10 K4 (ST.cf hw' (i := 0) rfl))) ?_
  refine rq 3 20 (v := pt (aD b1) 0) rfl (hS9.se [1, 2]) (fun w' hw' => (yd (aD b1) 0 3 K33 K4)) ?_
  refine rq 4 21 (v := gR_ y.Num) rfl (hS9.se [1, 2]) (fun w' hw' => (ya (aD b1) 0 (kD_ y) (kR_ y.Num) K10 K4 (ST.cf hw' (i := 1) rfl))) ?_
  refine rq 7 24 (v := pt (aD b) 4) rfl (hS9.se [1, 2]) (fun w' hw' => (yd (aD b) 0 0 K30 K2)) ?_
  refine rq 8 25 (v := vi x.Exp) rfl (hS9.se [1, 2]) (fun w' hw' => (yl (aD b) 4 (kD_ x) (vi x.Exp) K1 (ST.cf hw' (i := 0) rfl))) ?_
  refine rq 9 26 (v := pt (aD b1) 4) rfl (hS9.se [1, 2]) (fun w' hw' => (yd (aD b1) 0 0 K30 K2)) ?_
  refine rq 10 27 (v := vi y.Exp) rfl (hS9.se [1, 2]) (fun w' hw' => (yl (aD b1) 4 (kD_ y) (vi y.Exp) K1 (ST.cf hw' (i := 1) rfl))) ?_
  refine rq 11 28 (v := vi (i64.wrap (x.Exp + y.Exp))) rfl (hS9.se [1, 2]) (fun w' hw' => (yP x.Exp y.Exp)) ?_
  refine rA [5] ?_
  refine rC 22 5 rfl (yC [gR_ x.Num, gR_ y.Num] k_call_117 (c_spec_l1Mul x.Num y.Num _  (hS9.inn0 [] rfl) hc)) ?_ ?_
  ·rintro _ w_5 ⟨rfl, hd⟩
   have hS10 := hS9.out00 hd
   refine ⟨(hS10.se [1, 2]), ?_⟩
   refine rA [6] ?_
   refine rC 23 6 rfl (yC [pt B 0, gR_ r_1] K62 (c_spec_l2C_ring c r_1 B _  (hS10.inn [true, false, false, false] rfl [] rfl) hc1)) ?_ ?_
   ·rintro _ w_6 ⟨rfl, hd1⟩
    have hS11 := hS10.out [true, false, false, false] rfl hd1
    refine ⟨(hS11.se [0, 1]), ?_⟩
    refine rA [12] ?_
    refine rC 29 12 rfl (yC [gR_ r_2, vi (i64.wrap (x.Exp + y.Exp))] K119 (c_spec_l2Low r_2 (i64.wrap (x.Exp + y.Exp)) _  (hS11.inn0 [] rfl) hc2)) ?_ ?_
    ·rintro _ w_7 ⟨rfl, hd2⟩
     have hS12 := hS11.out00 hd2
     refine ⟨(hS12.se [0, 1]), ?_⟩
     refine rA [13] ?_
     refine rZ 13 rfl (yT 2 5 (aD b2) 54 (gD_ r_3) (kD_ r_3) 0 hS12 K0) ?_ ?_
     ·rintro _ w_8 ⟨rfl, hS13⟩
      refine ⟨(hS13.se [0, 1]), ?_⟩
      refine ra_done (by kernel_rfl) ?_
      refine ct_ ?_
      obtain ⟨rfl, rfl⟩ := pr2 (sI hF2)
      exact ret1 Tryz.results61 (v1 := gD_ r_3) (resAt_cellA (B := aD b2) (i := 0) (cs := kD_ r_3) (vs := kD_ r_3) rfl K3 K0 (hS13.c 2) rfl rfl) ⟨rfl, (hS13.sN [3])⟩
     exact aN
    exact aN
   exact aN
  exact aN

theorem c_spec_l2C_times (c : Tl2C) (a : TMatrix) (b : TMatrix) (B : Option Addr) (B1 : Option Addr) (c1 n : Nat) (B2 : Option Addr) (c2 n1 : Nat) (w0 : World) (hn : a.Cells.length = n) (hn1 : b.Cells.length = n1) (hS : ST w0 (bl [⟨B, 59, [.bool c.bad], 1⟩]) w0 [⟨B, 59, [.bool c.bad], 1⟩] [⟨B1, (a.Cells.flatMap eN0)⟩, ⟨B2, (b.Cells.flatMap eN0)⟩]) {r_ : TMatrix} {m : Tl2C} (hF : F_spec_l2C_times c a b = some (r_, m)) :
  CV Tryz.prog 29 #[pt B 0, .agg #[vi a.Rows, vi a.Cols, .slice B1 n c1], .agg #[vi b.Rows, vi b.Cols, .slice B2 n1 c2]] w0 (fun v w' => ∃ (B3 : Option Addr) (c3 : Nat), v = (gM_ r_ B3 c3) ∧ ST w0 (bl [⟨B, 59, [.bool c.bad], 1⟩]) w' [⟨B, 59, [.bool m.bad], 1⟩, ⟨B3, 54, (r_.Cells.flatMap eN0), c3 * 5⟩] []) := by
 subst hn
 subst hn1
 unfold F_spec_l2C_times at hF
 refine cv_of_cw 75 Tryz.func29 rfl Tryz.ntmps29 rfl ?_
 refine cq (cr ?_)
 refine sS 4 (yB 26 (gM_ a B1 c1) (kM_ a B1 c1) 3 hS) ?_
 rintro _ w_ ⟨b1, rfl, hS1⟩
 refine sS 5 (yB 26 (gM_ b B2 c2) (kM_ b B2 c2) 3 hS1) ?_
 rintro _ w_1 ⟨b2, rfl, hS2⟩
 refine sS 6 (yN kN_ 3 hS2 K17) ?_
 rintro _ w_2 ⟨b3, rfl, hS3⟩
 refine rn (cq (cr ?_))
 refine sQ 12 (yd (aD b1) 0 0 K35 K2) <| sQ 13 (yl (aD b1) 0 (kM_ a B1 c1) (vi a.Rows) K1 (hS3.c 1)) <| sQ 14 (yd (aD b2) 0 0 K31 K2) <| sQ 15 (yl (aD b2) 1 (kM_ b B2 c2) (vi b.Cols) K1 (hS3.c 2)) <| sQ 16 (Y_buildS (zs := kN_) (vs := [(0, vi a.Rows), (1, vi b.Cols)]) (cs := [vi a.Rows, vi b.Cols, .slice none 0 0]) K49 K17 rfl (mpc rfl (mpc rfl mpn)) rfl) ?_
 refine sS 7 (yN kN_ 3 hS3 K17) ?_
 rintro _ w_3 ⟨b4, rfl, hS4⟩
 refine s0 (yT 4 3 (aD b4) 26 (.agg #[vi a.Rows, vi b.Cols, .slice none 0 0]) [vi a.Rows, vi b.Cols, .slice none 0 0] 0 hS4 K6) ?_
 rintro _ w_4 ⟨rfl, hS5⟩
 refine rn (cq (cq (cr ?_)))
 refine sQ 8 (yg (vi 0)) (rn ?_)
 obtain ⟨hN, hF⟩ := chk_inv hF
 obtain ⟨z, hz, hF1⟩ := bI hF
 have hS7 := hS5.addNil 54
 refine cw_block ?_
 refine cw_loop (fun k f w => ∃ (i1 : Nat) (bad : Bool) (Cells : List TDyadic) (B4 : Option Addr) (c4 : Nat), FF f [(0, pt B 0), (4, pt (aD b1) 0), (5, pt (aD b2) 0), (6, pt (aD b3) 0), (7, pt (aD b4) 0), (8, vi (i1 : Int))] ∧ ST w0 (bl [⟨B, 59, [.bool c.bad], 1⟩]) w [⟨B, 59, [.bool bad], 1⟩, ⟨aD b1, 26, kM_ a B1 c1, 3⟩, ⟨aD b2, 26, kM_ b B2 c2, 3⟩, ⟨aD b3, 26, kN_, 3⟩, ⟨aD b4, 26, [vi a.Rows, vi b.Cols, .slice B4 Cells.length c4], 3⟩, ⟨B4, 54, (Cells.flatMap eN0), c4 * 5⟩] [⟨B1, (a.Cells.flatMap eN0)⟩, ⟨B2, (b.Cells.flatMap eN0)⟩] ∧ i1 + k = a.Rows.toNat ∧ forN (F_spec_l2C_times_l1 b a) k i1 (bad, Cells) = some z) a.Rows.toNat ⟨0, c.bad, [], none, 0, (fc rfl (fc rfl (fc rfl (fc rfl (fc rfl (fc rfl fn_)))))), (hS7.sel [0, 1, 2, 3, 4, 5] rfl rfl), Nat.zero_add _, hz⟩ ?_
 rintro k_ f w ⟨i1, bad, Cells, B4, c4, hf, hS6, hik, hL⟩
 refine cq (cq (cr ?_))
 refine sQ 17 (ym (vi (i1 : Int)) rfl (hf.g 8 5)) <| sQ 18 (yd (aD b1) 0 0 K35 K2 rfl (hf.g 4 1)) <| sQ 19 (yl (aD b1) 0 (kM_ a B1 c1) (vi a.Rows) K1 (hS6.c 1)) <| sQ 20 (yL (i1 : Int) a.Rows) (rn ?_)
 refine cw_cond (b := (decide ((i1 : Int) < a.Rows))) rfl (fun hlt => ?_) (fun hlt => ?_)
 ·skip
  have hlt1 : i1 < a.Rows.toNat := by have h := of_decide_eq_true hlt; omega
  obtain ⟨K9, rfl⟩ : ∃ k2, k_ = k2 + 1 := ⟨k_ - 1, by omega⟩
  obtain ⟨y, hb, hL1⟩ := forN_go hL
  unfold F_spec_l2C_times_l1 at hb
  refine cw_skip (cq (cw_block (cq (cr ?_))))
  refine sQ 9 (yg (vi 0)) (rn ?_)
  obtain ⟨hN1, hb⟩ := chk_inv hb
  obtain ⟨z1, hz1, hF2⟩ := bI hb
  refine cw_block ?_
  refine cw_loop (fun k f w => ∃ (j : Nat) (bad1 : Bool) (Cells1 : List TDyadic) (B5 : Option Addr) (c5 : Nat), FF f [(0, pt B 0), (4, pt (aD b1) 0), (5, pt (aD b2) 0), (6, pt (aD b3) 0), (7, pt (aD b4) 0), (8, vi (i1 : Int)), (9, vi (j : Int))] ∧ ST w0 (bl [⟨B, 59, [.bool c.bad], 1⟩]) w [⟨B, 59, [.bool bad1], 1⟩, ⟨aD b1, 26, kM_ a B1 c1, 3⟩, ⟨aD b2, 26, kM_ b B2 c2, 3⟩, ⟨aD b3, 26, kN_, 3⟩, ⟨aD b4, 26, [vi a.Rows, vi b.Cols, .slice B5 Cells1.length c5], 3⟩, ⟨B5, 54, (Cells1.flatMap eN0), c5 * 5⟩] [⟨B1, (a.Cells.flatMap eN0)⟩, ⟨B2, (b.Cells.flatMap eN0)⟩] ∧ j + k = b.Cols.toNat ∧ forN (F_spec_l2C_times_l2 a Cells i1 b bad) k j (bad1, Cells1) = some z1) b.Cols.toNat ⟨0, bad, Cells, B4, c4, (fc (hf.g 0 0) (fc (hf.g 4 1) (fc (hf.g 5 2) (fc (hf.g 6 3) (fc (hf.g 7 4) (fc (hf.g 8 5) (fc rfl fn_))))))), (hS6.sel [0, 1, 2, 3, 4, 5] rfl rfl), Nat.zero_add _, hz1⟩ ?_
  rintro K15 f w ⟨j, bad1, Cells1, B5, c5, hf1, hS8, hik1, hL2⟩
  refine cq (cq (cr ?_))
  refine sQ 23 (ym (vi (j : Int)) rfl (hf1.g 9 6)) <| sQ 24 (yd (aD b2) 0 0 K31 K2 rfl (hf1.g 5 2)) <| sQ 25 (yl (aD b2) 1 (kM_ b B2 c2) (vi b.Cols) K1 (hS8.c 2)) <| sQ 26 (yL (j : Int) b.Cols) (rn ?_)
  refine cw_cond (b := (decide ((j : Int) < b.Cols))) rfl (fun hlt2 => ?_) (fun hlt2 => ?_)
  ·skip
   have hlt3 : j < b.Cols.toNat := by have h := of_decide_eq_true hlt2; omega
   obtain ⟨K29, rfl⟩ : ∃ k2, K15 = k2 + 1 := ⟨K15 - 1, by omega⟩
   obtain ⟨y1, hb1, hL3⟩ := forN_go hL2
   unfold F_spec_l2C_times_l2 at hb1
   refine cw_skip (cq (cw_block (cq (cr ?_))))
   refine sQ 29 (Y_buildS (zs := kZ_) (vs := []) (cs := kZ_) K24 K5 rfl mpn rfl) ?_
   refine sS 10 (yN kZ_ 5 hS8 K5) ?_
   rintro _ w_5 ⟨b5, rfl, hS9⟩
   refine s0 (yT 6 5 (aD b5) 54 gZ_ kZ_ 0 hS9 K0) ?_
   rintro _ w_6 ⟨rfl, hS10⟩
   refine rn (cq (cq (cr ?_)))
   refine sQ 11 (yg (vi 0)) (rn ?_)
   obtain ⟨z2, hz2, hF3⟩ := bI hb1
   refine cw_block ?_
   refine cw_loop (fun k f w => ∃ (bad2 : Bool) (A : Int) (B6 : Int) (C : Int) (D : Int) (Exp : Int) (K11 : Int), FF f [(0, pt B 0), (4, pt (aD b1) 0), (5, pt (aD b2) 0), (6, pt (aD b3) 0), (7, pt (aD b4) 0), (8, vi (i1 : Int)), (9, vi (j : Int)), (10, pt (aD b5) 0), (11, vi K11)] ∧ ST w0 (bl [⟨B, 59, [.bool c.bad], 1⟩]) w [⟨B, 59, [.bool bad2], 1⟩, ⟨aD b1, 26, kM_ a B1 c1, 3⟩, ⟨aD b2, 26, kM_ b B2 c2, 3⟩, ⟨aD b3, 26, kN_, 3⟩, ⟨aD b4, 26, [vi a.Rows, vi b.Cols, .slice B5 Cells1.length c5], 3⟩, ⟨B5, 54, (Cells1.flatMap eN0), c5 * 5⟩, ⟨aD b5, 54, [vi A, vi B6, vi C, vi D, vi Exp], 5⟩] [⟨B1, (a.Cells.flatMap eN0)⟩, ⟨B2, (b.Cells.flatMap eN0)⟩] ∧ whX (F_spec_l2C_times_l3 a Cells i1 b j bad) k (bad2, A, B6, C, D, Exp, K11) = some z2) fuel ⟨bad1, 0, 0, 0, 0, 0, 0, (fc (hf1.g 0 0) (fc (hf1.g 4 1) (fc (hf1.g 5 2) (fc (hf1.g 6 3) (fc (hf1.g 7 4) (fc (hf1.g 8 5) (fc (hf1.g 9 6) (fc rfl (fc rfl fn_))))))))), (hS10.sel [0, 1, 2, 3, 4, 5, 6] rfl rfl), hz2⟩ ?_
   rintro K55 f w ⟨bad2, A, B6, C, D, Exp, K11, hf2, hS11, hL4⟩
   obtain ⟨K109, y2, rfl, hb2, hL5⟩ := whX_go hL4
   unfold F_spec_l2C_times_l3 at hb2
   refine cq (cq (cr ?_))
   refine sQ 30 (ym (vi K11) rfl (hf2.g 11 8)) <| sQ 31 (yd (aD b1) 0 0 K31 K2 rfl (hf2.g 4 1)) <| sQ 32 (yl (aD b1) 1 (kM_ a B1 c1) (vi a.Cols) K1 (hS11.c 1)) <| sQ 33 (yL K11 a.Cols) <| sQ 34 (ym (.bool (decide (K11 < a.Cols)))) ?_
   refine sgq 35 (B := (decide (K11 < a.Cols))) (v := pt B 0) rfl rfl (uT_ 34) (fun hg => (ym (pt B 0) rfl (hf2.g 0 0))) ?_
   refine sgq 36 (B := (decide (K11 < a.Cols))) (v := pt B 0) rfl rfl (uT_ 34) (fun hg1 => (Y_nilCheck (B := B) (i := 0) rfl (gv_of (v := pt B 0) hg1))) ?_
   refine sgq 37 (B := (decide (K11 < a.Cols))) (v := pt B 0) rfl rfl (uT_ 34) (fun hg2 => (yd B 0 0 K65 K54 rfl (gv_of (v := pt B 0) hg2))) ?_
   refine sgq 38 (B := (decide (K11 < a.Cols))) (v := .bool bad2) rfl rfl (uT_ 34) (fun hg3 => (yl B 0 [.bool bad2] (.bool bad2) K72 (hS11.c 0) rfl (gv_of (v := pt B 0) hg3))) ?_
   refine sgq 39 (B := (decide (K11 < a.Cols))) (v := .bool (!bad2)) rfl rfl (uT_ 34) (fun hg4 => (Y_not (p := bad2) rfl (gv_of (v := .bool bad2) hg4))) ?_
   refine sQ 40 (Y_and (b := (decide (K11 < a.Cols))) (z := (!bad2)) rfl rfl rfl rfl) (rn ?_)
   refine cw_cond (b := ((decide (K11 < a.Cols)) && (!bad2))) rfl (fun hb3 => ?_) (fun hb3 => ?_)
   ·skip
    have hF4 := ct hb2 hb3
    refine cw_skip (cq (cw_block ?_))
    obtain ⟨x, hx, hF4⟩ := bI hF4
    obtain ⟨x1, hx1, hF4⟩ := bI hF4
    obtain ⟨⟨r_1, m1⟩, hc, hF4⟩ := bI hF4
    obtain ⟨⟨r_2, m2⟩, hc1, hF4⟩ := bI hF4
    refine cw_mid (fun f w => FF f [(0, pt B 0), (4, pt (aD b1) 0), (5, pt (aD b2) 0), (6, pt (aD b3) 0), (7, pt (aD b4) 0), (8, vi (i1 : Int)), (9, vi (j : Int)), (10, pt (aD b5) 0), (11, vi K11)] ∧ ST w0 (bl [⟨B, 59, [.bool c.bad], 1⟩]) w [⟨B, 59, [.bool m2.bad], 1⟩, ⟨aD b1, 26, kM_ a B1 c1, 3⟩, ⟨aD b2, 26, kM_ b B2 c2, 3⟩, ⟨aD b3, 26, kN_, 3⟩, ⟨aD b4, 26, [vi a.Rows, vi b.Cols, .slice B5 Cells1.length c5], 3⟩, ⟨B5, 54, (Cells1.flatMap eN0), c5 * 5⟩, ⟨aD b5, 54, kD_ r_2, 5⟩] [⟨B1, (a.Cells.flatMap eN0)⟩, ⟨B2, (b.Cells.flatMap eN0)⟩]) ?_ ?_
    ·skip
     refine ra_start (hS11.se [1, 2, 3, 4, 5]).fn (by kernel_rfl) ?_
     have hS15 := hS11.drew
     refine rq 0 43 (v := pt B 0) rfl (hS15.se [1, 2, 3, 4, 5]) (fun w' hw' => (ym (pt B 0) rfl (hf2.g 0 0))) ?_
     refine rq 2 45 (v := pt B 0) rfl (hS15.se [1, 2, 3, 4, 5]) (fun w' hw' => (ym (pt B 0) rfl (hf2.g 0 0))) ?_
     refine rq 3 46 (v := pt (aD b1) 2) rfl (hS15.se [1, 2, 3, 4, 5]) (fun w' hw' => (yd (aD b1) 0 0 K27 K8 rfl (hf2.g 4 1))) ?_
     refine rq 4 47 (v := .slice B1 a.Cells.length c1) rfl (hS15.se [1, 2, 3, 4, 5]) (fun w' hw' => (yl (aD b1) 2 (kM_ a B1 c1) (.slice B1 a.Cells.length c1) K12 (ST.cf hw' (i := 0) rfl))) ?_
     refine rq 5 48 (v := vi (i1 : Int)) rfl (hS15.se [1, 2, 3, 4, 5]) (fun w' hw' => (ym (vi (i1 : Int)) rfl (hf2.g 8 5))) ?_
     refine rq 6 49 (v := pt (aD b1) 1) rfl (hS15.se [1, 2, 3, 4, 5]) (fun w' hw' => (yd (aD b1) 0 0 K31 K2 rfl (hf2.g 4 1))) ?_
     refine rq 7 50 (v := vi a.Cols) rfl (hS15.se [1, 2, 3, 4, 5]) (fun w' hw' => (yl (aD b1) 1 (kM_ a B1 c1) (vi a.Cols) K1 (ST.cf hw' (i := 0) rfl))) ?_
     refine rq 8 51 (v := vi (i64.wrap ((i1 : Int) * a.Cols))) rfl (hS15.se [1, 2, 3, 4, 5]) (fun w' hw' => (yX (i1 : Int) a.Cols)) ?_
     refine rq 9 52 (v := vi K11) rfl (hS15.se [1, 2, 3, 4, 5]) (fun w' hw' => (ym (vi K11) rfl (hf2.g 11 8))) ?_
     refine rq 10 53 (v := vi (i64.wrap ((i64.wrap ((i1 : Int) * a.Cols)) + K11))) rfl (hS15.se [1, 2, 3, 4, 5]) (fun w' hw' => (yP (i64.wrap ((i1 : Int) * a.Cols)) K11)) ?_
     refine rq 11 54 (v := pt B1 ((i64.wrap ((i64.wrap ((i1 : Int) * a.Cols)) + K11)).toNat * 5)) rfl (hS15.se [1, 2, 3, 4, 5]) (fun w' hw' => (Y_index (B := B1) (m := a.Cells.length) (c := c1) (k := .i64) (i := (i64.wrap ((i64.wrap ((i1 : Int) * a.Cols)) + K11))) K7 K0 rfl rfl rfl (gi_isSome eN2 rfl (ST.rf hw' (i := 0) rfl) hx) (getI_nn hx) (getI_ltI hx rfl))) ?_
     refine rq 12 55 (v := gD_ x) rfl (hS15.se [1, 2, 3, 4, 5]) (fun w' hw' => (ya B1 ((i64.wrap ((i64.wrap ((i1 : Int) * a.Cols)) + K11)).toNat * 5) (a.Cells.flatMap eN0) (kD_ x) K3 K0 (ST.rf hw' (i := 0) rfl) rfl rfl (eN2 x) (gi_seg eN2 hx))) ?_
     refine rq 13 56 (v := pt (aD b2) 2) rfl (hS15.se [1, 2, 3, 4, 5]) (fun w' hw' => (yd (aD b2) 0 0 K27 K8 rfl (hf2.g 5 2))) ?_
     refine rq 14 57 (v := .slice B2 b.Cells.length c2) rfl (hS15.se [1, 2, 3, 4, 5]) (fun w' hw' => (yl (aD b2) 2 (kM_ b B2 c2) (.slice B2 b.Cells.length c2) K12 (ST.cf hw' (i := 1) rfl))) ?_
     refine rq 15 58 (v := vi K11) rfl (hS15.se [1, 2, 3, 4, 5]) (fun w' hw' => (ym (vi K11) rfl (hf2.g 11 8))) ?_
     refine rq 16 59 (v := pt (aD b2) 1) rfl (hS15.se [1, 2, 3, 4, 5]) (fun w' hw' => (yd (aD b2) 0 0 K31 K2 rfl (hf2.g 5 2))) ?_
     refine rq 17 60 (v := vi b.Cols) rfl (hS15.se [1, 2, 3, 4, 5]) (fun w' hw' => (yl (aD b2) 1 (kM_ b B2 c2) (vi b.Cols) K1 (ST.cf hw' (i := 1) rfl))) ?_
     refine rq 18 61 (v := vi (i64.wrap (K11 * b.Cols))) rfl (hS15.se [1, 2, 3, 4, 5]) (fun w' hw' => (yX K11 b.Cols)) ?_
     refine rq 19 62 (v := vi (j : Int)) rfl (hS15.se [1, 2, 3, 4, 5]) (fun w' hw' => (ym (vi (j : Int)) rfl (hf2.g 9 6))) ?_
     refine rq 20 63 (v := vi (i64.wrap ((i64.wrap (K11 * b.Cols)) + (j : Int)))) rfl (hS15.se [1, 2, 3, 4, 5]) (fun w' hw' => (yP (i64.wrap (K11 * b.Cols)) (j : Int))) ?_
     refine rq 21 64 (v := pt B2 ((i64.wrap ((i64.wrap (K11 * b.Cols)) + (j : Int))).toNat * 5)) rfl (hS15.se [1, 2, 3, 4, 5]) (fun w' hw' => (Y_index (B := B2) (m := b.Cells.length) (c := c2) (k := .i64) (i := (i64.wrap ((i64.wrap (K11 * b.Cols)) + (j : Int)))) K7 K0 rfl rfl rfl (gi_isSome eN2 rfl (ST.rf hw' (i := 1) rfl) hx1) (getI_nn hx1) (getI_ltI hx1 rfl))) ?_
     refine rq 22 65 (v := gD_ x1) rfl (hS15.se [1, 2, 3, 4, 5]) (fun w' hw' => (ya B2 ((i64.wrap ((i64.wrap (K11 * b.Cols)) + (j : Int))).toNat * 5) (b.Cells.flatMap eN0) (kD_ x1) K3 K0 (ST.rf hw' (i := 1) rfl) rfl rfl (eN2 x1) (gi_seg eN2 hx1))) ?_
     refine rA [1, 23] ?_
     refine ra_y 44 (i := 1) (v := .agg #[vi A, vi B6, vi C, vi D, vi Exp]) rfl rfl rfl (yb (aD b5) 0 [vi A, vi B6, vi C, vi D, vi Exp] K3 K0 (hS15.c 6) rfl (hf2.g 10 7)) (hS15.se [1, 2, 3, 4, 5]) ?_ ?_
     ·skip
      refine rA [23] ?_
      refine rC 66 23 rfl (yC [pt B 0, gD_ x, gD_ x1] K43 (c_spec_l2C_mul (Tl2C.mk bad2) x x1 B _  (hS15.inn [true, false, false, false, false, false, false] rfl [] rfl) hc)) ?_ ?_
      ·rintro _ w_7 ⟨rfl, hd⟩
       have hS16 := hS15.out [true, false, false, false, false, false, false] rfl hd
       refine ⟨(hS16.se [0, 1, 2, 3, 4]), ?_⟩
       refine rA [24] ?_
       refine rC 67 24 rfl (yC [pt B 0, .agg #[vi A, vi B6, vi C, vi D, vi Exp], gD_ r_1] K48 (c_spec_l2C_add m1 (TDyadic.mk (TRing.mk A B6 C D) Exp) r_1 B _  (hS16.inn [false, false, false, false, false, false, true] rfl [] rfl) hc1)) ?_ ?_
       ·rintro _ w_8 ⟨rfl, hd1⟩
        have hS17 := hS16.out [false, false, false, false, false, false, true] rfl hd1
        refine ⟨(hS17.se [0, 1, 2, 3, 4]), ?_⟩
        refine rA [25] ?_
        refine rZ 25 rfl (yT 5 5 (aD b5) 54 (gD_ r_2) (kD_ r_2) 0 hS17 K0 rfl (hf2.g 10 7)) ?_ ?_
        ·rintro _ w_9 ⟨rfl, hS18⟩
         refine ⟨(hS18.se [0, 1, 2, 3, 4]), ?_⟩
         refine ra_done (by kernel_rfl) ?_
         exact ⟨(fc (hf2.g 0 0) (fc (hf2.g 4 1) (fc (hf2.g 5 2) (fc (hf2.g 6 3) (fc (hf2.g 7 4) (fc (hf2.g 8 5) (fc (hf2.g 9 6) (fc (hf2.g 10 7) (fc (hf2.g 11 8) fn_))))))))), (hS18.sel [6, 0, 1, 2, 3, 4, 5] rfl rfl)⟩
        exact aN
       exact aN
      exact aN
     refine rC 66 23 rfl (yC [pt B 0, gD_ x, gD_ x1] K43 (c_spec_l2C_mul (Tl2C.mk bad2) x x1 B _  (hS15.inn [true, false, false, false, false, false, false] rfl [] rfl) hc)) ?_ ?_
     ·rintro _ w_10 ⟨rfl, hd2⟩
      have hS19 := hS15.out [true, false, false, false, false, false, false] rfl hd2
      refine ⟨(hS19.se [0, 1, 2, 3, 4]), ?_⟩
      refine rA [1] ?_
      refine ra_y 44 (i := 1) (v := .agg #[vi A, vi B6, vi C, vi D, vi Exp]) rfl rfl rfl (yb (aD b5) 0 [vi A, vi B6, vi C, vi D, vi Exp] K3 K0 (hS19.c 5) rfl (hf2.g 10 7)) (hS19.se [0, 1, 2, 3, 4]) ?_ ?_
      ·skip
       refine rA [24] ?_
       refine rC 67 24 rfl (yC [pt B 0, .agg #[vi A, vi B6, vi C, vi D, vi Exp], gD_ r_1] K48 (c_spec_l2C_add m1 (TDyadic.mk (TRing.mk A B6 C D) Exp) r_1 B _  (hS19.inn [false, false, false, false, false, false, true] rfl [] rfl) hc1)) ?_ ?_
       ·rintro _ w_11 ⟨rfl, hd3⟩
        have hS20 := hS19.out [false, false, false, false, false, false, true] rfl hd3
        refine ⟨(hS20.se [0, 1, 2, 3, 4]), ?_⟩
        refine rA [25] ?_
        refine rZ 25 rfl (yT 5 5 (aD b5) 54 (gD_ r_2) (kD_ r_2) 0 hS20 K0 rfl (hf2.g 10 7)) ?_ ?_
        ·rintro _ w_12 ⟨rfl, hS21⟩
         refine ⟨(hS21.se [0, 1, 2, 3, 4]), ?_⟩
         refine ra_done (by kernel_rfl) ?_
         exact ⟨(fc (hf2.g 0 0) (fc (hf2.g 4 1) (fc (hf2.g 5 2) (fc (hf2.g 6 3) (fc (hf2.g 7 4) (fc (hf2.g 8 5) (fc (hf2.g 9 6) (fc (hf2.g 10 7) (fc (hf2.g 11 8) fn_))))))))), (hS21.sel [6, 0, 1, 2, 3, 4, 5] rfl rfl)⟩
        exact aN
       exact aN
      exact aN
     exact aN
    rintro f w ⟨hf3, hS14⟩
    refine cr ?_
    refine sQ 41 (ym (vi K11) rfl (hf3.g 11 8)) <| sQ 42 (yP K11 1) <| sQ 11 (yg (vi (i64.wrap (K11 + 1)))) (rn ?_)
    obtain rfl := sI hF4
    exact ⟨K109, Nat.lt_succ_self _, m2.bad, r_2.Num.A, r_2.Num.B, r_2.Num.C, r_2.Num.D, r_2.Exp, (i64.wrap (K11 + 1)), (fc (hf3.g 0 0) (fc (hf3.g 4 1) (fc (hf3.g 5 2) (fc (hf3.g 6 3) (fc (hf3.g 7 4) (fc (hf3.g 8 5) (fc (hf3.g 9 6) (fc (hf3.g 10 7) (fc rfl fn_))))))))), (hS14.sel [0, 1, 2, 3, 4, 5, 6] rfl rfl), hL5⟩
   ·skip
    have hF5 := cf' hb2 hb3
    refine cw_exit rfl ?_
    obtain rfl := sI hF5
    obtain rfl := sI hL5
    refine cr ?_
    refine sQ 68 (yd (aD b4) 0 0 K27 K8 rfl (hf2.g 7 4)) <| sQ 69 (yl (aD b4) 2 [vi a.Rows, vi b.Cols, .slice B5 Cells1.length c5] (.slice B5 Cells1.length c5) K12 (hS11.c 4)) <| sQ 70 (yb (aD b5) 0 [vi A, vi B6, vi C, vi D, vi Exp] K3 K0 (hS11.c 6) rfl (hf2.g 10 7)) ?_
    refine sS 71 (Ys_bslice (s := 5) (len := 1) (vs := [(0, .agg #[vi A, vi B6, vi C, vi D, vi Exp])]) (cs := [vi A, vi B6, vi C, vi D, vi Exp]) (zs := kZ_) (m := 5) hS11 K7 K0 K36 rfl (mpc rfl mpn) rfl rfl rfl (by kernel_rfl) (by kernel_rfl) rfl) ?_
    rintro _ w_13 ⟨b6, rfl, hS22⟩
    obtain ⟨hap, hF3⟩ := chk_inv hF3
    refine sS 72 (Ys_append (s := 5) (by' := 40) (i := 5) (nn := Cells1.length) (c := c5) (k := 1) (len := (Cells1 ++ [(TDyadic.mk (TRing.mk A B6 C D) Exp)]).length) (B := B5) (xs := ([(TDyadic.mk (TRing.mk A B6 C D) Exp)].flatMap eN0)) (cs' := ((Cells1 ++ [(TDyadic.mk (TRing.mk A B6 C D) Exp)]).flatMap eN0)) hS22 K7 K0 K38 K5 rfl (by decide) rfl rfl rfl rfl (fm_lenn (l := Cells1) eN2 rfl) rfl (hS22.c 7) (fm_lenn (l := [(TDyadic.mk (TRing.mk A B6 C D) Exp)]) eN2 rfl) (fm_one' (enc := eN0) enc_Dyadic_one [(TDyadic.mk (TRing.mk A B6 C D) Exp)]) (by have := hap; omega) (by have := hap; simp only [maxLen]; omega) (fm_app _ _) (app_len (l := Cells1) (l' := [(TDyadic.mk (TRing.mk A B6 C D) Exp)]) rfl rfl)) ?_
    rintro _ w_14 ⟨B7, c6, rfl, hS23⟩
    refine sQ 73 (yd (aD b4) 0 0 K27 K8 rfl (hf2.g 7 4)) ?_
    refine s0 (yS 4 1 (aD b4) 26 (.slice B7 ((Cells1 ++ [(TDyadic.mk (TRing.mk A B6 C D) Exp)]).length) c6) [.slice B7 ((Cells1 ++ [(TDyadic.mk (TRing.mk A B6 C D) Exp)]).length) c6] 2 [vi a.Rows, vi b.Cols, .slice B7 ((Cells1 ++ [(TDyadic.mk (TRing.mk A B6 C D) Exp)]).length) c6] hS23 K8) ?_
    rintro _ w_15 ⟨rfl, hS24⟩
    refine rn (cr ?_)
    refine sQ 27 (ym (vi (j : Int)) rfl (hf2.g 9 6)) <| sQ 28 (yP (j : Int) 1) <| sQ 9 (yg (vi (i64.wrap ((j : Int) + 1)))) (rn ?_)
    obtain rfl := sI hF3
    exact ⟨K29, Nat.lt_succ_self _, j + 1, bad2, (Cells1 ++ [(TDyadic.mk (TRing.mk A B6 C D) Exp)]), B7, c6, (fc (hf2.g 0 0) (fc (hf2.g 4 1) (fc (hf2.g 5 2) (fc (hf2.g 6 3) (fc (hf2.g 7 4) (fc (hf2.g 8 5) (fc (congrArg (Value.int .i64) (wr_succ hlt3 hN1)) fn_))))))), (hS24.sel [0, 1, 2, 3, 4, 5] rfl rfl), (by omega), hL3⟩
  ·skip
   obtain rfl : K15 = 0 := by have h := of_decide_eq_false hlt2; omega
   refine cw_exit rfl ?_
   obtain rfl := sI hL2
   refine cr ?_
   refine sQ 21 (ym (vi (i1 : Int)) rfl (hf1.g 8 5)) <| sQ 22 (yP (i1 : Int) 1) <| sQ 8 (yg (vi (i64.wrap ((i1 : Int) + 1)))) (rn ?_)
   obtain rfl := sI hF2
   exact ⟨K9, Nat.lt_succ_self _, i1 + 1, bad1, Cells1, B5, c5, (fc (hf1.g 0 0) (fc (hf1.g 4 1) (fc (hf1.g 5 2) (fc (hf1.g 6 3) (fc (hf1.g 7 4) (fc (congrArg (Value.int .i64) (wr_succ hlt1 hN)) fn_)))))), (hS8.sel [0, 1, 2, 3, 4, 5] rfl rfl), (by omega), hL1⟩
 ·skip
  obtain rfl : k_ = 0 := by have h := of_decide_eq_false hlt; omega
  refine cw_exit rfl ?_
  obtain rfl := sI hL
  refine cq (cr ?_)
  refine sQ 74 (yb (aD b4) 0 [vi a.Rows, vi b.Cols, .slice B4 Cells.length c4] K13 K6 (hS6.c 4) rfl (hf.g 7 4)) ?_
  refine s0 (yT 3 3 (aD b3) 26 (.agg #[vi a.Rows, vi b.Cols, .slice B4 Cells.length c4]) [vi a.Rows, vi b.Cols, .slice B4 Cells.length c4] 0 hS6 K6 rfl (hf.g 6 3)) ?_
  rintro _ w_16 ⟨rfl, hS25⟩
  refine rn (ct_ ?_)
  obtain ⟨rfl, rfl⟩ := pr2 (sI hF1)
  exact ret1 Tryz.results29 (v1 := .agg #[vi a.Rows, vi b.Cols, .slice B4 Cells.length c4]) (resAt_cellA (B := aD b3) (i := 0) (cs := [vi a.Rows, vi b.Cols, .slice B4 Cells.length c4]) (vs := [vi a.Rows, vi b.Cols, .slice B4 Cells.length c4]) (hf.g 6 3) K13 K6 (hS25.c 3) rfl rfl) ⟨B4, c4, rfl, (hS25.sN [0, 5])⟩

theorem c_spec_l1Turn (x : TRing) (k_ : Int)  (w0 : World)  (hS : ST w0 [] w0 [] []) {r_ : TRing} (hF : F_spec_l1Turn x k_ = some r_) :
  CV Tryz.prog 129 #[gR_ x, vi k_] w0 (fun v w' => v = (gR_ r_) ∧ ST w0 [] w' [] []) := by
 unfold F_spec_l1Turn at hF
 refine cv_of_cw 24 Tryz.func129 rfl Tryz.ntmps129 rfl ?_
 refine cq (cr ?_)
 refine sS 2 (yB 52 (gR_ x) (kR_ x) 4 hS) ?_
 rintro _ w_ ⟨b, rfl, hS1⟩
 refine sS 4 (yN [vi 0, vi 0, vi 0, vi 0] 4 hS1 K16) ?_
 rintro _ w_1 ⟨b1, rfl, hS2⟩
 refine rn (cq (cq (cr ?_)))
 refine sQ 5 (ym (vi k_)) <| sQ 6 (Y_rem (k := .i64) (a := k_) (b := 8) rfl rfl rfl (by decide)) <| sQ 7 (yP (Int.tmod k_ 8) 8) <| sQ 8 (Y_rem (k := .i64) (a := (i64.wrap ((Int.tmod k_ 8) + 8))) (b := 8) rfl rfl rfl (by decide)) <| sQ 1 (yg (vi (Int.tmod (i64.wrap ((Int.tmod k_ 8) + 8)) 8))) (rn ?_)
 obtain ⟨z, hz, hF1⟩ := bI hF
 refine cw_block ?_
 refine cw_loop (fun k f w => ∃ (K9 : Int) (A : Int) (B : Int) (C : Int) (D : Int), FF f [(1, vi K9), (2, pt (aD b) 0), (4, pt (aD b1) 0)] ∧ ST w0 [] w [⟨aD b, 52, [vi A, vi B, vi C, vi D], 4⟩, ⟨aD b1, 52, [vi 0, vi 0, vi 0, vi 0], 4⟩] [] ∧ whX F_spec_l1Turn_l1 k (K9, A, B, C, D) = some z) fuel ⟨(Int.tmod (i64.wrap ((Int.tmod k_ 8) + 8)) 8), x.A, x.B, x.C, x.D, (fc rfl (fc rfl (fc rfl fn_))), (hS2.sel [0, 1] rfl rfl), hz⟩ ?_
 rintro K15 f w ⟨K9, A, B, C, D, hf, hS3, hL⟩
 obtain ⟨K29, y, rfl, hb, hL1⟩ := whX_go hL
 unfold F_spec_l1Turn_l1 at hb
 refine cq (cq (cr ?_))
 refine sQ 9 (ym (vi K9) rfl (hf.g 1 0)) <| sQ 10 (Y_gt (k := .i64) (a := K9) (b := 0) rfl rfl rfl) (rn ?_)
 refine cw_cond (b := (decide (0 < K9))) rfl (fun hb1 => ?_) (fun hb1 => ?_)
 ·skip
  have hF2 := ct hb hb1
  refine cw_skip (cq (cw_block (cr ?_)))
  refine sQ 13 (yd (aD b) 0 0 K23 K2 rfl (hf.g 2 1)) <| sQ 14 (yl (aD b) 3 [vi A, vi B, vi C, vi D] (vi D) K1 (hS3.c 0)) <| sQ 15 (Y_neg (k := .i64) (a := D) rfl rfl) <| sQ 16 (yd (aD b) 0 0 K20 K2 rfl (hf.g 2 1)) <| sQ 17 (yl (aD b) 0 [vi A, vi B, vi C, vi D] (vi A) K1 (hS3.c 0)) <| sQ 18 (yd (aD b) 0 0 K21 K2 rfl (hf.g 2 1)) ?_
  refine sQ 19 (yl (aD b) 1 [vi A, vi B, vi C, vi D] (vi B) K1 (hS3.c 0)) <| sQ 20 (yd (aD b) 0 0 K22 K2 rfl (hf.g 2 1)) <| sQ 21 (yl (aD b) 2 [vi A, vi B, vi C, vi D] (vi C) K1 (hS3.c 0)) <| sQ 22 (Y_buildS (zs := [vi 0, vi 0, vi 0, vi 0]) (vs := [(0, vi (i64.wrap (-D))), (1, vi A), (2, vi B), (3, vi C)]) (cs := [vi (i64.wrap (-D)), vi A, vi B, vi C]) K32 K16 rfl (mpc rfl (mpc rfl (mpc rfl (mpc rfl mpn)))) rfl) ?_
  refine s0 (yT 0 4 (aD b) 52 (.agg #[vi (i64.wrap (-D)), vi A, vi B, vi C]) [vi (i64.wrap (-D)), vi A, vi B, vi C] 0 hS3 K4 rfl (hf.g 2 1)) ?_
  rintro _ w_2 ⟨rfl, hS4⟩
  refine rn (cr ?_)
  refine sQ 11 (ym (vi K9) rfl (hf.g 1 0)) <| sQ 12 (yM K9 1) <| sQ 1 (yg (vi (i64.wrap (K9 - 1)))) (rn ?_)
  obtain rfl := sI hF2
  exact ⟨K29, Nat.lt_succ_self _, (i64.wrap (K9 - 1)), (i64.wrap (-D)), A, B, C, (fc rfl (fc (hf.g 2 1) (fc (hf.g 4 2) fn_))), (hS4.sel [0, 1] rfl rfl), hL1⟩
 ·skip
  have hF3 := cf' hb hb1
  refine cw_exit rfl ?_
  obtain rfl := sI hF3
  obtain rfl := sI hL1
  refine cq (cr ?_)
  refine sQ 23 (yb (aD b) 0 [vi A, vi B, vi C, vi D] K10 K4 (hS3.c 0) rfl (hf.g 2 1)) ?_
  refine s0 (yT 1 4 (aD b1) 52 (.agg #[vi A, vi B, vi C, vi D]) [vi A, vi B, vi C, vi D] 0 hS3 K4 rfl (hf.g 4 2)) ?_
  rintro _ w_3 ⟨rfl, hS5⟩
  refine rn (ct_ ?_)
  obtain rfl := sI hF1
  exact ret1 Tryz.results129 (v1 := .agg #[vi A, vi B, vi C, vi D]) (resAt_cellA (B := aD b1) (i := 0) (cs := [vi A, vi B, vi C, vi D]) (vs := [vi A, vi B, vi C, vi D]) (hf.g 4 2) K10 K4 (hS5.c 1) rfl rfl) ⟨rfl, (hS5.sN [])⟩

theorem c_spec_l2Power (k_ : Int)  (w0 : World)  (hS : ST w0 [] w0 [] []) {r_ : TDyadic} (hF : F_spec_l2Power k_ = some r_) :
  CV Tryz.prog 80 #[vi k_] w0 (fun v w' => v = (gD_ r_) ∧ ST w0 [] w' [] []) := by
 unfold F_spec_l2Power at hF
 refine cv_of_cw 7 Tryz.func80 rfl Tryz.ntmps80 rfl ?_
 refine cq (cr ?_)
 refine sS 2 (yN kZ_ 5 hS K5) ?_
 rintro _ w_ ⟨b, rfl, hS1⟩
 refine rn (cq (cr ?_))
 refine sQ 3 (Y_buildS (zs := [vi 0, vi 0, vi 0, vi 0]) (vs := [(0, vi 1)]) (cs := [vi 1, vi 0, vi 0, vi 0]) K32 K16 rfl (mpc rfl mpn) rfl) <| sQ 4 (ym (vi k_)) ?_
 obtain ⟨r_1, hc, hF⟩ := bI hF
 refine sc 5 rfl rfl (yC [.agg #[vi 1, vi 0, vi 0, vi 0], vi k_] k_call_129 (c_spec_l1Turn (TRing.mk 1 0 0 0) k_ _  (hS1.inn0 [] rfl) hc)) ?_
 rintro _ w_1 ⟨rfl, hd⟩
 have hS2 := hS1.out00 hd
 refine sQ 6 (Y_buildS (zs := kZ_) (vs := [(0, gR_ r_1)]) (cs := [vi r_1.A, vi r_1.B, vi r_1.C, vi r_1.D, vi 0]) K24 K5 rfl (mpc rfl mpn) rfl) ?_
 refine s0 (yT 0 5 (aD b) 54 (.agg #[vi r_1.A, vi r_1.B, vi r_1.C, vi r_1.D, vi 0]) [vi r_1.A, vi r_1.B, vi r_1.C, vi r_1.D, vi 0] 0 hS2 K0) ?_
 rintro _ w_2 ⟨rfl, hS3⟩
 refine rn (ct_ ?_)
 obtain rfl := sI hF
 exact ret1 Tryz.results80 (v1 := .agg #[vi r_1.A, vi r_1.B, vi r_1.C, vi r_1.D, vi 0]) (resAt_cellA (B := aD b) (i := 0) (cs := [vi r_1.A, vi r_1.B, vi r_1.C, vi r_1.D, vi 0]) (vs := [vi r_1.A, vi r_1.B, vi r_1.C, vi r_1.D, vi 0]) rfl K3 K0 (hS3.c 0) rfl rfl) ⟨rfl, (hS3.sN [])⟩

theorem c_spec_l3Unit (n : Int)  (w0 : World)  (hS : ST w0 [] w0 [] []) {r_ : TMatrix} (hF : F_spec_l3Unit n = some r_) :
  CV Tryz.prog 41 #[vi n] w0 (fun v w' => ∃ (B : Option Addr) (c : Nat), v = (gM_ r_ B c) ∧ ST w0 [] w' [⟨B, 54, (r_.Cells.flatMap eN0), c * 5⟩] []) := by
 unfold F_spec_l3Unit at hF
 refine cv_of_cw 27 Tryz.func41 rfl Tryz.ntmps41 rfl ?_
 refine cq (cr ?_)
 refine sS 2 (yN kN_ 3 hS K17) ?_
 rintro _ w_ ⟨b, rfl, hS1⟩
 refine rn (cq (cr ?_))
 refine sQ 5 (ym (vi n)) <| sQ 6 (ym (vi n)) <| sQ 7 (ym (vi n)) <| sQ 8 (ym (vi n)) <| sQ 9 (yX n n) ?_
 obtain ⟨hmk, hF⟩ := chk_inv hF
 refine sS 10 (Ys_make (s := 5) (by' := 40) (nn := (i64.wrap (n * n)).toNat) (a := (i64.wrap (n * n))) (b := (i64.wrap (n * n))) (cs := ((List.replicate ((i64.wrap (n * n)).toNat) (TDyadic.mk (TRing.mk 0 0 0 0) 0)).flatMap eN0)) hS1 K7 K0 K38 K5 rfl rfl rfl rfl hmk.1 rfl (by have := hmk; omega) (by have := hmk; omega) (by omega) (fm_rep (enc := eN0) (d := (TDyadic.mk (TRing.mk 0 0 0 0) 0)) rfl _)) ?_
 rintro _ w_1 ⟨b1, rfl, hS2⟩
 refine sQ 11 (Y_buildS (zs := kN_) (vs := [(0, vi n), (1, vi n), (2, .slice (aD b1) ((i64.wrap (n * n)).toNat) ((i64.wrap (n * n)).toNat))]) (cs := [vi n, vi n, .slice (aD b1) ((i64.wrap (n * n)).toNat) ((i64.wrap (n * n)).toNat)]) K49 K17 rfl (mpc rfl (mpc rfl (mpc rfl mpn))) rfl) ?_
 refine sS 3 (yN kN_ 3 hS2 K17) ?_
 rintro _ w_2 ⟨b2, rfl, hS3⟩
 refine s0 (yT 2 3 (aD b2) 26 (.agg #[vi n, vi n, .slice (aD b1) ((i64.wrap (n * n)).toNat) ((i64.wrap (n * n)).toNat)]) [vi n, vi n, .slice (aD b1) ((i64.wrap (n * n)).toNat) ((i64.wrap (n * n)).toNat)] 0 hS3 K6) ?_
 rintro _ w_3 ⟨rfl, hS4⟩
 refine rn (cq (cq (cr ?_)))
 refine sQ 4 (yg (vi 0)) (rn ?_)
 obtain ⟨hN, hF⟩ := chk_inv hF
 obtain ⟨z, hz, hF1⟩ := bI hF
 refine cw_block ?_
 refine cw_loop (fun k f w => ∃ (i1 : Nat) (Cells : List TDyadic), FF f [(0, vi n), (2, pt (aD b) 0), (3, pt (aD b2) 0), (4, vi (i1 : Int))] ∧ Cells.length = (i64.wrap (n * n)).toNat ∧ ST w0 [] w [⟨aD b, 26, kN_, 3⟩, ⟨aD b2, 26, [vi n, vi n, .slice (aD b1) ((i64.wrap (n * n)).toNat) ((i64.wrap (n * n)).toNat)], 3⟩, ⟨aD b1, 54, (Cells.flatMap eN0), ((i64.wrap (n * n)).toNat) * 5⟩] [] ∧ i1 + k = n.toNat ∧ forN (F_spec_l3Unit_l1 n) k i1 Cells = some z) n.toNat ⟨0, (List.replicate ((i64.wrap (n * n)).toNat) (TDyadic.mk (TRing.mk 0 0 0 0) 0)), (fc rfl (fc rfl (fc rfl (fc rfl fn_)))), List.length_replicate, (hS4.sel [0, 2, 1] rfl rfl), Nat.zero_add _, hz⟩ ?_
 rintro k_ f w ⟨i1, Cells, hf, hl, hS5, hik, hL⟩
 refine cq (cq (cr ?_))
 refine sQ 12 (ym (vi (i1 : Int)) rfl (hf.g 4 3)) <| sQ 13 (ym (vi n) rfl (hf.g 0 0)) <| sQ 14 (yL (i1 : Int) n) (rn ?_)
 refine cw_cond (b := (decide ((i1 : Int) < n))) rfl (fun hlt => ?_) (fun hlt => ?_)
 ·skip
  have hlt1 : i1 < n.toNat := by have h := of_decide_eq_true hlt; omega
  obtain ⟨K9, rfl⟩ : ∃ k2, k_ = k2 + 1 := ⟨k_ - 1, by omega⟩
  obtain ⟨y, hb, hL1⟩ := forN_go hL
  unfold F_spec_l3Unit_l1 at hb
  refine cw_skip (cq (cw_block ?_))
  obtain ⟨r_1, hc, hb⟩ := bI hb
  obtain ⟨x, hx, hb⟩ := bI hb
  refine ra_start (hS5.se [0, 1]).fn (by kernel_rfl) ?_
  have hS7 := hS5.drew
  refine rq 0 17 (v := pt (aD b2) 2) rfl (hS7.se [0, 1]) (fun w' hw' => (yd (aD b2) 0 0 K27 K8 rfl (hf.g 3 2))) ?_
  refine rq 1 18 (v := .slice (aD b1) ((i64.wrap (n * n)).toNat) ((i64.wrap (n * n)).toNat)) rfl (hS7.se [0, 1]) (fun w' hw' => (yl (aD b2) 2 [vi n, vi n, .slice (aD b1) ((i64.wrap (n * n)).toNat) ((i64.wrap (n * n)).toNat)] (.slice (aD b1) ((i64.wrap (n * n)).toNat) ((i64.wrap (n * n)).toNat)) K12 (ST.cf hw' (i := 1) rfl))) ?_
  refine rq 2 19 (v := vi (i1 : Int)) rfl (hS7.se [0, 1]) (fun w' hw' => (ym (vi (i1 : Int)) rfl (hf.g 4 3))) ?_
  refine rq 3 20 (v := vi n) rfl (hS7.se [0, 1]) (fun w' hw' => (ym (vi n) rfl (hf.g 0 0))) ?_
  refine rq 4 21 (v := vi (i64.wrap ((i1 : Int) * n))) rfl (hS7.se [0, 1]) (fun w' hw' => (yX (i1 : Int) n)) ?_
  refine rq 5 22 (v := vi (i1 : Int)) rfl (hS7.se [0, 1]) (fun w' hw' => (ym (vi (i1 : Int)) rfl (hf.g 4 3))) ?_
  refine rq 6 23 (v := vi (i64.wrap ((i64.wrap ((i1 : Int) * n)) + (i1 : Int)))) rfl (hS7.se [0, 1]) (fun w' hw' => (yP (i64.wrap ((i1 : Int) * n)) (i1 : Int))) ?_
  refine rA [7] ?_
  refine rC 24 7 rfl (yC [vi 0] K56 (c_spec_l2Power 0 _  (hS7.inn0 [] rfl) hc)) ?_ ?_
  ·rintro _ w_4 ⟨rfl, hd⟩
   have hS8 := hS7.out00 hd
   refine ⟨(hS8.se [0, 1]), ?_⟩
   refine rA [8] ?_
   refine ra_y 25 (i := 8) (v := pt (aD b1) ((i64.wrap ((i64.wrap ((i1 : Int) * n)) + (i1 : Int))).toNat * 5)) rfl rfl rfl (Y_index (B := aD b1) (m := (i64.wrap (n * n)).toNat) (c := (i64.wrap (n * n)).toNat) (k := .i64) (i := (i64.wrap ((i64.wrap ((i1 : Int) * n)) + (i1 : Int)))) K7 K0 rfl rfl rfl (gi_isSome eN2 rfl (hS8.c 2) hx) (getI_nn hx) (getI_ltI hx hl)) (hS8.se [0, 1]) ?_ ?_
   ·skip
    refine rA [9] ?_
    refine rZ 9 rfl (yS 2 5 (aD b1) 54 (gD_ r_1) (kD_ r_1) ((i64.wrap ((i64.wrap ((i1 : Int) * n)) + (i1 : Int))).toNat * 5) ((Cells.set (i64.wrap ((i64.wrap ((i1 : Int) * n)) + (i1 : Int))).toNat r_1).flatMap eN0) hS8 K0 rfl rfl rfl rfl rfl rfl rfl (gi_fit0 eN2 hx) (gi_set eN2 hx r_1 rfl)) ?_ ?_
    ·rintro _ w_5 ⟨rfl, hS9⟩
     refine ⟨(hS9.se [0, 1]), ?_⟩
     refine ra_done (by kernel_rfl) ?_
     refine cr ?_
     refine sQ 15 (ym (vi (i1 : Int)) rfl (hf.g 4 3)) <| sQ 16 (yP (i1 : Int) 1) <| sQ 4 (yg (vi (i64.wrap ((i1 : Int) + 1)))) (rn ?_)
     obtain rfl := sI hb
     exact ⟨K9, Nat.lt_succ_self _, i1 + 1, (Cells.set (i64.wrap ((i64.wrap ((i1 : Int) * n)) + (i1 : Int))).toNat r_1), (fc (hf.g 0 0) (fc (hf.g 2 1) (fc (hf.g 3 2) (fc (congrArg (Value.int .i64) (wr_succ hlt1 hN)) fn_)))), (set_len _ _ _ hl), (hS9.sel [0, 1, 2] rfl rfl), (by omega), hL1⟩
    exact aN
   exact aN
  exact aN
 ·skip
  obtain rfl : k_ = 0 := by have h := of_decide_eq_false hlt; omega
  refine cw_exit rfl ?_
  obtain rfl := sI hL
  refine cq (cr ?_)
  refine sQ 26 (yb (aD b2) 0 [vi n, vi n, .slice (aD b1) ((i64.wrap (n * n)).toNat) ((i64.wrap (n * n)).toNat)] K13 K6 (hS5.c 1) rfl (hf.g 3 2)) ?_
  refine s0 (yT 0 3 (aD b) 26 (.agg #[vi n, vi n, .slice (aD b1) ((i64.wrap (n * n)).toNat) ((i64.wrap (n * n)).toNat)]) [vi n, vi n, .slice (aD b1) ((i64.wrap (n * n)).toNat) ((i64.wrap (n * n)).toNat)] 0 hS5 K6 rfl (hf.g 2 1)) ?_
  rintro _ w_6 ⟨rfl, hS10⟩
  refine rn (ct_ ?_)
  obtain rfl := sI hF1
  exact ret1 Tryz.results41 (v1 := .agg #[vi n, vi n, .slice (aD b1) ((i64.wrap (n * n)).toNat) ((i64.wrap (n * n)).toNat)]) (resAt_cellA (B := aD b) (i := 0) (cs := [vi n, vi n, .slice (aD b1) ((i64.wrap (n * n)).toNat) ((i64.wrap (n * n)).toNat)]) (vs := [vi n, vi n, .slice (aD b1) ((i64.wrap (n * n)).toNat) ((i64.wrap (n * n)).toNat)]) (hf.g 2 1) K13 K6 (hS10.c 0) rfl rfl) ⟨aD b1, (i64.wrap (n * n)).toNat, (by simp [hl]), (hS10.sN [2])⟩

theorem c_spec_l1Conj (x : TRing)  (w0 : World)  (hS : ST w0 [] w0 [] []) {r_ : TRing} (hF : F_spec_l1Conj x = some r_) :
  CV Tryz.prog 142 #[gR_ x] w0 (fun v w' => v = (gR_ r_) ∧ ST w0 [] w' [] []) := by
 unfold F_spec_l1Conj at hF
 refine cv_of_cw 15 Tryz.func142 rfl Tryz.ntmps142 rfl ?_
 refine cq (cr ?_)
 refine sS 1 (yB 52 (gR_ x) (kR_ x) 4 hS) ?_
 rintro _ w_ ⟨b, rfl, hS1⟩
 refine sS 2 (yN [vi 0, vi 0, vi 0, vi 0] 4 hS1 K16) ?_
 rintro _ w_1 ⟨b1, rfl, hS2⟩
 refine rn (cq (cr ?_))
 refine sQ 3 (yd (aD b) 0 0 K20 K2) <| sQ 4 (yl (aD b) 0 (kR_ x) (vi x.A) K1 (hS2.c 0)) <| sQ 5 (yd (aD b) 0 0 K23 K2) <| sQ 6 (yl (aD b) 3 (kR_ x) (vi x.D) K1 (hS2.c 0)) <| sQ 7 (Y_neg (k := .i64) (a := x.D) rfl rfl) <| sQ 8 (yd (aD b) 0 0 K22 K2) ?_
 refine sQ 9 (yl (aD b) 2 (kR_ x) (vi x.C) K1 (hS2.c 0)) <| sQ 10 (Y_neg (k := .i64) (a := x.C) rfl rfl) <| sQ 11 (yd (aD b) 0 0 K21 K2) <| sQ 12 (yl (aD b) 1 (kR_ x) (vi x.B) K1 (hS2.c 0)) <| sQ 13 (Y_neg (k := .i64) (a := x.B) rfl rfl) <| sQ 14 (Y_buildS (zs := [vi 0, vi 0, vi 0, vi 0]) (vs := [(0, vi x.A), (1, vi (i64.wrap (-x.D))), (2, vi (i64.wrap (-x.C))), (3, vi (i64.wrap (-x.B)))]) (cs := [vi x.A, vi (i64.wrap (-x.D)), vi (i64.wrap (-x.C)), vi (i64.wrap (-x.B))]) K32 K16 rfl (mpc rfl (mpc rfl (mpc rfl (mpc rfl mpn)))) rfl) ?_
 refine s0 (yT 1 4 (aD b1) 52 (.agg #[vi x.A, vi (i64.wrap (-x.D)), vi (i64.wrap (-x.C)), vi (i64.wrap (-x.B))]) [vi x.A, vi (i64.wrap (-x.D)), vi (i64.wrap (-x.C)), vi (i64.wrap (-x.B))] 0 hS2 K4) ?_
 rintro _ w_2 ⟨rfl, hS3⟩
 refine rn (ct_ ?_)
 obtain rfl := sI hF
 exact ret1 Tryz.results142 (v1 := .agg #[vi x.A, vi (i64.wrap (-x.D)), vi (i64.wrap (-x.C)), vi (i64.wrap (-x.B))]) (resAt_cellA (B := aD b1) (i := 0) (cs := [vi x.A, vi (i64.wrap (-x.D)), vi (i64.wrap (-x.C)), vi (i64.wrap (-x.B))]) (vs := [vi x.A, vi (i64.wrap (-x.D)), vi (i64.wrap (-x.C)), vi (i64.wrap (-x.B))]) rfl K10 K4 (hS3.c 1) rfl rfl) ⟨rfl, (hS3.sN [])⟩

theorem c_spec_l2Conj (x : TDyadic)  (w0 : World)  (hS : ST w0 [] w0 [] []) {r_ : TDyadic} (hF : F_spec_l2Conj x = some r_) :
  CV Tryz.prog 112 #[gD_ x] w0 (fun v w' => v = (gD_ r_) ∧ ST w0 [] w' [] []) := by
 unfold F_spec_l2Conj at hF
 refine cv_of_cw 9 Tryz.func112 rfl Tryz.ntmps112 rfl ?_
 refine cq (cr ?_)
 refine sS 1 (yB 54 (gD_ x) (kD_ x) 5 hS) ?_
 rintro _ w_ ⟨b, rfl, hS1⟩
 refine sS 2 (yN kZ_ 5 hS1 K5) ?_
 rintro _ w_1 ⟨b1, rfl, hS2⟩
 refine rn (cq ?_)
 obtain ⟨r_1, hc, hF⟩ := bI hF
 refine ra_start (hS2.se [0]).fn (by kernel_rfl) ?_
 have hS4 := hS2.drew
 refine rq 0 3 (v := pt (aD b) 0) rfl (hS4.se [0]) (fun w' hw' => (yd (aD b) 0 3 K33 K4)) ?_
 refine rq 1 4 (v := gR_ x.Num) rfl (hS4.se [0]) (fun w' hw' => (ya (aD b) 0 (kD_ x) (kR_ x.Num) K10 K4 (ST.cf hw' (i := 0) rfl))) ?_
 refine rq 3 6 (v := pt (aD b) 4) rfl (hS4.se [0]) (fun w' hw' => (yd (aD b) 0 0 K30 K2)) ?_
 refine rq 4 7 (v := vi x.Exp) rfl (hS4.se [0]) (fun w' hw' => (yl (aD b) 4 (kD_ x) (vi x.Exp) K1 (ST.cf hw' (i := 0) rfl))) ?_
 refine rA [2] ?_
 refine rC 5 2 rfl (yC [gR_ x.Num] k_call_142 (c_spec_l1Conj x.Num _  (hS4.inn0 [] rfl) hc)) ?_ ?_
 ·rintro _ w_2 ⟨rfl, hd⟩
  have hS5 := hS4.out00 hd
  refine ⟨(hS5.se [0]), ?_⟩
  refine rq 5 8 (v := .agg #[vi r_1.A, vi r_1.B, vi r_1.C, vi r_1.D, vi x.Exp]) rfl (hS5.se [0]) (fun w' hw' => (Y_buildS (zs := kZ_) (vs := [(0, gR_ r_1), (1, vi x.Exp)]) (cs := [vi r_1.A, vi r_1.B, vi r_1.C, vi r_1.D, vi x.Exp]) K24 K5 rfl (mpc rfl (mpc rfl mpn)) rfl)) ?_
  refine rA [6] ?_
  refine rZ 6 rfl (yT 1 5 (aD b1) 54 (.agg #[vi r_1.A, vi r_1.B, vi r_1.C, vi r_1.D, vi x.Exp]) [vi r_1.A, vi r_1.B, vi r_1.C, vi r_1.D, vi x.Exp] 0 hS5 K0) ?_ ?_
  ·rintro _ w_3 ⟨rfl, hS6⟩
   refine ⟨(hS6.se [0]), ?_⟩
   refine ra_done (by kernel_rfl) ?_
   refine ct_ ?_
   obtain rfl := sI hF
   exact ret1 Tryz.results112 (v1 := .agg #[vi r_1.A, vi r_1.B, vi r_1.C, vi r_1.D, vi x.Exp]) (resAt_cellA (B := aD b1) (i := 0) (cs := [vi r_1.A, vi r_1.B, vi r_1.C, vi r_1.D, vi x.Exp]) (vs := [vi r_1.A, vi r_1.B, vi r_1.C, vi r_1.D, vi x.Exp]) rfl K3 K0 (hS6.c 1) rfl rfl) ⟨rfl, (hS6.sN [])⟩
  exact aN
 exact aN

theorem c_spec_l3Adj (m : TMatrix) (B : Option Addr) (c n : Nat) (w0 : World) (hn : m.Cells.length = n) (hS : ST w0 [] w0 [] [⟨B, (m.Cells.flatMap eN0)⟩]) {r_ : TMatrix} (hF : F_spec_l3Adj m = some r_) :
  CV Tryz.prog 59 #[.agg #[vi m.Rows, vi m.Cols, .slice B n c]] w0 (fun v w' => ∃ (B1 : Option Addr) (c1 : Nat), v = (gM_ r_ B1 c1) ∧ ST w0 [] w' [⟨B1, 54, (r_.Cells.flatMap eN0), c1 * 5⟩] []) := by
 subst hn
 unfold F_spec_l3Adj at hF
 refine cv_of_cw 40 Tryz.func59 rfl Tryz.ntmps59 rfl ?_
 refine cq (cr ?_)
 refine sS 1 (yB 26 (gM_ m B c) (kM_ m B c) 3 hS) ?_
 rintro _ w_ ⟨b, rfl, hS1⟩
 refine sS 2 (yN kN_ 3 hS1 K17) ?_
 rintro _ w_1 ⟨b1, rfl, hS2⟩
 refine rn (cq (cr ?_))
 refine sQ 6 (yd (aD b) 0 0 K31 K2) <| sQ 7 (yl (aD b) 1 (kM_ m B c) (vi m.Cols) K1 (hS2.c 0)) <| sQ 8 (yd (aD b) 0 0 K35 K2) <| sQ 9 (yl (aD b) 0 (kM_ m B c) (vi m.Rows) K1 (hS2.c 0)) <| sQ 10 (Y_buildS (zs := kN_) (vs := [(0, vi m.Cols), (1, vi m.Rows)]) (cs := [vi m.Cols, vi m.Rows, .slice none 0 0]) K49 K17 rfl (mpc rfl (mpc rfl mpn)) rfl) ?_
 refine sS 3 (yN kN_ 3 hS2 K17) ?_
 rintro _ w_2 ⟨b2, rfl, hS3⟩
 refine s0 (yT 2 3 (aD b2) 26 (.agg #[vi m.Cols, vi m.Rows, .slice none 0 0]) [vi m.Cols, vi m.Rows, .slice none 0 0] 0 hS3 K6) ?_
 rintro _ w_3 ⟨rfl, hS4⟩
 refine rn (cq (cq (cr ?_)))
 refine sQ 4 (yg (vi 0)) (rn ?_)
 obtain ⟨hN, hF⟩ := chk_inv hF
 obtain ⟨z, hz, hF1⟩ := bI hF
 have hS6 := hS4.addNil 54
 refine cw_block ?_
 refine cw_loop (fun k f w => ∃ (j : Nat) (Cells : List TDyadic) (B2 : Option Addr) (c2 : Nat), FF f [(1, pt (aD b) 0), (2, pt (aD b1) 0), (3, pt (aD b2) 0), (4, vi (j : Int))] ∧ ST w0 [] w [⟨aD b, 26, kM_ m B c, 3⟩, ⟨aD b1, 26, kN_, 3⟩, ⟨aD b2, 26, [vi m.Cols, vi m.Rows, .slice B2 Cells.length c2], 3⟩, ⟨B2, 54, (Cells.flatMap eN0), c2 * 5⟩] [⟨B, (m.Cells.flatMap eN0)⟩] ∧ j + k = m.Cols.toNat ∧ forN (F_spec_l3Adj_l1 m) k j Cells = some z) m.Cols.toNat ⟨0, [], none, 0, (fc rfl (fc rfl (fc rfl (fc rfl fn_)))), (hS6.sel [0, 1, 2, 3] rfl rfl), Nat.zero_add _, hz⟩ ?_
 rintro k_ f w ⟨j, Cells, B2, c2, hf, hS5, hik, hL⟩
 refine cq (cq (cr ?_))
 refine sQ 11 (ym (vi (j : Int)) rfl (hf.g 4 3)) <| sQ 12 (yd (aD b) 0 0 K31 K2 rfl (hf.g 1 0)) <| sQ 13 (yl (aD b) 1 (kM_ m B c) (vi m.Cols) K1 (hS5.c 0)) <| sQ 14 (yL (j : Int) m.Cols) (rn ?_)
 refine cw_cond (b := (decide ((j : Int) < m.Cols))) rfl (fun hlt => ?_) (fun hlt => ?_)
 ·skip
  have hlt1 : j < m.Cols.toNat := by have h := of_decide_eq_true hlt; omega
  obtain ⟨K9, rfl⟩ : ∃ k2, k_ = k2 + 1 := ⟨k_ - 1, by omega⟩
  obtain ⟨y, hb, hL1⟩ := forN_go hL
  unfold F_spec_l3Adj_l1 at hb
  refine cw_skip (cq (cw_block (cq (cr ?_))))
  refine sQ 5 (yg (vi 0)) (rn ?_)
  obtain ⟨hN1, hb⟩ := chk_inv hb
  obtain ⟨z1, hz1, hF2⟩ := bI hb
  refine cw_block ?_
  refine cw_loop (fun k f w => ∃ (i2 : Nat) (Cells1 : List TDyadic) (B3 : Option Addr) (c3 : Nat), FF f [(1, pt (aD b) 0), (2, pt (aD b1) 0), (3, pt (aD b2) 0), (4, vi (j : Int)), (5, vi (i2 : Int))] ∧ ST w0 [] w [⟨aD b, 26, kM_ m B c, 3⟩, ⟨aD b1, 26, kN_, 3⟩, ⟨aD b2, 26, [vi m.Cols, vi m.Rows, .slice B3 Cells1.length c3], 3⟩, ⟨B3, 54, (Cells1.flatMap eN0), c3 * 5⟩] [⟨B, (m.Cells.flatMap eN0)⟩] ∧ i2 + k = m.Rows.toNat ∧ forN (F_spec_l3Adj_l2 m Cells j) k i2 Cells1 = some z1) m.Rows.toNat ⟨0, Cells, B2, c2, (fc (hf.g 1 0) (fc (hf.g 2 1) (fc (hf.g 3 2) (fc (hf.g 4 3) (fc rfl fn_))))), (hS5.sel [0, 1, 2, 3] rfl rfl), Nat.zero_add _, hz1⟩ ?_
  rintro K15 f w ⟨i2, Cells1, B3, c3, hf1, hS7, hik1, hL2⟩
  refine cq (cq (cr ?_))
  refine sQ 17 (ym (vi (i2 : Int)) rfl (hf1.g 5 4)) <| sQ 18 (yd (aD b) 0 0 K35 K2 rfl (hf1.g 1 0)) <| sQ 19 (yl (aD b) 0 (kM_ m B c) (vi m.Rows) K1 (hS7.c 0)) <| sQ 20 (yL (i2 : Int) m.Rows) (rn ?_)
  refine cw_cond (b := (decide ((i2 : Int) < m.Rows))) rfl (fun hlt2 => ?_) (fun hlt2 => ?_)
  ·skip
   have hlt3 : i2 < m.Rows.toNat := by have h := of_decide_eq_true hlt2; omega
   obtain ⟨K29, rfl⟩ : ∃ k2, K15 = k2 + 1 := ⟨K15 - 1, by omega⟩
   obtain ⟨y1, hb1, hL3⟩ := forN_go hL2
   unfold F_spec_l3Adj_l2 at hb1
   refine cw_skip (cq (cw_block ?_))
   obtain ⟨x, hx, hb1⟩ := bI hb1
   obtain ⟨r_1, hc, hb1⟩ := bI hb1
   obtain ⟨hap, hb1⟩ := chk_inv hb1
   refine cw_mid (fun f w => ∃ (B5 : Option Addr) (c5 : Nat), FF f [(1, pt (aD b) 0), (2, pt (aD b1) 0), (3, pt (aD b2) 0), (4, vi (j : Int)), (5, vi (i2 : Int))] ∧ ST w0 [] w [⟨aD b, 26, kM_ m B c, 3⟩, ⟨aD b1, 26, kN_, 3⟩, ⟨aD b2, 26, [vi m.Cols, vi m.Rows, .slice B5 ((Cells1 ++ [r_1]).length) c5], 3⟩, ⟨B5, 54, ((Cells1 ++ [r_1]).flatMap eN0), c5 * 5⟩] [⟨B, (m.Cells.flatMap eN0)⟩]) ?_ ?_
   ·skip
    refine ra_start (hS7.se [0, 1]).fn (by kernel_rfl) ?_
    have hS10 := hS7.drew
    refine rq 0 23 (v := pt (aD b2) 2) rfl (hS10.se [0, 1]) (fun w' hw' => (yd (aD b2) 0 0 K27 K8 rfl (hf1.g 3 2))) ?_
    refine rq 2 25 (v := pt (aD b) 2) rfl (hS10.se [0, 1]) (fun w' hw' => (yd (aD b) 0 0 K27 K8 rfl (hf1.g 1 0))) ?_
    refine rq 3 26 (v := .slice B m.Cells.length c) rfl (hS10.se [0, 1]) (fun w' hw' => (yl (aD b) 2 (kM_ m B c) (.slice B m.Cells.length c) K12 (ST.cf hw' (i := 0) rfl))) ?_
    refine rq 4 27 (v := vi (i2 : Int)) rfl (hS10.se [0, 1]) (fun w' hw' => (ym (vi (i2 : Int)) rfl (hf1.g 5 4))) ?_
    refine rq 5 28 (v := pt (aD b) 1) rfl (hS10.se [0, 1]) (fun w' hw' => (yd (aD b) 0 0 K31 K2 rfl (hf1.g 1 0))) ?_
    refine rq 6 29 (v := vi m.Cols) rfl (hS10.se [0, 1]) (fun w' hw' => (yl (aD b) 1 (kM_ m B c) (vi m.Cols) K1 (ST.cf hw' (i := 0) rfl))) ?_
    refine rq 7 30 (v := vi (i64.wrap ((i2 : Int) * m.Cols))) rfl (hS10.se [0, 1]) (fun w' hw' => (yX (i2 : Int) m.Cols)) ?_
    refine rq 8 31 (v := vi (j : Int)) rfl (hS10.se [0, 1]) (fun w' hw' => (ym (vi (j : Int)) rfl (hf1.g 4 3))) ?_
    refine rq 9 32 (v := vi (i64.wrap ((i64.wrap ((i2 : Int) * m.Cols)) + (j : Int)))) rfl (hS10.se [0, 1]) (fun w' hw' => (yP (i64.wrap ((i2 : Int) * m.Cols)) (j : Int))) ?_
    refine rq 10 33 (v := pt B ((i64.wrap ((i64.wrap ((i2 : Int) * m.Cols)) + (j : Int))).toNat * 5)) rfl (hS10.se [0, 1]) (fun w' hw' => (Y_index (B := B) (m := m.Cells.length) (c := c) (k := .i64) (i := (i64.wrap ((i64.wrap ((i2 : Int) * m.Cols)) + (j : Int)))) K7 K0 rfl rfl rfl (gi_isSome eN2 rfl (ST.rf hw' (i := 0) rfl) hx) (getI_nn hx) (getI_ltI hx rfl))) ?_
    refine rq 11 34 (v := gD_ x) rfl (hS10.se [0, 1]) (fun w' hw' => (ya B ((i64.wrap ((i64.wrap ((i2 : Int) * m.Cols)) + (j : Int))).toNat * 5) (m.Cells.flatMap eN0) (kD_ x) K3 K0 (ST.rf hw' (i := 0) rfl) rfl rfl (eN2 x) (gi_seg eN2 hx))) ?_
    refine rA [1, 12] ?_
    refine ra_y 24 (i := 1) (v := .slice B3 Cells1.length c3) rfl rfl rfl (yl (aD b2) 2 [vi m.Cols, vi m.Rows, .slice B3 Cells1.length c3] (.slice B3 Cells1.length c3) K12 (hS10.c 2)) (hS10.se [0, 1]) ?_ ?_
    ·skip
     refine rA [12] ?_
     refine rC 35 12 rfl (yC [gD_ x] k_call_112 (c_spec_l2Conj x _  (hS10.inn0 [] rfl) hc)) ?_ ?_
     ·rintro _ w_4 ⟨rfl, hd⟩
      have hS11 := hS10.out00 hd
      refine ⟨(hS11.se [0, 1]), ?_⟩
      refine rA [13] ?_
      refine rS 36 13 rfl (Ys_bslice (s := 5) (len := 1) (vs := [(0, gD_ r_1)]) (cs := kD_ r_1) (zs := kZ_) (m := 5) hS11 K7 K0 K36 rfl (mpc rfl mpn) rfl rfl rfl (by kernel_rfl) (by kernel_rfl) rfl) ?_ ?_
      ·rintro _ w_5 ⟨b3, rfl, hS12⟩
       refine ⟨(hS12.se [0, 1]), ?_⟩
       refine rA [14] ?_
       refine rS 37 14 rfl (Ys_append (s := 5) (by' := 40) (i := 3) (nn := Cells1.length) (c := c3) (k := 1) (len := (Cells1 ++ [r_1]).length) (B := B3) (xs := ([r_1].flatMap eN0)) (cs' := ((Cells1 ++ [r_1]).flatMap eN0)) hS12 K7 K0 K38 K5 rfl (by decide) rfl rfl rfl rfl (fm_lenn (l := Cells1) eN2 rfl) rfl (hS12.c 4) (fm_lenn (l := [r_1]) eN2 rfl) (fm_one' (enc := eN0) enc_Dyadic_one [r_1]) (by have := hap; omega) (by have := hap; simp only [maxLen]; omega) (fm_app _ _) (app_len (l := Cells1) (l' := [r_1]) rfl rfl)) ?_ ?_
       ·rintro _ w_6 ⟨B4, c4, rfl, hS13⟩
        refine ⟨(hS13.se [0, 1]), ?_⟩
        refine rq 15 38 (v := pt (aD b2) 2) rfl (hS13.se [0, 1]) (fun w' hw' => (yd (aD b2) 0 0 K27 K8 rfl (hf1.g 3 2))) ?_
        refine rA [16] ?_
        refine rZ 16 rfl (yS 2 1 (aD b2) 26 (.slice B4 ((Cells1 ++ [r_1]).length) c4) [.slice B4 ((Cells1 ++ [r_1]).length) c4] 2 [vi m.Cols, vi m.Rows, .slice B4 ((Cells1 ++ [r_1]).length) c4] hS13 K8) ?_ ?_
        ·rintro _ w_7 ⟨rfl, hS14⟩
         refine ⟨(hS14.se [0, 1]), ?_⟩
         refine ra_done (by kernel_rfl) ?_
         exact ⟨B4, c4, (fc (hf1.g 1 0) (fc (hf1.g 2 1) (fc (hf1.g 3 2) (fc (hf1.g 4 3) (fc (hf1.g 5 4) fn_))))), (hS14.sel [0, 1, 2, 3] rfl rfl)⟩
        exact aN
       exact aN
      exact aN
     exact aN
    refine rC 35 12 rfl (yC [gD_ x] k_call_112 (c_spec_l2Conj x _  (hS10.inn0 [] rfl) hc)) ?_ ?_
    ·rintro _ w_8 ⟨rfl, hd1⟩
     have hS15 := hS10.out00 hd1
     refine ⟨(hS15.se [0, 1]), ?_⟩
     refine rA [1, 13] ?_
     refine ra_y 24 (i := 1) (v := .slice B3 Cells1.length c3) rfl rfl rfl (yl (aD b2) 2 [vi m.Cols, vi m.Rows, .slice B3 Cells1.length c3] (.slice B3 Cells1.length c3) K12 (hS15.c 2)) (hS15.se [0, 1]) ?_ ?_
     ·skip
      refine rA [13] ?_
      refine rS 36 13 rfl (Ys_bslice (s := 5) (len := 1) (vs := [(0, gD_ r_1)]) (cs := kD_ r_1) (zs := kZ_) (m := 5) hS15 K7 K0 K36 rfl (mpc rfl mpn) rfl rfl rfl (by kernel_rfl) (by kernel_rfl) rfl) ?_ ?_
      ·rintro _ w_9 ⟨b3, rfl, hS16⟩
       refine ⟨(hS16.se [0, 1]), ?_⟩
       refine rA [14] ?_
       refine rS 37 14 rfl (Ys_append (s := 5) (by' := 40) (i := 3) (nn := Cells1.length) (c := c3) (k := 1) (len := (Cells1 ++ [r_1]).length) (B := B3) (xs := ([r_1].flatMap eN0)) (cs' := ((Cells1 ++ [r_1]).flatMap eN0)) hS16 K7 K0 K38 K5 rfl (by decide) rfl rfl rfl rfl (fm_lenn (l := Cells1) eN2 rfl) rfl (hS16.c 4) (fm_lenn (l := [r_1]) eN2 rfl) (fm_one' (enc := eN0) enc_Dyadic_one [r_1]) (by have := hap; omega) (by have := hap; simp only [maxLen]; omega) (fm_app _ _) (app_len (l := Cells1) (l' := [r_1]) rfl rfl)) ?_ ?_
       ·rintro _ w_10 ⟨B4, c4, rfl, hS17⟩
        refine ⟨(hS17.se [0, 1]), ?_⟩
        refine rq 15 38 (v := pt (aD b2) 2) rfl (hS17.se [0, 1]) (fun w' hw' => (yd (aD b2) 0 0 K27 K8 rfl (hf1.g 3 2))) ?_
        refine rA [16] ?_
        refine rZ 16 rfl (yS 2 1 (aD b2) 26 (.slice B4 ((Cells1 ++ [r_1]).length) c4) [.slice B4 ((Cells1 ++ [r_1]).length) c4] 2 [vi m.Cols, vi m.Rows, .slice B4 ((Cells1 ++ [r_1]).length) c4] hS17 K8) ?_ ?_
        ·rintro _ w_11 ⟨rfl, hS18⟩
         refine ⟨(hS18.se [0, 1]), ?_⟩
         refine ra_done (by kernel_rfl) ?_
         exact ⟨B4, c4, (fc (hf1.g 1 0) (fc (hf1.g 2 1) (fc (hf1.g 3 2) (fc (hf1.g 4 3) (fc (hf1.g 5 4) fn_))))), (hS18.sel [0, 1, 2, 3] rfl rfl)⟩
        exact aN
       exact aN
      exact aN
     refine rS 36 13 rfl (Ys_bslice (s := 5) (len := 1) (vs := [(0, gD_ r_1)]) (cs := kD_ r_1) (zs := kZ_) (m := 5) hS15 K7 K0 K36 rfl (mpc rfl mpn) rfl rfl rfl (by kernel_rfl) (by kernel_rfl) rfl) ?_ ?_
     ·rintro _ w_12 ⟨b3, rfl, hS19⟩
      refine ⟨(hS19.se [0, 1]), ?_⟩
      refine rA [1] ?_
      refine ra_y 24 (i := 1) (v := .slice B3 Cells1.length c3) rfl rfl rfl (yl (aD b2) 2 [vi m.Cols, vi m.Rows, .slice B3 Cells1.length c3] (.slice B3 Cells1.length c3) K12 (hS19.c 2)) (hS19.se [0, 1]) ?_ ?_
      ·skip
       refine rA [14] ?_
       refine rS 37 14 rfl (Ys_append (s := 5) (by' := 40) (i := 3) (nn := Cells1.length) (c := c3) (k := 1) (len := (Cells1 ++ [r_1]).length) (B := B3) (xs := ([r_1].flatMap eN0)) (cs' := ((Cells1 ++ [r_1]).flatMap eN0)) hS19 K7 K0 K38 K5 rfl (by decide) rfl rfl rfl rfl (fm_lenn (l := Cells1) eN2 rfl) rfl (hS19.c 4) (fm_lenn (l := [r_1]) eN2 rfl) (fm_one' (enc := eN0) enc_Dyadic_one [r_1]) (by have := hap; omega) (by have := hap; simp only [maxLen]; omega) (fm_app _ _) (app_len (l := Cells1) (l' := [r_1]) rfl rfl)) ?_ ?_
       ·rintro _ w_13 ⟨B4, c4, rfl, hS20⟩
        refine ⟨(hS20.se [0, 1]), ?_⟩
        refine rq 15 38 (v := pt (aD b2) 2) rfl (hS20.se [0, 1]) (fun w' hw' => (yd (aD b2) 0 0 K27 K8 rfl (hf1.g 3 2))) ?_
        refine rA [16] ?_
        refine rZ 16 rfl (yS 2 1 (aD b2) 26 (.slice B4 ((Cells1 ++ [r_1]).length) c4) [.slice B4 ((Cells1 ++ [r_1]).length) c4] 2 [vi m.Cols, vi m.Rows, .slice B4 ((Cells1 ++ [r_1]).length) c4] hS20 K8) ?_ ?_
        ·rintro _ w_14 ⟨rfl, hS21⟩
         refine ⟨(hS21.se [0, 1]), ?_⟩
         refine ra_done (by kernel_rfl) ?_
         exact ⟨B4, c4, (fc (hf1.g 1 0) (fc (hf1.g 2 1) (fc (hf1.g 3 2) (fc (hf1.g 4 3) (fc (hf1.g 5 4) fn_))))), (hS21.sel [0, 1, 2, 3] rfl rfl)⟩
        exact aN
       exact aN
      exact aN
     exact aN
    exact aN
   rintro f w ⟨B5, c5, hf2, hS9⟩
   refine cr ?_
   refine sQ 21 (ym (vi (i2 : Int)) rfl (hf2.g 5 4)) <| sQ 22 (yP (i2 : Int) 1) <| sQ 5 (yg (vi (i64.wrap ((i2 : Int) + 1)))) (rn ?_)
   obtain rfl := sI hb1
   exact ⟨K29, Nat.lt_succ_self _, i2 + 1, (Cells1 ++ [r_1]), B5, c5, (fc (hf2.g 1 0) (fc (hf2.g 2 1) (fc (hf2.g 3 2) (fc (hf2.g 4 3) (fc (congrArg (Value.int .i64) (wr_succ hlt3 hN1)) fn_))))), (hS9.sel [0, 1, 2, 3] rfl rfl), (by omega), hL3⟩
  ·skip
   obtain rfl : K15 = 0 := by have h := of_decide_eq_false hlt2; omega
   refine cw_exit rfl ?_
   obtain rfl := sI hL2
   refine cr ?_
   refine sQ 15 (ym (vi (j : Int)) rfl (hf1.g 4 3)) <| sQ 16 (yP (j : Int) 1) <| sQ 4 (yg (vi (i64.wrap ((j : Int) + 1)))) (rn ?_)
   obtain rfl := sI hF2
   exact ⟨K9, Nat.lt_succ_self _, j + 1, Cells1, B3, c3, (fc (hf1.g 1 0) (fc (hf1.g 2 1) (fc (hf1.g 3 2) (fc (congrArg (Value.int .i64) (wr_succ hlt1 hN)) fn_)))), (hS7.sel [0, 1, 2, 3] rfl rfl), (by omega), hL1⟩
 ·skip
  obtain rfl : k_ = 0 := by have h := of_decide_eq_false hlt; omega
  refine cw_exit rfl ?_
  obtain rfl := sI hL
  refine cq (cr ?_)
  refine sQ 39 (yb (aD b2) 0 [vi m.Cols, vi m.Rows, .slice B2 Cells.length c2] K13 K6 (hS5.c 2) rfl (hf.g 3 2)) ?_
  refine s0 (yT 1 3 (aD b1) 26 (.agg #[vi m.Cols, vi m.Rows, .slice B2 Cells.length c2]) [vi m.Cols, vi m.Rows, .slice B2 Cells.length c2] 0 hS5 K6 rfl (hf.g 2 1)) ?_
  rintro _ w_15 ⟨rfl, hS22⟩
  refine rn (ct_ ?_)
  obtain rfl := sI hF1
  exact ret1 Tryz.results59 (v1 := .agg #[vi m.Cols, vi m.Rows, .slice B2 Cells.length c2]) (resAt_cellA (B := aD b1) (i := 0) (cs := [vi m.Cols, vi m.Rows, .slice B2 Cells.length c2]) (vs := [vi m.Cols, vi m.Rows, .slice B2 Cells.length c2]) (hf.g 2 1) K13 K6 (hS22.c 1) rfl rfl) ⟨B2, c2, rfl, (hS22.sN [3])⟩

theorem c_spec_EqualMatrices (a : TMatrix) (b : TMatrix) (B : Option Addr) (c n : Nat) (B1 : Option Addr) (c1 n1 : Nat) (w0 : World) (hn : a.Cells.length = n) (hn1 : b.Cells.length = n1) (hS : ST w0 [] w0 [] [⟨B, (a.Cells.flatMap eN0)⟩, ⟨B1, (b.Cells.flatMap eN0)⟩]) {r_ : Bool} (hF : F_spec_EqualMatrices a b = some r_) :
  CV Tryz.prog 110 #[.agg #[vi a.Rows, vi a.Cols, .slice B n c], .agg #[vi b.Rows, vi b.Cols, .slice B1 n1 c1]] w0 (fun v w' => v = .bool r_ ∧ ST w0 [] w' [] []) := by
 subst hn
 subst hn1
 unfold F_spec_EqualMatrices at hF
 refine cv_of_cw 45 Tryz.func110 rfl Tryz.ntmps110 rfl ?_
 refine cq (cr ?_)
 refine sS 2 (yB 26 (gM_ a B c) (kM_ a B c) 3 hS) ?_
 rintro _ w_ ⟨b1, rfl, hS1⟩
 refine sS 3 (yB 26 (gM_ b B1 c1) (kM_ b B1 c1) 3 hS1) ?_
 rintro _ w_1 ⟨b2, rfl, hS2⟩
 refine sQ 4 (yg (.bool false)) (rn (cq (cq (cr ?_))))
 refine sQ 6 (yd (aD b1) 0 0 K35 K2) <| sQ 7 (yl (aD b1) 0 (kM_ a B c) (vi a.Rows) K1 (hS2.c 0)) <| sQ 8 (yd (aD b2) 0 0 K35 K2) <| sQ 9 (yl (aD b2) 0 (kM_ b B1 c1) (vi b.Rows) K1 (hS2.c 1)) <| sQ 10 (Y_ne (k := .i64) (a := a.Rows) (b := b.Rows) rfl rfl rfl) <| sQ 11 (ym (.bool (a.Rows != b.Rows))) ?_
 refine sgq 12 (B := (!(a.Rows != b.Rows))) (v := pt (aD b1) 1) rfl rfl (uF_ 11) (fun hg => (yd (aD b1) 0 0 K31 K2)) ?_
 refine sgq 13 (B := (!(a.Rows != b.Rows))) (v := vi a.Cols) rfl rfl (uF_ 11) (fun hg1 => (yl (aD b1) 1 (kM_ a B c) (vi a.Cols) K1 (hS2.c 0) rfl (gv_of (v := pt (aD b1) 1) hg1))) ?_
 refine sgq 14 (B := (!(a.Rows != b.Rows))) (v := pt (aD b2) 1) rfl rfl (uF_ 11) (fun hg2 => (yd (aD b2) 0 0 K31 K2)) ?_
 refine sgq 15 (B := (!(a.Rows != b.Rows))) (v := vi b.Cols) rfl rfl (uF_ 11) (fun hg3 => (yl (aD b2) 1 (kM_ b B1 c1) (vi b.Cols) K1 (hS2.c 1) rfl (gv_of (v := pt (aD b2) 1) hg3))) ?_
 refine sgq 16 (B := (!(a.Rows != b.Rows))) (v := .bool (a.Cols != b.Cols)) rfl rfl (uF_ 11) (fun hg4 => (Y_ne (k := .i64) (a := a.Cols) (b := b.Cols) rfl (gv_of (v := vi a.Cols) hg4) (gv_of (v := vi b.Cols) hg4))) ?_
 refine sQ 17 (Y_or (b := (a.Rows != b.Rows)) (z := (a.Cols != b.Cols)) rfl rfl rfl rfl) <| sQ 18 (ym (.bool ((a.Rows != b.Rows) || (a.Cols != b.Cols)))) ?_
 refine sgq 19 (B := (!((a.Rows != b.Rows) || (a.Cols != b.Cols)))) (v := pt (aD b1) 2) rfl rfl (uF_ 18) (fun hg5 => (yd (aD b1) 0 0 K27 K8)) ?_
 refine sgq 20 (B := (!((a.Rows != b.Rows) || (a.Cols != b.Cols)))) (v := .slice B a.Cells.length c) rfl rfl (uF_ 18) (fun hg6 => (yl (aD b1) 2 (kM_ a B c) (.slice B a.Cells.length c) K12 (hS2.c 0) rfl (gv_of (v := pt (aD b1) 2) hg6))) ?_
 refine sgq 21 (B := (!((a.Rows != b.Rows) || (a.Cols != b.Cols)))) (v := vi (a.Cells.length : Int)) rfl rfl (uF_ 18) (fun hg7 => (Y_len (B := B) (m := a.Cells.length) (c := c) K7 rfl (gv_of (v := .slice B a.Cells.length c) hg7))) ?_
 refine sgq 22 (B := (!((a.Rows != b.Rows) || (a.Cols != b.Cols)))) (v := pt (aD b2) 2) rfl rfl (uF_ 18) (fun hg8 => (yd (aD b2) 0 0 K27 K8)) ?_
 refine sgq 23 (B := (!((a.Rows != b.Rows) || (a.Cols != b.Cols)))) (v := .slice B1 b.Cells.length c1) rfl rfl (uF_ 18) (fun hg9 => (yl (aD b2) 2 (kM_ b B1 c1) (.slice B1 b.Cells.length c1) K12 (hS2.c 1) rfl (gv_of (v := pt (aD b2) 2) hg9))) ?_
 refine sgq 24 (B := (!((a.Rows != b.Rows) || (a.Cols != b.Cols)))) (v := vi (b.Cells.length : Int)) rfl rfl (uF_ 18) (fun hg10 => (Y_len (B := B1) (m := b.Cells.length) (c := c1) K7 rfl (gv_of (v := .slice B1 b.Cells.length c1) hg10))) ?_
 refine sgq 25 (B := (!((a.Rows != b.Rows) || (a.Cols != b.Cols)))) (v := .bool ((a.Cells.length : Int) != (b.Cells.length : Int))) rfl rfl (uF_ 18) (fun hg11 => (Y_ne (k := .i64) (a := (a.Cells.length : Int)) (b := (b.Cells.length : Int)) rfl (gv_of (v := vi (a.Cells.length : Int)) hg11) (gv_of (v := vi (b.Cells.length : Int)) hg11))) ?_
 refine sQ 26 (Y_or (b := ((a.Rows != b.Rows) || (a.Cols != b.Cols))) (z := ((a.Cells.length : Int) != (b.Cells.length : Int))) rfl rfl rfl rfl) (rn ?_)
 refine cw_cond (b := (((a.Rows != b.Rows) || (a.Cols != b.Cols)) || ((a.Cells.length : Int) != (b.Cells.length : Int)))) rfl (fun hb => ?_) (fun hb => ?_)
 ·skip
  have hF1 := ct hF hb
  refine cq (cr ?_)
  refine sQ 4 (yg (.bool false)) (rn (ct_ ?_))
  obtain rfl := sI hF1
  exact ret1 Tryz.results110 (v1 := .bool false) (resAt_tmp rfl) ⟨rfl, (hS2.sN [])⟩
 ·skip
  have hF2 := cf' hF hb
  refine cw_skip (cq (cq (cr ?_)))
  refine sQ 27 (yd (aD b1) 0 0 K27 K8) <| sQ 28 (yl (aD b1) 2 (kM_ a B c) (.slice B a.Cells.length c) K12 (hS2.c 0)) <| sQ 29 (Y_len (B := B) (m := a.Cells.length) (c := c) K7 rfl rfl) <| sQ 30 (ym (vi 0)) (rn ?_)
  obtain ⟨hN, hF2⟩ := chk_inv hF2
  obtain ⟨z, hz, hF3⟩ := bI hF2
  refine cw_block ?_
  refine cw_loop (fun k f w => ∃ (i : Nat), FF f [(2, pt (aD b1) 0), (3, pt (aD b2) 0), (29, vi (a.Cells.length : Int)), (30, vi (i : Int))] ∧ ST w0 [] w [⟨aD b1, 26, kM_ a B c, 3⟩, ⟨aD b2, 26, kM_ b B1 c1, 3⟩] [⟨B, (a.Cells.flatMap eN0)⟩, ⟨B1, (b.Cells.flatMap eN0)⟩] ∧ i + k = a.Cells.length ∧ forX (F_spec_EqualMatrices_l1 a b) k i () = some z) a.Cells.length ⟨0, (fc rfl (fc rfl (fc rfl (fc rfl fn_)))), (hS2.sel [0, 1] rfl rfl), Nat.zero_add _, hz⟩ ?_
  rintro k_ f w ⟨i, hf, hS3, hik, hL⟩
  refine cq (cr ?_)
  refine sQ 31 (yL (i : Int) (a.Cells.length : Int) rfl (hf.g 30 3) (hf.g 29 2)) (rn (cq ?_))
  refine cw_cond (b := (decide ((i : Int) < (a.Cells.length : Int)))) rfl (fun hlt => ?_) (fun hlt => ?_)
  ·skip
   have hlt1 : i < a.Cells.length := by have h := of_decide_eq_true hlt; omega
   obtain ⟨K9, rfl⟩ : ∃ k2, k_ = k2 + 1 := ⟨k_ - 1, by omega⟩
   obtain ⟨y, hb1, hL1⟩ := forX_go hL
   unfold F_spec_EqualMatrices_l1 at hb1
   refine cw_skip (cq (cw_block (cq (cr ?_))))
   refine sQ 32 (ym (vi (i : Int)) rfl (hf.g 30 3)) <| sQ 5 (yg (vi (i : Int))) (rn (cq ?_))
   obtain ⟨x, hx, hb1⟩ := bI hb1
   obtain ⟨x1, hx1, hb1⟩ := bI hb1
   refine ra_start (hS3.se [0, 1]).fn (by kernel_rfl) ?_
   have hS4 := hS3.drew
   refine rq 0 33 (v := pt (aD b1) 2) rfl (hS4.se [0, 1]) (fun w' hw' => (yd (aD b1) 0 0 K27 K8 rfl (hf.g 2 0))) ?_
   refine rq 1 34 (v := .slice B a.Cells.length c) rfl (hS4.se [0, 1]) (fun w' hw' => (yl (aD b1) 2 (kM_ a B c) (.slice B a.Cells.length c) K12 (ST.cf hw' (i := 0) rfl))) ?_
   refine rq 2 35 (v := vi (i : Int)) rfl (hS4.se [0, 1]) (fun w' hw' => (ym (vi (i : Int)))) ?_
   refine rq 3 36 (v := pt B ((i : Int).toNat * 5)) rfl (hS4.se [0, 1]) (fun w' hw' => (Y_index (B := B) (m := a.Cells.length) (c := c) (k := .i64) (i := (i : Int)) K7 K0 rfl rfl rfl (gi_isSome eN2 rfl (ST.rf hw' (i := 0) rfl) hx) (getI_nn hx) (getI_ltI hx rfl))) ?_
   refine rq 4 37 (v := gD_ x) rfl (hS4.se [0, 1]) (fun w' hw' => (ya B ((i : Int).toNat * 5) (a.Cells.flatMap eN0) (kD_ x) K3 K0 (ST.rf hw' (i := 0) rfl) rfl rfl (eN2 x) (gi_seg eN2 hx))) ?_
   refine rq 5 38 (v := pt (aD b2) 2) rfl (hS4.se [0, 1]) (fun w' hw' => (yd (aD b2) 0 0 K27 K8 rfl (hf.g 3 1))) ?_
   refine rq 6 39 (v := .slice B1 b.Cells.length c1) rfl (hS4.se [0, 1]) (fun w' hw' => (yl (aD b2) 2 (kM_ b B1 c1) (.slice B1 b.Cells.length c1) K12 (ST.cf hw' (i := 1) rfl))) ?_
   refine rq 7 40 (v := vi (i : Int)) rfl (hS4.se [0, 1]) (fun w' hw' => (ym (vi (i : Int)))) ?_
   refine rq 8 41 (v := pt B1 ((i : Int).toNat * 5)) rfl (hS4.se [0, 1]) (fun w' hw' => (Y_index (B := B1) (m := b.Cells.length) (c := c1) (k := .i64) (i := (i : Int)) K7 K0 rfl rfl rfl (gi_isSome eN2 rfl (ST.rf hw' (i := 1) rfl) hx1) (getI_nn hx1) (getI_ltI hx1 rfl))) ?_
   refine rq 9 42 (v := gD_ x1) rfl (hS4.se [0, 1]) (fun w' hw' => (ya B1 ((i : Int).toNat * 5) (b.Cells.flatMap eN0) (kD_ x1) K3 K0 (ST.rf hw' (i := 1) rfl) rfl rfl (eN2 x1) (gi_seg eN2 hx1))) ?_
   refine ra_q 10 43 (v := .bool (!(((x.Num.A == x1.Num.A) && ((x.Num.B == x1.Num.B) && ((x.Num.C == x1.Num.C) && ((x.Num.D == x1.Num.D) && true)))) && ((x.Exp == x1.Exp) && true)))) rfl rfl rfl (by kernel_rfl) (by kernel_rfl) (by kernel_rfl) (hS4.se [0, 1]) (fun w' hw' => (Y_neA (xs := #[vi x.Num.A, vi x.Num.B, vi x.Num.C, vi x.Num.D, vi x.Exp]) (ys := #[vi x1.Num.A, vi x1.Num.B, vi x1.Num.C, vi x1.Num.D, vi x1.Exp]) (b := (((x.Num.A == x1.Num.A) && ((x.Num.B == x1.Num.B) && ((x.Num.C == x1.Num.C) && ((x.Num.D == x1.Num.D) && true)))) && ((x.Exp == x1.Exp) && true))) K73 rfl rfl rfl (eqr_struct (xs := kD_ x) (ys := kD_ x1) K74 K75 (pts_ag (us := kR_ x.Num) (vs := kR_ x1.Num) K10 K4 rfl rfl (eqr_struct (xs := kR_ x.Num) (ys := kR_ x1.Num) K76 K77 (pts_sc K1 rfl rfl (eqr_int K19) (pts_sc K1 rfl rfl (eqr_int K19) (pts_sc K1 rfl rfl (eqr_int K19) (pts_sc K1 rfl rfl (eqr_int K19) pts_nil))))) (pts_sc K1 rfl rfl (eqr_int K19) pts_nil))))) ?_
   refine ra_done (by kernel_rfl) ?_
   refine cw_cond (b := (!(((x.Num.A == x1.Num.A) && ((x.Num.B == x1.Num.B) && ((x.Num.C == x1.Num.C) && ((x.Num.D == x1.Num.D) && true)))) && ((x.Exp == x1.Exp) && true)))) rfl (fun hb2 => ?_) (fun hb2 => ?_)
   ·skip
    have hF4 := ct hb1 hb2
    refine cq (cr ?_)
    refine sQ 4 (yg (.bool false)) (rn (ct_ ?_))
    obtain rfl := sI hF4
    obtain rfl := sI hL1
    obtain rfl := sI hF3
    exact ret1 Tryz.results110 (v1 := .bool false) (resAt_tmp rfl) ⟨rfl, (hS4.sN [])⟩
   ·skip
    have hF5 := cf' hb1 hb2
    refine cw_skip (cr ?_)
    refine sQ 44 (yP (i : Int) 1 rfl (hf.g 30 3)) <| sQ 30 (ym (vi (i64.wrap ((i : Int) + 1)))) (rn ?_)
    obtain rfl := sI hF5
    exact ⟨K9, Nat.lt_succ_self _, i + 1, (fc (hf.g 2 0) (fc (hf.g 3 1) (fc (hf.g 29 2) (fc (congrArg (Value.int .i64) (wr_succ hlt1 hN)) fn_)))), (hS4.sel [0, 1] rfl rfl), (by omega), hL1⟩
  ·skip
   obtain rfl : k_ = 0 := by have h := of_decide_eq_false hlt; omega
   refine cw_exit rfl ?_
   obtain rfl := sI hL
   refine cq (cr ?_)
   refine sQ 4 (yg (.bool true)) (rn (ct_ ?_))
   obtain rfl := sI hF3
   exact ret1 Tryz.results110 (v1 := .bool true) (resAt_tmp rfl) ⟨rfl, (hS3.sN [])⟩

theorem c_spec_IsUnitary (m : TMatrix) (B : Option Addr) (c n : Nat) (w0 : World) (hn : m.Cells.length = n) (hS : ST w0 [] w0 [] [⟨B, (m.Cells.flatMap eN0)⟩]) {r_ : Bool} {r_1 : Bool} (hF : F_spec_IsUnitary m = some (r_, r_1)) :
  CV Tryz.prog 57 #[.agg #[vi m.Rows, vi m.Cols, .slice B n c]] w0 (fun v w' => v = .tuple #[.bool r_, .bool r_1] ∧ ST w0 [] w' [] []) := by
 subst hn
 unfold F_spec_IsUnitary at hF
 refine cv_of_cw 32 Tryz.func57 rfl Tryz.ntmps57 rfl ?_
 refine cq (cr ?_)
 refine sS 1 (yB 26 (gM_ m B c) (kM_ m B c) 3 hS) ?_
 rintro _ w_ ⟨b, rfl, hS1⟩
 refine sQ 2 (yg (.bool false)) <| sQ 3 (yg (.bool false)) (rn (cq (cq (cr ?_))))
 refine sQ 6 (yb (aD b) 0 (kM_ m B c) K13 K6 (hS1.c 0)) ?_
 obtain ⟨r_2, hc, hF⟩ := bI hF
 refine sc 7 rfl rfl (yC [gM_ m B c] k_call_27 (c_spec_l3Good m B c m.Cells.length _ rfl (hS1.inn0 [(true, 0)] rfl) hc)) ?_
 rintro _ w_1 ⟨rfl, hd⟩
 have hS2 := hS1.out00 hd
 refine sQ 8 (Y_not (p := r_2) rfl rfl) <| sQ 9 (ym (.bool (!r_2))) ?_
 refine sgq 10 (B := (!(!r_2))) (v := pt (aD b) 0) rfl rfl (uF_ 9) (fun hg => (yd (aD b) 0 0 K35 K2)) ?_
 refine sgq 11 (B := (!(!r_2))) (v := vi m.Rows) rfl rfl (uF_ 9) (fun hg1 => (yl (aD b) 0 (kM_ m B c) (vi m.Rows) K1 (hS2.c 0) rfl (gv_of (v := pt (aD b) 0) hg1))) ?_
 refine sgq 12 (B := (!(!r_2))) (v := pt (aD b) 1) rfl rfl (uF_ 9) (fun hg2 => (yd (aD b) 0 0 K31 K2)) ?_
 refine sgq 13 (B := (!(!r_2))) (v := vi m.Cols) rfl rfl (uF_ 9) (fun hg3 => (yl (aD b) 1 (kM_ m B c) (vi m.Cols) K1 (hS2.c 0) rfl (gv_of (v := pt (aD b) 1) hg3))) ?_
 refine sgq 14 (B := (!(!r_2))) (v := .bool (m.Rows != m.Cols)) rfl rfl (uF_ 9) (fun hg4 => (Y_ne (k := .i64) (a := m.Rows) (b := m.Cols) rfl (gv_of (v := vi m.Rows) hg4) (gv_of (v := vi m.Cols) hg4))) ?_
 refine sQ 15 (Y_or (b := (!r_2)) (z := (m.Rows != m.Cols)) rfl rfl rfl rfl) (rn ?_)
 refine cw_cond (b := ((!r_2) || (m.Rows != m.Cols))) rfl (fun hb => ?_) (fun hb => ?_)
 ·skip
  have hF1 := ct hF hb
  refine cq (cr ?_)
  refine sQ 2 (yg (.bool false)) <| sQ 3 (yg (.bool false)) (rn (ct_ ?_))
  obtain ⟨rfl, rfl⟩ := pr2 (sI hF1)
  exact ret2 Tryz.results57 (v1 := .bool false) (resAt_tmp rfl) (v2 := .bool false) (resAt_tmp rfl) ⟨rfl, (hS2.sN [])⟩
 ·skip
  have hF2 := cf' hF hb
  refine cw_skip (cq (cr ?_))
  refine sQ 16 (Y_buildS (zs := [.bool false]) (vs := []) (cs := [.bool false]) K99 K100 rfl mpn rfl) ?_
  refine sS 17 (yB 59 (.agg #[.bool false]) [.bool false] 1 hS2) ?_
  rintro _ w_2 ⟨b1, rfl, hS3⟩
  refine sQ 4 (yg (pt (aD b1) 0)) (rn (cq ?_))
  obtain ⟨r_3, hc1, hF2⟩ := bI hF2
  obtain ⟨⟨r_4, m1⟩, hc2, hF2⟩ := bI hF2
  refine cw_mid (fun f w => ∃ (B3 : Option Addr) (B4 : Option Addr) (c3 : Nat), FF f [(1, pt (aD b) 0), (4, pt (aD b1) 0), (5, pt B3 0)] ∧ ST w0 [] w [⟨aD b, 26, kM_ m B c, 3⟩, ⟨aD b1, 59, [.bool m1.bad], 1⟩, ⟨B3, 26, kM_ r_4 B4 c3, 3⟩, ⟨B4, 54, (r_4.Cells.flatMap eN0), c3 * 5⟩] [⟨B, (m.Cells.flatMap eN0)⟩]) ?_ ?_
  ·skip
   refine ra_start (hS3.se [0]).fn (by kernel_rfl) ?_
   have hS7 := hS3.drew
   refine rq 0 18 (v := pt (aD b1) 0) rfl (hS7.se [0]) (fun w' hw' => (ym (pt (aD b1) 0))) ?_
   refine rq 1 19 (v := gM_ m B c) rfl (hS7.se [0]) (fun w' hw' => (yb (aD b) 0 (kM_ m B c) K13 K6 (ST.cf hw' (i := 0) rfl))) ?_
   refine rq 2 20 (v := gM_ m B c) rfl (hS7.se [0]) (fun w' hw' => (yb (aD b) 0 (kM_ m B c) K13 K6 (ST.cf hw' (i := 0) rfl))) ?_
   refine rA [3, 5] ?_
   refine rC 21 3 rfl (yC [gM_ m B c] K66 (c_spec_l3Adj m B c m.Cells.length _ rfl (hS7.inn0 [(true, 0)] rfl) hc1)) ?_ ?_
   ·rintro _ w_3 ⟨B1, c1, rfl, hd1⟩
    have hS8 := hS7.out0 hd1
    refine ⟨(hS8.se [0]), ?_⟩
    refine rA [4, 5] ?_
    refine rC 22 4 rfl (yC [pt (aD b1) 0, gM_ m B c, gM_ r_3 B1 c1] K39 (c_spec_l2C_times (Tl2C.mk false) m r_3 (aD b1) B c m.Cells.length B1 c1 r_3.Cells.length _ rfl rfl (hS8.inn [false, true, false] rfl [(true, 0), (false, 1)] rfl) hc2)) ?_ ?_
    ·rintro _ w_4 ⟨B2, c2, rfl, hd2⟩
     have hS9 := hS8.out [false, true, false] rfl hd2
     refine ⟨(hS9.se [0]), ?_⟩
     refine rA [5] ?_
     refine rS 5 5 rfl (yN kN_ 3 hS9 K17) ?_ ?_
     ·rintro _ w_5 ⟨b2, rfl, hS10⟩
      refine ⟨(hS10.se [0]), ?_⟩
      refine rA [6] ?_
      refine rZ 6 rfl (yT 4 3 (aD b2) 26 (gM_ r_4 B2 c2) (kM_ r_4 B2 c2) 0 hS10 K6) ?_ ?_
      ·rintro _ w_6 ⟨rfl, hS11⟩
       refine ⟨(hS11.se [0]), ?_⟩
       refine ra_done (by kernel_rfl) ?_
       exact ⟨aD b2, B2, c2, (fc rfl (fc rfl (fc rfl fn_))), (hS11.sel [0, 2, 4, 3] rfl rfl)⟩
      exact aN
     exact aN
    refine rS 5 5 rfl (yN kN_ 3 hS8 K17) ?_ ?_
    ·rintro _ w_7 ⟨b2, rfl, hS12⟩
     refine ⟨(hS12.se [0]), ?_⟩
     refine rA [4] ?_
     refine rC 22 4 rfl (yC [pt (aD b1) 0, gM_ m B c, gM_ r_3 B1 c1] K39 (c_spec_l2C_times (Tl2C.mk false) m r_3 (aD b1) B c m.Cells.length B1 c1 r_3.Cells.length _ rfl rfl (hS12.inn [false, true, false, false] rfl [(true, 0), (false, 1)] rfl) hc2)) ?_ ?_
     ·rintro _ w_8 ⟨B2, c2, rfl, hd3⟩
      have hS13 := hS12.out [false, true, false, false] rfl hd3
      refine ⟨(hS13.se [0]), ?_⟩
      refine rA [6] ?_
      refine rZ 6 rfl (yT 2 3 (aD b2) 26 (gM_ r_4 B2 c2) (kM_ r_4 B2 c2) 0 hS13 K6) ?_ ?_
      ·rintro _ w_9 ⟨rfl, hS14⟩
       refine ⟨(hS14.se [0]), ?_⟩
       refine ra_done (by kernel_rfl) ?_
       exact ⟨aD b2, B2, c2, (fc rfl (fc rfl (fc rfl fn_))), (hS14.sel [0, 3, 2, 4] rfl rfl)⟩
      exact aN
     exact aN
    exact aN
   refine rS 5 5 rfl (yN kN_ 3 hS7 K17) ?_ ?_
   ·rintro _ w_10 ⟨b2, rfl, hS15⟩
    refine ⟨(hS15.se [0]), ?_⟩
    refine rA [3] ?_
    refine rC 21 3 rfl (yC [gM_ m B c] K66 (c_spec_l3Adj m B c m.Cells.length _ rfl (hS15.inn0 [(true, 0)] rfl) hc1)) ?_ ?_
    ·rintro _ w_11 ⟨B1, c1, rfl, hd4⟩
     have hS16 := hS15.out0 hd4
     refine ⟨(hS16.se [0]), ?_⟩
     refine rA [4] ?_
     refine rC 22 4 rfl (yC [pt (aD b1) 0, gM_ m B c, gM_ r_3 B1 c1] K39 (c_spec_l2C_times (Tl2C.mk false) m r_3 (aD b1) B c m.Cells.length B1 c1 r_3.Cells.length _ rfl rfl (hS16.inn [false, true, false, false] rfl [(true, 0), (false, 2)] rfl) hc2)) ?_ ?_
     ·rintro _ w_12 ⟨B2, c2, rfl, hd5⟩
      have hS17 := hS16.out [false, true, false, false] rfl hd5
      refine ⟨(hS17.se [0]), ?_⟩
      refine rA [6] ?_
      refine rZ 6 rfl (yT 1 3 (aD b2) 26 (gM_ r_4 B2 c2) (kM_ r_4 B2 c2) 0 hS17 K6) ?_ ?_
      ·rintro _ w_13 ⟨rfl, hS18⟩
       refine ⟨(hS18.se [0]), ?_⟩
       refine ra_done (by kernel_rfl) ?_
       exact ⟨aD b2, B2, c2, (fc rfl (fc rfl (fc rfl fn_))), (hS18.sel [0, 3, 1, 4] rfl rfl)⟩
      exact aN
     exact aN
    exact aN
   exact aN
  rintro f w ⟨B3, B4, c3, hf, hS6⟩
  refine cq (cq (cr ?_))
  refine sQ 23 (ym (pt (aD b1) 0) rfl (hf.g 4 1)) <| sQ 24 (Y_nilCheck (B := aD b1) (i := 0) rfl rfl) <| sQ 25 (yd (aD b1) 0 0 K65 K54) <| sQ 26 (yl (aD b1) 0 [.bool m1.bad] (.bool m1.bad) K72 (hS6.c 1)) (rn ?_)
  refine cw_cond (b := m1.bad) rfl (fun hb1 => ?_) (fun hb1 => ?_)
  ·skip
   have hF3 := ct hF2 hb1
   refine cq (cr ?_)
   refine sQ 2 (yg (.bool false)) <| sQ 3 (yg (.bool false)) (rn (ct_ ?_))
   obtain ⟨rfl, rfl⟩ := pr2 (sI hF3)
   exact ret2 Tryz.results57 (v1 := .bool false) (resAt_tmp rfl) (v2 := .bool false) (resAt_tmp rfl) ⟨rfl, (hS6.sN [])⟩
  ·skip
   have hF4 := cf' hF2 hb1
   refine cw_skip (cq ?_)
   obtain ⟨r_5, hc3, hF4⟩ := bI hF4
   obtain ⟨r_6, hc4, hF4⟩ := bI hF4
   refine ra_start (hS6.se [0, 1, 2, 3]).fn (by kernel_rfl) ?_
   have hS21 := hS6.drew
   refine rq 0 27 (v := gM_ r_4 B4 c3) rfl (hS21.se [0, 1, 2, 3]) (fun w' hw' => (yb B3 0 (kM_ r_4 B4 c3) K13 K6 (ST.cf hw' (i := 2) rfl) rfl (hf.g 5 2))) ?_
   refine rq 1 28 (v := pt (aD b) 0) rfl (hS21.se [0, 1, 2, 3]) (fun w' hw' => (yd (aD b) 0 0 K35 K2 rfl (hf.g 1 0))) ?_
   refine rq 2 29 (v := vi m.Rows) rfl (hS21.se [0, 1, 2, 3]) (fun w' hw' => (yl (aD b) 0 (kM_ m B c) (vi m.Rows) K1 (ST.cf hw' (i := 0) rfl))) ?_
   refine rA [3] ?_
   refine rC 30 3 rfl (yC [vi m.Rows] K120 (c_spec_l3Unit m.Rows _  (hS21.inn0 [] rfl) hc3)) ?_ ?_
   ·rintro _ w_14 ⟨B5, c4, rfl, hd6⟩
    have hS22 := hS21.out0 hd6
    refine ⟨(hS22.se [0, 1, 2, 3]), ?_⟩
    refine rA [4] ?_
    refine rC 31 4 rfl (yC [gM_ r_4 B4 c3, gM_ r_5 B5 c4] k_call_110 (c_spec_EqualMatrices r_4 r_5 B4 c3 r_4.Cells.length B5 c4 r_5.Cells.length _ rfl rfl (hS22.inn0 [(false, 3), (false, 4)] rfl) hc4)) ?_ ?_
    ·rintro _ w_15 ⟨rfl, hd7⟩
     have hS23 := hS22.out00 hd7
     refine ⟨(hS23.se [0, 1, 2, 3]), ?_⟩
     refine rq 5 2 (v := .bool r_6) rfl (hS23.se [0, 1, 2, 3]) (fun w' hw' => (yg (.bool r_6))) ?_
     refine rq 6 3 (v := .bool true) rfl (hS23.se [0, 1, 2, 3]) (fun w' hw' => (yg (.bool true))) ?_
     refine ra_done (by kernel_rfl) ?_
     refine ct_ ?_
     obtain ⟨rfl, rfl⟩ := pr2 (sI hF4)
     exact ret2 Tryz.results57 (v1 := .bool r_6) (resAt_tmp rfl) (v2 := .bool true) (resAt_tmp rfl) ⟨rfl, (hS23.sN [])⟩
    exact aN
   exact aN

theorem c_spec_l9Good (m : TMatrix) (B : Option Addr) (c n : Nat) (w0 : World) (hn : m.Cells.length = n) (hS : ST w0 [] w0 [] [⟨B, (m.Cells.flatMap eN0)⟩]) {r_ : Bool} (hF : F_spec_l9Good m = some r_) :
  CV Tryz.prog 25 #[.agg #[vi m.Rows, vi m.Cols, .slice B n c]] w0 (fun v w' => v = .bool r_ ∧ ST w0 [] w' [] []) := by
 subst hn
 unfold F_spec_l9Good at hF
 refine cv_of_cw 19 Tryz.func25 rfl Tryz.ntmps25 rfl ?_
 refine cq (cr ?_)
 refine sS 1 (yB 26 (gM_ m B c) (kM_ m B c) 3 hS) ?_
 rintro _ w_ ⟨b, rfl, hS1⟩
 refine sQ 2 (yg (.bool false)) (rn (cq (cr ?_)))
 refine sQ 6 (yb (aD b) 0 (kM_ m B c) K13 K6 (hS1.c 0)) ?_
 obtain ⟨⟨r_1, r_2⟩, hc, hF⟩ := bI hF
 refine sc 7 rfl rfl (yC [gM_ m B c] k_call_57 (c_spec_IsUnitary m B c m.Cells.length _ rfl (hS1.inn0 [(true, 0)] rfl) hc)) ?_
 rintro _ w_1 ⟨rfl, hd⟩
 have hS2 := hS1.out00 hd
 refine sQ 5 (ym (.tuple #[.bool r_1, .bool r_2])) <| sQ 8 (ye (.bool r_1)) <| sQ 9 (ye (.bool r_2)) <| sQ 3 (yg (.bool r_1)) <| sQ 4 (yg (.bool r_2)) (rn (cq (cr ?_)))
 refine sQ 10 (ym (.bool r_2)) <| sQ 11 (ym (.bool r_2)) ?_
 refine sgq 12 (B := r_2) (v := .bool r_1) rfl rfl (uT_ 11) (fun hg => (ym (.bool r_1))) ?_
 refine sQ 13 (Y_and (b := r_2) (z := r_1) rfl rfl rfl rfl) <| sQ 14 (ym (.bool (r_2 && r_1))) ?_
 refine sgq 15 (B := (r_2 && r_1)) (v := pt (aD b) 0) rfl rfl (uT_ 14) (fun hg1 => (yd (aD b) 0 0 K35 K2)) ?_
 refine sgq 16 (B := (r_2 && r_1)) (v := vi m.Rows) rfl rfl (uT_ 14) (fun hg2 => (yl (aD b) 0 (kM_ m B c) (vi m.Rows) K1 (hS2.c 0) rfl (gv_of (v := pt (aD b) 0) hg2))) ?_
 refine sgq 17 (B := (r_2 && r_1)) (v := .bool (m.Rows == 2)) rfl rfl (uT_ 14) (fun hg3 => (yE m.Rows 2 rfl (gv_of (v := vi m.Rows) hg3))) ?_
 refine sQ 18 (Y_and (b := (r_2 && r_1)) (z := (m.Rows == 2)) rfl rfl rfl rfl) <| sQ 2 (yg (.bool ((r_2 && r_1) && (m.Rows == 2)))) (rn (ct_ ?_))
 obtain rfl := sI hF
 exact ret1 Tryz.results25 (v1 := .bool ((r_2 && r_1) && (m.Rows == 2))) (resAt_tmp rfl) ⟨rfl, (hS2.sN [])⟩

theorem c_spec_l1Neg (x : TRing)  (w0 : World)  (hS : ST w0 [] w0 [] []) {r_ : TRing} (hF : F_spec_l1Neg x = some r_) :
  CV Tryz.prog 131 #[gR_ x] w0 (fun v w' => v = (gR_ r_) ∧ ST w0 [] w' [] []) := by
 unfold F_spec_l1Neg at hF
 refine cv_of_cw 16 Tryz.func131 rfl Tryz.ntmps131 rfl ?_
 refine cq (cr ?_)
 refine sS 1 (yB 52 (gR_ x) (kR_ x) 4 hS) ?_
 rintro _ w_ ⟨b, rfl, hS1⟩
 refine sS 2 (yN [vi 0, vi 0, vi 0, vi 0] 4 hS1 K16) ?_
 rintro _ w_1 ⟨b1, rfl, hS2⟩
 refine rn (cq (cr ?_))
 refine sQ 3 (yd (aD b) 0 0 K20 K2) <| sQ 4 (yl (aD b) 0 (kR_ x) (vi x.A) K1 (hS2.c 0)) <| sQ 5 (Y_neg (k := .i64) (a := x.A) rfl rfl) <| sQ 6 (yd (aD b) 0 0 K21 K2) <| sQ 7 (yl (aD b) 1 (kR_ x) (vi x.B) K1 (hS2.c 0)) <| sQ 8 (Y_neg (k := .i64) (a := x.B) rfl rfl) ?_
 refine sQ 9 (yd (aD b) 0 0 K22 K2) <| sQ 10 (yl (aD b) 2 (kR_ x) (vi x.C) K1 (hS2.c 0)) <| sQ 11 (Y_neg (k := .i64) (a := x.C) rfl rfl) <| sQ 12 (yd (aD b) 0 0 K23 K2) <| sQ 13 (yl (aD b) 3 (kR_ x) (vi x.D) K1 (hS2.c 0)) <| sQ 14 (Y_neg (k := .i64) (a := x.D) rfl rfl) ?_
 refine sQ 15 (Y_buildS (zs := [vi 0, vi 0, vi 0, vi 0]) (vs := [(0, vi (i64.wrap (-x.A))), (1, vi (i64.wrap (-x.B))), (2, vi (i64.wrap (-x.C))), (3, vi (i64.wrap (-x.D)))]) (cs := [vi (i64.wrap (-x.A)), vi (i64.wrap (-x.B)), vi (i64.wrap (-x.C)), vi (i64.wrap (-x.D))]) K32 K16 rfl (mpc rfl (mpc rfl (mpc rfl (mpc rfl mpn)))) rfl) ?_
 refine s0 (yT 1 4 (aD b1) 52 (.agg #[vi (i64.wrap (-x.A)), vi (i64.wrap (-x.B)), vi (i64.wrap (-x.C)), vi (i64.wrap (-x.D))]) [vi (i64.wrap (-x.A)), vi (i64.wrap (-x.B)), vi (i64.wrap (-x.C)), vi (i64.wrap (-x.D))] 0 hS2 K4) ?_
 rintro _ w_2 ⟨rfl, hS3⟩
 refine rn (ct_ ?_)
 obtain rfl := sI hF
 exact ret1 Tryz.results131 (v1 := .agg #[vi (i64.wrap (-x.A)), vi (i64.wrap (-x.B)), vi (i64.wrap (-x.C)), vi (i64.wrap (-x.D))]) (resAt_cellA (B := aD b1) (i := 0) (cs := [vi (i64.wrap (-x.A)), vi (i64.wrap (-x.B)), vi (i64.wrap (-x.C)), vi (i64.wrap (-x.D))]) (vs := [vi (i64.wrap (-x.A)), vi (i64.wrap (-x.B)), vi (i64.wrap (-x.C)), vi (i64.wrap (-x.D))]) rfl K10 K4 (hS3.c 1) rfl rfl) ⟨rfl, (hS3.sN [])⟩

theorem c_spec_l2Neg (x : TDyadic)  (w0 : World)  (hS : ST w0 [] w0 [] []) {r_ : TDyadic} (hF : F_spec_l2Neg x = some r_) :
  CV Tryz.prog 86 #[gD_ x] w0 (fun v w' => v = (gD_ r_) ∧ ST w0 [] w' [] []) := by
 unfold F_spec_l2Neg at hF
 refine cv_of_cw 9 Tryz.func86 rfl Tryz.ntmps86 rfl ?_
 refine cq (cr ?_)
 refine sS 1 (yB 54 (gD_ x) (kD_ x) 5 hS) ?_
 rintro _ w_ ⟨b, rfl, hS1⟩
 refine sS 2 (yN kZ_ 5 hS1 K5) ?_
 rintro _ w_1 ⟨b1, rfl, hS2⟩
 refine rn (cq ?_)
 obtain ⟨r_1, hc, hF⟩ := bI hF
 refine ra_start (hS2.se [0]).fn (by kernel_rfl) ?_
 have hS4 := hS2.drew
 refine rq 0 3 (v := pt (aD b) 0) rfl (hS4.se [0]) (fun w' hw' => (yd (aD b) 0 3 K33 K4)) ?_
 refine rq 1 4 (v := gR_ x.Num) rfl (hS4.se [0]) (fun w' hw' => (ya (aD b) 0 (kD_ x) (kR_ x.Num) K10 K4 (ST.cf hw' (i := 0) rfl))) ?_
 refine rq 3 6 (v := pt (aD b) 4) rfl (hS4.se [0]) (fun w' hw' => (yd (aD b) 0 0 K30 K2)) ?_
 refine rq 4 7 (v := vi x.Exp) rfl (hS4.se [0]) (fun w' hw' => (yl (aD b) 4 (kD_ x) (vi x.Exp) K1 (ST.cf hw' (i := 0) rfl))) ?_
 refine rA [2] ?_
 refine rC 5 2 rfl (yC [gR_ x.Num] k_call_131 (c_spec_l1Neg x.Num _  (hS4.inn0 [] rfl) hc)) ?_ ?_
 ·rintro _ w_2 ⟨rfl, hd⟩
  have hS5 := hS4.out00 hd
  refine ⟨(hS5.se [0]), ?_⟩
  refine rq 5 8 (v := .agg #[vi r_1.A, vi r_1.B, vi r_1.C, vi r_1.D, vi x.Exp]) rfl (hS5.se [0]) (fun w' hw' => (Y_buildS (zs := kZ_) (vs := [(0, gR_ r_1), (1, vi x.Exp)]) (cs := [vi r_1.A, vi r_1.B, vi r_1.C, vi r_1.D, vi x.Exp]) K24 K5 rfl (mpc rfl (mpc rfl mpn)) rfl)) ?_
  refine rA [6] ?_
  refine rZ 6 rfl (yT 1 5 (aD b1) 54 (.agg #[vi r_1.A, vi r_1.B, vi r_1.C, vi r_1.D, vi x.Exp]) [vi r_1.A, vi r_1.B, vi r_1.C, vi r_1.D, vi x.Exp] 0 hS5 K0) ?_ ?_
  ·rintro _ w_3 ⟨rfl, hS6⟩
   refine ⟨(hS6.se [0]), ?_⟩
   refine ra_done (by kernel_rfl) ?_
   refine ct_ ?_
   obtain rfl := sI hF
   exact ret1 Tryz.results86 (v1 := .agg #[vi r_1.A, vi r_1.B, vi r_1.C, vi r_1.D, vi x.Exp]) (resAt_cellA (B := aD b1) (i := 0) (cs := [vi r_1.A, vi r_1.B, vi r_1.C, vi r_1.D, vi x.Exp]) (vs := [vi r_1.A, vi r_1.B, vi r_1.C, vi r_1.D, vi x.Exp]) rfl K3 K0 (hS6.c 1) rfl rfl) ⟨rfl, (hS6.sN [])⟩
  exact aN
 exact aN

theorem c_spec_l6One (kind : Int)  (w0 : World)  (hS : ST w0 [] w0 [] []) {r_ : List TDyadic} (hF : F_spec_l6One kind = some r_) :
  CV Tryz.prog 111 #[vi kind] w0 (fun v w' => ∃ (B : Option Addr) (c : Nat), v = .slice B r_.length c ∧ ST w0 [] w' [⟨B, 54, (r_.flatMap eN0), c * 5⟩] []) := by
 unfold F_spec_l6One at hF
 refine cv_of_cw 43 Tryz.func111 rfl Tryz.ntmps111 rfl ?_
 refine cq (cr ?_)
 refine sQ 2 (yg (.slice none 0 0)) (rn (cq (cr ?_)))
 obtain ⟨r_1, hc, hF⟩ := bI hF
 refine sc 6 rfl rfl (yC [vi 0] K56 (c_spec_l2Power 0 _  (hS.inn0 [] rfl) hc)) ?_
 rintro _ w_ ⟨rfl, hd⟩
 have hS1 := hS.out00 hd
 refine sQ 7 (Y_buildS (zs := kZ_) (vs := []) (cs := kZ_) K24 K5 rfl mpn rfl) ?_
 refine sS 3 (yN kZ_ 5 hS1 K5) ?_
 rintro _ w_1 ⟨b, rfl, hS2⟩
 refine sS 4 (yN kZ_ 5 hS2 K5) ?_
 rintro _ w_2 ⟨b1, rfl, hS3⟩
 refine s0 (yT 0 5 (aD b) 54 (gD_ r_1) (kD_ r_1) 0 hS3 K0) ?_
 rintro _ w_3 ⟨rfl, hS4⟩
 refine s0 (yT 1 5 (aD b1) 54 gZ_ kZ_ 0 hS4 K0) ?_
 rintro _ w_4 ⟨rfl, hS5⟩
 refine rn (cq (cr ?_))
 refine sQ 8 (Y_buildS (zs := [vi 0, vi 0, vi 0, vi 0]) (vs := [(0, vi 1)]) (cs := [vi 1, vi 0, vi 0, vi 0]) K32 K16 rfl (mpc rfl mpn) rfl) <| sQ 9 (Y_buildS (zs := kZ_) (vs := [(0, .agg #[vi 1, vi 0, vi 0, vi 0]), (1, vi 1)]) (cs := [vi 1, vi 0, vi 0, vi 0, vi 1]) K24 K5 rfl (mpc rfl (mpc rfl mpn)) rfl) ?_
 refine sS 5 (yN kZ_ 5 hS5 K5) ?_
 rintro _ w_5 ⟨b2, rfl, hS6⟩
 refine s0 (yT 2 5 (aD b2) 54 (.agg #[vi 1, vi 0, vi 0, vi 0, vi 1]) [vi 1, vi 0, vi 0, vi 0, vi 1] 0 hS6 K0) ?_
 rintro _ w_6 ⟨rfl, hS7⟩
 refine rn (cq (cq (cr ?_)))
 refine sQ 10 (ym (vi kind)) (rn (cw_block (cq (cr ?_))))
 refine sQ 12 (yE kind 1) <| sQ 11 (yg (.bool (kind == 1))) (rn ?_)
 refine cw_cond (b := (kind == 1)) rfl (fun hb => ?_) (fun hb => ?_)
 ·skip
  have hF1 := ct hF hb
  refine cq ?_
  obtain ⟨r_2, hc1, hF1⟩ := bI hF1
  refine ra_start (hS7.se [0, 1, 2]).fn (by kernel_rfl) ?_
  have hS9 := hS7.drew
  refine rq 0 13 (v := .agg #[vi 1, vi 0, vi 0, vi 0, vi 1]) rfl (hS9.se [0, 1, 2]) (fun w' hw' => (yb (aD b2) 0 [vi 1, vi 0, vi 0, vi 0, vi 1] K3 K0 (ST.cf hw' (i := 2) rfl))) ?_
  refine rq 1 14 (v := .agg #[vi 1, vi 0, vi 0, vi 0, vi 1]) rfl (hS9.se [0, 1, 2]) (fun w' hw' => (yb (aD b2) 0 [vi 1, vi 0, vi 0, vi 0, vi 1] K3 K0 (ST.cf hw' (i := 2) rfl))) ?_
  refine rq 2 15 (v := .agg #[vi 1, vi 0, vi 0, vi 0, vi 1]) rfl (hS9.se [0, 1, 2]) (fun w' hw' => (yb (aD b2) 0 [vi 1, vi 0, vi 0, vi 0, vi 1] K3 K0 (ST.cf hw' (i := 2) rfl))) ?_
  refine rq 3 16 (v := .agg #[vi 1, vi 0, vi 0, vi 0, vi 1]) rfl (hS9.se [0, 1, 2]) (fun w' hw' => (yb (aD b2) 0 [vi 1, vi 0, vi 0, vi 0, vi 1] K3 K0 (ST.cf hw' (i := 2) rfl))) ?_
  refine rA [4] ?_
  refine rC 17 4 rfl (yC [.agg #[vi 1, vi 0, vi 0, vi 0, vi 1]] K78 (c_spec_l2Neg (TDyadic.mk (TRing.mk 1 0 0 0) 1) _  (hS9.inn0 [] rfl) hc1)) ?_ ?_
  ·rintro _ w_7 ⟨rfl, hd1⟩
   have hS10 := hS9.out00 hd1
   refine ⟨(hS10.se [0, 1, 2]), ?_⟩
   refine rA [5] ?_
   refine rS 18 5 rfl (Ys_bslice (s := 5) (len := 4) (vs := [(0, .agg #[vi 1, vi 0, vi 0, vi 0, vi 1]), (1, .agg #[vi 1, vi 0, vi 0, vi 0, vi 1]), (2, .agg #[vi 1, vi 0, vi 0, vi 0, vi 1]), (3, gD_ r_2)]) (cs := [vi 1, vi 0, vi 0, vi 0, vi 1, vi 1, vi 0, vi 0, vi 0, vi 1, vi 1, vi 0, vi 0, vi 0, vi 1, vi r_2.Num.A, vi r_2.Num.B, vi r_2.Num.C, vi r_2.Num.D, vi r_2.Exp]) (zs := [vi 0, vi 0, vi 0, vi 0, vi 0, vi 0, vi 0, vi 0, vi 0, vi 0, vi 0, vi 0, vi 0, vi 0, vi 0, vi 0, vi 0, vi 0, vi 0, vi 0]) (m := 20) hS10 K7 K0 K36 rfl (mpc rfl (mpc rfl (mpc rfl (mpc rfl mpn)))) rfl rfl rfl (by kernel_rfl) (by kernel_rfl) rfl) ?_ ?_
   ·rintro _ w_8 ⟨b3, rfl, hS11⟩
    refine ⟨(hS11.se [0, 1, 2]), ?_⟩
    refine rq 6 2 (v := .slice (aD b3) 4 4) rfl (hS11.se [0, 1, 2]) (fun w' hw' => (yg (.slice (aD b3) 4 4))) ?_
    refine ra_done (by kernel_rfl) ?_
    refine ct_ ?_
    obtain rfl := sI hF1
    exact ret1 Tryz.results111 (v1 := .slice (aD b3) 4 4) (resAt_tmp rfl) ⟨aD b3, 4, rfl, (hS11.sN [3])⟩
   exact aN
  exact aN
 ·skip
  have hF2 := cf' hF hb
  refine cq (cr ?_)
  refine sQ 20 (yE kind 2) <| sQ 19 (yg (.bool (kind == 2))) (rn ?_)
  refine cw_cond (b := (kind == 2)) rfl (fun hb1 => ?_) (fun hb1 => ?_)
  ·skip
   have hF3 := ct hF2 hb1
   refine cq (cr ?_)
   refine sQ 21 (yb (aD b1) 0 kZ_ K3 K0 (hS7.c 1)) <| sQ 22 (yb (aD b) 0 (kD_ r_1) K3 K0 (hS7.c 0)) <| sQ 23 (yb (aD b) 0 (kD_ r_1) K3 K0 (hS7.c 0)) <| sQ 24 (yb (aD b1) 0 kZ_ K3 K0 (hS7.c 1)) ?_
   refine sS 25 (Ys_bslice (s := 5) (len := 4) (vs := [(0, gZ_), (1, gD_ r_1), (2, gD_ r_1), (3, gZ_)]) (cs := [vi 0, vi 0, vi 0, vi 0, vi 0, vi r_1.Num.A, vi r_1.Num.B, vi r_1.Num.C, vi r_1.Num.D, vi r_1.Exp, vi r_1.Num.A, vi r_1.Num.B, vi r_1.Num.C, vi r_1.Num.D, vi r_1.Exp, vi 0, vi 0, vi 0, vi 0, vi 0]) (zs := [vi 0, vi 0, vi 0, vi 0, vi 0, vi 0, vi 0, vi 0, vi 0, vi 0, vi 0, vi 0, vi 0, vi 0, vi 0, vi 0, vi 0, vi 0, vi 0, vi 0]) (m := 20) hS7 K7 K0 K36 rfl (mpc rfl (mpc rfl (mpc rfl (mpc rfl mpn)))) rfl rfl rfl (by kernel_rfl) (by kernel_rfl) rfl) ?_
   rintro _ w_9 ⟨b4, rfl, hS12⟩
   refine sQ 2 (yg (.slice (aD b4) 4 4)) (rn (ct_ ?_))
   obtain rfl := sI hF3
   exact ret1 Tryz.results111 (v1 := .slice (aD b4) 4 4) (resAt_tmp rfl) ⟨aD b4, 4, rfl, (hS12.sN [3])⟩
  ·skip
   have hF4 := cf' hF2 hb1
   refine cq (cr ?_)
   refine sQ 27 (yE kind 3) <| sQ 26 (yg (.bool (kind == 3))) (rn ?_)
   refine cw_cond (b := (kind == 3)) rfl (fun hb2 => ?_) (fun hb2 => ?_)
   ·skip
    have hF5 := ct hF4 hb2
    refine cq ?_
    obtain ⟨r_3, hc2, hF5⟩ := bI hF5
    obtain ⟨r_4, hc3, hF5⟩ := bI hF5
    refine ra_start (hS7.se [0, 1, 2]).fn (by kernel_rfl) ?_
    have hS15 := hS7.drew
    refine rq 0 28 (v := gZ_) rfl (hS15.se [0, 1, 2]) (fun w' hw' => (yb (aD b1) 0 kZ_ K3 K0 (ST.cf hw' (i := 1) rfl))) ?_
    refine rq 3 31 (v := gZ_) rfl (hS15.se [0, 1, 2]) (fun w' hw' => (yb (aD b1) 0 kZ_ K3 K0 (ST.cf hw' (i := 1) rfl))) ?_
    refine rA [1] ?_
    refine rC 29 1 rfl (yC [vi 6] K56 (c_spec_l2Power 6 _  (hS15.inn0 [] rfl) hc2)) ?_ ?_
    ·rintro _ w_10 ⟨rfl, hd2⟩
     have hS16 := hS15.out00 hd2
     refine ⟨(hS16.se [0, 1, 2]), ?_⟩
     refine rA [2] ?_
     refine rC 30 2 rfl (yC [vi 2] K56 (c_spec_l2Power 2 _  (hS16.inn0 [] rfl) hc3)) ?_ ?_
     ·rintro _ w_11 ⟨rfl, hd3⟩
      have hS17 := hS16.out00 hd3
      refine ⟨(hS17.se [0, 1, 2]), ?_⟩
      refine rA [4] ?_
      refine rS 32 4 rfl (Ys_bslice (s := 5) (len := 4) (vs := [(0, gZ_), (1, gD_ r_3), (2, gD_ r_4), (3, gZ_)]) (cs := [vi 0, vi 0, vi 0, vi 0, vi 0, vi r_3.Num.A, vi r_3.Num.B, vi r_3.Num.C, vi r_3.Num.D, vi r_3.Exp, vi r_4.Num.A, vi r_4.Num.B, vi r_4.Num.C, vi r_4.Num.D, vi r_4.Exp, vi 0, vi 0, vi 0, vi 0, vi 0]) (zs := [vi 0, vi 0, vi 0, vi 0, vi 0, vi 0, vi 0, vi 0, vi 0, vi 0, vi 0, vi 0, vi 0, vi 0, vi 0, vi 0, vi 0, vi 0, vi 0, vi 0]) (m := 20) hS17 K7 K0 K36 rfl (mpc rfl (mpc rfl (mpc rfl (mpc rfl mpn)))) rfl rfl rfl (by kernel_rfl) (by kernel_rfl) rfl) ?_ ?_
      ·rintro _ w_12 ⟨b5, rfl, hS18⟩
       refine ⟨(hS18.se [0, 1, 2]), ?_⟩
       refine rq 5 2 (v := .slice (aD b5) 4 4) rfl (hS18.se [0, 1, 2]) (fun w' hw' => (yg (.slice (aD b5) 4 4))) ?_
       refine ra_done (by kernel_rfl) ?_
       refine ct_ ?_
       obtain rfl := sI hF5
       exact ret1 Tryz.results111 (v1 := .slice (aD b5) 4 4) (resAt_tmp rfl) ⟨aD b5, 4, rfl, (hS18.sN [3])⟩
      exact aN
     exact aN
    exact aN
   ·skip
    have hF6 := cf' hF4 hb2
    refine cw_skip (cq ?_)
    obtain ⟨x, hx, hF6⟩ := bI hF6
    obtain ⟨r_5, hc4, hF6⟩ := bI hF6
    refine ra_start (hS7.se [0, 1, 2]).fn (by kernel_rfl) ?_
    have hS20 := hS7.drew
    refine rq 0 33 (v := gD_ r_1) rfl (hS20.se [0, 1, 2]) (fun w' hw' => (yb (aD b) 0 (kD_ r_1) K3 K0 (ST.cf hw' (i := 0) rfl))) ?_
    refine rq 1 34 (v := gZ_) rfl (hS20.se [0, 1, 2]) (fun w' hw' => (yb (aD b1) 0 kZ_ K3 K0 (ST.cf hw' (i := 1) rfl))) ?_
    refine rq 2 35 (v := gZ_) rfl (hS20.se [0, 1, 2]) (fun w' hw' => (yb (aD b1) 0 kZ_ K3 K0 (ST.cf hw' (i := 1) rfl))) ?_
    refine rq 4 37 (v := vi kind) rfl (hS20.se [0, 1, 2]) (fun w' hw' => (ym (vi kind))) ?_
    refine rq 5 38 (v := vi (i64.wrap (kind - 4))) rfl (hS20.se [0, 1, 2]) (fun w' hw' => (yM kind 4)) ?_
    refine rA [3] ?_
    refine rS 36 3 rfl (Ys_bslice (s := 1) (len := 5) (vs := [(0, vi 4), (1, vi 2), (2, vi 6), (3, vi 1), (4, vi 7)]) (cs := [vi 4, vi 2, vi 6, vi 1, vi 7]) (zs := kZ_) (m := 5) hS20 K53 K2 K108 rfl (mpc rfl (mpc rfl (mpc rfl (mpc rfl (mpc rfl mpn))))) rfl rfl rfl (by kernel_rfl) (by kernel_rfl) rfl) ?_ ?_
    ·rintro _ w_13 ⟨b6, rfl, hS21⟩
     refine ⟨(hS21.se [0, 1, 2]), ?_⟩
     refine rA [6] ?_
     refine ra_y 39 (i := 6) (v := pt (aD b6) ((i64.wrap (kind - 4)).toNat * 1)) rfl rfl rfl (Y_index (B := aD b6) (m := 5) (c := 5) (k := .i64) (i := (i64.wrap (kind - 4))) K53 K2 rfl rfl rfl (gi_isSome encI_len rfl (hS21.c 3) hx) (getI_nn hx) (getI_ltI hx rfl)) (hS21.se [0, 1, 2]) ?_ ?_
     ·skip
      refine rA [7] ?_
      refine ra_y 40 (i := 7) (v := vi x) rfl rfl rfl (yl (aD b6) ((i64.wrap (kind - 4)).toNat * 1) ([4, 2, 6, 1, 7].flatMap encI) (vi x) K1 (hS21.c 3) rfl rfl (gi_at0 encI_len hx rfl)) (hS21.se [0, 1, 2]) ?_ ?_
      ·skip
       refine rA [8] ?_
       refine rC 41 8 rfl (yC [vi x] K56 (c_spec_l2Power x _  (hS21.inn0 [] rfl) hc4)) ?_ ?_
       ·rintro _ w_14 ⟨rfl, hd4⟩
        have hS22 := hS21.out00 hd4
        refine ⟨(hS22.se [0, 1, 2]), ?_⟩
        refine rA [9] ?_
        refine rS 42 9 rfl (Ys_bslice (s := 5) (len := 4) (vs := [(0, gD_ r_1), (1, gZ_), (2, gZ_), (3, gD_ r_5)]) (cs := [vi r_1.Num.A, vi r_1.Num.B, vi r_1.Num.C, vi r_1.Num.D, vi r_1.Exp, vi 0, vi 0, vi 0, vi 0, vi 0, vi 0, vi 0, vi 0, vi 0, vi 0, vi r_5.Num.A, vi r_5.Num.B, vi r_5.Num.C, vi r_5.Num.D, vi r_5.Exp]) (zs := [vi 0, vi 0, vi 0, vi 0, vi 0, vi 0, vi 0, vi 0, vi 0, vi 0, vi 0, vi 0, vi 0, vi 0, vi 0, vi 0, vi 0, vi 0, vi 0, vi 0]) (m := 20) hS22 K7 K0 K36 rfl (mpc rfl (mpc rfl (mpc rfl (mpc rfl mpn)))) rfl rfl rfl (by kernel_rfl) (by kernel_rfl) rfl) ?_ ?_
        ·rintro _ w_15 ⟨b7, rfl, hS23⟩
         refine ⟨(hS23.se [0, 1, 2]), ?_⟩
         refine rq 10 2 (v := .slice (aD b7) 4 4) rfl (hS23.se [0, 1, 2]) (fun w' hw' => (yg (.slice (aD b7) 4 4))) ?_
         refine ra_done (by kernel_rfl) ?_
         refine ct_ ?_
         obtain rfl := sI hF6
         exact ret1 Tryz.results111 (v1 := .slice (aD b7) 4 4) (resAt_tmp rfl) ⟨aD b7, 4, rfl, (hS23.sN [4])⟩
        exact aN
       exact aN
      exact aN
     exact aN
    exact aN

theorem c_spec_l9Pauli (i : Int)  (w0 : World)  (hS : ST w0 [] w0 [] []) {r_ : TMatrix} (hF : F_spec_l9Pauli i = some r_) :
  CV Tryz.prog 58 #[vi i] w0 (fun v w' => ∃ (B : Option Addr) (c : Nat), v = (gM_ r_ B c) ∧ ST w0 [] w' [⟨B, 54, (r_.Cells.flatMap eN0), c * 5⟩] []) := by
 unfold F_spec_l9Pauli at hF
 refine cv_of_cw 7 Tryz.func58 rfl Tryz.ntmps58 rfl ?_
 refine cq (cr ?_)
 refine sS 2 (yN kN_ 3 hS K17) ?_
 rintro _ w_ ⟨b, rfl, hS1⟩
 refine rn (cq (cr ?_))
 refine sQ 3 (ym (vi i)) <| sQ 4 (yP 2 i) ?_
 obtain ⟨r_1, hc, hF⟩ := bI hF
 refine sc 5 rfl rfl (yC [vi (i64.wrap (2 + i))] k_call_111 (c_spec_l6One (i64.wrap (2 + i)) _  (hS1.inn0 [] rfl) hc)) ?_
 rintro _ w_1 ⟨B1, c1, rfl, hd⟩
 have hS2 := hS1.out0 hd
 refine sQ 6 (Y_buildS (zs := kN_) (vs := [(0, vi 2), (1, vi 2), (2, .slice B1 r_1.length c1)]) (cs := [vi 2, vi 2, .slice B1 r_1.length c1]) K49 K17 rfl (mpc rfl (mpc rfl (mpc rfl mpn))) rfl) ?_
 refine s0 (yT 0 3 (aD b) 26 (.agg #[vi 2, vi 2, .slice B1 r_1.length c1]) [vi 2, vi 2, .slice B1 r_1.length c1] 0 hS2 K6) ?_
 rintro _ w_2 ⟨rfl, hS3⟩
 refine rn (ct_ ?_)
 obtain rfl := sI hF
 exact ret1 Tryz.results58 (v1 := .agg #[vi 2, vi 2, .slice B1 r_1.length c1]) (resAt_cellA (B := aD b) (i := 0) (cs := [vi 2, vi 2, .slice B1 r_1.length c1]) (vs := [vi 2, vi 2, .slice B1 r_1.length c1]) rfl K13 K6 (hS3.c 0) rfl rfl) ⟨B1, c1, rfl, (hS3.sN [1])⟩

theorem c_spec_l9Bloch (m : TMatrix) (B : Option Addr) (c n : Nat) (w0 : World) (hn : m.Cells.length = n) (hS : ST w0 [] w0 [] [⟨B, (m.Cells.flatMap eN0)⟩]) {r_ : TBloch} {r_1 : Bool} (hF : F_spec_l9Bloch m = some (r_, r_1)) :
  CV Tryz.prog 26 #[.agg #[vi m.Rows, vi m.Cols, .slice B n c]] w0 (fun v w' => ∃ (B1 : Option Addr) (c1 : Nat), v = .tuple #[gB_ r_ B1 c1, .bool r_1] ∧ ST w0 [] w' [⟨B1, 54, (r_.Cells.flatMap eN0), c1 * 5⟩] []) := by
 subst hn
 unfold F_spec_l9Bloch at hF
 refine cv_of_cw 59 Tryz.func26 rfl Tryz.ntmps26 rfl ?_
 refine cq (cr ?_)
 refine sS 1 (yB 26 (gM_ m B c) (kM_ m B c) 3 hS) ?_
 rintro _ w_ ⟨b, rfl, hS1⟩
 refine sS 2 (yN [.slice none 0 0] 1 hS1 K26) ?_
 rintro _ w_1 ⟨b1, rfl, hS2⟩
 refine sQ 3 (yg (.bool false)) (rn (cq (cr ?_)))
 refine sQ 10 (Y_buildS (zs := [.bool false]) (vs := []) (cs := [.bool false]) K99 K100 rfl mpn rfl) ?_
 refine sS 11 (yB 59 (.agg #[.bool false]) [.bool false] 1 hS2) ?_
 rintro _ w_2 ⟨b2, rfl, hS3⟩
 refine sQ 4 (yg (pt (aD b2) 0)) (rn (cq (cr ?_)))
 refine sS 5 (yN [.slice none 0 0] 1 hS3 K26) ?_
 rintro _ w_3 ⟨b3, rfl, hS4⟩
 refine rn (cq (cq (cr ?_)))
 refine sQ 6 (yg (vi 0)) (rn ?_)
 obtain ⟨z, hz, hF1⟩ := bI hF
 have hS6 := hS4.addNil 54
 refine cw_block ?_
 refine cw_loop (fun k f w => ∃ (i1 : Nat) (bad : Bool) (Cells : List TDyadic) (B2 : Option Addr) (c2 : Nat), FF f [(1, pt (aD b) 0), (2, pt (aD b1) 0), (4, pt (aD b2) 0), (5, pt (aD b3) 0), (6, vi (i1 : Int))] ∧ ST w0 [] w [⟨aD b, 26, kM_ m B c, 3⟩, ⟨aD b1, 29, [.slice none 0 0], 1⟩, ⟨aD b2, 59, [.bool bad], 1⟩, ⟨aD b3, 29, [.slice B2 Cells.length c2], 1⟩, ⟨B2, 54, (Cells.flatMap eN0), c2 * 5⟩] [⟨B, (m.Cells.flatMap eN0)⟩] ∧ i1 + k = 3 ∧ forN (F_spec_l9Bloch_l1 m) k i1 (bad, Cells) = some z) 3 ⟨0, false, [], none, 0, (fc rfl (fc rfl (fc rfl (fc rfl (fc rfl fn_))))), (hS6.sel [0, 1, 2, 3, 4] rfl rfl), Nat.zero_add _, hz⟩ ?_
 rintro k_ f w ⟨i1, bad, Cells, B2, c2, hf, hS5, hik, hL⟩
 refine cq (cq (cr ?_))
 refine sQ 12 (ym (vi (i1 : Int)) rfl (hf.g 6 4)) <| sQ 13 (yL (i1 : Int) 3) (rn ?_)
 refine cw_cond (b := (decide ((i1 : Int) < 3))) rfl (fun hlt => ?_) (fun hlt => ?_)
 ·skip
  have hlt1 : i1 < 3 := by have h := of_decide_eq_true hlt; omega
  obtain ⟨K9, rfl⟩ : ∃ k2, k_ = k2 + 1 := ⟨k_ - 1, by omega⟩
  obtain ⟨y, hb, hL1⟩ := forN_go hL
  unfold F_spec_l9Bloch_l1 at hb
  refine cw_skip (cq (cw_block (cq (cr ?_))))
  refine sQ 7 (yg (vi 0)) (rn ?_)
  obtain ⟨z1, hz1, hF2⟩ := bI hb
  refine cw_block ?_
  refine cw_loop (fun k f w => ∃ (j : Nat) (bad1 : Bool) (Cells1 : List TDyadic) (B3 : Option Addr) (c3 : Nat), FF f [(1, pt (aD b) 0), (2, pt (aD b1) 0), (4, pt (aD b2) 0), (5, pt (aD b3) 0), (6, vi (i1 : Int)), (7, vi (j : Int))] ∧ ST w0 [] w [⟨aD b, 26, kM_ m B c, 3⟩, ⟨aD b1, 29, [.slice none 0 0], 1⟩, ⟨aD b2, 59, [.bool bad1], 1⟩, ⟨aD b3, 29, [.slice B3 Cells1.length c3], 1⟩, ⟨B3, 54, (Cells1.flatMap eN0), c3 * 5⟩] [⟨B, (m.Cells.flatMap eN0)⟩] ∧ j + k = 3 ∧ forN (F_spec_l9Bloch_l2 i1 m Cells bad) k j (bad1, Cells1) = some z1) 3 ⟨0, bad, Cells, B2, c2, (fc (hf.g 1 0) (fc (hf.g 2 1) (fc (hf.g 4 2) (fc (hf.g 5 3) (fc (hf.g 6 4) (fc rfl fn_)))))), (hS5.sel [0, 1, 2, 3, 4] rfl rfl), Nat.zero_add _, hz1⟩ ?_
  rintro K15 f w ⟨j, bad1, Cells1, B3, c3, hf1, hS7, hik1, hL2⟩
  refine cq (cq (cr ?_))
  refine sQ 16 (ym (vi (j : Int)) rfl (hf1.g 7 5)) <| sQ 17 (yL (j : Int) 3) (rn ?_)
  refine cw_cond (b := (decide ((j : Int) < 3))) rfl (fun hlt2 => ?_) (fun hlt2 => ?_)
  ·skip
   have hlt3 : j < 3 := by have h := of_decide_eq_true hlt2; omega
   obtain ⟨K29, rfl⟩ : ∃ k2, K15 = k2 + 1 := ⟨K15 - 1, by omega⟩
   obtain ⟨y1, hb1, hL3⟩ := forN_go hL2
   unfold F_spec_l9Bloch_l2 at hb1
   refine cw_skip (cq (cw_block (cq ?_)))
   obtain ⟨r_2, hc, hb1⟩ := bI hb1
   obtain ⟨⟨r_3, m1⟩, hc1, hb1⟩ := bI hb1
   obtain ⟨r_4, hc2, hb1⟩ := bI hb1
   obtain ⟨⟨r_5, m2⟩, hc3, hb1⟩ := bI hb1
   obtain ⟨r_6, hc4, hb1⟩ := bI hb1
   obtain ⟨⟨r_7, m3⟩, hc5, hb1⟩ := bI hb1
   refine cw_mid (fun f w => ∃ (B10 : Option Addr) (B11 : Option Addr) (c10 : Nat), FF f [(1, pt (aD b) 0), (2, pt (aD b1) 0), (4, pt (aD b2) 0), (5, pt (aD b3) 0), (6, vi (i1 : Int)), (7, vi (j : Int)), (8, pt B10 0)] ∧ ST w0 [] w [⟨aD b, 26, kM_ m B c, 3⟩, ⟨aD b1, 29, [.slice none 0 0], 1⟩, ⟨aD b2, 59, [.bool m3.bad], 1⟩, ⟨aD b3, 29, [.slice B3 Cells1.length c3], 1⟩, ⟨B3, 54, (Cells1.flatMap eN0), c3 * 5⟩, ⟨B10, 26, kM_ r_7 B11 c10, 3⟩, ⟨B11, 54, (r_7.Cells.flatMap eN0), c10 * 5⟩] [⟨B, (m.Cells.flatMap eN0)⟩]) ?_ ?_
   ·skip
    refine ra_start (hS7.se [0, 1, 3, 4]).fn (by kernel_rfl) ?_
    have hS15 := hS7.drew
    refine rq 0 20 (v := pt (aD b2) 0) rfl (hS15.se [0, 1, 3, 4]) (fun w' hw' => (ym (pt (aD b2) 0) rfl (hf1.g 4 2))) ?_
    refine rq 1 21 (v := pt (aD b2) 0) rfl (hS15.se [0, 1, 3, 4]) (fun w' hw' => (ym (pt (aD b2) 0) rfl (hf1.g 4 2))) ?_
    refine rq 2 22 (v := pt (aD b2) 0) rfl (hS15.se [0, 1, 3, 4]) (fun w' hw' => (ym (pt (aD b2) 0) rfl (hf1.g 4 2))) ?_
    refine rq 3 23 (v := vi (i1 : Int)) rfl (hS15.se [0, 1, 3, 4]) (fun w' hw' => (ym (vi (i1 : Int)) rfl (hf1.g 6 4))) ?_
    refine rq 5 25 (v := gM_ m B c) rfl (hS15.se [0, 1, 3, 4]) (fun w' hw' => (yb (aD b) 0 (kM_ m B c) K13 K6 (ST.cf hw' (i := 0) rfl) rfl (hf1.g 1 0))) ?_
    refine rq 7 27 (v := vi (j : Int)) rfl (hS15.se [0, 1, 3, 4]) (fun w' hw' => (ym (vi (j : Int)) rfl (hf1.g 7 5))) ?_
    refine rq 10 30 (v := gM_ m B c) rfl (hS15.se [0, 1, 3, 4]) (fun w' hw' => (yb (aD b) 0 (kM_ m B c) K13 K6 (ST.cf hw' (i := 0) rfl) rfl (hf1.g 1 0))) ?_
    refine rA [4, 13] ?_
    refine rC 24 4 rfl (yC [vi (i1 : Int)] K88 (c_spec_l9Pauli (i1 : Int) _  (hS15.inn0 [] rfl) hc)) ?_ ?_
    ·rintro _ w_4 ⟨B4, c4, rfl, hd⟩
     have hS16 := hS15.out0 hd
     refine ⟨(hS16.se [0, 1, 3, 4]), ?_⟩
     refine rA [6, 13] ?_
     refine rC 26 6 rfl (yC [pt (aD b2) 0, gM_ r_2 B4 c4, gM_ m B c] K39 (c_spec_l2C_times (Tl2C.mk bad1) r_2 m (aD b2) B4 c4 r_2.Cells.length B c m.Cells.length _ rfl rfl (hS16.inn [false, false, true, false, false, false] rfl [(false, 4), (true, 0)] rfl) hc1)) ?_ ?_
     ·rintro _ w_5 ⟨B5, c5, rfl, hd1⟩
      have hS17 := hS16.out [false, false, true, false, false, false] rfl hd1
      refine ⟨(hS17.se [0, 1, 2, 3]), ?_⟩
      refine rA [8, 13] ?_
      refine rC 28 8 rfl (yC [vi (j : Int)] K88 (c_spec_l9Pauli (j : Int) _  (hS17.inn0 [] rfl) hc2)) ?_ ?_
      ·rintro _ w_6 ⟨B6, c6, rfl, hd2⟩
       have hS18 := hS17.out0 hd2
       refine ⟨(hS18.se [0, 1, 2, 3]), ?_⟩
       refine rA [9, 13] ?_
       refine rC 29 9 rfl (yC [pt (aD b2) 0, gM_ r_3 B5 c5, gM_ r_4 B6 c6] K39 (c_spec_l2C_times m1 r_3 r_4 (aD b2) B5 c5 r_3.Cells.length B6 c6 r_4.Cells.length _ rfl rfl (hS18.inn [false, false, false, false, false, true, false, false] rfl [(false, 5), (false, 6)] rfl) hc3)) ?_ ?_
       ·rintro _ w_7 ⟨B7, c7, rfl, hd3⟩
        have hS19 := hS18.out [false, false, false, false, false, true, false, false] rfl hd3
        refine ⟨(hS19.se [0, 1, 2, 3]), ?_⟩
        refine rA [11, 13] ?_
        refine rC 31 11 rfl (yC [gM_ m B c] K66 (c_spec_l3Adj m B c m.Cells.length _ rfl (hS19.inn0 [(true, 0)] rfl) hc4)) ?_ ?_
        ·rintro _ w_8 ⟨B8, c8, rfl, hd4⟩
         have hS20 := hS19.out0 hd4
         refine ⟨(hS20.se [0, 1, 2, 3]), ?_⟩
         refine rA [12, 13] ?_
         refine rC 32 12 rfl (yC [pt (aD b2) 0, gM_ r_5 B7 c7, gM_ r_6 B8 c8] K39 (c_spec_l2C_times m2 r_5 r_6 (aD b2) B7 c7 r_5.Cells.length B8 c8 r_6.Cells.length _ rfl rfl (hS20.inn [false, false, false, false, false, false, false, true, false, false] rfl [(false, 7), (false, 8)] rfl) hc5)) ?_ ?_
         ·rintro _ w_9 ⟨B9, c9, rfl, hd5⟩
          have hS21 := hS20.out [false, false, false, false, false, false, false, true, false, false] rfl hd5
          refine ⟨(hS21.se [0, 1, 2, 3]), ?_⟩
          refine rA [13] ?_
          refine rS 8 13 rfl (yN kN_ 3 hS21 K17) ?_ ?_
          ·rintro _ w_10 ⟨b4, rfl, hS22⟩
           refine ⟨(hS22.se [0, 1, 2, 3]), ?_⟩
           refine rA [14] ?_
           refine rZ 14 rfl (yT 11 3 (aD b4) 26 (gM_ r_7 B9 c9) (kM_ r_7 B9 c9) 0 hS22 K6) ?_ ?_
           ·rintro _ w_11 ⟨rfl, hS23⟩
            refine ⟨(hS23.se [0, 1, 2, 3]), ?_⟩
            refine ra_done (by kernel_rfl) ?_
            exact ⟨aD b4, B9, c9, (fc (hf1.g 1 0) (fc (hf1.g 2 1) (fc (hf1.g 4 2) (fc (hf1.g 5 3) (fc (hf1.g 6 4) (fc (hf1.g 7 5) (fc rfl fn_))))))), (hS23.sel [0, 1, 9, 2, 3, 11, 10] rfl rfl)⟩
           exact aN
          exact aN
         refine rS 8 13 rfl (yN kN_ 3 hS20 K17) ?_ ?_
         ·rintro _ w_12 ⟨b4, rfl, hS24⟩
          refine ⟨(hS24.se [0, 1, 2, 3]), ?_⟩
          refine rA [12] ?_
          refine rC 32 12 rfl (yC [pt (aD b2) 0, gM_ r_5 B7 c7, gM_ r_6 B8 c8] K39 (c_spec_l2C_times m2 r_5 r_6 (aD b2) B7 c7 r_5.Cells.length B8 c8 r_6.Cells.length _ rfl rfl (hS24.inn [false, false, false, false, false, false, false, true, false, false, false] rfl [(false, 7), (false, 8)] rfl) hc5)) ?_ ?_
          ·rintro _ w_13 ⟨B9, c9, rfl, hd6⟩
           have hS25 := hS24.out [false, false, false, false, false, false, false, true, false, false, false] rfl hd6
           refine ⟨(hS25.se [0, 1, 2, 3]), ?_⟩
           refine rA [14] ?_
           refine rZ 14 rfl (yT 9 3 (aD b4) 26 (gM_ r_7 B9 c9) (kM_ r_7 B9 c9) 0 hS25 K6) ?_ ?_
           ·rintro _ w_14 ⟨rfl, hS26⟩
            refine ⟨(hS26.se [0, 1, 2, 3]), ?_⟩
            refine ra_done (by kernel_rfl) ?_
            exact ⟨aD b4, B9, c9, (fc (hf1.g 1 0) (fc (hf1.g 2 1) (fc (hf1.g 4 2) (fc (hf1.g 5 3) (fc (hf1.g 6 4) (fc (hf1.g 7 5) (fc rfl fn_))))))), (hS26.sel [0, 1, 10, 2, 3, 9, 11] rfl rfl)⟩
           exact aN
          exact aN
         exact aN
        refine rS 8 13 rfl (yN kN_ 3 hS19 K17) ?_ ?_
        ·rintro _ w_15 ⟨b4, rfl, hS27⟩
         refine ⟨(hS27.se [0, 1, 2, 3]), ?_⟩
         refine rA [11] ?_
         refine rC 31 11 rfl (yC [gM_ m B c] K66 (c_spec_l3Adj m B c m.Cells.length _ rfl (hS27.inn0 [(true, 0)] rfl) hc4)) ?_ ?_
         ·rintro _ w_16 ⟨B8, c8, rfl, hd7⟩
          have hS28 := hS27.out0 hd7
          refine ⟨(hS28.se [0, 1, 2, 3]), ?_⟩
          refine rA [12] ?_
          refine rC 32 12 rfl (yC [pt (aD b2) 0, gM_ r_5 B7 c7, gM_ r_6 B8 c8] K39 (c_spec_l2C_times m2 r_5 r_6 (aD b2) B7 c7 r_5.Cells.length B8 c8 r_6.Cells.length _ rfl rfl (hS28.inn [false, false, false, false, false, false, false, true, false, false, false] rfl [(false, 7), (false, 9)] rfl) hc5)) ?_ ?_
          ·rintro _ w_17 ⟨B9, c9, rfl, hd8⟩
           have hS29 := hS28.out [false, false, false, false, false, false, false, true, false, false, false] rfl hd8
           refine ⟨(hS29.se [0, 1, 2, 3]), ?_⟩
           refine rA [14] ?_
           refine rZ 14 rfl (yT 8 3 (aD b4) 26 (gM_ r_7 B9 c9) (kM_ r_7 B9 c9) 0 hS29 K6) ?_ ?_
           ·rintro _ w_18 ⟨rfl, hS30⟩
            refine ⟨(hS30.se [0, 1, 2, 3]), ?_⟩
            refine ra_done (by kernel_rfl) ?_
            exact ⟨aD b4, B9, c9, (fc (hf1.g 1 0) (fc (hf1.g 2 1) (fc (hf1.g 4 2) (fc (hf1.g 5 3) (fc (hf1.g 6 4) (fc (hf1.g 7 5) (fc rfl fn_))))))), (hS30.sel [0, 1, 10, 2, 3, 8, 11] rfl rfl)⟩
           exact aN
          exact aN
         exact aN
        exact aN
       refine rS 8 13 rfl (yN kN_ 3 hS18 K17) ?_ ?_
       ·rintro _ w_19 ⟨b4, rfl, hS31⟩
        refine ⟨(hS31.se [0, 1, 2, 3]), ?_⟩
        refine rA [9] ?_
        refine rC 29 9 rfl (yC [pt (aD b2) 0, gM_ r_3 B5 c5, gM_ r_4 B6 c6] K39 (c_spec_l2C_times m1 r_3 r_4 (aD b2) B5 c5 r_3.Cells.length B6 c6 r_4.Cells.length _ rfl rfl (hS31.inn [false, false, false, false, false, true, false, false, false] rfl [(false, 5), (false, 6)] rfl) hc3)) ?_ ?_
        ·rintro _ w_20 ⟨B7, c7, rfl, hd9⟩
         have hS32 := hS31.out [false, false, false, false, false, true, false, false, false] rfl hd9
         refine ⟨(hS32.se [0, 1, 2, 3]), ?_⟩
         refine rA [11] ?_
         refine rC 31 11 rfl (yC [gM_ m B c] K66 (c_spec_l3Adj m B c m.Cells.length _ rfl (hS32.inn0 [(true, 0)] rfl) hc4)) ?_ ?_
         ·rintro _ w_21 ⟨B8, c8, rfl, hd10⟩
          have hS33 := hS32.out0 hd10
          refine ⟨(hS33.se [0, 1, 2, 3]), ?_⟩
          refine rA [12] ?_
          refine rC 32 12 rfl (yC [pt (aD b2) 0, gM_ r_5 B7 c7, gM_ r_6 B8 c8] K39 (c_spec_l2C_times m2 r_5 r_6 (aD b2) B7 c7 r_5.Cells.length B8 c8 r_6.Cells.length _ rfl rfl (hS33.inn [false, false, false, false, false, false, false, false, true, false, false] rfl [(false, 8), (false, 9)] rfl) hc5)) ?_ ?_
          ·rintro _ w_22 ⟨B9, c9, rfl, hd11⟩
           have hS34 := hS33.out [false, false, false, false, false, false, false, false, true, false, false] rfl hd11
           refine ⟨(hS34.se [0, 1, 2, 3]), ?_⟩
           refine rA [14] ?_
           refine rZ 14 rfl (yT 7 3 (aD b4) 26 (gM_ r_7 B9 c9) (kM_ r_7 B9 c9) 0 hS34 K6) ?_ ?_
           ·rintro _ w_23 ⟨rfl, hS35⟩
            refine ⟨(hS35.se [0, 1, 2, 3]), ?_⟩
            refine ra_done (by kernel_rfl) ?_
            exact ⟨aD b4, B9, c9, (fc (hf1.g 1 0) (fc (hf1.g 2 1) (fc (hf1.g 4 2) (fc (hf1.g 5 3) (fc (hf1.g 6 4) (fc (hf1.g 7 5) (fc rfl fn_))))))), (hS35.sel [0, 1, 10, 2, 3, 7, 11] rfl rfl)⟩
           exact aN
          exact aN
         exact aN
        exact aN
       exact aN
      refine rS 8 13 rfl (yN kN_ 3 hS17 K17) ?_ ?_
      ·rintro _ w_24 ⟨b4, rfl, hS36⟩
       refine ⟨(hS36.se [0, 1, 2, 3]), ?_⟩
       refine rA [8] ?_
       refine rC 28 8 rfl (yC [vi (j : Int)] K88 (c_spec_l9Pauli (j : Int) _  (hS36.inn0 [] rfl) hc2)) ?_ ?_
       ·rintro _ w_25 ⟨B6, c6, rfl, hd12⟩
        have hS37 := hS36.out0 hd12
        refine ⟨(hS37.se [0, 1, 2, 3]), ?_⟩
        refine rA [9] ?_
        refine rC 29 9 rfl (yC [pt (aD b2) 0, gM_ r_3 B5 c5, gM_ r_4 B6 c6] K39 (c_spec_l2C_times m1 r_3 r_4 (aD b2) B5 c5 r_3.Cells.length B6 c6 r_4.Cells.length _ rfl rfl (hS37.inn [false, false, false, false, false, true, false, false, false] rfl [(false, 5), (false, 7)] rfl) hc3)) ?_ ?_
        ·rintro _ w_26 ⟨B7, c7, rfl, hd13⟩
         have hS38 := hS37.out [false, false, false, false, false, true, false, false, false] rfl hd13
         refine ⟨(hS38.se [0, 1, 2, 3]), ?_⟩
         refine rA [11] ?_
         refine rC 31 11 rfl (yC [gM_ m B c] K66 (c_spec_l3Adj m B c m.Cells.length _ rfl (hS38.inn0 [(true, 0)] rfl) hc4)) ?_ ?_
         ·rintro _ w_27 ⟨B8, c8, rfl, hd14⟩
          have hS39 := hS38.out0 hd14
          refine ⟨(hS39.se [0, 1, 2, 3]), ?_⟩
          refine rA [12] ?_
          refine rC 32 12 rfl (yC [pt (aD b2) 0, gM_ r_5 B7 c7, gM_ r_6 B8 c8] K39 (c_spec_l2C_times m2 r_5 r_6 (aD b2) B7 c7 r_5.Cells.length B8 c8 r_6.Cells.length _ rfl rfl (hS39.inn [false, false, false, false, false, false, false, false, true, false, false] rfl [(false, 8), (false, 9)] rfl) hc5)) ?_ ?_
          ·rintro _ w_28 ⟨B9, c9, rfl, hd15⟩
           have hS40 := hS39.out [false, false, false, false, false, false, false, false, true, false, false] rfl hd15
           refine ⟨(hS40.se [0, 1, 2, 3]), ?_⟩
           refine rA [14] ?_
           refine rZ 14 rfl (yT 6 3 (aD b4) 26 (gM_ r_7 B9 c9) (kM_ r_7 B9 c9) 0 hS40 K6) ?_ ?_
           ·rintro _ w_29 ⟨rfl, hS41⟩
            refine ⟨(hS41.se [0, 1, 2, 3]), ?_⟩
            refine ra_done (by kernel_rfl) ?_
            exact ⟨aD b4, B9, c9, (fc (hf1.g 1 0) (fc (hf1.g 2 1) (fc (hf1.g 4 2) (fc (hf1.g 5 3) (fc (hf1.g 6 4) (fc (hf1.g 7 5) (fc rfl fn_))))))), (hS41.sel [0, 1, 10, 2, 3, 6, 11] rfl rfl)⟩
           exact aN
          exact aN
         exact aN
        exact aN
       exact aN
      exact aN
     refine rS 8 13 rfl (yN kN_ 3 hS16 K17) ?_ ?_
     ·rintro _ w_30 ⟨b4, rfl, hS42⟩
      have hS42 : ST w0 [] _ [⟨aD b, 26, kM_ m B c, 3⟩, ⟨aD b1, 29, [.slice none 0 0], 1⟩, ⟨aD b2, 59, [.bool bad1], 1⟩, ⟨aD b3, 29, [.slice B3 Cells1.length c3], 1⟩, ⟨B3, 54, (Cells1.flatMap eN0), c3 * 5⟩, ⟨B4, 54, (r_2.Cells.flatMap eN0), c4 * 5⟩, ⟨aD b4, 26, kN_, 3⟩] [⟨B, (m.Cells.flatMap eN0)⟩] := hS42
      refine ⟨(hS42.se [0, 1, 3, 4]), ?_⟩
      refine rA [6] ?_
      refine rC 26 6 rfl (yC [pt (aD b2) 0, gM_ r_2 B4 c4, gM_ m B c] K39 (c_spec_l2C_times (Tl2C.mk bad1) r_2 m (aD b2) B4 c4 r_2.Cells.length B c m.Cells.length _ rfl rfl (hS42.inn [false, false, true, false, false, false, false] rfl [(false, 4), (true, 0)] rfl) hc1)) ?_ ?_
      ·rintro _ w_31 ⟨B5, c5, rfl, hd16⟩
       have hS43 := hS42.out [false, false, true, false, false, false, false] rfl hd16
       refine ⟨(hS43.se [0, 1, 2, 3]), ?_⟩
       refine rA [8] ?_
       refine rC 28 8 rfl (yC [vi (j : Int)] K88 (c_spec_l9Pauli (j : Int) _  (hS43.inn0 [] rfl) hc2)) ?_ ?_
       ·rintro _ w_32 ⟨B6, c6, rfl, hd17⟩
        have hS44 := hS43.out0 hd17
        refine ⟨(hS44.se [0, 1, 2, 3]), ?_⟩
        refine rA [9] ?_
        refine rC 29 9 rfl (yC [pt (aD b2) 0, gM_ r_3 B5 c5, gM_ r_4 B6 c6] K39 (c_spec_l2C_times m1 r_3 r_4 (aD b2) B5 c5 r_3.Cells.length B6 c6 r_4.Cells.length _ rfl rfl (hS44.inn [false, false, false, false, false, false, true, false, false] rfl [(false, 6), (false, 7)] rfl) hc3)) ?_ ?_
        ·rintro _ w_33 ⟨B7, c7, rfl, hd18⟩
         have hS45 := hS44.out [false, false, false, false, false, false, true, false, false] rfl hd18
         refine ⟨(hS45.se [0, 1, 2, 3]), ?_⟩
         refine rA [11] ?_
         refine rC 31 11 rfl (yC [gM_ m B c] K66 (c_spec_l3Adj m B c m.Cells.length _ rfl (hS45.inn0 [(true, 0)] rfl) hc4)) ?_ ?_
         ·rintro _ w_34 ⟨B8, c8, rfl, hd19⟩
          have hS46 := hS45.out0 hd19
          refine ⟨(hS46.se [0, 1, 2, 3]), ?_⟩
          refine rA [12] ?_
          refine rC 32 12 rfl (yC [pt (aD b2) 0, gM_ r_5 B7 c7, gM_ r_6 B8 c8] K39 (c_spec_l2C_times m2 r_5 r_6 (aD b2) B7 c7 r_5.Cells.length B8 c8 r_6.Cells.length _ rfl rfl (hS46.inn [false, false, false, false, false, false, false, false, true, false, false] rfl [(false, 8), (false, 9)] rfl) hc5)) ?_ ?_
          ·rintro _ w_35 ⟨B9, c9, rfl, hd20⟩
           have hS47 := hS46.out [false, false, false, false, false, false, false, false, true, false, false] rfl hd20
           refine ⟨(hS47.se [0, 1, 2, 3]), ?_⟩
           refine rA [14] ?_
           refine rZ 14 rfl (yT 5 3 (aD b4) 26 (gM_ r_7 B9 c9) (kM_ r_7 B9 c9) 0 hS47 K6) ?_ ?_
           ·rintro _ w_36 ⟨rfl, hS48⟩
            refine ⟨(hS48.se [0, 1, 2, 3]), ?_⟩
            refine ra_done (by kernel_rfl) ?_
            exact ⟨aD b4, B9, c9, (fc (hf1.g 1 0) (fc (hf1.g 2 1) (fc (hf1.g 4 2) (fc (hf1.g 5 3) (fc (hf1.g 6 4) (fc (hf1.g 7 5) (fc rfl fn_))))))), (hS48.sel [0, 1, 10, 2, 3, 5, 11] rfl rfl)⟩
           exact aN
          exact aN
         exact aN
        exact aN
       exact aN
      exact aN
     exact aN
    refine rS 8 13 rfl (yN kN_ 3 hS15 K17) ?_ ?_
    ·rintro _ w_37 ⟨b4, rfl, hS49⟩
     refine ⟨(hS49.se [0, 1, 3, 4]), ?_⟩
     refine rA [4] ?_
     refine rC 24 4 rfl (yC [vi (i1 : Int)] K88 (c_spec_l9Pauli (i1 : Int) _  (hS49.inn0 [] rfl) hc)) ?_ ?_
     ·rintro _ w_38 ⟨B4, c4, rfl, hd21⟩
      have hS50 := hS49.out0 hd21
      refine ⟨(hS50.se [0, 1, 3, 4]), ?_⟩
      refine rA [6] ?_
      refine rC 26 6 rfl (yC [pt (aD b2) 0, gM_ r_2 B4 c4, gM_ m B c] K39 (c_spec_l2C_times (Tl2C.mk bad1) r_2 m (aD b2) B4 c4 r_2.Cells.length B c m.Cells.length _ rfl rfl (hS50.inn [false, false, true, false, false, false, false] rfl [(false, 5), (true, 0)] rfl) hc1)) ?_ ?_
      ·rintro _ w_39 ⟨B5, c5, rfl, hd22⟩
       have hS51 := hS50.out [false, false, true, false, false, false, false] rfl hd22
       refine ⟨(hS51.se [0, 1, 2, 3]), ?_⟩
       refine rA [8] ?_
       refine rC 28 8 rfl (yC [vi (j : Int)] K88 (c_spec_l9Pauli (j : Int) _  (hS51.inn0 [] rfl) hc2)) ?_ ?_
       ·rintro _ w_40 ⟨B6, c6, rfl, hd23⟩
        have hS52 := hS51.out0 hd23
        refine ⟨(hS52.se [0, 1, 2, 3]), ?_⟩
        refine rA [9] ?_
        refine rC 29 9 rfl (yC [pt (aD b2) 0, gM_ r_3 B5 c5, gM_ r_4 B6 c6] K39 (c_spec_l2C_times m1 r_3 r_4 (aD b2) B5 c5 r_3.Cells.length B6 c6 r_4.Cells.length _ rfl rfl (hS52.inn [false, false, false, false, false, false, true, false, false] rfl [(false, 6), (false, 7)] rfl) hc3)) ?_ ?_
        ·rintro _ w_41 ⟨B7, c7, rfl, hd24⟩
         have hS53 := hS52.out [false, false, false, false, false, false, true, false, false] rfl hd24
         refine ⟨(hS53.se [0, 1, 2, 3]), ?_⟩
         refine rA [11] ?_
         refine rC 31 11 rfl (yC [gM_ m B c] K66 (c_spec_l3Adj m B c m.Cells.length _ rfl (hS53.inn0 [(true, 0)] rfl) hc4)) ?_ ?_
         ·rintro _ w_42 ⟨B8, c8, rfl, hd25⟩
          have hS54 := hS53.out0 hd25
          refine ⟨(hS54.se [0, 1, 2, 3]), ?_⟩
          refine rA [12] ?_
          refine rC 32 12 rfl (yC [pt (aD b2) 0, gM_ r_5 B7 c7, gM_ r_6 B8 c8] K39 (c_spec_l2C_times m2 r_5 r_6 (aD b2) B7 c7 r_5.Cells.length B8 c8 r_6.Cells.length _ rfl rfl (hS54.inn [false, false, false, false, false, false, false, false, true, false, false] rfl [(false, 8), (false, 9)] rfl) hc5)) ?_ ?_
          ·rintro _ w_43 ⟨B9, c9, rfl, hd26⟩
           have hS55 := hS54.out [false, false, false, false, false, false, false, false, true, false, false] rfl hd26
           refine ⟨(hS55.se [0, 1, 2, 3]), ?_⟩
           refine rA [14] ?_
           refine rZ 14 rfl (yT 4 3 (aD b4) 26 (gM_ r_7 B9 c9) (kM_ r_7 B9 c9) 0 hS55 K6) ?_ ?_
           ·rintro _ w_44 ⟨rfl, hS56⟩
            refine ⟨(hS56.se [0, 1, 2, 3]), ?_⟩
            refine ra_done (by kernel_rfl) ?_
            exact ⟨aD b4, B9, c9, (fc (hf1.g 1 0) (fc (hf1.g 2 1) (fc (hf1.g 4 2) (fc (hf1.g 5 3) (fc (hf1.g 6 4) (fc (hf1.g 7 5) (fc rfl fn_))))))), (hS56.sel [0, 1, 10, 2, 3, 4, 11] rfl rfl)⟩
           exact aN
          exact aN
         exact aN
        exact aN
       exact aN
      exact aN
     exact aN
    exact aN
   rintro f w ⟨B10, B11, c10, hf2, hS14⟩
   refine cq ?_
   obtain ⟨x, hx, hb1⟩ := bI hb1
   obtain ⟨x1, hx1, hb1⟩ := bI hb1
   obtain ⟨⟨r_8, m4⟩, hc6, hb1⟩ := bI hb1
   refine cw_mid (fun f w => ∃ (B12 : Option Addr), FF f [(1, pt (aD b) 0), (2, pt (aD b1) 0), (4, pt (aD b2) 0), (5, pt (aD b3) 0), (6, vi (i1 : Int)), (7, vi (j : Int)), (9, pt B12 0)] ∧ ST w0 [] w [⟨aD b, 26, kM_ m B c, 3⟩, ⟨aD b1, 29, [.slice none 0 0], 1⟩, ⟨aD b2, 59, [.bool m4.bad], 1⟩, ⟨aD b3, 29, [.slice B3 Cells1.length c3], 1⟩, ⟨B3, 54, (Cells1.flatMap eN0), c3 * 5⟩, ⟨B12, 54, kD_ r_8, 5⟩] [⟨B, (m.Cells.flatMap eN0)⟩]) ?_ ?_
   ·skip
    refine ra_start (hS14.se [0, 1, 3, 4, 5, 6]).fn (by kernel_rfl) ?_
    have hS59 := hS14.drew
    refine rq 0 33 (v := pt (aD b2) 0) rfl (hS59.se [0, 1, 3, 4, 5, 6]) (fun w' hw' => (ym (pt (aD b2) 0) rfl (hf2.g 4 2))) ?_
    refine rq 1 34 (v := pt B10 2) rfl (hS59.se [0, 1, 3, 4, 5, 6]) (fun w' hw' => (yd B10 0 0 K27 K8 rfl (hf2.g 8 6))) ?_
    refine rq 2 35 (v := .slice B11 r_7.Cells.length c10) rfl (hS59.se [0, 1, 3, 4, 5, 6]) (fun w' hw' => (yl B10 2 (kM_ r_7 B11 c10) (.slice B11 r_7.Cells.length c10) K12 (ST.cf hw' (i := 4) rfl))) ?_
    refine rq 3 36 (v := pt B11 ((0 : Int).toNat * 5)) rfl (hS59.se [0, 1, 3, 4, 5, 6]) (fun w' hw' => (Y_index (B := B11) (m := r_7.Cells.length) (c := c10) (k := .i64) (i := 0) K7 K0 rfl rfl rfl (gi_isSome eN2 rfl (ST.cf hw' (i := 5) rfl) hx) (getI_nn hx) (getI_ltI hx rfl))) ?_
    refine rq 4 37 (v := gD_ x) rfl (hS59.se [0, 1, 3, 4, 5, 6]) (fun w' hw' => (ya B11 ((0 : Int).toNat * 5) (r_7.Cells.flatMap eN0) (kD_ x) K3 K0 (ST.cf hw' (i := 5) rfl) rfl rfl (eN2 x) (gi_seg eN2 hx))) ?_
    refine rq 5 38 (v := pt B10 2) rfl (hS59.se [0, 1, 3, 4, 5, 6]) (fun w' hw' => (yd B10 0 0 K27 K8 rfl (hf2.g 8 6))) ?_
    refine rq 6 39 (v := .slice B11 r_7.Cells.length c10) rfl (hS59.se [0, 1, 3, 4, 5, 6]) (fun w' hw' => (yl B10 2 (kM_ r_7 B11 c10) (.slice B11 r_7.Cells.length c10) K12 (ST.cf hw' (i := 4) rfl))) ?_
    refine rq 7 40 (v := pt B11 ((3 : Int).toNat * 5)) rfl (hS59.se [0, 1, 3, 4, 5, 6]) (fun w' hw' => (Y_index (B := B11) (m := r_7.Cells.length) (c := c10) (k := .i64) (i := 3) K7 K0 rfl rfl rfl (gi_isSome eN2 rfl (ST.cf hw' (i := 5) rfl) hx1) (getI_nn hx1) (getI_ltI hx1 rfl))) ?_
    refine rq 8 41 (v := gD_ x1) rfl (hS59.se [0, 1, 3, 4, 5, 6]) (fun w' hw' => (ya B11 ((3 : Int).toNat * 5) (r_7.Cells.flatMap eN0) (kD_ x1) K3 K0 (ST.cf hw' (i := 5) rfl) rfl rfl (eN2 x1) (gi_seg eN2 hx1))) ?_
    refine rA [9, 10] ?_
    refine rC 42 9 rfl (yC [pt (aD b2) 0, gD_ x, gD_ x1] K48 (c_spec_l2C_add m3 x x1 (aD b2) _  (hS59.inn [false, false, true, false, false, false, false] rfl [] rfl) hc6)) ?_ ?_
    ·rintro _ w_45 ⟨rfl, hd27⟩
     have hS60 := hS59.out [false, false, true, false, false, false, false] rfl hd27
     refine ⟨(hS60.se [0, 1, 2, 3, 4, 5]), ?_⟩
     refine rA [10] ?_
     refine rS 9 10 rfl (yN kZ_ 5 hS60 K5) ?_ ?_
     ·rintro _ w_46 ⟨b5, rfl, hS61⟩
      refine ⟨(hS61.se [0, 1, 2, 3, 4, 5]), ?_⟩
      refine rA [11] ?_
      refine rZ 11 rfl (yT 7 5 (aD b5) 54 (gD_ r_8) (kD_ r_8) 0 hS61 K0) ?_ ?_
      ·rintro _ w_47 ⟨rfl, hS62⟩
       refine ⟨(hS62.se [0, 1, 2, 3, 4, 5]), ?_⟩
       refine ra_done (by kernel_rfl) ?_
       exact ⟨aD b5, (fc (hf2.g 1 0) (fc (hf2.g 2 1) (fc (hf2.g 4 2) (fc (hf2.g 5 3) (fc (hf2.g 6 4) (fc (hf2.g 7 5) (fc rfl fn_))))))), (hS62.sel [0, 1, 6, 2, 3, 7] rfl rfl)⟩
      exact aN
     exact aN
    refine rS 9 10 rfl (yN kZ_ 5 hS59 K5) ?_ ?_
    ·rintro _ w_48 ⟨b5, rfl, hS63⟩
     refine ⟨(hS63.se [0, 1, 3, 4, 5, 6]), ?_⟩
     refine rA [9] ?_
     refine rC 42 9 rfl (yC [pt (aD b2) 0, gD_ x, gD_ x1] K48 (c_spec_l2C_add m3 x x1 (aD b2) _  (hS63.inn [false, false, true, false, false, false, false, false] rfl [] rfl) hc6)) ?_ ?_
     ·rintro _ w_49 ⟨rfl, hd28⟩
      have hS64 := hS63.out [false, false, true, false, false, false, false, false] rfl hd28
      refine ⟨(hS64.se [0, 1, 2, 3, 4, 5]), ?_⟩
      refine rA [11] ?_
      refine rZ 11 rfl (yT 6 5 (aD b5) 54 (gD_ r_8) (kD_ r_8) 0 hS64 K0) ?_ ?_
      ·rintro _ w_50 ⟨rfl, hS65⟩
       refine ⟨(hS65.se [0, 1, 2, 3, 4, 5]), ?_⟩
       refine ra_done (by kernel_rfl) ?_
       exact ⟨aD b5, (fc (hf2.g 1 0) (fc (hf2.g 2 1) (fc (hf2.g 4 2) (fc (hf2.g 5 3) (fc (hf2.g 6 4) (fc (hf2.g 7 5) (fc rfl fn_))))))), (hS65.sel [0, 1, 7, 2, 3, 6] rfl rfl)⟩
      exact aN
     exact aN
    exact aN
   rintro f w ⟨B12, hf3, hS58⟩
   obtain ⟨⟨r_9, m5⟩, hc7, hb1⟩ := bI hb1
   obtain ⟨hap, hb1⟩ := chk_inv hb1
   refine cw_mid (fun f w => ∃ (B14 : Option Addr) (c12 : Nat), FF f [(1, pt (aD b) 0), (2, pt (aD b1) 0), (4, pt (aD b2) 0), (5, pt (aD b3) 0), (6, vi (i1 : Int)), (7, vi (j : Int))] ∧ ST w0 [] w [⟨aD b, 26, kM_ m B c, 3⟩, ⟨aD b1, 29, [.slice none 0 0], 1⟩, ⟨aD b2, 59, [.bool m5.bad], 1⟩, ⟨aD b3, 29, [.slice B14 ((Cells1 ++ [r_9]).length) c12], 1⟩, ⟨B14, 54, ((Cells1 ++ [r_9]).flatMap eN0), c12 * 5⟩] [⟨B, (m.Cells.flatMap eN0)⟩]) ?_ ?_
   ·skip
    refine ra_start (hS58.se [0, 1, 5]).fn (by kernel_rfl) ?_
    have hS68 := hS58.drew
    refine rq 0 43 (v := pt (aD b3) 0) rfl (hS68.se [0, 1, 5]) (fun w' hw' => (yd (aD b3) 0 0 K18 K8 rfl (hf3.g 5 3))) ?_
    refine rq 2 45 (v := pt (aD b2) 0) rfl (hS68.se [0, 1, 5]) (fun w' hw' => (ym (pt (aD b2) 0) rfl (hf3.g 4 2))) ?_
    refine rq 3 46 (v := gD_ r_8) rfl (hS68.se [0, 1, 5]) (fun w' hw' => (yb B12 0 (kD_ r_8) K3 K0 (ST.cf hw' (i := 2) rfl) rfl (hf3.g 9 6))) ?_
    refine rq 4 47 (v := .agg #[vi 1, vi 0, vi 0, vi 0]) rfl (hS68.se [0, 1, 5]) (fun w' hw' => (Y_buildS (zs := [vi 0, vi 0, vi 0, vi 0]) (vs := [(0, vi 1)]) (cs := [vi 1, vi 0, vi 0, vi 0]) K32 K16 rfl (mpc rfl mpn) rfl)) ?_
    refine rq 5 48 (v := .agg #[vi 1, vi 0, vi 0, vi 0, vi 2]) rfl (hS68.se [0, 1, 5]) (fun w' hw' => (Y_buildS (zs := kZ_) (vs := [(0, .agg #[vi 1, vi 0, vi 0, vi 0]), (1, vi 2)]) (cs := [vi 1, vi 0, vi 0, vi 0, vi 2]) K24 K5 rfl (mpc rfl (mpc rfl mpn)) rfl)) ?_
    refine rA [1, 6] ?_
    refine ra_y 44 (i := 1) (v := .slice B3 Cells1.length c3) rfl rfl rfl (yl (aD b3) 0 [.slice B3 Cells1.length c3] (.slice B3 Cells1.length c3) K12 (hS68.c 3)) (hS68.se [0, 1, 5]) ?_ ?_
    ·skip
     refine rA [6] ?_
     refine rC 49 6 rfl (yC [pt (aD b2) 0, gD_ r_8, .agg #[vi 1, vi 0, vi 0, vi 0, vi 2]] K43 (c_spec_l2C_mul m4 r_8 (TDyadic.mk (TRing.mk 1 0 0 0) 2) (aD b2) _  (hS68.inn [false, false, true, false, false, false] rfl [] rfl) hc7)) ?_ ?_
     ·rintro _ w_51 ⟨rfl, hd29⟩
      have hS69 := hS68.out [false, false, true, false, false, false] rfl hd29
      refine ⟨(hS69.se [0, 1, 4]), ?_⟩
      refine rA [7] ?_
      refine rS 50 7 rfl (Ys_bslice (s := 5) (len := 1) (vs := [(0, gD_ r_9)]) (cs := kD_ r_9) (zs := kZ_) (m := 5) hS69 K7 K0 K36 rfl (mpc rfl mpn) rfl rfl rfl (by kernel_rfl) (by kernel_rfl) rfl) ?_ ?_
      ·rintro _ w_52 ⟨b6, rfl, hS70⟩
       refine ⟨(hS70.se [0, 1, 4]), ?_⟩
       refine rA [8] ?_
       refine rS 51 8 rfl (Ys_append (s := 5) (by' := 40) (i := 3) (nn := Cells1.length) (c := c3) (k := 1) (len := (Cells1 ++ [r_9]).length) (B := B3) (xs := ([r_9].flatMap eN0)) (cs' := ((Cells1 ++ [r_9]).flatMap eN0)) hS70 K7 K0 K38 K5 rfl (by decide) rfl rfl rfl rfl (fm_lenn (l := Cells1) eN2 rfl) rfl (hS70.c 6) (fm_lenn (l := [r_9]) eN2 rfl) (fm_one' (enc := eN0) enc_Dyadic_one [r_9]) (by have := hap; omega) (by have := hap; simp only [maxLen]; omega) (fm_app _ _) (app_len (l := Cells1) (l' := [r_9]) rfl rfl)) ?_ ?_
       ·rintro _ w_53 ⟨B13, c11, rfl, hS71⟩
        refine ⟨(hS71.se [0, 1, 4]), ?_⟩
        refine rq 9 52 (v := pt (aD b3) 0) rfl (hS71.se [0, 1, 4]) (fun w' hw' => (yd (aD b3) 0 0 K18 K8 rfl (hf3.g 5 3))) ?_
        refine rA [10] ?_
        refine rZ 10 rfl (yT 2 1 (aD b3) 29 (.slice B13 ((Cells1 ++ [r_9]).length) c11) [.slice B13 ((Cells1 ++ [r_9]).length) c11] 0 hS71 K8) ?_ ?_
        ·rintro _ w_54 ⟨rfl, hS72⟩
         refine ⟨(hS72.se [0, 1, 4]), ?_⟩
         refine ra_done (by kernel_rfl) ?_
         exact ⟨B13, c11, (fc (hf3.g 1 0) (fc (hf3.g 2 1) (fc (hf3.g 4 2) (fc (hf3.g 5 3) (fc (hf3.g 6 4) (fc (hf3.g 7 5) fn_)))))), (hS72.sel [0, 1, 5, 2, 3] rfl rfl)⟩
        exact aN
       exact aN
      exact aN
     exact aN
    refine rC 49 6 rfl (yC [pt (aD b2) 0, gD_ r_8, .agg #[vi 1, vi 0, vi 0, vi 0, vi 2]] K43 (c_spec_l2C_mul m4 r_8 (TDyadic.mk (TRing.mk 1 0 0 0) 2) (aD b2) _  (hS68.inn [false, false, true, false, false, false] rfl [] rfl) hc7)) ?_ ?_
    ·rintro _ w_55 ⟨rfl, hd30⟩
     have hS73 := hS68.out [false, false, true, false, false, false] rfl hd30
     refine ⟨(hS73.se [0, 1, 4]), ?_⟩
     refine rA [1, 7] ?_
     refine ra_y 44 (i := 1) (v := .slice B3 Cells1.length c3) rfl rfl rfl (yl (aD b3) 0 [.slice B3 Cells1.length c3] (.slice B3 Cells1.length c3) K12 (hS73.c 2)) (hS73.se [0, 1, 4]) ?_ ?_
     ·skip
      refine rA [7] ?_
      refine rS 50 7 rfl (Ys_bslice (s := 5) (len := 1) (vs := [(0, gD_ r_9)]) (cs := kD_ r_9) (zs := kZ_) (m := 5) hS73 K7 K0 K36 rfl (mpc rfl mpn) rfl rfl rfl (by kernel_rfl) (by kernel_rfl) rfl) ?_ ?_
      ·rintro _ w_56 ⟨b6, rfl, hS74⟩
       refine ⟨(hS74.se [0, 1, 4]), ?_⟩
       refine rA [8] ?_
       refine rS 51 8 rfl (Ys_append (s := 5) (by' := 40) (i := 3) (nn := Cells1.length) (c := c3) (k := 1) (len := (Cells1 ++ [r_9]).length) (B := B3) (xs := ([r_9].flatMap eN0)) (cs' := ((Cells1 ++ [r_9]).flatMap eN0)) hS74 K7 K0 K38 K5 rfl (by decide) rfl rfl rfl rfl (fm_lenn (l := Cells1) eN2 rfl) rfl (hS74.c 6) (fm_lenn (l := [r_9]) eN2 rfl) (fm_one' (enc := eN0) enc_Dyadic_one [r_9]) (by have := hap; omega) (by have := hap; simp only [maxLen]; omega) (fm_app _ _) (app_len (l := Cells1) (l' := [r_9]) rfl rfl)) ?_ ?_
       ·rintro _ w_57 ⟨B13, c11, rfl, hS75⟩
        refine ⟨(hS75.se [0, 1, 4]), ?_⟩
        refine rq 9 52 (v := pt (aD b3) 0) rfl (hS75.se [0, 1, 4]) (fun w' hw' => (yd (aD b3) 0 0 K18 K8 rfl (hf3.g 5 3))) ?_
        refine rA [10] ?_
        refine rZ 10 rfl (yT 2 1 (aD b3) 29 (.slice B13 ((Cells1 ++ [r_9]).length) c11) [.slice B13 ((Cells1 ++ [r_9]).length) c11] 0 hS75 K8) ?_ ?_
        ·rintro _ w_58 ⟨rfl, hS76⟩
         refine ⟨(hS76.se [0, 1, 4]), ?_⟩
         refine ra_done (by kernel_rfl) ?_
         exact ⟨B13, c11, (fc (hf3.g 1 0) (fc (hf3.g 2 1) (fc (hf3.g 4 2) (fc (hf3.g 5 3) (fc (hf3.g 6 4) (fc (hf3.g 7 5) fn_)))))), (hS76.sel [0, 1, 5, 2, 3] rfl rfl)⟩
        exact aN
       exact aN
      exact aN
     refine rS 50 7 rfl (Ys_bslice (s := 5) (len := 1) (vs := [(0, gD_ r_9)]) (cs := kD_ r_9) (zs := kZ_) (m := 5) hS73 K7 K0 K36 rfl (mpc rfl mpn) rfl rfl rfl (by kernel_rfl) (by kernel_rfl) rfl) ?_ ?_
     ·rintro _ w_59 ⟨b6, rfl, hS77⟩
      refine ⟨(hS77.se [0, 1, 4]), ?_⟩
      refine rA [1] ?_
      refine ra_y 44 (i := 1) (v := .slice B3 Cells1.length c3) rfl rfl rfl (yl (aD b3) 0 [.slice B3 Cells1.length c3] (.slice B3 Cells1.length c3) K12 (hS77.c 2)) (hS77.se [0, 1, 4]) ?_ ?_
      ·skip
       refine rA [8] ?_
       refine rS 51 8 rfl (Ys_append (s := 5) (by' := 40) (i := 3) (nn := Cells1.length) (c := c3) (k := 1) (len := (Cells1 ++ [r_9]).length) (B := B3) (xs := ([r_9].flatMap eN0)) (cs' := ((Cells1 ++ [r_9]).flatMap eN0)) hS77 K7 K0 K38 K5 rfl (by decide) rfl rfl rfl rfl (fm_lenn (l := Cells1) eN2 rfl) rfl (hS77.c 6) (fm_lenn (l := [r_9]) eN2 rfl) (fm_one' (enc := eN0) enc_Dyadic_one [r_9]) (by have := hap; omega) (by have := hap; simp only [maxLen]; omega) (fm_app _ _) (app_len (l := Cells1) (l' := [r_9]) rfl rfl)) ?_ ?_
       ·rintro _ w_60 ⟨B13, c11, rfl, hS78⟩
        have hS78 : ST w0 [] _ [⟨aD b, 26, kM_ m B c, 3⟩, ⟨aD b1, 29, [.slice none 0 0], 1⟩, ⟨aD b3, 29, [.slice B3 Cells1.length c3], 1⟩, ⟨B13, 54, ((Cells1 ++ [r_9]).flatMap eN0), c11 * 5⟩, ⟨B12, 54, kD_ r_8, 5⟩, ⟨aD b2, 59, [.bool m5.bad], 1⟩, ⟨aD b6, 54, ([r_9].flatMap eN0), 1 * 5⟩] [⟨B, (m.Cells.flatMap eN0)⟩] := hS78
        refine ⟨(hS78.se [0, 1, 4]), ?_⟩
        refine rq 9 52 (v := pt (aD b3) 0) rfl (hS78.se [0, 1, 4]) (fun w' hw' => (yd (aD b3) 0 0 K18 K8 rfl (hf3.g 5 3))) ?_
        refine rA [10] ?_
        refine rZ 10 rfl (yT 2 1 (aD b3) 29 (.slice B13 ((Cells1 ++ [r_9]).length) c11) [.slice B13 ((Cells1 ++ [r_9]).length) c11] 0 hS78 K8) ?_ ?_
        ·rintro _ w_61 ⟨rfl, hS79⟩
         refine ⟨(hS79.se [0, 1, 4]), ?_⟩
         refine ra_done (by kernel_rfl) ?_
         exact ⟨B13, c11, (fc (hf3.g 1 0) (fc (hf3.g 2 1) (fc (hf3.g 4 2) (fc (hf3.g 5 3) (fc (hf3.g 6 4) (fc (hf3.g 7 5) fn_)))))), (hS79.sel [0, 1, 5, 2, 3] rfl rfl)⟩
        exact aN
       exact aN
      exact aN
     exact aN
    exact aN
   rintro f w ⟨B14, c12, hf4, hS67⟩
   refine cr ?_
   refine sQ 18 (ym (vi (j : Int)) rfl (hf4.g 7 5)) <| sQ 19 (yP (j : Int) 1) <| sQ 7 (yg (vi (i64.wrap ((j : Int) + 1)))) (rn ?_)
   obtain rfl := sI hb1
   exact ⟨K29, Nat.lt_succ_self _, j + 1, m5.bad, (Cells1 ++ [r_9]), B14, c12, (fc (hf4.g 1 0) (fc (hf4.g 2 1) (fc (hf4.g 4 2) (fc (hf4.g 5 3) (fc (hf4.g 6 4) (fc (congrArg (Value.int .i64) (wr_succ hlt3 (show 3 ≤ 9223372036854775807 by decide))) fn_)))))), (hS67.sel [0, 1, 2, 3, 4] rfl rfl), (by omega), hL3⟩
  ·skip
   obtain rfl : K15 = 0 := by have h := of_decide_eq_false hlt2; omega
   refine cw_exit rfl ?_
   obtain rfl := sI hL2
   refine cr ?_
   refine sQ 14 (ym (vi (i1 : Int)) rfl (hf1.g 6 4)) <| sQ 15 (yP (i1 : Int) 1) <| sQ 6 (yg (vi (i64.wrap ((i1 : Int) + 1)))) (rn ?_)
   obtain rfl := sI hF2
   exact ⟨K9, Nat.lt_succ_self _, i1 + 1, bad1, Cells1, B3, c3, (fc (hf1.g 1 0) (fc (hf1.g 2 1) (fc (hf1.g 4 2) (fc (hf1.g 5 3) (fc (congrArg (Value.int .i64) (wr_succ hlt1 (show 3 ≤ 9223372036854775807 by decide))) fn_))))), (hS7.sel [0, 1, 2, 3, 4] rfl rfl), (by omega), hL1⟩
 ·skip
  obtain rfl : k_ = 0 := by have h := of_decide_eq_false hlt; omega
  refine cw_exit rfl ?_
  obtain rfl := sI hL
  refine cq (cq (cr ?_))
  refine sQ 53 (ym (pt (aD b2) 0) rfl (hf.g 4 2)) <| sQ 54 (Y_nilCheck (B := aD b2) (i := 0) rfl rfl) <| sQ 55 (yd (aD b2) 0 0 K65 K54) <| sQ 56 (yl (aD b2) 0 [.bool bad] (.bool bad) K72 (hS5.c 2)) (rn ?_)
  refine cw_cond (b := bad) rfl (fun hb2 => ?_) (fun hb2 => ?_)
  ·skip
   have hF3 := ct hF1 hb2
   refine cq (cr ?_)
   refine sQ 57 (Y_buildS (zs := [.slice none 0 0]) (vs := []) (cs := [.slice none 0 0]) K89 K26 rfl mpn rfl) ?_
   refine s0 (yT 1 1 (aD b1) 29 (.agg #[.slice none 0 0]) [.slice none 0 0] 0 hS5 K14 rfl (hf.g 2 1)) ?_
   rintro _ w_62 ⟨rfl, hS80⟩
   refine sQ 3 (yg (.bool false)) (rn (ct_ ?_))
   have hS81 := hS80.addNil 54
   obtain ⟨rfl, rfl⟩ := pr2 (sI hF3)
   exact ret2 Tryz.results26 (v1 := .agg #[.slice none 0 0]) (resAt_cellA (B := aD b1) (i := 0) (cs := [.slice none 0 0]) (vs := [.slice none 0 0]) (hf.g 2 1) K25 K14 (hS81.c 1) rfl rfl) (v2 := .bool false) (resAt_tmp rfl) ⟨none, 0, rfl, (hS81.sN [5])⟩
  ·skip
   have hF4 := cf' hF1 hb2
   refine cw_skip (cq (cr ?_))
   refine sQ 58 (yb (aD b3) 0 [.slice B2 Cells.length c2] K25 K14 (hS5.c 3) rfl (hf.g 5 3)) ?_
   refine s0 (yT 1 1 (aD b1) 29 (.agg #[.slice B2 Cells.length c2]) [.slice B2 Cells.length c2] 0 hS5 K14 rfl (hf.g 2 1)) ?_
   rintro _ w_63 ⟨rfl, hS82⟩
   refine sQ 3 (yg (.bool true)) (rn (ct_ ?_))
   obtain ⟨rfl, rfl⟩ := pr2 (sI hF4)
   exact ret2 Tryz.results26 (v1 := .agg #[.slice B2 Cells.length c2]) (resAt_cellA (B := aD b1) (i := 0) (cs := [.slice B2 Cells.length c2]) (vs := [.slice B2 Cells.length c2]) (hf.g 2 1) K25 K14 (hS82.c 1) rfl rfl) (v2 := .bool true) (resAt_tmp rfl) ⟨B2, c2, rfl, (hS82.sN [4])⟩

theorem c_spec_BlochOf (m : TMatrix) (B : Option Addr) (c n : Nat) (w0 : World) (hn : m.Cells.length = n) (hS : ST w0 [] w0 [] [⟨B, (m.Cells.flatMap eN0)⟩]) {r_ : TBloch} {r_1 : Bool} (hF : F_spec_BlochOf m = some (r_, r_1)) :
  CV Tryz.prog 8 #[.agg #[vi m.Rows, vi m.Cols, .slice B n c]] w0 (fun v w' => ∃ (B1 : Option Addr) (c1 : Nat), v = .tuple #[gB_ r_ B1 c1, .bool r_1] ∧ ST w0 [] w' [⟨B1, 54, (r_.Cells.flatMap eN0), c1 * 5⟩] []) := by
 subst hn
 unfold F_spec_BlochOf at hF
 refine cv_of_cw 12 Tryz.func8 rfl Tryz.ntmps8 rfl ?_
 refine cq (cr ?_)
 refine sS 1 (yB 26 (gM_ m B c) (kM_ m B c) 3 hS) ?_
 rintro _ w_ ⟨b, rfl, hS1⟩
 refine sS 2 (yN [.slice none 0 0] 1 hS1 K26) ?_
 rintro _ w_1 ⟨b1, rfl, hS2⟩
 refine sQ 3 (yg (.bool false)) (rn (cq (cq (cr ?_))))
 refine sQ 4 (yb (aD b) 0 (kM_ m B c) K13 K6 (hS2.c 0)) ?_
 obtain ⟨r_2, hc, hF⟩ := bI hF
 refine sc 5 rfl rfl (yC [gM_ m B c] k_call_25 (c_spec_l9Good m B c m.Cells.length _ rfl (hS2.inn0 [(true, 0)] rfl) hc)) ?_
 rintro _ w_2 ⟨rfl, hd⟩
 have hS3 := hS2.out00 hd
 refine sQ 6 (Y_not (p := r_2) rfl rfl) (rn ?_)
 refine cw_cond (b := (!r_2)) rfl (fun hb => ?_) (fun hb => ?_)
 ·skip
  have hF1 := ct hF hb
  refine cq (cr ?_)
  refine sQ 7 (Y_buildS (zs := [.slice none 0 0]) (vs := []) (cs := [.slice none 0 0]) K89 K26 rfl mpn rfl) ?_
  refine s0 (yT 1 1 (aD b1) 29 (.agg #[.slice none 0 0]) [.slice none 0 0] 0 hS3 K14) ?_
  rintro _ w_3 ⟨rfl, hS4⟩
  refine sQ 3 (yg (.bool false)) (rn (ct_ ?_))
  have hS5 := hS4.addNil 54
  obtain ⟨rfl, rfl⟩ := pr2 (sI hF1)
  exact ret2 Tryz.results8 (v1 := .agg #[.slice none 0 0]) (resAt_cellA (B := aD b1) (i := 0) (cs := [.slice none 0 0]) (vs := [.slice none 0 0]) rfl K25 K14 (hS5.c 1) rfl rfl) (v2 := .bool false) (resAt_tmp rfl) ⟨none, 0, rfl, (hS5.sN [2])⟩
 ·skip
  have hF2 := cf' hF hb
  refine cw_skip (cq (cr ?_))
  refine sQ 8 (yb (aD b) 0 (kM_ m B c) K13 K6 (hS3.c 0)) ?_
  obtain ⟨⟨r_3, r_4⟩, hc1, hF2⟩ := bI hF2
  refine sc 9 rfl rfl (yC [gM_ m B c] K121 (c_spec_l9Bloch m B c m.Cells.length _ rfl (hS3.inn0 [(true, 0)] rfl) hc1)) ?_
  rintro _ w_4 ⟨B2, c2, rfl, hd1⟩
  have hS6 := hS3.out0 hd1
  refine sQ 10 (ye (gB_ r_3 B2 c2)) <| sQ 11 (ye (.bool r_4)) ?_
  refine s0 (yT 1 1 (aD b1) 29 (gB_ r_3 B2 c2) (kB_ r_3 B2 c2) 0 hS6 K14) ?_
  rintro _ w_5 ⟨rfl, hS7⟩
  refine sQ 3 (yg (.bool r_4)) (rn (ct_ ?_))
  obtain ⟨rfl, rfl⟩ := pr2 (sI hF2)
  exact ret2 Tryz.results8 (v1 := gB_ r_3 B2 c2) (resAt_cellA (B := aD b1) (i := 0) (cs := kB_ r_3 B2 c2) (vs := kB_ r_3 B2 c2) rfl K25 K14 (hS7.c 1) rfl rfl) (v2 := .bool r_4) (resAt_tmp rfl) ⟨B2, c2, rfl, (hS7.sN [2])⟩

theorem c_impl_within (n : Int) (low : Int) (high : Int)  (w0 : World)  (hS : ST w0 [] w0 [] []) {r_ : Bool} (hF : F_impl_within n low high = some r_) :
  CV Tryz.prog 36 #[vi n, vi low, vi high] w0 (fun v w' => v = .bool r_ ∧ ST w0 [] w' [] []) := by
 unfold F_impl_within at hF
 refine cv_of_cw 15 Tryz.func36 rfl Tryz.ntmps36 rfl ?_
 refine cq (cr ?_)
 refine sQ 6 (yg (.bool false)) (rn (cq (cr ?_)))
 refine sQ 7 (ym (vi low)) <| sQ 8 (ym (vi n)) <| sQ 9 (Y_le (k := .i64) (a := low) (b := n) rfl rfl rfl) <| sQ 10 (ym (.bool (decide (low ≤ n)))) ?_
 refine sgq 11 (B := (decide (low ≤ n))) (v := vi n) rfl rfl (uT_ 10) (fun hg => (ym (vi n))) ?_
 refine sgq 12 (B := (decide (low ≤ n))) (v := vi high) rfl rfl (uT_ 10) (fun hg1 => (ym (vi high))) ?_
 refine sgq 13 (B := (decide (low ≤ n))) (v := .bool (decide (n ≤ high))) rfl rfl (uT_ 10) (fun hg2 => (Y_le (k := .i64) (a := n) (b := high) rfl (gv_of (v := vi n) hg2) (gv_of (v := vi high) hg2))) ?_
 refine sQ 14 (Y_and (b := (decide (low ≤ n))) (z := (decide (n ≤ high))) rfl rfl rfl rfl) <| sQ 6 (yg (.bool ((decide (low ≤ n)) && (decide (n ≤ high))))) (rn (ct_ ?_))
 obtain rfl := sI hF
 exact ret1 Tryz.results36 (v1 := .bool ((decide (low ≤ n)) && (decide (n ≤ high)))) (resAt_tmp rfl) ⟨rfl, (hS.sN [])⟩

theorem c_impl_isCoef (n : Int)  (w0 : World)  (hS : ST w0 [] w0 [] []) {r_ : Bool} (hF : F_impl_isCoef n = some r_) :
  CV Tryz.prog 149 #[vi n] w0 (fun v w' => v = .bool r_ ∧ ST w0 [] w' [] []) := by
 unfold F_impl_isCoef at hF
 refine cv_of_cw 5 Tryz.func149 rfl Tryz.ntmps149 rfl ?_
 refine cq (cr ?_)
 refine sQ 2 (yg (.bool false)) (rn (cq (cr ?_)))
 refine sQ 3 (ym (vi n)) ?_
 obtain ⟨r_1, hc, hF⟩ := bI hF
 refine sc 4 rfl rfl (yC [vi n, vi (-1000000000), vi 1000000000] K51 (c_impl_within n (-1000000000) 1000000000 _  (hS.inn0 [] rfl) hc)) ?_
 rintro _ w_ ⟨rfl, hd⟩
 have hS1 := hS.out00 hd
 refine sQ 2 (yg (.bool r_1)) (rn (ct_ ?_))
 obtain rfl := sI hF
 exact ret1 Tryz.results149 (v1 := .bool r_1) (resAt_tmp rfl) ⟨rfl, (hS1.sN [])⟩

theorem c_impl_IsValidRing (x : TRing)  (w0 : World)  (hS : ST w0 [] w0 [] []) {r_ : Bool} (hF : F_impl_IsValidRing x = some r_) :
  CV Tryz.prog 137 #[gR_ x] w0 (fun v w' => v = .bool r_ ∧ ST w0 [] w' [] []) := by
 unfold F_impl_IsValidRing at hF
 refine cv_of_cw 21 Tryz.func137 rfl Tryz.ntmps137 rfl ?_
 refine cq (cr ?_)
 refine sS 1 (yB 52 (gR_ x) (kR_ x) 4 hS) ?_
 rintro _ w_ ⟨b, rfl, hS1⟩
 refine sQ 2 (yg (.bool false)) (rn (cq (cr ?_)))
 refine sQ 3 (yd (aD b) 0 0 K20 K2) <| sQ 4 (yl (aD b) 0 (kR_ x) (vi x.A) K1 (hS1.c 0)) ?_
 obtain ⟨r_1, hc, hF⟩ := bI hF
 refine sc 5 rfl rfl (yC [vi x.A] K110 (c_impl_isCoef x.A _  (hS1.inn0 [] rfl) hc)) ?_
 rintro _ w_1 ⟨rfl, hd⟩
 have hS2 := hS1.out00 hd
 refine sQ 6 (ym (.bool r_1)) ?_
 refine sgq 7 (B := r_1) (v := pt (aD b) 1) rfl rfl (uT_ 6) (fun hg => (yd (aD b) 0 0 K21 K2)) ?_
 refine sgq 8 (B := r_1) (v := vi x.B) rfl rfl (uT_ 6) (fun hg1 => (yl (aD b) 1 (kR_ x) (vi x.B) K1 (hS2.c 0) rfl (gv_of (v := pt (aD b) 1) hg1))) ?_
 obtain ⟨r_2, hc1, hF⟩ := bI hF
 refine sgc 9 (B := r_1) (v := .bool r_2) (F := hS2.fn) rfl rfl (uT_ 6) hS2 (fun hg2 => (yC [vi x.B] K110 (CV.mono (c_impl_isCoef x.B _  (hS2.inn0 [] rfl) (gb_inv hc1 hg2)) (by rintro _ _ ⟨rfl, h⟩; exact ⟨rfl, hS2.out00 h⟩)) rfl (mc (gv_of (v := vi x.B) hg2) mn))) ?_
 rintro w_2 hS3
 refine sQ 10 (Y_and (b := r_1) (z := r_2) rfl rfl rfl rfl) <| sQ 11 (ym (.bool (r_1 && r_2))) ?_
 refine sgq 12 (B := (r_1 && r_2)) (v := pt (aD b) 2) rfl rfl (uT_ 11) (fun hg3 => (yd (aD b) 0 0 K22 K2)) ?_
 refine sgq 13 (B := (r_1 && r_2)) (v := vi x.C) rfl rfl (uT_ 11) (fun hg4 => (yl (aD b) 2 (kR_ x) (vi x.C) K1 (hS3.c 0) rfl (gv_of (v := pt (aD b) 2) hg4))) ?_
 obtain ⟨r_3, hc2, hF⟩ := bI hF
 refine sgc 14 (B := (r_1 && r_2)) (v := .bool r_3) (F := hS3.fn) rfl rfl (uT_ 11) hS3 (fun hg5 => (yC [vi x.C] K110 (CV.mono (c_impl_isCoef x.C _  (hS3.inn0 [] rfl) (gb_inv hc2 hg5)) (by rintro _ _ ⟨rfl, h⟩; exact ⟨rfl, hS3.out00 h⟩)) rfl (mc (gv_of (v := vi x.C) hg5) mn))) ?_
 rintro w_3 hS4
 refine sQ 15 (Y_and (b := (r_1 && r_2)) (z := r_3) rfl rfl rfl rfl) <| sQ 16 (ym (.bool ((r_1 && r_2) && r_3))) ?_
 refine sgq 17 (B := ((r_1 && r_2) && r_3)) (v := pt (aD b) 3) rfl rfl (uT_ 16) (fun hg6 => (yd (aD b) 0 0 K23 K2)) ?_
 refine sgq 18 (B := ((r_1 && r_2) && r_3)) (v := vi x.D) rfl rfl (uT_ 16) (fun hg7 => (yl (aD b) 3 (kR_ x) (vi x.D) K1 (hS4.c 0) rfl (gv_of (v := pt (aD b) 3) hg7))) ?_
 obtain ⟨r_4, hc3, hF⟩ := bI hF
 refine sgc 19 (B := ((r_1 && r_2) && r_3)) (v := .bool r_4) (F := hS4.fn) rfl rfl (uT_ 16) hS4 (fun hg8 => (yC [vi x.D] K110 (CV.mono (c_impl_isCoef x.D _  (hS4.inn0 [] rfl) (gb_inv hc3 hg8)) (by rintro _ _ ⟨rfl, h⟩; exact ⟨rfl, hS4.out00 h⟩)) rfl (mc (gv_of (v := vi x.D) hg8) mn))) ?_
 rintro w_4 hS5
 refine sQ 20 (Y_and (b := ((r_1 && r_2) && r_3)) (z := r_4) rfl rfl rfl rfl) <| sQ 2 (yg (.bool (((r_1 && r_2) && r_3) && r_4))) (rn (ct_ ?_))
 obtain rfl := sI hF
 exact ret1 Tryz.results137 (v1 := .bool (((r_1 && r_2) && r_3) && r_4)) (resAt_tmp rfl) ⟨rfl, (hS5.sN [])⟩

theorem c_impl_isEven (x : TRing)  (w0 : World)  (hS : ST w0 [] w0 [] []) {r_ : Bool} (hF : F_impl_isEven x = some r_) :
  CV Tryz.prog 138 #[gR_ x] w0 (fun v w' => v = .bool r_ ∧ ST w0 [] w' [] []) := by
 unfold F_impl_isEven at hF
 refine cv_of_cw 19 Tryz.func138 rfl Tryz.ntmps138 rfl ?_
 refine cq (cr ?_)
 refine sS 1 (yB 52 (gR_ x) (kR_ x) 4 hS) ?_
 rintro _ w_ ⟨b, rfl, hS1⟩
 refine sQ 2 (yg (.bool false)) (rn (cq (cr ?_)))
 refine sQ 3 (yd (aD b) 0 0 K20 K2) <| sQ 4 (yl (aD b) 0 (kR_ x) (vi x.A) K1 (hS1.c 0)) <| sQ 5 (yd (aD b) 0 0 K22 K2) <| sQ 6 (yl (aD b) 2 (kR_ x) (vi x.C) K1 (hS1.c 0)) <| sQ 7 (yP x.A x.C) <| sQ 8 (Y_rem (k := .i64) (a := (i64.wrap (x.A + x.C))) (b := 2) rfl rfl rfl (by decide)) ?_
 refine sQ 9 (yE (Int.tmod (i64.wrap (x.A + x.C)) 2) 0) <| sQ 10 (ym (.bool ((Int.tmod (i64.wrap (x.A + x.C)) 2) == 0))) ?_
 refine sgq 11 (B := ((Int.tmod (i64.wrap (x.A + x.C)) 2) == 0)) (v := pt (aD b) 1) rfl rfl (uT_ 10) (fun hg => (yd (aD b) 0 0 K21 K2)) ?_
 refine sgq 12 (B := ((Int.tmod (i64.wrap (x.A + x.C)) 2) == 0)) (v := vi x.B) rfl rfl (uT_ 10) (fun hg1 => (yl (aD b) 1 (kR_ x) (vi x.B) K1 (hS1.c 0) rfl (gv_of (v := pt (aD b) 1) hg1))) ?_
 refine sgq 13 (B := ((Int.tmod (i64.wrap (x.A + x.C)) 2) == 0)) (v := pt (aD b) 3) rfl rfl (uT_ 10) (fun hg2 => (yd (aD b) 0 0 K23 K2)) ?_
 refine sgq 14 (B := ((Int.tmod (i64.wrap (x.A + x.C)) 2) == 0)) (v := vi x.D) rfl rfl (uT_ 10) (fun hg3 => (yl (aD b) 3 (kR_ x) (vi x.D) K1 (hS1.c 0) rfl (gv_of (v := pt (aD b) 3) hg3))) ?_
 refine sgq 15 (B := ((Int.tmod (i64.wrap (x.A + x.C)) 2) == 0)) (v := vi (i64.wrap (x.B + x.D))) rfl rfl (uT_ 10) (fun hg4 => (yP x.B x.D rfl (gv_of (v := vi x.B) hg4) (gv_of (v := vi x.D) hg4))) ?_
 refine sgq 16 (B := ((Int.tmod (i64.wrap (x.A + x.C)) 2) == 0)) (v := vi (Int.tmod (i64.wrap (x.B + x.D)) 2)) rfl rfl (uT_ 10) (fun hg5 => (Y_rem (k := .i64) (a := (i64.wrap (x.B + x.D))) (b := 2) rfl (gv_of (v := vi (i64.wrap (x.B + x.D))) hg5) rfl (by decide))) ?_
 refine sgq 17 (B := ((Int.tmod (i64.wrap (x.A + x.C)) 2) == 0)) (v := .bool ((Int.tmod (i64.wrap (x.B + x.D)) 2) == 0)) rfl rfl (uT_ 10) (fun hg6 => (yE (Int.tmod (i64.wrap (x.B + x.D)) 2) 0 rfl (gv_of (v := vi (Int.tmod (i64.wrap (x.B + x.D)) 2)) hg6))) ?_
 refine sQ 18 (Y_and (b := ((Int.tmod (i64.wrap (x.A + x.C)) 2) == 0)) (z := ((Int.tmod (i64.wrap (x.B + x.D)) 2) == 0)) rfl rfl rfl rfl) <| sQ 2 (yg (.bool (((Int.tmod (i64.wrap (x.A + x.C)) 2) == 0) && ((Int.tmod (i64.wrap (x.B + x.D)) 2) == 0)))) (rn (ct_ ?_))
 obtain rfl := sI hF
 exact ret1 Tryz.results138 (v1 := .bool (((Int.tmod (i64.wrap (x.A + x.C)) 2) == 0) && ((Int.tmod (i64.wrap (x.B + x.D)) 2) == 0))) (resAt_tmp rfl) ⟨rfl, (hS1.sN [])⟩

theorem c_impl_IsValidDyadic (x : TDyadic)  (w0 : World)  (hS : ST w0 [] w0 [] []) {r_ : Bool} (hF : F_impl_IsValidDyadic x = some r_) :
  CV Tryz.prog 95 #[gD_ x] w0 (fun v w' => v = .bool r_ ∧ ST w0 [] w' [] []) := by
 unfold F_impl_IsValidDyadic at hF
 refine cv_of_cw 22 Tryz.func95 rfl Tryz.ntmps95 rfl ?_
 refine cq (cr ?_)
 refine sS 1 (yB 54 (gD_ x) (kD_ x) 5 hS) ?_
 rintro _ w_ ⟨b, rfl, hS1⟩
 refine sQ 2 (yg (.bool false)) (rn (cq (cr ?_)))
 refine sQ 3 (yd (aD b) 0 3 K33 K4) <| sQ 4 (ya (aD b) 0 (kD_ x) (kR_ x.Num) K10 K4 (hS1.c 0)) ?_
 obtain ⟨r_1, hc, hF⟩ := bI hF
 refine sc 5 rfl rfl (yC [gR_ x.Num] K101 (c_impl_IsValidRing x.Num _  (hS1.inn0 [] rfl) hc)) ?_
 rintro _ w_1 ⟨rfl, hd⟩
 have hS2 := hS1.out00 hd
 refine sQ 6 (ym (.bool r_1)) ?_
 refine sgq 7 (B := r_1) (v := pt (aD b) 4) rfl rfl (uT_ 6) (fun hg => (yd (aD b) 0 0 K30 K2)) ?_
 refine sgq 8 (B := r_1) (v := vi x.Exp) rfl rfl (uT_ 6) (fun hg1 => (yl (aD b) 4 (kD_ x) (vi x.Exp) K1 (hS2.c 0) rfl (gv_of (v := pt (aD b) 4) hg1))) ?_
 obtain ⟨r_2, hc1, hF⟩ := bI hF
 refine sgc 9 (B := r_1) (v := .bool r_2) (F := hS2.fn) rfl rfl (uT_ 6) hS2 (fun hg2 => (yC [vi x.Exp, vi 0, vi 60] K51 (CV.mono (c_impl_within x.Exp 0 60 _  (hS2.inn0 [] rfl) (gb_inv hc1 hg2)) (by rintro _ _ ⟨rfl, h⟩; exact ⟨rfl, hS2.out00 h⟩)) rfl (mc (gv_of (v := vi x.Exp) hg2) (mc rfl (mc rfl mn))))) ?_
 rintro w_2 hS3
 refine sQ 10 (Y_and (b := r_1) (z := r_2) rfl rfl rfl rfl) <| sQ 11 (ym (.bool (r_1 && r_2))) ?_
 refine sgq 12 (B := (r_1 && r_2)) (v := pt (aD b) 4) rfl rfl (uT_ 11) (fun hg3 => (yd (aD b) 0 0 K30 K2)) ?_
 refine sgq 13 (B := (r_1 && r_2)) (v := vi x.Exp) rfl rfl (uT_ 11) (fun hg4 => (yl (aD b) 4 (kD_ x) (vi x.Exp) K1 (hS3.c 0) rfl (gv_of (v := pt (aD b) 4) hg4))) ?_
 refine sgq 14 (B := (r_1 && r_2)) (v := .bool (x.Exp == 0)) rfl rfl (uT_ 11) (fun hg5 => (yE x.Exp 0 rfl (gv_of (v := vi x.Exp) hg5))) ?_
 refine sgq 15 (B := (r_1 && r_2)) (v := .bool (x.Exp == 0)) rfl rfl (uT_ 11) (fun hg6 => (ym (.bool (x.Exp == 0)) rfl (gv_of (v := .bool (x.Exp == 0)) hg6))) ?_
 refine sgq 16 (B := ((r_1 && r_2) && (!(x.Exp == 0)))) (v := pt (aD b) 0) rfl rfl (wt_gf (gd_of (t := 15) (by kernel_rfl) rfl)) (fun hg7 => (yd (aD b) 0 3 K33 K4)) ?_
 refine sgq 17 (B := ((r_1 && r_2) && (!(x.Exp == 0)))) (v := gR_ x.Num) rfl rfl (wt_gf (gd_of (t := 15) (by kernel_rfl) rfl)) (fun hg8 => (ya (aD b) 0 (kD_ x) (kR_ x.Num) K10 K4 (hS3.c 0) rfl (gv_of (v := pt (aD b) 0) hg8))) ?_
 obtain ⟨r_3, hc2, hF⟩ := bI hF
 refine sgc 18 (B := ((r_1 && r_2) && (!(x.Exp == 0)))) (v := .bool r_3) (F := hS3.fn) rfl rfl (wt_gf (gd_of (t := 15) (by kernel_rfl) rfl)) hS3 (fun hg9 => (yC [gR_ x.Num] K122 (CV.mono (c_impl_isEven x.Num _  (hS3.inn0 [] rfl) (gb_inv hc2 hg9)) (by rintro _ _ ⟨rfl, h⟩; exact ⟨rfl, hS3.out00 h⟩)) rfl (mc (gv_of (v := gR_ x.Num) hg9) mn))) ?_
 rintro w_3 hS4
 refine sgq 19 (B := ((r_1 && r_2) && (!(x.Exp == 0)))) (v := .bool (!r_3)) rfl rfl (wt_gf (gd_of (t := 15) (by kernel_rfl) rfl)) (fun hg10 => (Y_not (p := r_3) rfl (gv_of (v := .bool r_3) hg10))) ?_
 refine sgq 20 (B := (r_1 && r_2)) (v := .bool ((x.Exp == 0) || (!r_3))) rfl rfl (uT_ 11) (fun hg11 => (Y_or (b := (x.Exp == 0)) (z := (!r_3)) rfl (gv_of (v := .bool (x.Exp == 0)) hg11) rfl (gv_and (B := (r_1 && r_2)) (C := (!(x.Exp == 0))) (v := .bool (!r_3)) hg11))) ?_
 refine sQ 21 (Y_and (b := (r_1 && r_2)) (z := ((x.Exp == 0) || (!r_3))) rfl rfl rfl rfl) <| sQ 2 (yg (.bool ((r_1 && r_2) && ((x.Exp == 0) || (!r_3))))) (rn (ct_ ?_))
 obtain rfl := sI hF
 exact ret1 Tryz.results95 (v1 := .bool ((r_1 && r_2) && ((x.Exp == 0) || (!r_3)))) (resAt_tmp rfl) ⟨rfl, (hS4.sN [])⟩

theorem c_impl_ringIf (out : TRing) (args : List TRing) (B : Option Addr) (c n : Nat) (w0 : World) (hn : args.length = n) (hS : ST w0 (bl [⟨B, 52, (args.flatMap enc_Ring), c * 4⟩]) w0 [⟨B, 52, (args.flatMap enc_Ring), c * 4⟩] []) {r_ : TRing} {r_1 : Bool} (hF : F_impl_ringIf out args = some (r_, r_1)) :
  CV Tryz.prog 130 #[gR_ out, .slice B n c] w0 (fun v w' => v = .tuple #[gR_ r_, .bool r_1] ∧ ST w0 (bl [⟨B, 52, (args.flatMap enc_Ring), c * 4⟩]) w' [] []) := by
 subst hn
 unfold F_impl_ringIf at hF
 refine cv_of_cw 23 Tryz.func130 rfl Tryz.ntmps130 rfl ?_
 refine cq (cr ?_)
 refine sS 2 (yB 52 (gR_ out) (kR_ out) 4 hS) ?_
 rintro _ w_ ⟨b, rfl, hS1⟩
 refine sS 4 (yN [vi 0, vi 0, vi 0, vi 0] 4 hS1 K16) ?_
 rintro _ w_1 ⟨b1, rfl, hS2⟩
 refine sQ 5 (yg (.bool false)) (rn (cq (cq (cr ?_))))
 refine sQ 8 (ym (.slice B args.length c)) <| sQ 9 (yb (aD b) 0 (kR_ out) K10 K4 (hS2.c 1)) ?_
 refine sS 10 (Ys_bslice (s := 4) (len := 1) (vs := [(0, gR_ out)]) (cs := kR_ out) (zs := [vi 0, vi 0, vi 0, vi 0]) (m := 4) hS2 K63 K4 K79 rfl (mpc rfl mpn) rfl rfl rfl (by kernel_rfl) (by kernel_rfl) rfl) ?_
 rintro _ w_2 ⟨b2, rfl, hS3⟩
 obtain ⟨hap, hF⟩ := chk_inv hF
 refine sS 11 (Ys_append (s := 4) (by' := 32) (i := 0) (nn := args.length) (c := c) (k := 1) (len := (args ++ [out]).length) (B := B) (xs := ([out].flatMap enc_Ring)) (cs' := ((args ++ [out]).flatMap enc_Ring)) hS3 K63 K4 k_by_52_32 K16 rfl (by decide) rfl rfl rfl rfl (fm_lenn (l := args) enc_Ring_len rfl) rfl (hS3.c 3) (fm_lenn (l := [out]) enc_Ring_len rfl) (fm_one' (enc := enc_Ring) enc_Ring_one [out]) (by have := hap; omega) (by have := hap; simp only [maxLen]; omega) (fm_app _ _) (app_len (l := args) (l' := [out]) rfl rfl)) ?_
 rintro _ w_3 ⟨B1, c1, rfl, hS4⟩
 refine sQ 12 (Y_len (B := B1) (m := (args ++ [out]).length) (c := c1) K63 rfl rfl) <| sQ 13 (ym (vi 0)) (rn ?_)
 obtain ⟨hN, hF⟩ := chk_inv hF
 obtain ⟨z, hz, hF1⟩ := bI hF
 refine cw_block ?_
 refine cw_loop (fun k f w => ∃ (i : Nat), FF f [(2, pt (aD b) 0), (4, pt (aD b1) 0), (11, .slice B1 ((args ++ [out]).length) c1), (12, vi ((args ++ [out]).length : Int)), (13, vi (i : Int))] ∧ ST w0 (bl [⟨B, 52, (args.flatMap enc_Ring), c * 4⟩]) w [⟨aD b, 52, kR_ out, 4⟩, ⟨aD b1, 52, [vi 0, vi 0, vi 0, vi 0], 4⟩, ⟨B1, 52, ((args ++ [out]).flatMap enc_Ring), c1 * 4⟩] [] ∧ i + k = (args ++ [out]).length ∧ forX (F_impl_ringIf_l1 args out) k i () = some z) ((args ++ [out]).length) ⟨0, (fc rfl (fc rfl (fc rfl (fc rfl (fc rfl fn_))))), (hS4.sel [1, 2, 0] rfl rfl), Nat.zero_add _, hz⟩ ?_
 rintro k_ f w ⟨i, hf, hS5, hik, hL⟩
 refine cq (cr ?_)
 refine sQ 14 (yL (i : Int) ((args ++ [out]).length : Int) rfl (hf.g 13 4) (hf.g 12 3)) (rn (cq ?_))
 refine cw_cond (b := (decide ((i : Int) < ((args ++ [out]).length : Int)))) rfl (fun hlt => ?_) (fun hlt => ?_)
 ·skip
  have hlt1 : i < (args ++ [out]).length := by have h := of_decide_eq_true hlt; omega
  obtain ⟨K9, rfl⟩ : ∃ k2, k_ = k2 + 1 := ⟨k_ - 1, by omega⟩
  obtain ⟨y, hb, hL1⟩ := forX_go hL
  unfold F_impl_ringIf_l1 at hb
  refine cw_skip (cq (cw_block (cq (cr ?_))))
  obtain ⟨x, hx, hb⟩ := bI hb
  refine sQ 15 (Y_index (B := B1) (m := (args ++ [out]).length) (c := c1) (k := .i64) (i := (i : Int)) K63 K4 rfl (hf.g 11 2) (hf.g 13 4) (gi_isSome enc_Ring_len rfl (hS5.c 2) hx) (getI_nn hx) (getI_ltI hx rfl)) <| sQ 16 (ya B1 ((i : Int).toNat * 4) ((args ++ [out]).flatMap enc_Ring) (kR_ x) K10 K4 (hS5.c 2) rfl rfl (enc_Ring_len x) (gi_seg enc_Ring_len hx)) ?_
  refine sS 7 (yN [vi 0, vi 0, vi 0, vi 0] 4 hS5 K16) ?_
  rintro _ w_4 ⟨b3, rfl, hS6⟩
  refine s0 (yT 3 4 (aD b3) 52 (gR_ x) (kR_ x) 0 hS6 K4) ?_
  rintro _ w_5 ⟨rfl, hS7⟩
  refine rn (cq (cr ?_))
  refine sQ 17 (yb (aD b3) 0 (kR_ x) K10 K4 (hS7.c 3)) ?_
  obtain ⟨r_2, hc, hb⟩ := bI hb
  refine sc 18 rfl rfl (yC [gR_ x] K101 (c_impl_IsValidRing x _  (hS7.inn0 [] rfl) hc)) ?_
  rintro _ w_6 ⟨rfl, hd⟩
  have hS8 := hS7.out00 hd
  refine sQ 19 (Y_not (p := r_2) rfl rfl) (rn ?_)
  refine cw_cond (b := (!r_2)) rfl (fun hb1 => ?_) (fun hb1 => ?_)
  ·skip
   have hF2 := ct hb hb1
   refine cq (cr ?_)
   refine sQ 20 (Y_buildS (zs := [vi 0, vi 0, vi 0, vi 0]) (vs := []) (cs := [vi 0, vi 0, vi 0, vi 0]) K32 K16 rfl mpn rfl) ?_
   refine s0 (yT 1 4 (aD b1) 52 (.agg #[vi 0, vi 0, vi 0, vi 0]) [vi 0, vi 0, vi 0, vi 0] 0 hS8 K4 rfl (hf.g 4 1)) ?_
   rintro _ w_7 ⟨rfl, hS9⟩
   refine sQ 5 (yg (.bool false)) (rn (ct_ ?_))
   obtain rfl := sI hF2
   obtain rfl := sI hL1
   obtain ⟨rfl, rfl⟩ := pr2 (sI hF1)
   exact ret2 Tryz.results130 (v1 := .agg #[vi 0, vi 0, vi 0, vi 0]) (resAt_cellA (B := aD b1) (i := 0) (cs := [vi 0, vi 0, vi 0, vi 0]) (vs := [vi 0, vi 0, vi 0, vi 0]) (hf.g 4 1) K10 K4 (hS9.c 1) rfl rfl) (v2 := .bool false) (resAt_tmp rfl) ⟨rfl, (hS9.sN [])⟩
  ·skip
   have hF3 := cf' hb hb1
   refine cw_skip (cr ?_)
   refine sQ 21 (yP (i : Int) 1 rfl (hf.g 13 4)) <| sQ 13 (ym (vi (i64.wrap ((i : Int) + 1)))) (rn ?_)
   obtain rfl := sI hF3
   exact ⟨K9, Nat.lt_succ_self _, i + 1, (fc (hf.g 2 0) (fc (hf.g 4 1) (fc (hf.g 11 2) (fc (hf.g 12 3) (fc (congrArg (Value.int .i64) (wr_succ hlt1 hN)) fn_))))), (hS8.sel [0, 1, 2] rfl rfl), (by omega), hL1⟩
 ·skip
  obtain rfl : k_ = 0 := by have h := of_decide_eq_false hlt; omega
  refine cw_exit rfl ?_
  obtain rfl := sI hL
  refine cq (cr ?_)
  refine sQ 22 (yb (aD b) 0 (kR_ out) K10 K4 (hS5.c 0) rfl (hf.g 2 0)) ?_
  refine s0 (yT 1 4 (aD b1) 52 (gR_ out) (kR_ out) 0 hS5 K4 rfl (hf.g 4 1)) ?_
  rintro _ w_8 ⟨rfl, hS10⟩
  refine sQ 5 (yg (.bool true)) (rn (ct_ ?_))
  obtain ⟨rfl, rfl⟩ := pr2 (sI hF1)
  exact ret2 Tryz.results130 (v1 := gR_ out) (resAt_cellA (B := aD b1) (i := 0) (cs := kR_ out) (vs := kR_ out) (hf.g 4 1) K10 K4 (hS10.c 1) rfl rfl) (v2 := .bool true) (resAt_tmp rfl) ⟨rfl, (hS10.sN [])⟩

theorem c_impl_MulRing (x : TRing) (y : TRing)  (w0 : World)  (hS : ST w0 [] w0 [] []) {r_ : TRing} {r_1 : Bool} (hF : F_impl_MulRing x y = some (r_, r_1)) :
  CV Tryz.prog 108 #[gR_ x, gR_ y] w0 (fun v w' => v = .tuple #[gR_ r_, .bool r_1] ∧ ST w0 [] w' [] []) := by
 unfold F_impl_MulRing at hF
 refine cv_of_cw 105 Tryz.func108 rfl Tryz.ntmps108 rfl ?_
 refine cq (cr ?_)
 refine sS 2 (yB 52 (gR_ x) (kR_ x) 4 hS) ?_
 rintro _ w_ ⟨b, rfl, hS1⟩
 refine sS 3 (yB 52 (gR_ y) (kR_ y) 4 hS1) ?_
 rintro _ w_1 ⟨b1, rfl, hS2⟩
 refine sS 4 (yN [vi 0, vi 0, vi 0, vi 0] 4 hS2 K16) ?_
 rintro _ w_2 ⟨b2, rfl, hS3⟩
 refine sQ 5 (yg (.bool false)) (rn (cq (cr ?_)))
 refine sQ 6 (yd (aD b) 0 0 K20 K2) <| sQ 7 (yl (aD b) 0 (kR_ x) (vi x.A) K1 (hS3.c 0)) <| sQ 8 (yd (aD b1) 0 0 K20 K2) <| sQ 9 (yl (aD b1) 0 (kR_ y) (vi y.A) K1 (hS3.c 1)) <| sQ 10 (yX x.A y.A) <| sQ 11 (yd (aD b) 0 0 K21 K2) ?_
 refine sQ 12 (yl (aD b) 1 (kR_ x) (vi x.B) K1 (hS3.c 0)) <| sQ 13 (yd (aD b1) 0 0 K23 K2) <| sQ 14 (yl (aD b1) 3 (kR_ y) (vi y.D) K1 (hS3.c 1)) <| sQ 15 (yX x.B y.D) <| sQ 16 (yM (i64.wrap (x.A * y.A)) (i64.wrap (x.B * y.D))) <| sQ 17 (yd (aD b) 0 0 K22 K2) ?_
 refine sQ 18 (yl (aD b) 2 (kR_ x) (vi x.C) K1 (hS3.c 0)) <| sQ 19 (yd (aD b1) 0 0 K22 K2) <| sQ 20 (yl (aD b1) 2 (kR_ y) (vi y.C) K1 (hS3.c 1)) <| sQ 21 (yX x.C y.C) <| sQ 22 (yM (i64.wrap ((i64.wrap (x.A * y.A)) - (i64.wrap (x.B * y.D)))) (i64.wrap (x.C * y.C))) <| sQ 23 (yd (aD b) 0 0 K23 K2) ?_
 refine sQ 24 (yl (aD b) 3 (kR_ x) (vi x.D) K1 (hS3.c 0)) <| sQ 25 (yd (aD b1) 0 0 K21 K2) <| sQ 26 (yl (aD b1) 1 (kR_ y) (vi y.B) K1 (hS3.c 1)) <| sQ 27 (yX x.D y.B) <| sQ 28 (yM (i64.wrap ((i64.wrap ((i64.wrap (x.A * y.A)) - (i64.wrap (x.B * y.D)))) - (i64.wrap (x.C * y.C)))) (i64.wrap (x.D * y.B))) <| sQ 29 (yd (aD b) 0 0 K20 K2) ?_
 refine sQ 30 (yl (aD b) 0 (kR_ x) (vi x.A) K1 (hS3.c 0)) <| sQ 31 (yd (aD b1) 0 0 K21 K2) <| sQ 32 (yl (aD b1) 1 (kR_ y) (vi y.B) K1 (hS3.c 1)) <| sQ 33 (yX x.A y.B) <| sQ 34 (yd (aD b) 0 0 K21 K2) <| sQ 35 (yl (aD b) 1 (kR_ x) (vi x.B) K1 (hS3.c 0)) ?_
 refine sQ 36 (yd (aD b1) 0 0 K20 K2) <| sQ 37 (yl (aD b1) 0 (kR_ y) (vi y.A) K1 (hS3.c 1)) <| sQ 38 (yX x.B y.A) <| sQ 39 (yP (i64.wrap (x.A * y.B)) (i64.wrap (x.B * y.A))) <| sQ 40 (yd (aD b) 0 0 K22 K2) <| sQ 41 (yl (aD b) 2 (kR_ x) (vi x.C) K1 (hS3.c 0)) ?_
 refine sQ 42 (yd (aD b1) 0 0 K23 K2) <| sQ 43 (yl (aD b1) 3 (kR_ y) (vi y.D) K1 (hS3.c 1)) <| sQ 44 (yX x.C y.D) <| sQ 45 (yM (i64.wrap ((i64.wrap (x.A * y.B)) + (i64.wrap (x.B * y.A)))) (i64.wrap (x.C * y.D))) <| sQ 46 (yd (aD b) 0 0 K23 K2) <| sQ 47 (yl (aD b) 3 (kR_ x) (vi x.D) K1 (hS3.c 0)) ?_
 refine sQ 48 (yd (aD b1) 0 0 K22 K2) <| sQ 49 (yl (aD b1) 2 (kR_ y) (vi y.C) K1 (hS3.c 1)) <| sQ 50 (yX x.D y.C) <| sQ 51 (yM (i64.wrap ((i64.wrap ((i64.wrap (x.A * y.B)) + (i64.wrap (x.B * y.A)))) - (i64.wrap (x.C * y.D)))) (i64.wrap (x.D * y.C))) <| sQ 52 (yd (aD b) 0 0 K20 K2) <| sQ 53 (yl (aD b) 0 (kR_ x) (vi x.A) K1 (hS3.c 0)) ?_
 refine sQ 54 (yd (aD b1) 0 0 K22 K2) <| sQ 55 (yl (aD b1) 2 (kR_ y) (vi y.C) K1 (hS3.c 1)) <| sQ 56 (yX x.A y.C) <| sQ 57 (yd (aD b) 0 0 K21 K2) <| sQ 58 (yl (aD b) 1 (kR_ x) (vi x.B) K1 (hS3.c 0)) <| sQ 59 (yd (aD b1) 0 0 K21 K2) ?_
 refine sQ 60 (yl (aD b1) 1 (kR_ y) (vi y.B) K1 (hS3.c 1)) <| sQ 61 (yX x.B y.B) <| sQ 62 (yP (i64.wrap (x.A * y.C)) (i64.wrap (x.B * y.B))) <| sQ 63 (yd (aD b) 0 0 K22 K2) <| sQ 64 (yl (aD b) 2 (kR_ x) (vi x.C) K1 (hS3.c 0)) <| sQ 65 (yd (aD b1) 0 0 K20 K2) ?_
 refine sQ 66 (yl (aD b1) 0 (kR_ y) (vi y.A) K1 (hS3.c 1)) <| sQ 67 (yX x.C y.A) <| sQ 68 (yP (i64.wrap ((i64.wrap (x.A * y.C)) + (i64.wrap (x.B * y.B)))) (i64.wrap (x.C * y.A))) <| sQ 69 (yd (aD b) 0 0 K23 K2) <| sQ 70 (yl (aD b) 3 (kR_ x) (vi x.D) K1 (hS3.c 0)) <| sQ 71 (yd (aD b1) 0 0 K23 K2) ?_
 refine sQ 72 (yl (aD b1) 3 (kR_ y) (vi y.D) K1 (hS3.c 1)) <| sQ 73 (yX x.D y.D) <| sQ 74 (yM (i64.wrap ((i64.wrap ((i64.wrap (x.A * y.C)) + (i64.wrap (x.B * y.B)))) + (i64.wrap (x.C * y.A)))) (i64.wrap (x.D * y.D))) <| sQ 75 (yd (aD b) 0 0 K20 K2) <| sQ 76 (yl (aD b) 0 (kR_ x) (vi x.A) K1 (hS3.c 0)) <| sQ 77 (yd (aD b1) 0 0 K23 K2) ?_
 refine sQ 78 (yl (aD b1) 3 (kR_ y) (vi y.D) K1 (hS3.c 1)) <| sQ 79 (yX x.A y.D) <| sQ 80 (yd (aD b) 0 0 K21 K2) <| sQ 81 (yl (aD b) 1 (kR_ x) (vi x.B) K1 (hS3.c 0)) <| sQ 82 (yd (aD b1) 0 0 K22 K2) <| sQ 83 (yl (aD b1) 2 (kR_ y) (vi y.C) K1 (hS3.c 1)) ?_
 refine sQ 84 (yX x.B y.C) <| sQ 85 (yP (i64.wrap (x.A * y.D)) (i64.wrap (x.B * y.C))) <| sQ 86 (yd (aD b) 0 0 K22 K2) <| sQ 87 (yl (aD b) 2 (kR_ x) (vi x.C) K1 (hS3.c 0)) <| sQ 88 (yd (aD b1) 0 0 K21 K2) <| sQ 89 (yl (aD b1) 1 (kR_ y) (vi y.B) K1 (hS3.c 1)) ?_
 refine sQ 90 (yX x.C y.B) <| sQ 91 (yP (i64.wrap ((i64.wrap (x.A * y.D)) + (i64.wrap (x.B * y.C)))) (i64.wrap (x.C * y.B))) <| sQ 92 (yd (aD b) 0 0 K23 K2) <| sQ 93 (yl (aD b) 3 (kR_ x) (vi x.D) K1 (hS3.c 0)) <| sQ 94 (yd (aD b1) 0 0 K20 K2) <| sQ 95 (yl (aD b1) 0 (kR_ y) (vi y.A) K1 (hS3.c 1)) ?_
 refine sQ 96 (yX x.D y.A) <| sQ 97 (yP (i64.wrap ((i64.wrap ((i64.wrap (x.A * y.D)) + (i64.wrap (x.B * y.C)))) + (i64.wrap (x.C * y.B)))) (i64.wrap (x.D * y.A))) <| sQ 98 (Y_buildS (zs := [vi 0, vi 0, vi 0, vi 0]) (vs := [(0, vi (i64.wrap ((i64.wrap ((i64.wrap ((i64.wrap (x.A * y.A)) - (i64.wrap (x.B * y.D)))) - (i64.wrap (x.C * y.C)))) - (i64.wrap (x.D * y.B))))), (1, vi (i64.wrap ((i64.wrap ((i64.wrap ((i64.wrap (x.A * y.B)) + (i64.wrap (x.B * y.A)))) - (i64.wrap (x.C * y.D)))) - (i64.wrap (x.D * y.C))))), (2, vi (i64.wrap ((i64.wrap ((i64.wrap ((i64.wrap (x.A * y.C)) + (i64.wrap (x.B * y.B)))) + (i64.wrap (x.C * y.A)))) - (i64.wrap (x.D * y.D))))), (3, vi (i64.wrap ((i64.wrap ((i64.wrap ((i64.wrap (x.A * y.D)) + (i64.wrap (x.B * y.C)))) + (i64.wrap (x.C * y.B)))) + (i64.wrap (x.D * y.A)))))]) (cs := [vi (i64.wrap ((i64.wrap ((i64.wrap ((i64.wrap (x.A * y.A)) - (i64.wrap (x.B * y.D)))) - (i64.wrap (x.C * y.C)))) - (i64.wrap (x.D * y.B)))), vi (i64.wrap ((i64.wrap ((i64.wrap ((i64.wrap (x.A * y.B)) + (i64.wrap (x.B * y.A)))) - (i64.wrap (x.C * y.D)))) - (i64.wrap (x.D * y.C)))), vi (i64.wrap ((i64.wrap ((i64.wrap ((i64.wrap (x.A * y.C)) + (i64.wrap (x.B * y.B)))) + (i64.wrap (x.C * y.A)))) - (i64.wrap (x.D * y.D)))), vi (i64.wrap ((i64.wrap ((i64.wrap ((i64.wrap (x.A * y.D)) + (i64.wrap (x.B * y.C)))) + (i64.wrap (x.C * y.B)))) + (i64.wrap (x.D * y.A))))]) K32 K16 rfl (mpc rfl (mpc rfl (mpc rfl (mpc rfl mpn)))) rfl) <| sQ 99 (yb (aD b) 0 (kR_ x) K10 K4 (hS3.c 0)) <| sQ 100 (yb (aD b1) 0 (kR_ y) K10 K4 (hS3.c 1)) ?_
 refine sS 101 (Ys_bslice (s := 4) (len := 2) (vs := [(0, gR_ x), (1, gR_ y)]) (cs := [vi x.A, vi x.B, vi x.C, vi x.D, vi y.A, vi y.B, vi y.C, vi y.D]) (zs := [vi 0, vi 0, vi 0, vi 0, vi 0, vi 0, vi 0, vi 0]) (m := 8) hS3 K63 K4 K79 rfl (mpc rfl (mpc rfl mpn)) rfl rfl rfl (by kernel_rfl) (by kernel_rfl) rfl) ?_
 rintro _ w_3 ⟨b3, rfl, hS4⟩
 obtain ⟨⟨r_2, r_3⟩, hc, hF⟩ := bI hF
 refine sc 102 rfl rfl (yC [.agg #[vi (i64.wrap ((i64.wrap ((i64.wrap ((i64.wrap (x.A * y.A)) - (i64.wrap (x.B * y.D)))) - (i64.wrap (x.C * y.C)))) - (i64.wrap (x.D * y.B)))), vi (i64.wrap ((i64.wrap ((i64.wrap ((i64.wrap (x.A * y.B)) + (i64.wrap (x.B * y.A)))) - (i64.wrap (x.C * y.D)))) - (i64.wrap (x.D * y.C)))), vi (i64.wrap ((i64.wrap ((i64.wrap ((i64.wrap (x.A * y.C)) + (i64.wrap (x.B * y.B)))) + (i64.wrap (x.C * y.A)))) - (i64.wrap (x.D * y.D)))), vi (i64.wrap ((i64.wrap ((i64.wrap ((i64.wrap (x.A * y.D)) + (i64.wrap (x.B * y.C)))) + (i64.wrap (x.C * y.B)))) + (i64.wrap (x.D * y.A))))], .slice (aD b3) 2 2] K90 (c_impl_ringIf (TRing.mk (i64.wrap ((i64.wrap ((i64.wrap ((i64.wrap (x.A * y.A)) - (i64.wrap (x.B * y.D)))) - (i64.wrap (x.C * y.C)))) - (i64.wrap (x.D * y.B)))) (i64.wrap ((i64.wrap ((i64.wrap ((i64.wrap (x.A * y.B)) + (i64.wrap (x.B * y.A)))) - (i64.wrap (x.C * y.D)))) - (i64.wrap (x.D * y.C)))) (i64.wrap ((i64.wrap ((i64.wrap ((i64.wrap (x.A * y.C)) + (i64.wrap (x.B * y.B)))) + (i64.wrap (x.C * y.A)))) - (i64.wrap (x.D * y.D)))) (i64.wrap ((i64.wrap ((i64.wrap ((i64.wrap (x.A * y.D)) + (i64.wrap (x.B * y.C)))) + (i64.wrap (x.C * y.B)))) + (i64.wrap (x.D * y.A))))) [x, y] (aD b3) 2 2 _ rfl (hS4.inn [false, false, false, true] rfl [] rfl) hc)) ?_
 rintro _ w_4 ⟨rfl, hd⟩
 have hS5 := hS4.out [false, false, false, true] rfl hd
 refine sQ 103 (ye (gR_ r_2)) <| sQ 104 (ye (.bool r_3)) ?_
 refine s0 (yT 2 4 (aD b2) 52 (gR_ r_2) (kR_ r_2) 0 hS5 K4) ?_
 rintro _ w_5 ⟨rfl, hS6⟩
 refine sQ 5 (yg (.bool r_3)) (rn (ct_ ?_))
 obtain ⟨rfl, rfl⟩ := pr2 (sI hF)
 exact ret2 Tryz.results108 (v1 := gR_ r_2) (resAt_cellA (B := aD b2) (i := 0) (cs := kR_ r_2) (vs := kR_ r_2) rfl K10 K4 (hS6.c 2) rfl rfl) (v2 := .bool r_3) (resAt_tmp rfl) ⟨rfl, (hS6.sN [])⟩
end Go.VK
