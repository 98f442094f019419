/- Walks: each Go function returns what its Lean function says. By program. -/
import Derived.Test.YtchihdcajdocgaaGreatDoorLCliffordWordsFa
import Derived.Test.YtchihdcajdocgaaGreatDoorLCliffordWordsW4
set_option linter.unusedVariables false
set_option maxRecDepth 100000
set_option maxHeartbeats 4000000
namespace Go.VK
open Go.RowKit
open Go.Proofs
open Go.IntKind
attribute [local irreducible] CW RW RA CV Y Yw Yc Ys RetOf
attribute [local irreducible] F_laws_big F_spec_BlochOf F_impl_CliffordIndex F_spec_DrawCliffordWord F_impl_CliffordWord F_spec_CliffordWord F_spec_OperatorOf F_spec_DrawParityOf F_impl_ParityOf F_spec_ParityOf F_laws_FnCliffordWords
theorem c_laws_FnCliffordWords (code : List Int) (more : List Int) (B : Option Addr) (c n : Nat) (B1 : Option Addr) (c1 n1 : Nat) (w0 : World) (hn : code.length = n) (hn1 : more.length = n1) (hS : ST w0 [] w0 [] [⟨B, (code.flatMap enc_u8)⟩, ⟨B1, (more.flatMap enc_u8)⟩, ⟨(aD 0), [vi 1, vi 0, vi 0, vi 0, vi 2]⟩]) {r_ : Bool} (hF : F_laws_FnCliffordWords code more = some r_) :
  CV Tryz.prog 4 #[.slice B n c, .slice B1 n1 c1] w0 (fun v w' => v = .bool r_ ∧ ST w0 [] w' [] []) := by
 subst hn
 subst hn1
 unfold F_laws_FnCliffordWords at hF
 refine cv_of_cw 116 Tryz.func4 rfl Tryz.ntmps4 rfl ?_
 refine cq (cr ?_)
 refine sQ 4 (yg (.bool false)) (rn (cq (cq (cr ?_))))
 refine sQ 24 (ym (.slice B code.length c)) <| sQ 25 (ym (.slice B1 more.length c1)) ?_
 obtain ⟨r_1, hc, hF⟩ := bI hF
 refine sc 26 rfl rfl (yC [.slice B code.length c, .slice B1 more.length c1] k_call_5 (c_laws_big code more B c code.length B1 c1 more.length _ rfl rfl (hS.inn0 [(true, 0), (true, 1)] rfl) hc)) ?_
 rintro _ w_ ⟨rfl, hd⟩
 have hS1 := hS.out00 hd
 refine rn ?_
 refine cw_cond (b := r_1) rfl (fun hb => ?_) (fun hb => ?_)
 ·skip
  have hF1 := ct hF hb
  refine cq (cr ?_)
  refine sQ 4 (yg (.bool true)) (rn (ct_ ?_))
  obtain rfl := sI hF1
  exact ret1 Tryz.results4 (v1 := .bool true) (resAt_tmp rfl) ⟨rfl, (hS1.sN [])⟩
 ·skip
  have hF2 := cf' hF hb
  refine cw_skip (cq (cr ?_))
  refine sQ 27 (ym (.slice B code.length c)) ?_
  obtain ⟨r_2, hc1, hF2⟩ := bI hF2
  refine sc 28 rfl rfl (yC [.slice B code.length c] k_call_14 (c_spec_DrawCliffordWord code B c code.length _ rfl (hS1.inn0 [(true, 0)] rfl) hc1)) ?_
  rintro _ w_1 ⟨rfl, hd1⟩
  have hS2 := hS1.out00 hd1
  refine sQ 5 (yg (vi r_2)) (rn (cq (cr ?_)))
  refine sQ 30 (ym (vi r_2)) ?_
  obtain ⟨⟨r_3, r_4⟩, hc2, hF2⟩ := bI hF2
  refine sc 31 rfl rfl (yC [vi r_2] k_call_15 (c_impl_CliffordWord r_2 _  (hS2.inn0 [(true, 2)] rfl) hc2)) ?_
  rintro _ w_2 ⟨rfl, hd2⟩
  have hS3 := hS2.out00 hd2
  refine sQ 29 (ym (.tuple #[.string (bstr r_3), .bool r_4])) <| sQ 32 (ye (.string (bstr r_3))) <| sQ 33 (ye (.bool r_4)) <| sQ 6 (yg (.string (bstr r_3))) <| sQ 7 (yg (.bool r_4)) (rn (cq (cr ?_)))
  refine sQ 35 (ym (vi r_2)) ?_
  obtain ⟨⟨r_5, r_6⟩, hc3, hF2⟩ := bI hF2
  refine sc 36 rfl rfl (yC [vi r_2] k_call_16 (c_spec_CliffordWord r_2 _  (hS3.inn0 [] rfl) hc3)) ?_
  rintro _ w_3 ⟨rfl, hd3⟩
  have hS4 := hS3.out00 hd3
  refine sQ 34 (ym (.tuple #[.string (bstr r_5), .bool r_6])) <| sQ 37 (ye (.string (bstr r_5))) <| sQ 38 (ye (.bool r_6)) <| sQ 8 (yg (.string (bstr r_5))) <| sQ 9 (yg (.bool r_6)) (rn (cq (cq (cr ?_))))
  refine sQ 39 (ym (.bool r_4)) <| sQ 40 (ym (.bool r_6)) <| sQ 41 (Y_bne (p := r_4) (q := r_6) k_und_4 rfl rfl rfl) <| sQ 42 (ym (.bool (!(r_4 == r_6)))) ?_
  refine sgq 43 (B := (!(!(r_4 == r_6)))) (v := .string (bstr r_3)) rfl rfl (uF_ 42) (fun hg => (ym (.string (bstr r_3)))) ?_
  refine sgq 44 (B := (!(!(r_4 == r_6)))) (v := .string (bstr r_5)) rfl rfl (uF_ 42) (fun hg1 => (ym (.string (bstr r_5)))) ?_
  refine sgq 45 (B := (!(!(r_4 == r_6)))) (v := .bool (!(r_3 == r_5))) rfl rfl (uF_ 42) (fun hg2 => (Y_sne (a := r_3) (b := r_5) rfl (gv_of (v := .string (bstr r_3)) hg2) (gv_of (v := .string (bstr r_5)) hg2))) ?_
  refine sQ 46 (Y_or (b := (!(r_4 == r_6))) (z := (!(r_3 == r_5))) rfl rfl rfl rfl) (rn ?_)
  refine cw_cond (b := ((!(r_4 == r_6)) || (!(r_3 == r_5)))) rfl (fun hb1 => ?_) (fun hb1 => ?_)
  ·skip
   have hF3 := ct hF2 hb1
   refine cq (cr ?_)
   refine sQ 4 (yg (.bool false)) (rn (ct_ ?_))
   obtain rfl := sI hF3
   exact ret1 Tryz.results4 (v1 := .bool false) (resAt_tmp rfl) ⟨rfl, (hS4.sN [])⟩
  ·skip
   have hF4 := cf' hF2 hb1
   refine cw_skip (cq ?_)
   obtain ⟨z, hz, hF5⟩ := bI hF4
   refine cw_mid (fun f w => .inl () = z ∧ FF f [(1, .slice B1 more.length c1)] ∧ ST w0 [] w [] [⟨B, (code.flatMap enc_u8)⟩, ⟨B1, (more.flatMap enc_u8)⟩, ⟨(aD 0), [vi 1, vi 0, vi 0, vi 0, vi 2]⟩]) ?_ ?_
   ·skip
    refine cq (cr ?_)
    refine sQ 47 (ym (.bool r_4)) (rn ?_)
    refine cw_cond (b := r_4) rfl (fun hb2 => ?_) (fun hb2 => ?_)
    ·skip
     have hF6 := ct hz hb2
     refine cq (cr ?_)
     refine sQ 48 (Y_buildS (zs := [vi 0, .slice none 0 0]) (vs := [(0, vi 1)]) (cs := [vi 1, .slice none 0 0]) K132 K87 rfl (mpc rfl mpn) rfl) ?_
     refine sS 10 (yN [vi 0, .slice none 0 0] 2 hS4 K87) ?_
     rintro _ w_4 ⟨b, rfl, hS6⟩
     refine s0 (yT 0 2 (aD b) 43 (.agg #[vi 1, .slice none 0 0]) [vi 1, .slice none 0 0] 0 hS6 K59) ?_
     rintro _ w_5 ⟨rfl, hS7⟩
     refine rn (cq (cq (cr ?_)))
     refine sQ 11 (yg (vi 0)) (rn ?_)
     obtain ⟨hN, hF6⟩ := chk_inv hF6
     obtain ⟨z1, hz1, hF7⟩ := bI hF6
     have hS9 := hS7.addNil 45
     refine cw_block ?_
     refine cw_loop (fun k f w => ∃ (i1 : Nat) (Gates : List TGate) (B2 : Option Addr) (c2 : Nat), FF f [(1, .slice B1 more.length c1), (5, vi r_2), (8, .string (bstr r_5)), (10, pt (aD b) 0), (11, vi (i1 : Int))] ∧ ST w0 [] w [⟨aD b, 43, [vi 1, .slice B2 Gates.length c2], 2⟩, ⟨B2, 45, (Gates.flatMap enc_Gate), c2 * 3⟩] [⟨B, (code.flatMap enc_u8)⟩, ⟨B1, (more.flatMap enc_u8)⟩, ⟨(aD 0), [vi 1, vi 0, vi 0, vi 0, vi 2]⟩] ∧ i1 + k = r_5.length ∧ forN (F_laws_FnCliffordWords_l1 r_5) k i1 Gates = some z1) r_5.length ⟨0, [], none, 0, (fc rfl (fc rfl (fc rfl (fc rfl (fc rfl fn_))))), (hS9.sel [0, 1] rfl rfl), Nat.zero_add _, hz1⟩ ?_
     rintro k_ f w ⟨i1, Gates, B2, c2, hf1, hS8, hik, hL⟩
     refine cq (cq (cr ?_))
     refine sQ 49 (ym (vi (i1 : Int)) rfl (hf1.g 11 4)) <| sQ 50 (ym (.string (bstr r_5)) rfl (hf1.g 8 2)) <| sQ 51 (Y_slen (a := r_5) K96 rfl rfl) <| sQ 52 (yL (i1 : Int) (r_5.length : Int)) (rn ?_)
     refine cw_cond (b := (decide ((i1 : Int) < (r_5.length : Int)))) rfl (fun hlt => ?_) (fun hlt => ?_)
     ·skip
      have hlt1 : i1 < r_5.length := by have h := of_decide_eq_true hlt; omega
      obtain ⟨K9, rfl⟩ : ∃ k2, k_ = k2 + 1 := ⟨k_ - 1, by omega⟩
      obtain ⟨y, hb3, hL1⟩ := forN_go hL
      unfold F_laws_FnCliffordWords_l1 at hb3
      refine cw_skip (cq (cw_block (cq (cr ?_))))
      refine sQ 12 (yg (vi 1)) (rn (cq ?_))
      obtain ⟨z2, hz2, hF8⟩ := bI hb3
      refine cw_mid (fun f w => ∃ (kind : Int), kind = z2 ∧ FF f [(1, .slice B1 more.length c1), (5, vi r_2), (8, .string (bstr r_5)), (10, pt (aD b) 0), (11, vi (i1 : Int)), (12, vi kind)] ∧ ST w0 [] w [⟨aD b, 43, [vi 1, .slice B2 Gates.length c2], 2⟩, ⟨B2, 45, (Gates.flatMap enc_Gate), c2 * 3⟩] [⟨B, (code.flatMap enc_u8)⟩, ⟨B1, (more.flatMap enc_u8)⟩, ⟨(aD 0), [vi 1, vi 0, vi 0, vi 0, vi 2]⟩]) ?_ ?_
      ·skip
       refine cq (cr ?_)
       refine sQ 55 (ym (.string (bstr r_5)) rfl (hf1.g 8 2)) <| sQ 56 (ym (vi (i1 : Int)) rfl (hf1.g 11 4)) ?_
       obtain ⟨x, hx, hz2⟩ := bI hz2
       refine sQ 57 (Y_sidx (a := r_5) (k := .i64) (i := (i1 : Int)) (b := x) K96 rfl rfl rfl hx) <| sQ 58 (Y_eq (k := .u8) (a := (x.toNat : Int)) (b := 83) rfl rfl rfl) (rn ?_)
       refine cw_cond (b := ((x.toNat : Int) == 83)) rfl (fun hb4 => ?_) (fun hb4 => ?_)
       ·skip
        have hF9 := ct hz2 hb4
        refine cr ?_
        refine sQ 12 (yg (vi 5)) (rn ?_)
        exact ⟨5, (sI hF9), (fc (hf1.g 1 0) (fc (hf1.g 5 1) (fc (hf1.g 8 2) (fc (hf1.g 10 3) (fc (hf1.g 11 4) (fc rfl fn_)))))), (hS8.sel [0, 1] rfl rfl)⟩
       ·skip
        have hF10 := cf' hz2 hb4
        refine cw_skip ?_
        exact ⟨1, (sI hF10), (fc (hf1.g 1 0) (fc (hf1.g 5 1) (fc (hf1.g 8 2) (fc (hf1.g 10 3) (fc (hf1.g 11 4) (fc rfl fn_)))))), (hS8.sel [0, 1] rfl rfl)⟩
      rintro f w ⟨kind, rfl, hf2, hS10⟩
      refine cr ?_
      refine sQ 59 (yd (aD b) 0 0 K58 K46 rfl (hf2.g 10 3)) <| sQ 60 (yl (aD b) 1 [vi 1, .slice B2 Gates.length c2] (.slice B2 Gates.length c2) K70 (hS10.c 0)) <| sQ 61 (ym (vi kind) rfl (hf2.g 12 5)) <| sQ 62 (Y_buildS (zs := [vi 0, vi 0, vi 0]) (vs := [(0, vi kind)]) (cs := [vi kind, vi 0, vi 0]) K81 K45 rfl (mpc rfl mpn) rfl) ?_
      refine sS 63 (Ys_bslice (s := 3) (len := 1) (vs := [(0, .agg #[vi kind, vi 0, vi 0])]) (cs := [vi kind, vi 0, vi 0]) (zs := [vi 0, vi 0, vi 0]) (m := 3) hS10 K47 K28 K106 rfl (mpc rfl mpn) rfl rfl rfl (by kernel_rfl) (by kernel_rfl) rfl) ?_
      rintro _ w_6 ⟨b1, rfl, hS11⟩
      obtain ⟨hap, hF8⟩ := chk_inv hF8
      refine sS 64 (Ys_append (s := 3) (by' := 24) (i := 1) (nn := Gates.length) (c := c2) (k := 1) (len := (Gates ++ [(TGate.mk kind 0 0)]).length) (B := B2) (xs := ([(TGate.mk kind 0 0)].flatMap enc_Gate)) (cs' := ((Gates ++ [(TGate.mk kind 0 0)]).flatMap enc_Gate)) hS11 K47 K28 K107 K45 rfl (by decide) rfl rfl rfl rfl (fm_lenn (l := Gates) enc_Gate_len rfl) rfl (hS11.c 2) (fm_lenn (l := [(TGate.mk kind 0 0)]) enc_Gate_len rfl) (fm_one' (enc := enc_Gate) enc_Gate_one [(TGate.mk kind 0 0)]) (by have := hap; omega) (by have := hap; simp only [maxLen]; omega) (fm_app _ _) (app_len (l := Gates) (l' := [(TGate.mk kind 0 0)]) rfl rfl)) ?_
      rintro _ w_7 ⟨B3, c3, rfl, hS12⟩
      refine sQ 65 (yd (aD b) 0 0 K58 K46 rfl (hf2.g 10 3)) ?_
      refine s0 (yS 0 1 (aD b) 43 (.slice B3 ((Gates ++ [(TGate.mk kind 0 0)]).length) c3) [.slice B3 ((Gates ++ [(TGate.mk kind 0 0)]).length) c3] 1 [vi 1, .slice B3 ((Gates ++ [(TGate.mk kind 0 0)]).length) c3] hS12 K46) ?_
      rintro _ w_8 ⟨rfl, hS13⟩
      refine rn (cr ?_)
      refine sQ 53 (ym (vi (i1 : Int)) rfl (hf2.g 11 4)) <| sQ 54 (yP (i1 : Int) 1) <| sQ 11 (yg (vi (i64.wrap ((i1 : Int) + 1)))) (rn ?_)
      obtain rfl := sI hF8
      exact ⟨K9, Nat.lt_succ_self _, i1 + 1, (Gates ++ [(TGate.mk kind 0 0)]), B3, c3, (fc (hf2.g 1 0) (fc (hf2.g 5 1) (fc (hf2.g 8 2) (fc (hf2.g 10 3) (fc (congrArg (Value.int .i64) (wr_succ hlt1 hN)) fn_))))), (hS13.sel [0, 1] rfl rfl), (by omega), hL1⟩
     ·skip
      obtain rfl : k_ = 0 := by have h := of_decide_eq_false hlt; omega
      refine cw_exit rfl ?_
      obtain rfl := sI hL
      refine cq (cr ?_)
      refine sQ 67 (yb (aD b) 0 [vi 1, .slice B2 Gates.length c2] K86 K59 (hS8.c 0) rfl (hf1.g 10 3)) ?_
      obtain ⟨⟨r_7, r_8⟩, hc4, hF7⟩ := bI hF7
      refine sc 68 rfl rfl (yC [.agg #[vi 1, .slice B2 Gates.length c2]] k_call_17 (c_spec_OperatorOf (TCircuit.mk 1 Gates) B2 c2 Gates.length _ rfl (hS8.inn0 [(false, 1)] rfl) hc4)) ?_
      rintro _ w_9 ⟨B4, c4, rfl, hd4⟩
      have hS14 := hS8.out0 hd4
      refine sQ 66 (ym (.tuple #[gM_ r_7 B4 c4, .bool r_8])) <| sQ 69 (ye (gM_ r_7 B4 c4)) <| sQ 70 (ye (.bool r_8)) ?_
      refine sS 13 (yN kN_ 3 hS14 K17) ?_
      rintro _ w_10 ⟨b2, rfl, hS15⟩
      refine s0 (yT 3 3 (aD b2) 26 (gM_ r_7 B4 c4) (kM_ r_7 B4 c4) 0 hS15 K6) ?_
      rintro _ w_11 ⟨rfl, hS16⟩
      refine sQ 14 (yg (.bool r_8)) (rn (cq (cr ?_)))
      refine sQ 72 (yb (aD b2) 0 (kM_ r_7 B4 c4) K13 K6 (hS16.c 3)) ?_
      obtain ⟨⟨r_9, r_10⟩, hc5, hF7⟩ := bI hF7
      refine sc 73 rfl rfl (yC [gM_ r_7 B4 c4] k_call_8 (c_spec_BlochOf r_7 B4 c4 r_7.Cells.length _ rfl (hS16.inn0 [(false, 2)] rfl) hc5)) ?_
      rintro _ w_12 ⟨B5, c5, rfl, hd5⟩
      have hS17 := hS16.out0 hd5
      refine sQ 71 (ym (.tuple #[gB_ r_9 B5 c5, .bool r_10])) <| sQ 74 (ye (gB_ r_9 B5 c5)) <| sQ 75 (ye (.bool r_10)) ?_
      refine sS 15 (yN [.slice none 0 0] 1 hS17 K26) ?_
      rintro _ w_13 ⟨b3, rfl, hS18⟩
      refine s0 (yT 5 1 (aD b3) 29 (gB_ r_9 B5 c5) (kB_ r_9 B5 c5) 0 hS18 K14) ?_
      rintro _ w_14 ⟨rfl, hS19⟩
      refine sQ 16 (yg (.bool r_10)) (rn (cq (cr ?_)))
      refine sQ 77 (yb (aD b3) 0 (kB_ r_9 B5 c5) K25 K14 (hS19.c 5)) ?_
      obtain ⟨⟨r_11, r_12⟩, hc6, hF7⟩ := bI hF7
      refine sc 78 rfl rfl (yC [gB_ r_9 B5 c5] k_call_13 (c_impl_CliffordIndex r_9 B5 c5 r_9.Cells.length _ rfl (hS19.inn0 [(false, 4), (true, 2)] rfl) hc6)) ?_
      rintro _ w_15 ⟨rfl, hd6⟩
      have hS20 := hS19.out00 hd6
      refine sQ 76 (ym (.tuple #[vi r_11, .bool r_12])) <| sQ 79 (ye (vi r_11)) <| sQ 80 (ye (.bool r_12)) <| sQ 17 (yg (vi r_11)) <| sQ 18 (yg (.bool r_12)) (rn (cq (cr ?_)))
      refine sQ 81 (ym (.bool r_8)) <| sQ 82 (Y_not (p := r_8) rfl rfl) <| sQ 83 (ym (.bool (!r_8))) ?_
      refine sgq 84 (B := (!(!r_8))) (v := .bool r_10) rfl rfl (uF_ 83) (fun hg3 => (ym (.bool r_10))) ?_
      refine sgq 85 (B := (!(!r_8))) (v := .bool (!r_10)) rfl rfl (uF_ 83) (fun hg4 => (Y_not (p := r_10) rfl (gv_of (v := .bool r_10) hg4))) ?_
      refine sQ 86 (Y_or (b := (!r_8)) (z := (!r_10)) rfl rfl rfl rfl) <| sQ 87 (ym (.bool ((!r_8) || (!r_10)))) ?_
      refine sgq 88 (B := (!((!r_8) || (!r_10)))) (v := .bool r_12) rfl rfl (uF_ 87) (fun hg5 => (ym (.bool r_12))) ?_
      refine sgq 89 (B := (!((!r_8) || (!r_10)))) (v := .bool (!r_12)) rfl rfl (uF_ 87) (fun hg6 => (Y_not (p := r_12) rfl (gv_of (v := .bool r_12) hg6))) ?_
      refine sQ 90 (Y_or (b := ((!r_8) || (!r_10))) (z := (!r_12)) rfl rfl rfl rfl) <| sQ 91 (ym (.bool (((!r_8) || (!r_10)) || (!r_12)))) ?_
      refine sgq 92 (B := (!(((!r_8) || (!r_10)) || (!r_12)))) (v := vi r_11) rfl rfl (uF_ 91) (fun hg7 => (ym (vi r_11))) ?_
      refine sgq 93 (B := (!(((!r_8) || (!r_10)) || (!r_12)))) (v := vi r_2) rfl rfl (uF_ 91) (fun hg8 => (ym (vi r_2) rfl (hf1.g 5 1))) ?_
      refine sgq 94 (B := (!(((!r_8) || (!r_10)) || (!r_12)))) (v := .bool (r_11 != r_2)) rfl rfl (uF_ 91) (fun hg9 => (Y_ne (k := .i64) (a := r_11) (b := r_2) rfl (gv_of (v := vi r_11) hg9) (gv_of (v := vi r_2) hg9))) ?_
      refine sQ 95 (Y_or (b := (((!r_8) || (!r_10)) || (!r_12))) (z := (r_11 != r_2)) rfl rfl rfl rfl) (rn ?_)
      refine cw_cond (b := ((((!r_8) || (!r_10)) || (!r_12)) || (r_11 != r_2))) rfl (fun hb5 => ?_) (fun hb5 => ?_)
      ·skip
       have hF11 := ct hF7 hb5
       refine cq (cr ?_)
       refine sQ 4 (yg (.bool false)) (rn (ct_ ?_))
       obtain rfl := sI hF11
       obtain rfl := sI hF5
       exact ret1 Tryz.results4 (v1 := .bool false) (resAt_tmp rfl) ⟨rfl, (hS20.sN [])⟩
      ·skip
       have hF12 := cf' hF7 hb5
       refine cw_skip ?_
       exact ⟨(sI hF12), (fc (hf1.g 1 0) fn_), (hS20.sel [] rfl rfl)⟩
    ·skip
     have hF13 := cf' hz hb2
     refine cw_skip ?_
     exact ⟨(sI hF13), (fc rfl fn_), (hS4.sel [] rfl rfl)⟩
   rintro f w ⟨rfl, hf, hS5⟩
   refine cq (cr ?_)
   refine sQ 96 (ym (.slice B1 more.length c1) rfl (hf.g 1 0)) ?_
   obtain ⟨r_13, hc7, hF5⟩ := bI hF5
   refine sc 97 rfl rfl (yC [.slice B1 more.length c1] k_call_18 (c_spec_DrawParityOf more B1 c1 more.length _ rfl (hS5.inn0 [(true, 1)] rfl) hc7)) ?_
   rintro _ w_16 ⟨B6, c6, rfl, hq, ho, hd7⟩
   have hS21 := ST.outR00 hS5 hd7 ho (sk 1 (fun _ h => by cases h))
   have ho1 : Org w0 [] [⟨B, (code.flatMap enc_u8)⟩, ⟨B1, (more.flatMap enc_u8)⟩, ⟨(aD 0), [vi 1, vi 0, vi 0, vi 0, vi 2]⟩] [⟨B6, (r_13.Cells.flatMap eN0)⟩] := org_trans0 hS5 ho (org_cons (org_mem (i := 1) rfl) org_nil)
   have hS22 : ST w0 [] _ [] [⟨B6, (r_13.Cells.flatMap eN0)⟩, ⟨B, (code.flatMap enc_u8)⟩, ⟨B1, (more.flatMap enc_u8)⟩, ⟨(aD 0), [vi 1, vi 0, vi 0, vi 0, vi 2]⟩] := hS21
   refine sS 19 (yN [.slice none 0 0] 1 hS22 K26) ?_
   rintro _ w_17 ⟨b4, rfl, hS23⟩
   refine s0 (yT 0 1 (aD b4) 29 (gB_ r_13 B6 c6) (kB_ r_13 B6 c6) 0 hS23 K14) ?_
   rintro _ w_18 ⟨rfl, hS24⟩
   refine rn (cq (cr ?_))
   refine sQ 99 (yb (aD b4) 0 (kB_ r_13 B6 c6) K25 K14 (hS24.c 0)) ?_
   obtain ⟨⟨r_14, r_15⟩, hc8, hF5⟩ := bI hF5
   refine sc 100 rfl rfl (yC [gB_ r_13 B6 c6] k_call_19 (c_impl_ParityOf r_13 B6 c6 r_13.Cells.length _ rfl (hS24.inn0 [(true, 0)] rfl) hc8)) ?_
   rintro _ w_19 ⟨rfl, hd8⟩
   have hS25 := hS24.out00 hd8
   refine sQ 98 (ym (.tuple #[.string (bstr r_14), .bool r_15])) <| sQ 101 (ye (.string (bstr r_14))) <| sQ 102 (ye (.bool r_15)) <| sQ 20 (yg (.string (bstr r_14))) <| sQ 21 (yg (.bool r_15)) (rn (cq (cr ?_)))
   refine sQ 104 (yb (aD b4) 0 (kB_ r_13 B6 c6) K25 K14 (hS25.c 0)) ?_
   obtain ⟨⟨r_16, r_17⟩, hc9, hF5⟩ := bI hF5
   refine sc 105 rfl rfl (yC [gB_ r_13 B6 c6] k_call_20 (c_spec_ParityOf r_13 B6 c6 r_13.Cells.length _ rfl (hS25.inn0 [(true, 0)] rfl) hc9)) ?_
   rintro _ w_20 ⟨rfl, hd9⟩
   have hS26 := hS25.out00 hd9
   refine sQ 103 (ym (.tuple #[.string (bstr r_16), .bool r_17])) <| sQ 106 (ye (.string (bstr r_16))) <| sQ 107 (ye (.bool r_17)) <| sQ 22 (yg (.string (bstr r_16))) <| sQ 23 (yg (.bool r_17)) (rn (cq (cr ?_)))
   refine sQ 108 (ym (.bool r_15)) <| sQ 109 (ym (.bool r_17)) <| sQ 110 (Y_beq (p := r_15) (q := r_17) k_und_4 rfl rfl rfl) <| sQ 111 (ym (.bool (r_15 == r_17))) ?_
   refine sgq 112 (B := (r_15 == r_17)) (v := .string (bstr r_14)) rfl rfl (uT_ 111) (fun hg10 => (ym (.string (bstr r_14)))) ?_
   refine sgq 113 (B := (r_15 == r_17)) (v := .string (bstr r_16)) rfl rfl (uT_ 111) (fun hg11 => (ym (.string (bstr r_16)))) ?_
   refine sgq 114 (B := (r_15 == r_17)) (v := .bool (r_14 == r_16)) rfl rfl (uT_ 111) (fun hg12 => (Y_seq (a := r_14) (b := r_16) rfl (gv_of (v := .string (bstr r_14)) hg12) (gv_of (v := .string (bstr r_16)) hg12))) ?_
   refine sQ 115 (Y_and (b := (r_15 == r_17)) (z := (r_14 == r_16)) rfl rfl rfl rfl) <| sQ 4 (yg (.bool ((r_15 == r_17) && (r_14 == r_16)))) (rn (ct_ ?_))
   obtain rfl := sI hF5
   exact ret1 Tryz.results4 (v1 := .bool ((r_15 == r_17) && (r_14 == r_16))) (resAt_tmp rfl) ⟨rfl, (hS26.sN [])⟩
end Go.VK
