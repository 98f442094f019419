/- Walks: each Go function returns what its Lean function says. By program. -/
import Derived.Test.YteafjgodcdlanaaLRoutesFa
import Derived.Test.YteafjgodcdlanaaLibU
import Derived.Test.YteafjgodcdlanaaLibX
import Derived.Test.YteafjgodcdlanaaLibW
set_option linter.unusedVariables false
set_option maxRecDepth 100000
set_option maxHeartbeats 4000000
namespace Go.VK
open Go.RowKit
open Go.Proofs
open Go.IntKind
attribute [local irreducible] CW RW RA CV Y Yw Yc Ys RetOf
attribute [local irreducible] F_spec_l1Cur_next F_spec_l1Cur_pick F_spec_l1Cur_one F_spec_l1In F_spec_l1Cur_gate F_spec_l1Cur_built F_spec_LineGraph F_spec_RingGraph F_spec_l19Edges F_spec_l1Cur_device F_spec_l1Has F_spec_l1Cur_among F_spec_l1Cur_circuit F_spec_l1Cur_anyCircuit F_spec_l1Cur_routed F_spec_DrawLeastSwaps F_impl_within F_slices_Index_int_int F_slices_Contains_int_int F_impl_CouplingGraph_isPlacement F_slices_Clone_int_int F_impl_newRouting F_impl_areEdges F_impl_IsValidCouplingGraph F_slices_IndexFunc_impl_Gate_impl_Gate F_slices_ContainsFunc_impl_Gate_impl_Gate F_impl_isTwo F_impl_IsValidGate F_impl_IsValidCircuit_1 F_impl_IsValidCircuit F_impl_canRoute F_impl_counted F_impl_CountTwo
section
variable {w0 w:World} {M:List Nat} {L:List Ob} {R:List Ro}
theorem ST.sg (hS:ST w0 M w L R) (k:Nat) (is:List Nat) (hn:decide is.Nodup=true:=by exact rfl) (hb:is.all (fun i=>((L.take k)[i]?).isSome)=true:=by exact rfl):ST w0 M w ((is.filterMap fun i=>(L.take k)[i]?)++L.drop k) R:=ST.selG (pre:=L.take k) (G:=L.drop k) (by rw [List.take_append_drop]; exact hS) is hn hb
end
theorem c_spec_l1Cur_next (c:Tl1Cur) (B:Option Addr) (B1:Option Addr) (c1 n:Nat) (w0:World) (hn:c.code.length=n) (hS:ST w0 (bl [⟨B,51,[.slice B1 n c1,vi c.at_,.int .u64 c.seed],3⟩]) w0 [⟨B,51,[.slice B1 n c1,vi c.at_,.int .u64 c.seed],3⟩] [⟨B1,(c.code.flatMap enc_u8)⟩]) {r_:Int} {m:Tl1Cur} (hF:F_spec_l1Cur_next c=some (r_,m)) :
  CV Try.prog 41 #[pt B 0] w0 (fun v w'=>v=vi r_∧ST w0 (bl [⟨B,51,[.slice B1 n c1,vi c.at_,.int .u64 c.seed],3⟩]) w' [⟨B,51,[.slice B1 n c1,vi m.at_,.int .u64 m.seed],3⟩] []):=by
 subst hn
 unfold F_spec_l1Cur_next at hF
 refine cv_of_cw 62 Try.func41 rfl Try.ntmps41 rfl ?_
 refine cq (cr ?_)
 refine sQ 2 (yg (vi 0)) (rn (cq (cr ?_)))
 refine sQ 3 (yg (vi 0)) (rn (cq ?_))
 obtain ⟨z,hz,hF1⟩:=bI hF
 let V2:List Value:=[.slice B1 c.code.length c1,vi c.at_,.int .u64 c.seed]
 let O0:Ob:=⟨B,51,V2,3⟩
 refine cw_mid (fun f w=>∃ (b:Int),b=z∧FF f [(0,pt B 0),(3,vi b)]∧ST w0 (bl [O0]) w [O0] [⟨B1,(c.code.flatMap enc_u8)⟩]) ?_ ?_
 ·skip
  refine cq ?_
  refine ra_start (hS.se [0]).fn (by kernel_rfl) ?_
  have hS2:=hS.drew
  refine rq 0 4 rfl (hS2.se [0]) (fun w' hw'=>(ym (pt B 0))) ?_
  refine rq 1 5 (v:=pt B 0) rfl (hS2.se [0]) (fun w' hw'=>(Y_nilCheck (B:=B) (i:=0) rfl rfl)) ?_
  refine rq 2 6 (v:=pt B 1) rfl (hS2.se [0]) (fun w' hw'=>(yd B 0 0 K107 K0)) ?_
  refine rq 3 7 rfl (hS2.se [0]) (fun w' hw'=>(yl B 1 V2 (vi c.at_) K1 (ST.cf hw' (i:=0) rfl))) ?_
  refine rq 4 8 rfl (hS2.se [0]) (fun w' hw'=>(ym (pt B 0))) ?_
  refine rq 5 9 (v:=pt B 0) rfl (hS2.se [0]) (fun w' hw'=>(Y_nilCheck (B:=B) (i:=0) rfl rfl)) ?_
  refine rq 6 10 (v:=pt B 0) rfl (hS2.se [0]) (fun w' hw'=>(yd B 0 0 K125 K126)) ?_
  refine rq 7 11 rfl (hS2.se [0]) (fun w' hw'=>(yl B 0 V2 (.slice B1 c.code.length c1) K127 (ST.cf hw' (i:=0) rfl))) ?_
  refine rq 8 12 (v:=vi (c.code.length:Int)) rfl (hS2.se [0]) (fun w' hw'=>(Y_len (B:=B1) (m:=c.code.length) (c:=c1) K108 rfl rfl)) ?_
  refine rq 9 13 rfl (hS2.se [0]) (fun w' hw'=>(yL c.at_ (c.code.length:Int))) ?_
  refine ra_done (by kernel_rfl) ?_
  refine cw_cond (b:=(decide (c.at_<(c.code.length:Int)))) rfl (fun hb=>?_) (fun hb=>?_)
  ·skip
   have hF2:=ct hz hb
   obtain ⟨x,hx,hF2⟩:=bI hF2
   refine ra_start (hS2.se [0]).fn (by kernel_rfl) ?_
   have hS3:=hS2.drew
   refine rq 0 14 rfl (hS3.se [0]) (fun w' hw'=>(ym (pt B 0))) ?_
   refine rq 1 15 (v:=pt B 0) rfl (hS3.se [0]) (fun w' hw'=>(Y_nilCheck (B:=B) (i:=0) rfl rfl)) ?_
   refine rq 2 16 (v:=pt B 0) rfl (hS3.se [0]) (fun w' hw'=>(yd B 0 0 K125 K126)) ?_
   refine rq 3 17 rfl (hS3.se [0]) (fun w' hw'=>(yl B 0 V2 (.slice B1 c.code.length c1) K127 (ST.cf hw' (i:=0) rfl))) ?_
   refine rq 4 18 rfl (hS3.se [0]) (fun w' hw'=>(ym (pt B 0))) ?_
   refine rq 5 19 (v:=pt B 0) rfl (hS3.se [0]) (fun w' hw'=>(Y_nilCheck (B:=B) (i:=0) rfl rfl)) ?_
   refine rq 6 20 (v:=pt B 1) rfl (hS3.se [0]) (fun w' hw'=>(yd B 0 0 K107 K0)) ?_
   refine rq 7 21 rfl (hS3.se [0]) (fun w' hw'=>(yl B 1 V2 (vi c.at_) K1 (ST.cf hw' (i:=0) rfl))) ?_
   refine rq 8 22 (v:=pt B1 (c.at_.toNat*1)) rfl (hS3.se [0]) (fun w' hw'=>(Y_index (B:=B1) (m:=c.code.length) (c:=c1) (k:=.i64) (i:=c.at_) K108 k_sz_5_1 rfl rfl rfl (gi_isSome enc_u8_len rfl (ST.rf hw' (i:=0) rfl) hx) (getI_nn hx) (getI_ltI hx rfl))) ?_
   refine rq 9 23 rfl (hS3.se [0]) (fun w' hw'=>(yl B1 (c.at_.toNat*1) (c.code.flatMap enc_u8) (.int .u8 x) k_sc_5 (ST.rf hw' (i:=0) rfl) rfl rfl (gi_at0 enc_u8_len hx rfl))) ?_
   refine rq 10 24 (v:=vi (i64.wrap x)) rfl (hS3.se [0]) (fun w' hw'=>(Y_conv (k:=.u8) (a:=x) (T:=5) (T':=3) k_us_5 K43 rfl rfl)) ?_
   refine rq 11 3 rfl (hS3.se [0]) (fun w' hw'=>(yg (vi (i64.wrap x)))) ?_
   refine ra_done (by kernel_rfl) ?_
   exact ⟨(i64.wrap x),(sI hF2),(fc rfl (fc rfl fn_)),(hS3.sel [0] rfl rfl)⟩
  ·skip
   have hF3:=cf' hz hb
   refine cw_skip ?_
   exact ⟨0,(sI hF3),(fc rfl (fc rfl fn_)),(hS2.sel [0] rfl rfl)⟩
 rintro f w ⟨b,rfl,hf,hS1⟩
 refine cq (cr ?_)
 refine sQ 25 (ym (pt B 0) rfl (hf.g 0 0))<|sQ 26 (Y_nilCheck (B:=B) (i:=0) rfl rfl)<|sQ 27 (yd B 0 0 K107 K0)<|sQ 28 (yl B 1 V2 (vi c.at_) K1 (hS1.c 0))<|sQ 29 (yP c.at_ 1)<|sQ 30 (Y_nilCheck (B:=B) (i:=0) rfl rfl) ?_
 refine sQ 31 (yd B 0 0 K107 K0) ?_
 let V3:List Value:=[.slice B1 c.code.length c1,vi (i64.wrap (c.at_+1)),.int .u64 c.seed]
 refine s0 (yS 0 1 B 51 (vi (i64.wrap (c.at_+1))) [vi (i64.wrap (c.at_+1))] 1 V3 hS1 K0) ?_
 rintro _ w_ ⟨rfl,hS4⟩
 refine rn (cq (cr ?_))
 refine sQ 32 (ym (pt B 0) rfl (hf.g 0 0))<|sQ 33 (ym (pt B 0) rfl (hf.g 0 0))<|sQ 34 (Y_nilCheck (B:=B) (i:=0) rfl rfl)<|sQ 35 (yd B 0 0 K128 K90)<|sQ 36 (yl B 2 V3 (.int .u64 c.seed) K109 (hS4.c 0))<|sQ 37 (Y_mul (k:=.u64) (a:=c.seed) (b:=6364136223846793005) rfl rfl rfl) ?_
 refine sQ 38 (ym (vi b) rfl (hf.g 3 1))<|sQ 39 (Y_conv (k:=.i64) (a:=b) (T:=3) (T':=49) K110 K129 rfl rfl)<|sQ 40 (Y_add (k:=.u64) (a:=(IntKind.u64.wrap (c.seed*6364136223846793005))) (b:=(IntKind.u64.wrap b)) rfl rfl rfl)<|sQ 41 (Y_add (k:=.u64) (a:=(IntKind.u64.wrap ((IntKind.u64.wrap (c.seed*6364136223846793005))+(IntKind.u64.wrap b)))) (b:=1442695040888963407) rfl rfl rfl)<|sQ 42 (Y_nilCheck (B:=B) (i:=0) rfl rfl)<|sQ 43 (yd B 0 0 K128 K90) ?_
 let V1:List Value:=[.slice B1 c.code.length c1,vi (i64.wrap (c.at_+1)),.int .u64 (IntKind.u64.wrap ((IntKind.u64.wrap ((IntKind.u64.wrap (c.seed*6364136223846793005))+(IntKind.u64.wrap b)))+1442695040888963407))]
 refine s0 (yS 0 1 B 51 (.int .u64 (IntKind.u64.wrap ((IntKind.u64.wrap ((IntKind.u64.wrap (c.seed*6364136223846793005))+(IntKind.u64.wrap b)))+1442695040888963407))) [.int .u64 (IntKind.u64.wrap ((IntKind.u64.wrap ((IntKind.u64.wrap (c.seed*6364136223846793005))+(IntKind.u64.wrap b)))+1442695040888963407))] 2 V1 hS4 K90) ?_
 rintro _ w_1 ⟨rfl,hS5⟩
 refine rn (cq (cq ?_))
 refine ra_start (hS5.se [0]).fn (by kernel_rfl) ?_
 have hS6:=hS5.drew
 refine rq 0 44 rfl (hS6.se [0]) (fun w' hw'=>(ym (pt B 0) rfl (hf.g 0 0))) ?_
 refine rq 1 45 (v:=pt B 0) rfl (hS6.se [0]) (fun w' hw'=>(Y_nilCheck (B:=B) (i:=0) rfl rfl)) ?_
 refine rq 2 46 (v:=pt B 1) rfl (hS6.se [0]) (fun w' hw'=>(yd B 0 0 K107 K0)) ?_
 refine rq 3 47 rfl (hS6.se [0]) (fun w' hw'=>(yl B 1 V1 (vi (i64.wrap (c.at_+1))) K1 (ST.cf hw' (i:=0) rfl))) ?_
 refine rq 4 48 rfl (hS6.se [0]) (fun w' hw'=>(ym (pt B 0) rfl (hf.g 0 0))) ?_
 refine rq 5 49 (v:=pt B 0) rfl (hS6.se [0]) (fun w' hw'=>(Y_nilCheck (B:=B) (i:=0) rfl rfl)) ?_
 refine rq 6 50 (v:=pt B 0) rfl (hS6.se [0]) (fun w' hw'=>(yd B 0 0 K125 K126)) ?_
 refine rq 7 51 rfl (hS6.se [0]) (fun w' hw'=>(yl B 0 V1 (.slice B1 c.code.length c1) K127 (ST.cf hw' (i:=0) rfl))) ?_
 refine rq 8 52 (v:=vi (c.code.length:Int)) rfl (hS6.se [0]) (fun w' hw'=>(Y_len (B:=B1) (m:=c.code.length) (c:=c1) K108 rfl rfl)) ?_
 refine rq 9 53 rfl (hS6.se [0]) (fun w' hw'=>(Y_le (k:=.i64) (a:=(i64.wrap (c.at_+1))) (b:=(c.code.length:Int)) rfl rfl rfl)) ?_
 refine ra_done (by kernel_rfl) ?_
 refine cw_cond (b:=(decide ((i64.wrap (c.at_+1))≤(c.code.length:Int)))) rfl (fun hb1=>?_) (fun hb1=>?_)
 ·skip
  have hF4:=ct hF1 hb1
  refine cq (cr ?_)
  refine sQ 54 (ym (vi b) rfl (hf.g 3 1))<|sQ 2 (yg (vi b)) (rn (ct_ ?_))
  obtain ⟨rfl,rfl⟩:=pr2 (sI hF4)
  exact ret1 Try.results41 (v1:=vi b) (resAt_tmp rfl) ⟨rfl,(hS6.sN [0])⟩
 ·skip
  have hF5:=cf' hF1 hb1
  refine cw_skip (cq (cr ?_))
  refine sQ 55 (ym (pt B 0) rfl (hf.g 0 0))<|sQ 56 (Y_nilCheck (B:=B) (i:=0) rfl rfl)<|sQ 57 (yd B 0 0 K128 K90)<|sQ 58 (yl B 2 V1 (.int .u64 (IntKind.u64.wrap ((IntKind.u64.wrap ((IntKind.u64.wrap (c.seed*6364136223846793005))+(IntKind.u64.wrap b)))+1442695040888963407))) K109 (hS6.c 0))<|sQ 59 (Y_shr (k:=.u64) (a:=(IntKind.u64.wrap ((IntKind.u64.wrap ((IntKind.u64.wrap (c.seed*6364136223846793005))+(IntKind.u64.wrap b)))+1442695040888963407))) (k':=.u64) (b:=40) rfl rfl rfl (by decide))<|sQ 60 (Y_band (k:=.u64) (a:=(shrK .u64 (IntKind.u64.wrap ((IntKind.u64.wrap ((IntKind.u64.wrap (c.seed*6364136223846793005))+(IntKind.u64.wrap b)))+1442695040888963407)) 40)) (b:=255) rfl rfl rfl) ?_
  refine sQ 61 (Y_conv (k:=.u64) (a:=(bits .and .u64 (shrK .u64 (IntKind.u64.wrap ((IntKind.u64.wrap ((IntKind.u64.wrap (c.seed*6364136223846793005))+(IntKind.u64.wrap b)))+1442695040888963407)) 40) 255)) (T:=49) (T':=3) k_us_49 K43 rfl rfl)<|sQ 2 (yg (vi (i64.wrap (bits .and .u64 (shrK .u64 (IntKind.u64.wrap ((IntKind.u64.wrap ((IntKind.u64.wrap (c.seed*6364136223846793005))+(IntKind.u64.wrap b)))+1442695040888963407)) 40) 255)))) (rn (ct_ ?_))
  obtain ⟨rfl,rfl⟩:=pr2 (sI hF5)
  exact ret1 Try.results41 (v1:=vi (i64.wrap (bits .and .u64 (shrK .u64 (IntKind.u64.wrap ((IntKind.u64.wrap ((IntKind.u64.wrap (c.seed*6364136223846793005))+(IntKind.u64.wrap b)))+1442695040888963407)) 40) 255))) (resAt_tmp rfl) ⟨rfl,(hS6.sN [0])⟩

theorem c_spec_l1Cur_pick (c:Tl1Cur) (n1:Int) (B:Option Addr) (B1:Option Addr) (c1 n:Nat) (w0:World) (hn:c.code.length=n) (hS:ST w0 (bl [⟨B,51,[.slice B1 n c1,vi c.at_,.int .u64 c.seed],3⟩]) w0 [⟨B,51,[.slice B1 n c1,vi c.at_,.int .u64 c.seed],3⟩] [⟨B1,(c.code.flatMap enc_u8)⟩]) {r_:Int} {m:Tl1Cur} (hF:F_spec_l1Cur_pick c n1=some (r_,m)) :
  CV Try.prog 18 #[pt B 0,vi n1] w0 (fun v w'=>v=vi r_∧ST w0 (bl [⟨B,51,[.slice B1 n c1,vi c.at_,.int .u64 c.seed],3⟩]) w' [⟨B,51,[.slice B1 n c1,vi m.at_,.int .u64 m.seed],3⟩] []):=by
 subst hn
 unfold F_spec_l1Cur_pick at hF
 refine cv_of_cw 20 Try.func18 rfl Try.ntmps18 rfl ?_
 refine cq (cr ?_)
 refine sQ 4 (yg (vi 0)) (rn (cq (cq (cr ?_))))
 refine sQ 6 (ym (vi n1))<|sQ 7 (Y_le (k:=.i64) (a:=n1) (b:=1) rfl rfl rfl) (rn ?_)
 refine cw_cond (b:=(decide (n1≤1))) rfl (fun hb=>?_) (fun hb=>?_)
 ·skip
  have hF1:=ct hF hb
  refine cq (cr ?_)
  refine sQ 4 (yg (vi 0)) (rn (ct_ ?_))
  obtain ⟨rfl,rfl⟩:=pr2 (sI hF1)
  exact ret1 Try.results18 (v1:=vi 0) (resAt_tmp rfl) ⟨rfl,(hS.sN [0])⟩
 ·skip
  have hF2:=cf' hF hb
  refine cw_skip (cq (cr ?_))
  refine sQ 8 (ym (pt B 0)) ?_
  obtain ⟨⟨r_1,m1⟩,hc,hF2⟩:=bI hF2
  refine sc 9 rfl rfl (yC [pt B 0] k_call_41 (c_spec_l1Cur_next c B B1 c1 c.code.length _ rfl (hS.inn [true] rfl [(true,0)] rfl) hc)) ?_
  rintro _ w_ ⟨rfl,hd⟩
  have hS1:=hS.out [true] rfl hd
  refine sQ 5 (yg (vi r_1)) (rn (cq ?_))
  obtain ⟨z,hz,hF3⟩:=bI hF2
  refine cw_mid (fun f w=>∃ (at_:Int) (seed:Int) (x:Int),(at_,seed,x)=z∧FF f [(1,vi n1),(5,vi x)]∧ST w0 (bl [⟨B,51,[.slice B1 c.code.length c1,vi c.at_,.int .u64 c.seed],3⟩]) w [⟨B,51,[.slice B1 c.code.length c1,vi at_,.int .u64 seed],3⟩] [⟨B1,(c.code.flatMap enc_u8)⟩]) ?_ ?_
  ·skip
   refine cq (cr ?_)
   refine sQ 10 (ym (vi n1))<|sQ 11 (Y_gt (k:=.i64) (a:=n1) (b:=200) rfl rfl rfl) (rn ?_)
   refine cw_cond (b:=(decide (200<n1))) rfl (fun hb1=>?_) (fun hb1=>?_)
   ·skip
    have hF4:=ct hz hb1
    refine cr ?_
    refine sQ 12 (ym (vi r_1))<|sQ 13 (yX r_1 256)<|sQ 14 (ym (pt B 0)) ?_
    obtain ⟨⟨r_2,m2⟩,hc1,hF4⟩:=bI hF4
    refine sc 15 rfl rfl (yC [pt B 0] k_call_41 (c_spec_l1Cur_next (Tl1Cur.mk c.code m1.at_ m1.seed) B B1 c1 c.code.length _ rfl (hS1.inn [true] rfl [(true,0)] rfl) hc1)) ?_
    rintro _ w_1 ⟨rfl,hd1⟩
    have hS3:=hS1.out [true] rfl hd1
    refine sQ 16 (yP (i64.wrap (r_1*256)) r_2)<|sQ 5 (yg (vi (i64.wrap ((i64.wrap (r_1*256))+r_2)))) (rn ?_)
    exact ⟨m2.at_,m2.seed,(i64.wrap ((i64.wrap (r_1*256))+r_2)),(sI hF4),(fc rfl (fc rfl fn_)),(hS3.sel [0] rfl rfl)⟩
   ·skip
    have hF5:=cf' hz hb1
    refine cw_skip ?_
    exact ⟨m1.at_,m1.seed,r_1,(sI hF5),(fc rfl (fc rfl fn_)),(hS1.sel [0] rfl rfl)⟩
  rintro f w ⟨at_,seed,x,rfl,hf,hS2⟩
  refine cq (cr ?_)
  refine sQ 17 (ym (vi x) rfl (hf.g 5 1))<|sQ 18 (ym (vi n1) rfl (hf.g 1 0)) ?_
  obtain ⟨hne,hF3⟩:=chk_inv hF3
  refine sQ 19 (Y_rem (k:=.i64) (a:=x) (b:=n1) rfl rfl rfl hne)<|sQ 4 (yg (vi (Int.tmod x n1))) (rn (ct_ ?_))
  obtain ⟨rfl,rfl⟩:=pr2 (sI hF3)
  exact ret1 Try.results18 (v1:=vi (Int.tmod x n1)) (resAt_tmp rfl) ⟨rfl,(hS2.sN [0])⟩

theorem c_spec_l1Cur_one (c:Tl1Cur) (n1:Int) (B:Option Addr) (B1:Option Addr) (c1 n:Nat) (w0:World) (hn:c.code.length=n) (hS:ST w0 (bl [⟨B,51,[.slice B1 n c1,vi c.at_,.int .u64 c.seed],3⟩]) w0 [⟨B,51,[.slice B1 n c1,vi c.at_,.int .u64 c.seed],3⟩] [⟨B1,(c.code.flatMap enc_u8)⟩]) {r_:Bool} {m:Tl1Cur} (hF:F_spec_l1Cur_one c n1=some (r_,m)) :
  CV Try.prog 16 #[pt B 0,vi n1] w0 (fun v w'=>v=.bool r_∧ST w0 (bl [⟨B,51,[.slice B1 n c1,vi c.at_,.int .u64 c.seed],3⟩]) w' [⟨B,51,[.slice B1 n c1,vi m.at_,.int .u64 m.seed],3⟩] []):=by
 subst hn
 unfold F_spec_l1Cur_one at hF
 refine cv_of_cw 9 Try.func16 rfl Try.ntmps16 rfl ?_
 refine cq (cr ?_)
 refine sQ 4 (yg (.bool false)) (rn (cq (cr ?_)))
 refine sQ 5 (ym (pt B 0))<|sQ 6 (ym (vi n1)) ?_
 obtain ⟨⟨r_1,m1⟩,hc,hF⟩:=bI hF
 refine sc 7 rfl rfl (yC [pt B 0,vi n1] K17 (c_spec_l1Cur_pick c n1 B B1 c1 c.code.length _ rfl (hS.inn [true] rfl [(true,0)] rfl) hc)) ?_
 rintro _ w_ ⟨rfl,hd⟩
 have hS1:=hS.out [true] rfl hd
 refine sQ 8 (yE r_1 0)<|sQ 4 (yg (.bool (r_1==0))) (rn (ct_ ?_))
 obtain ⟨rfl,rfl⟩:=pr2 (sI hF)
 exact ret1 Try.results16 (v1:=.bool (r_1==0)) (resAt_tmp rfl) ⟨rfl,(hS1.sN [0])⟩

theorem c_spec_l1In (n:Int) (lo:Int) (hi:Int)  (w0:World)  (hS:ST w0 [] w0 [] []) {r_:Bool} (hF:F_spec_l1In n lo hi=some r_) :
  CV Try.prog 70 #[vi n,vi lo,vi hi] w0 (fun v w'=>v=.bool r_∧ST w0 [] w' [] []):=by
 unfold F_spec_l1In at hF
 refine cv_of_cw 15 Try.func70 rfl Try.ntmps70 rfl ?_
 refine cq (cr ?_)
 refine sQ 6 (yg (.bool false)) (rn (cq (cr ?_)))
 refine sQ 7 (ym (vi n))<|sQ 8 (ym (vi lo))<|sQ 9 (Y_ge (k:=.i64) (a:=n) (b:=lo) rfl rfl rfl)<|sQ 10 (ym (.bool (decide (lo≤n)))) ?_
 refine sgq 11 (B:=(decide (lo≤n))) rfl rfl (uT_ 10) (fun hg=>(ym (vi n))) ?_
 refine sgq 12 (B:=(decide (lo≤n))) rfl rfl (uT_ 10) (fun hg1=>(ym (vi hi))) ?_
 refine sgq 13 (B:=(decide (lo≤n))) rfl rfl (uT_ 10) (fun hg2=>(Y_le (k:=.i64) (a:=n) (b:=hi) rfl (gv_of (v:=vi n) hg2) (gv_of (v:=vi hi) hg2))) ?_
 refine sQ 14 (Y_and (b:=(decide (lo≤n))) (z:=(decide (n≤hi))) rfl rfl rfl rfl)<|sQ 6 (yg (.bool ((decide (lo≤n))&&(decide (n≤hi))))) (rn (ct_ ?_))
 obtain rfl:=sI hF
 exact ret1 Try.results70 (v1:=.bool ((decide (lo≤n))&&(decide (n≤hi)))) (resAt_tmp rfl) ⟨rfl,(hS.sN [])⟩

theorem c_spec_l1Cur_gate (c:Tl1Cur) (n1:Int) (kinds:List Int) (B:Option Addr) (B1:Option Addr) (c1 n:Nat) (B2:Option Addr) (c2 n2:Nat) (w0:World) (hn:c.code.length=n) (hn1:kinds.length=n2) (hS:ST w0 (bl [⟨B,51,[.slice B1 n c1,vi c.at_,.int .u64 c.seed],3⟩]) w0 [⟨B,51,[.slice B1 n c1,vi c.at_,.int .u64 c.seed],3⟩] [⟨B1,(c.code.flatMap enc_u8)⟩,⟨B2,(kinds.flatMap encI)⟩]) {r_:TGate} {m:Tl1Cur} (hF:F_spec_l1Cur_gate c n1 kinds=some (r_,m)) :
  CV Try.prog 40 #[pt B 0,vi n1,.slice B2 n2 c2] w0 (fun v w'=>v=.agg #[vi r_.Kind,vi r_.A,vi r_.B]∧ST w0 (bl [⟨B,51,[.slice B1 n c1,vi c.at_,.int .u64 c.seed],3⟩]) w' [⟨B,51,[.slice B1 n c1,vi m.at_,.int .u64 m.seed],3⟩] []):=by
 subst hn
 subst hn1
 unfold F_spec_l1Cur_gate at hF
 refine cv_of_cw 42 Try.func40 rfl Try.ntmps40 rfl ?_
 refine cq (cr ?_)
 refine sS 6 (yN [vi 0,vi 0,vi 0] 3 hS K38) ?_
 rintro _ w_ ⟨b,rfl,hS1⟩
 refine rn (cq (cr ?_))
 refine sQ 8 (ym (.slice B2 kinds.length c2))<|sQ 9 (ym (pt B 0))<|sQ 10 (ym (.slice B2 kinds.length c2))<|sQ 11 (Y_len (B:=B2) (m:=kinds.length) (c:=c2) K2 rfl rfl) ?_
 obtain ⟨⟨r_1,m1⟩,hc,hF⟩:=bI hF
 refine sc 12 rfl rfl (yC [pt B 0,vi (kinds.length:Int)] K17 (c_spec_l1Cur_pick c (kinds.length:Int) B B1 c1 c.code.length _ rfl (hS1.inn [true,false] rfl [(true,0)] rfl) hc)) ?_
 rintro _ w_1 ⟨rfl,hd⟩
 have hS2:=hS1.out [true,false] rfl hd
 obtain ⟨x,hx,hF⟩:=bI hF
 refine sQ 13 (Y_index (B:=B2) (m:=kinds.length) (c:=c2) (k:=.i64) (i:=r_1) K2 K0 rfl rfl rfl (gi_isSome encI_len rfl (hS2.rf (i:=1) rfl) hx) (getI_nn hx) (getI_ltI hx rfl))<|sQ 14 (yl B2 (r_1.toNat*1) (kinds.flatMap encI) (vi x) K1 (hS2.rf (i:=1) rfl) rfl rfl (gi_at0 encI_len hx rfl))<|sQ 15 (Y_buildS (zs:=[vi 0,vi 0,vi 0]) (vs:=[(0,vi x)]) (cs:=[vi x,vi 0,vi 0]) K91 K38 rfl (mpc rfl mpn) rfl) ?_
 refine sS 7 (yN [vi 0,vi 0,vi 0] 3 hS2 K38) ?_
 rintro _ w_2 ⟨b1,rfl,hS3⟩
 refine s0 (yT 2 3 (aD b1) 56 (.agg #[vi x,vi 0,vi 0]) [vi x,vi 0,vi 0] 0 hS3 K6) ?_
 rintro _ w_3 ⟨rfl,hS4⟩
 refine rn (cq (cq (cr ?_)))
 refine sQ 16 (yd (aD b1) 0 0 K51 K0)<|sQ 17 (yl (aD b1) 0 [vi x,vi 0,vi 0] (vi x) K1 (hS4.c 2))<|sQ 18 (yE x 12) (rn ?_)
 refine cw_cond (b:=(x==12)) rfl (fun hb=>?_) (fun hb=>?_)
 ·skip
  have hF1:=ct hF hb
  refine cq (cr ?_)
  refine sQ 19 (yb (aD b1) 0 [vi x,vi 0,vi 0] K34 K6 (hS4.c 2)) ?_
  refine s0 (yT 0 3 (aD b) 56 (.agg #[vi x,vi 0,vi 0]) [vi x,vi 0,vi 0] 0 hS4 K6) ?_
  rintro _ w_4 ⟨rfl,hS5⟩
  refine rn (ct_ ?_)
  obtain ⟨rfl,rfl⟩:=pr2 (sI hF1)
  exact ret1 Try.results40 (v1:=.agg #[vi x,vi 0,vi 0]) (resAt_cellA (B:=aD b) (i:=0) (cs:=[vi x,vi 0,vi 0]) (vs:=[vi x,vi 0,vi 0]) rfl K34 K6 (hS5.c 0) rfl rfl) ⟨rfl,(hS5.sN [1])⟩
 ·skip
  have hF2:=cf' hF hb
  refine cw_skip (cq (cr ?_))
  refine sQ 20 (ym (pt B 0))<|sQ 21 (ym (vi n1)) ?_
  obtain ⟨⟨r_2,m2⟩,hc1,hF2⟩:=bI hF2
  refine sc 22 rfl rfl (yC [pt B 0,vi n1] K17 (c_spec_l1Cur_pick (Tl1Cur.mk c.code m1.at_ m1.seed) n1 B B1 c1 c.code.length _ rfl (hS4.inn [false,true,false] rfl [(true,0)] rfl) hc1)) ?_
  rintro _ w_5 ⟨rfl,hd1⟩
  have hS6:=hS4.out [false,true,false] rfl hd1
  refine sQ 23 (yd (aD b1) 0 0 K44 K0) ?_
  refine s0 (yS 1 1 (aD b1) 56 (vi r_2) [vi r_2] 1 [vi x,vi r_2,vi 0] hS6 K0) ?_
  rintro _ w_6 ⟨rfl,hS7⟩
  refine rn (cq ?_)
  obtain ⟨z,hz,hF3⟩:=bI hF2
  let O0:Ob:=⟨B,51,[.slice B1 c.code.length c1,vi c.at_,.int .u64 c.seed],3⟩
  refine cw_mid (fun f w=>∃ (at_:Int) (seed:Int) (B3:Int),.inl (at_,seed,B3)=z∧FF f [(6,pt (aD b) 0),(7,pt (aD b1) 0)]∧ST w0 (bl [O0]) w [⟨B,51,[.slice B1 c.code.length c1,vi at_,.int .u64 seed],3⟩,⟨aD b,56,[vi 0,vi 0,vi 0],3⟩,⟨aD b1,56,[vi x,vi r_2,vi B3],3⟩] [⟨B1,(c.code.flatMap enc_u8)⟩,⟨B2,(kinds.flatMap encI)⟩]) ?_ ?_
  ·skip
   refine cq (cr ?_)
   refine sQ 24 (yd (aD b1) 0 0 K51 K0)<|sQ 25 (yl (aD b1) 0 [vi x,vi r_2,vi 0] (vi x) K1 (hS7.c 1)) ?_
   obtain ⟨r_3,hc2,hz⟩:=bI hz
   refine sc 26 rfl rfl (yC [vi x,vi 9,vi 11] K61 (c_spec_l1In x 9 11 _  (hS7.inn0 [] rfl) hc2)) ?_
   rintro _ w_7 ⟨rfl,hd2⟩
   have hS9:=hS7.out00 hd2
   refine rn ?_
   refine cw_cond (b:=r_3) rfl (fun hb1=>?_) (fun hb1=>?_)
   ·skip
    have hF4:=ct hz hb1
    refine cq (cq (cr ?_))
    refine sQ 27 (ym (vi n1))<|sQ 28 (yE n1 1) (rn ?_)
    refine cw_cond (b:=(n1==1)) rfl (fun hb2=>?_) (fun hb2=>?_)
    ·skip
     have hF5:=ct hF4 hb2
     refine cq (cr ?_)
     refine sQ 29 (Y_buildS (zs:=[vi 0,vi 0,vi 0]) (vs:=[(0,vi 1)]) (cs:=[vi 1,vi 0,vi 0]) K91 K38 rfl (mpc rfl mpn) rfl) ?_
     refine s0 (yT 0 3 (aD b) 56 (.agg #[vi 1,vi 0,vi 0]) [vi 1,vi 0,vi 0] 0 hS9 K6) ?_
     rintro _ w_8 ⟨rfl,hS10⟩
     refine rn (ct_ ?_)
     obtain rfl:=sI hF5
     obtain ⟨rfl,rfl⟩:=pr2 (sI hF3)
     exact ret1 Try.results40 (v1:=.agg #[vi 1,vi 0,vi 0]) (resAt_cellA (B:=aD b) (i:=0) (cs:=[vi 1,vi 0,vi 0]) (vs:=[vi 1,vi 0,vi 0]) rfl K34 K6 (hS10.c 0) rfl rfl) ⟨rfl,(hS10.sN [2])⟩
    ·skip
     have hF6:=cf' hF4 hb2
     refine cw_skip ?_
     obtain ⟨⟨r_4,m3⟩,hc3,hF6⟩:=bI hF6
     obtain ⟨hne,hF6⟩:=chk_inv hF6
     let V1:List Value:=[vi x,vi r_2,vi (Int.tmod (i64.wrap ((i64.wrap (r_2+1))+r_4)) n1)]
     refine cw_mid (fun f w=>FF f [(6,pt (aD b) 0),(7,pt (aD b1) 0)]∧ST w0 (bl [O0]) w [⟨B,51,[.slice B1 c.code.length c1,vi m3.at_,.int .u64 m3.seed],3⟩,⟨aD b,56,[vi 0,vi 0,vi 0],3⟩,⟨aD b1,56,V1,3⟩] [⟨B1,(c.code.flatMap enc_u8)⟩,⟨B2,(kinds.flatMap encI)⟩]) ?_ ?_
     ·skip
      refine ra_start (hS9.se [0]).fn (by kernel_rfl) ?_
      have hS13:=hS9.drew
      refine rq 0 30 (v:=pt (aD b1) 1) rfl (hS13.se [0]) (fun w' hw'=>(yd (aD b1) 0 0 K44 K0)) ?_
      refine rq 3 33 rfl (hS13.se [0]) (fun w' hw'=>(ym (pt B 0))) ?_
      refine rq 4 34 rfl (hS13.se [0]) (fun w' hw'=>(ym (vi n1))) ?_
      refine rq 5 35 rfl (hS13.se [0]) (fun w' hw'=>(yM n1 1)) ?_
      refine rq 8 38 rfl (hS13.se [0]) (fun w' hw'=>(ym (vi n1))) ?_
      refine rA [1,6] ?_
      refine ra_y 31 (i:=1) (v:=vi r_2) rfl rfl rfl (yl (aD b1) 1 [vi x,vi r_2,vi 0] (vi r_2) K1 (hS13.c 1)) (hS13.se [0]) ?_ ?_
      ·skip
       refine rq 2 32 rfl (hS13.se [0]) (fun w' hw'=>(yP r_2 1)) ?_
       refine rA [6] ?_
       refine rC 36 6 rfl (yC [pt B 0,vi (i64.wrap (n1-1))] K17 (c_spec_l1Cur_pick (Tl1Cur.mk c.code m2.at_ m2.seed) (i64.wrap (n1-1)) B B1 c1 c.code.length _ rfl (hS13.inn [false,false,true] rfl [(true,0)] rfl) hc3)) ?_ aN
       rintro _ w_9 ⟨rfl,hd3⟩
       have hS14:=hS13.out [false,false,true] rfl hd3
       refine ⟨(hS14.se [0]),?_⟩
       refine rq 7 37 rfl (hS14.se [0]) (fun w' hw'=>(yP (i64.wrap (r_2+1)) r_4)) ?_
       refine rq 9 39 (v:=vi (Int.tmod (i64.wrap ((i64.wrap (r_2+1))+r_4)) n1)) rfl (hS14.se [0]) (fun w' hw'=>(Y_rem (k:=.i64) (a:=(i64.wrap ((i64.wrap (r_2+1))+r_4))) (b:=n1) rfl rfl rfl hne)) ?_
       refine rq 10 40 (v:=pt (aD b1) 2) rfl (hS14.se [0]) (fun w' hw'=>(yd (aD b1) 0 0 K52 K0)) ?_
       refine rA [11] ?_
       refine rZ 11 rfl (yS 1 1 (aD b1) 56 (vi (Int.tmod (i64.wrap ((i64.wrap (r_2+1))+r_4)) n1)) [vi (Int.tmod (i64.wrap ((i64.wrap (r_2+1))+r_4)) n1)] 2 V1 hS14 K0) ?_ aN
       rintro _ w_10 ⟨rfl,hS15⟩
       refine ⟨(hS15.se [0]),?_⟩
       refine ra_done (by kernel_rfl) ?_
       exact ⟨(fc rfl (fc rfl fn_)),(hS15.sel [2,0,1] rfl rfl)⟩
      refine rC 36 6 rfl (yC [pt B 0,vi (i64.wrap (n1-1))] K17 (c_spec_l1Cur_pick (Tl1Cur.mk c.code m2.at_ m2.seed) (i64.wrap (n1-1)) B B1 c1 c.code.length _ rfl (hS13.inn [false,false,true] rfl [(true,0)] rfl) hc3)) ?_ aN
      rintro _ w_11 ⟨rfl,hd4⟩
      have hS16:=hS13.out [false,false,true] rfl hd4
      refine ⟨(hS16.se [0]),?_⟩
      refine rA [1] ?_
      refine ra_y 31 (i:=1) (v:=vi r_2) rfl rfl rfl (yl (aD b1) 1 [vi x,vi r_2,vi 0] (vi r_2) K1 (hS16.c 1)) (hS16.se [0]) ?_ aN
      refine rq 2 32 rfl (hS16.se [0]) (fun w' hw'=>(yP r_2 1)) ?_
      refine rq 7 37 rfl (hS16.se [0]) (fun w' hw'=>(yP (i64.wrap (r_2+1)) r_4)) ?_
      refine rq 9 39 (v:=vi (Int.tmod (i64.wrap ((i64.wrap (r_2+1))+r_4)) n1)) rfl (hS16.se [0]) (fun w' hw'=>(Y_rem (k:=.i64) (a:=(i64.wrap ((i64.wrap (r_2+1))+r_4))) (b:=n1) rfl rfl rfl hne)) ?_
      refine rq 10 40 (v:=pt (aD b1) 2) rfl (hS16.se [0]) (fun w' hw'=>(yd (aD b1) 0 0 K52 K0)) ?_
      refine rA [11] ?_
      refine rZ 11 rfl (yS 1 1 (aD b1) 56 (vi (Int.tmod (i64.wrap ((i64.wrap (r_2+1))+r_4)) n1)) [vi (Int.tmod (i64.wrap ((i64.wrap (r_2+1))+r_4)) n1)] 2 V1 hS16 K0) ?_ aN
      rintro _ w_12 ⟨rfl,hS17⟩
      refine ⟨(hS17.se [0]),?_⟩
      refine ra_done (by kernel_rfl) ?_
      exact ⟨(fc rfl (fc rfl fn_)),(hS17.sel [2,0,1] rfl rfl)⟩
     rintro f w ⟨hf1,hS12⟩
     exact ⟨m3.at_,m3.seed,(Int.tmod (i64.wrap ((i64.wrap (r_2+1))+r_4)) n1),(sI hF6),(hf1.a 6 0 (hf1.a 7 1 fn_)),(hS12.sel [0,1,2] rfl rfl)⟩
   ·skip
    have hF7:=cf' hz hb1
    refine cw_skip ?_
    exact ⟨m2.at_,m2.seed,0,(sI hF7),(fc rfl (fc rfl fn_)),(hS9.sel [2,0,1] rfl rfl)⟩
  rintro f w ⟨at_,seed,B3,rfl,hf,hS8⟩
  refine cq (cr ?_)
  refine sQ 41 (yb (aD b1) 0 [vi x,vi r_2,vi B3] K34 K6 (hS8.c 2) rfl (hf.g 7 1)) ?_
  refine s0 (yT 1 3 (aD b) 56 (.agg #[vi x,vi r_2,vi B3]) [vi x,vi r_2,vi B3] 0 hS8 K6 rfl (hf.g 6 0)) ?_
  rintro _ w_13 ⟨rfl,hS18⟩
  refine rn (ct_ ?_)
  obtain ⟨rfl,rfl⟩:=pr2 (sI hF3)
  exact ret1 Try.results40 (v1:=.agg #[vi x,vi r_2,vi B3]) (resAt_cellA (B:=aD b) (i:=0) (cs:=[vi x,vi r_2,vi B3]) (vs:=[vi x,vi r_2,vi B3]) (hf.g 6 0) K34 K6 (hS18.c 1) rfl rfl) ⟨rfl,(hS18.sN [0])⟩

theorem c_spec_l1Cur_built (c:Tl1Cur) (n1:Int) (most:Int) (kinds:List Int) (B:Option Addr) (B1:Option Addr) (c1 n:Nat) (B2:Option Addr) (c2 n2:Nat) (w0:World) (hn:c.code.length=n) (hn1:kinds.length=n2) (hS:ST w0 (bl [⟨B,51,[.slice B1 n c1,vi c.at_,.int .u64 c.seed],3⟩]) w0 [⟨B,51,[.slice B1 n c1,vi c.at_,.int .u64 c.seed],3⟩] [⟨B1,(c.code.flatMap enc_u8)⟩,⟨B2,(kinds.flatMap encI)⟩]) {r_:TCircuit} {m:Tl1Cur} (hF:F_spec_l1Cur_built c n1 most kinds=some (r_,m)) :
  CV Try.prog 17 #[pt B 0,vi n1,vi most,.slice B2 n2 c2] w0 (fun v w'=>∃ (B3:Option Addr) (c3:Nat),v=.agg #[vi r_.Qubits,.slice B3 r_.Gates.length c3]∧ST w0 (bl [⟨B,51,[.slice B1 n c1,vi c.at_,.int .u64 c.seed],3⟩]) w' [⟨B,51,[.slice B1 n c1,vi m.at_,.int .u64 m.seed],3⟩,⟨B3,56,(r_.Gates.flatMap eN2),c3*3⟩] []):=by
 subst hn
 subst hn1
 unfold F_spec_l1Cur_built at hF
 refine cv_of_cw 31 Try.func17 rfl Try.ntmps17 rfl ?_
 refine cq (cr ?_)
 let V2:List Value:=[vi 0,.slice none 0 0]
 refine sS 8 (yN V2 2 hS K62) ?_
 rintro _ w_ ⟨b,rfl,hS1⟩
 refine rn (cq (cr ?_))
 refine sQ 11 (ym (vi n1))<|sQ 12 (Y_buildS (zs:=V2) (vs:=[(0,vi n1)]) (cs:=[vi n1,.slice none 0 0]) k_pl_28 K62 rfl (mpc rfl mpn) rfl) ?_
 refine sS 9 (yN V2 2 hS1 K62) ?_
 rintro _ w_1 ⟨b1,rfl,hS2⟩
 refine s0 (yT 2 2 (aD b1) 28 (.agg #[vi n1,.slice none 0 0]) [vi n1,.slice none 0 0] 0 hS2 K7) ?_
 rintro _ w_2 ⟨rfl,hS3⟩
 refine rn (cq (cq (cr ?_)))
 refine sQ 13 (ym (pt B 0))<|sQ 14 (ym (vi most))<|sQ 15 (yP most 1) ?_
 obtain ⟨⟨r_1,m1⟩,hc,hF⟩:=bI hF
 refine sc 16 rfl rfl (yC [pt B 0,vi (i64.wrap (most+1))] K17 (c_spec_l1Cur_pick c (i64.wrap (most+1)) B B1 c1 c.code.length _ rfl (hS3.inn [true,false,false] rfl [(true,0)] rfl) hc)) ?_
 rintro _ w_3 ⟨rfl,hd⟩
 have hS4:=hS3.out [true,false,false] rfl hd
 refine sQ 10 (yg (vi r_1)) (rn ?_)
 obtain ⟨z,hz,hF1⟩:=bI hF
 have hS6:=hS4.addNil 56
 refine cw_block ?_
 let O0:Ob:=⟨B,51,[.slice B1 c.code.length c1,vi c.at_,.int .u64 c.seed],3⟩
 refine cw_loop (fun k f w=>∃ (at_:Int) (seed:Int) (Gates:List TGate) (k_:Int) (B4:Option Addr) (c4:Nat),FF f [(0,pt B 0),(1,vi n1),(3,.slice B2 kinds.length c2),(8,pt (aD b) 0),(9,pt (aD b1) 0),(10,vi k_)]∧ST w0 (bl [O0]) w [⟨B,51,[.slice B1 c.code.length c1,vi at_,.int .u64 seed],3⟩,⟨aD b,28,V2,2⟩,⟨aD b1,28,[vi n1,.slice B4 Gates.length c4],2⟩,⟨B4,56,(Gates.flatMap eN2),c4*3⟩] [⟨B1,(c.code.flatMap enc_u8)⟩,⟨B2,(kinds.flatMap encI)⟩]∧whX (F_spec_l1Cur_built_l1 c n1 kinds) k (at_,seed,Gates,k_)=some z) fuel ⟨m1.at_,m1.seed,[],r_1,none,0,(fc rfl (fc rfl (fc rfl (fc rfl (fc rfl (fc rfl fn_)))))),(hS6.sel [2,0,1,3] rfl rfl),hz⟩ ?_
 rintro K4 f w ⟨at_,seed,Gates,k_,B4,c4,hf,hS5,hL⟩
 obtain ⟨K10,y,rfl,hb,hL1⟩:=whX_go hL
 unfold F_spec_l1Cur_built_l1 at hb
 refine cq (cq (cr ?_))
 refine sQ 17 (ym (vi k_) rfl (hf.g 10 5))<|sQ 18 (Y_gt (k:=.i64) (a:=k_) (b:=0) rfl rfl rfl) (rn ?_)
 refine cw_cond (b:=(decide (0<k_))) rfl (fun hb1=>?_) (fun hb1=>?_)
 ·skip
  have hF2:=ct hb hb1
  refine cw_skip (cq (cw_block ?_))
  obtain ⟨⟨r_2,m2⟩,hc1,hF2⟩:=bI hF2
  obtain ⟨hap,hF2⟩:=chk_inv hF2
  refine cw_mid (fun f w=>∃ (B6:Option Addr) (c6:Nat),FF f [(0,pt B 0),(1,vi n1),(3,.slice B2 kinds.length c2),(8,pt (aD b) 0),(9,pt (aD b1) 0),(10,vi k_)]∧ST w0 (bl [O0]) w [⟨B,51,[.slice B1 c.code.length c1,vi m2.at_,.int .u64 m2.seed],3⟩,⟨aD b,28,V2,2⟩,⟨aD b1,28,[vi n1,.slice B6 ((Gates++[r_2]).length) c6],2⟩,⟨B6,56,((Gates++[r_2]).flatMap eN2),c6*3⟩] [⟨B1,(c.code.flatMap enc_u8)⟩,⟨B2,(kinds.flatMap encI)⟩]) ?_ ?_
  ·skip
   refine ra_start (hS5.se [1]).fn (by kernel_rfl) ?_
   have hS9:=hS5.drew
   refine rq 0 21 (v:=pt (aD b1) 1) rfl (hS9.se [1]) (fun w' hw'=>(yd (aD b1) 0 0 K19 K16 rfl (hf.g 9 4))) ?_
   refine rq 2 23 rfl (hS9.se [1]) (fun w' hw'=>(ym (pt B 0) rfl (hf.g 0 0))) ?_
   refine rq 3 24 rfl (hS9.se [1]) (fun w' hw'=>(ym (vi n1) rfl (hf.g 1 1))) ?_
   refine rq 4 25 rfl (hS9.se [1]) (fun w' hw'=>(ym (.slice B2 kinds.length c2) rfl (hf.g 3 2))) ?_
   refine rA [1,5] ?_
   refine ra_y 22 (i:=1) (v:=.slice B4 Gates.length c4) rfl rfl rfl (yl (aD b1) 1 [vi n1,.slice B4 Gates.length c4] (.slice B4 Gates.length c4) K21 (hS9.c 2)) (hS9.se [1]) ?_ ?_
   ·skip
    refine rA [5] ?_
    refine rC 26 5 rfl (yC [pt B 0,vi n1,.slice B2 kinds.length c2] k_call_40 (c_spec_l1Cur_gate (Tl1Cur.mk c.code at_ seed) n1 kinds B B1 c1 c.code.length B2 c2 kinds.length _ rfl rfl (hS9.inn [true,false,false,false] rfl [(true,0),(true,1)] rfl) hc1)) ?_ aN
    rintro _ w_4 ⟨rfl,hd1⟩
    have hS10:=hS9.out [true,false,false,false] rfl hd1
    refine ⟨(hS10.se [0]),?_⟩
    refine rA [6] ?_
    refine rS 27 6 rfl (Ys_bslice (s:=3) (len:=1) (vs:=[(0,.agg #[vi r_2.Kind,vi r_2.A,vi r_2.B])]) (cs:=[vi r_2.Kind,vi r_2.A,vi r_2.B]) (zs:=[vi 0,vi 0,vi 0]) (m:=3) hS10 K12 K6 K78 rfl (mpc rfl mpn) rfl rfl rfl (by kernel_rfl) (by kernel_rfl) rfl) ?_ aN
    rintro _ w_5 ⟨b2,rfl,hS11⟩
    refine ⟨(hS11.se [0]),?_⟩
    refine rA [7] ?_
    refine rS 28 7 rfl (Ys_append (s:=3) (by':=24) (i:=2) (nn:=Gates.length) (c:=c4) (k:=1) (len:=(Gates++[r_2]).length) (B:=B4) (xs:=([r_2].flatMap eN2)) (cs':=((Gates++[r_2]).flatMap eN2)) hS11 K12 K6 K79 K38 rfl (by decide) rfl rfl rfl rfl (fm_lenn (l:=Gates) eN9 rfl) rfl (hS11.c 4) (fm_lenn (l:=[r_2]) eN9 rfl) (fm_one' (enc:=eN2) enc_Gate_one [r_2]) (by have:=hap; omega) (by have:=hap; simp only [maxLen]; omega) (fm_app _ _) (app_len (l:=Gates) (l':=[r_2]) rfl rfl)) ?_ aN
    rintro _ w_6 ⟨B5,c5,rfl,hS12⟩
    refine ⟨(hS12.se [0]),?_⟩
    refine rq 8 29 (v:=pt (aD b1) 1) rfl (hS12.se [0]) (fun w' hw'=>(yd (aD b1) 0 0 K19 K16 rfl (hf.g 9 4))) ?_
    refine rA [9] ?_
    refine rZ 9 rfl (yS 1 1 (aD b1) 28 (.slice B5 ((Gates++[r_2]).length) c5) [.slice B5 ((Gates++[r_2]).length) c5] 1 [vi n1,.slice B5 ((Gates++[r_2]).length) c5] hS12 K16) ?_ aN
    rintro _ w_7 ⟨rfl,hS13⟩
    refine ⟨(hS13.se [0]),?_⟩
    refine ra_done (by kernel_rfl) ?_
    exact ⟨B5,c5,(hf.a 0 0 (hf.a 1 1 (hf.a 3 2 (hf.a 8 3 (hf.a 9 4 (hf.a 10 5 fn_)))))),(hS13.sel [3,0,1,2] rfl rfl)⟩
   refine rC 26 5 rfl (yC [pt B 0,vi n1,.slice B2 kinds.length c2] k_call_40 (c_spec_l1Cur_gate (Tl1Cur.mk c.code at_ seed) n1 kinds B B1 c1 c.code.length B2 c2 kinds.length _ rfl rfl (hS9.inn [true,false,false,false] rfl [(true,0),(true,1)] rfl) hc1)) ?_ aN
   rintro _ w_8 ⟨rfl,hd2⟩
   have hS14:=hS9.out [true,false,false,false] rfl hd2
   refine ⟨(hS14.se [0]),?_⟩
   refine rA [1,6] ?_
   refine ra_y 22 (i:=1) (v:=.slice B4 Gates.length c4) rfl rfl rfl (yl (aD b1) 1 [vi n1,.slice B4 Gates.length c4] (.slice B4 Gates.length c4) K21 (hS14.c 1)) (hS14.se [0]) ?_ ?_
   ·skip
    refine rA [6] ?_
    refine rS 27 6 rfl (Ys_bslice (s:=3) (len:=1) (vs:=[(0,.agg #[vi r_2.Kind,vi r_2.A,vi r_2.B])]) (cs:=[vi r_2.Kind,vi r_2.A,vi r_2.B]) (zs:=[vi 0,vi 0,vi 0]) (m:=3) hS14 K12 K6 K78 rfl (mpc rfl mpn) rfl rfl rfl (by kernel_rfl) (by kernel_rfl) rfl) ?_ aN
    rintro _ w_9 ⟨b2,rfl,hS15⟩
    refine ⟨(hS15.se [0]),?_⟩
    refine rA [7] ?_
    refine rS 28 7 rfl (Ys_append (s:=3) (by':=24) (i:=2) (nn:=Gates.length) (c:=c4) (k:=1) (len:=(Gates++[r_2]).length) (B:=B4) (xs:=([r_2].flatMap eN2)) (cs':=((Gates++[r_2]).flatMap eN2)) hS15 K12 K6 K79 K38 rfl (by decide) rfl rfl rfl rfl (fm_lenn (l:=Gates) eN9 rfl) rfl (hS15.c 4) (fm_lenn (l:=[r_2]) eN9 rfl) (fm_one' (enc:=eN2) enc_Gate_one [r_2]) (by have:=hap; omega) (by have:=hap; simp only [maxLen]; omega) (fm_app _ _) (app_len (l:=Gates) (l':=[r_2]) rfl rfl)) ?_ aN
    rintro _ w_10 ⟨B5,c5,rfl,hS16⟩
    refine ⟨(hS16.se [0]),?_⟩
    refine rq 8 29 (v:=pt (aD b1) 1) rfl (hS16.se [0]) (fun w' hw'=>(yd (aD b1) 0 0 K19 K16 rfl (hf.g 9 4))) ?_
    refine rA [9] ?_
    refine rZ 9 rfl (yS 1 1 (aD b1) 28 (.slice B5 ((Gates++[r_2]).length) c5) [.slice B5 ((Gates++[r_2]).length) c5] 1 [vi n1,.slice B5 ((Gates++[r_2]).length) c5] hS16 K16) ?_ aN
    rintro _ w_11 ⟨rfl,hS17⟩
    refine ⟨(hS17.se [0]),?_⟩
    refine ra_done (by kernel_rfl) ?_
    exact ⟨B5,c5,(hf.a 0 0 (hf.a 1 1 (hf.a 3 2 (hf.a 8 3 (hf.a 9 4 (hf.a 10 5 fn_)))))),(hS17.sel [3,0,1,2] rfl rfl)⟩
   refine rS 27 6 rfl (Ys_bslice (s:=3) (len:=1) (vs:=[(0,.agg #[vi r_2.Kind,vi r_2.A,vi r_2.B])]) (cs:=[vi r_2.Kind,vi r_2.A,vi r_2.B]) (zs:=[vi 0,vi 0,vi 0]) (m:=3) hS14 K12 K6 K78 rfl (mpc rfl mpn) rfl rfl rfl (by kernel_rfl) (by kernel_rfl) rfl) ?_ aN
   rintro _ w_12 ⟨b2,rfl,hS18⟩
   refine ⟨(hS18.se [0]),?_⟩
   refine rA [1] ?_
   refine ra_y 22 (i:=1) (v:=.slice B4 Gates.length c4) rfl rfl rfl (yl (aD b1) 1 [vi n1,.slice B4 Gates.length c4] (.slice B4 Gates.length c4) K21 (hS18.c 1)) (hS18.se [0]) ?_ aN
   refine rA [7] ?_
   refine rS 28 7 rfl (Ys_append (s:=3) (by':=24) (i:=2) (nn:=Gates.length) (c:=c4) (k:=1) (len:=(Gates++[r_2]).length) (B:=B4) (xs:=([r_2].flatMap eN2)) (cs':=((Gates++[r_2]).flatMap eN2)) hS18 K12 K6 K79 K38 rfl (by decide) rfl rfl rfl rfl (fm_lenn (l:=Gates) eN9 rfl) rfl (hS18.c 4) (fm_lenn (l:=[r_2]) eN9 rfl) (fm_one' (enc:=eN2) enc_Gate_one [r_2]) (by have:=hap; omega) (by have:=hap; simp only [maxLen]; omega) (fm_app _ _) (app_len (l:=Gates) (l':=[r_2]) rfl rfl)) ?_ aN
   rintro _ w_13 ⟨B5,c5,rfl,hS19⟩
   refine ⟨(hS19.se [0]),?_⟩
   refine rq 8 29 (v:=pt (aD b1) 1) rfl (hS19.se [0]) (fun w' hw'=>(yd (aD b1) 0 0 K19 K16 rfl (hf.g 9 4))) ?_
   refine rA [9] ?_
   refine rZ 9 rfl (yS 1 1 (aD b1) 28 (.slice B5 ((Gates++[r_2]).length) c5) [.slice B5 ((Gates++[r_2]).length) c5] 1 [vi n1,.slice B5 ((Gates++[r_2]).length) c5] hS19 K16) ?_ aN
   rintro _ w_14 ⟨rfl,hS20⟩
   refine ⟨(hS20.se [0]),?_⟩
   refine ra_done (by kernel_rfl) ?_
   exact ⟨B5,c5,(hf.a 0 0 (hf.a 1 1 (hf.a 3 2 (hf.a 8 3 (hf.a 9 4 (hf.a 10 5 fn_)))))),(hS20.sel [3,0,1,2] rfl rfl)⟩
  rintro f w ⟨B6,c6,hf1,hS8⟩
  refine cr ?_
  refine sQ 19 (ym (vi k_) rfl (hf1.g 10 5))<|sQ 20 (yM k_ 1)<|sQ 10 (yg (vi (i64.wrap (k_-1)))) (rn ?_)
  obtain rfl:=sI hF2
  exact ⟨K10,Nat.lt_succ_self _,m2.at_,m2.seed,(Gates++[r_2]),(i64.wrap (k_-1)),B6,c6,(hf1.a 0 0 (hf1.a 1 1 (hf1.a 3 2 (hf1.a 8 3 (hf1.a 9 4 (fc rfl fn_)))))),(hS8.sel [0,1,2,3] rfl rfl),hL1⟩
 ·skip
  have hF3:=cf' hb hb1
  refine cw_exit rfl ?_
  obtain rfl:=sI hF3
  obtain rfl:=sI hL1
  refine cq (cr ?_)
  let V1:List Value:=[vi n1,.slice B4 Gates.length c4]
  refine sQ 30 (yb (aD b1) 0 V1 K14 K7 (hS5.c 2) rfl (hf.g 9 4)) ?_
  refine s0 (yT 1 2 (aD b) 28 (.agg V1.toArray) V1 0 hS5 K7 rfl (hf.g 8 3)) ?_
  rintro _ w_15 ⟨rfl,hS21⟩
  refine rn (ct_ ?_)
  obtain ⟨rfl,rfl⟩:=pr2 (sI hF1)
  exact ret1 Try.results17 (v1:=.agg V1.toArray) (resAt_cellA (B:=aD b) (i:=0) (cs:=V1) (vs:=V1) (hf.g 8 3) K14 K7 (hS21.c 1) rfl rfl) ⟨B4,c4,rfl,(hS21.sN [0,3])⟩

theorem c_spec_LineGraph (n:Int)  (w0:World)  (hS:ST w0 [] w0 [] []) {r_:TCouplingGraph} {r_1:Bool} (hF:F_spec_LineGraph n=some (r_,r_1)) :
  CV Try.prog 42 #[vi n] w0 (fun v w'=>∃ (B:Option Addr) (c:Nat),v=.tuple #[.agg #[vi r_.Nodes,.slice B r_.Edges.length c],.bool r_1]∧ST w0 [] w' [⟨B,87,(r_.Edges.flatMap eN1),c*2⟩] []):=by
 unfold F_spec_LineGraph at hF
 refine cv_of_cw 28 Try.func42 rfl Try.ntmps42 rfl ?_
 refine cq (cr ?_)
 let V1:List Value:=[vi 0,.slice none 0 0]
 refine sS 2 (yN V1 2 hS K48) ?_
 rintro _ w_ ⟨b,rfl,hS1⟩
 refine sQ 3 (yg (.bool false)) (rn (cq (cq (cr ?_))))
 refine sQ 6 (ym (vi n)) ?_
 obtain ⟨r_2,hc,hF⟩:=bI hF
 refine sc 7 rfl rfl (yC [vi n,vi 1,vi 8] K61 (c_spec_l1In n 1 8 _  (hS1.inn0 [] rfl) hc)) ?_
 rintro _ w_1 ⟨rfl,hd⟩
 have hS2:=hS1.out00 hd
 refine sQ 8 (Y_not (p:=r_2) rfl rfl) (rn ?_)
 refine cw_cond (b:=(!r_2)) rfl (fun hb=>?_) (fun hb=>?_)
 ·skip
  have hF1:=ct hF hb
  refine cq (cr ?_)
  refine sQ 9 (Y_buildS (zs:=V1) (vs:=[]) (cs:=V1) K117 K48 rfl mpn rfl) ?_
  refine s0 (yT 0 2 (aD b) 25 (.agg V1.toArray) V1 0 hS2 K3) ?_
  rintro _ w_2 ⟨rfl,hS3⟩
  refine sQ 3 (yg (.bool false)) (rn (ct_ ?_))
  have hS4:=hS3.addNil 87
  obtain ⟨rfl,rfl⟩:=pr2 (sI hF1)
  exact ret2 Try.results42 (v1:=.agg V1.toArray) (resAt_cellA (B:=aD b) (i:=0) (cs:=V1) (vs:=V1) rfl K5 K3 (hS4.c 0) rfl rfl) (v2:=.bool false) (resAt_tmp rfl) ⟨none,0,rfl,(hS4.sN [1])⟩
 ·skip
  have hF2:=cf' hF hb
  refine cw_skip (cq (cr ?_))
  refine sQ 10 (ym (vi n))<|sQ 11 (Y_buildS (zs:=V1) (vs:=[(0,vi n)]) (cs:=[vi n,.slice none 0 0]) K117 K48 rfl (mpc rfl mpn) rfl) ?_
  refine sS 4 (yN V1 2 hS2 K48) ?_
  rintro _ w_3 ⟨b1,rfl,hS5⟩
  refine s0 (yT 1 2 (aD b1) 25 (.agg #[vi n,.slice none 0 0]) [vi n,.slice none 0 0] 0 hS5 K3) ?_
  rintro _ w_4 ⟨rfl,hS6⟩
  refine rn (cq (cq (cr ?_)))
  refine sQ 5 (yg (vi 0)) (rn ?_)
  obtain ⟨z,hz,hF3⟩:=bI hF2
  have hS8:=hS6.addNil 87
  refine cw_block ?_
  refine cw_loop (fun k f w=>∃ (Edges:List TEdge) (i:Int) (B1:Option Addr) (c1:Nat),FF f [(0,vi n),(2,pt (aD b) 0),(4,pt (aD b1) 0),(5,vi i)]∧ST w0 [] w [⟨aD b,25,V1,2⟩,⟨aD b1,25,[vi n,.slice B1 Edges.length c1],2⟩,⟨B1,87,(Edges.flatMap eN1),c1*2⟩] []∧whX (F_spec_LineGraph_l1 n) k (Edges,i)=some z) fuel ⟨[],0,none,0,(fc rfl (fc rfl (fc rfl (fc rfl fn_)))),(hS8.sel [0,1,2] rfl rfl),hz⟩ ?_
  rintro k_ f w ⟨Edges,i,B1,c1,hf,hS7,hL⟩
  obtain ⟨K4,y,rfl,hb1,hL1⟩:=whX_go hL
  unfold F_spec_LineGraph_l1 at hb1
  refine cq (cq (cr ?_))
  refine sQ 12 (ym (vi i) rfl (hf.g 5 3))<|sQ 13 (yP i 1)<|sQ 14 (ym (vi n) rfl (hf.g 0 0))<|sQ 15 (yL (i64.wrap (i+1)) n) (rn ?_)
  refine cw_cond (b:=(decide ((i64.wrap (i+1))<n))) rfl (fun hb2=>?_) (fun hb2=>?_)
  ·skip
   have hF4:=ct hb1 hb2
   refine cw_skip (cq (cw_block (cr ?_)))
   refine sQ 18 (yd (aD b1) 0 0 K45 K39 rfl (hf.g 4 2))<|sQ 19 (yl (aD b1) 1 [vi n,.slice B1 Edges.length c1] (.slice B1 Edges.length c1) K59 (hS7.c 1))<|sQ 20 (ym (vi i) rfl (hf.g 5 3))<|sQ 21 (ym (vi i) rfl (hf.g 5 3))<|sQ 22 (yP i 1)<|sQ 23 (Y_buildS (zs:=[vi 0,vi 0]) (vs:=[(0,vi i),(1,vi (i64.wrap (i+1)))]) (cs:=[vi i,vi (i64.wrap (i+1))]) K92 K46 rfl (mpc rfl (mpc rfl mpn)) rfl) ?_
   refine sS 24 (Ys_bslice (s:=2) (len:=1) (vs:=[(0,.agg #[vi i,vi (i64.wrap (i+1))])]) (cs:=[vi i,vi (i64.wrap (i+1))]) (zs:=[vi 0,vi 0]) (m:=2) hS7 K26 K20 K93 rfl (mpc rfl mpn) rfl rfl rfl (by kernel_rfl) (by kernel_rfl) rfl) ?_
   rintro _ w_5 ⟨b2,rfl,hS9⟩
   obtain ⟨hap,hF4⟩:=chk_inv hF4
   refine sS 25 (Ys_append (s:=2) (by':=16) (i:=2) (nn:=Edges.length) (c:=c1) (k:=1) (len:=(Edges++[(TEdge.mk i (i64.wrap (i+1)))]).length) (B:=B1) (xs:=([(TEdge.mk i (i64.wrap (i+1)))].flatMap eN1)) (cs':=((Edges++[(TEdge.mk i (i64.wrap (i+1)))]).flatMap eN1)) hS9 K26 K20 K94 K46 rfl (by decide) rfl rfl rfl rfl (fm_lenn (l:=Edges) enc_Edge_len rfl) rfl (hS9.c 3) (fm_lenn (l:=[(TEdge.mk i (i64.wrap (i+1)))]) enc_Edge_len rfl) (fm_one' (enc:=eN1) enc_Edge_one [(TEdge.mk i (i64.wrap (i+1)))]) (by have:=hap; omega) (by have:=hap; simp only [maxLen]; omega) (fm_app _ _) (app_len (l:=Edges) (l':=[(TEdge.mk i (i64.wrap (i+1)))]) rfl rfl)) ?_
   rintro _ w_6 ⟨B2,c2,rfl,hS10⟩
   refine sQ 26 (yd (aD b1) 0 0 K45 K39 rfl (hf.g 4 2)) ?_
   refine s0 (yS 1 1 (aD b1) 25 (.slice B2 ((Edges++[(TEdge.mk i (i64.wrap (i+1)))]).length) c2) [.slice B2 ((Edges++[(TEdge.mk i (i64.wrap (i+1)))]).length) c2] 1 [vi n,.slice B2 ((Edges++[(TEdge.mk i (i64.wrap (i+1)))]).length) c2] hS10 K39) ?_
   rintro _ w_7 ⟨rfl,hS11⟩
   refine rn (cr ?_)
   refine sQ 16 (ym (vi i) rfl (hf.g 5 3))<|sQ 17 (yP i 1)<|sQ 5 (yg (vi (i64.wrap (i+1)))) (rn ?_)
   obtain rfl:=sI hF4
   exact ⟨K4,Nat.lt_succ_self _,(Edges++[(TEdge.mk i (i64.wrap (i+1)))]),(i64.wrap (i+1)),B2,c2,(hf.a 0 0 (hf.a 2 1 (hf.a 4 2 (fc rfl fn_)))),(hS11.sel [0,1,2] rfl rfl),hL1⟩
  ·skip
   have hF5:=cf' hb1 hb2
   refine cw_exit rfl ?_
   obtain rfl:=sI hF5
   obtain rfl:=sI hL1
   refine cq (cr ?_)
   let V0:List Value:=[vi n,.slice B1 Edges.length c1]
   refine sQ 27 (yb (aD b1) 0 V0 K5 K3 (hS7.c 1) rfl (hf.g 4 2)) ?_
   refine s0 (yT 0 2 (aD b) 25 (.agg V0.toArray) V0 0 hS7 K3 rfl (hf.g 2 1)) ?_
   rintro _ w_8 ⟨rfl,hS12⟩
   refine sQ 3 (yg (.bool true)) (rn (ct_ ?_))
   obtain ⟨rfl,rfl⟩:=pr2 (sI hF3)
   exact ret2 Try.results42 (v1:=.agg V0.toArray) (resAt_cellA (B:=aD b) (i:=0) (cs:=V0) (vs:=V0) (hf.g 2 1) K5 K3 (hS12.c 0) rfl rfl) (v2:=.bool true) (resAt_tmp rfl) ⟨B1,c1,rfl,(hS12.sN [2])⟩

theorem c_spec_RingGraph (n:Int)  (w0:World)  (hS:ST w0 [] w0 [] []) {r_:TCouplingGraph} {r_1:Bool} (hF:F_spec_RingGraph n=some (r_,r_1)) :
  CV Try.prog 43 #[vi n] w0 (fun v w'=>∃ (B:Option Addr) (c:Nat),v=.tuple #[.agg #[vi r_.Nodes,.slice B r_.Edges.length c],.bool r_1]∧ST w0 [] w' [⟨B,87,(r_.Edges.flatMap eN1),c*2⟩] []):=by
 unfold F_spec_RingGraph at hF
 refine cv_of_cw 48 Try.func43 rfl Try.ntmps43 rfl ?_
 refine cq (cr ?_)
 let V1:List Value:=[vi 0,.slice none 0 0]
 refine sS 2 (yN V1 2 hS K48) ?_
 rintro _ w_ ⟨b,rfl,hS1⟩
 refine sQ 3 (yg (.bool false)) (rn (cq (cq (cr ?_))))
 refine sQ 7 (ym (vi n)) ?_
 obtain ⟨r_2,hc,hF⟩:=bI hF
 refine sc 8 rfl rfl (yC [vi n,vi 3,vi 8] K61 (c_spec_l1In n 3 8 _  (hS1.inn0 [] rfl) hc)) ?_
 rintro _ w_1 ⟨rfl,hd⟩
 have hS2:=hS1.out00 hd
 refine sQ 9 (Y_not (p:=r_2) rfl rfl) (rn ?_)
 refine cw_cond (b:=(!r_2)) rfl (fun hb=>?_) (fun hb=>?_)
 ·skip
  have hF1:=ct hF hb
  refine cq (cr ?_)
  refine sQ 10 (Y_buildS (zs:=V1) (vs:=[]) (cs:=V1) K117 K48 rfl mpn rfl) ?_
  refine s0 (yT 0 2 (aD b) 25 (.agg V1.toArray) V1 0 hS2 K3) ?_
  rintro _ w_2 ⟨rfl,hS3⟩
  refine sQ 3 (yg (.bool false)) (rn (ct_ ?_))
  have hS4:=hS3.addNil 87
  obtain ⟨rfl,rfl⟩:=pr2 (sI hF1)
  exact ret2 Try.results43 (v1:=.agg V1.toArray) (resAt_cellA (B:=aD b) (i:=0) (cs:=V1) (vs:=V1) rfl K5 K3 (hS4.c 0) rfl rfl) (v2:=.bool false) (resAt_tmp rfl) ⟨none,0,rfl,(hS4.sN [1])⟩
 ·skip
  have hF2:=cf' hF hb
  refine cw_skip (cq (cr ?_))
  refine sQ 11 (ym (vi n))<|sQ 12 (Y_buildS (zs:=V1) (vs:=[(0,vi n)]) (cs:=[vi n,.slice none 0 0]) K117 K48 rfl (mpc rfl mpn) rfl) ?_
  refine sS 4 (yN V1 2 hS2 K48) ?_
  rintro _ w_3 ⟨b1,rfl,hS5⟩
  refine s0 (yT 1 2 (aD b1) 25 (.agg #[vi n,.slice none 0 0]) [vi n,.slice none 0 0] 0 hS5 K3) ?_
  rintro _ w_4 ⟨rfl,hS6⟩
  refine rn (cq (cq (cr ?_)))
  refine sQ 5 (yg (vi 0)) (rn ?_)
  obtain ⟨hN,hF2⟩:=chk_inv hF2
  obtain ⟨z,hz,hF3⟩:=bI hF2
  have hS8:=hS6.addNil 87
  refine cw_block ?_
  let O0:Ob:=⟨aD b,25,V1,2⟩
  refine cw_loop (fun k f w=>∃ (a:Nat) (Edges:List TEdge) (B1:Option Addr) (c1:Nat),FF f [(0,vi n),(2,pt (aD b) 0),(4,pt (aD b1) 0),(5,vi (a:Int))]∧ST w0 [] w [O0,⟨aD b1,25,[vi n,.slice B1 Edges.length c1],2⟩,⟨B1,87,(Edges.flatMap eN1),c1*2⟩] []∧a+k=n.toNat∧forN (F_spec_RingGraph_l1 n) k a Edges=some z) n.toNat ⟨0,[],none,0,(fc rfl (fc rfl (fc rfl (fc rfl fn_)))),(hS8.sel [0,1,2] rfl rfl),Nat.zero_add _,hz⟩ ?_
  rintro k_ f w ⟨a,Edges,B1,c1,hf,hS7,hik,hL⟩
  refine cq (cq (cr ?_))
  refine sQ 13 (ym (vi (a:Int)) rfl (hf.g 5 3))<|sQ 14 (ym (vi n) rfl (hf.g 0 0))<|sQ 15 (yL (a:Int) n) (rn ?_)
  refine cw_cond (b:=(decide ((a:Int)<n))) rfl (fun hlt=>?_) (fun hlt=>?_)
  ·skip
   have hlt1:a<n.toNat:=by have h:=of_decide_eq_true hlt; omega
   obtain ⟨K4,rfl⟩:∃ k2,k_=k2+1:=⟨k_-1,by omega⟩
   obtain ⟨y,hb1,hL1⟩:=forN_go hL
   unfold F_spec_RingGraph_l1 at hb1
   refine cw_skip (cq (cw_block (cq (cr ?_))))
   refine sQ 18 (ym (vi (a:Int)) rfl (hf.g 5 3))<|sQ 19 (yP (a:Int) 1)<|sQ 6 (yg (vi (i64.wrap ((a:Int)+1)))) (rn ?_)
   obtain ⟨z1,hz1,hF4⟩:=bI hb1
   refine cw_block ?_
   refine cw_loop (fun k f w=>∃ (Edges1:List TEdge) (b2:Int) (B2:Option Addr) (c2:Nat),FF f [(0,vi n),(2,pt (aD b) 0),(4,pt (aD b1) 0),(5,vi (a:Int)),(6,vi b2)]∧ST w0 [] w [O0,⟨aD b1,25,[vi n,.slice B2 Edges1.length c2],2⟩,⟨B2,87,(Edges1.flatMap eN1),c2*2⟩] []∧whX (F_spec_RingGraph_l2 n a) k (Edges1,b2)=some z1) fuel ⟨Edges,(i64.wrap ((a:Int)+1)),B1,c1,(hf.a 0 0 (hf.a 2 1 (hf.a 4 2 (hf.a 5 3 (fc rfl fn_))))),(hS7.sel [0,1,2] rfl rfl),hz1⟩ ?_
   rintro K10 f w ⟨Edges1,b2,B2,c2,hf1,hS9,hL2⟩
   obtain ⟨K18,y1,rfl,hb2,hL3⟩:=whX_go hL2
   unfold F_spec_RingGraph_l2 at hb2
   refine cq (cq (cr ?_))
   refine sQ 20 (ym (vi b2) rfl (hf1.g 6 4))<|sQ 21 (ym (vi n) rfl (hf1.g 0 0))<|sQ 22 (yL b2 n) (rn ?_)
   refine cw_cond (b:=(decide (b2<n))) rfl (fun hb3=>?_) (fun hb3=>?_)
   ·skip
    have hF5:=ct hb2 hb3
    refine cw_skip (cq ?_)
    obtain ⟨z2,hz2,hF6⟩:=bI hF5
    refine cw_mid (fun f w=>∃ (Edges2:List TEdge) (B3:Option Addr) (c3:Nat),Edges2=z2∧FF f [(0,vi n),(2,pt (aD b) 0),(4,pt (aD b1) 0),(5,vi (a:Int)),(6,vi b2)]∧ST w0 [] w [O0,⟨aD b1,25,[vi n,.slice B3 Edges2.length c3],2⟩,⟨B3,87,(Edges2.flatMap eN1),c3*2⟩] []) ?_ ?_
    ·skip
     refine cw_block (cq (cr ?_))
     refine sQ 25 (ym (vi b2) rfl (hf1.g 6 4))<|sQ 26 (ym (vi (a:Int)) rfl (hf1.g 5 3))<|sQ 27 (yP (a:Int) 1)<|sQ 28 (yE b2 (i64.wrap ((a:Int)+1)))<|sQ 29 (ym (.bool (b2==(i64.wrap ((a:Int)+1))))) ?_
     refine sgq 30 (B:=(!(b2==(i64.wrap ((a:Int)+1))))) rfl rfl (uF_ 29) (fun hg=>(ym (vi (a:Int)) rfl (hf1.g 5 3))) ?_
     refine sgq 31 (B:=(!(b2==(i64.wrap ((a:Int)+1))))) rfl rfl (uF_ 29) (fun hg1=>(yE (a:Int) 0 rfl (gv_of (v:=vi (a:Int)) hg1))) ?_
     refine sgq 32 (B:=(!(b2==(i64.wrap ((a:Int)+1))))) rfl rfl (uF_ 29) (fun hg2=>(ym (.bool ((a:Int)==0)) rfl (gv_of (v:=.bool ((a:Int)==0)) hg2))) ?_
     refine sgq 33 (B:=((!(b2==(i64.wrap ((a:Int)+1))))&&((a:Int)==0))) rfl rfl (wt_gt (gd_of (t:=32) (by kernel_rfl) rfl)) (fun hg3=>(ym (vi b2) rfl (hf1.g 6 4))) ?_
     refine sgq 34 (B:=((!(b2==(i64.wrap ((a:Int)+1))))&&((a:Int)==0))) rfl rfl (wt_gt (gd_of (t:=32) (by kernel_rfl) rfl)) (fun hg4=>(ym (vi n) rfl (hf1.g 0 0))) ?_
     refine sgq 35 (B:=((!(b2==(i64.wrap ((a:Int)+1))))&&((a:Int)==0))) rfl rfl (wt_gt (gd_of (t:=32) (by kernel_rfl) rfl)) (fun hg5=>(yM n 1 rfl (gv_of (v:=vi n) hg5))) ?_
     refine sgq 36 (B:=((!(b2==(i64.wrap ((a:Int)+1))))&&((a:Int)==0))) rfl rfl (wt_gt (gd_of (t:=32) (by kernel_rfl) rfl)) (fun hg6=>(yE b2 (i64.wrap (n-1)) rfl (gv_of (v:=vi b2) hg6) (gv_of (v:=vi (i64.wrap (n-1))) hg6))) ?_
     refine sgq 37 (B:=(!(b2==(i64.wrap ((a:Int)+1))))) (v:=.bool (((a:Int)==0)&&(b2==(i64.wrap (n-1))))) rfl rfl (uF_ 29) (fun hg7=>(Y_and (b:=((a:Int)==0)) (z:=(b2==(i64.wrap (n-1)))) rfl (gv_of (v:=.bool ((a:Int)==0)) hg7) (gv_and (B:=(!(b2==(i64.wrap ((a:Int)+1))))) (C:=((a:Int)==0)) (v:=.bool (b2==(i64.wrap (n-1)))) hg7) rfl)) ?_
     refine sQ 38 (Y_or (b:=(b2==(i64.wrap ((a:Int)+1)))) (z:=(((a:Int)==0)&&(b2==(i64.wrap (n-1))))) rfl rfl rfl rfl) (rn ?_)
     refine cw_cond (b:=((b2==(i64.wrap ((a:Int)+1)))||(((a:Int)==0)&&(b2==(i64.wrap (n-1)))))) rfl (fun hb4=>?_) (fun hb4=>?_)
     ·skip
      have hF7:=ct hz2 hb4
      refine cr ?_
      refine sQ 39 (yd (aD b1) 0 0 K45 K39 rfl (hf1.g 4 2))<|sQ 40 (yl (aD b1) 1 [vi n,.slice B2 Edges1.length c2] (.slice B2 Edges1.length c2) K59 (hS9.c 1))<|sQ 41 (ym (vi (a:Int)) rfl (hf1.g 5 3))<|sQ 42 (ym (vi b2) rfl (hf1.g 6 4))<|sQ 43 (Y_buildS (zs:=[vi 0,vi 0]) (vs:=[(0,vi (a:Int)),(1,vi b2)]) (cs:=[vi (a:Int),vi b2]) K92 K46 rfl (mpc rfl (mpc rfl mpn)) rfl) ?_
      refine sS 44 (Ys_bslice (s:=2) (len:=1) (vs:=[(0,.agg #[vi (a:Int),vi b2])]) (cs:=[vi (a:Int),vi b2]) (zs:=[vi 0,vi 0]) (m:=2) hS9 K26 K20 K93 rfl (mpc rfl mpn) rfl rfl rfl (by kernel_rfl) (by kernel_rfl) rfl) ?_
      rintro _ w_5 ⟨b3,rfl,hS11⟩
      obtain ⟨hap,hF7⟩:=chk_inv hF7
      refine sS 45 (Ys_append (s:=2) (by':=16) (i:=2) (nn:=Edges1.length) (c:=c2) (k:=1) (len:=(Edges1++[(TEdge.mk (a:Int) b2)]).length) (B:=B2) (xs:=([(TEdge.mk (a:Int) b2)].flatMap eN1)) (cs':=((Edges1++[(TEdge.mk (a:Int) b2)]).flatMap eN1)) hS11 K26 K20 K94 K46 rfl (by decide) rfl rfl rfl rfl (fm_lenn (l:=Edges1) enc_Edge_len rfl) rfl (hS11.c 3) (fm_lenn (l:=[(TEdge.mk (a:Int) b2)]) enc_Edge_len rfl) (fm_one' (enc:=eN1) enc_Edge_one [(TEdge.mk (a:Int) b2)]) (by have:=hap; omega) (by have:=hap; simp only [maxLen]; omega) (fm_app _ _) (app_len (l:=Edges1) (l':=[(TEdge.mk (a:Int) b2)]) rfl rfl)) ?_
      rintro _ w_6 ⟨B4,c4,rfl,hS12⟩
      refine sQ 46 (yd (aD b1) 0 0 K45 K39 rfl (hf1.g 4 2)) ?_
      refine s0 (yS 1 1 (aD b1) 25 (.slice B4 ((Edges1++[(TEdge.mk (a:Int) b2)]).length) c4) [.slice B4 ((Edges1++[(TEdge.mk (a:Int) b2)]).length) c4] 1 [vi n,.slice B4 ((Edges1++[(TEdge.mk (a:Int) b2)]).length) c4] hS12 K39) ?_
      rintro _ w_7 ⟨rfl,hS13⟩
      refine rn ?_
      exact ⟨(Edges1++[(TEdge.mk (a:Int) b2)]),B4,c4,(sI hF7),(hf1.a 0 0 (hf1.a 2 1 (hf1.a 4 2 (hf1.a 5 3 (hf1.a 6 4 fn_))))),(hS13.sel [0,1,2] rfl rfl)⟩
     ·skip
      have hF8:=cf' hz2 hb4
      refine cw_skip ?_
      exact ⟨Edges1,B2,c2,(sI hF8),(hf1.a 0 0 (hf1.a 2 1 (hf1.a 4 2 (hf1.a 5 3 (hf1.a 6 4 fn_))))),(hS9.sel [0,1,2] rfl rfl)⟩
    rintro f w ⟨Edges2,B3,c3,rfl,hf2,hS10⟩
    refine cr ?_
    refine sQ 23 (ym (vi b2) rfl (hf2.g 6 4))<|sQ 24 (yP b2 1)<|sQ 6 (yg (vi (i64.wrap (b2+1)))) (rn ?_)
    obtain rfl:=sI hF6
    exact ⟨K18,Nat.lt_succ_self _,Edges2,(i64.wrap (b2+1)),B3,c3,(hf2.a 0 0 (hf2.a 2 1 (hf2.a 4 2 (hf2.a 5 3 (fc rfl fn_))))),(hS10.sel [0,1,2] rfl rfl),hL3⟩
   ·skip
    have hF9:=cf' hb2 hb3
    refine cw_exit rfl ?_
    obtain rfl:=sI hF9
    obtain rfl:=sI hL3
    refine cr ?_
    refine sQ 16 (ym (vi (a:Int)) rfl (hf1.g 5 3))<|sQ 17 (yP (a:Int) 1)<|sQ 5 (yg (vi (i64.wrap ((a:Int)+1)))) (rn ?_)
    obtain rfl:=sI hF4
    exact ⟨K4,Nat.lt_succ_self _,a+1,Edges1,B2,c2,(hf1.a 0 0 (hf1.a 2 1 (hf1.a 4 2 (fc (congrArg (Value.int .i64) (wr_succ hlt1 hN)) fn_)))),(hS9.sel [0,1,2] rfl rfl),(by omega),hL1⟩
  ·skip
   obtain rfl:k_=0:=by have h:=of_decide_eq_false hlt; omega
   refine cw_exit rfl ?_
   obtain rfl:=sI hL
   refine cq (cr ?_)
   let V2:List Value:=[vi n,.slice B1 Edges.length c1]
   refine sQ 47 (yb (aD b1) 0 V2 K5 K3 (hS7.c 1) rfl (hf.g 4 2)) ?_
   refine s0 (yT 0 2 (aD b) 25 (.agg V2.toArray) V2 0 hS7 K3 rfl (hf.g 2 1)) ?_
   rintro _ w_8 ⟨rfl,hS14⟩
   refine sQ 3 (yg (.bool true)) (rn (ct_ ?_))
   obtain ⟨rfl,rfl⟩:=pr2 (sI hF3)
   exact ret2 Try.results43 (v1:=.agg V2.toArray) (resAt_cellA (B:=aD b) (i:=0) (cs:=V2) (vs:=V2) (hf.g 2 1) K5 K3 (hS14.c 0) rfl rfl) (v2:=.bool true) (resAt_tmp rfl) ⟨B1,c1,rfl,(hS14.sN [2])⟩

theorem c_spec_l19Edges (nodes:Int) (pairs:List (List Int)) (B:Option Addr) (c n:Nat) (w0:World) (hn:pairs.length=n) (hS:ST w0 [] w0 [] [⟨B,(pairs.flatMap encA2_Int)⟩]) {r_:List TEdge} (hF:F_spec_l19Edges nodes pairs=some r_) :
  CV Try.prog 44 #[vi nodes,.slice B n c] w0 (fun v w'=>∃ (B1:Option Addr) (c1:Nat),v=.slice B1 r_.length c1∧ST w0 [] w' [⟨B1,87,(r_.flatMap eN1),c1*2⟩] []):=by
 subst hn
 unfold F_spec_l19Edges at hF
 refine cv_of_cw 48 Try.func44 rfl Try.ntmps44 rfl ?_
 refine cq (cr ?_)
 refine sQ 4 (yg (.slice none 0 0)) (rn (cq (cr ?_)))
 refine sQ 5 (yg (.slice none 0 0)) (rn (cq (cq (cr ?_))))
 refine sQ 6 (yg (vi 0)) (rn ?_)
 obtain ⟨hN,hF⟩:=chk_inv hF
 obtain ⟨z,hz,hF1⟩:=bI hF
 have hS2:=hS.addNil 87
 refine cw_block ?_
 let R0:Ro:=⟨B,(pairs.flatMap encA2_Int)⟩
 refine cw_loop (fun k f w=>∃ (a:Nat) (out:List TEdge) (B2:Option Addr) (c2:Nat),FF f [(0,vi nodes),(1,.slice B pairs.length c),(5,.slice B2 out.length c2),(6,vi (a:Int))]∧ST w0 [] w [⟨B2,87,(out.flatMap eN1),c2*2⟩] [R0]∧a+k=nodes.toNat∧forN (F_spec_l19Edges_l1 nodes pairs) k a out=some z) nodes.toNat ⟨0,[],none,0,(fc rfl (fc rfl (fc rfl (fc rfl fn_)))),(hS2.sel [0] rfl rfl),Nat.zero_add _,hz⟩ ?_
 rintro k_ f w ⟨a,out,B2,c2,hf,hS1,hik,hL⟩
 refine cq (cq (cr ?_))
 refine sQ 10 (ym (vi (a:Int)) rfl (hf.g 6 3))<|sQ 11 (ym (vi nodes) rfl (hf.g 0 0))<|sQ 12 (yL (a:Int) nodes) (rn ?_)
 refine cw_cond (b:=(decide ((a:Int)<nodes))) rfl (fun hlt=>?_) (fun hlt=>?_)
 ·skip
  have hlt1:a<nodes.toNat:=by have h:=of_decide_eq_true hlt; omega
  obtain ⟨K4,rfl⟩:∃ k2,k_=k2+1:=⟨k_-1,by omega⟩
  obtain ⟨y,hb,hL1⟩:=forN_go hL
  unfold F_spec_l19Edges_l1 at hb
  refine cw_skip (cq (cw_block (cq (cr ?_))))
  refine sQ 15 (ym (vi (a:Int)) rfl (hf.g 6 3))<|sQ 16 (yP (a:Int) 1)<|sQ 7 (yg (vi (i64.wrap ((a:Int)+1)))) (rn ?_)
  obtain ⟨z1,hz1,hF2⟩:=bI hb
  refine cw_block ?_
  refine cw_loop (fun k f w=>∃ (out1:List TEdge) (b:Int) (B3:Option Addr) (c3:Nat),FF f [(0,vi nodes),(1,.slice B pairs.length c),(5,.slice B3 out1.length c3),(6,vi (a:Int)),(7,vi b)]∧ST w0 [] w [⟨B3,87,(out1.flatMap eN1),c3*2⟩] [R0]∧whX (F_spec_l19Edges_l2 nodes pairs a) k (out1,b)=some z1) fuel ⟨out,(i64.wrap ((a:Int)+1)),B2,c2,(hf.a 0 0 (hf.a 1 1 (hf.a 5 2 (hf.a 6 3 (fc rfl fn_))))),(hS1.sel [0] rfl rfl),hz1⟩ ?_
  rintro K10 f w ⟨out1,b,B3,c3,hf1,hS3,hL2⟩
  obtain ⟨K18,y1,rfl,hb1,hL3⟩:=whX_go hL2
  unfold F_spec_l19Edges_l2 at hb1
  refine cq (cq (cr ?_))
  refine sQ 17 (ym (vi b) rfl (hf1.g 7 4))<|sQ 18 (ym (vi nodes) rfl (hf1.g 0 0))<|sQ 19 (yL b nodes) (rn ?_)
  refine cw_cond (b:=(decide (b<nodes))) rfl (fun hb2=>?_) (fun hb2=>?_)
  ·skip
   have hF3:=ct hb1 hb2
   refine cw_skip (cq (cw_block (cq (cr ?_))))
   refine sQ 22 (ym (.slice B pairs.length c) rfl (hf1.g 1 1))<|sQ 23 (Y_len (B:=B) (m:=pairs.length) (c:=c) K85 rfl rfl)<|sQ 24 (ym (vi 0)) (rn ?_)
   obtain ⟨hN1,hF3⟩:=chk_inv hF3
   obtain ⟨z2,hz2,hF4⟩:=bI hF3
   refine cw_mid (fun f w=>∃ (out2:List TEdge) (B4:Option Addr) (c4:Nat),.inl out2=z2∧FF f [(0,vi nodes),(1,.slice B pairs.length c),(5,.slice B4 out2.length c4),(6,vi (a:Int)),(7,vi b)]∧ST w0 [] w [⟨B4,87,(out2.flatMap eN1),c4*2⟩] [R0]) ?_ ?_
   ·skip
    refine cw_block ?_
    refine cw_loop (fun k f w=>∃ (i1:Nat) (out3:List TEdge) (B5:Option Addr) (c5:Nat),FF f [(0,vi nodes),(1,.slice B pairs.length c),(5,.slice B5 out3.length c5),(6,vi (a:Int)),(7,vi b),(22,.slice B pairs.length c),(23,vi (pairs.length:Int)),(24,vi (i1:Int))]∧ST w0 [] w [⟨B5,87,(out3.flatMap eN1),c5*2⟩] [R0]∧i1+k=pairs.length∧forX (F_spec_l19Edges_l3 pairs a b) k i1 out3=some z2) pairs.length ⟨0,out1,B3,c3,(hf1.a 0 0 (hf1.a 1 1 (hf1.a 5 2 (hf1.a 6 3 (hf1.a 7 4 (fc rfl (fc rfl (fc rfl fn_)))))))),(hS3.sel [0] rfl rfl),Nat.zero_add _,hz2⟩ ?_
    rintro K24 f w ⟨i1,out3,B5,c5,hf3,hS5,hik2,hL4⟩
    refine cq (cr ?_)
    refine sQ 25 (yL (i1:Int) (pairs.length:Int) rfl (hf3.g 24 7) (hf3.g 23 6)) (rn (cq ?_))
    refine cw_cond (b:=(decide ((i1:Int)<(pairs.length:Int)))) rfl (fun hlt2=>?_) (fun hlt2=>?_)
    ·skip
     have hlt3:i1<pairs.length:=by have h:=of_decide_eq_true hlt2; omega
     obtain ⟨K111,rfl⟩:∃ k2,K24=k2+1:=⟨K24-1,by omega⟩
     obtain ⟨y2,hb3,hL5⟩:=forX_go hL4
     unfold F_spec_l19Edges_l3 at hb3
     refine cw_skip (cq (cw_block (cq (cr ?_))))
     obtain ⟨x,hx,hb3⟩:=bI hb3
     refine sQ 26 (Y_index (B:=B) (m:=pairs.length) (c:=c) (k:=.i64) (i:=(i1:Int)) K85 K73 rfl (hf3.g 22 5) (hf3.g 24 7) (gi_isSome encA2_Int_len rfl (hS5.rf (i:=0) rfl) hx) (getI_nn hx) (getI_ltI hx rfl))<|sQ 27 (ya B ((i1:Int).toNat*2) (pairs.flatMap encA2_Int) (([(x.getD 0 0),(x.getD 1 0)]:List Int).flatMap encI) K130 K73 (hS5.rf (i:=0) rfl) rfl rfl (encA2_Int_len x) (gi_seg encA2_Int_len hx)) ?_
     refine sS 9 (yN ((List.replicate 2 0).flatMap encI) 2 hS5 K95) ?_
     rintro _ w_ ⟨b1,rfl,hS6⟩
     refine s0 (yT 1 2 (aD b1) 82 (.agg (([(x.getD 0 0),(x.getD 1 0)]:List Int).flatMap encI).toArray) (([(x.getD 0 0),(x.getD 1 0)]:List Int).flatMap encI) 0 hS6 K73 rfl rfl rfl rfl (fm_lenn2 encI_len rfl rfl) (fm_one' encI_one _) rfl (fm_fit encI_len (List.length_replicate (n:=2)) rfl) (fm_spl encI_len (List.length_replicate (n:=2)) rfl)) ?_
     rintro _ w_1 ⟨rfl,hS7⟩
     refine rn (cq (cr ?_))
     let V1:List Value:=[vi (x.getD 0 0),vi (x.getD 1 0)]
     refine sQ 28 (yb (aD b1) 0 (([(x.getD 0 0),(x.getD 1 0)]:List Int).flatMap encI) K130 K73 (hS7.c 1) rfl rfl (fm_lenn2 encI_len rfl rfl) (fm_whole encI_len rfl rfl))<|sQ 29 (ym (vi (a:Int)) rfl (hf3.g 6 3))<|sQ 30 (ym (vi b) rfl (hf3.g 7 4))<|sQ 31 (show Y _ _ _ _ _ (.agg (([(a:Int),b]:List Int).flatMap encI).toArray) from Y_buildA (zs:=[vi 0,vi 0]) (vs:=[(0,vi (a:Int)),(1,vi b)]) (cs:=[vi (a:Int),vi b]) K100 K0 K95 rfl (mpc rfl (mpc rfl mpn)) (by kernel_rfl))<|sQ 32 (Y_eqA (xs:=V1.toArray) (ys:=#[vi (a:Int),vi b]) (b:=(((x.getD 0 0)==(a:Int))&&(((x.getD 1 0)==b)&&true))) k_eg_82 rfl rfl rfl (eqr_arr (xs:=V1) (ys:=[vi (a:Int),vi b]) K100 K0 rfl (itm_sc K1 rfl rfl (eqr_int K43) (itm_sc K1 rfl rfl (eqr_int K43) itm_nil))))<|sQ 33 (ym (.bool (((x.getD 0 0)==(a:Int))&&(((x.getD 1 0)==b)&&true)))) ?_
     refine sgq 34 (B:=(!(((x.getD 0 0)==(a:Int))&&(((x.getD 1 0)==b)&&true)))) (v:=.agg (([(x.getD 0 0),(x.getD 1 0)]:List Int).flatMap encI).toArray) rfl rfl (uF_ 33) (fun hg=>(yb (aD b1) 0 (([(x.getD 0 0),(x.getD 1 0)]:List Int).flatMap encI) K130 K73 (hS7.c 1) rfl rfl (fm_lenn2 encI_len rfl rfl) (fm_whole encI_len rfl rfl))) ?_
     refine sgq 35 (B:=(!(((x.getD 0 0)==(a:Int))&&(((x.getD 1 0)==b)&&true)))) rfl rfl (uF_ 33) (fun hg1=>(ym (vi b) rfl (hf3.g 7 4))) ?_
     refine sgq 36 (B:=(!(((x.getD 0 0)==(a:Int))&&(((x.getD 1 0)==b)&&true)))) rfl rfl (uF_ 33) (fun hg2=>(ym (vi (a:Int)) rfl (hf3.g 6 3))) ?_
     refine sgq 37 (B:=(!(((x.getD 0 0)==(a:Int))&&(((x.getD 1 0)==b)&&true)))) (v:=.agg (([b,(a:Int)]:List Int).flatMap encI).toArray) rfl rfl (uF_ 33) (fun hg3=>(show Y _ _ _ _ _ (.agg (([b,(a:Int)]:List Int).flatMap encI).toArray) from Y_buildA (zs:=[vi 0,vi 0]) (vs:=[(0,vi b),(1,vi (a:Int))]) (cs:=[vi b,vi (a:Int)]) K100 K0 K95 rfl (mpc (gv_of (v:=vi b) hg3) (mpc (gv_of (v:=vi (a:Int)) hg3) mpn)) (by kernel_rfl))) ?_
     refine sgq 38 (B:=(!(((x.getD 0 0)==(a:Int))&&(((x.getD 1 0)==b)&&true)))) (v:=.bool (((x.getD 0 0)==b)&&(((x.getD 1 0)==(a:Int))&&true))) rfl rfl (uF_ 33) (fun hg4=>(Y_eqA (xs:=V1.toArray) (ys:=#[vi b,vi (a:Int)]) (b:=(((x.getD 0 0)==b)&&(((x.getD 1 0)==(a:Int))&&true))) k_eg_82 rfl (gv_of (v:=.agg (([(x.getD 0 0),(x.getD 1 0)]:List Int).flatMap encI).toArray) hg4) (gv_of (v:=.agg (([b,(a:Int)]:List Int).flatMap encI).toArray) hg4) (eqr_arr (xs:=V1) (ys:=[vi b,vi (a:Int)]) K100 K0 rfl (itm_sc K1 rfl rfl (eqr_int K43) (itm_sc K1 rfl rfl (eqr_int K43) itm_nil))))) ?_
     refine sQ 39 (Y_or (b:=(((x.getD 0 0)==(a:Int))&&(((x.getD 1 0)==b)&&true))) (z:=(((x.getD 0 0)==b)&&(((x.getD 1 0)==(a:Int))&&true))) rfl rfl rfl rfl) (rn ?_)
     refine cw_cond (b:=((((x.getD 0 0)==(a:Int))&&(((x.getD 1 0)==b)&&true))||(((x.getD 0 0)==b)&&(((x.getD 1 0)==(a:Int))&&true)))) rfl (fun hb4=>?_) (fun hb4=>?_)
     ·skip
      have hF5:=ct hb3 hb4
      refine cq (cr ?_)
      refine sQ 40 (ym (.slice B5 out3.length c5) rfl (hf3.g 5 2))<|sQ 41 (ym (vi (a:Int)) rfl (hf3.g 6 3))<|sQ 42 (ym (vi b) rfl (hf3.g 7 4))<|sQ 43 (Y_buildS (zs:=[vi 0,vi 0]) (vs:=[(0,vi (a:Int)),(1,vi b)]) (cs:=[vi (a:Int),vi b]) K92 K46 rfl (mpc rfl (mpc rfl mpn)) rfl) ?_
      refine sS 44 (Ys_bslice (s:=2) (len:=1) (vs:=[(0,.agg #[vi (a:Int),vi b])]) (cs:=[vi (a:Int),vi b]) (zs:=[vi 0,vi 0]) (m:=2) hS7 K26 K20 K93 rfl (mpc rfl mpn) rfl rfl rfl (by kernel_rfl) (by kernel_rfl) rfl) ?_
      rintro _ w_2 ⟨b2,rfl,hS8⟩
      obtain ⟨hap,hF5⟩:=chk_inv hF5
      refine sS 45 (Ys_append (s:=2) (by':=16) (i:=0) (nn:=out3.length) (c:=c5) (k:=1) (len:=(out3++[(TEdge.mk (a:Int) b)]).length) (B:=B5) (xs:=([(TEdge.mk (a:Int) b)].flatMap eN1)) (cs':=((out3++[(TEdge.mk (a:Int) b)]).flatMap eN1)) hS8 K26 K20 K94 K46 rfl (by decide) rfl rfl rfl rfl (fm_lenn (l:=out3) enc_Edge_len rfl) rfl (hS8.c 2) (fm_lenn (l:=[(TEdge.mk (a:Int) b)]) enc_Edge_len rfl) (fm_one' (enc:=eN1) enc_Edge_one [(TEdge.mk (a:Int) b)]) (by have:=hap; omega) (by have:=hap; simp only [maxLen]; omega) (fm_app _ _) (app_len (l:=out3) (l':=[(TEdge.mk (a:Int) b)]) rfl rfl)) ?_
      rintro _ w_3 ⟨B6,c6,rfl,hS9⟩
      refine sQ 5 (yg (.slice B6 ((out3++[(TEdge.mk (a:Int) b)]).length) c6)) (rn ?_)
      refine cw_exit rfl ?_
      obtain rfl:=sI hF5
      exact ⟨(out3++[(TEdge.mk (a:Int) b)]),B6,c6,(sI hL5),(hf3.a 0 0 (hf3.a 1 1 (fc rfl (hf3.a 6 3 (hf3.a 7 4 fn_))))),(hS9.sel [0] rfl rfl)⟩
     ·skip
      have hF6:=cf' hb3 hb4
      refine cw_skip (cr ?_)
      refine sQ 46 (yP (i1:Int) 1 rfl (hf3.g 24 7))<|sQ 24 (ym (vi (i64.wrap ((i1:Int)+1)))) (rn ?_)
      obtain rfl:=sI hF6
      exact ⟨K111,Nat.lt_succ_self _,i1+1,out3,B5,c5,(hf3.a 0 0 (hf3.a 1 1 (hf3.a 5 2 (hf3.a 6 3 (hf3.a 7 4 (hf3.a 22 5 (hf3.a 23 6 (fc (congrArg (Value.int .i64) (wr_succ hlt3 hN1)) fn_)))))))),(hS7.sel [0] rfl rfl),(by omega),hL5⟩
    ·skip
     obtain rfl:K24=0:=by have h:=of_decide_eq_false hlt2; omega
     refine cw_exit rfl ?_
     exact ⟨out3,B5,c5,(sI hL4),(hf3.a 0 0 (hf3.a 1 1 (hf3.a 5 2 (hf3.a 6 3 (hf3.a 7 4 fn_))))),(hS5.sel [0] rfl rfl)⟩
   rintro f w ⟨out2,B4,c4,rfl,hf2,hS4⟩
   refine cr ?_
   refine sQ 20 (ym (vi b) rfl (hf2.g 7 4))<|sQ 21 (yP b 1)<|sQ 7 (yg (vi (i64.wrap (b+1)))) (rn ?_)
   obtain rfl:=sI hF4
   exact ⟨K18,Nat.lt_succ_self _,out2,(i64.wrap (b+1)),B4,c4,(hf2.a 0 0 (hf2.a 1 1 (hf2.a 5 2 (hf2.a 6 3 (fc rfl fn_))))),(hS4.sel [0] rfl rfl),hL3⟩
  ·skip
   have hF7:=cf' hb1 hb2
   refine cw_exit rfl ?_
   obtain rfl:=sI hF7
   obtain rfl:=sI hL3
   refine cr ?_
   refine sQ 13 (ym (vi (a:Int)) rfl (hf1.g 6 3))<|sQ 14 (yP (a:Int) 1)<|sQ 6 (yg (vi (i64.wrap ((a:Int)+1)))) (rn ?_)
   obtain rfl:=sI hF2
   exact ⟨K4,Nat.lt_succ_self _,a+1,out1,B3,c3,(hf1.a 0 0 (hf1.a 1 1 (hf1.a 5 2 (fc (congrArg (Value.int .i64) (wr_succ hlt1 hN)) fn_)))),(hS3.sel [0] rfl rfl),(by omega),hL1⟩
 ·skip
  obtain rfl:k_=0:=by have h:=of_decide_eq_false hlt; omega
  refine cw_exit rfl ?_
  obtain rfl:=sI hL
  refine cq (cr ?_)
  refine sQ 47 (ym (.slice B2 out.length c2) rfl (hf.g 5 2))<|sQ 4 (yg (.slice B2 out.length c2)) (rn (ct_ ?_))
  obtain rfl:=sI hF1
  exact ret1 Try.results44 (v1:=.slice B2 out.length c2) (resAt_tmp rfl) ⟨B2,c2,rfl,(hS1.sN [0])⟩

theorem c_spec_l1Cur_device (c:Tl1Cur) (lo:Int) (hi:Int) (B:Option Addr) (B1:Option Addr) (c1 n:Nat) (w0:World) (hn:c.code.length=n) (hS:ST w0 (bl [⟨B,51,[.slice B1 n c1,vi c.at_,.int .u64 c.seed],3⟩]) w0 [⟨B,51,[.slice B1 n c1,vi c.at_,.int .u64 c.seed],3⟩] [⟨B1,(c.code.flatMap enc_u8)⟩]) {r_:TCouplingGraph} {m:Tl1Cur} (hF:F_spec_l1Cur_device c lo hi=some (r_,m)) :
  CV Try.prog 19 #[pt B 0,vi lo,vi hi] w0 (fun v w'=>∃ (B2:Option Addr) (c2:Nat),v=.agg #[vi r_.Nodes,.slice B2 r_.Edges.length c2]∧ST w0 (bl [⟨B,51,[.slice B1 n c1,vi c.at_,.int .u64 c.seed],3⟩]) w' [⟨B,51,[.slice B1 n c1,vi m.at_,.int .u64 m.seed],3⟩,⟨B2,87,(r_.Edges.flatMap eN1),c2*2⟩] []):=by
 subst hn
 unfold F_spec_l1Cur_device at hF
 refine cv_of_cw 77 Try.func19 rfl Try.ntmps19 rfl ?_
 refine cq (cr ?_)
 refine sS 6 (yN [vi 0,.slice none 0 0] 2 hS K48) ?_
 rintro _ w_ ⟨b,rfl,hS1⟩
 refine rn (cq (cr ?_))
 refine sQ 12 (ym (vi lo))<|sQ 13 (ym (pt B 0))<|sQ 14 (ym (vi hi))<|sQ 15 (ym (vi lo))<|sQ 16 (yM hi lo)<|sQ 17 (yP (i64.wrap (hi-lo)) 1) ?_
 obtain ⟨⟨r_1,m1⟩,hc,hF⟩:=bI hF
 refine sc 18 rfl rfl (yC [pt B 0,vi (i64.wrap ((i64.wrap (hi-lo))+1))] K17 (c_spec_l1Cur_pick c (i64.wrap ((i64.wrap (hi-lo))+1)) B B1 c1 c.code.length _ rfl (hS1.inn [true,false] rfl [(true,0)] rfl) hc)) ?_
 rintro _ w_1 ⟨rfl,hd⟩
 have hS2:=hS1.out [true,false] rfl hd
 refine sQ 19 (yP lo r_1)<|sQ 7 (yg (vi (i64.wrap (lo+r_1)))) (rn (cq (cr ?_)))
 refine sQ 21 (ym (vi (i64.wrap (lo+r_1)))) ?_
 obtain ⟨⟨r_2,r_3⟩,hc1,hF⟩:=bI hF
 refine sc 22 rfl rfl (yC [vi (i64.wrap (lo+r_1))] k_call_42 (c_spec_LineGraph (i64.wrap (lo+r_1)) _  (hS2.inn0 [] rfl) hc1)) ?_
 rintro _ w_2 ⟨B3,c3,rfl,hd1⟩
 have hS3:=hS2.out0 hd1
 let V8:List Value:=[vi r_2.Nodes,.slice B3 r_2.Edges.length c3]
 refine sQ 20 (ym (.tuple #[.agg V8.toArray,.bool r_3]))<|sQ 23 (ye (.agg V8.toArray))<|sQ 24 (ye (.bool r_3)) ?_
 refine sS 8 (yN [vi 0,.slice none 0 0] 2 hS3 K48) ?_
 rintro _ w_3 ⟨b1,rfl,hS4⟩
 refine s0 (yT 3 2 (aD b1) 25 (.agg V8.toArray) V8 0 hS4 K3) ?_
 rintro _ w_4 ⟨rfl,hS5⟩
 refine sQ 9 (yg (.bool r_3)) (rn (cq ?_))
 obtain ⟨z,hz,hF1⟩:=bI hF
 let O0:Ob:=⟨B,51,[.slice B1 c.code.length c1,vi c.at_,.int .u64 c.seed],3⟩
 let O2:Ob:=⟨aD b,25,[vi 0,.slice none 0 0],2⟩
 let R5:Ro:=⟨B1,(c.code.flatMap enc_u8)⟩
 refine cw_mid (fun f w=>∃ (at_:Int) (seed:Int) (Nodes:Int) (Edges:List TEdge) (B4:Option Addr) (c4:Nat),(at_,seed,Nodes,Edges)=z∧FF f [(0,pt B 0),(6,pt (aD b) 0),(7,vi (i64.wrap (lo+r_1))),(8,pt (aD b1) 0)]∧ST w0 (bl [O0]) w [⟨B,51,[.slice B1 c.code.length c1,vi at_,.int .u64 seed],3⟩,O2,⟨aD b1,25,[vi Nodes,.slice B4 Edges.length c4],2⟩,⟨B4,87,(Edges.flatMap eN1),c4*2⟩] [R5]) ?_ ?_
 ·skip
  refine cq (cr ?_)
  refine sQ 25 (ym (vi (i64.wrap (lo+r_1))))<|sQ 26 (Y_ge (k:=.i64) (a:=(i64.wrap (lo+r_1))) (b:=3) rfl rfl rfl)<|sQ 27 (ym (.bool (decide (3≤(i64.wrap (lo+r_1)))))) ?_
  refine sgq 28 (B:=(decide (3≤(i64.wrap (lo+r_1))))) rfl rfl (uT_ 27) (fun hg=>(ym (pt B 0))) ?_
  refine rw_split (B:=(decide (3≤(i64.wrap (lo+r_1))))) (fun hb=>?_) (fun hb=>?_)
  ·skip
   have hF2:=ct hz hb
   obtain ⟨⟨r_4,m2⟩,hc2,hF2⟩:=bI hF2
   refine scg 29 rfl rfl (uT_ 27) hb (yC [pt B 0,vi 4] K101 (c_spec_l1Cur_one (Tl1Cur.mk c.code m1.at_ m1.seed) 4 B B1 c1 c.code.length _ rfl (hS5.inn [false,true,false,false] rfl [(true,0)] rfl) hc2) rfl (mc (gv_of (v:=pt B 0) hb) (mc rfl mn))) ?_
   rintro _ w_5 ⟨rfl,hd2⟩
   have hS7:=hS5.out [false,true,false,false] rfl hd2
   refine sQ 30 (Y_pickT (b:=(decide (3≤(i64.wrap (lo+r_1))))) (v:=.bool r_4) rfl rfl hb rfl) (rn ?_)
   refine cw_cond (b:=r_4) rfl (fun hb1=>?_) (fun hb1=>?_)
   ·skip
    have hF3:=ct hF2 hb1
    refine cr ?_
    refine sQ 32 (ym (vi (i64.wrap (lo+r_1)))) ?_
    obtain ⟨⟨r_5,r_6⟩,hc3,hF3⟩:=bI hF3
    refine sc 33 rfl rfl (yC [vi (i64.wrap (lo+r_1))] k_call_43 (c_spec_RingGraph (i64.wrap (lo+r_1)) _  (hS7.inn0 [] rfl) hc3)) ?_
    rintro _ w_6 ⟨B5,c5,rfl,hd3⟩
    have hS8:=hS7.out0 hd3
    let V9:List Value:=[vi r_5.Nodes,.slice B5 r_5.Edges.length c5]
    refine sQ 31 (ym (.tuple #[.agg V9.toArray,.bool r_6]))<|sQ 34 (ye (.agg V9.toArray))<|sQ 35 (ye (.bool r_6)) ?_
    refine s0 (yT 2 2 (aD b1) 25 (.agg V9.toArray) V9 0 hS8 K3) ?_
    rintro _ w_7 ⟨rfl,hS9⟩
    refine rn ?_
    exact ⟨m2.at_,m2.seed,r_5.Nodes,r_5.Edges,B5,c5,(sI hF3),(fc rfl (fc rfl (fc rfl (fc rfl fn_)))),(hS9.sel [3,0,2,4] rfl rfl)⟩
   ·skip
    have hF4:=cf' hF2 hb1
    refine cw_skip ?_
    exact ⟨m2.at_,m2.seed,r_2.Nodes,r_2.Edges,B3,c3,(sI hF4),(fc rfl (fc rfl (fc rfl (fc rfl fn_)))),(hS7.sel [3,0,2,1] rfl rfl)⟩
  ·skip
   have hF5:=cf' hz hb
   refine sgn 29 rfl rfl (uT_ 27) hb ?_
   refine sQ 30 (Y_pickF (b:=(decide (3≤(i64.wrap (lo+r_1))))) (v:=.bool false) rfl rfl hb rfl) (rn ?_)
   refine cw_cond (b:=false) rfl (fun h=>by cases h) (fun _=>?_)
   refine cw_skip ?_
   exact ⟨m1.at_,m1.seed,r_2.Nodes,r_2.Edges,B3,c3,(sI hF5),(fc rfl (fc rfl (fc rfl (fc rfl fn_)))),(hS5.sel [1,0,3,2] rfl rfl)⟩
 rintro f w ⟨at_,seed,Nodes,Edges,B4,c4,rfl,hf,hS6⟩
 refine cq ?_
 obtain ⟨z1,hz1,hF6⟩:=bI hF1
 refine cw_mid (fun f w=>∃ (at_1:Int) (seed1:Int) (Edges1:List TEdge) (B6:Option Addr) (c6:Nat),(at_1,seed1,Edges1)=z1∧FF f [(6,pt (aD b) 0),(8,pt (aD b1) 0)]∧ST w0 (bl [O0]) w [⟨B,51,[.slice B1 c.code.length c1,vi at_1,.int .u64 seed1],3⟩,O2,⟨aD b1,25,[vi Nodes,.slice B6 Edges1.length c6],2⟩,⟨B6,87,(Edges1.flatMap eN1),c6*2⟩] [R5]) ?_ ?_
 ·skip
  refine cq (cr ?_)
  refine sQ 36 (ym (pt B 0) rfl (hf.g 0 0)) ?_
  obtain ⟨⟨r_7,m3⟩,hc4,hz1⟩:=bI hz1
  refine sc 37 rfl rfl (yC [pt B 0,vi 3] K101 (c_spec_l1Cur_one (Tl1Cur.mk c.code at_ seed) 3 B B1 c1 c.code.length _ rfl (hS6.inn [true,false,false,false] rfl [(true,0)] rfl) hc4)) ?_
  rintro _ w_8 ⟨rfl,hd4⟩
  have hS11:=hS6.out [true,false,false,false] rfl hd4
  refine rn ?_
  refine cw_cond (b:=r_7) rfl (fun hb2=>?_) (fun hb2=>?_)
  ·skip
   have hF7:=ct hz1 hb2
   refine cq (cr ?_)
   refine sQ 10 (yg (.slice none 0 0)) (rn (cq (cq (cr ?_))))
   refine sQ 11 (yg (vi 1)) (rn ?_)
   obtain ⟨z2,hz2,hF8⟩:=bI hF7
   have hS13:=hS11.addNil 82
   refine cw_block ?_
   let O1:Ob:=⟨aD b1,25,[vi Nodes,.slice B4 Edges.length c4],2⟩
   let O3:Ob:=⟨B4,87,(Edges.flatMap eN1),c4*2⟩
   refine cw_loop (fun k f w=>∃ (at_2:Int) (seed2:Int) (pairs:List (List Int)) (a:Int) (B7:Option Addr) (c7:Nat),FF f [(0,pt B 0),(6,pt (aD b) 0),(7,vi (i64.wrap (lo+r_1))),(8,pt (aD b1) 0),(10,.slice B7 pairs.length c7),(11,vi a)]∧ST w0 (bl [O0]) w [⟨B,51,[.slice B1 c.code.length c1,vi at_2,.int .u64 seed2],3⟩,O2,O1,O3,⟨B7,82,(pairs.flatMap encA2_Int),c7*2⟩] [R5]∧whX (F_spec_l1Cur_device_l1 lo r_1 c) k (at_2,seed2,pairs,a)=some z2) fuel ⟨m3.at_,m3.seed,[],1,none,0,(hf.a 0 0 (hf.a 6 1 (hf.a 7 2 (hf.a 8 3 (fc rfl (fc rfl fn_)))))),(hS13.sel [3,0,1,2,4] rfl rfl),hz2⟩ ?_
   rintro k_ f w ⟨at_2,seed2,pairs,a,B7,c7,hf2,hS12,hL⟩
   obtain ⟨K4,y,rfl,hb3,hL1⟩:=whX_go hL
   unfold F_spec_l1Cur_device_l1 at hb3
   refine cq (cq (cr ?_))
   refine sQ 38 (ym (vi a) rfl (hf2.g 11 5))<|sQ 39 (ym (vi (i64.wrap (lo+r_1))) rfl (hf2.g 7 2))<|sQ 40 (yL a (i64.wrap (lo+r_1))) (rn ?_)
   refine cw_cond (b:=(decide (a<(i64.wrap (lo+r_1))))) rfl (fun hb4=>?_) (fun hb4=>?_)
   ·skip
    have hF9:=ct hb3 hb4
    refine cw_skip (cq (cw_block (cr ?_)))
    refine sQ 43 (ym (.slice B7 pairs.length c7) rfl (hf2.g 10 4))<|sQ 44 (ym (pt B 0) rfl (hf2.g 0 0))<|sQ 45 (ym (vi a) rfl (hf2.g 11 5)) ?_
    obtain ⟨⟨r_8,m4⟩,hc5,hF9⟩:=bI hF9
    refine sc 46 rfl rfl (yC [pt B 0,vi a] K17 (c_spec_l1Cur_pick (Tl1Cur.mk c.code at_2 seed2) a B B1 c1 c.code.length _ rfl (hS12.inn [true,false,false,false,false] rfl [(true,0)] rfl) hc5)) ?_
    rintro _ w_9 ⟨rfl,hd5⟩
    have hS14:=hS12.out [true,false,false,false,false] rfl hd5
    refine sQ 47 (ym (vi a) rfl (hf2.g 11 5))<|sQ 48 (show Y _ _ _ _ _ (.agg (([r_8,a]:List Int).flatMap encI).toArray) from Y_buildA (zs:=[vi 0,vi 0]) (vs:=[(0,vi r_8),(1,vi a)]) (cs:=[vi r_8,vi a]) K100 K0 K95 rfl (mpc rfl (mpc rfl mpn)) (by kernel_rfl)) ?_
    refine sS 49 (Ys_bslice (s:=2) (len:=1) (vs:=[(0,.agg (([r_8,a]:List Int).flatMap encI).toArray)]) (cs:=[vi r_8,vi a]) (zs:=[vi 0,vi 0]) (m:=2) hS14 K85 K73 k_zc_82 rfl (mpc rfl mpn) rfl rfl rfl (by kernel_rfl) (by kernel_rfl) rfl) ?_
    rintro _ w_10 ⟨b2,rfl,hS15⟩
    obtain ⟨hap,hF9⟩:=chk_inv hF9
    refine sS 50 (Ys_append (s:=2) (by':=16) (i:=3) (nn:=pairs.length) (c:=c7) (k:=1) (len:=(pairs++[([r_8,a]:List Int)]).length) (B:=B7) (xs:=([([r_8,a]:List Int)].flatMap encA2_Int)) (cs':=((pairs++[([r_8,a]:List Int)]).flatMap encA2_Int)) hS15 K85 K73 k_by_82_16 K95 rfl (by decide) rfl rfl rfl rfl (fm_lenn (l:=pairs) encA2_Int_len rfl) rfl (hS15.c 5) (fm_lenn (l:=[([r_8,a]:List Int)]) encA2_Int_len rfl) (fm_one' (enc:=encA2_Int) encA2_Int_one [([r_8,a]:List Int)]) (by have:=hap; omega) (by have:=hap; simp only [maxLen]; omega) (fm_app _ _) (app_len (l:=pairs) (l':=[([r_8,a]:List Int)]) rfl rfl)) ?_
    rintro _ w_11 ⟨B8,c8,rfl,hS16⟩
    refine sQ 10 (yg (.slice B8 ((pairs++[([r_8,a]:List Int)]).length) c8)) (rn (cr ?_))
    refine sQ 41 (ym (vi a) rfl (hf2.g 11 5))<|sQ 42 (yP a 1)<|sQ 11 (yg (vi (i64.wrap (a+1)))) (rn ?_)
    obtain rfl:=sI hF9
    exact ⟨K4,Nat.lt_succ_self _,m4.at_,m4.seed,(pairs++[([r_8,a]:List Int)]),(i64.wrap (a+1)),B8,c8,(hf2.a 0 0 (hf2.a 6 1 (hf2.a 7 2 (hf2.a 8 3 (fc rfl (fc rfl fn_)))))),(hS16.sel [4,0,1,2,3] rfl rfl),hL1⟩
   ·skip
    have hF10:=cf' hb3 hb4
    refine cw_exit rfl ?_
    obtain rfl:=sI hF10
    obtain rfl:=sI hL1
    refine cq ?_
    obtain ⟨z3,hz3,hF11⟩:=bI hF8
    refine cw_mid (fun f w=>∃ (at_3:Int) (seed3:Int) (pairs1:List (List Int)) (B9:Option Addr) (c9:Nat),(at_3,seed3,pairs1)=z3∧FF f [(0,pt B 0),(6,pt (aD b) 0),(7,vi (i64.wrap (lo+r_1))),(8,pt (aD b1) 0),(10,.slice B9 pairs1.length c9)]∧ST w0 (bl [O0]) w [⟨B,51,[.slice B1 c.code.length c1,vi at_3,.int .u64 seed3],3⟩,O2,O1,O3,⟨B9,82,(pairs1.flatMap encA2_Int),c9*2⟩] [R5]) ?_ ?_
    ·skip
     refine cq (cr ?_)
     refine sQ 51 (ym (pt B 0) rfl (hf2.g 0 0)) ?_
     obtain ⟨⟨r_9,m5⟩,hc6,hz3⟩:=bI hz3
     refine sc 52 rfl rfl (yC [pt B 0,vi 3] K101 (c_spec_l1Cur_one (Tl1Cur.mk c.code at_2 seed2) 3 B B1 c1 c.code.length _ rfl (hS12.inn [true,false,false,false,false] rfl [(true,0)] rfl) hc6)) ?_
     rintro _ w_12 ⟨rfl,hd6⟩
     have hS18:=hS12.out [true,false,false,false,false] rfl hd6
     refine rn ?_
     refine cw_cond (b:=r_9) rfl (fun hb5=>?_) (fun hb5=>?_)
     ·skip
      have hF12:=ct hz3 hb5
      refine cr ?_
      refine sQ 53 (ym (.slice B7 pairs.length c7) rfl (hf2.g 10 4))<|sQ 54 (ym (pt B 0) rfl (hf2.g 0 0))<|sQ 55 (ym (vi (i64.wrap (lo+r_1))) rfl (hf2.g 7 2)) ?_
      obtain ⟨⟨r_10,m6⟩,hc7,hF12⟩:=bI hF12
      refine sc 56 rfl rfl (yC [pt B 0,vi (i64.wrap (lo+r_1))] K17 (c_spec_l1Cur_pick (Tl1Cur.mk c.code m5.at_ m5.seed) (i64.wrap (lo+r_1)) B B1 c1 c.code.length _ rfl (hS18.inn [false,false,false,false,true] rfl [(true,0)] rfl) hc7)) ?_
      rintro _ w_13 ⟨rfl,hd7⟩
      have hS19:=hS18.out [false,false,false,false,true] rfl hd7
      refine sQ 57 (ym (pt B 0) rfl (hf2.g 0 0))<|sQ 58 (ym (vi (i64.wrap (lo+r_1))) rfl (hf2.g 7 2)) ?_
      obtain ⟨⟨r_11,m7⟩,hc8,hF12⟩:=bI hF12
      refine sc 59 rfl rfl (yC [pt B 0,vi (i64.wrap (lo+r_1))] K17 (c_spec_l1Cur_pick (Tl1Cur.mk c.code m6.at_ m6.seed) (i64.wrap (lo+r_1)) B B1 c1 c.code.length _ rfl (hS19.inn [false,false,false,false,true] rfl [(true,0)] rfl) hc8)) ?_
      rintro _ w_14 ⟨rfl,hd8⟩
      have hS20:=hS19.out [false,false,false,false,true] rfl hd8
      refine sQ 60 (show Y _ _ _ _ _ (.agg (([r_10,r_11]:List Int).flatMap encI).toArray) from Y_buildA (zs:=[vi 0,vi 0]) (vs:=[(0,vi r_10),(1,vi r_11)]) (cs:=[vi r_10,vi r_11]) K100 K0 K95 rfl (mpc rfl (mpc rfl mpn)) (by kernel_rfl)) ?_
      refine sS 61 (Ys_bslice (s:=2) (len:=1) (vs:=[(0,.agg (([r_10,r_11]:List Int).flatMap encI).toArray)]) (cs:=[vi r_10,vi r_11]) (zs:=[vi 0,vi 0]) (m:=2) hS20 K85 K73 k_zc_82 rfl (mpc rfl mpn) rfl rfl rfl (by kernel_rfl) (by kernel_rfl) rfl) ?_
      rintro _ w_15 ⟨b3,rfl,hS21⟩
      obtain ⟨hap1,hF12⟩:=chk_inv hF12
      refine sS 62 (Ys_append (s:=2) (by':=16) (i:=3) (nn:=pairs.length) (c:=c7) (k:=1) (len:=(pairs++[([r_10,r_11]:List Int)]).length) (B:=B7) (xs:=([([r_10,r_11]:List Int)].flatMap encA2_Int)) (cs':=((pairs++[([r_10,r_11]:List Int)]).flatMap encA2_Int)) hS21 K85 K73 k_by_82_16 K95 rfl (by decide) rfl rfl rfl rfl (fm_lenn (l:=pairs) encA2_Int_len rfl) rfl (hS21.c 5) (fm_lenn (l:=[([r_10,r_11]:List Int)]) encA2_Int_len rfl) (fm_one' (enc:=encA2_Int) encA2_Int_one [([r_10,r_11]:List Int)]) (by have:=hap1; omega) (by have:=hap1; simp only [maxLen]; omega) (fm_app _ _) (app_len (l:=pairs) (l':=[([r_10,r_11]:List Int)]) rfl rfl)) ?_
      rintro _ w_16 ⟨B10,c10,rfl,hS22⟩
      refine sQ 10 (yg (.slice B10 ((pairs++[([r_10,r_11]:List Int)]).length) c10)) (rn ?_)
      exact ⟨m7.at_,m7.seed,(pairs++[([r_10,r_11]:List Int)]),B10,c10,(sI hF12),(hf2.a 0 0 (hf2.a 6 1 (hf2.a 7 2 (hf2.a 8 3 (fc rfl fn_))))),(hS22.sel [4,0,1,2,3] rfl rfl)⟩
     ·skip
      have hF13:=cf' hz3 hb5
      refine cw_skip ?_
      exact ⟨m5.at_,m5.seed,pairs,B7,c7,(sI hF13),(hf2.a 0 0 (hf2.a 6 1 (hf2.a 7 2 (hf2.a 8 3 (hf2.a 10 4 fn_))))),(hS18.sel [4,0,1,2,3] rfl rfl)⟩
    rintro f w ⟨at_3,seed3,pairs1,B9,c9,rfl,hf3,hS17⟩
    refine cq ?_
    obtain ⟨z4,hz4,hF14⟩:=bI hF11
    refine cw_mid (fun f w=>∃ (at_4:Int) (seed4:Int) (pairs2:List (List Int)) (B11:Option Addr) (c11:Nat),(at_4,seed4,pairs2)=z4∧FF f [(6,pt (aD b) 0),(7,vi (i64.wrap (lo+r_1))),(8,pt (aD b1) 0),(10,.slice B11 pairs2.length c11)]∧Org w0 (bl [O0]) [R5] [⟨B11,(pairs2.flatMap encA2_Int)⟩]∧pairs2.length≤c11∧ST w0 (bl [O0]) w [⟨B,51,[.slice B1 c.code.length c1,vi at_4,.int .u64 seed4],3⟩,O2,O1,O3] [⟨B11,(pairs2.flatMap encA2_Int)⟩,R5]) ?_ ?_
    ·skip
     refine cq (cr ?_)
     refine sQ 63 (ym (.slice B9 pairs1.length c9) rfl (hf3.g 10 4))<|sQ 64 (Y_len (B:=B9) (m:=pairs1.length) (c:=c9) K85 rfl rfl)<|sQ 65 (Y_gt (k:=.i64) (a:=(pairs1.length:Int)) (b:=0) rfl rfl rfl)<|sQ 66 (ym (.bool (decide (0<(pairs1.length:Int))))) ?_
     refine sgq 67 (B:=(decide (0<(pairs1.length:Int)))) rfl rfl (uT_ 66) (fun hg1=>(ym (pt B 0) rfl (hf3.g 0 0))) ?_
     refine rw_split (B:=(decide (0<(pairs1.length:Int)))) (fun hb6=>?_) (fun hb6=>?_)
     ·skip
      have hF15:=ct hz4 hb6
      obtain ⟨⟨r_12,m8⟩,hc9,hF15⟩:=bI hF15
      refine scg 68 rfl rfl (uT_ 66) hb6 (yC [pt B 0,vi 6] K101 (c_spec_l1Cur_one (Tl1Cur.mk c.code at_3 seed3) 6 B B1 c1 c.code.length _ rfl (hS17.inn [true,false,false,false,false] rfl [(true,0)] rfl) hc9) rfl (mc (gv_of (v:=pt B 0) hb6) (mc rfl mn))) ?_
      rintro _ w_17 ⟨rfl,hd9⟩
      have hS24:=hS17.out [true,false,false,false,false] rfl hd9
      refine sQ 69 (Y_pickT (b:=(decide (0<(pairs1.length:Int)))) (v:=.bool r_12) rfl rfl hb6 rfl) (rn ?_)
      refine cw_cond (b:=r_12) rfl (fun hb7=>?_) (fun hb7=>?_)
      ·skip
       have hF16:=ct hF15 hb7
       refine cr ?_
       refine sQ 70 (ym (.slice B9 pairs1.length c9) rfl (hf3.g 10 4)) ?_
       obtain ⟨hsl,hF16⟩:=chk_inv hF16
       have hcap:pairs1.length≤c9:=(hS24.lencap (i:=3) rfl (fm_lenn (l:=pairs1) encA2_Int_len rfl) rfl rfl)
       let R6:Ro:=⟨B9,(pairs1.flatMap encA2_Int)⟩
       have ho2:Org w0 (bl [O0]) [R5] [R6]:=ST.orgOwn hS24 (i:=3) rfl
       have hcap1:pairs1.length≤c9:=(hS24.lencap (i:=3) rfl (fm_lenn (l:=pairs1) encA2_Int_len rfl) rfl rfl)
       let O4:Ob:=⟨B,51,[.slice B1 c.code.length c1,vi m8.at_,.int .u64 m8.seed],3⟩
       have hS25:ST w0 (bl [O0]) _ [O2,O1,O3,O4] [R6,R5]:=hS24.freeze (i:=3) rfl
       have hv:(List.drop 1 pairs1).length=(pairs1.length-1):=(drop_len rfl)
       have hq1:(pairs1.length-1)≤(c9-1):=by omega
       have ho1:Org w0 (bl [O0]) [R5] [⟨(sv B9 1 c9 2),((List.drop 1 pairs1).flatMap encA2_Int)⟩]:=org_view encA2_Int_len (q:=c9) ho2 rfl (take_all rfl _)
       have hS26:ST w0 (bl [O0]) _ [O2,O1,O3,O4] [⟨(sv B9 1 c9 2),((List.drop 1 pairs1).flatMap encA2_Int)⟩,R6,R5]:=ST.view encA2_Int_len hS25 (i:=0) rfl (lo:=1) (h:=pairs1.length) (q:=c9) (by omega) (by omega) rfl (take_all rfl _)
       refine sQ 71 (Y_slice1 (B:=B9) (m:=pairs1.length) (c:=c9) (l:=1) (h:=pairs1.length) (s:=2) K85 K73 rfl rfl rfl (bnd_some rfl rfl) (by omega) (by omega))<|sQ 10 (yg (.slice (sv B9 1 c9 2) (pairs1.length-1) (c9-1))) (rn ?_)
       have hS27:ST w0 (bl [O0]) _ [O2,O1,O3,O4] [⟨(sv B9 1 c9 2),((List.drop 1 pairs1).flatMap encA2_Int)⟩,R5]:=hS26.sT [0,2]
       exact ⟨m8.at_,m8.seed,(List.drop 1 pairs1),(sv B9 1 c9 2),(c9-1),(sI hF16),(hf3.a 6 1 (hf3.a 7 2 (hf3.a 8 3 (fc (sl_len hv rfl) fn_)))),ho1,(len_le hv hq1),(hS27.sel [3,0,1,2] rfl rfl)⟩
      ·skip
       have hF17:=cf' hF15 hb7
       refine cw_skip ?_
       have ho3:Org w0 (bl [O0]) [R5] [⟨B9,(pairs1.flatMap encA2_Int)⟩]:=ST.orgOwn hS24 (i:=3) rfl
       have hcap2:pairs1.length≤c9:=(hS24.lencap (i:=3) rfl (fm_lenn (l:=pairs1) encA2_Int_len rfl) rfl rfl)
       have hS28:ST w0 (bl [O0]) _ [O2,O1,O3,⟨B,51,[.slice B1 c.code.length c1,vi m8.at_,.int .u64 m8.seed],3⟩] [⟨B9,(pairs1.flatMap encA2_Int)⟩,R5]:=hS24.freeze (i:=3) rfl
       exact ⟨m8.at_,m8.seed,pairs1,B9,c9,(sI hF17),(hf3.a 6 1 (hf3.a 7 2 (hf3.a 8 3 (hf3.a 10 4 fn_)))),ho3,(len_le rfl hcap2),(hS28.sel [3,0,1,2] rfl rfl)⟩
     ·skip
      have hF18:=cf' hz4 hb6
      refine sgn 68 rfl rfl (uT_ 66) hb6 ?_
      refine sQ 69 (Y_pickF (b:=(decide (0<(pairs1.length:Int)))) (v:=.bool false) rfl rfl hb6 rfl) (rn ?_)
      refine cw_cond (b:=false) rfl (fun h=>by cases h) (fun _=>?_)
      refine cw_skip ?_
      have ho4:Org w0 (bl [O0]) [R5] [⟨B9,(pairs1.flatMap encA2_Int)⟩]:=ST.orgOwn hS17 (i:=4) rfl
      have hcap3:pairs1.length≤c9:=(hS17.lencap (i:=4) rfl (fm_lenn (l:=pairs1) encA2_Int_len rfl) rfl rfl)
      have hS29:ST w0 (bl [O0]) _ [⟨B,51,[.slice B1 c.code.length c1,vi at_3,.int .u64 seed3],3⟩,O2,O1,O3] [⟨B9,(pairs1.flatMap encA2_Int)⟩,R5]:=hS17.freeze (i:=4) rfl
      exact ⟨at_3,seed3,pairs1,B9,c9,(sI hF18),(hf3.a 6 1 (hf3.a 7 2 (hf3.a 8 3 (hf3.a 10 4 fn_)))),ho4,(len_le rfl hcap3),(hS29.sel [0,1,2,3] rfl rfl)⟩
    rintro f w ⟨at_4,seed4,pairs2,B11,c11,rfl,hf4,ho,hq,hS23⟩
    refine cr ?_
    refine sQ 72 (ym (vi (i64.wrap (lo+r_1))) rfl (hf4.g 7 1))<|sQ 73 (ym (.slice B11 pairs2.length c11) rfl (hf4.g 10 3)) ?_
    obtain ⟨r_13,hc10,hF14⟩:=bI hF14
    refine sc 74 rfl rfl (yC [vi (i64.wrap (lo+r_1)),.slice B11 pairs2.length c11] k_call_44 (c_spec_l19Edges (i64.wrap (lo+r_1)) pairs2 B11 c11 pairs2.length _ rfl (hS23.inn0 [(true,0)] rfl) hc10)) ?_
    rintro _ w_18 ⟨B12,c12,rfl,hd10⟩
    have hS30:=hS23.out0 hd10
    refine sQ 75 (yd (aD b1) 0 0 K45 K39 rfl (hf4.g 8 2)) ?_
    refine s0 (yS 2 1 (aD b1) 25 (.slice B12 r_13.length c12) [.slice B12 r_13.length c12] 1 [vi Nodes,.slice B12 r_13.length c12] hS30 K39) ?_
    rintro _ w_19 ⟨rfl,hS31⟩
    refine rn ?_
    have hS32:ST w0 (bl [O0]) _ [⟨B,51,[.slice B1 c.code.length c1,vi at_4,.int .u64 seed4],3⟩,O2,⟨aD b1,25,[vi Nodes,.slice B12 r_13.length c12],2⟩,O3,⟨B12,87,(r_13.flatMap eN1),c12*2⟩] [R5]:=hS31.sT [1]
    exact ⟨at_4,seed4,r_13,B12,c12,(sI hF14),(hf4.a 6 0 (hf4.a 8 2 fn_)),(hS32.sel [0,1,2,4] rfl rfl)⟩
  ·skip
   have hF19:=cf' hz1 hb2
   refine cw_skip ?_
   exact ⟨m3.at_,m3.seed,Edges,B4,c4,(sI hF19),(hf.a 6 1 (hf.a 8 3 fn_)),(hS11.sel [3,0,1,2] rfl rfl)⟩
 rintro f w ⟨at_1,seed1,Edges1,B6,c6,rfl,hf1,hS10⟩
 refine cq (cr ?_)
 let V7:List Value:=[vi Nodes,.slice B6 Edges1.length c6]
 refine sQ 76 (yb (aD b1) 0 V7 K5 K3 (hS10.c 2) rfl (hf1.g 8 1)) ?_
 refine s0 (yT 1 2 (aD b) 25 (.agg V7.toArray) V7 0 hS10 K3 rfl (hf1.g 6 0)) ?_
 rintro _ w_20 ⟨rfl,hS33⟩
 refine rn (ct_ ?_)
 obtain ⟨rfl,rfl⟩:=pr2 (sI hF6)
 exact ret1 Try.results19 (v1:=.agg V7.toArray) (resAt_cellA (B:=aD b) (i:=0) (cs:=V7) (vs:=V7) (hf1.g 6 0) K5 K3 (hS33.c 1) rfl rfl) ⟨B6,c6,rfl,(hS33.sN [0,3])⟩

theorem c_spec_l1Has (l:List Int) (n1:Int) (B:Option Addr) (c n:Nat) (w0:World) (hn:l.length=n) (hS:ST w0 [] w0 [] [⟨B,(l.flatMap encI)⟩]) {r_:Bool} (hF:F_spec_l1Has l n1=some r_) :
  CV Try.prog 45 #[.slice B n c,vi n1] w0 (fun v w'=>v=.bool r_∧ST w0 [] w' [] []):=by
 subst hn
 unfold F_spec_l1Has at hF
 refine cv_of_cw 17 Try.func45 rfl Try.ntmps45 rfl ?_
 refine cq (cr ?_)
 refine sQ 4 (yg (.bool false)) (rn (cq (cq (cr ?_))))
 refine sQ 7 (ym (.slice B l.length c))<|sQ 8 (Y_len (B:=B) (m:=l.length) (c:=c) K2 rfl rfl)<|sQ 9 (ym (vi 0)) (rn ?_)
 obtain ⟨hN,hF⟩:=chk_inv hF
 obtain ⟨z,hz,hF1⟩:=bI hF
 refine cw_block ?_
 refine cw_loop (fun k f w=>∃ (i:Nat),FF f [(1,vi n1),(7,.slice B l.length c),(8,vi (l.length:Int)),(9,vi (i:Int))]∧ST w0 [] w [] [⟨B,(l.flatMap encI)⟩]∧i+k=l.length∧forX (F_spec_l1Has_l1 l n1) k i ()=some z) l.length ⟨0,(fc rfl (fc rfl (fc rfl (fc rfl fn_)))),(hS.sel [] rfl rfl),Nat.zero_add _,hz⟩ ?_
 rintro k_ f w ⟨i,hf,hS1,hik,hL⟩
 refine cq (cr ?_)
 refine sQ 10 (yL (i:Int) (l.length:Int) rfl (hf.g 9 3) (hf.g 8 2)) (rn (cq ?_))
 refine cw_cond (b:=(decide ((i:Int)<(l.length:Int)))) rfl (fun hlt=>?_) (fun hlt=>?_)
 ·skip
  have hlt1:i<l.length:=by have h:=of_decide_eq_true hlt; omega
  obtain ⟨K4,rfl⟩:∃ k2,k_=k2+1:=⟨k_-1,by omega⟩
  obtain ⟨y,hb,hL1⟩:=forX_go hL
  unfold F_spec_l1Has_l1 at hb
  refine cw_skip (cq (cw_block (cq (cr ?_))))
  obtain ⟨x,hx,hb⟩:=bI hb
  refine sQ 11 (Y_index (B:=B) (m:=l.length) (c:=c) (k:=.i64) (i:=(i:Int)) K2 K0 rfl (hf.g 7 1) (hf.g 9 3) (gi_isSome encI_len rfl (hS1.rf (i:=0) rfl) hx) (getI_nn hx) (getI_ltI hx rfl))<|sQ 12 (yl B ((i:Int).toNat*1) (l.flatMap encI) (vi x) K1 (hS1.rf (i:=0) rfl) rfl rfl (gi_at0 encI_len hx rfl))<|sQ 6 (yg (vi x)) (rn (cq (cr ?_)))
  refine sQ 13 (ym (vi x))<|sQ 14 (ym (vi n1) rfl (hf.g 1 0))<|sQ 15 (yE x n1) (rn ?_)
  refine cw_cond (b:=(x==n1)) rfl (fun hb1=>?_) (fun hb1=>?_)
  ·skip
   have hF2:=ct hb hb1
   refine cq (cr ?_)
   refine sQ 4 (yg (.bool true)) (rn (ct_ ?_))
   obtain rfl:=sI hF2
   obtain rfl:=sI hL1
   obtain rfl:=sI hF1
   exact ret1 Try.results45 (v1:=.bool true) (resAt_tmp rfl) ⟨rfl,(hS1.sN [])⟩
  ·skip
   have hF3:=cf' hb hb1
   refine cw_skip (cr ?_)
   refine sQ 16 (yP (i:Int) 1 rfl (hf.g 9 3))<|sQ 9 (ym (vi (i64.wrap ((i:Int)+1)))) (rn ?_)
   obtain rfl:=sI hF3
   exact ⟨K4,Nat.lt_succ_self _,i+1,(hf.a 1 0 (hf.a 7 1 (hf.a 8 2 (fc (congrArg (Value.int .i64) (wr_succ hlt1 hN)) fn_)))),(hS1.sel [] rfl rfl),(by omega),hL1⟩
 ·skip
  obtain rfl:k_=0:=by have h:=of_decide_eq_false hlt; omega
  refine cw_exit rfl ?_
  obtain rfl:=sI hL
  refine cq (cr ?_)
  refine sQ 4 (yg (.bool false)) (rn (ct_ ?_))
  obtain rfl:=sI hF1
  exact ret1 Try.results45 (v1:=.bool false) (resAt_tmp rfl) ⟨rfl,(hS1.sN [])⟩

theorem c_spec_l1Cur_among (c:Tl1Cur) (list:List Int) (B:Option Addr) (B1:Option Addr) (c1 n:Nat) (B2:Option Addr) (c2 n1:Nat) (w0:World) (hn:c.code.length=n) (hn1:list.length=n1) (hS:ST w0 (bl [⟨B,51,[.slice B1 n c1,vi c.at_,.int .u64 c.seed],3⟩]) w0 [⟨B,51,[.slice B1 n c1,vi c.at_,.int .u64 c.seed],3⟩] [⟨B1,(c.code.flatMap enc_u8)⟩,⟨B2,(list.flatMap encI)⟩]) {r_:Int} {m:Tl1Cur} (hF:F_spec_l1Cur_among c list=some (r_,m)) :
  CV Try.prog 72 #[pt B 0,.slice B2 n1 c2] w0 (fun v w'=>v=vi r_∧ST w0 (bl [⟨B,51,[.slice B1 n c1,vi c.at_,.int .u64 c.seed],3⟩]) w' [⟨B,51,[.slice B1 n c1,vi m.at_,.int .u64 m.seed],3⟩] []):=by
 subst hn
 subst hn1
 unfold F_spec_l1Cur_among at hF
 refine cv_of_cw 12 Try.func72 rfl Try.ntmps72 rfl ?_
 refine cq (cr ?_)
 refine sQ 4 (yg (vi 0)) (rn (cq (cr ?_)))
 refine sQ 5 (ym (.slice B2 list.length c2))<|sQ 6 (ym (pt B 0))<|sQ 7 (ym (.slice B2 list.length c2))<|sQ 8 (Y_len (B:=B2) (m:=list.length) (c:=c2) K2 rfl rfl) ?_
 obtain ⟨⟨r_1,m1⟩,hc,hF⟩:=bI hF
 refine sc 9 rfl rfl (yC [pt B 0,vi (list.length:Int)] K17 (c_spec_l1Cur_pick c (list.length:Int) B B1 c1 c.code.length _ rfl (hS.inn [true] rfl [(true,0)] rfl) hc)) ?_
 rintro _ w_ ⟨rfl,hd⟩
 have hS1:=hS.out [true] rfl hd
 obtain ⟨x,hx,hF⟩:=bI hF
 refine sQ 10 (Y_index (B:=B2) (m:=list.length) (c:=c2) (k:=.i64) (i:=r_1) K2 K0 rfl rfl rfl (gi_isSome encI_len rfl (hS1.rf (i:=1) rfl) hx) (getI_nn hx) (getI_ltI hx rfl))<|sQ 11 (yl B2 (r_1.toNat*1) (list.flatMap encI) (vi x) K1 (hS1.rf (i:=1) rfl) rfl rfl (gi_at0 encI_len hx rfl))<|sQ 4 (yg (vi x)) (rn (ct_ ?_))
 obtain ⟨rfl,rfl⟩:=pr2 (sI hF)
 exact ret1 Try.results72 (v1:=vi x) (resAt_tmp rfl) ⟨rfl,(hS1.sN [0])⟩

theorem c_spec_l1Cur_circuit (c:Tl1Cur) (B:Option Addr) (B1:Option Addr) (c1 n:Nat) (w0:World) (hn:c.code.length=n) (hS:ST w0 (bl [⟨B,51,[.slice B1 n c1,vi c.at_,.int .u64 c.seed],3⟩]) w0 [⟨B,51,[.slice B1 n c1,vi c.at_,.int .u64 c.seed],3⟩] [⟨B1,(c.code.flatMap enc_u8)⟩]) {r_:TCircuit} {m:Tl1Cur} (hF:F_spec_l1Cur_circuit c=some (r_,m)) :
  CV Try.prog 71 #[pt B 0] w0 (fun v w'=>∃ (B2:Option Addr) (c2:Nat),v=.agg #[vi r_.Qubits,.slice B2 r_.Gates.length c2]∧ST w0 (bl [⟨B,51,[.slice B1 n c1,vi c.at_,.int .u64 c.seed],3⟩]) w' [⟨B,51,[.slice B1 n c1,vi m.at_,.int .u64 m.seed],3⟩,⟨B2,56,(r_.Gates.flatMap eN2),c2*3⟩] []):=by
 subst hn
 unfold F_spec_l1Cur_circuit at hF
 refine cv_of_cw 9 Try.func71 rfl Try.ntmps71 rfl ?_
 refine cq (cr ?_)
 refine sS 2 (yN [vi 0,.slice none 0 0] 2 hS K62) ?_
 rintro _ w_ ⟨b,rfl,hS1⟩
 refine rn (cq (cr ?_))
 refine sQ 3 (ym (pt B 0))<|sQ 4 (ym (pt B 0)) ?_
 refine sS 5 (Ys_bslice (s:=1) (len:=4) (vs:=[(0,vi 1),(1,vi 2),(2,vi 2),(3,vi 3)]) (cs:=[vi 1,vi 2,vi 2,vi 3]) (zs:=[vi 0,vi 0,vi 0,vi 0]) (m:=4) hS1 K2 K0 K30 rfl (mpc rfl (mpc rfl (mpc rfl (mpc rfl mpn)))) rfl rfl rfl (by kernel_rfl) (by kernel_rfl) rfl) ?_
 rintro _ w_1 ⟨b1,rfl,hS2⟩
 obtain ⟨⟨r_1,m1⟩,hc,hF⟩:=bI hF
 refine sc 6 rfl rfl (yC [pt B 0,.slice (aD b1) 4 4] k_call_72 (c_spec_l1Cur_among c [1,2,2,3] B B1 c1 c.code.length (aD b1) 4 4 _ rfl rfl (hS2.inn [true,false,false] rfl [(true,0),(false,1)] rfl) hc)) ?_
 rintro _ w_2 ⟨rfl,hd⟩
 have hS3:=hS2.out [true,false,false] rfl hd
 refine sS 7 (Ys_bslice (s:=1) (len:=15) (vs:=[(0,vi 1),(1,vi 2),(2,vi 3),(3,vi 4),(4,vi 5),(5,vi 6),(6,vi 7),(7,vi 8),(8,vi 9),(9,vi 9),(10,vi 10),(11,vi 11),(12,vi 12),(13,vi 7),(14,vi 1)]) (cs:=[vi 1,vi 2,vi 3,vi 4,vi 5,vi 6,vi 7,vi 8,vi 9,vi 9,vi 10,vi 11,vi 12,vi 7,vi 1]) (zs:=[vi 0,vi 0,vi 0,vi 0,vi 0,vi 0,vi 0,vi 0,vi 0,vi 0,vi 0,vi 0,vi 0,vi 0,vi 0]) (m:=15) hS3 K2 K0 K30 rfl (mpc rfl (mpc rfl (mpc rfl (mpc rfl (mpc rfl (mpc rfl (mpc rfl (mpc rfl (mpc rfl (mpc rfl (mpc rfl (mpc rfl (mpc rfl (mpc rfl (mpc rfl mpn))))))))))))))) rfl rfl rfl (by kernel_rfl) (by kernel_rfl) rfl) ?_
 rintro _ w_3 ⟨b2,rfl,hS4⟩
 obtain ⟨⟨r_2,m2⟩,hc1,hF⟩:=bI hF
 refine sc 8 rfl rfl (yC [pt B 0,vi r_1,vi 8,.slice (aD b2) 15 15] K131 (c_spec_l1Cur_built (Tl1Cur.mk c.code m1.at_ m1.seed) r_1 8 [1,2,3,4,5,6,7,8,9,9,10,11,12,7,1] B B1 c1 c.code.length (aD b2) 15 15 _ rfl rfl (hS4.inn [false,false,true,false] rfl [(true,0),(false,2)] rfl) hc1)) ?_
 rintro _ w_4 ⟨B3,c3,rfl,hd1⟩
 have hS5:=hS4.out [false,false,true,false] rfl hd1
 let V0:List Value:=[vi r_2.Qubits,.slice B3 r_2.Gates.length c3]
 refine s0 (yT 0 2 (aD b) 28 (.agg V0.toArray) V0 0 hS5 K7) ?_
 rintro _ w_5 ⟨rfl,hS6⟩
 refine rn (ct_ ?_)
 obtain ⟨rfl,rfl⟩:=pr2 (sI hF)
 exact ret1 Try.results71 (v1:=.agg V0.toArray) (resAt_cellA (B:=aD b) (i:=0) (cs:=V0) (vs:=V0) rfl K14 K7 (hS6.c 0) rfl rfl) ⟨B3,c3,rfl,(hS6.sN [3,4])⟩

theorem c_spec_l1Cur_anyCircuit (c:Tl1Cur) (B:Option Addr) (B1:Option Addr) (c1 n:Nat) (w0:World) (hn:c.code.length=n) (hS:ST w0 (bl [⟨B,51,[.slice B1 n c1,vi c.at_,.int .u64 c.seed],3⟩]) w0 [⟨B,51,[.slice B1 n c1,vi c.at_,.int .u64 c.seed],3⟩] [⟨B1,(c.code.flatMap enc_u8)⟩]) {r_:TCircuit} {m:Tl1Cur} (hF:F_spec_l1Cur_anyCircuit c=some (r_,m)) :
  CV Try.prog 46 #[pt B 0] w0 (fun v w'=>∃ (B2:Option Addr) (c2:Nat),v=.agg #[vi r_.Qubits,.slice B2 r_.Gates.length c2]∧ST w0 (bl [⟨B,51,[.slice B1 n c1,vi c.at_,.int .u64 c.seed],3⟩]) w' [⟨B,51,[.slice B1 n c1,vi m.at_,.int .u64 m.seed],3⟩,⟨B2,56,(r_.Gates.flatMap eN2),c2*3⟩] []):=by
 subst hn
 unfold F_spec_l1Cur_anyCircuit at hF
 refine cv_of_cw 31 Try.func46 rfl Try.ntmps46 rfl ?_
 refine cq (cr ?_)
 refine sS 2 (yN [vi 0,.slice none 0 0] 2 hS K62) ?_
 rintro _ w_ ⟨b,rfl,hS1⟩
 refine rn (cq (cr ?_))
 refine sQ 4 (ym (pt B 0)) ?_
 obtain ⟨⟨r_1,m1⟩,hc,hF⟩:=bI hF
 refine sc 5 rfl rfl (yC [pt B 0] k_call_71 (c_spec_l1Cur_circuit c B B1 c1 c.code.length _ rfl (hS1.inn [true,false] rfl [(true,0)] rfl) hc)) ?_
 rintro _ w_1 ⟨B3,c3,rfl,hd⟩
 have hS2:=hS1.out [true,false] rfl hd
 refine sS 3 (yN [vi 0,.slice none 0 0] 2 hS2 K62) ?_
 rintro _ w_2 ⟨b1,rfl,hS3⟩
 let V8:List Value:=[vi r_1.Qubits,.slice B3 r_1.Gates.length c3]
 refine s0 (yT 3 2 (aD b1) 28 (.agg V8.toArray) V8 0 hS3 K7) ?_
 rintro _ w_3 ⟨rfl,hS4⟩
 refine rn (cq ?_)
 obtain ⟨z,hz,hF1⟩:=bI hF
 let O0:Ob:=⟨B,51,[.slice B1 c.code.length c1,vi c.at_,.int .u64 c.seed],3⟩
 let O2:Ob:=⟨aD b,28,[vi 0,.slice none 0 0],2⟩
 let R3:Ro:=⟨B1,(c.code.flatMap enc_u8)⟩
 refine cw_mid (fun f w=>∃ (at_:Int) (seed:Int) (Qubits:Int) (Gates:List TGate) (B4:Option Addr) (c4:Nat),(at_,seed,Qubits,Gates)=z∧FF f [(2,pt (aD b) 0),(3,pt (aD b1) 0)]∧ST w0 (bl [O0]) w [⟨B,51,[.slice B1 c.code.length c1,vi at_,.int .u64 seed],3⟩,O2,⟨aD b1,28,[vi Qubits,.slice B4 Gates.length c4],2⟩,⟨B4,56,(Gates.flatMap eN2),c4*3⟩] [R3]) ?_ ?_
 ·skip
  refine cq (cr ?_)
  refine sQ 6 (ym (pt B 0)) ?_
  obtain ⟨⟨r_2,m2⟩,hc1,hz⟩:=bI hz
  refine sc 7 rfl rfl (yC [pt B 0,vi 14] K17 (c_spec_l1Cur_pick (Tl1Cur.mk c.code m1.at_ m1.seed) 14 B B1 c1 c.code.length _ rfl (hS4.inn [false,true,false,false] rfl [(true,0)] rfl) hc1)) ?_
  rintro _ w_4 ⟨rfl,hd1⟩
  have hS6:=hS4.out [false,true,false,false] rfl hd1
  refine rn (cw_block (cq (cr ?_)))
  refine sQ 9 (yE r_2 0)<|sQ 8 (yg (.bool (r_2==0))) (rn ?_)
  refine cw_cond (b:=(r_2==0)) rfl (fun hb=>?_) (fun hb=>?_)
  ·skip
   have hF2:=ct hz hb
   refine cr ?_
   refine sQ 10 (ym (pt B 0)) ?_
   refine sS 11 (Ys_bslice (s:=1) (len:=4) (vs:=[(0,vi 0),(1,vi 1),(2,vi 5),(3,vi 6)]) (cs:=[vi 0,vi 1,vi 5,vi 6]) (zs:=[vi 0,vi 0,vi 0,vi 0]) (m:=4) hS6 K2 K0 K30 rfl (mpc rfl (mpc rfl (mpc rfl (mpc rfl mpn)))) rfl rfl rfl (by kernel_rfl) (by kernel_rfl) rfl) ?_
   rintro _ w_5 ⟨b2,rfl,hS7⟩
   obtain ⟨⟨r_3,m3⟩,hc2,hF2⟩:=bI hF2
   refine sc 12 rfl rfl (yC [pt B 0,.slice (aD b2) 4 4] k_call_72 (c_spec_l1Cur_among (Tl1Cur.mk c.code m2.at_ m2.seed) [0,1,5,6] B B1 c1 c.code.length (aD b2) 4 4 _ rfl rfl (hS7.inn [false,false,false,true,false] rfl [(true,0),(false,3)] rfl) hc2)) ?_
   rintro _ w_6 ⟨rfl,hd2⟩
   have hS8:=hS7.out [false,false,false,true,false] rfl hd2
   refine sQ 13 (yd (aD b1) 0 0 K60 K0) ?_
   refine s0 (yS 2 1 (aD b1) 28 (vi r_3) [vi r_3] 0 [vi r_3,.slice B3 r_1.Gates.length c3] hS8 K0) ?_
   rintro _ w_7 ⟨rfl,hS9⟩
   refine rn ?_
   exact ⟨m3.at_,m3.seed,r_3,r_1.Gates,B3,c3,(sI hF2),(fc rfl (fc rfl fn_)),(hS9.sel [4,0,2,1] rfl rfl)⟩
  ·skip
   have hF3:=cf' hz hb
   refine cq (cr ?_)
   refine sQ 15 (yE r_2 1)<|sQ 14 (yg (.bool (r_2==1))) (rn ?_)
   refine cw_cond (b:=(r_2==1)) rfl (fun hb1=>?_) (fun hb1=>?_)
   ·skip
    have hF4:=ct hF3 hb1
    obtain ⟨⟨r_4,m4⟩,hc3,hF4⟩:=bI hF4
    obtain ⟨⟨r_5,m5⟩,hc4,hF4⟩:=bI hF4
    obtain ⟨⟨r_6,m6⟩,hc5,hF4⟩:=bI hF4
    obtain ⟨hap,hF4⟩:=chk_inv hF4
    let O1:Ob:=⟨B,51,[.slice B1 c.code.length c1,vi m6.at_,.int .u64 m6.seed],3⟩
    refine cw_mid (fun f w=>∃ (B6:Option Addr) (c6:Nat),FF f [(2,pt (aD b) 0),(3,pt (aD b1) 0)]∧ST w0 (bl [O0]) w [O1,O2,⟨aD b1,28,[vi r_1.Qubits,.slice B6 ((r_1.Gates++[(TGate.mk r_4 (i64.wrap (r_5-1)) (i64.wrap (r_6-1)))]).length) c6],2⟩,⟨B6,56,((r_1.Gates++[(TGate.mk r_4 (i64.wrap (r_5-1)) (i64.wrap (r_6-1)))]).flatMap eN2),c6*3⟩] [R3]) ?_ ?_
    ·skip
     refine ra_start (hS6.se [0]).fn (by kernel_rfl) ?_
     have hS14:=hS6.drew
     refine rq 0 16 (v:=pt (aD b1) 1) rfl (hS14.se [0]) (fun w' hw'=>(yd (aD b1) 0 0 K19 K16)) ?_
     refine rq 2 18 rfl (hS14.se [0]) (fun w' hw'=>(ym (pt B 0))) ?_
     refine rq 4 20 rfl (hS14.se [0]) (fun w' hw'=>(ym (pt B 0))) ?_
     refine rq 7 23 rfl (hS14.se [0]) (fun w' hw'=>(ym (pt B 0))) ?_
     refine rA [1,3] ?_
     refine ra_y 17 (i:=1) (v:=.slice B3 r_1.Gates.length c3) rfl rfl rfl (yl (aD b1) 1 V8 (.slice B3 r_1.Gates.length c3) K21 (hS14.c 2)) (hS14.se [0]) ?_ ?_
     ·skip
      refine rA [3] ?_
      refine rC 19 3 rfl (yC [pt B 0,vi 14] K17 (c_spec_l1Cur_pick (Tl1Cur.mk c.code m2.at_ m2.seed) 14 B B1 c1 c.code.length _ rfl (hS14.inn [false,false,false,true] rfl [(true,0)] rfl) hc3)) ?_ aN
      rintro _ w_8 ⟨rfl,hd3⟩
      have hS15:=hS14.out [false,false,false,true] rfl hd3
      refine ⟨(hS15.se [0]),?_⟩
      refine rA [5] ?_
      refine rC 21 5 rfl (yC [pt B 0,vi 4] K17 (c_spec_l1Cur_pick (Tl1Cur.mk c.code m4.at_ m4.seed) 4 B B1 c1 c.code.length _ rfl (hS15.inn [false,false,false,true] rfl [(true,0)] rfl) hc4)) ?_ aN
      rintro _ w_9 ⟨rfl,hd4⟩
      have hS16:=hS15.out [false,false,false,true] rfl hd4
      refine ⟨(hS16.se [0]),?_⟩
      refine rq 6 22 rfl (hS16.se [0]) (fun w' hw'=>(yM r_5 1)) ?_
      refine rA [8] ?_
      refine rC 24 8 rfl (yC [pt B 0,vi 4] K17 (c_spec_l1Cur_pick (Tl1Cur.mk c.code m5.at_ m5.seed) 4 B B1 c1 c.code.length _ rfl (hS16.inn [false,false,false,true] rfl [(true,0)] rfl) hc5)) ?_ aN
      rintro _ w_10 ⟨rfl,hd5⟩
      have hS17:=hS16.out [false,false,false,true] rfl hd5
      refine ⟨(hS17.se [0]),?_⟩
      refine rq 9 25 rfl (hS17.se [0]) (fun w' hw'=>(yM r_6 1)) ?_
      let V4:List Value:=[vi r_4,vi (i64.wrap (r_5-1)),vi (i64.wrap (r_6-1))]
      refine rq 10 26 (v:=.agg V4.toArray) rfl (hS17.se [0]) (fun w' hw'=>(Y_buildS (zs:=[vi 0,vi 0,vi 0]) (vs:=[(0,vi r_4),(1,vi (i64.wrap (r_5-1))),(2,vi (i64.wrap (r_6-1)))]) (cs:=V4) K91 K38 rfl (mpc rfl (mpc rfl (mpc rfl mpn))) rfl)) ?_
      refine rA [11] ?_
      refine rS 27 11 rfl (Ys_bslice (s:=3) (len:=1) (vs:=[(0,.agg V4.toArray)]) (cs:=V4) (zs:=[vi 0,vi 0,vi 0]) (m:=3) hS17 K12 K6 K78 rfl (mpc rfl mpn) rfl rfl rfl (by kernel_rfl) (by kernel_rfl) rfl) ?_ aN
      rintro _ w_11 ⟨b3,rfl,hS18⟩
      refine ⟨(hS18.se [0]),?_⟩
      refine rA [12] ?_
      refine rS 28 12 rfl (Ys_append (s:=3) (by':=24) (i:=1) (nn:=r_1.Gates.length) (c:=c3) (k:=1) (len:=(r_1.Gates++[(TGate.mk r_4 (i64.wrap (r_5-1)) (i64.wrap (r_6-1)))]).length) (B:=B3) (xs:=([(TGate.mk r_4 (i64.wrap (r_5-1)) (i64.wrap (r_6-1)))].flatMap eN2)) (cs':=((r_1.Gates++[(TGate.mk r_4 (i64.wrap (r_5-1)) (i64.wrap (r_6-1)))]).flatMap eN2)) hS18 K12 K6 K79 K38 rfl (by decide) rfl rfl rfl rfl (fm_lenn (l:=r_1.Gates) eN9 rfl) rfl (hS18.c 4) (fm_lenn (l:=[(TGate.mk r_4 (i64.wrap (r_5-1)) (i64.wrap (r_6-1)))]) eN9 rfl) (fm_one' (enc:=eN2) enc_Gate_one [(TGate.mk r_4 (i64.wrap (r_5-1)) (i64.wrap (r_6-1)))]) (by have:=hap; omega) (by have:=hap; simp only [maxLen]; omega) (fm_app _ _) (app_len (l:=r_1.Gates) (l':=[(TGate.mk r_4 (i64.wrap (r_5-1)) (i64.wrap (r_6-1)))]) rfl rfl)) ?_ aN
      rintro _ w_12 ⟨B5,c5,rfl,hS19⟩
      refine ⟨(hS19.se [0]),?_⟩
      refine rq 13 29 (v:=pt (aD b1) 1) rfl (hS19.se [0]) (fun w' hw'=>(yd (aD b1) 0 0 K19 K16)) ?_
      refine rA [14] ?_
      refine rZ 14 rfl (yS 2 1 (aD b1) 28 (.slice B5 ((r_1.Gates++[(TGate.mk r_4 (i64.wrap (r_5-1)) (i64.wrap (r_6-1)))]).length) c5) [.slice B5 ((r_1.Gates++[(TGate.mk r_4 (i64.wrap (r_5-1)) (i64.wrap (r_6-1)))]).length) c5] 1 [vi r_1.Qubits,.slice B5 ((r_1.Gates++[(TGate.mk r_4 (i64.wrap (r_5-1)) (i64.wrap (r_6-1)))]).length) c5] hS19 K16) ?_ aN
      rintro _ w_13 ⟨rfl,hS20⟩
      refine ⟨(hS20.se [0]),?_⟩
      refine ra_done (by kernel_rfl) ?_
      exact ⟨B5,c5,(fc rfl (fc rfl fn_)),(hS20.sel [3,0,2,1] rfl rfl)⟩
     refine rC 19 3 rfl (yC [pt B 0,vi 14] K17 (c_spec_l1Cur_pick (Tl1Cur.mk c.code m2.at_ m2.seed) 14 B B1 c1 c.code.length _ rfl (hS14.inn [false,false,false,true] rfl [(true,0)] rfl) hc3)) ?_ aN
     rintro _ w_14 ⟨rfl,hd6⟩
     have hS21:=hS14.out [false,false,false,true] rfl hd6
     refine ⟨(hS21.se [0]),?_⟩
     refine rA [1,5] ?_
     refine ra_y 17 (i:=1) (v:=.slice B3 r_1.Gates.length c3) rfl rfl rfl (yl (aD b1) 1 V8 (.slice B3 r_1.Gates.length c3) K21 (hS21.c 2)) (hS21.se [0]) ?_ ?_
     ·skip
      refine rA [5] ?_
      refine rC 21 5 rfl (yC [pt B 0,vi 4] K17 (c_spec_l1Cur_pick (Tl1Cur.mk c.code m4.at_ m4.seed) 4 B B1 c1 c.code.length _ rfl (hS21.inn [false,false,false,true] rfl [(true,0)] rfl) hc4)) ?_ aN
      rintro _ w_15 ⟨rfl,hd7⟩
      have hS22:=hS21.out [false,false,false,true] rfl hd7
      refine ⟨(hS22.se [0]),?_⟩
      refine rq 6 22 rfl (hS22.se [0]) (fun w' hw'=>(yM r_5 1)) ?_
      refine rA [8] ?_
      refine rC 24 8 rfl (yC [pt B 0,vi 4] K17 (c_spec_l1Cur_pick (Tl1Cur.mk c.code m5.at_ m5.seed) 4 B B1 c1 c.code.length _ rfl (hS22.inn [false,false,false,true] rfl [(true,0)] rfl) hc5)) ?_ aN
      rintro _ w_16 ⟨rfl,hd8⟩
      have hS23:=hS22.out [false,false,false,true] rfl hd8
      refine ⟨(hS23.se [0]),?_⟩
      refine rq 9 25 rfl (hS23.se [0]) (fun w' hw'=>(yM r_6 1)) ?_
      let V5:List Value:=[vi r_4,vi (i64.wrap (r_5-1)),vi (i64.wrap (r_6-1))]
      refine rq 10 26 (v:=.agg V5.toArray) rfl (hS23.se [0]) (fun w' hw'=>(Y_buildS (zs:=[vi 0,vi 0,vi 0]) (vs:=[(0,vi r_4),(1,vi (i64.wrap (r_5-1))),(2,vi (i64.wrap (r_6-1)))]) (cs:=V5) K91 K38 rfl (mpc rfl (mpc rfl (mpc rfl mpn))) rfl)) ?_
      refine rA [11] ?_
      refine rS 27 11 rfl (Ys_bslice (s:=3) (len:=1) (vs:=[(0,.agg V5.toArray)]) (cs:=V5) (zs:=[vi 0,vi 0,vi 0]) (m:=3) hS23 K12 K6 K78 rfl (mpc rfl mpn) rfl rfl rfl (by kernel_rfl) (by kernel_rfl) rfl) ?_ aN
      rintro _ w_17 ⟨b3,rfl,hS24⟩
      refine ⟨(hS24.se [0]),?_⟩
      refine rA [12] ?_
      refine rS 28 12 rfl (Ys_append (s:=3) (by':=24) (i:=1) (nn:=r_1.Gates.length) (c:=c3) (k:=1) (len:=(r_1.Gates++[(TGate.mk r_4 (i64.wrap (r_5-1)) (i64.wrap (r_6-1)))]).length) (B:=B3) (xs:=([(TGate.mk r_4 (i64.wrap (r_5-1)) (i64.wrap (r_6-1)))].flatMap eN2)) (cs':=((r_1.Gates++[(TGate.mk r_4 (i64.wrap (r_5-1)) (i64.wrap (r_6-1)))]).flatMap eN2)) hS24 K12 K6 K79 K38 rfl (by decide) rfl rfl rfl rfl (fm_lenn (l:=r_1.Gates) eN9 rfl) rfl (hS24.c 4) (fm_lenn (l:=[(TGate.mk r_4 (i64.wrap (r_5-1)) (i64.wrap (r_6-1)))]) eN9 rfl) (fm_one' (enc:=eN2) enc_Gate_one [(TGate.mk r_4 (i64.wrap (r_5-1)) (i64.wrap (r_6-1)))]) (by have:=hap; omega) (by have:=hap; simp only [maxLen]; omega) (fm_app _ _) (app_len (l:=r_1.Gates) (l':=[(TGate.mk r_4 (i64.wrap (r_5-1)) (i64.wrap (r_6-1)))]) rfl rfl)) ?_ aN
      rintro _ w_18 ⟨B5,c5,rfl,hS25⟩
      refine ⟨(hS25.se [0]),?_⟩
      refine rq 13 29 (v:=pt (aD b1) 1) rfl (hS25.se [0]) (fun w' hw'=>(yd (aD b1) 0 0 K19 K16)) ?_
      refine rA [14] ?_
      refine rZ 14 rfl (yS 2 1 (aD b1) 28 (.slice B5 ((r_1.Gates++[(TGate.mk r_4 (i64.wrap (r_5-1)) (i64.wrap (r_6-1)))]).length) c5) [.slice B5 ((r_1.Gates++[(TGate.mk r_4 (i64.wrap (r_5-1)) (i64.wrap (r_6-1)))]).length) c5] 1 [vi r_1.Qubits,.slice B5 ((r_1.Gates++[(TGate.mk r_4 (i64.wrap (r_5-1)) (i64.wrap (r_6-1)))]).length) c5] hS25 K16) ?_ aN
      rintro _ w_19 ⟨rfl,hS26⟩
      refine ⟨(hS26.se [0]),?_⟩
      refine ra_done (by kernel_rfl) ?_
      exact ⟨B5,c5,(fc rfl (fc rfl fn_)),(hS26.sel [3,0,2,1] rfl rfl)⟩
     refine rC 21 5 rfl (yC [pt B 0,vi 4] K17 (c_spec_l1Cur_pick (Tl1Cur.mk c.code m4.at_ m4.seed) 4 B B1 c1 c.code.length _ rfl (hS21.inn [false,false,false,true] rfl [(true,0)] rfl) hc4)) ?_ aN
     rintro _ w_20 ⟨rfl,hd9⟩
     have hS27:=hS21.out [false,false,false,true] rfl hd9
     refine ⟨(hS27.se [0]),?_⟩
     refine rq 6 22 rfl (hS27.se [0]) (fun w' hw'=>(yM r_5 1)) ?_
     refine rA [1,8] ?_
     refine ra_y 17 (i:=1) (v:=.slice B3 r_1.Gates.length c3) rfl rfl rfl (yl (aD b1) 1 V8 (.slice B3 r_1.Gates.length c3) K21 (hS27.c 2)) (hS27.se [0]) ?_ ?_
     ·skip
      refine rA [8] ?_
      refine rC 24 8 rfl (yC [pt B 0,vi 4] K17 (c_spec_l1Cur_pick (Tl1Cur.mk c.code m5.at_ m5.seed) 4 B B1 c1 c.code.length _ rfl (hS27.inn [false,false,false,true] rfl [(true,0)] rfl) hc5)) ?_ aN
      rintro _ w_21 ⟨rfl,hd10⟩
      have hS28:=hS27.out [false,false,false,true] rfl hd10
      refine ⟨(hS28.se [0]),?_⟩
      refine rq 9 25 rfl (hS28.se [0]) (fun w' hw'=>(yM r_6 1)) ?_
      let V6:List Value:=[vi r_4,vi (i64.wrap (r_5-1)),vi (i64.wrap (r_6-1))]
      refine rq 10 26 (v:=.agg V6.toArray) rfl (hS28.se [0]) (fun w' hw'=>(Y_buildS (zs:=[vi 0,vi 0,vi 0]) (vs:=[(0,vi r_4),(1,vi (i64.wrap (r_5-1))),(2,vi (i64.wrap (r_6-1)))]) (cs:=V6) K91 K38 rfl (mpc rfl (mpc rfl (mpc rfl mpn))) rfl)) ?_
      refine rA [11] ?_
      refine rS 27 11 rfl (Ys_bslice (s:=3) (len:=1) (vs:=[(0,.agg V6.toArray)]) (cs:=V6) (zs:=[vi 0,vi 0,vi 0]) (m:=3) hS28 K12 K6 K78 rfl (mpc rfl mpn) rfl rfl rfl (by kernel_rfl) (by kernel_rfl) rfl) ?_ aN
      rintro _ w_22 ⟨b3,rfl,hS29⟩
      refine ⟨(hS29.se [0]),?_⟩
      refine rA [12] ?_
      refine rS 28 12 rfl (Ys_append (s:=3) (by':=24) (i:=1) (nn:=r_1.Gates.length) (c:=c3) (k:=1) (len:=(r_1.Gates++[(TGate.mk r_4 (i64.wrap (r_5-1)) (i64.wrap (r_6-1)))]).length) (B:=B3) (xs:=([(TGate.mk r_4 (i64.wrap (r_5-1)) (i64.wrap (r_6-1)))].flatMap eN2)) (cs':=((r_1.Gates++[(TGate.mk r_4 (i64.wrap (r_5-1)) (i64.wrap (r_6-1)))]).flatMap eN2)) hS29 K12 K6 K79 K38 rfl (by decide) rfl rfl rfl rfl (fm_lenn (l:=r_1.Gates) eN9 rfl) rfl (hS29.c 4) (fm_lenn (l:=[(TGate.mk r_4 (i64.wrap (r_5-1)) (i64.wrap (r_6-1)))]) eN9 rfl) (fm_one' (enc:=eN2) enc_Gate_one [(TGate.mk r_4 (i64.wrap (r_5-1)) (i64.wrap (r_6-1)))]) (by have:=hap; omega) (by have:=hap; simp only [maxLen]; omega) (fm_app _ _) (app_len (l:=r_1.Gates) (l':=[(TGate.mk r_4 (i64.wrap (r_5-1)) (i64.wrap (r_6-1)))]) rfl rfl)) ?_ aN
      rintro _ w_23 ⟨B5,c5,rfl,hS30⟩
      refine ⟨(hS30.se [0]),?_⟩
      refine rq 13 29 (v:=pt (aD b1) 1) rfl (hS30.se [0]) (fun w' hw'=>(yd (aD b1) 0 0 K19 K16)) ?_
      refine rA [14] ?_
      refine rZ 14 rfl (yS 2 1 (aD b1) 28 (.slice B5 ((r_1.Gates++[(TGate.mk r_4 (i64.wrap (r_5-1)) (i64.wrap (r_6-1)))]).length) c5) [.slice B5 ((r_1.Gates++[(TGate.mk r_4 (i64.wrap (r_5-1)) (i64.wrap (r_6-1)))]).length) c5] 1 [vi r_1.Qubits,.slice B5 ((r_1.Gates++[(TGate.mk r_4 (i64.wrap (r_5-1)) (i64.wrap (r_6-1)))]).length) c5] hS30 K16) ?_ aN
      rintro _ w_24 ⟨rfl,hS31⟩
      refine ⟨(hS31.se [0]),?_⟩
      refine ra_done (by kernel_rfl) ?_
      exact ⟨B5,c5,(fc rfl (fc rfl fn_)),(hS31.sel [3,0,2,1] rfl rfl)⟩
     refine rC 24 8 rfl (yC [pt B 0,vi 4] K17 (c_spec_l1Cur_pick (Tl1Cur.mk c.code m5.at_ m5.seed) 4 B B1 c1 c.code.length _ rfl (hS27.inn [false,false,false,true] rfl [(true,0)] rfl) hc5)) ?_ aN
     rintro _ w_25 ⟨rfl,hd11⟩
     have hS32:=hS27.out [false,false,false,true] rfl hd11
     refine ⟨(hS32.se [0]),?_⟩
     refine rq 9 25 rfl (hS32.se [0]) (fun w' hw'=>(yM r_6 1)) ?_
     let V7:List Value:=[vi r_4,vi (i64.wrap (r_5-1)),vi (i64.wrap (r_6-1))]
     refine rq 10 26 (v:=.agg V7.toArray) rfl (hS32.se [0]) (fun w' hw'=>(Y_buildS (zs:=[vi 0,vi 0,vi 0]) (vs:=[(0,vi r_4),(1,vi (i64.wrap (r_5-1))),(2,vi (i64.wrap (r_6-1)))]) (cs:=V7) K91 K38 rfl (mpc rfl (mpc rfl (mpc rfl mpn))) rfl)) ?_
     refine rA [1,11] ?_
     refine ra_y 17 (i:=1) (v:=.slice B3 r_1.Gates.length c3) rfl rfl rfl (yl (aD b1) 1 V8 (.slice B3 r_1.Gates.length c3) K21 (hS32.c 2)) (hS32.se [0]) ?_ ?_
     ·skip
      refine rA [11] ?_
      refine rS 27 11 rfl (Ys_bslice (s:=3) (len:=1) (vs:=[(0,.agg V7.toArray)]) (cs:=V7) (zs:=[vi 0,vi 0,vi 0]) (m:=3) hS32 K12 K6 K78 rfl (mpc rfl mpn) rfl rfl rfl (by kernel_rfl) (by kernel_rfl) rfl) ?_ aN
      rintro _ w_26 ⟨b3,rfl,hS33⟩
      refine ⟨(hS33.se [0]),?_⟩
      refine rA [12] ?_
      refine rS 28 12 rfl (Ys_append (s:=3) (by':=24) (i:=1) (nn:=r_1.Gates.length) (c:=c3) (k:=1) (len:=(r_1.Gates++[(TGate.mk r_4 (i64.wrap (r_5-1)) (i64.wrap (r_6-1)))]).length) (B:=B3) (xs:=([(TGate.mk r_4 (i64.wrap (r_5-1)) (i64.wrap (r_6-1)))].flatMap eN2)) (cs':=((r_1.Gates++[(TGate.mk r_4 (i64.wrap (r_5-1)) (i64.wrap (r_6-1)))]).flatMap eN2)) hS33 K12 K6 K79 K38 rfl (by decide) rfl rfl rfl rfl (fm_lenn (l:=r_1.Gates) eN9 rfl) rfl (hS33.c 4) (fm_lenn (l:=[(TGate.mk r_4 (i64.wrap (r_5-1)) (i64.wrap (r_6-1)))]) eN9 rfl) (fm_one' (enc:=eN2) enc_Gate_one [(TGate.mk r_4 (i64.wrap (r_5-1)) (i64.wrap (r_6-1)))]) (by have:=hap; omega) (by have:=hap; simp only [maxLen]; omega) (fm_app _ _) (app_len (l:=r_1.Gates) (l':=[(TGate.mk r_4 (i64.wrap (r_5-1)) (i64.wrap (r_6-1)))]) rfl rfl)) ?_ aN
      rintro _ w_27 ⟨B5,c5,rfl,hS34⟩
      refine ⟨(hS34.se [0]),?_⟩
      refine rq 13 29 (v:=pt (aD b1) 1) rfl (hS34.se [0]) (fun w' hw'=>(yd (aD b1) 0 0 K19 K16)) ?_
      refine rA [14] ?_
      refine rZ 14 rfl (yS 2 1 (aD b1) 28 (.slice B5 ((r_1.Gates++[(TGate.mk r_4 (i64.wrap (r_5-1)) (i64.wrap (r_6-1)))]).length) c5) [.slice B5 ((r_1.Gates++[(TGate.mk r_4 (i64.wrap (r_5-1)) (i64.wrap (r_6-1)))]).length) c5] 1 [vi r_1.Qubits,.slice B5 ((r_1.Gates++[(TGate.mk r_4 (i64.wrap (r_5-1)) (i64.wrap (r_6-1)))]).length) c5] hS34 K16) ?_ aN
      rintro _ w_28 ⟨rfl,hS35⟩
      refine ⟨(hS35.se [0]),?_⟩
      refine ra_done (by kernel_rfl) ?_
      exact ⟨B5,c5,(fc rfl (fc rfl fn_)),(hS35.sel [3,0,2,1] rfl rfl)⟩
     refine rS 27 11 rfl (Ys_bslice (s:=3) (len:=1) (vs:=[(0,.agg V7.toArray)]) (cs:=V7) (zs:=[vi 0,vi 0,vi 0]) (m:=3) hS32 K12 K6 K78 rfl (mpc rfl mpn) rfl rfl rfl (by kernel_rfl) (by kernel_rfl) rfl) ?_ aN
     rintro _ w_29 ⟨b3,rfl,hS36⟩
     have hS36:ST w0 (bl [O0]) _ [O2,⟨B3,56,(r_1.Gates.flatMap eN2),c3*3⟩,⟨aD b1,28,V8,2⟩,O1,⟨aD b3,56,([(TGate.mk r_4 (i64.wrap (r_5-1)) (i64.wrap (r_6-1)))].flatMap eN2),1*3⟩] [R3]:=hS36
     refine ⟨(hS36.se [0]),?_⟩
     refine rA [1] ?_
     refine ra_y 17 (i:=1) (v:=.slice B3 r_1.Gates.length c3) rfl rfl rfl (yl (aD b1) 1 V8 (.slice B3 r_1.Gates.length c3) K21 (hS36.c 2)) (hS36.se [0]) ?_ aN
     refine rA [12] ?_
     refine rS 28 12 rfl (Ys_append (s:=3) (by':=24) (i:=1) (nn:=r_1.Gates.length) (c:=c3) (k:=1) (len:=(r_1.Gates++[(TGate.mk r_4 (i64.wrap (r_5-1)) (i64.wrap (r_6-1)))]).length) (B:=B3) (xs:=([(TGate.mk r_4 (i64.wrap (r_5-1)) (i64.wrap (r_6-1)))].flatMap eN2)) (cs':=((r_1.Gates++[(TGate.mk r_4 (i64.wrap (r_5-1)) (i64.wrap (r_6-1)))]).flatMap eN2)) hS36 K12 K6 K79 K38 rfl (by decide) rfl rfl rfl rfl (fm_lenn (l:=r_1.Gates) eN9 rfl) rfl (hS36.c 4) (fm_lenn (l:=[(TGate.mk r_4 (i64.wrap (r_5-1)) (i64.wrap (r_6-1)))]) eN9 rfl) (fm_one' (enc:=eN2) enc_Gate_one [(TGate.mk r_4 (i64.wrap (r_5-1)) (i64.wrap (r_6-1)))]) (by have:=hap; omega) (by have:=hap; simp only [maxLen]; omega) (fm_app _ _) (app_len (l:=r_1.Gates) (l':=[(TGate.mk r_4 (i64.wrap (r_5-1)) (i64.wrap (r_6-1)))]) rfl rfl)) ?_ aN
     rintro _ w_30 ⟨B5,c5,rfl,hS37⟩
     refine ⟨(hS37.se [0]),?_⟩
     refine rq 13 29 (v:=pt (aD b1) 1) rfl (hS37.se [0]) (fun w' hw'=>(yd (aD b1) 0 0 K19 K16)) ?_
     refine rA [14] ?_
     refine rZ 14 rfl (yS 2 1 (aD b1) 28 (.slice B5 ((r_1.Gates++[(TGate.mk r_4 (i64.wrap (r_5-1)) (i64.wrap (r_6-1)))]).length) c5) [.slice B5 ((r_1.Gates++[(TGate.mk r_4 (i64.wrap (r_5-1)) (i64.wrap (r_6-1)))]).length) c5] 1 [vi r_1.Qubits,.slice B5 ((r_1.Gates++[(TGate.mk r_4 (i64.wrap (r_5-1)) (i64.wrap (r_6-1)))]).length) c5] hS37 K16) ?_ aN
     rintro _ w_31 ⟨rfl,hS38⟩
     refine ⟨(hS38.se [0]),?_⟩
     refine ra_done (by kernel_rfl) ?_
     exact ⟨B5,c5,(fc rfl (fc rfl fn_)),(hS38.sel [3,0,2,1] rfl rfl)⟩
    rintro f w ⟨B6,c6,hf1,hS13⟩
    exact ⟨m6.at_,m6.seed,r_1.Qubits,(r_1.Gates++[(TGate.mk r_4 (i64.wrap (r_5-1)) (i64.wrap (r_6-1)))]),B6,c6,(sI hF4),(hf1.a 2 0 (hf1.a 3 1 fn_)),(hS13.sel [0,1,2,3] rfl rfl)⟩
   ·skip
    have hF5:=cf' hF3 hb1
    refine cw_skip ?_
    exact ⟨m2.at_,m2.seed,r_1.Qubits,r_1.Gates,B3,c3,(sI hF5),(fc rfl (fc rfl fn_)),(hS6.sel [3,0,2,1] rfl rfl)⟩
 rintro f w ⟨at_,seed,Qubits,Gates,B4,c4,rfl,hf,hS5⟩
 refine cq (cr ?_)
 let V9:List Value:=[vi Qubits,.slice B4 Gates.length c4]
 refine sQ 30 (yb (aD b1) 0 V9 K14 K7 (hS5.c 2) rfl (hf.g 3 1)) ?_
 refine s0 (yT 1 2 (aD b) 28 (.agg V9.toArray) V9 0 hS5 K7 rfl (hf.g 2 0)) ?_
 rintro _ w_32 ⟨rfl,hS39⟩
 refine rn (ct_ ?_)
 obtain ⟨rfl,rfl⟩:=pr2 (sI hF1)
 exact ret1 Try.results46 (v1:=.agg V9.toArray) (resAt_cellA (B:=aD b) (i:=0) (cs:=V9) (vs:=V9) (hf.g 2 0) K14 K7 (hS39.c 1) rfl rfl) ⟨B4,c4,rfl,(hS39.sN [0,3])⟩

theorem c_spec_l1Cur_routed (c:Tl1Cur) (B:Option Addr) (B1:Option Addr) (c1 n:Nat) (w0:World) (hn:c.code.length=n) (hS:ST w0 (bl [⟨B,51,[.slice B1 n c1,vi c.at_,.int .u64 c.seed],3⟩]) w0 [⟨B,51,[.slice B1 n c1,vi c.at_,.int .u64 c.seed],3⟩] [⟨B1,(c.code.flatMap enc_u8)⟩]) {r_:TCouplingGraph} {r_1:TCircuit} {r_2:List Int} {m:Tl1Cur} (hF:F_spec_l1Cur_routed c=some (r_,r_1,r_2,m)) :
  CV Try.prog 20 #[pt B 0] w0 (fun v w'=>∃ (B2:Option Addr) (c2:Nat) (B3:Option Addr) (c3:Nat) (B4:Option Addr) (c4:Nat),v=.tuple #[.agg #[vi r_.Nodes,.slice B2 r_.Edges.length c2],.agg #[vi r_1.Qubits,.slice B3 r_1.Gates.length c3],.slice B4 r_2.length c4]∧r_2.length≤c4∧Org w0 (bl [⟨B,51,[.slice B1 n c1,vi c.at_,.int .u64 c.seed],3⟩]) [⟨B1,(c.code.flatMap enc_u8)⟩] [⟨B4,(r_2.flatMap encI)⟩]∧ST w0 (bl [⟨B,51,[.slice B1 n c1,vi c.at_,.int .u64 c.seed],3⟩]) w' [⟨B,51,[.slice B1 n c1,vi m.at_,.int .u64 m.seed],3⟩,⟨B2,87,(r_.Edges.flatMap eN1),c2*2⟩,⟨B3,56,(r_1.Gates.flatMap eN2),c3*3⟩] [⟨B4,(r_2.flatMap encI)⟩]):=by
 subst hn
 unfold F_spec_l1Cur_routed at hF
 refine cv_of_cw 77 Try.func20 rfl Try.ntmps20 rfl ?_
 refine cq (cr ?_)
 let V15:List Value:=[vi 0,.slice none 0 0]
 refine sS 2 (yN V15 2 hS K48) ?_
 rintro _ w_ ⟨b,rfl,hS1⟩
 refine sS 3 (yN V15 2 hS1 K62) ?_
 rintro _ w_1 ⟨b1,rfl,hS2⟩
 refine sQ 4 (yg (.slice none 0 0)) (rn (cq (cr ?_)))
 refine sQ 11 (ym (pt B 0)) ?_
 obtain ⟨⟨r_3,m1⟩,hc,hF⟩:=bI hF
 refine sc 12 rfl rfl (yC [pt B 0,vi 3] K17 (c_spec_l1Cur_pick c 3 B B1 c1 c.code.length _ rfl (hS2.inn [true,false,false] rfl [(true,0)] rfl) hc)) ?_
 rintro _ w_2 ⟨rfl,hd⟩
 have hS3:=hS2.out [true,false,false] rfl hd
 refine sQ 13 (yP 2 r_3)<|sQ 5 (yg (vi (i64.wrap (2+r_3)))) (rn (cq (cr ?_)))
 refine sQ 14 (ym (pt B 0))<|sQ 15 (ym (vi (i64.wrap (2+r_3)))) ?_
 refine sS 16 (Ys_bslice (s:=1) (len:=9) (vs:=[(0,vi 1),(1,vi 7),(2,vi 9),(3,vi 9),(4,vi 9),(5,vi 9),(6,vi 10),(7,vi 11),(8,vi 12)]) (cs:=[vi 1,vi 7,vi 9,vi 9,vi 9,vi 9,vi 10,vi 11,vi 12]) (zs:=[vi 0,vi 0,vi 0,vi 0,vi 0,vi 0,vi 0,vi 0,vi 0]) (m:=9) hS3 K2 K0 K30 rfl (mpc rfl (mpc rfl (mpc rfl (mpc rfl (mpc rfl (mpc rfl (mpc rfl (mpc rfl (mpc rfl mpn))))))))) rfl rfl rfl (by kernel_rfl) (by kernel_rfl) rfl) ?_
 rintro _ w_3 ⟨b2,rfl,hS4⟩
 obtain ⟨⟨r_4,m2⟩,hc1,hF⟩:=bI hF
 refine sc 17 rfl rfl (yC [pt B 0,vi (i64.wrap (2+r_3)),vi 9,.slice (aD b2) 9 9] K131 (c_spec_l1Cur_built (Tl1Cur.mk c.code m1.at_ m1.seed) (i64.wrap (2+r_3)) 9 [1,7,9,9,9,9,10,11,12] B B1 c1 c.code.length (aD b2) 9 9 _ rfl rfl (hS4.inn [false,false,true,false] rfl [(true,0),(false,2)] rfl) hc1)) ?_
 rintro _ w_4 ⟨B5,c5,rfl,hd1⟩
 have hS5:=hS4.out [false,false,true,false] rfl hd1
 refine sS 6 (yN V15 2 hS5 K62) ?_
 rintro _ w_5 ⟨b3,rfl,hS6⟩
 let V16:List Value:=[vi r_4.Qubits,.slice B5 r_4.Gates.length c5]
 refine s0 (yT 5 2 (aD b3) 28 (.agg V16.toArray) V16 0 hS6 K7) ?_
 rintro _ w_6 ⟨rfl,hS7⟩
 refine rn (cq (cr ?_))
 refine sQ 18 (ym (pt B 0))<|sQ 19 (ym (vi (i64.wrap (2+r_3)))) ?_
 obtain ⟨⟨r_5,m3⟩,hc2,hF⟩:=bI hF
 refine sc 20 rfl rfl (yC [pt B 0,vi (i64.wrap (2+r_3)),vi 5] k_call_19 (c_spec_l1Cur_device (Tl1Cur.mk c.code m2.at_ m2.seed) (i64.wrap (2+r_3)) 5 B B1 c1 c.code.length _ rfl (hS7.inn [false,false,false,true,false,false] rfl [(true,0)] rfl) hc2)) ?_
 rintro _ w_7 ⟨B6,c6,rfl,hd2⟩
 have hS8:=hS7.out [false,false,false,true,false,false] rfl hd2
 refine sS 7 (yN V15 2 hS8 K48) ?_
 rintro _ w_8 ⟨b4,rfl,hS9⟩
 let V11:List Value:=[vi r_5.Nodes,.slice B6 r_5.Edges.length c6]
 refine s0 (yT 7 2 (aD b4) 25 (.agg V11.toArray) V11 0 hS9 K3) ?_
 rintro _ w_9 ⟨rfl,hS10⟩
 refine rn (cq (cr ?_))
 refine sQ 8 (yg (.slice none 0 0)) (rn (cq (cq (cr ?_))))
 refine sQ 9 (yg (vi 0)) (rn ?_)
 obtain ⟨hN,hF⟩:=chk_inv hF
 obtain ⟨z,hz,hF1⟩:=bI hF
 have hS12:=hS10.addNil 3
 refine cw_block ?_
 let O0:Ob:=⟨B,51,[.slice B1 c.code.length c1,vi c.at_,.int .u64 c.seed],3⟩
 let O1:Ob:=⟨aD b3,28,V16,2⟩
 let O2:Ob:=⟨aD b4,25,V11,2⟩
 let O3:Ob:=⟨aD b1,28,V15,2⟩
 let O4:Ob:=⟨aD b,25,V15,2⟩
 let O5:Ob:=⟨B5,56,(r_4.Gates.flatMap eN2),c5*3⟩
 let O6:Ob:=⟨B6,87,(r_5.Edges.flatMap eN1),c6*2⟩
 let R9:Ro:=⟨B1,(c.code.flatMap enc_u8)⟩
 refine cw_loop (fun k f w=>∃ (q:Nat) (at_:Int) (seed:Int) (start:List Int) (B7:Option Addr) (c7:Nat),FF f [(0,pt B 0),(2,pt (aD b) 0),(3,pt (aD b1) 0),(5,vi (i64.wrap (2+r_3))),(6,pt (aD b3) 0),(7,pt (aD b4) 0),(8,.slice B7 start.length c7),(9,vi (q:Int))]∧ST w0 (bl [O0]) w [⟨B,51,[.slice B1 c.code.length c1,vi at_,.int .u64 seed],3⟩,O4,O3,O1,O5,O2,O6,⟨B7,3,(start.flatMap encI),c7*1⟩] [R9]∧q+k=(i64.wrap (2+r_3)).toNat∧forN (F_spec_l1Cur_routed_l1 c r_5) k q (at_,seed,start)=some z) ((i64.wrap (2+r_3)).toNat) ⟨0,m3.at_,m3.seed,[],none,0,(fc rfl (fc rfl (fc rfl (fc rfl (fc rfl (fc rfl (fc rfl (fc rfl fn_)))))))),(hS12.sel [5,0,1,4,3,7,6,8] rfl rfl),Nat.zero_add _,hz⟩ ?_
 rintro k_ f w ⟨q,at_,seed,start,B7,c7,hf,hS11,hik,hL⟩
 refine cq (cq (cr ?_))
 refine sQ 21 (ym (vi (q:Int)) rfl (hf.g 9 7))<|sQ 22 (ym (vi (i64.wrap (2+r_3))) rfl (hf.g 5 3))<|sQ 23 (yL (q:Int) (i64.wrap (2+r_3))) (rn ?_)
 refine cw_cond (b:=(decide ((q:Int)<(i64.wrap (2+r_3))))) rfl (fun hlt=>?_) (fun hlt=>?_)
 ·skip
  have hlt1:q<(i64.wrap (2+r_3)).toNat:=by have h:=of_decide_eq_true hlt; omega
  obtain ⟨K4,rfl⟩:∃ k2,k_=k2+1:=⟨k_-1,by omega⟩
  obtain ⟨y,hb,hL1⟩:=forN_go hL
  unfold F_spec_l1Cur_routed_l1 at hb
  refine cw_skip (cq (cw_block (cq (cr ?_))))
  refine sQ 26 (ym (pt B 0) rfl (hf.g 0 0))<|sQ 27 (yd (aD b4) 0 0 K49 K0 rfl (hf.g 7 5))<|sQ 28 (yl (aD b4) 0 V11 (vi r_5.Nodes) K1 (hS11.c 5)) ?_
  obtain ⟨⟨r_6,m4⟩,hc3,hb⟩:=bI hb
  refine sc 29 rfl rfl (yC [pt B 0,vi r_5.Nodes] K17 (c_spec_l1Cur_pick (Tl1Cur.mk c.code at_ seed) r_5.Nodes B B1 c1 c.code.length _ rfl (hS11.inn [true,false,false,false,false,false,false,false] rfl [(true,0)] rfl) hc3)) ?_
  rintro _ w_10 ⟨rfl,hd3⟩
  have hS13:=hS11.out [true,false,false,false,false,false,false,false] rfl hd3
  refine sQ 10 (yg (vi r_6)) (rn (cq ?_))
  obtain ⟨z1,hz1,hF2⟩:=bI hb
  refine cw_block ?_
  refine cw_loop (fun k f w=>∃ (K10:Int),FF f [(0,pt B 0),(2,pt (aD b) 0),(3,pt (aD b1) 0),(5,vi (i64.wrap (2+r_3))),(6,pt (aD b3) 0),(7,pt (aD b4) 0),(8,.slice B7 start.length c7),(9,vi (q:Int)),(10,vi K10)]∧ST w0 (bl [O0]) w [⟨B,51,[.slice B1 c.code.length c1,vi m4.at_,.int .u64 m4.seed],3⟩,O4,O3,O1,O5,O2,O6,⟨B7,3,(start.flatMap encI),c7*1⟩] [R9]∧whX (F_spec_l1Cur_routed_l2 start r_5) k K10=some z1) fuel ⟨r_6,(hf.a 0 0 (hf.a 2 1 (hf.a 3 2 (hf.a 5 3 (hf.a 6 4 (hf.a 7 5 (hf.a 8 6 (hf.a 9 7 (fc rfl fn_))))))))),(hS13.sel [7,0,1,2,3,4,5,6] rfl rfl),hz1⟩ ?_
  rintro K18 f w ⟨K10,hf1,hS14,hL2⟩
  obtain ⟨K24,y1,rfl,hb1,hL3⟩:=whX_go hL2
  unfold F_spec_l1Cur_routed_l2 at hb1
  refine cq (cq (cr ?_))
  refine sQ 30 (ym (.slice B7 start.length c7) rfl (hf1.g 8 6))<|sQ 31 (ym (vi K10) rfl (hf1.g 10 8)) ?_
  obtain ⟨r_7,hc4,hb1⟩:=bI hb1
  refine sc 32 rfl rfl (yC [.slice B7 start.length c7,vi K10] K118 (c_spec_l1Has start K10 B7 c7 start.length _ rfl (hS14.inn0 [(false,7)] rfl) hc4)) ?_
  rintro _ w_11 ⟨rfl,hd4⟩
  have hS15:=hS14.out00 hd4
  refine rn ?_
  refine cw_cond (b:=r_7) rfl (fun hb2=>?_) (fun hb2=>?_)
  ·skip
   have hF3:=ct hb1 hb2
   refine cw_skip (cw_block (cr ?_))
   refine sQ 33 (ym (vi K10) rfl (hf1.g 10 8))<|sQ 34 (yP K10 1)<|sQ 35 (yd (aD b4) 0 0 K49 K0 rfl (hf1.g 7 5))<|sQ 36 (yl (aD b4) 0 V11 (vi r_5.Nodes) K1 (hS15.c 5)) ?_
   obtain ⟨hne,hF3⟩:=chk_inv hF3
   refine sQ 37 (Y_rem (k:=.i64) (a:=(i64.wrap (K10+1))) (b:=r_5.Nodes) rfl rfl rfl hne)<|sQ 10 (yg (vi (Int.tmod (i64.wrap (K10+1)) r_5.Nodes))) (rn ?_)
   obtain rfl:=sI hF3
   exact ⟨K24,Nat.lt_succ_self _,(Int.tmod (i64.wrap (K10+1)) r_5.Nodes),(hf1.a 0 0 (hf1.a 2 1 (hf1.a 3 2 (hf1.a 5 3 (hf1.a 6 4 (hf1.a 7 5 (hf1.a 8 6 (hf1.a 9 7 (fc rfl fn_))))))))),(hS15.sel [0,1,2,3,4,5,6,7] rfl rfl),hL3⟩
  ·skip
   have hF4:=cf' hb1 hb2
   refine cw_exit rfl ?_
   obtain rfl:=sI hF4
   obtain rfl:=sI hL3
   refine cr ?_
   refine sQ 38 (ym (.slice B7 start.length c7) rfl (hf1.g 8 6))<|sQ 39 (ym (vi K10) rfl (hf1.g 10 8)) ?_
   refine sS 40 (Ys_bslice (s:=1) (len:=1) (vs:=[(0,vi K10)]) (cs:=[vi K10]) (zs:=[vi 0]) (m:=1) hS15 K2 K0 K30 rfl (mpc rfl mpn) rfl rfl rfl (by kernel_rfl) (by kernel_rfl) rfl) ?_
   rintro _ w_12 ⟨b5,rfl,hS16⟩
   obtain ⟨hap,hF2⟩:=chk_inv hF2
   refine sS 41 (Ys_append (s:=1) (by':=8) (i:=7) (nn:=start.length) (c:=c7) (k:=1) (len:=(start++[K10]).length) (B:=B7) (xs:=([K10].flatMap encI)) (cs':=((start++[K10]).flatMap encI)) hS16 K2 K0 K53 K54 rfl (by decide) rfl rfl rfl rfl (fm_lenn (l:=start) encI_len rfl) rfl (hS16.c 8) (fm_lenn (l:=[K10]) encI_len rfl) (fm_one' (enc:=encI) encI_one [K10]) (by have:=hap; omega) (by have:=hap; simp only [maxLen]; omega) (fm_app _ _) (app_len (l:=start) (l':=[K10]) rfl rfl)) ?_
   rintro _ w_13 ⟨B8,c8,rfl,hS17⟩
   refine sQ 8 (yg (.slice B8 ((start++[K10]).length) c8)) (rn (cr ?_))
   refine sQ 24 (ym (vi (q:Int)) rfl (hf1.g 9 7))<|sQ 25 (yP (q:Int) 1)<|sQ 9 (yg (vi (i64.wrap ((q:Int)+1)))) (rn ?_)
   obtain rfl:=sI hF2
   exact ⟨K4,Nat.lt_succ_self _,q+1,m4.at_,m4.seed,(start++[K10]),B8,c8,(hf1.a 0 0 (hf1.a 2 1 (hf1.a 3 2 (hf1.a 5 3 (hf1.a 6 4 (hf1.a 7 5 (fc rfl (fc (congrArg (Value.int .i64) (wr_succ hlt1 hN)) fn_)))))))),(hS17.sel [0,1,2,3,4,5,6,7] rfl rfl),(by omega),hL1⟩
 ·skip
  obtain rfl:k_=0:=by have h:=of_decide_eq_false hlt; omega
  refine cw_exit rfl ?_
  obtain rfl:=sI hL
  refine cq ?_
  obtain ⟨z2,hz2,hF5⟩:=bI hF1
  refine cw_mid (fun f w=>∃ (at_1:Int) (seed1:Int) (Qubits:Int) (Gates:List TGate) (Edges:List TEdge) (start1:List Int) (B9:Option Addr) (c9:Nat) (B10:Option Addr) (c10:Nat) (B11:Option Addr) (c11:Nat),(at_1,seed1,Qubits,Gates,Edges,start1)=z2∧FF f [(2,pt (aD b) 0),(3,pt (aD b1) 0),(6,pt (aD b3) 0),(7,pt (aD b4) 0),(8,.slice B11 start1.length c11)]∧Org w0 (bl [O0]) [R9] [⟨B11,(start1.flatMap encI)⟩]∧start1.length≤c11∧ST w0 (bl [O0]) w [⟨B,51,[.slice B1 c.code.length c1,vi at_1,.int .u64 seed1],3⟩,O4,O3,⟨aD b3,28,[vi Qubits,.slice B9 Gates.length c9],2⟩,⟨B9,56,(Gates.flatMap eN2),c9*3⟩,⟨aD b4,25,[vi r_5.Nodes,.slice B10 Edges.length c10],2⟩,⟨B10,87,(Edges.flatMap eN1),c10*2⟩] [⟨B11,(start1.flatMap encI)⟩,R9]) ?_ ?_
  ·skip
   refine cq (cr ?_)
   refine sQ 42 (ym (pt B 0) rfl (hf.g 0 0)) ?_
   obtain ⟨⟨r_8,m5⟩,hc5,hz2⟩:=bI hz2
   refine sc 43 rfl rfl (yC [pt B 0,vi 16] K17 (c_spec_l1Cur_pick (Tl1Cur.mk c.code at_ seed) 16 B B1 c1 c.code.length _ rfl (hS11.inn [true,false,false,false,false,false,false,false] rfl [(true,0)] rfl) hc5)) ?_
   rintro _ w_14 ⟨rfl,hd5⟩
   have hS19:=hS11.out [true,false,false,false,false,false,false,false] rfl hd5
   refine rn (cw_block (cq (cr ?_)))
   refine sQ 45 (yE r_8 0)<|sQ 44 (yg (.bool (r_8==0))) (rn ?_)
   refine cw_cond (b:=(r_8==0)) rfl (fun hb3=>?_) (fun hb3=>?_)
   ·skip
    have hF6:=ct hz2 hb3
    refine cr ?_
    refine sQ 46 (ym (pt B 0) rfl (hf.g 0 0)) ?_
    obtain ⟨⟨r_9,m6⟩,hc6,hF6⟩:=bI hF6
    refine sc 47 rfl rfl (yC [pt B 0] k_call_46 (c_spec_l1Cur_anyCircuit (Tl1Cur.mk c.code m5.at_ m5.seed) B B1 c1 c.code.length _ rfl (hS19.inn [false,false,false,false,false,false,false,true] rfl [(true,0)] rfl) hc6)) ?_
    rintro _ w_15 ⟨B12,c12,rfl,hd6⟩
    have hS20:=hS19.out [false,false,false,false,false,false,false,true] rfl hd6
    let V14:List Value:=[vi r_9.Qubits,.slice B12 r_9.Gates.length c12]
    refine s0 (yT 2 2 (aD b3) 28 (.agg V14.toArray) V14 0 hS20 K7 rfl (hf.g 6 4)) ?_
    rintro _ w_16 ⟨rfl,hS21⟩
    refine rn ?_
    have ho1:Org w0 (bl [O0]) [R9] [⟨B7,(start.flatMap encI)⟩]:=ST.orgOwn hS21 (i:=6) rfl
    have hcap:start.length≤c7:=(hS21.lencap (i:=6) rfl (fm_lenn (l:=start) encI_len rfl) rfl rfl)
    have hS22:ST w0 (bl [O0]) _ [O4,O3,⟨aD b3,28,V14,2⟩,O5,O2,O6,⟨B,51,[.slice B1 c.code.length c1,vi m6.at_,.int .u64 m6.seed],3⟩,⟨B12,56,(r_9.Gates.flatMap eN2),c12*3⟩] [⟨B7,(start.flatMap encI)⟩,R9]:=hS21.freeze (i:=6) rfl
    exact ⟨m6.at_,m6.seed,r_9.Qubits,r_9.Gates,r_5.Edges,start,B12,c12,B6,c6,B7,c7,(sI hF6),(hf.a 2 1 (hf.a 3 2 (hf.a 6 4 (hf.a 7 5 (hf.a 8 6 fn_))))),ho1,(len_le rfl hcap),(hS22.sel [6,0,1,2,7,4,5] rfl rfl)⟩
   ·skip
    have hF7:=cf' hz2 hb3
    refine cq (cr ?_)
    refine sQ 49 (yE r_8 1)<|sQ 48 (yg (.bool (r_8==1))) (rn ?_)
    refine cw_cond (b:=(r_8==1)) rfl (fun hb4=>?_) (fun hb4=>?_)
    ·skip
     have hF8:=ct hF7 hb4
     obtain ⟨⟨r_10,m7⟩,hc7,hF8⟩:=bI hF8
     obtain ⟨⟨r_11,m8⟩,hc8,hF8⟩:=bI hF8
     obtain ⟨hap1,hF8⟩:=chk_inv hF8
     let O8:Ob:=⟨B,51,[.slice B1 c.code.length c1,vi m8.at_,.int .u64 m8.seed],3⟩
     refine cw_mid (fun f w=>∃ (B14:Option Addr) (c14:Nat),FF f [(2,pt (aD b) 0),(3,pt (aD b1) 0),(6,pt (aD b3) 0),(7,pt (aD b4) 0),(8,.slice B7 start.length c7)]∧ST w0 (bl [O0]) w [O8,O4,O3,O1,O5,⟨aD b4,25,[vi r_5.Nodes,.slice B14 ((r_5.Edges++[(TEdge.mk r_10 r_11)]).length) c14],2⟩,⟨B14,87,((r_5.Edges++[(TEdge.mk r_10 r_11)]).flatMap eN1),c14*2⟩,⟨B7,3,(start.flatMap encI),c7*1⟩] [R9]) ?_ ?_
     ·skip
      refine ra_start (hS19.se [0,1,2,3,6]).fn (by kernel_rfl) ?_
      have hS26:=hS19.drew
      refine rq 0 50 (v:=pt (aD b4) 1) rfl (hS26.se [0,1,2,3,6]) (fun w' hw'=>(yd (aD b4) 0 0 K45 K39 rfl (hf.g 7 5))) ?_
      refine rq 2 52 rfl (hS26.se [0,1,2,3,6]) (fun w' hw'=>(ym (pt B 0) rfl (hf.g 0 0))) ?_
      refine rq 4 54 rfl (hS26.se [0,1,2,3,6]) (fun w' hw'=>(ym (pt B 0) rfl (hf.g 0 0))) ?_
      refine rA [1,3] ?_
      refine ra_y 51 (i:=1) (v:=.slice B6 r_5.Edges.length c6) rfl rfl rfl (yl (aD b4) 1 V11 (.slice B6 r_5.Edges.length c6) K59 (hS26.c 4)) (hS26.se [0,1,2,3,6]) ?_ ?_
      ·skip
       refine rA [3] ?_
       refine rC 53 3 rfl (yC [pt B 0,vi 4] K17 (c_spec_l1Cur_pick (Tl1Cur.mk c.code m5.at_ m5.seed) 4 B B1 c1 c.code.length _ rfl (hS26.inn [false,false,false,false,false,false,false,true] rfl [(true,0)] rfl) hc7)) ?_ aN
       rintro _ w_17 ⟨rfl,hd7⟩
       have hS27:=hS26.out [false,false,false,false,false,false,false,true] rfl hd7
       refine ⟨(hS27.se [0,1,2,3,6]),?_⟩
       refine rA [5] ?_
       refine rC 55 5 rfl (yC [pt B 0,vi 6] K17 (c_spec_l1Cur_pick (Tl1Cur.mk c.code m7.at_ m7.seed) 6 B B1 c1 c.code.length _ rfl (hS27.inn [false,false,false,false,false,false,false,true] rfl [(true,0)] rfl) hc8)) ?_ aN
       rintro _ w_18 ⟨rfl,hd8⟩
       have hS28:=hS27.out [false,false,false,false,false,false,false,true] rfl hd8
       refine ⟨(hS28.se [0,1,2,3,6]),?_⟩
       refine rq 6 56 (v:=.agg #[vi r_10,vi r_11]) rfl (hS28.se [0,1,2,3,6]) (fun w' hw'=>(Y_buildS (zs:=[vi 0,vi 0]) (vs:=[(0,vi r_10),(1,vi r_11)]) (cs:=[vi r_10,vi r_11]) K92 K46 rfl (mpc rfl (mpc rfl mpn)) rfl)) ?_
       refine rA [7] ?_
       refine rS 57 7 rfl (Ys_bslice (s:=2) (len:=1) (vs:=[(0,.agg #[vi r_10,vi r_11])]) (cs:=[vi r_10,vi r_11]) (zs:=[vi 0,vi 0]) (m:=2) hS28 K26 K20 K93 rfl (mpc rfl mpn) rfl rfl rfl (by kernel_rfl) (by kernel_rfl) rfl) ?_ aN
       rintro _ w_19 ⟨b6,rfl,hS29⟩
       refine ⟨(hS29.se [0,1,2,3,6]),?_⟩
       refine rA [8] ?_
       refine rS 58 8 rfl (Ys_append (s:=2) (by':=16) (i:=5) (nn:=r_5.Edges.length) (c:=c6) (k:=1) (len:=(r_5.Edges++[(TEdge.mk r_10 r_11)]).length) (B:=B6) (xs:=([(TEdge.mk r_10 r_11)].flatMap eN1)) (cs':=((r_5.Edges++[(TEdge.mk r_10 r_11)]).flatMap eN1)) hS29 K26 K20 K94 K46 rfl (by decide) rfl rfl rfl rfl (fm_lenn (l:=r_5.Edges) enc_Edge_len rfl) rfl (hS29.c 8) (fm_lenn (l:=[(TEdge.mk r_10 r_11)]) enc_Edge_len rfl) (fm_one' (enc:=eN1) enc_Edge_one [(TEdge.mk r_10 r_11)]) (by have:=hap1; omega) (by have:=hap1; simp only [maxLen]; omega) (fm_app _ _) (app_len (l:=r_5.Edges) (l':=[(TEdge.mk r_10 r_11)]) rfl rfl)) ?_ aN
       rintro _ w_20 ⟨B13,c13,rfl,hS30⟩
       refine ⟨(hS30.se [0,1,2,3,6]),?_⟩
       refine rq 9 59 (v:=pt (aD b4) 1) rfl (hS30.se [0,1,2,3,6]) (fun w' hw'=>(yd (aD b4) 0 0 K45 K39 rfl (hf.g 7 5))) ?_
       refine rA [10] ?_
       refine rZ 10 rfl (yS 4 1 (aD b4) 25 (.slice B13 ((r_5.Edges++[(TEdge.mk r_10 r_11)]).length) c13) [.slice B13 ((r_5.Edges++[(TEdge.mk r_10 r_11)]).length) c13] 1 [vi r_5.Nodes,.slice B13 ((r_5.Edges++[(TEdge.mk r_10 r_11)]).length) c13] hS30 K39) ?_ aN
       rintro _ w_21 ⟨rfl,hS31⟩
       refine ⟨(hS31.se [0,1,2,3,6]),?_⟩
       refine ra_done (by kernel_rfl) ?_
       exact ⟨B13,c13,(hf.a 2 1 (hf.a 3 2 (hf.a 6 4 (hf.a 7 5 (hf.a 8 6 fn_))))),(hS31.sel [7,0,1,2,3,4,5,6] rfl rfl)⟩
      refine rC 53 3 rfl (yC [pt B 0,vi 4] K17 (c_spec_l1Cur_pick (Tl1Cur.mk c.code m5.at_ m5.seed) 4 B B1 c1 c.code.length _ rfl (hS26.inn [false,false,false,false,false,false,false,true] rfl [(true,0)] rfl) hc7)) ?_ aN
      rintro _ w_22 ⟨rfl,hd9⟩
      have hS32:=hS26.out [false,false,false,false,false,false,false,true] rfl hd9
      refine ⟨(hS32.se [0,1,2,3,6]),?_⟩
      refine rA [1,5] ?_
      refine ra_y 51 (i:=1) (v:=.slice B6 r_5.Edges.length c6) rfl rfl rfl (yl (aD b4) 1 V11 (.slice B6 r_5.Edges.length c6) K59 (hS32.c 4)) (hS32.se [0,1,2,3,6]) ?_ ?_
      ·skip
       refine rA [5] ?_
       refine rC 55 5 rfl (yC [pt B 0,vi 6] K17 (c_spec_l1Cur_pick (Tl1Cur.mk c.code m7.at_ m7.seed) 6 B B1 c1 c.code.length _ rfl (hS32.inn [false,false,false,false,false,false,false,true] rfl [(true,0)] rfl) hc8)) ?_ aN
       rintro _ w_23 ⟨rfl,hd10⟩
       have hS33:=hS32.out [false,false,false,false,false,false,false,true] rfl hd10
       refine ⟨(hS33.se [0,1,2,3,6]),?_⟩
       refine rq 6 56 (v:=.agg #[vi r_10,vi r_11]) rfl (hS33.se [0,1,2,3,6]) (fun w' hw'=>(Y_buildS (zs:=[vi 0,vi 0]) (vs:=[(0,vi r_10),(1,vi r_11)]) (cs:=[vi r_10,vi r_11]) K92 K46 rfl (mpc rfl (mpc rfl mpn)) rfl)) ?_
       refine rA [7] ?_
       refine rS 57 7 rfl (Ys_bslice (s:=2) (len:=1) (vs:=[(0,.agg #[vi r_10,vi r_11])]) (cs:=[vi r_10,vi r_11]) (zs:=[vi 0,vi 0]) (m:=2) hS33 K26 K20 K93 rfl (mpc rfl mpn) rfl rfl rfl (by kernel_rfl) (by kernel_rfl) rfl) ?_ aN
       rintro _ w_24 ⟨b6,rfl,hS34⟩
       refine ⟨(hS34.se [0,1,2,3,6]),?_⟩
       refine rA [8] ?_
       refine rS 58 8 rfl (Ys_append (s:=2) (by':=16) (i:=5) (nn:=r_5.Edges.length) (c:=c6) (k:=1) (len:=(r_5.Edges++[(TEdge.mk r_10 r_11)]).length) (B:=B6) (xs:=([(TEdge.mk r_10 r_11)].flatMap eN1)) (cs':=((r_5.Edges++[(TEdge.mk r_10 r_11)]).flatMap eN1)) hS34 K26 K20 K94 K46 rfl (by decide) rfl rfl rfl rfl (fm_lenn (l:=r_5.Edges) enc_Edge_len rfl) rfl (hS34.c 8) (fm_lenn (l:=[(TEdge.mk r_10 r_11)]) enc_Edge_len rfl) (fm_one' (enc:=eN1) enc_Edge_one [(TEdge.mk r_10 r_11)]) (by have:=hap1; omega) (by have:=hap1; simp only [maxLen]; omega) (fm_app _ _) (app_len (l:=r_5.Edges) (l':=[(TEdge.mk r_10 r_11)]) rfl rfl)) ?_ aN
       rintro _ w_25 ⟨B13,c13,rfl,hS35⟩
       refine ⟨(hS35.se [0,1,2,3,6]),?_⟩
       refine rq 9 59 (v:=pt (aD b4) 1) rfl (hS35.se [0,1,2,3,6]) (fun w' hw'=>(yd (aD b4) 0 0 K45 K39 rfl (hf.g 7 5))) ?_
       refine rA [10] ?_
       refine rZ 10 rfl (yS 4 1 (aD b4) 25 (.slice B13 ((r_5.Edges++[(TEdge.mk r_10 r_11)]).length) c13) [.slice B13 ((r_5.Edges++[(TEdge.mk r_10 r_11)]).length) c13] 1 [vi r_5.Nodes,.slice B13 ((r_5.Edges++[(TEdge.mk r_10 r_11)]).length) c13] hS35 K39) ?_ aN
       rintro _ w_26 ⟨rfl,hS36⟩
       refine ⟨(hS36.se [0,1,2,3,6]),?_⟩
       refine ra_done (by kernel_rfl) ?_
       exact ⟨B13,c13,(hf.a 2 1 (hf.a 3 2 (hf.a 6 4 (hf.a 7 5 (hf.a 8 6 fn_))))),(hS36.sel [7,0,1,2,3,4,5,6] rfl rfl)⟩
      refine rC 55 5 rfl (yC [pt B 0,vi 6] K17 (c_spec_l1Cur_pick (Tl1Cur.mk c.code m7.at_ m7.seed) 6 B B1 c1 c.code.length _ rfl (hS32.inn [false,false,false,false,false,false,false,true] rfl [(true,0)] rfl) hc8)) ?_ aN
      rintro _ w_27 ⟨rfl,hd11⟩
      have hS37:=hS32.out [false,false,false,false,false,false,false,true] rfl hd11
      refine ⟨(hS37.se [0,1,2,3,6]),?_⟩
      refine rq 6 56 (v:=.agg #[vi r_10,vi r_11]) rfl (hS37.se [0,1,2,3,6]) (fun w' hw'=>(Y_buildS (zs:=[vi 0,vi 0]) (vs:=[(0,vi r_10),(1,vi r_11)]) (cs:=[vi r_10,vi r_11]) K92 K46 rfl (mpc rfl (mpc rfl mpn)) rfl)) ?_
      refine rA [1,7] ?_
      refine ra_y 51 (i:=1) (v:=.slice B6 r_5.Edges.length c6) rfl rfl rfl (yl (aD b4) 1 V11 (.slice B6 r_5.Edges.length c6) K59 (hS37.c 4)) (hS37.se [0,1,2,3,6]) ?_ ?_
      ·skip
       refine rA [7] ?_
       refine rS 57 7 rfl (Ys_bslice (s:=2) (len:=1) (vs:=[(0,.agg #[vi r_10,vi r_11])]) (cs:=[vi r_10,vi r_11]) (zs:=[vi 0,vi 0]) (m:=2) hS37 K26 K20 K93 rfl (mpc rfl mpn) rfl rfl rfl (by kernel_rfl) (by kernel_rfl) rfl) ?_ aN
       rintro _ w_28 ⟨b6,rfl,hS38⟩
       refine ⟨(hS38.se [0,1,2,3,6]),?_⟩
       refine rA [8] ?_
       refine rS 58 8 rfl (Ys_append (s:=2) (by':=16) (i:=5) (nn:=r_5.Edges.length) (c:=c6) (k:=1) (len:=(r_5.Edges++[(TEdge.mk r_10 r_11)]).length) (B:=B6) (xs:=([(TEdge.mk r_10 r_11)].flatMap eN1)) (cs':=((r_5.Edges++[(TEdge.mk r_10 r_11)]).flatMap eN1)) hS38 K26 K20 K94 K46 rfl (by decide) rfl rfl rfl rfl (fm_lenn (l:=r_5.Edges) enc_Edge_len rfl) rfl (hS38.c 8) (fm_lenn (l:=[(TEdge.mk r_10 r_11)]) enc_Edge_len rfl) (fm_one' (enc:=eN1) enc_Edge_one [(TEdge.mk r_10 r_11)]) (by have:=hap1; omega) (by have:=hap1; simp only [maxLen]; omega) (fm_app _ _) (app_len (l:=r_5.Edges) (l':=[(TEdge.mk r_10 r_11)]) rfl rfl)) ?_ aN
       rintro _ w_29 ⟨B13,c13,rfl,hS39⟩
       have hS39:ST w0 (bl [O0]) _ [O4,O3,O1,O5,O2,⟨B13,87,((r_5.Edges++[(TEdge.mk r_10 r_11)]).flatMap eN1),c13*2⟩,⟨B7,3,(start.flatMap encI),c7*1⟩,O8,⟨aD b6,87,([(TEdge.mk r_10 r_11)].flatMap eN1),1*2⟩] [R9]:=hS39
       refine ⟨(hS39.se [0,1,2,3,6]),?_⟩
       refine rq 9 59 (v:=pt (aD b4) 1) rfl (hS39.se [0,1,2,3,6]) (fun w' hw'=>(yd (aD b4) 0 0 K45 K39 rfl (hf.g 7 5))) ?_
       refine rA [10] ?_
       refine rZ 10 rfl (yS 4 1 (aD b4) 25 (.slice B13 ((r_5.Edges++[(TEdge.mk r_10 r_11)]).length) c13) [.slice B13 ((r_5.Edges++[(TEdge.mk r_10 r_11)]).length) c13] 1 [vi r_5.Nodes,.slice B13 ((r_5.Edges++[(TEdge.mk r_10 r_11)]).length) c13] hS39 K39) ?_ aN
       rintro _ w_30 ⟨rfl,hS40⟩
       refine ⟨(hS40.se [0,1,2,3,6]),?_⟩
       refine ra_done (by kernel_rfl) ?_
       exact ⟨B13,c13,(hf.a 2 1 (hf.a 3 2 (hf.a 6 4 (hf.a 7 5 (hf.a 8 6 fn_))))),(hS40.sel [7,0,1,2,3,4,5,6] rfl rfl)⟩
      refine rS 57 7 rfl (Ys_bslice (s:=2) (len:=1) (vs:=[(0,.agg #[vi r_10,vi r_11])]) (cs:=[vi r_10,vi r_11]) (zs:=[vi 0,vi 0]) (m:=2) hS37 K26 K20 K93 rfl (mpc rfl mpn) rfl rfl rfl (by kernel_rfl) (by kernel_rfl) rfl) ?_ aN
      rintro _ w_31 ⟨b6,rfl,hS41⟩
      refine ⟨(hS41.se [0,1,2,3,6]),?_⟩
      refine rA [1] ?_
      refine ra_y 51 (i:=1) (v:=.slice B6 r_5.Edges.length c6) rfl rfl rfl (yl (aD b4) 1 V11 (.slice B6 r_5.Edges.length c6) K59 (hS41.c 4)) (hS41.se [0,1,2,3,6]) ?_ aN
      refine rA [8] ?_
      refine rS 58 8 rfl (Ys_append (s:=2) (by':=16) (i:=5) (nn:=r_5.Edges.length) (c:=c6) (k:=1) (len:=(r_5.Edges++[(TEdge.mk r_10 r_11)]).length) (B:=B6) (xs:=([(TEdge.mk r_10 r_11)].flatMap eN1)) (cs':=((r_5.Edges++[(TEdge.mk r_10 r_11)]).flatMap eN1)) hS41 K26 K20 K94 K46 rfl (by decide) rfl rfl rfl rfl (fm_lenn (l:=r_5.Edges) enc_Edge_len rfl) rfl (hS41.c 8) (fm_lenn (l:=[(TEdge.mk r_10 r_11)]) enc_Edge_len rfl) (fm_one' (enc:=eN1) enc_Edge_one [(TEdge.mk r_10 r_11)]) (by have:=hap1; omega) (by have:=hap1; simp only [maxLen]; omega) (fm_app _ _) (app_len (l:=r_5.Edges) (l':=[(TEdge.mk r_10 r_11)]) rfl rfl)) ?_ aN
      rintro _ w_32 ⟨B13,c13,rfl,hS42⟩
      refine ⟨(hS42.se [0,1,2,3,6]),?_⟩
      refine rq 9 59 (v:=pt (aD b4) 1) rfl (hS42.se [0,1,2,3,6]) (fun w' hw'=>(yd (aD b4) 0 0 K45 K39 rfl (hf.g 7 5))) ?_
      refine rA [10] ?_
      refine rZ 10 rfl (yS 4 1 (aD b4) 25 (.slice B13 ((r_5.Edges++[(TEdge.mk r_10 r_11)]).length) c13) [.slice B13 ((r_5.Edges++[(TEdge.mk r_10 r_11)]).length) c13] 1 [vi r_5.Nodes,.slice B13 ((r_5.Edges++[(TEdge.mk r_10 r_11)]).length) c13] hS42 K39) ?_ aN
      rintro _ w_33 ⟨rfl,hS43⟩
      refine ⟨(hS43.se [0,1,2,3,6]),?_⟩
      refine ra_done (by kernel_rfl) ?_
      exact ⟨B13,c13,(hf.a 2 1 (hf.a 3 2 (hf.a 6 4 (hf.a 7 5 (hf.a 8 6 fn_))))),(hS43.sel [7,0,1,2,3,4,5,6] rfl rfl)⟩
     rintro f w ⟨B14,c14,hf3,hS25⟩
     have ho2:Org w0 (bl [O0]) [R9] [⟨B7,(start.flatMap encI)⟩]:=ST.orgOwn hS25 (i:=7) rfl
     have hcap1:start.length≤c7:=(hS25.lencap (i:=7) rfl (fm_lenn (l:=start) encI_len rfl) rfl rfl)
     have hS44:ST w0 (bl [O0]) _ [O8,O4,O3,O1,O5,⟨aD b4,25,[vi r_5.Nodes,.slice B14 ((r_5.Edges++[(TEdge.mk r_10 r_11)]).length) c14],2⟩,⟨B14,87,((r_5.Edges++[(TEdge.mk r_10 r_11)]).flatMap eN1),c14*2⟩] [⟨B7,(start.flatMap encI)⟩,R9]:=hS25.freeze (i:=7) rfl
     exact ⟨m8.at_,m8.seed,r_4.Qubits,r_4.Gates,(r_5.Edges++[(TEdge.mk r_10 r_11)]),start,B5,c5,B14,c14,B7,c7,(sI hF8),(hf3.a 2 0 (hf3.a 3 1 (hf3.a 6 2 (hf3.a 7 3 (hf3.a 8 4 fn_))))),ho2,(len_le rfl hcap1),(hS44.sel [0,1,2,3,4,5,6] rfl rfl)⟩
    ·skip
     have hF9:=cf' hF7 hb4
     refine cq (cr ?_)
     refine sQ 61 (yE r_8 2)<|sQ 60 (yg (.bool (r_8==2))) (rn ?_)
     refine cw_cond (b:=(r_8==2)) rfl (fun hb5=>?_) (fun hb5=>?_)
     ·skip
      have hF10:=ct hF9 hb5
      refine cr ?_
      refine sQ 62 (ym (.slice B7 start.length c7) rfl (hf.g 8 6))<|sQ 63 (ym (pt B 0) rfl (hf.g 0 0))<|sQ 64 (ym (vi (i64.wrap (2+r_3))) rfl (hf.g 5 3)) ?_
      obtain ⟨⟨r_12,m9⟩,hc9,hF10⟩:=bI hF10
      refine sc 65 rfl rfl (yC [pt B 0,vi (i64.wrap (2+r_3))] K17 (c_spec_l1Cur_pick (Tl1Cur.mk c.code m5.at_ m5.seed) (i64.wrap (2+r_3)) B B1 c1 c.code.length _ rfl (hS19.inn [false,false,false,false,false,false,false,true] rfl [(true,0)] rfl) hc9)) ?_
      rintro _ w_34 ⟨rfl,hd12⟩
      have hS45:=hS19.out [false,false,false,false,false,false,false,true] rfl hd12
      refine sQ 66 (ym (pt B 0) rfl (hf.g 0 0)) ?_
      obtain ⟨⟨r_13,m10⟩,hc10,hF10⟩:=bI hF10
      refine sc 67 rfl rfl (yC [pt B 0,vi 7] K17 (c_spec_l1Cur_pick (Tl1Cur.mk c.code m9.at_ m9.seed) 7 B B1 c1 c.code.length _ rfl (hS45.inn [false,false,false,false,false,false,false,true] rfl [(true,0)] rfl) hc10)) ?_
      rintro _ w_35 ⟨rfl,hd13⟩
      have hS46:=hS45.out [false,false,false,false,false,false,false,true] rfl hd13
      refine sQ 68 (yM r_13 1) ?_
      obtain ⟨x,hx,hF10⟩:=bI hF10
      refine sQ 69 (Y_index (B:=B7) (m:=start.length) (c:=c7) (k:=.i64) (i:=r_12) K2 K0 rfl rfl rfl (gi_isSome encI_len rfl (hS46.c 6) hx) (getI_nn hx) (getI_ltI hx rfl)) ?_
      refine s0 (yS 6 1 B7 3 (vi (i64.wrap (r_13-1))) [vi (i64.wrap (r_13-1))] (r_12.toNat*1) ((start.set r_12.toNat (i64.wrap (r_13-1))).flatMap encI) hS46 K0 rfl rfl rfl rfl rfl rfl rfl (gi_fit0 encI_len hx) (gi_set encI_len hx (i64.wrap (r_13-1)) rfl)) ?_
      rintro _ w_36 ⟨rfl,hS47⟩
      refine rn ?_
      let R10:Ro:=⟨B7,((start.set r_12.toNat (i64.wrap (r_13-1))).flatMap encI)⟩
      have ho3:Org w0 (bl [O0]) [R9] [R10]:=ST.orgOwn hS47 (i:=6) rfl
      have hcap2:start.length≤c7:=(hS47.lencap (i:=6) rfl (fm_lenn (l:=(start.set r_12.toNat (i64.wrap (r_13-1)))) encI_len (set_len _ _ _ rfl)) rfl rfl)
      have hS48:ST w0 (bl [O0]) _ [O4,O3,O1,O5,O2,O6,⟨B,51,[.slice B1 c.code.length c1,vi m10.at_,.int .u64 m10.seed],3⟩] [R10,R9]:=hS47.freeze (i:=6) rfl
      exact ⟨m10.at_,m10.seed,r_4.Qubits,r_4.Gates,r_5.Edges,(start.set r_12.toNat (i64.wrap (r_13-1))),B5,c5,B6,c6,B7,c7,(sI hF10),(hf.a 2 1 (hf.a 3 2 (hf.a 6 4 (hf.a 7 5 (fc (sl_len (set_len _ _ _ rfl) (hf.g 8 6)) fn_))))),ho3,(len_le (set_len _ _ _ rfl) hcap2),(hS48.sel [6,0,1,2,3,4,5] rfl rfl)⟩
     ·skip
      have hF11:=cf' hF9 hb5
      refine cq (cr ?_)
      refine sQ 71 (yE r_8 3)<|sQ 70 (yg (.bool (r_8==3))) (rn ?_)
      refine cw_cond (b:=(r_8==3)) rfl (fun hb6=>?_) (fun hb6=>?_)
      ·skip
       have hF12:=ct hF11 hb6
       refine cr ?_
       refine sQ 72 (ym (.slice B7 start.length c7) rfl (hf.g 8 6)) ?_
       obtain ⟨hsl,hF12⟩:=chk_inv hF12
       have hcap3:start.length≤c7:=(hS19.lencap (i:=6) rfl (fm_lenn (l:=start) encI_len rfl) rfl rfl)
       have ho5:Org w0 (bl [O0]) [R9] [⟨B7,(start.flatMap encI)⟩]:=ST.orgOwn hS19 (i:=6) rfl
       have hcap4:start.length≤c7:=(hS19.lencap (i:=6) rfl (fm_lenn (l:=start) encI_len rfl) rfl rfl)
       let O7:Ob:=⟨B,51,[.slice B1 c.code.length c1,vi m5.at_,.int .u64 m5.seed],3⟩
       have hS49:ST w0 (bl [O0]) _ [O4,O3,O1,O5,O2,O6,O7] [⟨B7,(start.flatMap encI)⟩,R9]:=hS19.freeze (i:=6) rfl
       have hv:(List.drop 1 start).length=(start.length-1):=(drop_len rfl)
       have hq1:(start.length-1)≤(c7-1):=by omega
       have ho4:Org w0 (bl [O0]) [R9] [⟨(sv B7 1 c7 1),((List.drop 1 start).flatMap encI)⟩]:=org_view encI_len (q:=c7) ho5 rfl (take_all rfl _)
       have hS50:ST w0 (bl [O0]) _ [O4,O3,O1,O5,O2,O6,O7] [⟨(sv B7 1 c7 1),((List.drop 1 start).flatMap encI)⟩,⟨B7,(start.flatMap encI)⟩,R9]:=ST.view encI_len hS49 (i:=0) rfl (lo:=1) (h:=start.length) (q:=c7) (by omega) (by omega) rfl (take_all rfl _)
       refine sQ 73 (Y_slice1 (B:=B7) (m:=start.length) (c:=c7) (l:=1) (h:=start.length) (s:=1) K2 K0 rfl rfl rfl (bnd_some rfl rfl) (by omega) (by omega))<|sQ 8 (yg (.slice (sv B7 1 c7 1) (start.length-1) (c7-1))) (rn ?_)
       have hS51:ST w0 (bl [O0]) _ [O4,O3,O1,O5,O2,O6,O7] [⟨(sv B7 1 c7 1),((List.drop 1 start).flatMap encI)⟩,R9]:=hS50.sT [0,2]
       exact ⟨m5.at_,m5.seed,r_4.Qubits,r_4.Gates,r_5.Edges,(List.drop 1 start),B5,c5,B6,c6,(sv B7 1 c7 1),(c7-1),(sI hF12),(hf.a 2 1 (hf.a 3 2 (hf.a 6 4 (hf.a 7 5 (fc (sl_len hv rfl) fn_))))),ho4,(len_le hv hq1),(hS51.sel [6,0,1,2,3,4,5] rfl rfl)⟩
      ·skip
       have hF13:=cf' hF11 hb6
       refine cw_skip ?_
       have ho6:Org w0 (bl [O0]) [R9] [⟨B7,(start.flatMap encI)⟩]:=ST.orgOwn hS19 (i:=6) rfl
       have hcap5:start.length≤c7:=(hS19.lencap (i:=6) rfl (fm_lenn (l:=start) encI_len rfl) rfl rfl)
       have hS52:ST w0 (bl [O0]) _ [O4,O3,O1,O5,O2,O6,⟨B,51,[.slice B1 c.code.length c1,vi m5.at_,.int .u64 m5.seed],3⟩] [⟨B7,(start.flatMap encI)⟩,R9]:=hS19.freeze (i:=6) rfl
       exact ⟨m5.at_,m5.seed,r_4.Qubits,r_4.Gates,r_5.Edges,start,B5,c5,B6,c6,B7,c7,(sI hF13),(hf.a 2 1 (hf.a 3 2 (hf.a 6 4 (hf.a 7 5 (hf.a 8 6 fn_))))),ho6,(len_le rfl hcap5),(hS52.sel [6,0,1,2,3,4,5] rfl rfl)⟩
  rintro f w ⟨at_1,seed1,Qubits,Gates,Edges,start1,B9,c9,B10,c10,B11,c11,rfl,hf2,ho,hq,hS18⟩
  refine cq ?_
  refine ra_start (hS18.se [0,3,4,5,6]).fn (by kernel_rfl) ?_
  have hS53:=hS18.drew
  let V12:List Value:=[vi r_5.Nodes,.slice B10 Edges.length c10]
  refine rq 0 74 (v:=.agg V12.toArray) rfl (hS53.se [0,3,4,5,6]) (fun w' hw'=>(yb (aD b4) 0 V12 K5 K3 (ST.cf hw' (i:=3) rfl) rfl (hf2.g 7 3))) ?_
  let V13:List Value:=[vi Qubits,.slice B9 Gates.length c9]
  refine rq 1 75 (v:=.agg V13.toArray) rfl (hS53.se [0,3,4,5,6]) (fun w' hw'=>(yb (aD b3) 0 V13 K14 K7 (ST.cf hw' (i:=1) rfl) rfl (hf2.g 6 2))) ?_
  refine rq 2 76 rfl (hS53.se [0,3,4,5,6]) (fun w' hw'=>(ym (.slice B11 start1.length c11) rfl (hf2.g 8 4))) ?_
  refine rA [3] ?_
  refine rZ 3 rfl (yT 1 2 (aD b) 25 (.agg V12.toArray) V12 0 hS53 K3 rfl (hf2.g 2 0)) ?_ aN
  rintro _ w_37 ⟨rfl,hS54⟩
  refine ⟨(hS54.se [0,3,4,5,6]),?_⟩
  refine rA [4] ?_
  refine rZ 4 rfl (yT 2 2 (aD b1) 28 (.agg V13.toArray) V13 0 hS54 K7 rfl (hf2.g 3 1)) ?_ aN
  rintro _ w_38 ⟨rfl,hS55⟩
  refine ⟨(hS55.se [0,3,4,5,6]),?_⟩
  refine rq 5 4 rfl (hS55.se [0,3,4,5,6]) (fun w' hw'=>(yg (.slice B11 start1.length c11))) ?_
  refine ra_done (by kernel_rfl) ?_
  refine ct_ ?_
  obtain ⟨rfl,rfl,rfl,rfl⟩:=pr4 (sI hF5)
  exact ret3 Try.results20 (v1:=.agg V12.toArray) (resAt_cellA (B:=aD b) (i:=0) (cs:=V12) (vs:=V12) (hf2.g 2 0) K5 K3 (hS55.c 1) rfl rfl) (v2:=.agg V13.toArray) (resAt_cellA (B:=aD b1) (i:=0) (cs:=V13) (vs:=V13) (hf2.g 3 1) K14 K7 (hS55.c 2) rfl rfl) (v3:=.slice B11 start1.length c11) (resAt_tmp rfl) ⟨B10,c10,B9,c9,B11,c11,rfl,(len_le rfl hq),(org_cons ho org_nil),((hS55.sel [0,6,4] rfl rfl).sT [0])⟩

theorem c_spec_DrawLeastSwaps (code:List Int) (B:Option Addr) (c n:Nat) (w0:World) (hn:code.length=n) (hS:ST w0 [] w0 [] [⟨B,(code.flatMap enc_u8)⟩]) {r_:TCouplingGraph} {r_1:TCircuit} {r_2:List Int} (hF:F_spec_DrawLeastSwaps code=some (r_,r_1,r_2)) :
  CV Try.prog 4 #[.slice B n c] w0 (fun v w'=>∃ (B1:Option Addr) (c1:Nat) (B2:Option Addr) (c2:Nat) (B3:Option Addr) (c3:Nat),v=.tuple #[.agg #[vi r_.Nodes,.slice B1 r_.Edges.length c1],.agg #[vi r_1.Qubits,.slice B2 r_1.Gates.length c2],.slice B3 r_2.length c3]∧r_2.length≤c3∧Org w0 [] [⟨B,(code.flatMap enc_u8)⟩] [⟨B3,(r_2.flatMap encI)⟩]∧ST w0 [] w' [⟨B1,87,(r_.Edges.flatMap eN1),c1*2⟩,⟨B2,56,(r_1.Gates.flatMap eN2),c2*3⟩] [⟨B3,(r_2.flatMap encI)⟩]):=by
 subst hn
 unfold F_spec_DrawLeastSwaps at hF
 refine cv_of_cw 48 Try.func4 rfl Try.ntmps4 rfl ?_
 refine cq (cr ?_)
 let V7:List Value:=[vi 0,.slice none 0 0]
 refine sS 2 (yN V7 2 hS K48) ?_
 rintro _ w_ ⟨b,rfl,hS1⟩
 refine sS 3 (yN V7 2 hS1 K62) ?_
 rintro _ w_1 ⟨b1,rfl,hS2⟩
 refine sQ 4 (yg (.slice none 0 0)) (rn (cq (cr ?_)))
 let V8:List Value:=[.slice B code.length c,vi 0,.int .u64 0]
 refine sQ 9 (ym (.slice B code.length c))<|sQ 10 (Y_buildS (zs:=[.slice none 0 0,vi 0,.int .u64 0]) (vs:=[(0,.slice B code.length c)]) (cs:=V8) k_pl_51 k_zero_51 rfl (mpc rfl mpn) rfl) ?_
 refine sS 11 (yB 51 (.agg V8.toArray) V8 3 hS2) ?_
 rintro _ w_2 ⟨b2,rfl,hS3⟩
 refine sQ 5 (yg (pt (aD b2) 0)) (rn (cq (cq (cr ?_))))
 refine sQ 12 (ym (pt (aD b2) 0)) ?_
 obtain ⟨⟨r_3,m⟩,hc,hF⟩:=bI hF
 refine sc 13 rfl rfl (yC [pt (aD b2) 0,vi 14] K101 (c_spec_l1Cur_one (Tl1Cur.mk code 0 0) 14 (aD b2) B c code.length _ rfl (hS3.inn [false,false,true] rfl [(true,0)] rfl) hc)) ?_
 rintro _ w_3 ⟨rfl,hd⟩
 have hS4:=hS3.out [false,false,true] rfl hd
 refine rn ?_
 refine cw_cond (b:=r_3) rfl (fun hb=>?_) (fun hb=>?_)
 ·skip
  have hF1:=ct hF hb
  refine cq (cr ?_)
  refine sQ 14 (ym (pt (aD b2) 0)) ?_
  refine sS 15 (Ys_bslice (s:=1) (len:=2) (vs:=[(0,vi 7),(1,vi 9)]) (cs:=[vi 7,vi 9]) (zs:=[vi 0,vi 0]) (m:=2) hS4 K2 K0 K30 rfl (mpc rfl (mpc rfl mpn)) rfl rfl rfl (by kernel_rfl) (by kernel_rfl) rfl) ?_
  rintro _ w_4 ⟨b3,rfl,hS5⟩
  obtain ⟨⟨r_4,m1⟩,hc1,hF1⟩:=bI hF1
  refine sc 16 rfl rfl (yC [pt (aD b2) 0,vi 2,vi 9,.slice (aD b3) 2 2] K131 (c_spec_l1Cur_built (Tl1Cur.mk code m.at_ m.seed) 2 9 [7,9] (aD b2) B c code.length (aD b3) 2 2 _ rfl rfl (hS5.inn [false,false,true,false] rfl [(true,0),(false,2)] rfl) hc1)) ?_
  rintro _ w_5 ⟨B4,c4,rfl,hd1⟩
  have hS6:=hS5.out [false,false,true,false] rfl hd1
  refine sS 6 (yN V7 2 hS6 K62) ?_
  rintro _ w_6 ⟨b4,rfl,hS7⟩
  refine s0 (yT 5 2 (aD b4) 28 (.agg #[vi r_4.Qubits,.slice B4 r_4.Gates.length c4]) [vi r_4.Qubits,.slice B4 r_4.Gates.length c4] 0 hS7 K7) ?_
  rintro _ w_7 ⟨rfl,hS8⟩
  refine rn (cq (cq (cr ?_)))
  refine sQ 17 (ym (pt (aD b2) 0)) ?_
  obtain ⟨⟨r_5,m2⟩,hc2,hF1⟩:=bI hF1
  refine sc 18 rfl rfl (yC [pt (aD b2) 0,vi 6] K17 (c_spec_l1Cur_pick (Tl1Cur.mk code m1.at_ m1.seed) 6 (aD b2) B c code.length _ rfl (hS8.inn [false,false,false,true,false,false] rfl [(true,0)] rfl) hc2)) ?_
  rintro _ w_8 ⟨rfl,hd2⟩
  have hS9:=hS8.out [false,false,false,true,false,false] rfl hd2
  refine sQ 19 (yP 5 r_5)<|sQ 7 (yg (vi (i64.wrap (5+r_5)))) (rn ?_)
  obtain ⟨z,hz,hF2⟩:=bI hF1
  refine cw_block ?_
  let R1:Ro:=⟨B,(code.flatMap enc_u8)⟩
  refine cw_loop (fun k f w=>∃ (Gates:List TGate) (k_:Int) (B5:Option Addr) (c5:Nat),FF f [(2,pt (aD b) 0),(3,pt (aD b1) 0),(5,pt (aD b2) 0),(6,pt (aD b4) 0),(7,vi k_)]∧ST w0 [] w [⟨aD b,25,V7,2⟩,⟨aD b1,28,V7,2⟩,⟨aD b2,51,[.slice B code.length c,vi m2.at_,.int .u64 m2.seed],3⟩,⟨aD b4,28,[vi r_4.Qubits,.slice B5 Gates.length c5],2⟩,⟨B5,56,(Gates.flatMap eN2),c5*3⟩] [R1]∧whX F_spec_DrawLeastSwaps_l1 k (Gates,k_)=some z) fuel ⟨r_4.Gates,(i64.wrap (5+r_5)),B4,c4,(fc rfl (fc rfl (fc rfl (fc rfl (fc rfl fn_))))),(hS9.sel [0,1,5,4,3] rfl rfl),hz⟩ ?_
  rintro K4 f w ⟨Gates,k_,B5,c5,hf,hS10,hL⟩
  obtain ⟨K10,y,rfl,hb1,hL1⟩:=whX_go hL
  unfold F_spec_DrawLeastSwaps_l1 at hb1
  refine cq (cq (cr ?_))
  refine sQ 20 (ym (vi k_) rfl (hf.g 7 4))<|sQ 21 (Y_gt (k:=.i64) (a:=k_) (b:=0) rfl rfl rfl) (rn ?_)
  refine cw_cond (b:=(decide (0<k_))) rfl (fun hb2=>?_) (fun hb2=>?_)
  ·skip
   have hF3:=ct hb1 hb2
   refine cw_skip (cq (cw_block (cr ?_)))
   refine sQ 24 (yd (aD b4) 0 0 K19 K16 rfl (hf.g 6 3))<|sQ 25 (yl (aD b4) 1 [vi r_4.Qubits,.slice B5 Gates.length c5] (.slice B5 Gates.length c5) K21 (hS10.c 3))<|sQ 26 (ym (vi k_) rfl (hf.g 7 4))<|sQ 27 (Y_rem (k:=.i64) (a:=k_) (b:=2) rfl rfl rfl (by decide))<|sQ 28 (ym (vi k_) rfl (hf.g 7 4))<|sQ 29 (Y_rem (k:=.i64) (a:=k_) (b:=2) rfl rfl rfl (by decide)) ?_
   let V6:List Value:=[vi 10,vi (Int.tmod k_ 2),vi (i64.wrap (1-(Int.tmod k_ 2)))]
   refine sQ 30 (yM 1 (Int.tmod k_ 2))<|sQ 31 (Y_buildS (zs:=[vi 0,vi 0,vi 0]) (vs:=[(0,vi 10),(1,vi (Int.tmod k_ 2)),(2,vi (i64.wrap (1-(Int.tmod k_ 2))))]) (cs:=V6) K91 K38 rfl (mpc rfl (mpc rfl (mpc rfl mpn))) rfl) ?_
   refine sS 32 (Ys_bslice (s:=3) (len:=1) (vs:=[(0,.agg V6.toArray)]) (cs:=V6) (zs:=[vi 0,vi 0,vi 0]) (m:=3) hS10 K12 K6 K78 rfl (mpc rfl mpn) rfl rfl rfl (by kernel_rfl) (by kernel_rfl) rfl) ?_
   rintro _ w_9 ⟨b5,rfl,hS11⟩
   obtain ⟨hap,hF3⟩:=chk_inv hF3
   refine sS 33 (Ys_append (s:=3) (by':=24) (i:=4) (nn:=Gates.length) (c:=c5) (k:=1) (len:=(Gates++[(TGate.mk 10 (Int.tmod k_ 2) (i64.wrap (1-(Int.tmod k_ 2))))]).length) (B:=B5) (xs:=([(TGate.mk 10 (Int.tmod k_ 2) (i64.wrap (1-(Int.tmod k_ 2))))].flatMap eN2)) (cs':=((Gates++[(TGate.mk 10 (Int.tmod k_ 2) (i64.wrap (1-(Int.tmod k_ 2))))]).flatMap eN2)) hS11 K12 K6 K79 K38 rfl (by decide) rfl rfl rfl rfl (fm_lenn (l:=Gates) eN9 rfl) rfl (hS11.c 5) (fm_lenn (l:=[(TGate.mk 10 (Int.tmod k_ 2) (i64.wrap (1-(Int.tmod k_ 2))))]) eN9 rfl) (fm_one' (enc:=eN2) enc_Gate_one [(TGate.mk 10 (Int.tmod k_ 2) (i64.wrap (1-(Int.tmod k_ 2))))]) (by have:=hap; omega) (by have:=hap; simp only [maxLen]; omega) (fm_app _ _) (app_len (l:=Gates) (l':=[(TGate.mk 10 (Int.tmod k_ 2) (i64.wrap (1-(Int.tmod k_ 2))))]) rfl rfl)) ?_
   rintro _ w_10 ⟨B6,c6,rfl,hS12⟩
   refine sQ 34 (yd (aD b4) 0 0 K19 K16 rfl (hf.g 6 3)) ?_
   refine s0 (yS 3 1 (aD b4) 28 (.slice B6 ((Gates++[(TGate.mk 10 (Int.tmod k_ 2) (i64.wrap (1-(Int.tmod k_ 2))))]).length) c6) [.slice B6 ((Gates++[(TGate.mk 10 (Int.tmod k_ 2) (i64.wrap (1-(Int.tmod k_ 2))))]).length) c6] 1 [vi r_4.Qubits,.slice B6 ((Gates++[(TGate.mk 10 (Int.tmod k_ 2) (i64.wrap (1-(Int.tmod k_ 2))))]).length) c6] hS12 K16) ?_
   rintro _ w_11 ⟨rfl,hS13⟩
   refine rn (cr ?_)
   refine sQ 22 (ym (vi k_) rfl (hf.g 7 4))<|sQ 23 (yM k_ 1)<|sQ 7 (yg (vi (i64.wrap (k_-1)))) (rn ?_)
   obtain rfl:=sI hF3
   exact ⟨K10,Nat.lt_succ_self _,(Gates++[(TGate.mk 10 (Int.tmod k_ 2) (i64.wrap (1-(Int.tmod k_ 2))))]),(i64.wrap (k_-1)),B6,c6,(hf.a 2 0 (hf.a 3 1 (hf.a 5 2 (hf.a 6 3 (fc rfl fn_))))),(hS13.sel [0,1,2,3,4] rfl rfl),hL1⟩
  ·skip
   have hF4:=cf' hb1 hb2
   refine cw_exit rfl ?_
   obtain rfl:=sI hF4
   obtain rfl:=sI hL1
   refine cq (cr ?_)
   refine sQ 35 (ym (pt (aD b2) 0) rfl (hf.g 5 2)) ?_
   obtain ⟨⟨r_6,m3⟩,hc3,hF2⟩:=bI hF2
   refine sc 36 rfl rfl (yC [pt (aD b2) 0,vi 2,vi 6] k_call_19 (c_spec_l1Cur_device (Tl1Cur.mk code m2.at_ m2.seed) 2 6 (aD b2) B c code.length _ rfl (hS10.inn [false,false,true,false,false] rfl [(true,0)] rfl) hc3)) ?_
   rintro _ w_12 ⟨B7,c7,rfl,hd3⟩
   have hS14:=hS10.out [false,false,true,false,false] rfl hd3
   refine sS 8 (yN V7 2 hS14 K48) ?_
   rintro _ w_13 ⟨b6,rfl,hS15⟩
   let V3:List Value:=[vi r_6.Nodes,.slice B7 r_6.Edges.length c7]
   refine s0 (yT 6 2 (aD b6) 25 (.agg V3.toArray) V3 0 hS15 K3) ?_
   rintro _ w_14 ⟨rfl,hS16⟩
   refine rn (cq ?_)
   let O0:Ob:=⟨aD b,25,V3,2⟩
   let V2:List Value:=[vi r_4.Qubits,.slice B5 Gates.length c5]
   refine cw_mid (fun f w=>∃ (B8:Option Addr),FF f [(2,pt (aD b) 0),(3,pt (aD b1) 0),(4,.slice B8 2 2)]∧ST w0 [] w [O0,⟨B7,87,(r_6.Edges.flatMap eN1),c7*2⟩,⟨aD b1,28,V2,2⟩,⟨B5,56,(Gates.flatMap eN2),c5*3⟩,⟨B8,3,([0,(i64.wrap (r_6.Nodes-1))].flatMap encI),2*1⟩] [R1]) ?_ ?_
   ·skip
    refine ra_start (hS16.se [2,3,4,5,6]).fn (by kernel_rfl) ?_
    have hS18:=hS16.drew
    refine rq 0 37 (v:=.agg V3.toArray) rfl (hS18.se [2,3,4,5,6]) (fun w' hw'=>(yb (aD b6) 0 V3 K5 K3 (ST.cf hw' (i:=4) rfl))) ?_
    refine rq 1 38 (v:=.agg V2.toArray) rfl (hS18.se [2,3,4,5,6]) (fun w' hw'=>(yb (aD b4) 0 V2 K14 K7 (ST.cf hw' (i:=0) rfl) rfl (hf.g 6 3))) ?_
    refine rq 2 39 (v:=pt (aD b6) 0) rfl (hS18.se [2,3,4,5,6]) (fun w' hw'=>(yd (aD b6) 0 0 K49 K0)) ?_
    refine rq 3 40 rfl (hS18.se [2,3,4,5,6]) (fun w' hw'=>(yl (aD b6) 0 V3 (vi r_6.Nodes) K1 (ST.cf hw' (i:=4) rfl))) ?_
    refine rq 4 41 rfl (hS18.se [2,3,4,5,6]) (fun w' hw'=>(yM r_6.Nodes 1)) ?_
    refine rA [5,6] ?_
    let V9:List Value:=[vi 0,vi (i64.wrap (r_6.Nodes-1))]
    refine rS 42 5 rfl (Ys_bslice (s:=1) (len:=2) (vs:=[(0,vi 0),(1,vi (i64.wrap (r_6.Nodes-1)))]) (cs:=V9) (zs:=[vi 0,vi 0]) (m:=2) hS18 K2 K0 K30 rfl (mpc rfl (mpc rfl mpn)) rfl rfl rfl (by kernel_rfl) (by kernel_rfl) rfl) ?_ ?_
    ·rintro _ w_15 ⟨b7,rfl,hS19⟩
     refine ⟨(hS19.se [2,3,4,5,6]),?_⟩
     refine rA [6] ?_
     refine rZ 6 rfl (yT 0 2 (aD b) 25 (.agg V3.toArray) V3 0 hS19 K3 rfl (hf.g 2 0)) ?_ aN
     rintro _ w_16 ⟨rfl,hS20⟩
     refine ⟨(hS20.se [2,3,4,5,6]),?_⟩
     refine rA [7] ?_
     refine rZ 7 rfl (yT 1 2 (aD b1) 28 (.agg V2.toArray) V2 0 hS20 K7 rfl (hf.g 3 1)) ?_ aN
     rintro _ w_17 ⟨rfl,hS21⟩
     refine ⟨(hS21.se [2,3,4,5,6]),?_⟩
     refine rq 8 4 rfl (hS21.se [2,3,4,5,6]) (fun w' hw'=>(yg (.slice (aD b7) 2 2))) ?_
     refine ra_done (by kernel_rfl) ?_
     exact ⟨aD b7,(hf.a 2 0 (hf.a 3 1 (fc rfl fn_))),(hS21.sel [0,5,1,3,7] rfl rfl)⟩
    refine rZ 6 rfl (yT 0 2 (aD b) 25 (.agg V3.toArray) V3 0 hS18 K3 rfl (hf.g 2 0)) ?_ aN
    rintro _ w_18 ⟨rfl,hS22⟩
    refine ⟨(hS22.se [2,3,4,5,6]),?_⟩
    refine rA [5,7] ?_
    refine rS 42 5 rfl (Ys_bslice (s:=1) (len:=2) (vs:=[(0,vi 0),(1,vi (i64.wrap (r_6.Nodes-1)))]) (cs:=V9) (zs:=[vi 0,vi 0]) (m:=2) hS22 K2 K0 K30 rfl (mpc rfl (mpc rfl mpn)) rfl rfl rfl (by kernel_rfl) (by kernel_rfl) rfl) ?_ ?_
    ·rintro _ w_19 ⟨b7,rfl,hS23⟩
     refine ⟨(hS23.se [2,3,4,5,6]),?_⟩
     refine rA [7] ?_
     refine rZ 7 rfl (yT 1 2 (aD b1) 28 (.agg V2.toArray) V2 0 hS23 K7 rfl (hf.g 3 1)) ?_ aN
     rintro _ w_20 ⟨rfl,hS24⟩
     refine ⟨(hS24.se [2,3,4,5,6]),?_⟩
     refine rq 8 4 rfl (hS24.se [2,3,4,5,6]) (fun w' hw'=>(yg (.slice (aD b7) 2 2))) ?_
     refine ra_done (by kernel_rfl) ?_
     exact ⟨aD b7,(hf.a 2 0 (hf.a 3 1 (fc rfl fn_))),(hS24.sel [0,5,1,3,7] rfl rfl)⟩
    refine rZ 7 rfl (yT 1 2 (aD b1) 28 (.agg V2.toArray) V2 0 hS22 K7 rfl (hf.g 3 1)) ?_ aN
    rintro _ w_21 ⟨rfl,hS25⟩
    refine ⟨(hS25.se [2,3,4,5,6]),?_⟩
    refine rA [5] ?_
    refine rS 42 5 rfl (Ys_bslice (s:=1) (len:=2) (vs:=[(0,vi 0),(1,vi (i64.wrap (r_6.Nodes-1)))]) (cs:=V9) (zs:=[vi 0,vi 0]) (m:=2) hS25 K2 K0 K30 rfl (mpc rfl (mpc rfl mpn)) rfl rfl rfl (by kernel_rfl) (by kernel_rfl) rfl) ?_ aN
    rintro _ w_22 ⟨b7,rfl,hS26⟩
    refine ⟨(hS26.se [2,3,4,5,6]),?_⟩
    refine rq 8 4 rfl (hS26.se [2,3,4,5,6]) (fun w' hw'=>(yg (.slice (aD b7) 2 2))) ?_
    refine ra_done (by kernel_rfl) ?_
    exact ⟨aD b7,(hf.a 2 0 (hf.a 3 1 (fc rfl fn_))),(hS26.sel [0,5,1,3,7] rfl rfl)⟩
   rintro f w ⟨B8,hf1,hS17⟩
   refine ct_ ?_
   have ho:Org w0 [] [R1] [⟨B8,([0,(i64.wrap (r_6.Nodes-1))].flatMap encI)⟩]:=ST.orgOwn hS17 (i:=4) rfl
   have hcap:2≤2:=(hS17.lencap (i:=4) rfl (fm_lenn (l:=[0,(i64.wrap (r_6.Nodes-1))]) encI_len rfl) rfl rfl)
   have hS27:ST w0 [] _ [O0,⟨B7,87,(r_6.Edges.flatMap eN1),c7*2⟩,⟨aD b1,28,V2,2⟩,⟨B5,56,(Gates.flatMap eN2),c5*3⟩] [⟨B8,([0,(i64.wrap (r_6.Nodes-1))].flatMap encI)⟩,R1]:=hS17.freeze (i:=4) rfl
   obtain ⟨rfl,rfl,rfl⟩:=pr3 (sI hF2)
   exact ret3 Try.results4 (v1:=.agg V3.toArray) (resAt_cellA (B:=aD b) (i:=0) (cs:=V3) (vs:=V3) (hf1.g 2 0) K5 K3 (hS27.c 0) rfl rfl) (v2:=.agg V2.toArray) (resAt_cellA (B:=aD b1) (i:=0) (cs:=V2) (vs:=V2) (hf1.g 3 1) K14 K7 (hS27.c 2) rfl rfl) (v3:=.slice B8 2 2) (resAt_tmp (hf1.g 4 2)) ⟨B7,c7,B5,c5,B8,2,rfl,(len_le rfl hcap),(org_cons ho org_nil),((hS27.sel [1,3] rfl rfl).sT [0])⟩
 ·skip
  have hF5:=cf' hF hb
  refine cw_skip (cq (cr ?_))
  refine sQ 43 (ym (pt (aD b2) 0)) ?_
  obtain ⟨⟨r_7,r_8,r_9,m4⟩,hc4,hF5⟩:=bI hF5
  refine sc 44 rfl rfl (yC [pt (aD b2) 0] k_call_20 (c_spec_l1Cur_routed (Tl1Cur.mk code m.at_ m.seed) (aD b2) B c code.length _ rfl (hS4.inn [false,false,true] rfl [(true,0)] rfl) hc4)) ?_
  rintro _ w_23 ⟨B9,c8,B10,c9,B11,c10,rfl,hq,ho1,hd4⟩
  have hS28:=ST.outR hS4 [false,false,true] rfl hd4 ho1 (sk 0 (fun _ h=>by cases h))
  have ho2:Org w0 [] [⟨B,(code.flatMap enc_u8)⟩] [⟨B11,(r_9.flatMap encI)⟩]:=org_trans hS4 (msk_mem (mask:=[false,false,true]) rfl) ho1 (org_cons (org_mem (i:=0) rfl) org_nil)
  have hS29:ST w0 [] _ [⟨aD b,25,V7,2⟩,⟨aD b1,28,V7,2⟩,⟨aD b2,51,[.slice B code.length c,vi m4.at_,.int .u64 m4.seed],3⟩,⟨B9,87,(r_7.Edges.flatMap eN1),c8*2⟩,⟨B10,56,(r_8.Gates.flatMap eN2),c9*3⟩] [⟨B11,(r_9.flatMap encI)⟩,⟨B,(code.flatMap enc_u8)⟩]:=hS28
  let V4:List Value:=[vi r_8.Qubits,.slice B10 r_8.Gates.length c9]
  let V5:List Value:=[vi r_7.Nodes,.slice B9 r_7.Edges.length c8]
  refine sQ 45 (ye (.agg V5.toArray))<|sQ 46 (ye (.agg V4.toArray))<|sQ 47 (ye (.slice B11 r_9.length c10)) ?_
  refine s0 (yT 0 2 (aD b) 25 (.agg V5.toArray) V5 0 hS29 K3) ?_
  rintro _ w_24 ⟨rfl,hS30⟩
  refine s0 (yT 1 2 (aD b1) 28 (.agg V4.toArray) V4 0 hS30 K7) ?_
  rintro _ w_25 ⟨rfl,hS31⟩
  refine sQ 4 (yg (.slice B11 r_9.length c10)) (rn (ct_ ?_))
  obtain ⟨rfl,rfl,rfl⟩:=pr3 (sI hF5)
  exact ret3 Try.results4 (v1:=.agg V5.toArray) (resAt_cellA (B:=aD b) (i:=0) (cs:=V5) (vs:=V5) rfl K5 K3 (hS31.c 0) rfl rfl) (v2:=.agg V4.toArray) (resAt_cellA (B:=aD b1) (i:=0) (cs:=V4) (vs:=V4) rfl K14 K7 (hS31.c 1) rfl rfl) (v3:=.slice B11 r_9.length c10) (resAt_tmp rfl) ⟨B9,c8,B10,c9,B11,c10,rfl,(len_le rfl hq),(org_cons (org_sub ho2 (sk 0 (fun _ h=>by cases h))) org_nil),((hS31.sel [3,4] rfl rfl).sT [0])⟩

theorem c_impl_within (n:Int) (low:Int) (high:Int)  (w0:World)  (hS:ST w0 [] w0 [] []) {r_:Bool} (hF:F_impl_within n low high=some r_) :
  CV Try.prog 34 #[vi n,vi low,vi high] w0 (fun v w'=>v=.bool r_∧ST w0 [] w' [] []):=by
 unfold F_impl_within at hF
 refine cv_of_cw 15 Try.func34 rfl Try.ntmps34 rfl ?_
 refine cq (cr ?_)
 refine sQ 6 (yg (.bool false)) (rn (cq (cr ?_)))
 refine sQ 7 (ym (vi low))<|sQ 8 (ym (vi n))<|sQ 9 (Y_le (k:=.i64) (a:=low) (b:=n) rfl rfl rfl)<|sQ 10 (ym (.bool (decide (low≤n)))) ?_
 refine sgq 11 (B:=(decide (low≤n))) rfl rfl (uT_ 10) (fun hg=>(ym (vi n))) ?_
 refine sgq 12 (B:=(decide (low≤n))) rfl rfl (uT_ 10) (fun hg1=>(ym (vi high))) ?_
 refine sgq 13 (B:=(decide (low≤n))) rfl rfl (uT_ 10) (fun hg2=>(Y_le (k:=.i64) (a:=n) (b:=high) rfl (gv_of (v:=vi n) hg2) (gv_of (v:=vi high) hg2))) ?_
 refine sQ 14 (Y_and (b:=(decide (low≤n))) (z:=(decide (n≤high))) rfl rfl rfl rfl)<|sQ 6 (yg (.bool ((decide (low≤n))&&(decide (n≤high))))) (rn (ct_ ?_))
 obtain rfl:=sI hF
 exact ret1 Try.results34 (v1:=.bool ((decide (low≤n))&&(decide (n≤high)))) (resAt_tmp rfl) ⟨rfl,(hS.sN [])⟩

theorem c_slices_Index_int_int (s:List Int) (v_:Int) (B:Option Addr) (c n:Nat) (w0:World) (hn:s.length=n) (hS:ST w0 [] w0 [] [⟨B,(s.flatMap encI)⟩]) {r_:Int} (hF:F_slices_Index_int_int s v_=some r_) :
  CV Try.prog 89 #[.slice B n c,vi v_] w0 (fun v w'=>v=vi r_∧ST w0 [] w' [] []):=by
 subst hn
 unfold F_slices_Index_int_int at hF
 refine cv_of_cw 19 Try.func89 rfl Try.ntmps89 rfl ?_
 refine cq (cr ?_)
 refine sQ 4 (yg (vi 0)) (rn (cq (cq (cr ?_))))
 refine sQ 6 (ym (.slice B s.length c))<|sQ 7 (Y_len (B:=B) (m:=s.length) (c:=c) K2 rfl rfl)<|sQ 8 (ym (vi 0)) (rn ?_)
 obtain ⟨hN,hF⟩:=chk_inv hF
 obtain ⟨z,hz,hF1⟩:=bI hF
 refine cw_block ?_
 refine cw_loop (fun k f w=>∃ (i:Nat),FF f [(0,.slice B s.length c),(1,vi v_),(7,vi (s.length:Int)),(8,vi (i:Int))]∧ST w0 [] w [] [⟨B,(s.flatMap encI)⟩]∧i+k=s.length∧forX (F_slices_Index_int_int_l1 s v_) k i ()=some z) s.length ⟨0,(fc rfl (fc rfl (fc rfl (fc rfl fn_)))),(hS.sel [] rfl rfl),Nat.zero_add _,hz⟩ ?_
 rintro k_ f w ⟨i,hf,hS1,hik,hL⟩
 refine cq (cr ?_)
 refine sQ 9 (yL (i:Int) (s.length:Int) rfl (hf.g 8 3) (hf.g 7 2)) (rn (cq ?_))
 refine cw_cond (b:=(decide ((i:Int)<(s.length:Int)))) rfl (fun hlt=>?_) (fun hlt=>?_)
 ·skip
  have hlt1:i<s.length:=by have h:=of_decide_eq_true hlt; omega
  obtain ⟨K4,rfl⟩:∃ k2,k_=k2+1:=⟨k_-1,by omega⟩
  obtain ⟨y,hb,hL1⟩:=forX_go hL
  unfold F_slices_Index_int_int_l1 at hb
  refine cw_skip (cq (cw_block (cq (cr ?_))))
  refine sQ 10 (ym (vi (i:Int)) rfl (hf.g 8 3))<|sQ 5 (yg (vi (i:Int))) (rn (cq (cr ?_)))
  refine sQ 11 (ym (vi v_) rfl (hf.g 1 1))<|sQ 12 (ym (.slice B s.length c) rfl (hf.g 0 0))<|sQ 13 (ym (vi (i:Int))) ?_
  obtain ⟨x,hx,hb⟩:=bI hb
  refine sQ 14 (Y_index (B:=B) (m:=s.length) (c:=c) (k:=.i64) (i:=(i:Int)) K2 K0 rfl rfl rfl (gi_isSome encI_len rfl (hS1.rf (i:=0) rfl) hx) (getI_nn hx) (getI_ltI hx rfl))<|sQ 15 (yl B ((i:Int).toNat*1) (s.flatMap encI) (vi x) K1 (hS1.rf (i:=0) rfl) rfl rfl (gi_at0 encI_len hx rfl))<|sQ 16 (yE v_ x) (rn ?_)
  refine cw_cond (b:=(v_==x)) rfl (fun hb1=>?_) (fun hb1=>?_)
  ·skip
   have hF2:=ct hb hb1
   refine cq (cr ?_)
   refine sQ 17 (ym (vi (i:Int)))<|sQ 4 (yg (vi (i:Int))) (rn (ct_ ?_))
   obtain rfl:=sI hF2
   obtain rfl:=sI hL1
   obtain rfl:=sI hF1
   exact ret1 Try.results89 (v1:=vi (i:Int)) (resAt_tmp rfl) ⟨rfl,(hS1.sN [])⟩
  ·skip
   have hF3:=cf' hb hb1
   refine cw_skip (cr ?_)
   refine sQ 18 (yP (i:Int) 1 rfl (hf.g 8 3))<|sQ 8 (ym (vi (i64.wrap ((i:Int)+1)))) (rn ?_)
   obtain rfl:=sI hF3
   exact ⟨K4,Nat.lt_succ_self _,i+1,(hf.a 0 0 (hf.a 1 1 (hf.a 7 2 (fc (congrArg (Value.int .i64) (wr_succ hlt1 hN)) fn_)))),(hS1.sel [] rfl rfl),(by omega),hL1⟩
 ·skip
  obtain rfl:k_=0:=by have h:=of_decide_eq_false hlt; omega
  refine cw_exit rfl ?_
  obtain rfl:=sI hL
  refine cq (cr ?_)
  refine sQ 4 (yg (vi (-1))) (rn (ct_ ?_))
  obtain rfl:=sI hF1
  exact ret1 Try.results89 (v1:=vi (-1)) (resAt_tmp rfl) ⟨rfl,(hS1.sN [])⟩

theorem c_slices_Contains_int_int (s:List Int) (v_:Int) (B:Option Addr) (c n:Nat) (w0:World) (hn:s.length=n) (hS:ST w0 [] w0 [] [⟨B,(s.flatMap encI)⟩]) {r_:Bool} (hF:F_slices_Contains_int_int s v_=some r_) :
  CV Try.prog 65 #[.slice B n c,vi v_] w0 (fun v w'=>v=.bool r_∧ST w0 [] w' [] []):=by
 subst hn
 unfold F_slices_Contains_int_int at hF
 refine cv_of_cw 9 Try.func65 rfl Try.ntmps65 rfl ?_
 refine cq (cr ?_)
 refine sQ 4 (yg (.bool false)) (rn (cq (cr ?_)))
 refine sQ 5 (ym (.slice B s.length c))<|sQ 6 (ym (vi v_)) ?_
 obtain ⟨r_1,hc,hF⟩:=bI hF
 refine sc 7 rfl rfl (yC [.slice B s.length c,vi v_] k_call_89 (c_slices_Index_int_int s v_ B c s.length _ rfl (hS.inn0 [(true,0)] rfl) hc)) ?_
 rintro _ w_ ⟨rfl,hd⟩
 have hS1:=hS.out00 hd
 refine sQ 8 (Y_ge (k:=.i64) (a:=r_1) (b:=0) rfl rfl rfl)<|sQ 4 (yg (.bool (decide (0≤r_1)))) (rn (ct_ ?_))
 obtain rfl:=sI hF
 exact ret1 Try.results65 (v1:=.bool (decide (0≤r_1))) (resAt_tmp rfl) ⟨rfl,(hS1.sN [])⟩

theorem c_impl_CouplingGraph_isPlacement (g:TCouplingGraph) (n1:Int) (place:List Int) (B:Option Addr) (c n:Nat) (B1:Option Addr) (c1 n2:Nat) (w0:World) (hn:g.Edges.length=n) (hn1:place.length=n2) (hq:n2≤c1) (hS:ST w0 [] w0 [] [⟨B,(g.Edges.flatMap eN1)⟩,⟨B1,(place.flatMap encI)⟩]) {r_:Bool} (hF:F_impl_CouplingGraph_isPlacement g n1 place=some r_) :
  CV Try.prog 30 #[.agg #[vi g.Nodes,.slice B n c],vi n1,.slice B1 n2 c1] w0 (fun v w'=>v=.bool r_∧ST w0 [] w' [] []):=by
 subst hn
 subst hn1
 unfold F_impl_CouplingGraph_isPlacement at hF
 refine cv_of_cw 34 Try.func30 rfl Try.ntmps30 rfl ?_
 refine cq (cr ?_)
 let V3:List Value:=[vi g.Nodes,.slice B g.Edges.length c]
 refine sS 3 (yB 25 (.agg V3.toArray) V3 2 hS) ?_
 rintro _ w_ ⟨b,rfl,hS1⟩
 refine sQ 6 (yg (.bool false)) (rn (cq (cq (cr ?_))))
 refine sQ 9 (ym (.slice B1 place.length c1))<|sQ 10 (Y_len (B:=B1) (m:=place.length) (c:=c1) K2 rfl rfl)<|sQ 11 (ym (vi 0)) (rn ?_)
 obtain ⟨hN,hF⟩:=chk_inv hF
 obtain ⟨z,hz,hF1⟩:=bI hF
 refine cw_block ?_
 let O0:Ob:=⟨aD b,25,V3,2⟩
 let R1:Ro:=⟨B,(g.Edges.flatMap eN1)⟩
 let R2:Ro:=⟨B1,(place.flatMap encI)⟩
 refine cw_loop (fun k f w=>∃ (i:Nat),FF f [(1,vi n1),(2,.slice B1 place.length c1),(3,pt (aD b) 0),(9,.slice B1 place.length c1),(10,vi (place.length:Int)),(11,vi (i:Int))]∧ST w0 [] w [O0] [R1,R2]∧i+k=place.length∧forX (F_impl_CouplingGraph_isPlacement_l1 place g) k i ()=some z) place.length ⟨0,(fc rfl (fc rfl (fc rfl (fc rfl (fc rfl (fc rfl fn_)))))),(hS1.sel [0] rfl rfl),Nat.zero_add _,hz⟩ ?_
 rintro k_ f w ⟨i,hf,hS2,hik,hL⟩
 refine cq (cr ?_)
 refine sQ 12 (yL (i:Int) (place.length:Int) rfl (hf.g 11 5) (hf.g 10 4)) (rn (cq ?_))
 refine cw_cond (b:=(decide ((i:Int)<(place.length:Int)))) rfl (fun hlt=>?_) (fun hlt=>?_)
 ·skip
  have hlt1:i<place.length:=by have h:=of_decide_eq_true hlt; omega
  obtain ⟨K4,rfl⟩:∃ k2,k_=k2+1:=⟨k_-1,by omega⟩
  obtain ⟨y,hb,hL1⟩:=forX_go hL
  unfold F_impl_CouplingGraph_isPlacement_l1 at hb
  refine cw_skip (cq (cw_block (cq (cr ?_))))
  refine sQ 13 (ym (vi (i:Int)) rfl (hf.g 11 5)) ?_
  obtain ⟨x,hx,hb⟩:=bI hb
  refine sQ 14 (Y_index (B:=B1) (m:=place.length) (c:=c1) (k:=.i64) (i:=(i:Int)) K2 K0 rfl (hf.g 9 3) (hf.g 11 5) (gi_isSome encI_len rfl (hS2.rf (i:=1) rfl) hx) (getI_nn hx) (getI_ltI hx rfl))<|sQ 15 (yl B1 ((i:Int).toNat*1) (place.flatMap encI) (vi x) K1 (hS2.rf (i:=1) rfl) rfl rfl (gi_at0 encI_len hx rfl))<|sQ 7 (yg (vi (i:Int)))<|sQ 8 (yg (vi x)) (rn (cq (cr ?_)))
  refine sQ 16 (ym (vi x))<|sQ 17 (yd (aD b) 0 0 K49 K0 rfl (hf.g 3 2))<|sQ 18 (yl (aD b) 0 V3 (vi g.Nodes) K1 (hS2.c 0))<|sQ 19 (yM g.Nodes 1) ?_
  obtain ⟨r_1,hc,hb⟩:=bI hb
  refine sc 20 rfl rfl (yC [vi x,vi 0,vi (i64.wrap (g.Nodes-1))] K67 (c_impl_within x 0 (i64.wrap (g.Nodes-1)) _  (hS2.inn0 [] rfl) hc)) ?_
  rintro _ w_1 ⟨rfl,hd⟩
  have hS3:=hS2.out00 hd
  refine sQ 21 (Y_not (p:=r_1) rfl rfl)<|sQ 22 (ym (.bool (!r_1))) ?_
  refine sgq 23 (B:=(!(!r_1))) rfl rfl (uF_ 22) (fun hg=>(ym (.slice B1 place.length c1) rfl (hf.g 2 1))) ?_
  refine sgq 24 (B:=(!(!r_1))) rfl rfl (uF_ 22) (fun hg1=>(ym (vi (i:Int)))) ?_
  refine rw_split (B:=(!(!r_1))) (fun hb1=>?_) (fun hb1=>?_)
  ·skip
   have hF2:=ct hb hb1
   obtain ⟨hsl,hF2⟩:=chk_inv hF2
   have hcap:place.length≤c1:=hq
   have hv:(List.take i place).length=i:=(take_len rfl (by omega))
   have hq1:i≤c1:=by omega
   have ho:Org w0 [] [R1,R2] [⟨B1,((List.take i place).flatMap encI)⟩]:=org_view encI_len (q:=c1) (org_mem (i:=1) rfl) (sv_zero _ _ _).symm rfl
   have hS4:ST w0 [] _ [O0] [⟨B1,((List.take i place).flatMap encI)⟩,R1,R2]:=ST.view encI_len hS3 (i:=1) rfl (lo:=0) (h:=i) (q:=c1) (by omega) (by omega) (sv_zero _ _ _).symm rfl
   refine sqg 25 rfl rfl (uF_ 22) hb1 (Y_slice0 (B:=B1) (m:=place.length) (c:=c1) (h:=i) (s:=1) K2 K0 rfl (gv_of (v:=.slice B1 place.length c1) hb1) (bnd_some (gv_of (v:=vi (i:Int)) hb1) rfl) (by omega)) ?_
   refine sqg 26 rfl rfl (uF_ 22) hb1 (ym (vi x)) ?_
   obtain ⟨r_2,hc1,hF2⟩:=bI hF2
   refine scg 27 rfl rfl (uF_ 22) hb1 (yC [.slice B1 i c1,vi x] k_call_65 (c_slices_Contains_int_int (List.take i place) x B1 c1 i _ hv (hS4.inn0 [(true,0)] rfl) hc1)) ?_
   rintro _ w_2 ⟨rfl,hd1⟩
   have hS5:=hS4.out00 hd1
   refine sQ 28 (Y_pickF (b:=(!r_1)) (v:=.bool r_2) rfl rfl (nt hb1) rfl) (rn ?_)
   refine cw_cond (b:=r_2) rfl (fun hb2=>?_) (fun hb2=>?_)
   ·skip
    have hF3:=ct hF2 hb2
    refine cq (cr ?_)
    refine sQ 6 (yg (.bool false)) (rn (ct_ ?_))
    obtain rfl:=sI hF3
    obtain rfl:=sI hL1
    obtain rfl:=sI hF1
    exact ret1 Try.results30 (v1:=.bool false) (resAt_tmp rfl) ⟨rfl,(hS5.sN [])⟩
   ·skip
    have hF4:=cf' hF2 hb2
    refine cw_skip (cr ?_)
    refine sQ 29 (yP (i:Int) 1 rfl (hf.g 11 5))<|sQ 11 (ym (vi (i64.wrap ((i:Int)+1)))) (rn ?_)
    obtain rfl:=sI hF4
    have hS6:ST w0 [] _ [O0] [R1,R2]:=hS5.sT [1,2]
    exact ⟨K4,Nat.lt_succ_self _,i+1,(hf.a 1 0 (hf.a 2 1 (hf.a 3 2 (hf.a 9 3 (hf.a 10 4 (fc (congrArg (Value.int .i64) (wr_succ hlt1 hN)) fn_)))))),(hS6.sel [0] rfl rfl),(by omega),hL1⟩
  ·skip
   have hF5:=cf' hb hb1
   refine sgn 25 rfl rfl (uF_ 22) hb1 ?_
   refine sgn 26 rfl rfl (uF_ 22) hb1 ?_
   refine sgn 27 rfl rfl (uF_ 22) hb1 ?_
   refine sQ 28 (Y_pickT (b:=(!r_1)) (v:=.bool true) rfl rfl (nf hb1) rfl) (rn ?_)
   refine cw_cond (b:=true) rfl (fun _=>?_) (fun h=>by cases h)
   refine cq (cr ?_)
   refine sQ 6 (yg (.bool false)) (rn (ct_ ?_))
   obtain rfl:=sI hF5
   obtain rfl:=sI hL1
   obtain rfl:=sI hF1
   exact ret1 Try.results30 (v1:=.bool false) (resAt_tmp rfl) ⟨rfl,(hS3.sN [])⟩
 ·skip
  obtain rfl:k_=0:=by have h:=of_decide_eq_false hlt; omega
  refine cw_exit rfl ?_
  obtain rfl:=sI hL
  refine cq (cr ?_)
  refine sQ 30 (ym (.slice B1 place.length c1) rfl (hf.g 2 1))<|sQ 31 (Y_len (B:=B1) (m:=place.length) (c:=c1) K2 rfl rfl)<|sQ 32 (ym (vi n1) rfl (hf.g 1 0))<|sQ 33 (yE (place.length:Int) n1)<|sQ 6 (yg (.bool ((place.length:Int)==n1))) (rn (ct_ ?_))
  obtain rfl:=sI hF1
  exact ret1 Try.results30 (v1:=.bool ((place.length:Int)==n1)) (resAt_tmp rfl) ⟨rfl,(hS2.sN [])⟩

theorem c_slices_Clone_int_int (s:List Int) (B:Option Addr) (c n:Nat) (w0:World) (hn:s.length=n) (hS:ST w0 [] w0 [] [⟨B,(s.flatMap encI)⟩]) {r_:List Int} (hF:F_slices_Clone_int_int s=some r_) :
  CV Try.prog 36 #[.slice B n c] w0 (fun v w'=>∃ (B1:Option Addr) (c1:Nat),v=.slice B1 r_.length c1∧ST w0 [] w' [⟨B1,3,(r_.flatMap encI),c1*1⟩] []):=by
 subst hn
 unfold F_slices_Clone_int_int at hF
 refine cv_of_cw 8 Try.func36 rfl Try.ntmps36 rfl ?_
 refine cq (cr ?_)
 refine sQ 2 (yg (.slice none 0 0)) (rn (cq (cq (cr ?_))))
 refine sQ 3 (ym (.slice B s.length c))<|sQ 4 (Y_nileql (B:=B) (m:=s.length) (c:=c) K2 rfl rfl rfl) (rn ?_)
 refine cw_cond (b:=B.isNone) rfl (fun hb=>?_) (fun hb=>?_)
 ·skip
  have hl:s=[]:=nil_cont encI_len (hS.rf (i:=0) rfl) rfl hb
  rw [hl] at hF
  have hF1:(some ([]))=some r_:=by simpa [chk] using hF
  subst hl
  refine cq (cr ?_)
  refine sQ 2 (yg (.slice none 0 0)) (rn (ct_ ?_))
  have hS1:=hS.addNil 3
  obtain rfl:=sI hF1
  exact ret1 Try.results36 (v1:=.slice none 0 0) (resAt_tmp rfl) ⟨none,0,rfl,(hS1.sN [0])⟩
 ·skip
  refine cw_skip (cq (cr ?_))
  refine sS 5 (Ys_bslice0 (s:=1) (e:=3) hS K2 K0 rfl) ?_
  rintro _ w_ ⟨b,rfl,hS2⟩
  refine sQ 6 (ym (.slice B s.length c)) ?_
  obtain ⟨hap,hF⟩:=chk_inv hF
  refine sS 7 (Ys_append (s:=1) (by':=8) (i:=0) (nn:=0) (c:=0) (k:=s.length) (len:=s.length) (B:=aD b) (xs:=(s.flatMap encI)) (cs':=(s.flatMap encI)) hS2 K2 K0 K53 K54 rfl (by decide) rfl rfl rfl rfl (fm_lenn (l:=[]) encI_len rfl) rfl (hS2.rf (i:=0) rfl) (fm_lenn (l:=s) encI_len rfl) (fm_one' (enc:=encI) encI_one s) (by have:=hap; omega) (by have:=hap; simp only [maxLen]; omega) rfl (app_len0 (l:=s) rfl)) ?_
  rintro _ w_1 ⟨B2,c2,rfl,hS3⟩
  refine sQ 2 (yg (.slice B2 s.length c2)) (rn (ct_ ?_))
  obtain rfl:=sI hF
  exact ret1 Try.results36 (v1:=.slice B2 s.length c2) (resAt_tmp rfl) ⟨B2,c2,rfl,(hS3.sN [0])⟩

theorem c_impl_newRouting (g:TCouplingGraph) (c1:TCircuit) (start:List Int) (B:Option Addr) (c n:Nat) (B1:Option Addr) (c2 n1:Nat) (B2:Option Addr) (c3 n2:Nat) (w0:World) (hn:g.Edges.length=n) (hq:n≤c) (hn1:c1.Gates.length=n1) (hq1:n1≤c2) (hn2:start.length=n2) (hS:ST w0 [] w0 [] [⟨B,(g.Edges.flatMap eN1)⟩,⟨B1,(c1.Gates.flatMap eN2)⟩,⟨B2,(start.flatMap encI)⟩]) {r_:Trouting} (hF:F_impl_newRouting g c1 start=some r_) :
  CV Try.prog 35 #[.agg #[vi g.Nodes,.slice B n c],.agg #[vi c1.Qubits,.slice B1 n1 c2],.slice B2 n2 c3] w0 (fun v w'=>∃ (B3:Option Addr) (c4:Nat) (B4:Option Addr) (c5:Nat) (B5:Option Addr) (c6:Nat) (B6:Option Addr) (c7:Nat),v=.agg #[vi r_.g.Nodes,.slice B3 r_.g.Edges.length c4,vi r_.c.Qubits,.slice B4 r_.c.Gates.length c5,.slice B5 r_.place.length c6,.slice B6 r_.done.length c7]∧r_.g.Edges.length≤c4∧r_.c.Gates.length≤c5∧Org w0 [] [⟨B,(g.Edges.flatMap eN1)⟩,⟨B1,(c1.Gates.flatMap eN2)⟩,⟨B2,(start.flatMap encI)⟩] [⟨B3,(r_.g.Edges.flatMap eN1)⟩,⟨B4,(r_.c.Gates.flatMap eN2)⟩]∧ST w0 [] w' [⟨B5,3,(r_.place.flatMap encI),c6*1⟩,⟨B6,4,(r_.done.flatMap encB),c7*1⟩] [⟨B3,(r_.g.Edges.flatMap eN1)⟩,⟨B4,(r_.c.Gates.flatMap eN2)⟩]):=by
 subst hn
 subst hn1
 subst hn2
 unfold F_impl_newRouting at hF
 refine cv_of_cw 16 Try.func35 rfl Try.ntmps35 rfl ?_
 refine cq (cr ?_)
 let V5:List Value:=[vi g.Nodes,.slice B g.Edges.length c]
 refine sS 3 (yB 25 (.agg V5.toArray) V5 2 hS) ?_
 rintro _ w_ ⟨b,rfl,hS1⟩
 let V3:List Value:=[vi c1.Qubits,.slice B1 c1.Gates.length c2]
 refine sS 4 (yB 28 (.agg V3.toArray) V3 2 hS1) ?_
 rintro _ w_1 ⟨b1,rfl,hS2⟩
 let V4:List Value:=[vi 0,.slice none 0 0,vi 0,.slice none 0 0,.slice none 0 0,.slice none 0 0]
 refine sS 6 (yN V4 6 hS2 K80) ?_
 rintro _ w_2 ⟨b2,rfl,hS3⟩
 refine rn (cq ?_)
 obtain ⟨r_1,hc,hF⟩:=bI hF
 obtain ⟨hmk,hF⟩:=chk_inv hF
 refine cw_mid (fun f w=>∃ (B8:Option Addr) (c9:Nat) (B9:Option Addr),FF f [(6,pt (aD b2) 0)]∧ST w0 [] w [⟨aD b2,65,[vi g.Nodes,.slice B g.Edges.length c,vi c1.Qubits,.slice B1 c1.Gates.length c2,.slice B8 r_1.length c9,.slice B9 c1.Gates.length c1.Gates.length],6⟩,⟨B8,3,(r_1.flatMap encI),c9*1⟩,⟨B9,4,((List.replicate c1.Gates.length false).flatMap encB),c1.Gates.length*1⟩] [⟨B,(g.Edges.flatMap eN1)⟩,⟨B1,(c1.Gates.flatMap eN2)⟩,⟨B2,(start.flatMap encI)⟩]) ?_ ?_
 ·skip
  refine ra_start (hS3.se [0,1]).fn (by kernel_rfl) ?_
  have hS6:=hS3.drew
  refine rq 0 7 (v:=.agg V5.toArray) rfl (hS6.se [0,1]) (fun w' hw'=>(yb (aD b) 0 V5 K5 K3 (ST.cf hw' (i:=0) rfl))) ?_
  refine rq 1 8 (v:=.agg V3.toArray) rfl (hS6.se [0,1]) (fun w' hw'=>(yb (aD b1) 0 V3 K14 K7 (ST.cf hw' (i:=1) rfl))) ?_
  refine rq 2 9 rfl (hS6.se [0,1]) (fun w' hw'=>(ym (.slice B2 start.length c3))) ?_
  refine rq 4 11 (v:=pt (aD b1) 1) rfl (hS6.se [0,1]) (fun w' hw'=>(yd (aD b1) 0 0 K19 K16)) ?_
  refine rq 5 12 rfl (hS6.se [0,1]) (fun w' hw'=>(yl (aD b1) 1 V3 (.slice B1 c1.Gates.length c2) K21 (ST.cf hw' (i:=1) rfl))) ?_
  refine rq 6 13 (v:=vi (c1.Gates.length:Int)) rfl (hS6.se [0,1]) (fun w' hw'=>(Y_len (B:=B1) (m:=c1.Gates.length) (c:=c2) K12 rfl rfl)) ?_
  refine rA [3,7] ?_
  refine rC 10 3 rfl (yC [.slice B2 start.length c3] K96 (c_slices_Clone_int_int start B2 c3 start.length _ rfl (hS6.inn0 [(true,2)] rfl) hc)) ?_ ?_
  ·rintro _ w_3 ⟨B7,c8,rfl,hd⟩
   have hS7:=hS6.out0 hd
   refine ⟨(hS7.se [0,1]),?_⟩
   refine rA [7] ?_
   refine rS 14 7 rfl (Ys_make (s:=1) (by':=1) (nn:=c1.Gates.length) (a:=(c1.Gates.length:Int)) (b:=(c1.Gates.length:Int)) (cs:=((List.replicate c1.Gates.length false).flatMap encB)) hS7 K36 K37 K74 K68 rfl rfl rfl rfl hmk.1 rfl (by have:=hmk; omega) (by have:=hmk; omega) (by omega) (fm_rep (enc:=encB) (d:=false) rfl _)) ?_ aN
   rintro _ w_4 ⟨b3,rfl,hS8⟩
   refine ⟨(hS8.se [0,1]),?_⟩
   let V0:List Value:=[vi g.Nodes,.slice B g.Edges.length c,vi c1.Qubits,.slice B1 c1.Gates.length c2,.slice B7 r_1.length c8,.slice (aD b3) c1.Gates.length c1.Gates.length]
   refine rq 8 15 (v:=.agg V0.toArray) rfl (hS8.se [0,1]) (fun w' hw'=>(Y_buildS (zs:=V4) (vs:=[(0,.agg V5.toArray),(1,.agg V3.toArray),(2,.slice B7 r_1.length c8),(3,.slice (aD b3) c1.Gates.length c1.Gates.length)]) (cs:=V0) K132 K80 rfl (mpc rfl (mpc rfl (mpc rfl (mpc rfl mpn)))) rfl)) ?_
   refine rA [9] ?_
   refine rZ 9 rfl (yT 2 6 (aD b2) 65 (.agg V0.toArray) V0 0 hS8 K22) ?_ aN
   rintro _ w_5 ⟨rfl,hS9⟩
   refine ⟨(hS9.se [0,1]),?_⟩
   refine ra_done (by kernel_rfl) ?_
   exact ⟨B7,c8,aD b3,(fc rfl fn_),(hS9.sel [2,3,4] rfl rfl)⟩
  refine rS 14 7 rfl (Ys_make (s:=1) (by':=1) (nn:=c1.Gates.length) (a:=(c1.Gates.length:Int)) (b:=(c1.Gates.length:Int)) (cs:=((List.replicate c1.Gates.length false).flatMap encB)) hS6 K36 K37 K74 K68 rfl rfl rfl rfl hmk.1 rfl (by have:=hmk; omega) (by have:=hmk; omega) (by omega) (fm_rep (enc:=encB) (d:=false) rfl _)) ?_ aN
  rintro _ w_6 ⟨b3,rfl,hS10⟩
  refine ⟨(hS10.se [0,1]),?_⟩
  refine rA [3] ?_
  refine rC 10 3 rfl (yC [.slice B2 start.length c3] K96 (c_slices_Clone_int_int start B2 c3 start.length _ rfl (hS10.inn0 [(true,2)] rfl) hc)) ?_ aN
  rintro _ w_7 ⟨B7,c8,rfl,hd1⟩
  have hS11:=hS10.out0 hd1
  refine ⟨(hS11.se [0,1]),?_⟩
  let V1:List Value:=[vi g.Nodes,.slice B g.Edges.length c,vi c1.Qubits,.slice B1 c1.Gates.length c2,.slice B7 r_1.length c8,.slice (aD b3) c1.Gates.length c1.Gates.length]
  refine rq 8 15 (v:=.agg V1.toArray) rfl (hS11.se [0,1]) (fun w' hw'=>(Y_buildS (zs:=V4) (vs:=[(0,.agg V5.toArray),(1,.agg V3.toArray),(2,.slice B7 r_1.length c8),(3,.slice (aD b3) c1.Gates.length c1.Gates.length)]) (cs:=V1) K132 K80 rfl (mpc rfl (mpc rfl (mpc rfl (mpc rfl mpn)))) rfl)) ?_
  refine rA [9] ?_
  refine rZ 9 rfl (yT 2 6 (aD b2) 65 (.agg V1.toArray) V1 0 hS11 K22) ?_ aN
  rintro _ w_8 ⟨rfl,hS12⟩
  refine ⟨(hS12.se [0,1]),?_⟩
  refine ra_done (by kernel_rfl) ?_
  exact ⟨B7,c8,aD b3,(fc rfl fn_),(hS12.sel [2,4,3] rfl rfl)⟩
 rintro f w ⟨B8,c9,B9,hf,hS5⟩
 refine ct_ ?_
 obtain rfl:=sI hF
 let V2:List Value:=[vi g.Nodes,.slice B g.Edges.length c,vi c1.Qubits,.slice B1 c1.Gates.length c2,.slice B8 r_1.length c9,.slice B9 c1.Gates.length c1.Gates.length]
 exact ret1 Try.results35 (v1:=.agg V2.toArray) (resAt_cellA (B:=aD b2) (i:=0) (cs:=V2) (vs:=V2) (hf.g 6 0) K47 K22 (hS5.c 0) rfl rfl) ⟨B,c,B1,c2,B8,c9,B9,c1.Gates.length,(by simp +zetaDelta [List.length_replicate]),(len_le rfl hq),(len_le rfl hq1),(org_cons (org_mem (i:=0) rfl) (org_cons (org_mem (i:=1) rfl) org_nil)),((hS5.sel [1,2] rfl rfl).sT [0,1])⟩

theorem c_impl_areEdges (n:Int) (edges:List TEdge) (B:Option Addr) (c n1:Nat) (w0:World) (hn:edges.length=n1) (hS:ST w0 [] w0 [] [⟨B,(edges.flatMap eN1)⟩]) {r_:Bool} (hF:F_impl_areEdges n edges=some r_) :
  CV Try.prog 68 #[vi n,.slice B n1 c] w0 (fun v w'=>v=.bool r_∧ST w0 [] w' [] []):=by
 subst hn
 unfold F_impl_areEdges at hF
 refine cv_of_cw 68 Try.func68 rfl Try.ntmps68 rfl ?_
 refine cq (cr ?_)
 refine sQ 4 (yg (.bool false)) (rn (cq (cq (cr ?_))))
 refine sQ 7 (ym (.slice B edges.length c))<|sQ 8 (Y_len (B:=B) (m:=edges.length) (c:=c) K26 rfl rfl)<|sQ 9 (ym (vi 0)) (rn ?_)
 obtain ⟨hN,hF⟩:=chk_inv hF
 obtain ⟨z,hz,hF1⟩:=bI hF
 refine cw_block ?_
 refine cw_loop (fun k f w=>∃ (i:Nat),FF f [(0,vi n),(1,.slice B edges.length c),(7,.slice B edges.length c),(8,vi (edges.length:Int)),(9,vi (i:Int))]∧ST w0 [] w [] [⟨B,(edges.flatMap eN1)⟩]∧i+k=edges.length∧forX (F_impl_areEdges_l1 edges n) k i ()=some z) edges.length ⟨0,(fc rfl (fc rfl (fc rfl (fc rfl (fc rfl fn_))))),(hS.sel [] rfl rfl),Nat.zero_add _,hz⟩ ?_
 rintro k_ f w ⟨i,hf,hS1,hik,hL⟩
 refine cq (cr ?_)
 refine sQ 10 (yL (i:Int) (edges.length:Int) rfl (hf.g 9 4) (hf.g 8 3)) (rn (cq ?_))
 refine cw_cond (b:=(decide ((i:Int)<(edges.length:Int)))) rfl (fun hlt=>?_) (fun hlt=>?_)
 ·skip
  have hlt1:i<edges.length:=by have h:=of_decide_eq_true hlt; omega
  obtain ⟨K4,rfl⟩:∃ k2,k_=k2+1:=⟨k_-1,by omega⟩
  obtain ⟨y,hb,hL1⟩:=forX_go hL
  unfold F_impl_areEdges_l1 at hb
  refine cw_skip (cq (cw_block (cq (cr ?_))))
  refine sQ 11 (ym (vi (i:Int)) rfl (hf.g 9 4)) ?_
  obtain ⟨x,hx,hb⟩:=bI hb
  refine sQ 12 (Y_index (B:=B) (m:=edges.length) (c:=c) (k:=.i64) (i:=(i:Int)) K26 K20 rfl (hf.g 7 2) (hf.g 9 4) (gi_isSome enc_Edge_len rfl (hS1.rf (i:=0) rfl) hx) (getI_nn hx) (getI_ltI hx rfl))<|sQ 13 (ya B ((i:Int).toNat*2) (edges.flatMap eN1) [vi x.A,vi x.B] K81 K20 (hS1.rf (i:=0) rfl) rfl rfl (enc_Edge_len x) (gi_seg enc_Edge_len hx)) ?_
  refine sS 6 (yN [vi 0,vi 0] 2 hS1 K46) ?_
  rintro _ w_ ⟨b,rfl,hS2⟩
  refine sQ 5 (yg (vi (i:Int))) ?_
  refine s0 (yT 0 2 (aD b) 87 (.agg #[vi x.A,vi x.B]) [vi x.A,vi x.B] 0 hS2 K20) ?_
  rintro _ w_1 ⟨rfl,hS3⟩
  refine rn (cq ?_)
  obtain ⟨x1,hx1,hb⟩:=bI hb
  obtain ⟨x2,hx2,hb⟩:=bI hb
  obtain ⟨x3,hx3,hb⟩:=bI hb
  refine ra_start (hS3.se [0]).fn (by kernel_rfl) ?_
  have hS4:=hS3.drew
  refine rq 0 14 (v:=pt (aD b) 0) rfl (hS4.se [0]) (fun w' hw'=>(yd (aD b) 0 0 K55 K0)) ?_
  refine rq 1 15 rfl (hS4.se [0]) (fun w' hw'=>(yl (aD b) 0 [vi x.A,vi x.B] (vi x.A) K1 (ST.cf hw' (i:=0) rfl))) ?_
  refine rq 2 16 rfl (hS4.se [0]) (fun w' hw'=>(yL x.A 0)) ?_
  refine rq 3 17 rfl (hS4.se [0]) (fun w' hw'=>(ym (.bool (decide (x.A<0))))) ?_
  refine rG 4 18 (B:=(!(decide (x.A<0)))) (v:=pt (aD b) 0) rfl rfl rfl (uF_ 17) (hS4.se [0]) (fun hg w' hw'=>(yd (aD b) 0 0 K55 K0)) ?_
  refine rG 5 19 (B:=(!(decide (x.A<0)))) rfl rfl rfl (uF_ 17) (hS4.se [0]) (fun hg1 w' hw'=>(yl (aD b) 0 [vi x.A,vi x.B] (vi x.A) K1 (ST.cf hw' (i:=0) rfl) rfl (gv_of (v:=pt (aD b) 0) hg1))) ?_
  refine rG 6 20 (B:=(!(decide (x.A<0)))) (v:=pt (aD b) 1) rfl rfl rfl (uF_ 17) (hS4.se [0]) (fun hg2 w' hw'=>(yd (aD b) 0 0 K63 K0)) ?_
  refine rG 7 21 (B:=(!(decide (x.A<0)))) rfl rfl rfl (uF_ 17) (hS4.se [0]) (fun hg3 w' hw'=>(yl (aD b) 1 [vi x.A,vi x.B] (vi x.B) K1 (ST.cf hw' (i:=0) rfl) rfl (gv_of (v:=pt (aD b) 1) hg3))) ?_
  refine rG 8 22 (B:=(!(decide (x.A<0)))) rfl rfl rfl (uF_ 17) (hS4.se [0]) (fun hg4 w' hw'=>(Y_ge (k:=.i64) (a:=x.A) (b:=x.B) rfl (gv_of (v:=vi x.A) hg4) (gv_of (v:=vi x.B) hg4))) ?_
  refine rq 9 23 (v:=.bool ((decide (x.A<0))||(decide (x.B≤x.A)))) rfl (hS4.se [0]) (fun w' hw'=>(Y_or (b:=(decide (x.A<0))) (z:=(decide (x.B≤x.A))) rfl rfl rfl rfl)) ?_
  refine rq 10 24 rfl (hS4.se [0]) (fun w' hw'=>(ym (.bool ((decide (x.A<0))||(decide (x.B≤x.A)))))) ?_
  refine rG 11 25 (B:=(!((decide (x.A<0))||(decide (x.B≤x.A))))) (v:=pt (aD b) 1) rfl rfl rfl (uF_ 24) (hS4.se [0]) (fun hg5 w' hw'=>(yd (aD b) 0 0 K63 K0)) ?_
  refine rG 12 26 (B:=(!((decide (x.A<0))||(decide (x.B≤x.A))))) rfl rfl rfl (uF_ 24) (hS4.se [0]) (fun hg6 w' hw'=>(yl (aD b) 1 [vi x.A,vi x.B] (vi x.B) K1 (ST.cf hw' (i:=0) rfl) rfl (gv_of (v:=pt (aD b) 1) hg6))) ?_
  refine rG 13 27 (B:=(!((decide (x.A<0))||(decide (x.B≤x.A))))) rfl rfl rfl (uF_ 24) (hS4.se [0]) (fun hg7 w' hw'=>(ym (vi n) rfl (hf.g 0 0))) ?_
  refine rG 14 28 (B:=(!((decide (x.A<0))||(decide (x.B≤x.A))))) rfl rfl rfl (uF_ 24) (hS4.se [0]) (fun hg8 w' hw'=>(Y_ge (k:=.i64) (a:=x.B) (b:=n) rfl (gv_of (v:=vi x.B) hg8) (gv_of (v:=vi n) hg8))) ?_
  refine rq 15 29 (v:=.bool (((decide (x.A<0))||(decide (x.B≤x.A)))||(decide (n≤x.B)))) rfl (hS4.se [0]) (fun w' hw'=>(Y_or (b:=((decide (x.A<0))||(decide (x.B≤x.A)))) (z:=(decide (n≤x.B))) rfl rfl rfl rfl)) ?_
  refine rq 16 30 rfl (hS4.se [0]) (fun w' hw'=>(ym (.bool (((decide (x.A<0))||(decide (x.B≤x.A)))||(decide (n≤x.B)))))) ?_
  refine rG 17 31 (B:=(!(((decide (x.A<0))||(decide (x.B≤x.A)))||(decide (n≤x.B))))) rfl rfl rfl (uF_ 30) (hS4.se [0]) (fun hg9 w' hw'=>(ym (vi (i:Int)))) ?_
  refine rG 18 32 (B:=(!(((decide (x.A<0))||(decide (x.B≤x.A)))||(decide (n≤x.B))))) rfl rfl rfl (uF_ 30) (hS4.se [0]) (fun hg10 w' hw'=>(Y_gt (k:=.i64) (a:=(i:Int)) (b:=0) rfl (gv_of (v:=vi (i:Int)) hg10) rfl)) ?_
  refine rG 19 33 (B:=(!(((decide (x.A<0))||(decide (x.B≤x.A)))||(decide (n≤x.B))))) rfl rfl rfl (uF_ 30) (hS4.se [0]) (fun hg11 w' hw'=>(ym (.bool (decide (0<(i:Int)))) rfl (gv_of (v:=.bool (decide (0<(i:Int)))) hg11))) ?_
  refine rG 20 34 (B:=((!(((decide (x.A<0))||(decide (x.B≤x.A)))||(decide (n≤x.B))))&&(decide (0<(i:Int))))) rfl rfl rfl (wt_gt (gd_of (t:=33) (by kernel_rfl) rfl)) (hS4.se [0]) (fun hg12 w' hw'=>(ym (.slice B edges.length c) rfl (hf.g 1 1))) ?_
  refine rG 21 35 (B:=((!(((decide (x.A<0))||(decide (x.B≤x.A)))||(decide (n≤x.B))))&&(decide (0<(i:Int))))) rfl rfl rfl (wt_gt (gd_of (t:=33) (by kernel_rfl) rfl)) (hS4.se [0]) (fun hg13 w' hw'=>(ym (vi (i:Int)))) ?_
  refine rG 22 36 (B:=((!(((decide (x.A<0))||(decide (x.B≤x.A)))||(decide (n≤x.B))))&&(decide (0<(i:Int))))) rfl rfl rfl (wt_gt (gd_of (t:=33) (by kernel_rfl) rfl)) (hS4.se [0]) (fun hg14 w' hw'=>(yM (i:Int) 1 rfl (gv_of (v:=vi (i:Int)) hg14))) ?_
  refine rG 23 37 (B:=((!(((decide (x.A<0))||(decide (x.B≤x.A)))||(decide (n≤x.B))))&&(decide (0<(i:Int))))) (v:=pt B ((i64.wrap ((i:Int)-1)).toNat*2)) rfl rfl rfl (wt_gt (gd_of (t:=33) (by kernel_rfl) rfl)) (hS4.se [0]) (fun hg15 w' hw'=>(Y_index (B:=B) (m:=edges.length) (c:=c) (k:=.i64) (i:=(i64.wrap ((i:Int)-1))) K26 K20 rfl (gv_of (v:=.slice B edges.length c) hg15) (gv_of (v:=vi (i64.wrap ((i:Int)-1))) hg15) (gi_isSome enc_Edge_len rfl (ST.rf hw' (i:=0) rfl) (gb_inv hx1 hg15)) (getI_nn (gb_inv hx1 hg15)) (getI_ltI (gb_inv hx1 hg15) rfl))) ?_
  refine rG 24 38 (B:=((!(((decide (x.A<0))||(decide (x.B≤x.A)))||(decide (n≤x.B))))&&(decide (0<(i:Int))))) (v:=pt B ((i64.wrap ((i:Int)-1)).toNat*2+0)) rfl rfl rfl (wt_gt (gd_of (t:=33) (by kernel_rfl) rfl)) (hS4.se [0]) (fun hg16 w' hw'=>(yd B ((i64.wrap ((i:Int)-1)).toNat*2) 0 K55 K0 rfl (gv_of (v:=pt B ((i64.wrap ((i:Int)-1)).toNat*2)) hg16))) ?_
  refine rG 25 39 (B:=((!(((decide (x.A<0))||(decide (x.B≤x.A)))||(decide (n≤x.B))))&&(decide (0<(i:Int))))) rfl rfl rfl (wt_gt (gd_of (t:=33) (by kernel_rfl) rfl)) (hS4.se [0]) (fun hg17 w' hw'=>(yl B ((i64.wrap ((i:Int)-1)).toNat*2+0) (edges.flatMap eN1) (vi x1.A) K1 (ST.rf hw' (i:=0) rfl) rfl (gv_of (v:=pt B ((i64.wrap ((i:Int)-1)).toNat*2+0)) hg17) (gi_at enc_Edge_len (gb_inv hx1 hg17) rfl))) ?_
  refine rG 26 40 (B:=((!(((decide (x.A<0))||(decide (x.B≤x.A)))||(decide (n≤x.B))))&&(decide (0<(i:Int))))) (v:=pt (aD b) 0) rfl rfl rfl (wt_gt (gd_of (t:=33) (by kernel_rfl) rfl)) (hS4.se [0]) (fun hg18 w' hw'=>(yd (aD b) 0 0 K55 K0)) ?_
  refine rG 27 41 (B:=((!(((decide (x.A<0))||(decide (x.B≤x.A)))||(decide (n≤x.B))))&&(decide (0<(i:Int))))) rfl rfl rfl (wt_gt (gd_of (t:=33) (by kernel_rfl) rfl)) (hS4.se [0]) (fun hg19 w' hw'=>(yl (aD b) 0 [vi x.A,vi x.B] (vi x.A) K1 (ST.cf hw' (i:=0) rfl) rfl (gv_of (v:=pt (aD b) 0) hg19))) ?_
  refine rG 28 42 (B:=((!(((decide (x.A<0))||(decide (x.B≤x.A)))||(decide (n≤x.B))))&&(decide (0<(i:Int))))) rfl rfl rfl (wt_gt (gd_of (t:=33) (by kernel_rfl) rfl)) (hS4.se [0]) (fun hg20 w' hw'=>(Y_gt (k:=.i64) (a:=x1.A) (b:=x.A) rfl (gv_of (v:=vi x1.A) hg20) (gv_of (v:=vi x.A) hg20))) ?_
  refine rG 29 43 (B:=((!(((decide (x.A<0))||(decide (x.B≤x.A)))||(decide (n≤x.B))))&&(decide (0<(i:Int))))) rfl rfl rfl (wt_gt (gd_of (t:=33) (by kernel_rfl) rfl)) (hS4.se [0]) (fun hg21 w' hw'=>(ym (.bool (decide (x.A<x1.A))) rfl (gv_of (v:=.bool (decide (x.A<x1.A))) hg21))) ?_
  refine rG 30 44 (B:=(((!(((decide (x.A<0))||(decide (x.B≤x.A)))||(decide (n≤x.B))))&&(decide (0<(i:Int))))&&(!(decide (x.A<x1.A))))) rfl rfl rfl (wt_gf (gd_of (t:=43) (by kernel_rfl) rfl)) (hS4.se [0]) (fun hg22 w' hw'=>(ym (.slice B edges.length c) rfl (hf.g 1 1))) ?_
  refine rG 31 45 (B:=(((!(((decide (x.A<0))||(decide (x.B≤x.A)))||(decide (n≤x.B))))&&(decide (0<(i:Int))))&&(!(decide (x.A<x1.A))))) rfl rfl rfl (wt_gf (gd_of (t:=43) (by kernel_rfl) rfl)) (hS4.se [0]) (fun hg23 w' hw'=>(ym (vi (i:Int)))) ?_
  refine rG 32 46 (B:=(((!(((decide (x.A<0))||(decide (x.B≤x.A)))||(decide (n≤x.B))))&&(decide (0<(i:Int))))&&(!(decide (x.A<x1.A))))) rfl rfl rfl (wt_gf (gd_of (t:=43) (by kernel_rfl) rfl)) (hS4.se [0]) (fun hg24 w' hw'=>(yM (i:Int) 1 rfl (gv_of (v:=vi (i:Int)) hg24))) ?_
  refine rG 33 47 (B:=(((!(((decide (x.A<0))||(decide (x.B≤x.A)))||(decide (n≤x.B))))&&(decide (0<(i:Int))))&&(!(decide (x.A<x1.A))))) (v:=pt B ((i64.wrap ((i:Int)-1)).toNat*2)) rfl rfl rfl (wt_gf (gd_of (t:=43) (by kernel_rfl) rfl)) (hS4.se [0]) (fun hg25 w' hw'=>(Y_index (B:=B) (m:=edges.length) (c:=c) (k:=.i64) (i:=(i64.wrap ((i:Int)-1))) K26 K20 rfl (gv_of (v:=.slice B edges.length c) hg25) (gv_of (v:=vi (i64.wrap ((i:Int)-1))) hg25) (gi_isSome enc_Edge_len rfl (ST.rf hw' (i:=0) rfl) (gb_inv hx2 hg25)) (getI_nn (gb_inv hx2 hg25)) (getI_ltI (gb_inv hx2 hg25) rfl))) ?_
  refine rG 34 48 (B:=(((!(((decide (x.A<0))||(decide (x.B≤x.A)))||(decide (n≤x.B))))&&(decide (0<(i:Int))))&&(!(decide (x.A<x1.A))))) (v:=pt B ((i64.wrap ((i:Int)-1)).toNat*2+0)) rfl rfl rfl (wt_gf (gd_of (t:=43) (by kernel_rfl) rfl)) (hS4.se [0]) (fun hg26 w' hw'=>(yd B ((i64.wrap ((i:Int)-1)).toNat*2) 0 K55 K0 rfl (gv_of (v:=pt B ((i64.wrap ((i:Int)-1)).toNat*2)) hg26))) ?_
  refine rG 35 49 (B:=(((!(((decide (x.A<0))||(decide (x.B≤x.A)))||(decide (n≤x.B))))&&(decide (0<(i:Int))))&&(!(decide (x.A<x1.A))))) rfl rfl rfl (wt_gf (gd_of (t:=43) (by kernel_rfl) rfl)) (hS4.se [0]) (fun hg27 w' hw'=>(yl B ((i64.wrap ((i:Int)-1)).toNat*2+0) (edges.flatMap eN1) (vi x2.A) K1 (ST.rf hw' (i:=0) rfl) rfl (gv_of (v:=pt B ((i64.wrap ((i:Int)-1)).toNat*2+0)) hg27) (gi_at enc_Edge_len (gb_inv hx2 hg27) rfl))) ?_
  refine rG 36 50 (B:=(((!(((decide (x.A<0))||(decide (x.B≤x.A)))||(decide (n≤x.B))))&&(decide (0<(i:Int))))&&(!(decide (x.A<x1.A))))) (v:=pt (aD b) 0) rfl rfl rfl (wt_gf (gd_of (t:=43) (by kernel_rfl) rfl)) (hS4.se [0]) (fun hg28 w' hw'=>(yd (aD b) 0 0 K55 K0)) ?_
  refine rG 37 51 (B:=(((!(((decide (x.A<0))||(decide (x.B≤x.A)))||(decide (n≤x.B))))&&(decide (0<(i:Int))))&&(!(decide (x.A<x1.A))))) rfl rfl rfl (wt_gf (gd_of (t:=43) (by kernel_rfl) rfl)) (hS4.se [0]) (fun hg29 w' hw'=>(yl (aD b) 0 [vi x.A,vi x.B] (vi x.A) K1 (ST.cf hw' (i:=0) rfl) rfl (gv_of (v:=pt (aD b) 0) hg29))) ?_
  refine rG 38 52 (B:=(((!(((decide (x.A<0))||(decide (x.B≤x.A)))||(decide (n≤x.B))))&&(decide (0<(i:Int))))&&(!(decide (x.A<x1.A))))) rfl rfl rfl (wt_gf (gd_of (t:=43) (by kernel_rfl) rfl)) (hS4.se [0]) (fun hg30 w' hw'=>(yE x2.A x.A rfl (gv_of (v:=vi x2.A) hg30) (gv_of (v:=vi x.A) hg30))) ?_
  refine rG 39 53 (B:=(((!(((decide (x.A<0))||(decide (x.B≤x.A)))||(decide (n≤x.B))))&&(decide (0<(i:Int))))&&(!(decide (x.A<x1.A))))) rfl rfl rfl (wt_gf (gd_of (t:=43) (by kernel_rfl) rfl)) (hS4.se [0]) (fun hg31 w' hw'=>(ym (.bool (x2.A==x.A)) rfl (gv_of (v:=.bool (x2.A==x.A)) hg31))) ?_
  refine rG 40 54 (B:=((((!(((decide (x.A<0))||(decide (x.B≤x.A)))||(decide (n≤x.B))))&&(decide (0<(i:Int))))&&(!(decide (x.A<x1.A))))&&(x2.A==x.A))) rfl rfl rfl (wt_gt (gd_of (t:=53) (by kernel_rfl) rfl)) (hS4.se [0]) (fun hg32 w' hw'=>(ym (.slice B edges.length c) rfl (hf.g 1 1))) ?_
  refine rG 41 55 (B:=((((!(((decide (x.A<0))||(decide (x.B≤x.A)))||(decide (n≤x.B))))&&(decide (0<(i:Int))))&&(!(decide (x.A<x1.A))))&&(x2.A==x.A))) rfl rfl rfl (wt_gt (gd_of (t:=53) (by kernel_rfl) rfl)) (hS4.se [0]) (fun hg33 w' hw'=>(ym (vi (i:Int)))) ?_
  refine rG 42 56 (B:=((((!(((decide (x.A<0))||(decide (x.B≤x.A)))||(decide (n≤x.B))))&&(decide (0<(i:Int))))&&(!(decide (x.A<x1.A))))&&(x2.A==x.A))) rfl rfl rfl (wt_gt (gd_of (t:=53) (by kernel_rfl) rfl)) (hS4.se [0]) (fun hg34 w' hw'=>(yM (i:Int) 1 rfl (gv_of (v:=vi (i:Int)) hg34))) ?_
  refine rG 43 57 (B:=((((!(((decide (x.A<0))||(decide (x.B≤x.A)))||(decide (n≤x.B))))&&(decide (0<(i:Int))))&&(!(decide (x.A<x1.A))))&&(x2.A==x.A))) (v:=pt B ((i64.wrap ((i:Int)-1)).toNat*2)) rfl rfl rfl (wt_gt (gd_of (t:=53) (by kernel_rfl) rfl)) (hS4.se [0]) (fun hg35 w' hw'=>(Y_index (B:=B) (m:=edges.length) (c:=c) (k:=.i64) (i:=(i64.wrap ((i:Int)-1))) K26 K20 rfl (gv_of (v:=.slice B edges.length c) hg35) (gv_of (v:=vi (i64.wrap ((i:Int)-1))) hg35) (gi_isSome enc_Edge_len rfl (ST.rf hw' (i:=0) rfl) (gb_inv hx3 hg35)) (getI_nn (gb_inv hx3 hg35)) (getI_ltI (gb_inv hx3 hg35) rfl))) ?_
  refine rG 44 58 (B:=((((!(((decide (x.A<0))||(decide (x.B≤x.A)))||(decide (n≤x.B))))&&(decide (0<(i:Int))))&&(!(decide (x.A<x1.A))))&&(x2.A==x.A))) (v:=pt B ((i64.wrap ((i:Int)-1)).toNat*2+1)) rfl rfl rfl (wt_gt (gd_of (t:=53) (by kernel_rfl) rfl)) (hS4.se [0]) (fun hg36 w' hw'=>(yd B ((i64.wrap ((i:Int)-1)).toNat*2) 0 K63 K0 rfl (gv_of (v:=pt B ((i64.wrap ((i:Int)-1)).toNat*2)) hg36))) ?_
  refine rG 45 59 (B:=((((!(((decide (x.A<0))||(decide (x.B≤x.A)))||(decide (n≤x.B))))&&(decide (0<(i:Int))))&&(!(decide (x.A<x1.A))))&&(x2.A==x.A))) rfl rfl rfl (wt_gt (gd_of (t:=53) (by kernel_rfl) rfl)) (hS4.se [0]) (fun hg37 w' hw'=>(yl B ((i64.wrap ((i:Int)-1)).toNat*2+1) (edges.flatMap eN1) (vi x3.B) K1 (ST.rf hw' (i:=0) rfl) rfl (gv_of (v:=pt B ((i64.wrap ((i:Int)-1)).toNat*2+1)) hg37) (gi_at enc_Edge_len (gb_inv hx3 hg37) rfl))) ?_
  refine rG 46 60 (B:=((((!(((decide (x.A<0))||(decide (x.B≤x.A)))||(decide (n≤x.B))))&&(decide (0<(i:Int))))&&(!(decide (x.A<x1.A))))&&(x2.A==x.A))) (v:=pt (aD b) 1) rfl rfl rfl (wt_gt (gd_of (t:=53) (by kernel_rfl) rfl)) (hS4.se [0]) (fun hg38 w' hw'=>(yd (aD b) 0 0 K63 K0)) ?_
  refine rG 47 61 (B:=((((!(((decide (x.A<0))||(decide (x.B≤x.A)))||(decide (n≤x.B))))&&(decide (0<(i:Int))))&&(!(decide (x.A<x1.A))))&&(x2.A==x.A))) rfl rfl rfl (wt_gt (gd_of (t:=53) (by kernel_rfl) rfl)) (hS4.se [0]) (fun hg39 w' hw'=>(yl (aD b) 1 [vi x.A,vi x.B] (vi x.B) K1 (ST.cf hw' (i:=0) rfl) rfl (gv_of (v:=pt (aD b) 1) hg39))) ?_
  refine rG 48 62 (B:=((((!(((decide (x.A<0))||(decide (x.B≤x.A)))||(decide (n≤x.B))))&&(decide (0<(i:Int))))&&(!(decide (x.A<x1.A))))&&(x2.A==x.A))) rfl rfl rfl (wt_gt (gd_of (t:=53) (by kernel_rfl) rfl)) (hS4.se [0]) (fun hg40 w' hw'=>(Y_ge (k:=.i64) (a:=x3.B) (b:=x.B) rfl (gv_of (v:=vi x3.B) hg40) (gv_of (v:=vi x.B) hg40))) ?_
  refine rG 49 63 (B:=(((!(((decide (x.A<0))||(decide (x.B≤x.A)))||(decide (n≤x.B))))&&(decide (0<(i:Int))))&&(!(decide (x.A<x1.A))))) (v:=.bool ((x2.A==x.A)&&(decide (x.B≤x3.B)))) rfl rfl rfl (wt_gf (gd_of (t:=43) (by kernel_rfl) rfl)) (hS4.se [0]) (fun hg41 w' hw'=>(Y_and (b:=(x2.A==x.A)) (z:=(decide (x.B≤x3.B))) rfl (gv_of (v:=.bool (x2.A==x.A)) hg41) (gv_and (B:=(((!(((decide (x.A<0))||(decide (x.B≤x.A)))||(decide (n≤x.B))))&&(decide (0<(i:Int))))&&(!(decide (x.A<x1.A))))) (C:=(x2.A==x.A)) (v:=.bool (decide (x.B≤x3.B))) hg41) rfl)) ?_
  refine rG 50 64 (B:=((!(((decide (x.A<0))||(decide (x.B≤x.A)))||(decide (n≤x.B))))&&(decide (0<(i:Int))))) (v:=.bool ((decide (x.A<x1.A))||((x2.A==x.A)&&(decide (x.B≤x3.B))))) rfl rfl rfl (wt_gt (gd_of (t:=33) (by kernel_rfl) rfl)) (hS4.se [0]) (fun hg42 w' hw'=>(Y_or (b:=(decide (x.A<x1.A))) (z:=((x2.A==x.A)&&(decide (x.B≤x3.B)))) rfl (gv_of (v:=.bool (decide (x.A<x1.A))) hg42) rfl (gv_and (B:=((!(((decide (x.A<0))||(decide (x.B≤x.A)))||(decide (n≤x.B))))&&(decide (0<(i:Int))))) (C:=(!(decide (x.A<x1.A)))) (v:=.bool ((x2.A==x.A)&&(decide (x.B≤x3.B)))) hg42))) ?_
  refine rG 51 65 (B:=(!(((decide (x.A<0))||(decide (x.B≤x.A)))||(decide (n≤x.B))))) (v:=.bool ((decide (0<(i:Int)))&&((decide (x.A<x1.A))||((x2.A==x.A)&&(decide (x.B≤x3.B)))))) rfl rfl rfl (uF_ 30) (hS4.se [0]) (fun hg43 w' hw'=>(Y_and (b:=(decide (0<(i:Int)))) (z:=((decide (x.A<x1.A))||((x2.A==x.A)&&(decide (x.B≤x3.B))))) rfl (gv_of (v:=.bool (decide (0<(i:Int)))) hg43) (gv_and (B:=(!(((decide (x.A<0))||(decide (x.B≤x.A)))||(decide (n≤x.B))))) (C:=(decide (0<(i:Int)))) (v:=.bool ((decide (x.A<x1.A))||((x2.A==x.A)&&(decide (x.B≤x3.B))))) hg43) rfl)) ?_
  refine rq 52 66 (v:=.bool ((((decide (x.A<0))||(decide (x.B≤x.A)))||(decide (n≤x.B)))||((decide (0<(i:Int)))&&((decide (x.A<x1.A))||((x2.A==x.A)&&(decide (x.B≤x3.B))))))) rfl (hS4.se [0]) (fun w' hw'=>(Y_or (b:=(((decide (x.A<0))||(decide (x.B≤x.A)))||(decide (n≤x.B)))) (z:=((decide (0<(i:Int)))&&((decide (x.A<x1.A))||((x2.A==x.A)&&(decide (x.B≤x3.B)))))) rfl rfl rfl rfl)) ?_
  refine ra_done (by kernel_rfl) ?_
  refine cw_cond (b:=((((decide (x.A<0))||(decide (x.B≤x.A)))||(decide (n≤x.B)))||((decide (0<(i:Int)))&&((decide (x.A<x1.A))||((x2.A==x.A)&&(decide (x.B≤x3.B))))))) rfl (fun hb1=>?_) (fun hb1=>?_)
  ·skip
   have hF2:=ct hb hb1
   refine cq (cr ?_)
   refine sQ 4 (yg (.bool false)) (rn (ct_ ?_))
   obtain rfl:=sI hF2
   obtain rfl:=sI hL1
   obtain rfl:=sI hF1
   exact ret1 Try.results68 (v1:=.bool false) (resAt_tmp rfl) ⟨rfl,(hS4.sN [])⟩
  ·skip
   have hF3:=cf' hb hb1
   refine cw_skip (cr ?_)
   refine sQ 67 (yP (i:Int) 1 rfl (hf.g 9 4))<|sQ 9 (ym (vi (i64.wrap ((i:Int)+1)))) (rn ?_)
   obtain rfl:=sI hF3
   exact ⟨K4,Nat.lt_succ_self _,i+1,(hf.a 0 0 (hf.a 1 1 (hf.a 7 2 (hf.a 8 3 (fc (congrArg (Value.int .i64) (wr_succ hlt1 hN)) fn_))))),(hS4.sel [] rfl rfl),(by omega),hL1⟩
 ·skip
  obtain rfl:k_=0:=by have h:=of_decide_eq_false hlt; omega
  refine cw_exit rfl ?_
  obtain rfl:=sI hL
  refine cq (cr ?_)
  refine sQ 4 (yg (.bool true)) (rn (ct_ ?_))
  obtain rfl:=sI hF1
  exact ret1 Try.results68 (v1:=.bool true) (resAt_tmp rfl) ⟨rfl,(hS1.sN [])⟩

theorem c_impl_IsValidCouplingGraph (g:TCouplingGraph) (B:Option Addr) (c n:Nat) (w0:World) (hn:g.Edges.length=n) (hS:ST w0 [] w0 [] [⟨B,(g.Edges.flatMap eN1)⟩]) {r_:Bool} (hF:F_impl_IsValidCouplingGraph g=some r_) :
  CV Try.prog 33 #[.agg #[vi g.Nodes,.slice B n c]] w0 (fun v w'=>v=.bool r_∧ST w0 [] w' [] []):=by
 subst hn
 unfold F_impl_IsValidCouplingGraph at hF
 refine cv_of_cw 13 Try.func33 rfl Try.ntmps33 rfl ?_
 refine cq (cr ?_)
 let V0:List Value:=[vi g.Nodes,.slice B g.Edges.length c]
 refine sS 1 (yB 25 (.agg V0.toArray) V0 2 hS) ?_
 rintro _ w_ ⟨b,rfl,hS1⟩
 refine sQ 2 (yg (.bool false)) (rn (cq (cr ?_)))
 refine sQ 3 (yd (aD b) 0 0 K49 K0)<|sQ 4 (yl (aD b) 0 V0 (vi g.Nodes) K1 (hS1.c 0)) ?_
 obtain ⟨r_1,hc,hF⟩:=bI hF
 refine sc 5 rfl rfl (yC [vi g.Nodes,vi 1,vi 8] K67 (c_impl_within g.Nodes 1 8 _  (hS1.inn0 [] rfl) hc)) ?_
 rintro _ w_1 ⟨rfl,hd⟩
 have hS2:=hS1.out00 hd
 refine sQ 6 (ym (.bool r_1)) ?_
 refine sgq 7 (B:=r_1) (v:=pt (aD b) 0) rfl rfl (uT_ 6) (fun hg=>(yd (aD b) 0 0 K49 K0)) ?_
 refine sgq 8 (B:=r_1) rfl rfl (uT_ 6) (fun hg1=>(yl (aD b) 0 V0 (vi g.Nodes) K1 (hS2.c 0) rfl (gv_of (v:=pt (aD b) 0) hg1))) ?_
 refine sgq 9 (B:=r_1) (v:=pt (aD b) 1) rfl rfl (uT_ 6) (fun hg2=>(yd (aD b) 0 0 K45 K39)) ?_
 refine sgq 10 (B:=r_1) rfl rfl (uT_ 6) (fun hg3=>(yl (aD b) 1 V0 (.slice B g.Edges.length c) K59 (hS2.c 0) rfl (gv_of (v:=pt (aD b) 1) hg3))) ?_
 obtain ⟨r_2,hc1,hF⟩:=bI hF
 refine sgc 11 (B:=r_1) (v:=.bool r_2) (F:=hS2.fn) rfl rfl (uT_ 6) hS2 (fun hg4=>(yC V0 k_call_68 (CV.mono (c_impl_areEdges g.Nodes g.Edges B c g.Edges.length _ rfl (hS2.inn0 [(true,0)] rfl) (gb_inv hc1 hg4)) (by rintro _ _ ⟨rfl,h⟩; exact ⟨rfl,hS2.out00 h⟩)) rfl (mc (gv_of (v:=vi g.Nodes) hg4) (mc (gv_of (v:=.slice B g.Edges.length c) hg4) mn)))) ?_
 rintro w_2 hS3
 refine sQ 12 (Y_and (b:=r_1) (z:=r_2) rfl rfl rfl rfl)<|sQ 2 (yg (.bool (r_1&&r_2))) (rn (ct_ ?_))
 obtain rfl:=sI hF
 exact ret1 Try.results33 (v1:=.bool (r_1&&r_2)) (resAt_tmp rfl) ⟨rfl,(hS3.sN [])⟩

theorem c_slices_IndexFunc_impl_Gate_impl_Gate (s:List TGate) (f_:TGate→Option (Bool)) (B:Option Addr) (c n:Nat) (kf:Nat) (caps:Array Value) (Rf:List Ro) (w0:World) (hn:s.length=n) (hk:callB Try.prog kf=true) (hp:∀ (w:World),ST w [] w [] Rf→∀ (x:TGate) (y:Bool),f_ x=some y→CV Try.prog kf ((.agg #[vi x.Kind,vi x.A,vi x.B])::caps.toList).toArray w (fun v w'=>v=.bool y∧ST w [] w' [] [])) (hS:ST w0 [] w0 [] (⟨B,(s.flatMap eN2)⟩::Rf)) {r_:Int} (hF:F_slices_IndexFunc_impl_Gate_impl_Gate s f_=some r_) :
  CV Try.prog 94 #[.slice B n c,.func (.func kf) #[] caps] w0 (fun v w'=>v=vi r_∧ST w0 [] w' [] []):=by
 subst hn
 unfold F_slices_IndexFunc_impl_Gate_impl_Gate at hF
 refine cv_of_cw 19 Try.func94 rfl Try.ntmps94 rfl ?_
 refine cq (cr ?_)
 refine sQ 4 (yg (vi 0)) (rn (cq (cq (cr ?_))))
 refine sQ 6 (ym (.slice B s.length c))<|sQ 7 (Y_len (B:=B) (m:=s.length) (c:=c) K12 rfl rfl)<|sQ 8 (ym (vi 0)) (rn ?_)
 obtain ⟨hN,hF⟩:=chk_inv hF
 obtain ⟨z,hz,hF1⟩:=bI hF
 refine cw_block ?_
 refine cw_loop (fun k f w=>∃ (i:Nat),FF f [(0,.slice B s.length c),(1,.func (.func kf) #[] caps),(7,vi (s.length:Int)),(8,vi (i:Int))]∧ST w0 [] w [] (⟨B,(s.flatMap eN2)⟩::Rf)∧i+k=s.length∧forX (F_slices_IndexFunc_impl_Gate_impl_Gate_l1 s f_) k i ()=some z) s.length ⟨0,(fc rfl (fc rfl (fc rfl (fc rfl fn_)))),(hS.sel [] rfl rfl),Nat.zero_add _,hz⟩ ?_
 rintro k_ f w ⟨i,hf,hS1,hik,hL⟩
 refine cq (cr ?_)
 refine sQ 9 (yL (i:Int) (s.length:Int) rfl (hf.g 8 3) (hf.g 7 2)) (rn (cq ?_))
 refine cw_cond (b:=(decide ((i:Int)<(s.length:Int)))) rfl (fun hlt=>?_) (fun hlt=>?_)
 ·skip
  have hlt1:i<s.length:=by have h:=of_decide_eq_true hlt; omega
  obtain ⟨K4,rfl⟩:∃ k2,k_=k2+1:=⟨k_-1,by omega⟩
  obtain ⟨y1,hb,hL1⟩:=forX_go hL
  unfold F_slices_IndexFunc_impl_Gate_impl_Gate_l1 at hb
  refine cw_skip (cq (cw_block (cq (cr ?_))))
  refine sQ 10 (ym (vi (i:Int)) rfl (hf.g 8 3))<|sQ 5 (yg (vi (i:Int))) (rn (cq (cr ?_)))
  refine sQ 11 (ym (.func (.func kf) #[] caps) rfl (hf.g 1 1))<|sQ 12 (ym (.slice B s.length c) rfl (hf.g 0 0))<|sQ 13 (ym (vi (i:Int))) ?_
  obtain ⟨x1,hx,hb⟩:=bI hb
  refine sQ 14 (Y_index (B:=B) (m:=s.length) (c:=c) (k:=.i64) (i:=(i:Int)) K12 K6 rfl rfl rfl (gi_isSome eN9 rfl (hS1.rf (i:=0) rfl) hx) (getI_nn hx) (getI_ltI hx rfl))<|sQ 15 (ya B ((i:Int).toNat*3) (s.flatMap eN2) [vi x1.Kind,vi x1.A,vi x1.B] K34 K6 (hS1.rf (i:=0) rfl) rfl rfl (eN9 x1) (gi_seg eN9 hx)) ?_
  obtain ⟨r_1,hc,hb⟩:=bI hb
  refine sc 16 rfl rfl (Yc_clos (g:=kf) (vs:=(.agg #[vi x1.Kind,vi x1.A,vi x1.B])::caps.toList) hk rfl rfl (clo_args (mc rfl mn)) (hp _ (hS1.innS (fun _ h=>mOd (i:=1) h)) x1 r_1 hc)) ?_
  rintro _ w_ ⟨rfl,hd⟩
  have hS2:=hS1.out00 hd
  refine rn ?_
  refine cw_cond (b:=r_1) rfl (fun hb1=>?_) (fun hb1=>?_)
  ·skip
   have hF2:=ct hb hb1
   refine cq (cr ?_)
   refine sQ 17 (ym (vi (i:Int)))<|sQ 4 (yg (vi (i:Int))) (rn (ct_ ?_))
   obtain rfl:=sI hF2
   obtain rfl:=sI hL1
   obtain rfl:=sI hF1
   exact ret1 Try.results94 (v1:=vi (i:Int)) (resAt_tmp rfl) ⟨rfl,(hS2.sN [])⟩
  ·skip
   have hF3:=cf' hb hb1
   refine cw_skip (cr ?_)
   refine sQ 18 (yP (i:Int) 1 rfl (hf.g 8 3))<|sQ 8 (ym (vi (i64.wrap ((i:Int)+1)))) (rn ?_)
   obtain rfl:=sI hF3
   exact ⟨K4,Nat.lt_succ_self _,i+1,(hf.a 0 0 (hf.a 1 1 (hf.a 7 2 (fc (congrArg (Value.int .i64) (wr_succ hlt1 hN)) fn_)))),(hS2.sel [] rfl rfl),(by omega),hL1⟩
 ·skip
  obtain rfl:k_=0:=by have h:=of_decide_eq_false hlt; omega
  refine cw_exit rfl ?_
  obtain rfl:=sI hL
  refine cq (cr ?_)
  refine sQ 4 (yg (vi (-1))) (rn (ct_ ?_))
  obtain rfl:=sI hF1
  exact ret1 Try.results94 (v1:=vi (-1)) (resAt_tmp rfl) ⟨rfl,(hS1.sN [])⟩

theorem c_slices_ContainsFunc_impl_Gate_impl_Gate (s:List TGate) (f_:TGate→Option (Bool)) (B:Option Addr) (c n:Nat) (kf:Nat) (caps:Array Value) (Rf:List Ro) (w0:World) (hn:s.length=n) (hk:callB Try.prog kf=true) (hp:∀ (w:World),ST w [] w [] Rf→∀ (x:TGate) (y:Bool),f_ x=some y→CV Try.prog kf ((.agg #[vi x.Kind,vi x.A,vi x.B])::caps.toList).toArray w (fun v w'=>v=.bool y∧ST w [] w' [] [])) (hS:ST w0 [] w0 [] (⟨B,(s.flatMap eN2)⟩::Rf)) {r_:Bool} (hF:F_slices_ContainsFunc_impl_Gate_impl_Gate s f_=some r_) :
  CV Try.prog 84 #[.slice B n c,.func (.func kf) #[] caps] w0 (fun v w'=>v=.bool r_∧ST w0 [] w' [] []):=by
 subst hn
 unfold F_slices_ContainsFunc_impl_Gate_impl_Gate at hF
 refine cv_of_cw 9 Try.func84 rfl Try.ntmps84 rfl ?_
 refine cq (cr ?_)
 refine sQ 4 (yg (.bool false)) (rn (cq (cr ?_)))
 refine sQ 5 (ym (.slice B s.length c))<|sQ 6 (ym (.func (.func kf) #[] caps)) ?_
 obtain ⟨r_1,hc,hF⟩:=bI hF
 refine sc 7 rfl rfl (yC [.slice B s.length c,.func (.func kf) #[] caps] k_call_94 (c_slices_IndexFunc_impl_Gate_impl_Gate s f_ B c s.length kf caps Rf _ rfl hk hp (hS.innS (sk 0 (fun _ h=>mOd (i:=1) h))) hc)) ?_
 rintro _ w_ ⟨rfl,hd⟩
 have hS1:=hS.out00 hd
 refine sQ 8 (Y_ge (k:=.i64) (a:=r_1) (b:=0) rfl rfl rfl)<|sQ 4 (yg (.bool (decide (0≤r_1)))) (rn (ct_ ?_))
 obtain rfl:=sI hF
 exact ret1 Try.results84 (v1:=.bool (decide (0≤r_1))) (resAt_tmp rfl) ⟨rfl,(hS1.sN [])⟩

theorem c_impl_isTwo (kind:Int)  (w0:World)  (hS:ST w0 [] w0 [] []) {r_:Bool} (hF:F_impl_isTwo kind=some r_) :
  CV Try.prog 31 #[vi kind] w0 (fun v w'=>v=.bool r_∧ST w0 [] w' [] []):=by
 unfold F_impl_isTwo at hF
 refine cv_of_cw 5 Try.func31 rfl Try.ntmps31 rfl ?_
 refine cq (cr ?_)
 refine sQ 2 (yg (.bool false)) (rn (cq (cr ?_)))
 refine sQ 3 (ym (vi kind)) ?_
 obtain ⟨r_1,hc,hF⟩:=bI hF
 refine sc 4 rfl rfl (yC [vi kind,vi 9,vi 11] K67 (c_impl_within kind 9 11 _  (hS.inn0 [] rfl) hc)) ?_
 rintro _ w_ ⟨rfl,hd⟩
 have hS1:=hS.out00 hd
 refine sQ 2 (yg (.bool r_1)) (rn (ct_ ?_))
 obtain rfl:=sI hF
 exact ret1 Try.results31 (v1:=.bool r_1) (resAt_tmp rfl) ⟨rfl,(hS1.sN [])⟩

theorem c_impl_IsValidGate (n:Int) (g:TGate)  (w0:World)  (hS:ST w0 [] w0 [] []) {r_:Bool} (hF:F_impl_IsValidGate n g=some r_) :
  CV Try.prog 86 #[vi n,.agg #[vi g.Kind,vi g.A,vi g.B]] w0 (fun v w'=>v=.bool r_∧ST w0 [] w' [] []):=by
 unfold F_impl_IsValidGate at hF
 refine cv_of_cw 60 Try.func86 rfl Try.ntmps86 rfl ?_
 refine cq (cr ?_)
 let V0:List Value:=[vi g.Kind,vi g.A,vi g.B]
 refine sS 3 (yB 56 (.agg V0.toArray) V0 3 hS) ?_
 rintro _ w_ ⟨b,rfl,hS1⟩
 refine sQ 4 (yg (.bool false)) (rn (cq (cw_block (cq (cr ?_)))))
 refine sQ 6 (ym (vi n)) ?_
 obtain ⟨r_1,hc,hF⟩:=bI hF
 refine sc 7 rfl rfl (yC [vi n,vi 1,vi 5] K67 (c_impl_within n 1 5 _  (hS1.inn0 [] rfl) hc)) ?_
 rintro _ w_1 ⟨rfl,hd⟩
 have hS2:=hS1.out00 hd
 refine sQ 8 (Y_not (p:=r_1) rfl rfl)<|sQ 9 (ym (.bool (!r_1))) ?_
 refine sgq 10 (B:=(!(!r_1))) (v:=pt (aD b) 0) rfl rfl (uF_ 9) (fun hg=>(yd (aD b) 0 0 K51 K0)) ?_
 refine sgq 11 (B:=(!(!r_1))) rfl rfl (uF_ 9) (fun hg1=>(yl (aD b) 0 V0 (vi g.Kind) K1 (hS2.c 0) rfl (gv_of (v:=pt (aD b) 0) hg1))) ?_
 obtain ⟨r_2,hc1,hF⟩:=bI hF
 refine sgc 12 (B:=(!(!r_1))) (v:=.bool r_2) (F:=hS2.fn) rfl rfl (uF_ 9) hS2 (fun hg2=>(yC [vi g.Kind,vi 1,vi 12] K67 (CV.mono (c_impl_within g.Kind 1 12 _  (hS2.inn0 [] rfl) (gb_inv hc1 hg2)) (by rintro _ _ ⟨rfl,h⟩; exact ⟨rfl,hS2.out00 h⟩)) rfl (mc (gv_of (v:=vi g.Kind) hg2) (mc rfl (mc rfl mn))))) ?_
 rintro w_2 hS3
 refine sgq 13 (B:=(!(!r_1))) (v:=.bool (!r_2)) rfl rfl (uF_ 9) (fun hg3=>(Y_not (p:=r_2) rfl (gv_of (v:=.bool r_2) hg3))) ?_
 refine sQ 14 (Y_or (b:=(!r_1)) (z:=(!r_2)) rfl rfl rfl rfl)<|sQ 5 (yg (.bool ((!r_1)||(!r_2)))) (rn ?_)
 refine cw_cond (b:=((!r_1)||(!r_2))) rfl (fun hb=>?_) (fun hb=>?_)
 ·skip
  have hF1:=ct hF hb
  refine cq (cr ?_)
  refine sQ 4 (yg (.bool false)) (rn (ct_ ?_))
  obtain rfl:=sI hF1
  exact ret1 Try.results86 (v1:=.bool false) (resAt_tmp rfl) ⟨rfl,(hS3.sN [])⟩
 ·skip
  have hF2:=cf' hF hb
  refine cq (cr ?_)
  refine sQ 16 (yd (aD b) 0 0 K51 K0)<|sQ 17 (yl (aD b) 0 V0 (vi g.Kind) K1 (hS3.c 0))<|sQ 18 (yE g.Kind 12)<|sQ 15 (yg (.bool (g.Kind==12))) (rn ?_)
  refine cw_cond (b:=(g.Kind==12)) rfl (fun hb1=>?_) (fun hb1=>?_)
  ·skip
   have hF3:=ct hF2 hb1
   refine cq (cr ?_)
   refine sQ 19 (yd (aD b) 0 0 K44 K0)<|sQ 20 (yl (aD b) 1 V0 (vi g.A) K1 (hS3.c 0))<|sQ 21 (yE g.A 0)<|sQ 22 (ym (.bool (g.A==0))) ?_
   refine sgq 23 (B:=(g.A==0)) (v:=pt (aD b) 2) rfl rfl (uT_ 22) (fun hg4=>(yd (aD b) 0 0 K52 K0)) ?_
   refine sgq 24 (B:=(g.A==0)) rfl rfl (uT_ 22) (fun hg5=>(yl (aD b) 2 V0 (vi g.B) K1 (hS3.c 0) rfl (gv_of (v:=pt (aD b) 2) hg5))) ?_
   refine sgq 25 (B:=(g.A==0)) rfl rfl (uT_ 22) (fun hg6=>(yE g.B 0 rfl (gv_of (v:=vi g.B) hg6))) ?_
   refine sQ 26 (Y_and (b:=(g.A==0)) (z:=(g.B==0)) rfl rfl rfl rfl)<|sQ 4 (yg (.bool ((g.A==0)&&(g.B==0)))) (rn (ct_ ?_))
   obtain rfl:=sI hF3
   exact ret1 Try.results86 (v1:=.bool ((g.A==0)&&(g.B==0))) (resAt_tmp rfl) ⟨rfl,(hS3.sN [])⟩
  ·skip
   have hF4:=cf' hF2 hb1
   refine cq (cr ?_)
   refine sQ 28 (yd (aD b) 0 0 K51 K0)<|sQ 29 (yl (aD b) 0 V0 (vi g.Kind) K1 (hS3.c 0)) ?_
   obtain ⟨r_3,hc2,hF4⟩:=bI hF4
   refine sc 30 rfl rfl (yC [vi g.Kind] K112 (c_impl_isTwo g.Kind _  (hS3.inn0 [] rfl) hc2)) ?_
   rintro _ w_3 ⟨rfl,hd1⟩
   have hS4:=hS3.out00 hd1
   refine sQ 27 (yg (.bool r_3)) (rn ?_)
   refine cw_cond (b:=r_3) rfl (fun hb2=>?_) (fun hb2=>?_)
   ·skip
    have hF5:=ct hF4 hb2
    refine cq (cr ?_)
    refine sQ 31 (yd (aD b) 0 0 K44 K0)<|sQ 32 (yl (aD b) 1 V0 (vi g.A) K1 (hS4.c 0))<|sQ 33 (ym (vi n))<|sQ 34 (yM n 1) ?_
    obtain ⟨r_4,hc3,hF5⟩:=bI hF5
    refine sc 35 rfl rfl (yC [vi g.A,vi 0,vi (i64.wrap (n-1))] K67 (c_impl_within g.A 0 (i64.wrap (n-1)) _  (hS4.inn0 [] rfl) hc3)) ?_
    rintro _ w_4 ⟨rfl,hd2⟩
    have hS5:=hS4.out00 hd2
    refine sQ 36 (ym (.bool r_4)) ?_
    refine sgq 37 (B:=r_4) (v:=pt (aD b) 2) rfl rfl (uT_ 36) (fun hg7=>(yd (aD b) 0 0 K52 K0)) ?_
    refine sgq 38 (B:=r_4) rfl rfl (uT_ 36) (fun hg8=>(yl (aD b) 2 V0 (vi g.B) K1 (hS5.c 0) rfl (gv_of (v:=pt (aD b) 2) hg8))) ?_
    refine sgq 39 (B:=r_4) rfl rfl (uT_ 36) (fun hg9=>(ym (vi n))) ?_
    refine sgq 40 (B:=r_4) rfl rfl (uT_ 36) (fun hg10=>(yM n 1 rfl (gv_of (v:=vi n) hg10))) ?_
    obtain ⟨r_5,hc4,hF5⟩:=bI hF5
    refine sgc 41 (B:=r_4) (v:=.bool r_5) (F:=hS5.fn) rfl rfl (uT_ 36) hS5 (fun hg11=>(yC [vi g.B,vi 0,vi (i64.wrap (n-1))] K67 (CV.mono (c_impl_within g.B 0 (i64.wrap (n-1)) _  (hS5.inn0 [] rfl) (gb_inv hc4 hg11)) (by rintro _ _ ⟨rfl,h⟩; exact ⟨rfl,hS5.out00 h⟩)) rfl (mc (gv_of (v:=vi g.B) hg11) (mc rfl (mc (gv_of (v:=vi (i64.wrap (n-1))) hg11) mn))))) ?_
    rintro w_5 hS6
    refine sQ 42 (Y_and (b:=r_4) (z:=r_5) rfl rfl rfl rfl)<|sQ 43 (ym (.bool (r_4&&r_5))) ?_
    refine sgq 44 (B:=(r_4&&r_5)) (v:=pt (aD b) 1) rfl rfl (uT_ 43) (fun hg12=>(yd (aD b) 0 0 K44 K0)) ?_
    refine sgq 45 (B:=(r_4&&r_5)) rfl rfl (uT_ 43) (fun hg13=>(yl (aD b) 1 V0 (vi g.A) K1 (hS6.c 0) rfl (gv_of (v:=pt (aD b) 1) hg13))) ?_
    refine sgq 46 (B:=(r_4&&r_5)) (v:=pt (aD b) 2) rfl rfl (uT_ 43) (fun hg14=>(yd (aD b) 0 0 K52 K0)) ?_
    refine sgq 47 (B:=(r_4&&r_5)) rfl rfl (uT_ 43) (fun hg15=>(yl (aD b) 2 V0 (vi g.B) K1 (hS6.c 0) rfl (gv_of (v:=pt (aD b) 2) hg15))) ?_
    refine sgq 48 (B:=(r_4&&r_5)) rfl rfl (uT_ 43) (fun hg16=>(Y_ne (k:=.i64) (a:=g.A) (b:=g.B) rfl (gv_of (v:=vi g.A) hg16) (gv_of (v:=vi g.B) hg16))) ?_
    refine sQ 49 (Y_and (b:=(r_4&&r_5)) (z:=(g.A != g.B)) rfl rfl rfl rfl)<|sQ 4 (yg (.bool ((r_4&&r_5)&&(g.A != g.B)))) (rn (ct_ ?_))
    obtain rfl:=sI hF5
    exact ret1 Try.results86 (v1:=.bool ((r_4&&r_5)&&(g.A != g.B))) (resAt_tmp rfl) ⟨rfl,(hS6.sN [])⟩
   ·skip
    have hF6:=cf' hF4 hb2
    refine cw_skip (cq (cr ?_))
    refine sQ 50 (yd (aD b) 0 0 K44 K0)<|sQ 51 (yl (aD b) 1 V0 (vi g.A) K1 (hS4.c 0))<|sQ 52 (ym (vi n))<|sQ 53 (yM n 1) ?_
    obtain ⟨r_6,hc5,hF6⟩:=bI hF6
    refine sc 54 rfl rfl (yC [vi g.A,vi 0,vi (i64.wrap (n-1))] K67 (c_impl_within g.A 0 (i64.wrap (n-1)) _  (hS4.inn0 [] rfl) hc5)) ?_
    rintro _ w_6 ⟨rfl,hd3⟩
    have hS7:=hS4.out00 hd3
    refine sQ 55 (ym (.bool r_6)) ?_
    refine sgq 56 (B:=r_6) (v:=pt (aD b) 2) rfl rfl (uT_ 55) (fun hg17=>(yd (aD b) 0 0 K52 K0)) ?_
    refine sgq 57 (B:=r_6) rfl rfl (uT_ 55) (fun hg18=>(yl (aD b) 2 V0 (vi g.B) K1 (hS7.c 0) rfl (gv_of (v:=pt (aD b) 2) hg18))) ?_
    refine sgq 58 (B:=r_6) rfl rfl (uT_ 55) (fun hg19=>(yE g.B 0 rfl (gv_of (v:=vi g.B) hg19))) ?_
    refine sQ 59 (Y_and (b:=r_6) (z:=(g.B==0)) rfl rfl rfl rfl)<|sQ 4 (yg (.bool (r_6&&(g.B==0)))) (rn (ct_ ?_))
    obtain rfl:=sI hF6
    exact ret1 Try.results86 (v1:=.bool (r_6&&(g.B==0))) (resAt_tmp rfl) ⟨rfl,(hS7.sN [])⟩

theorem c_impl_IsValidCircuit_1 (g:TGate) (p:TCircuit) (B:Option Addr) (B1:Option Addr) (c n:Nat) (w0:World) (hn:p.Gates.length=n) (hS:ST w0 [] w0 [] [⟨B,[vi p.Qubits,.slice B1 n c]⟩,⟨B1,(p.Gates.flatMap eN2)⟩]) {r_:Bool} (hF:F_impl_IsValidCircuit_1 g p=some r_) :
  CV Try.prog 85 #[.agg #[vi g.Kind,vi g.A,vi g.B],pt B 0] w0 (fun v w'=>v=.bool r_∧ST w0 [] w' [] []):=by
 subst hn
 unfold F_impl_IsValidCircuit_1 at hF
 refine cv_of_cw 9 Try.func85 rfl Try.ntmps85 rfl ?_
 refine cq (cr ?_)
 let V0:List Value:=[vi g.Kind,vi g.A,vi g.B]
 refine sS 2 (yB 56 (.agg V0.toArray) V0 3 hS) ?_
 rintro _ w_ ⟨b,rfl,hS1⟩
 refine sQ 3 (yg (.bool false)) (rn (cq (cr ?_)))
 refine sQ 4 (yd B 0 0 K60 K0)<|sQ 5 (yl B 0 [vi p.Qubits,.slice B1 p.Gates.length c] (vi p.Qubits) K1 (hS1.rf (i:=0) rfl))<|sQ 6 (yb (aD b) 0 V0 K34 K6 (hS1.c 0)) ?_
 obtain ⟨r_1,hc,hF⟩:=bI hF
 refine sc 7 rfl rfl (yC [vi p.Qubits,.agg V0.toArray] k_call_86 (c_impl_IsValidGate p.Qubits g _  (hS1.inn0 [] rfl) hc)) ?_
 rintro _ w_1 ⟨rfl,hd⟩
 have hS2:=hS1.out00 hd
 refine sQ 8 (Y_not (p:=r_1) rfl rfl)<|sQ 3 (yg (.bool (!r_1))) (rn (ct_ ?_))
 obtain rfl:=sI hF
 exact ret1 Try.results85 (v1:=.bool (!r_1)) (resAt_tmp rfl) ⟨rfl,(hS2.sN [])⟩

theorem c_impl_IsValidCircuit (c:TCircuit) (B:Option Addr) (c1 n:Nat) (w0:World) (hn:c.Gates.length=n) (hS:ST w0 [] w0 [] [⟨B,(c.Gates.flatMap eN2)⟩]) {r_:Bool} (hF:F_impl_IsValidCircuit c=some r_) :
  CV Try.prog 59 #[.agg #[vi c.Qubits,.slice B n c1]] w0 (fun v w'=>v=.bool r_∧ST w0 [] w' [] []):=by
 subst hn
 unfold F_impl_IsValidCircuit at hF
 refine cv_of_cw 19 Try.func59 rfl Try.ntmps59 rfl ?_
 refine cq (cr ?_)
 let V0:List Value:=[vi c.Qubits,.slice B c.Gates.length c1]
 refine sS 1 (yB 28 (.agg V0.toArray) V0 2 hS) ?_
 rintro _ w_ ⟨b,rfl,hS1⟩
 refine sQ 2 (yg (.bool false)) (rn (cq (cr ?_)))
 refine sQ 3 (yd (aD b) 0 0 K60 K0)<|sQ 4 (yl (aD b) 0 V0 (vi c.Qubits) K1 (hS1.c 0)) ?_
 obtain ⟨r_1,hc,hF⟩:=bI hF
 refine sc 5 rfl rfl (yC [vi c.Qubits,vi 1,vi 5] K67 (c_impl_within c.Qubits 1 5 _  (hS1.inn0 [] rfl) hc)) ?_
 rintro _ w_1 ⟨rfl,hd⟩
 have hS2:=hS1.out00 hd
 refine sQ 6 (ym (.bool r_1)) ?_
 refine sgq 7 (B:=r_1) (v:=pt (aD b) 1) rfl rfl (uT_ 6) (fun hg=>(yd (aD b) 0 0 K19 K16)) ?_
 refine sgq 8 (B:=r_1) rfl rfl (uT_ 6) (fun hg1=>(yl (aD b) 1 V0 (.slice B c.Gates.length c1) K21 (hS2.c 0) rfl (gv_of (v:=pt (aD b) 1) hg1))) ?_
 refine sgq 9 (B:=r_1) (v:=vi (c.Gates.length:Int)) rfl rfl (uT_ 6) (fun hg2=>(Y_len (B:=B) (m:=c.Gates.length) (c:=c1) K12 rfl (gv_of (v:=.slice B c.Gates.length c1) hg2))) ?_
 refine sgq 10 (B:=r_1) rfl rfl (uT_ 6) (fun hg3=>(Y_le (k:=.i64) (a:=(c.Gates.length:Int)) (b:=400) rfl (gv_of (v:=vi (c.Gates.length:Int)) hg3) rfl)) ?_
 refine sQ 11 (Y_and (b:=r_1) (z:=(decide ((c.Gates.length:Int)≤400))) rfl rfl rfl rfl)<|sQ 12 (ym (.bool (r_1&&(decide ((c.Gates.length:Int)≤400))))) ?_
 refine sgq 13 (B:=(r_1&&(decide ((c.Gates.length:Int)≤400)))) (v:=pt (aD b) 1) rfl rfl (uT_ 12) (fun hg4=>(yd (aD b) 0 0 K19 K16)) ?_
 refine sgq 14 (B:=(r_1&&(decide ((c.Gates.length:Int)≤400)))) rfl rfl (uT_ 12) (fun hg5=>(yl (aD b) 1 V0 (.slice B c.Gates.length c1) K21 (hS2.c 0) rfl (gv_of (v:=pt (aD b) 1) hg5))) ?_
 refine sgq 15 (B:=(r_1&&(decide ((c.Gates.length:Int)≤400)))) (v:=.func (.func 85) #[] #[pt (aD b) 0]) rfl rfl (uT_ 12) (fun hg6=>(Y_makeFunc (cs:=[pt (aD b) 0]) rfl rfl (mc rfl mn))) ?_
 obtain ⟨r_2,hc1,hF⟩:=bI hF
 refine sgc 16 (B:=(r_1&&(decide ((c.Gates.length:Int)≤400)))) (v:=.bool r_2) (F:=hS2.fn) rfl rfl (uT_ 12) hS2 (fun hg7=>(yC [.slice B c.Gates.length c1,.func (.func 85) #[] #[pt (aD b) 0]] k_call_84 (CV.mono (c_slices_ContainsFunc_impl_Gate_impl_Gate c.Gates (fun x_0=>F_impl_IsValidCircuit_1 x_0 c) B c1 c.Gates.length 85 (#[pt (aD b) 0]) [⟨aD b,V0⟩,⟨B,(c.Gates.flatMap eN2)⟩] _ rfl k_call_85 (fun w hw x_0 y_0 h_=>c_impl_IsValidCircuit_1 x_0 c (aD b) B c1 c.Gates.length w rfl hw h_) (hS2.inn0 [(true,0),(false,0),(true,0)] rfl) (gb_inv hc1 hg7)) (by rintro _ _ ⟨rfl,h⟩; exact ⟨rfl,hS2.out00 h⟩)) rfl (mc (gv_of (v:=.slice B c.Gates.length c1) hg7) (mc (gv_of (v:=.func (.func 85) #[] #[pt (aD b) 0]) hg7) mn)))) ?_
 rintro w_2 hS3
 refine sgq 17 (B:=(r_1&&(decide ((c.Gates.length:Int)≤400)))) (v:=.bool (!r_2)) rfl rfl (uT_ 12) (fun hg8=>(Y_not (p:=r_2) rfl (gv_of (v:=.bool r_2) hg8))) ?_
 refine sQ 18 (Y_and (b:=(r_1&&(decide ((c.Gates.length:Int)≤400)))) (z:=(!r_2)) rfl rfl rfl rfl)<|sQ 2 (yg (.bool ((r_1&&(decide ((c.Gates.length:Int)≤400)))&&(!r_2)))) (rn (ct_ ?_))
 obtain rfl:=sI hF
 exact ret1 Try.results59 (v1:=.bool ((r_1&&(decide ((c.Gates.length:Int)≤400)))&&(!r_2))) (resAt_tmp rfl) ⟨rfl,(hS3.sN [])⟩

theorem c_impl_canRoute (g:TCouplingGraph) (c1:TCircuit) (B:Option Addr) (c n:Nat) (B1:Option Addr) (c2 n1:Nat) (w0:World) (hn:g.Edges.length=n) (hn1:c1.Gates.length=n1) (hS:ST w0 [] w0 [] [⟨B,(g.Edges.flatMap eN1)⟩,⟨B1,(c1.Gates.flatMap eN2)⟩]) {r_:Bool} (hF:F_impl_canRoute g c1=some r_) :
  CV Try.prog 26 #[.agg #[vi g.Nodes,.slice B n c],.agg #[vi c1.Qubits,.slice B1 n1 c2]] w0 (fun v w'=>v=.bool r_∧ST w0 [] w' [] []):=by
 subst hn
 subst hn1
 unfold F_impl_canRoute at hF
 refine cv_of_cw 18 Try.func26 rfl Try.ntmps26 rfl ?_
 refine cq (cr ?_)
 let V1:List Value:=[vi g.Nodes,.slice B g.Edges.length c]
 refine sS 2 (yB 25 (.agg V1.toArray) V1 2 hS) ?_
 rintro _ w_ ⟨b,rfl,hS1⟩
 let V0:List Value:=[vi c1.Qubits,.slice B1 c1.Gates.length c2]
 refine sS 3 (yB 28 (.agg V0.toArray) V0 2 hS1) ?_
 rintro _ w_1 ⟨b1,rfl,hS2⟩
 refine sQ 4 (yg (.bool false)) (rn (cq (cr ?_)))
 refine sQ 5 (yb (aD b) 0 V1 K5 K3 (hS2.c 0)) ?_
 obtain ⟨r_1,hc,hF⟩:=bI hF
 refine sc 6 rfl rfl (yC [.agg V1.toArray] k_call_33 (c_impl_IsValidCouplingGraph g B c g.Edges.length _ rfl (hS2.inn0 [(true,0)] rfl) hc)) ?_
 rintro _ w_2 ⟨rfl,hd⟩
 have hS3:=hS2.out00 hd
 refine sQ 7 (ym (.bool r_1)) ?_
 refine sgq 8 (B:=r_1) (v:=.agg V0.toArray) rfl rfl (uT_ 7) (fun hg=>(yb (aD b1) 0 V0 K14 K7 (hS3.c 1))) ?_
 obtain ⟨r_2,hc1,hF⟩:=bI hF
 refine sgc 9 (B:=r_1) (v:=.bool r_2) (F:=hS3.fn) rfl rfl (uT_ 7) hS3 (fun hg1=>(yC [.agg V0.toArray] k_call_59 (CV.mono (c_impl_IsValidCircuit c1 B1 c2 c1.Gates.length _ rfl (hS3.inn0 [(true,1)] rfl) (gb_inv hc1 hg1)) (by rintro _ _ ⟨rfl,h⟩; exact ⟨rfl,hS3.out00 h⟩)) rfl (mc (gv_of (v:=.agg V0.toArray) hg1) mn))) ?_
 rintro w_3 hS4
 refine sQ 10 (Y_and (b:=r_1) (z:=r_2) rfl rfl rfl rfl)<|sQ 11 (ym (.bool (r_1&&r_2))) ?_
 refine sgq 12 (B:=(r_1&&r_2)) (v:=pt (aD b1) 0) rfl rfl (uT_ 11) (fun hg2=>(yd (aD b1) 0 0 K60 K0)) ?_
 refine sgq 13 (B:=(r_1&&r_2)) rfl rfl (uT_ 11) (fun hg3=>(yl (aD b1) 0 V0 (vi c1.Qubits) K1 (hS4.c 1) rfl (gv_of (v:=pt (aD b1) 0) hg3))) ?_
 refine sgq 14 (B:=(r_1&&r_2)) (v:=pt (aD b) 0) rfl rfl (uT_ 11) (fun hg4=>(yd (aD b) 0 0 K49 K0)) ?_
 refine sgq 15 (B:=(r_1&&r_2)) rfl rfl (uT_ 11) (fun hg5=>(yl (aD b) 0 V1 (vi g.Nodes) K1 (hS4.c 0) rfl (gv_of (v:=pt (aD b) 0) hg5))) ?_
 refine sgq 16 (B:=(r_1&&r_2)) rfl rfl (uT_ 11) (fun hg6=>(Y_le (k:=.i64) (a:=c1.Qubits) (b:=g.Nodes) rfl (gv_of (v:=vi c1.Qubits) hg6) (gv_of (v:=vi g.Nodes) hg6))) ?_
 refine sQ 17 (Y_and (b:=(r_1&&r_2)) (z:=(decide (c1.Qubits≤g.Nodes))) rfl rfl rfl rfl)<|sQ 4 (yg (.bool ((r_1&&r_2)&&(decide (c1.Qubits≤g.Nodes))))) (rn (ct_ ?_))
 obtain rfl:=sI hF
 exact ret1 Try.results26 (v1:=.bool ((r_1&&r_2)&&(decide (c1.Qubits≤g.Nodes)))) (resAt_tmp rfl) ⟨rfl,(hS4.sN [])⟩

theorem c_impl_counted (c:TCircuit) (is_:Int→Option (Bool)) (B:Option Addr) (c1 n:Nat) (kf:Nat) (caps:Array Value) (Rf:List Ro) (w0:World) (hn:c.Gates.length=n) (hk:callB Try.prog kf=true) (hp:∀ (w:World),ST w [] w [] Rf→∀ (x:Int) (y:Bool),is_ x=some y→CV Try.prog kf ((vi x)::caps.toList).toArray w (fun v w'=>v=.bool y∧ST w [] w' [] [])) (hS:ST w0 [] w0 [] (⟨B,(c.Gates.flatMap eN2)⟩::Rf)) {r_:Int} {r_1:Bool} (hF:F_impl_counted c is_=some (r_,r_1)) :
  CV Try.prog 92 #[.agg #[vi c.Qubits,.slice B n c1],.func (.func kf) #[] caps] w0 (fun v w'=>v=.tuple #[vi r_,.bool r_1]∧ST w0 [] w' [] []):=by
 subst hn
 unfold F_impl_counted at hF
 refine cv_of_cw 27 Try.func92 rfl Try.ntmps92 rfl ?_
 refine cq (cr ?_)
 let V0:List Value:=[vi c.Qubits,.slice B c.Gates.length c1]
 refine sS 2 (yB 28 (.agg V0.toArray) V0 2 hS) ?_
 rintro _ w_ ⟨b,rfl,hS1⟩
 refine sQ 4 (yg (vi 0))<|sQ 5 (yg (.bool false)) (rn (cq (cq (cr ?_))))
 refine sQ 9 (yb (aD b) 0 V0 K14 K7 (hS1.c 0)) ?_
 obtain ⟨r_2,hc,hF⟩:=bI hF
 refine sc 10 rfl rfl (yC [.agg V0.toArray] k_call_59 (c_impl_IsValidCircuit c B c1 c.Gates.length _ rfl (hS1.inn0 [(true,0)] rfl) hc)) ?_
 rintro _ w_1 ⟨rfl,hd⟩
 have hS2:=hS1.out00 hd
 refine sQ 11 (Y_not (p:=r_2) rfl rfl) (rn ?_)
 refine cw_cond (b:=(!r_2)) rfl (fun hb=>?_) (fun hb=>?_)
 ·skip
  have hF1:=ct hF hb
  refine cq (cr ?_)
  refine sQ 4 (yg (vi 0))<|sQ 5 (yg (.bool false)) (rn (ct_ ?_))
  obtain ⟨rfl,rfl⟩:=pr2 (sI hF1)
  exact ret2 Try.results92 (v1:=vi 0) (resAt_tmp rfl) (v2:=.bool false) (resAt_tmp rfl) ⟨rfl,(hS2.sN [])⟩
 ·skip
  have hF2:=cf' hF hb
  refine cw_skip (cq (cr ?_))
  refine sQ 6 (yg (vi 0)) (rn (cq (cq (cr ?_))))
  refine sQ 12 (yd (aD b) 0 0 K19 K16)<|sQ 13 (yl (aD b) 1 V0 (.slice B c.Gates.length c1) K21 (hS2.c 0))<|sQ 14 (Y_len (B:=B) (m:=c.Gates.length) (c:=c1) K12 rfl rfl)<|sQ 15 (ym (vi 0)) (rn ?_)
  obtain ⟨hN,hF2⟩:=chk_inv hF2
  obtain ⟨z,hz,hF3⟩:=bI hF2
  refine cw_block ?_
  refine cw_loop (fun k f w=>∃ (i:Nat) (count:Int),FF f [(1,.func (.func kf) #[] caps),(6,vi count),(13,.slice B c.Gates.length c1),(14,vi (c.Gates.length:Int)),(15,vi (i:Int))]∧ST w0 [] w [] (⟨B,(c.Gates.flatMap eN2)⟩::Rf)∧i+k=c.Gates.length∧forN (F_impl_counted_l1 c is_) k i count=some z) c.Gates.length ⟨0,0,(fc rfl (fc rfl (fc rfl (fc rfl (fc rfl fn_))))),(hS2.sel [] rfl rfl),Nat.zero_add _,hz⟩ ?_
  rintro k_ f w ⟨i,count,hf,hS3,hik,hL⟩
  refine cq (cr ?_)
  refine sQ 16 (yL (i:Int) (c.Gates.length:Int) rfl (hf.g 15 4) (hf.g 14 3)) (rn (cq ?_))
  refine cw_cond (b:=(decide ((i:Int)<(c.Gates.length:Int)))) rfl (fun hlt=>?_) (fun hlt=>?_)
  ·skip
   have hlt1:i<c.Gates.length:=by have h:=of_decide_eq_true hlt; omega
   obtain ⟨K4,rfl⟩:∃ k2,k_=k2+1:=⟨k_-1,by omega⟩
   obtain ⟨y1,hb1,hL1⟩:=forN_go hL
   unfold F_impl_counted_l1 at hb1
   refine cw_skip (cq ?_)
   obtain ⟨z1,hz1,hF4⟩:=bI hb1
   refine cw_mid (fun f w=>∃ (count1:Int),count1=z1∧FF f [(1,.func (.func kf) #[] caps),(6,vi count1),(13,.slice B c.Gates.length c1),(14,vi (c.Gates.length:Int)),(15,vi (i:Int))]∧ST w0 [] w [] (⟨B,(c.Gates.flatMap eN2)⟩::Rf)) ?_ ?_
   ·skip
    refine cw_block (cq (cr ?_))
    obtain ⟨x1,hx,hz1⟩:=bI hz1
    let V1:List Value:=[vi x1.Kind,vi x1.A,vi x1.B]
    refine sQ 17 (Y_index (B:=B) (m:=c.Gates.length) (c:=c1) (k:=.i64) (i:=(i:Int)) K12 K6 rfl (hf.g 13 2) (hf.g 15 4) (gi_isSome eN9 rfl (hS3.rf (i:=0) rfl) hx) (getI_nn hx) (getI_ltI hx rfl))<|sQ 18 (ya B ((i:Int).toNat*3) (c.Gates.flatMap eN2) V1 K34 K6 (hS3.rf (i:=0) rfl) rfl rfl (eN9 x1) (gi_seg eN9 hx)) ?_
    refine sS 8 (yN [vi 0,vi 0,vi 0] 3 hS3 K38) ?_
    rintro _ w_2 ⟨b1,rfl,hS5⟩
    refine s0 (yT 0 3 (aD b1) 56 (.agg V1.toArray) V1 0 hS5 K6) ?_
    rintro _ w_3 ⟨rfl,hS6⟩
    refine rn (cq (cr ?_))
    refine sQ 19 (ym (.func (.func kf) #[] caps) rfl (hf.g 1 0))<|sQ 20 (yd (aD b1) 0 0 K51 K0)<|sQ 21 (yl (aD b1) 0 V1 (vi x1.Kind) K1 (hS6.c 0)) ?_
    obtain ⟨r_3,hc1,hz1⟩:=bI hz1
    refine sc 22 rfl rfl (Yc_clos (g:=kf) (vs:=(vi x1.Kind)::caps.toList) hk rfl rfl (clo_args (mc rfl mn)) (hp _ (hS6.innS (fun _ h=>mOd (i:=1) h)) x1.Kind r_3 hc1)) ?_
    rintro _ w_4 ⟨rfl,hd1⟩
    have hS7:=hS6.out00 hd1
    refine rn ?_
    refine cw_cond (b:=r_3) rfl (fun hb2=>?_) (fun hb2=>?_)
    ·skip
     have hF5:=ct hz1 hb2
     refine cr ?_
     refine sQ 23 (ym (vi count) rfl (hf.g 6 1))<|sQ 24 (yP count 1)<|sQ 6 (yg (vi (i64.wrap (count+1)))) (rn ?_)
     exact ⟨(i64.wrap (count+1)),(sI hF5),(hf.a 1 0 (fc rfl (hf.a 13 2 (hf.a 14 3 (hf.a 15 4 fn_))))),(hS7.sel [] rfl rfl)⟩
    ·skip
     have hF6:=cf' hz1 hb2
     refine cw_skip ?_
     exact ⟨count,(sI hF6),(hf.a 1 0 (hf.a 6 1 (hf.a 13 2 (hf.a 14 3 (hf.a 15 4 fn_))))),(hS7.sel [] rfl rfl)⟩
   rintro f w ⟨count1,rfl,hf1,hS4⟩
   refine cr ?_
   refine sQ 25 (yP (i:Int) 1 rfl (hf1.g 15 4))<|sQ 15 (ym (vi (i64.wrap ((i:Int)+1)))) (rn ?_)
   obtain rfl:=sI hF4
   exact ⟨K4,Nat.lt_succ_self _,i+1,count1,(hf1.a 1 0 (hf1.a 6 1 (hf1.a 13 2 (hf1.a 14 3 (fc (congrArg (Value.int .i64) (wr_succ hlt1 hN)) fn_))))),(hS4.sel [] rfl rfl),(by omega),hL1⟩
  ·skip
   obtain rfl:k_=0:=by have h:=of_decide_eq_false hlt; omega
   refine cw_exit rfl ?_
   obtain rfl:=sI hL
   refine cq (cr ?_)
   refine sQ 26 (ym (vi count) rfl (hf.g 6 1))<|sQ 4 (yg (vi count))<|sQ 5 (yg (.bool true)) (rn (ct_ ?_))
   obtain ⟨rfl,rfl⟩:=pr2 (sI hF3)
   exact ret2 Try.results92 (v1:=vi count) (resAt_tmp rfl) (v2:=.bool true) (resAt_tmp rfl) ⟨rfl,(hS3.sN [])⟩

theorem c_impl_CountTwo (c:TCircuit) (B:Option Addr) (c1 n:Nat) (w0:World) (hn:c.Gates.length=n) (hS:ST w0 [] w0 [] [⟨B,(c.Gates.flatMap eN2)⟩]) {r_:Int} {r_1:Bool} (hF:F_impl_CountTwo c=some (r_,r_1)) :
  CV Try.prog 73 #[.agg #[vi c.Qubits,.slice B n c1]] w0 (fun v w'=>v=.tuple #[vi r_,.bool r_1]∧ST w0 [] w' [] []):=by
 subst hn
 unfold F_impl_CountTwo at hF
 refine cv_of_cw 8 Try.func73 rfl Try.ntmps73 rfl ?_
 refine cq (cr ?_)
 let V0:List Value:=[vi c.Qubits,.slice B c.Gates.length c1]
 refine sS 1 (yB 28 (.agg V0.toArray) V0 2 hS) ?_
 rintro _ w_ ⟨b,rfl,hS1⟩
 refine sQ 2 (yg (vi 0))<|sQ 3 (yg (.bool false)) (rn (cq (cr ?_)))
 refine sQ 4 (yb (aD b) 0 V0 K14 K7 (hS1.c 0)) ?_
 obtain ⟨⟨r_2,r_3⟩,hc,hF⟩:=bI hF
 refine sc 5 rfl rfl (yC [.agg V0.toArray,.func (.func 31) #[] #[]] k_call_92 (c_impl_counted c F_impl_isTwo B c1 c.Gates.length 31 (#[]) [] _ rfl K112 (fun w hw x_0 y_0 h_=>c_impl_isTwo x_0  w  hw h_) (hS1.inn0 [(true,0)] rfl) hc)) ?_
 rintro _ w_1 ⟨rfl,hd⟩
 have hS2:=hS1.out00 hd
 refine sQ 6 (ye (vi r_2))<|sQ 7 (ye (.bool r_3))<|sQ 2 (yg (vi r_2))<|sQ 3 (yg (.bool r_3)) (rn (ct_ ?_))
 obtain ⟨rfl,rfl⟩:=pr2 (sI hF)
 exact ret2 Try.results73 (v1:=vi r_2) (resAt_tmp rfl) (v2:=.bool r_3) (resAt_tmp rfl) ⟨rfl,(hS2.sN [])⟩
end Go.VK
