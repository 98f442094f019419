/- Walks: each Go function returns what its Lean function says. By program. -/
import Derived.Test.YteafjgodcdlanaaLRoutesFa
import Derived.Test.YteafjgodcdlanaaLibU
import Derived.Test.YteafjgodcdlanaaLibX
import Derived.Test.YteafjgodcdlanaaLibW
import Derived.Test.YteafjgodcdlanaaLRoutesW4
set_option linter.unusedVariables false
set_option maxRecDepth 100000
set_option maxHeartbeats 4000000
namespace Go.VK
open Go.RowKit
open Go.Proofs
open Go.IntKind
attribute [local irreducible] CW RW RA CV Y Yw Yc Ys RetOf
attribute [local irreducible] F_spec_l1Cur_pick F_spec_l1Cur_one F_spec_l1Cur_routed F_impl_within F_impl_CouplingGraph_isPlacement F_slices_Clone_int_int F_impl_newRouting F_impl_IsValidCouplingGraph F_impl_isTwo F_impl_canRoute F_impl_CouplingGraph_joins F_impl_routing_fits F_impl_routing_isReady F_slices_Contains_bool_bool F_impl_routing_swap F_impl_leastRoute F_spec_l23Fits F_spec_l23Placement F_spec_l1Own F_spec_l23Swap F_spec_l22Edge F_spec_l23Near F_spec_l23Ready F_spec_RouteFrom F_spec_l22Path F_spec_GreedyRoute F_spec_DrawCheckRoute F_impl_routing_step F_impl_check F_impl_CheckRoute F_spec_l23Play F_spec_CheckRoute F_impl_RouteFrom F_math_bits_Mul64 F_math_bits_Mul F_slices_Repeat_int_int F_impl_CouplingGraph_near F_impl_CouplingGraph_distances F_impl_SwapBound F_impl_IsPlacement F_laws_qSwaps F_laws_qInts F_impl_CouplingGraph_path F_impl_GreedyRoute
theorem c_spec_GreedyRoute (g:TCouplingGraph) (c1:TCircuit) (start:List Int) (B:Option Addr) (c n:Nat) (B1:Option Addr) (c2 n1:Nat) (B2:Option Addr) (c3 n2:Nat) (w0:World) (hn:g.Edges.length=n) (hn1:c1.Gates.length=n1) (hn2:start.length=n2) (hq:n2≤c3) (hS:ST w0 [] w0 [] [⟨B,(g.Edges.flatMap eN1)⟩,⟨B1,(c1.Gates.flatMap eN2)⟩,⟨B2,(start.flatMap encI)⟩]) {r_:TRoute} {r_1:Bool} (hF:F_spec_GreedyRoute g c1 start=some (r_,r_1)) :
  CV Try.prog 24 #[.agg #[vi g.Nodes,.slice B n c],.agg #[vi c1.Qubits,.slice B1 n1 c2],.slice B2 n2 c3] w0 (fun v w'=>∃ (B3:Option Addr) (c4:Nat) (B4:Option Addr) (c5:Nat),v=.tuple #[.agg #[.slice B3 r_.Start.length c4,.slice B4 r_.Steps.length c5],.bool r_1]∧ST w0 [] w' [⟨B3,3,(r_.Start.flatMap encI),c4*1⟩,⟨B4,60,(r_.Steps.flatMap eN0),c5*3⟩] []):=by
 subst hn
 subst hn1
 subst hn2
 unfold F_spec_GreedyRoute at hF
 refine cv_of_cw 102 Try.func24 rfl Try.ntmps24 rfl ?_
 refine cq (cr ?_)
 let V11:List Value:=[vi g.Nodes,.slice B g.Edges.length c]
 refine sS 3 (yB 25 (.agg V11.toArray) V11 2 hS) ?_
 rintro _ w_ ⟨b,rfl,hS1⟩
 let V13:List Value:=[vi c1.Qubits,.slice B1 c1.Gates.length c2]
 refine sS 4 (yB 28 (.agg V13.toArray) V13 2 hS1) ?_
 rintro _ w_1 ⟨b1,rfl,hS2⟩
 let V10:List Value:=[.slice none 0 0,.slice none 0 0]
 refine sS 6 (yN V10 2 hS2 K35) ?_
 rintro _ w_2 ⟨b2,rfl,hS3⟩
 refine sQ 7 (yg (.bool false)) (rn (cq (cq (cr ?_))))
 refine sQ 14 (yb (aD b) 0 V11 K5 K3 (hS3.c 0))<|sQ 15 (yb (aD b1) 0 V13 K14 K7 (hS3.c 1)) ?_
 obtain ⟨r_2,hc,hF⟩:=bI hF
 refine sc 16 rfl rfl (yC [.agg V11.toArray,.agg V13.toArray] K144 (c_spec_l23Fits g c1 B c g.Edges.length B1 c2 c1.Gates.length _ rfl rfl (hS3.inn0 [(true,0),(true,1)] rfl) hc)) ?_
 rintro _ w_3 ⟨rfl,hd⟩
 have hS4:=hS3.out00 hd
 refine sQ 17 (Y_not (p:=r_2) rfl rfl)<|sQ 18 (ym (.bool (!r_2))) ?_
 refine sgq 19 (B:=(!(!r_2))) (v:=.agg V11.toArray) rfl rfl (uF_ 18) (fun hg=>(yb (aD b) 0 V11 K5 K3 (hS4.c 0))) ?_
 refine sgq 20 (B:=(!(!r_2))) (v:=pt (aD b1) 0) rfl rfl (uF_ 18) (fun hg1=>(yd (aD b1) 0 0 K60 K0)) ?_
 refine sgq 21 (B:=(!(!r_2))) rfl rfl (uF_ 18) (fun hg2=>(yl (aD b1) 0 V13 (vi c1.Qubits) K1 (hS4.c 1) rfl (gv_of (v:=pt (aD b1) 0) hg2))) ?_
 refine sgq 22 (B:=(!(!r_2))) rfl rfl (uF_ 18) (fun hg3=>(ym (.slice B2 start.length c3))) ?_
 obtain ⟨r_3,hc1,hF⟩:=bI hF
 refine sgc 23 (B:=(!(!r_2))) (v:=.bool r_3) (F:=hS4.fn) rfl rfl (uF_ 18) hS4 (fun hg4=>(yC [.agg V11.toArray,vi c1.Qubits,.slice B2 start.length c3] K148 (CV.mono (c_spec_l23Placement g c1.Qubits start B c g.Edges.length B2 c3 start.length _ rfl rfl hq (hS4.inn0 [(true,0),(true,2)] rfl) (gb_inv hc1 hg4)) (by rintro _ _ ⟨rfl,h⟩; exact ⟨rfl,hS4.out00 h⟩)) rfl (mc (gv_of (v:=.agg V11.toArray) hg4) (mc (gv_of (v:=vi c1.Qubits) hg4) (mc (gv_of (v:=.slice B2 start.length c3) hg4) mn))))) ?_
 rintro w_4 hS5
 refine sgq 24 (B:=(!(!r_2))) (v:=.bool (!r_3)) rfl rfl (uF_ 18) (fun hg5=>(Y_not (p:=r_3) rfl (gv_of (v:=.bool r_3) hg5))) ?_
 refine sQ 25 (Y_or (b:=(!r_2)) (z:=(!r_3)) rfl rfl rfl rfl) (rn ?_)
 refine cw_cond (b:=((!r_2)||(!r_3))) rfl (fun hb=>?_) (fun hb=>?_)
 ·skip
  have hF1:=ct hF hb
  refine cq (cr ?_)
  refine sQ 26 (Y_buildS (zs:=V10) (vs:=[]) (cs:=V10) K70 K35 rfl mpn rfl) ?_
  refine s0 (yT 2 2 (aD b2) 36 (.agg V10.toArray) V10 0 hS5 K13) ?_
  rintro _ w_5 ⟨rfl,hS6⟩
  refine sQ 7 (yg (.bool false)) (rn (ct_ ?_))
  have hS7:=hS6.addNil 3
  have hS8:=hS7.addNil 60
  obtain ⟨rfl,rfl⟩:=pr2 (sI hF1)
  exact ret2 Try.results24 (v1:=.agg V10.toArray) (resAt_cellA (B:=aD b2) (i:=0) (cs:=V10) (vs:=V10) rfl K32 K13 (hS8.c 2) rfl rfl) (v2:=.bool false) (resAt_tmp rfl) ⟨none,0,none,0,rfl,(hS8.sN [3,4])⟩
 ·skip
  have hF2:=cf' hF hb
  refine cw_skip (cq (cr ?_))
  refine sQ 27 (ym (.slice B2 start.length c3)) ?_
  obtain ⟨r_4,hc2,hF2⟩:=bI hF2
  refine sc 28 rfl rfl (yC [.slice B2 start.length c3] K77 (c_spec_l1Own start B2 c3 start.length _ rfl (hS5.inn0 [(true,2)] rfl) hc2)) ?_
  rintro _ w_6 ⟨B5,c6,rfl,hd1⟩
  have hS9:=hS5.out0 hd1
  let V16:List Value:=[.slice B5 r_4.length c6,.slice none 0 0]
  refine sQ 29 (Y_buildS (zs:=V10) (vs:=[(0,.slice B5 r_4.length c6)]) (cs:=V16) K70 K35 rfl (mpc rfl mpn) rfl) ?_
  refine sS 8 (yN V10 2 hS9 K35) ?_
  rintro _ w_7 ⟨b3,rfl,hS10⟩
  refine s0 (yT 4 2 (aD b3) 36 (.agg V16.toArray) V16 0 hS10 K13) ?_
  rintro _ w_8 ⟨rfl,hS11⟩
  refine rn (cq (cr ?_))
  refine sQ 30 (ym (.slice B2 start.length c3))<|sQ 9 (yg (.slice B2 start.length c3)) (rn (cq (cq (cr ?_))))
  refine sQ 31 (yd (aD b1) 0 0 K19 K16)<|sQ 32 (yl (aD b1) 1 V13 (.slice B1 c1.Gates.length c2) K21 (hS11.c 1))<|sQ 33 (Y_len (B:=B1) (m:=c1.Gates.length) (c:=c2) K12 rfl rfl)<|sQ 34 (ym (vi 0)) (rn ?_)
  obtain ⟨hN,hF2⟩:=chk_inv hF2
  obtain ⟨z,hz,hF3⟩:=bI hF2
  have hS13:=hS11.addNil 60
  let O0:Ob:=⟨aD b,25,V11,2⟩
  let O1:Ob:=⟨aD b2,36,V10,2⟩
  let O2:Ob:=⟨B5,3,(r_4.flatMap encI),c6*1⟩
  let R6:Ro:=⟨B2,(start.flatMap encI)⟩
  let R7:Ro:=⟨B1,(c1.Gates.flatMap eN2)⟩
  let R8:Ro:=⟨B,(g.Edges.flatMap eN1)⟩
  have hS14:ST w0 [] _ [O0,⟨aD b1,28,V13,2⟩,O1,O2,⟨aD b3,36,V16,2⟩,⟨none,60,([].flatMap eN0),0*3⟩] [R6,R8,R7,R6]:=hS13.sT [2,0,1,2]
  refine cw_block ?_
  refine cw_loop (fun k f w=>∃ (i:Nat) (Steps:List TRouteStep) (place:List Int) (B6:Option Addr) (c7:Nat) (B7:Option Addr) (c8:Nat),FF f [(3,pt (aD b) 0),(6,pt (aD b2) 0),(8,pt (aD b3) 0),(9,.slice B7 place.length c8),(32,.slice B1 c1.Gates.length c2),(33,vi (c1.Gates.length:Int)),(34,vi (i:Int))]∧Org w0 [] [R8,R7,R6] [⟨B7,(place.flatMap encI)⟩]∧place.length≤c8∧ST w0 [] w [O0,O1,⟨aD b3,36,[.slice B5 r_4.length c6,.slice B6 Steps.length c7],2⟩,O2,⟨B6,60,(Steps.flatMap eN0),c7*3⟩] [⟨B7,(place.flatMap encI)⟩,R8,R7,R6]∧i+k=c1.Gates.length∧forX (F_spec_GreedyRoute_l1 c1 g) k i (Steps,place)=some z) c1.Gates.length ⟨0,[],start,none,0,B2,c3,(fc rfl (fc rfl (fc rfl (fc rfl (fc rfl (fc rfl (fc rfl fn_))))))),(org_mem (i:=2) rfl),(len_le rfl hq),(hS14.sel [0,2,4,3,5] rfl rfl),Nat.zero_add _,hz⟩ ?_
  rintro k_ f w ⟨i,Steps,place,B6,c7,B7,c8,hf,ho,hq1,hS12,hik,hL⟩
  refine cq (cr ?_)
  refine sQ 35 (yL (i:Int) (c1.Gates.length:Int) rfl (hf.g 34 6) (hf.g 33 5)) (rn (cq ?_))
  refine cw_cond (b:=(decide ((i:Int)<(c1.Gates.length:Int)))) rfl (fun hlt=>?_) (fun hlt=>?_)
  ·skip
   have hlt1:i<c1.Gates.length:=by have h:=of_decide_eq_true hlt; omega
   obtain ⟨K4,rfl⟩:∃ k2,k_=k2+1:=⟨k_-1,by omega⟩
   obtain ⟨y,hb1,hL1⟩:=forX_go hL
   unfold F_spec_GreedyRoute_l1 at hb1
   refine cw_skip (cq (cw_block (cq (cr ?_))))
   refine sQ 36 (ym (vi (i:Int)) rfl (hf.g 34 6)) ?_
   obtain ⟨x,hx,hb1⟩:=bI hb1
   let V14:List Value:=[vi x.Kind,vi x.A,vi x.B]
   refine sQ 37 (Y_index (B:=B1) (m:=c1.Gates.length) (c:=c2) (k:=.i64) (i:=(i:Int)) K12 K6 rfl (hf.g 32 4) (hf.g 34 6) (gi_isSome eN9 rfl (hS12.rf (i:=2) rfl) hx) (getI_nn hx) (getI_ltI hx rfl))<|sQ 38 (ya B1 ((i:Int).toNat*3) (c1.Gates.flatMap eN2) V14 K34 K6 (hS12.rf (i:=2) rfl) rfl rfl (eN9 x) (gi_seg eN9 hx)) ?_
   refine sS 11 (yN [vi 0,vi 0,vi 0] 3 hS12 K38) ?_
   rintro _ w_9 ⟨b4,rfl,hS15⟩
   refine sQ 10 (yg (vi (i:Int))) ?_
   refine s0 (yT 5 3 (aD b4) 56 (.agg V14.toArray) V14 0 hS15 K6) ?_
   rintro _ w_10 ⟨rfl,hS16⟩
   refine rn (cq ?_)
   obtain ⟨z1,hz1,hF4⟩:=bI hb1
   let R9:Ro:=⟨B7,(place.flatMap encI)⟩
   refine cw_mid (fun f w=>∃ (Steps1:List TRouteStep) (place1:List Int) (B8:Option Addr) (c9:Nat) (B9:Option Addr) (c10:Nat),.inl (Steps1,place1)=z1∧FF f [(3,pt (aD b) 0),(6,pt (aD b2) 0),(8,pt (aD b3) 0),(9,.slice B9 place1.length c10),(10,vi (i:Int)),(32,.slice B1 c1.Gates.length c2),(33,vi (c1.Gates.length:Int)),(34,vi (i:Int))]∧Org w0 [] [R8,R7,R6] [⟨B9,(place1.flatMap encI)⟩]∧place1.length≤c10∧ST w0 [] w [O0,O1,⟨aD b3,36,[.slice B5 r_4.length c6,.slice B8 Steps1.length c9],2⟩,O2,⟨B8,60,(Steps1.flatMap eN0),c9*3⟩] [⟨B9,(place1.flatMap encI)⟩,R9,R8,R7,R6]) ?_ ?_
   ·skip
    refine cq (cr ?_)
    refine sQ 39 (yb (aD b) 0 V11 K5 K3 (hS16.c 0) rfl (hf.g 3 0))<|sQ 40 (ym (.slice B7 place.length c8) rfl (hf.g 9 3))<|sQ 41 (yb (aD b4) 0 V14 K34 K6 (hS16.c 5)) ?_
    obtain ⟨r_5,hc3,hz1⟩:=bI hz1
    refine sc 42 rfl rfl (yC [.agg V11.toArray,.slice B7 place.length c8,.agg V14.toArray] K145 (c_spec_l23Near g place x B c g.Edges.length B7 c8 place.length _ rfl rfl (hS16.inn0 [(true,1),(true,0)] rfl) hc3)) ?_
    rintro _ w_11 ⟨rfl,hd2⟩
    have hS18:=hS16.out00 hd2
    refine sQ 43 (Y_not (p:=r_5) rfl rfl) (rn ?_)
    refine cw_cond (b:=(!r_5)) rfl (fun hb2=>?_) (fun hb2=>?_)
    ·skip
     have hF5:=ct hz1 hb2
     refine cq ?_
     obtain ⟨x1,hx1,hF5⟩:=bI hF5
     obtain ⟨x2,hx2,hF5⟩:=bI hF5
     obtain ⟨r_6,hc4,hF5⟩:=bI hF5
     refine ra_start (hS18.se [0,1,2,3,4,5]).fn (by kernel_rfl) ?_
     have hS20:=hS18.drew
     refine rq 0 44 (v:=.agg V11.toArray) rfl (hS20.se [0,1,2,3,4,5]) (fun w' hw'=>(yb (aD b) 0 V11 K5 K3 (ST.cf hw' (i:=0) rfl) rfl (hf.g 3 0))) ?_
     refine rq 1 45 rfl (hS20.se [0,1,2,3,4,5]) (fun w' hw'=>(ym (.slice B7 place.length c8) rfl (hf.g 9 3))) ?_
     refine rq 2 46 (v:=pt (aD b4) 1) rfl (hS20.se [0,1,2,3,4,5]) (fun w' hw'=>(yd (aD b4) 0 0 K44 K0)) ?_
     refine rq 3 47 rfl (hS20.se [0,1,2,3,4,5]) (fun w' hw'=>(yl (aD b4) 1 V14 (vi x.A) K1 (ST.cf hw' (i:=5) rfl))) ?_
     refine rq 4 48 (v:=pt B7 (x.A.toNat*1)) rfl (hS20.se [0,1,2,3,4,5]) (fun w' hw'=>(Y_index (B:=B7) (m:=place.length) (c:=c8) (k:=.i64) (i:=x.A) K2 K0 rfl rfl rfl (gi_isSome encI_len rfl (ST.rf hw' (i:=0) rfl) hx1) (getI_nn hx1) (getI_ltI hx1 rfl))) ?_
     refine rq 5 49 rfl (hS20.se [0,1,2,3,4,5]) (fun w' hw'=>(yl B7 (x.A.toNat*1) (place.flatMap encI) (vi x1) K1 (ST.rf hw' (i:=0) rfl) rfl rfl (gi_at0 encI_len hx1 rfl))) ?_
     refine rq 6 50 rfl (hS20.se [0,1,2,3,4,5]) (fun w' hw'=>(ym (.slice B7 place.length c8) rfl (hf.g 9 3))) ?_
     refine rq 7 51 (v:=pt (aD b4) 2) rfl (hS20.se [0,1,2,3,4,5]) (fun w' hw'=>(yd (aD b4) 0 0 K52 K0)) ?_
     refine rq 8 52 rfl (hS20.se [0,1,2,3,4,5]) (fun w' hw'=>(yl (aD b4) 2 V14 (vi x.B) K1 (ST.cf hw' (i:=5) rfl))) ?_
     refine rq 9 53 (v:=pt B7 (x.B.toNat*1)) rfl (hS20.se [0,1,2,3,4,5]) (fun w' hw'=>(Y_index (B:=B7) (m:=place.length) (c:=c8) (k:=.i64) (i:=x.B) K2 K0 rfl rfl rfl (gi_isSome encI_len rfl (ST.rf hw' (i:=0) rfl) hx2) (getI_nn hx2) (getI_ltI hx2 rfl))) ?_
     refine rq 10 54 rfl (hS20.se [0,1,2,3,4,5]) (fun w' hw'=>(yl B7 (x.B.toNat*1) (place.flatMap encI) (vi x2) K1 (ST.rf hw' (i:=0) rfl) rfl rfl (gi_at0 encI_len hx2 rfl))) ?_
     refine rA [11] ?_
     refine rC 55 11 rfl (yC [.agg V11.toArray,vi x1,vi x2] k_call_57 (c_spec_l22Path g x1 x2 B c g.Edges.length _ rfl (hS20.inn0 [(true,1)] rfl) hc4)) ?_ aN
     rintro _ w_12 ⟨B10,c11,rfl,hd3⟩
     have hS21:=hS20.out0 hd3
     refine ⟨(hS21.se [0,1,2,3,4,5]),?_⟩
     refine rq 12 12 rfl (hS21.se [0,1,2,3,4,5]) (fun w' hw'=>(yg (.slice B10 r_6.length c11))) ?_
     refine ra_done (by kernel_rfl) ?_
     refine cq (cq (cr ?_))
     refine sQ 56 (ym (.slice B10 r_6.length c11))<|sQ 57 (Y_len (B:=B10) (m:=r_6.length) (c:=c11) K2 rfl rfl)<|sQ 58 (yE (r_6.length:Int) 0) (rn ?_)
     refine cw_cond (b:=((r_6.length:Int)==0)) rfl (fun hb3=>?_) (fun hb3=>?_)
     ·skip
      have hF6:=ct hF5 hb3
      refine cq (cr ?_)
      refine sQ 59 (Y_buildS (zs:=V10) (vs:=[]) (cs:=V10) K70 K35 rfl mpn rfl) ?_
      refine s0 (yT 1 2 (aD b2) 36 (.agg V10.toArray) V10 0 hS21 K13 rfl (hf.g 6 1)) ?_
      rintro _ w_13 ⟨rfl,hS22⟩
      refine sQ 7 (yg (.bool false)) (rn (ct_ ?_))
      have hS23:=hS22.addNil 3
      have hS24:=hS23.addNil 60
      obtain rfl:=sI hF6
      obtain rfl:=sI hF4
      obtain rfl:=sI hL1
      obtain ⟨rfl,rfl⟩:=pr2 (sI hF3)
      exact ret2 Try.results24 (v1:=.agg V10.toArray) (resAt_cellA (B:=aD b2) (i:=0) (cs:=V10) (vs:=V10) (hf.g 6 1) K32 K13 (hS24.c 1) rfl rfl) (v2:=.bool false) (resAt_tmp rfl) ⟨none,0,none,0,rfl,(hS24.sN [7,8])⟩
     ·skip
      have hF7:=cf' hF5 hb3
      refine cw_skip (cq (cr ?_))
      refine sQ 13 (yg (vi 0)) (rn ?_)
      obtain ⟨z2,hz2,hF8⟩:=bI hF7
      let O5:Ob:=⟨B10,3,(r_6.flatMap encI),c11*1⟩
      have hS26:ST w0 [] _ [O0,O1,⟨aD b3,36,[.slice B5 r_4.length c6,.slice B6 Steps.length c7],2⟩,O2,⟨B6,60,(Steps.flatMap eN0),c7*3⟩,⟨aD b4,56,V14,3⟩,O5] [R9,R9,R8,R7,R6]:=hS21.sT [0,0,1,2,3]
      refine cw_block ?_
      refine cw_loop (fun k f w=>∃ (Steps2:List TRouteStep) (place2:List Int) (i1:Int) (B11:Option Addr) (c12:Nat) (B12:Option Addr) (c13:Nat),FF f [(3,pt (aD b) 0),(6,pt (aD b2) 0),(8,pt (aD b3) 0),(9,.slice B12 place2.length c13),(10,vi (i:Int)),(12,.slice B10 r_6.length c11),(13,vi i1),(32,.slice B1 c1.Gates.length c2),(33,vi (c1.Gates.length:Int)),(34,vi (i:Int))]∧Org w0 [] [R8,R7,R6] [⟨B12,(place2.flatMap encI)⟩]∧place2.length≤c13∧ST w0 [] w [O0,O1,⟨aD b3,36,[.slice B5 r_4.length c6,.slice B11 Steps2.length c12],2⟩,O2,⟨B11,60,(Steps2.flatMap eN0),c12*3⟩,O5] [⟨B12,(place2.flatMap encI)⟩,R9,R8,R7,R6]∧whX (F_spec_GreedyRoute_l2 r_6) k (Steps2,place2,i1)=some z2) fuel ⟨Steps,place,0,B6,c7,B7,c8,(hf.a 3 0 (hf.a 6 1 (hf.a 8 2 (hf.a 9 3 (fc rfl (fc rfl (fc rfl (hf.a 32 4 (hf.a 33 5 (hf.a 34 6 fn_)))))))))),ho,(len_le rfl hq1),(hS26.sel [0,1,2,3,4,6] rfl rfl),hz2⟩ ?_
      rintro K10 f w ⟨Steps2,place2,i1,B11,c12,B12,c13,hf2,ho2,hq3,hS25,hL2⟩
      obtain ⟨K18,y1,rfl,hb4,hL3⟩:=whX_go hL2
      unfold F_spec_GreedyRoute_l2 at hb4
      refine cq (cq (cr ?_))
      refine sQ 60 (ym (vi i1) rfl (hf2.g 13 6))<|sQ 61 (yP i1 2)<|sQ 62 (ym (.slice B10 r_6.length c11) rfl (hf2.g 12 5))<|sQ 63 (Y_len (B:=B10) (m:=r_6.length) (c:=c11) K2 rfl rfl)<|sQ 64 (yL (i64.wrap (i1+2)) (r_6.length:Int)) (rn ?_)
      refine cw_cond (b:=(decide ((i64.wrap (i1+2))<(r_6.length:Int)))) rfl (fun hb5=>?_) (fun hb5=>?_)
      ·skip
       have hF9:=ct hb4 hb5
       refine cw_skip (cq (cw_block (cq ?_)))
       obtain ⟨x3,hx3,hF9⟩:=bI hF9
       obtain ⟨x4,hx4,hF9⟩:=bI hF9
       obtain ⟨hap,hF9⟩:=chk_inv hF9
       refine cw_mid (fun f w=>∃ (B14:Option Addr) (c15:Nat),FF f [(3,pt (aD b) 0),(6,pt (aD b2) 0),(8,pt (aD b3) 0),(9,.slice B12 place2.length c13),(10,vi (i:Int)),(12,.slice B10 r_6.length c11),(13,vi i1),(32,.slice B1 c1.Gates.length c2),(33,vi (c1.Gates.length:Int)),(34,vi (i:Int))]∧ST w0 [] w [O0,O1,⟨aD b3,36,[.slice B5 r_4.length c6,.slice B14 ((Steps2++[(TRouteStep.mk (-1) x3 x4)]).length) c15],2⟩,O2,⟨B14,60,((Steps2++[(TRouteStep.mk (-1) x3 x4)]).flatMap eN0),c15*3⟩,O5] [⟨B12,(place2.flatMap encI)⟩,R9,R8,R7,R6]) ?_ ?_
       ·skip
        refine ra_start (hS25.se [0,1,3,5]).fn (by kernel_rfl) ?_
        have hS28:=hS25.drew
        refine rq 0 67 (v:=pt (aD b3) 1) rfl (hS28.se [0,1,3,5]) (fun w' hw'=>(yd (aD b3) 0 0 K29 K15 rfl (hf2.g 8 2))) ?_
        refine rq 2 69 rfl (hS28.se [0,1,3,5]) (fun w' hw'=>(ym (.slice B10 r_6.length c11) rfl (hf2.g 12 5))) ?_
        refine rq 3 70 rfl (hS28.se [0,1,3,5]) (fun w' hw'=>(ym (vi i1) rfl (hf2.g 13 6))) ?_
        refine rq 4 71 (v:=pt B10 (i1.toNat*1)) rfl (hS28.se [0,1,3,5]) (fun w' hw'=>(Y_index (B:=B10) (m:=r_6.length) (c:=c11) (k:=.i64) (i:=i1) K2 K0 rfl rfl rfl (gi_isSome encI_len rfl (ST.cf hw' (i:=3) rfl) hx3) (getI_nn hx3) (getI_ltI hx3 rfl))) ?_
        refine rq 5 72 rfl (hS28.se [0,1,3,5]) (fun w' hw'=>(yl B10 (i1.toNat*1) (r_6.flatMap encI) (vi x3) K1 (ST.cf hw' (i:=3) rfl) rfl rfl (gi_at0 encI_len hx3 rfl))) ?_
        refine rq 6 73 rfl (hS28.se [0,1,3,5]) (fun w' hw'=>(ym (.slice B10 r_6.length c11) rfl (hf2.g 12 5))) ?_
        refine rq 7 74 rfl (hS28.se [0,1,3,5]) (fun w' hw'=>(ym (vi i1) rfl (hf2.g 13 6))) ?_
        refine rq 8 75 rfl (hS28.se [0,1,3,5]) (fun w' hw'=>(yP i1 1)) ?_
        refine rq 9 76 (v:=pt B10 ((i64.wrap (i1+1)).toNat*1)) rfl (hS28.se [0,1,3,5]) (fun w' hw'=>(Y_index (B:=B10) (m:=r_6.length) (c:=c11) (k:=.i64) (i:=(i64.wrap (i1+1))) K2 K0 rfl rfl rfl (gi_isSome encI_len rfl (ST.cf hw' (i:=3) rfl) hx4) (getI_nn hx4) (getI_ltI hx4 rfl))) ?_
        refine rq 10 77 rfl (hS28.se [0,1,3,5]) (fun w' hw'=>(yl B10 ((i64.wrap (i1+1)).toNat*1) (r_6.flatMap encI) (vi x4) K1 (ST.cf hw' (i:=3) rfl) rfl rfl (gi_at0 encI_len hx4 rfl))) ?_
        let V17:List Value:=[vi (-1),vi x3,vi x4]
        refine rq 11 78 (v:=.agg V17.toArray) rfl (hS28.se [0,1,3,5]) (fun w' hw'=>(Y_buildS (zs:=[vi 0,vi 0,vi 0]) (vs:=[(0,vi (-1)),(1,vi x3),(2,vi x4)]) (cs:=V17) K82 K23 rfl (mpc rfl (mpc rfl (mpc rfl mpn))) rfl)) ?_
        refine rA [1,12] ?_
        refine ra_y 68 (i:=1) (v:=.slice B11 Steps2.length c12) rfl rfl rfl (yl (aD b3) 1 [.slice B5 r_4.length c6,.slice B11 Steps2.length c12] (.slice B11 Steps2.length c12) K31 (hS28.c 2)) (hS28.se [0,1,3,5]) ?_ ?_
        ·skip
         refine rA [12] ?_
         refine rS 79 12 rfl (Ys_bslice (s:=3) (len:=1) (vs:=[(0,.agg V17.toArray)]) (cs:=V17) (zs:=[vi 0,vi 0,vi 0]) (m:=3) hS28 K9 K8 K50 rfl (mpc rfl mpn) rfl rfl rfl (by kernel_rfl) (by kernel_rfl) rfl) ?_ aN
         rintro _ w_14 ⟨b5,rfl,hS29⟩
         refine ⟨(hS29.se [0,1,3,5]),?_⟩
         refine rA [13] ?_
         refine rS 80 13 rfl (Ys_append (s:=3) (by':=24) (i:=4) (nn:=Steps2.length) (c:=c12) (k:=1) (len:=(Steps2++[(TRouteStep.mk (-1) x3 x4)]).length) (B:=B11) (xs:=([(TRouteStep.mk (-1) x3 x4)].flatMap eN0)) (cs':=((Steps2++[(TRouteStep.mk (-1) x3 x4)]).flatMap eN0)) hS29 K9 K8 K41 K23 rfl (by decide) rfl rfl rfl rfl (fm_lenn (l:=Steps2) eN8 rfl) rfl (hS29.c 6) (fm_lenn (l:=[(TRouteStep.mk (-1) x3 x4)]) eN8 rfl) (fm_one' (enc:=eN0) enc_RouteStep_one [(TRouteStep.mk (-1) x3 x4)]) (by have:=hap; omega) (by have:=hap; simp only [maxLen]; omega) (fm_app _ _) (app_len (l:=Steps2) (l':=[(TRouteStep.mk (-1) x3 x4)]) rfl rfl)) ?_ aN
         rintro _ w_15 ⟨B13,c14,rfl,hS30⟩
         refine ⟨(hS30.se [0,1,3,5]),?_⟩
         refine rq 14 81 (v:=pt (aD b3) 1) rfl (hS30.se [0,1,3,5]) (fun w' hw'=>(yd (aD b3) 0 0 K29 K15 rfl (hf2.g 8 2))) ?_
         refine rA [15] ?_
         refine rZ 15 rfl (yS 2 1 (aD b3) 36 (.slice B13 ((Steps2++[(TRouteStep.mk (-1) x3 x4)]).length) c14) [.slice B13 ((Steps2++[(TRouteStep.mk (-1) x3 x4)]).length) c14] 1 [.slice B5 r_4.length c6,.slice B13 ((Steps2++[(TRouteStep.mk (-1) x3 x4)]).length) c14] hS30 K15) ?_ aN
         rintro _ w_16 ⟨rfl,hS31⟩
         refine ⟨(hS31.se [0,1,3,5]),?_⟩
         refine ra_done (by kernel_rfl) ?_
         exact ⟨B13,c14,(hf2.a 3 0 (hf2.a 6 1 (hf2.a 8 2 (hf2.a 9 3 (hf2.a 10 4 (hf2.a 12 5 (hf2.a 13 6 (hf2.a 32 7 (hf2.a 33 8 (hf2.a 34 9 fn_)))))))))),(hS31.sel [0,1,2,3,4,5] rfl rfl)⟩
        refine rS 79 12 rfl (Ys_bslice (s:=3) (len:=1) (vs:=[(0,.agg V17.toArray)]) (cs:=V17) (zs:=[vi 0,vi 0,vi 0]) (m:=3) hS28 K9 K8 K50 rfl (mpc rfl mpn) rfl rfl rfl (by kernel_rfl) (by kernel_rfl) rfl) ?_ aN
        rintro _ w_17 ⟨b5,rfl,hS32⟩
        refine ⟨(hS32.se [0,1,3,5]),?_⟩
        refine rA [1] ?_
        refine ra_y 68 (i:=1) (v:=.slice B11 Steps2.length c12) rfl rfl rfl (yl (aD b3) 1 [.slice B5 r_4.length c6,.slice B11 Steps2.length c12] (.slice B11 Steps2.length c12) K31 (hS32.c 2)) (hS32.se [0,1,3,5]) ?_ aN
        refine rA [13] ?_
        refine rS 80 13 rfl (Ys_append (s:=3) (by':=24) (i:=4) (nn:=Steps2.length) (c:=c12) (k:=1) (len:=(Steps2++[(TRouteStep.mk (-1) x3 x4)]).length) (B:=B11) (xs:=([(TRouteStep.mk (-1) x3 x4)].flatMap eN0)) (cs':=((Steps2++[(TRouteStep.mk (-1) x3 x4)]).flatMap eN0)) hS32 K9 K8 K41 K23 rfl (by decide) rfl rfl rfl rfl (fm_lenn (l:=Steps2) eN8 rfl) rfl (hS32.c 6) (fm_lenn (l:=[(TRouteStep.mk (-1) x3 x4)]) eN8 rfl) (fm_one' (enc:=eN0) enc_RouteStep_one [(TRouteStep.mk (-1) x3 x4)]) (by have:=hap; omega) (by have:=hap; simp only [maxLen]; omega) (fm_app _ _) (app_len (l:=Steps2) (l':=[(TRouteStep.mk (-1) x3 x4)]) rfl rfl)) ?_ aN
        rintro _ w_18 ⟨B13,c14,rfl,hS33⟩
        refine ⟨(hS33.se [0,1,3,5]),?_⟩
        refine rq 14 81 (v:=pt (aD b3) 1) rfl (hS33.se [0,1,3,5]) (fun w' hw'=>(yd (aD b3) 0 0 K29 K15 rfl (hf2.g 8 2))) ?_
        refine rA [15] ?_
        refine rZ 15 rfl (yS 2 1 (aD b3) 36 (.slice B13 ((Steps2++[(TRouteStep.mk (-1) x3 x4)]).length) c14) [.slice B13 ((Steps2++[(TRouteStep.mk (-1) x3 x4)]).length) c14] 1 [.slice B5 r_4.length c6,.slice B13 ((Steps2++[(TRouteStep.mk (-1) x3 x4)]).length) c14] hS33 K15) ?_ aN
        rintro _ w_19 ⟨rfl,hS34⟩
        refine ⟨(hS34.se [0,1,3,5]),?_⟩
        refine ra_done (by kernel_rfl) ?_
        exact ⟨B13,c14,(hf2.a 3 0 (hf2.a 6 1 (hf2.a 8 2 (hf2.a 9 3 (hf2.a 10 4 (hf2.a 12 5 (hf2.a 13 6 (hf2.a 32 7 (hf2.a 33 8 (hf2.a 34 9 fn_)))))))))),(hS34.sel [0,1,2,3,4,5] rfl rfl)⟩
       rintro f w ⟨B14,c15,hf3,hS27⟩
       obtain ⟨x5,hx5,hF9⟩:=bI hF9
       obtain ⟨x6,hx6,hF9⟩:=bI hF9
       obtain ⟨r_7,hc5,hF9⟩:=bI hF9
       refine ra_start (hS27.se [0,1,2,3,4,5]).fn (by kernel_rfl) ?_
       have hS36:=hS27.drew
       refine rq 0 82 rfl (hS36.se [0,1,2,3,4,5]) (fun w' hw'=>(ym (.slice B12 place2.length c13) rfl (hf3.g 9 3))) ?_
       refine rq 1 83 rfl (hS36.se [0,1,2,3,4,5]) (fun w' hw'=>(ym (.slice B10 r_6.length c11) rfl (hf3.g 12 5))) ?_
       refine rq 2 84 rfl (hS36.se [0,1,2,3,4,5]) (fun w' hw'=>(ym (vi i1) rfl (hf3.g 13 6))) ?_
       refine rq 3 85 (v:=pt B10 (i1.toNat*1)) rfl (hS36.se [0,1,2,3,4,5]) (fun w' hw'=>(Y_index (B:=B10) (m:=r_6.length) (c:=c11) (k:=.i64) (i:=i1) K2 K0 rfl rfl rfl (gi_isSome encI_len rfl (ST.cf hw' (i:=5) rfl) hx5) (getI_nn hx5) (getI_ltI hx5 rfl))) ?_
       refine rq 4 86 rfl (hS36.se [0,1,2,3,4,5]) (fun w' hw'=>(yl B10 (i1.toNat*1) (r_6.flatMap encI) (vi x5) K1 (ST.cf hw' (i:=5) rfl) rfl rfl (gi_at0 encI_len hx5 rfl))) ?_
       refine rq 5 87 rfl (hS36.se [0,1,2,3,4,5]) (fun w' hw'=>(ym (.slice B10 r_6.length c11) rfl (hf3.g 12 5))) ?_
       refine rq 6 88 rfl (hS36.se [0,1,2,3,4,5]) (fun w' hw'=>(ym (vi i1) rfl (hf3.g 13 6))) ?_
       refine rq 7 89 rfl (hS36.se [0,1,2,3,4,5]) (fun w' hw'=>(yP i1 1)) ?_
       refine rq 8 90 (v:=pt B10 ((i64.wrap (i1+1)).toNat*1)) rfl (hS36.se [0,1,2,3,4,5]) (fun w' hw'=>(Y_index (B:=B10) (m:=r_6.length) (c:=c11) (k:=.i64) (i:=(i64.wrap (i1+1))) K2 K0 rfl rfl rfl (gi_isSome encI_len rfl (ST.cf hw' (i:=5) rfl) hx6) (getI_nn hx6) (getI_ltI hx6 rfl))) ?_
       refine rq 9 91 rfl (hS36.se [0,1,2,3,4,5]) (fun w' hw'=>(yl B10 ((i64.wrap (i1+1)).toNat*1) (r_6.flatMap encI) (vi x6) K1 (ST.cf hw' (i:=5) rfl) rfl rfl (gi_at0 encI_len hx6 rfl))) ?_
       refine rA [10] ?_
       refine rC 92 10 rfl (yC [.slice B12 place2.length c13,vi x5,vi x6] K99 (c_spec_l23Swap place2 x5 x6 B12 c13 place2.length _ rfl (hS36.inn0 [(true,0)] rfl) hc5)) ?_ aN
       rintro _ w_20 ⟨B15,c16,rfl,hd4⟩
       have hS37:=hS36.out0 hd4
       refine ⟨(hS37.se [0,1,2,3,4,5]),?_⟩
       refine rq 11 9 rfl (hS37.se [0,1,2,3,4,5]) (fun w' hw'=>(yg (.slice B15 r_7.length c16))) ?_
       refine ra_done (by kernel_rfl) ?_
       refine cr ?_
       refine sQ 65 (ym (vi i1) rfl (hf3.g 13 6))<|sQ 66 (yP i1 1)<|sQ 13 (yg (vi (i64.wrap (i1+1)))) (rn ?_)
       obtain rfl:=sI hF9
       have ho3:Org w0 [] [R8,R7,R6] [⟨B15,(r_7.flatMap encI)⟩]:=ST.orgOwn hS37 (i:=6) rfl
       have hcap:r_7.length≤c16:=(hS37.lencap (i:=6) rfl (fm_lenn (l:=r_7) encI_len rfl) rfl rfl)
       let O3:Ob:=⟨aD b3,36,[.slice B5 r_4.length c6,.slice B14 ((Steps2++[(TRouteStep.mk (-1) x3 x4)]).length) c15],2⟩
       let O4:Ob:=⟨B14,60,((Steps2++[(TRouteStep.mk (-1) x3 x4)]).flatMap eN0),c15*3⟩
       have hS38:ST w0 [] _ [O0,O1,O3,O2,O4,O5] [⟨B15,(r_7.flatMap encI)⟩,⟨B12,(place2.flatMap encI)⟩,R9,R8,R7,R6]:=hS37.freeze (i:=6) rfl
       have hS39:ST w0 [] _ [O0,O1,O3,O2,O4,O5] [⟨B15,(r_7.flatMap encI)⟩,R9,R8,R7,R6]:=hS38.sT [0,2,3,4,5]
       exact ⟨K18,Nat.lt_succ_self _,(Steps2++[(TRouteStep.mk (-1) x3 x4)]),r_7,(i64.wrap (i1+1)),B14,c15,B15,c16,(hf3.a 3 0 (hf3.a 6 1 (hf3.a 8 2 (fc rfl (hf3.a 10 4 (hf3.a 12 5 (fc rfl (hf3.a 32 7 (hf3.a 33 8 (hf3.a 34 9 fn_)))))))))),ho3,(len_le rfl hcap),(hS39.sel [0,1,2,3,4,5] rfl rfl),hL3⟩
      ·skip
       have hF10:=cf' hb4 hb5
       refine cw_exit rfl ?_
       obtain rfl:=sI hF10
       obtain rfl:=sI hL3
       exact ⟨Steps2,place2,B11,c12,B12,c13,(sI hF8),(hf2.a 3 0 (hf2.a 6 1 (hf2.a 8 2 (hf2.a 9 3 (hf2.a 10 4 (hf2.a 32 7 (hf2.a 33 8 (hf2.a 34 9 fn_)))))))),ho2,(len_le rfl hq3),(hS25.sel [0,1,2,3,4] rfl rfl)⟩
    ·skip
     have hF11:=cf' hz1 hb2
     refine cw_skip ?_
     have hS40:ST w0 [] _ [O0,O1,⟨aD b3,36,[.slice B5 r_4.length c6,.slice B6 Steps.length c7],2⟩,O2,⟨B6,60,(Steps.flatMap eN0),c7*3⟩,⟨aD b4,56,V14,3⟩] [R9,R9,R8,R7,R6]:=hS18.sT [0,0,1,2,3]
     exact ⟨Steps,place,B6,c7,B7,c8,(sI hF11),(hf.a 3 0 (hf.a 6 1 (hf.a 8 2 (hf.a 9 3 (fc rfl (hf.a 32 4 (hf.a 33 5 (hf.a 34 6 fn_)))))))),ho,(len_le rfl hq1),(hS40.sel [0,1,2,3,4] rfl rfl)⟩
   rintro f w ⟨Steps1,place1,B8,c9,B9,c10,rfl,hf1,ho1,hq2,hS17⟩
   refine cr ?_
   refine sQ 93 (yd (aD b3) 0 0 K29 K15 rfl (hf1.g 8 2))<|sQ 94 (yl (aD b3) 1 [.slice B5 r_4.length c6,.slice B8 Steps1.length c9] (.slice B8 Steps1.length c9) K31 (hS17.c 2))<|sQ 95 (ym (vi (i:Int)) rfl (hf1.g 10 4))<|sQ 96 (Y_buildS (zs:=[vi 0,vi 0,vi 0]) (vs:=[(0,vi (i:Int))]) (cs:=[vi (i:Int),vi 0,vi 0]) K82 K23 rfl (mpc rfl mpn) rfl) ?_
   refine sS 97 (Ys_bslice (s:=3) (len:=1) (vs:=[(0,.agg #[vi (i:Int),vi 0,vi 0])]) (cs:=[vi (i:Int),vi 0,vi 0]) (zs:=[vi 0,vi 0,vi 0]) (m:=3) hS17 K9 K8 K50 rfl (mpc rfl mpn) rfl rfl rfl (by kernel_rfl) (by kernel_rfl) rfl) ?_
   rintro _ w_21 ⟨b6,rfl,hS41⟩
   obtain ⟨hap1,hF4⟩:=chk_inv hF4
   refine sS 98 (Ys_append (s:=3) (by':=24) (i:=4) (nn:=Steps1.length) (c:=c9) (k:=1) (len:=(Steps1++[(TRouteStep.mk (i:Int) 0 0)]).length) (B:=B8) (xs:=([(TRouteStep.mk (i:Int) 0 0)].flatMap eN0)) (cs':=((Steps1++[(TRouteStep.mk (i:Int) 0 0)]).flatMap eN0)) hS41 K9 K8 K41 K23 rfl (by decide) rfl rfl rfl rfl (fm_lenn (l:=Steps1) eN8 rfl) rfl (hS41.c 5) (fm_lenn (l:=[(TRouteStep.mk (i:Int) 0 0)]) eN8 rfl) (fm_one' (enc:=eN0) enc_RouteStep_one [(TRouteStep.mk (i:Int) 0 0)]) (by have:=hap1; omega) (by have:=hap1; simp only [maxLen]; omega) (fm_app _ _) (app_len (l:=Steps1) (l':=[(TRouteStep.mk (i:Int) 0 0)]) rfl rfl)) ?_
   rintro _ w_22 ⟨B16,c17,rfl,hS42⟩
   refine sQ 99 (yd (aD b3) 0 0 K29 K15 rfl (hf1.g 8 2)) ?_
   let V15:List Value:=[.slice B5 r_4.length c6,.slice B16 ((Steps1++[(TRouteStep.mk (i:Int) 0 0)]).length) c17]
   refine s0 (yS 2 1 (aD b3) 36 (.slice B16 ((Steps1++[(TRouteStep.mk (i:Int) 0 0)]).length) c17) [.slice B16 ((Steps1++[(TRouteStep.mk (i:Int) 0 0)]).length) c17] 1 V15 hS42 K15) ?_
   rintro _ w_23 ⟨rfl,hS43⟩
   refine rn (cr ?_)
   refine sQ 100 (yP (i:Int) 1 rfl (hf1.g 34 7))<|sQ 34 (ym (vi (i64.wrap ((i:Int)+1)))) (rn ?_)
   obtain rfl:=sI hF4
   have hS44:ST w0 [] _ [O0,O1,⟨aD b3,36,V15,2⟩,O2,⟨B16,60,((Steps1++[(TRouteStep.mk (i:Int) 0 0)]).flatMap eN0),c17*3⟩,⟨aD b6,60,([(TRouteStep.mk (i:Int) 0 0)].flatMap eN0),1*3⟩] [⟨B9,(place1.flatMap encI)⟩,R8,R7,R6]:=hS43.sT [0,2,3,4]
   exact ⟨K4,Nat.lt_succ_self _,i+1,(Steps1++[(TRouteStep.mk (i:Int) 0 0)]),place1,B16,c17,B9,c10,(hf1.a 3 0 (hf1.a 6 1 (hf1.a 8 2 (hf1.a 9 3 (hf1.a 32 5 (hf1.a 33 6 (fc (congrArg (Value.int .i64) (wr_succ hlt1 hN)) fn_))))))),ho1,(len_le rfl hq2),(hS44.sel [0,1,2,3,4] rfl rfl),(by omega),hL1⟩
  ·skip
   obtain rfl:k_=0:=by have h:=of_decide_eq_false hlt; omega
   refine cw_exit rfl ?_
   obtain rfl:=sI hL
   refine cq (cr ?_)
   let V12:List Value:=[.slice B5 r_4.length c6,.slice B6 Steps.length c7]
   refine sQ 101 (yb (aD b3) 0 V12 K32 K13 (hS12.c 2) rfl (hf.g 8 2)) ?_
   refine s0 (yT 1 2 (aD b2) 36 (.agg V12.toArray) V12 0 hS12 K13 rfl (hf.g 6 1)) ?_
   rintro _ w_24 ⟨rfl,hS45⟩
   refine sQ 7 (yg (.bool true)) (rn (ct_ ?_))
   obtain ⟨rfl,rfl⟩:=pr2 (sI hF3)
   exact ret2 Try.results24 (v1:=.agg V12.toArray) (resAt_cellA (B:=aD b2) (i:=0) (cs:=V12) (vs:=V12) (hf.g 6 1) K32 K13 (hS45.c 1) rfl rfl) (v2:=.bool true) (resAt_tmp rfl) ⟨B5,c6,B6,c7,rfl,(hS45.sN [3,4])⟩

theorem c_spec_DrawCheckRoute (code:List Int) (B:Option Addr) (c n:Nat) (w0:World) (hn:code.length=n) (hS:ST w0 [] w0 [] [⟨B,(code.flatMap enc_u8)⟩]) {r_:TCouplingGraph} {r_1:TCircuit} {r_2:TRoute} (hF:F_spec_DrawCheckRoute code=some (r_,r_1,r_2)) :
  CV Try.prog 7 #[.slice B n c] w0 (fun v w'=>∃ (B1:Option Addr) (c1:Nat) (B2:Option Addr) (c2:Nat) (B3:Option Addr) (c3:Nat) (B4:Option Addr) (c4:Nat),v=.tuple #[.agg #[vi r_.Nodes,.slice B1 r_.Edges.length c1],.agg #[vi r_1.Qubits,.slice B2 r_1.Gates.length c2],.agg #[.slice B3 r_2.Start.length c3,.slice B4 r_2.Steps.length c4]]∧r_2.Start.length≤c3∧r_2.Steps.length≤c4∧Org w0 [] [⟨B,(code.flatMap enc_u8)⟩] [⟨B3,(r_2.Start.flatMap encI)⟩,⟨B4,(r_2.Steps.flatMap eN0)⟩]∧ST w0 [] w' [⟨B1,87,(r_.Edges.flatMap eN1),c1*2⟩,⟨B2,56,(r_1.Gates.flatMap eN2),c2*3⟩] [⟨B3,(r_2.Start.flatMap encI)⟩,⟨B4,(r_2.Steps.flatMap eN0)⟩]):=by
 subst hn
 unfold F_spec_DrawCheckRoute at hF
 refine cv_of_cw 128 Try.func7 rfl Try.ntmps7 rfl ?_
 refine cq (cr ?_)
 refine sS 2 (yN [vi 0,.slice none 0 0] 2 hS K48) ?_
 rintro _ w_ ⟨b,rfl,hS1⟩
 refine sS 3 (yN [vi 0,.slice none 0 0] 2 hS1 K62) ?_
 rintro _ w_1 ⟨b1,rfl,hS2⟩
 refine sS 4 (yN [.slice none 0 0,.slice none 0 0] 2 hS2 K35) ?_
 rintro _ w_2 ⟨b2,rfl,hS3⟩
 refine rn (cq (cr ?_))
 refine sQ 16 (ym (.slice B code.length c))<|sQ 17 (Y_buildS (zs:=[.slice none 0 0,vi 0,.int .u64 0]) (vs:=[(0,.slice B code.length c)]) (cs:=[.slice B code.length c,vi 0,.int .u64 0]) k_pl_51 k_zero_51 rfl (mpc rfl mpn) rfl) ?_
 refine sS 18 (yB 51 (.agg #[.slice B code.length c,vi 0,.int .u64 0]) [.slice B code.length c,vi 0,.int .u64 0] 3 hS3) ?_
 rintro _ w_3 ⟨b3,rfl,hS4⟩
 refine sQ 5 (yg (pt (aD b3) 0)) (rn (cq (cr ?_)))
 refine sQ 20 (ym (pt (aD b3) 0)) ?_
 obtain ⟨⟨r_3,r_4,r_5,m⟩,hc,hF⟩:=bI hF
 refine sc 21 rfl rfl (yC [pt (aD b3) 0] k_call_20 (c_spec_l1Cur_routed (Tl1Cur.mk code 0 0) (aD b3) B c code.length _ rfl (hS4.inn [false,false,false,true] rfl [(true,0)] rfl) hc)) ?_
 rintro _ w_4 ⟨B5,c5,B6,c6,B7,c7,rfl,hq,ho,hd⟩
 have hS5:=ST.outR hS4 [false,false,false,true] rfl hd ho (sk 0 (fun _ h=>by cases h))
 let R24:Ro:=⟨B,(code.flatMap enc_u8)⟩
 let R26:Ro:=⟨B7,(r_5.flatMap encI)⟩
 have ho1:Org w0 [] [R24] [R26]:=org_trans hS4 (msk_mem (mask:=[false,false,false,true]) rfl) ho (org_cons (org_mem (i:=0) rfl) org_nil)
 let O2:Ob:=⟨aD b2,36,[.slice none 0 0,.slice none 0 0],2⟩
 let O3:Ob:=⟨B5,87,(r_3.Edges.flatMap eN1),c5*2⟩
 let O4:Ob:=⟨B6,56,(r_4.Gates.flatMap eN2),c6*3⟩
 let O5:Ob:=⟨aD b1,28,[vi 0,.slice none 0 0],2⟩
 let O6:Ob:=⟨aD b,25,[vi 0,.slice none 0 0],2⟩
 have hS6:ST w0 [] _ [O6,O5,O2,⟨aD b3,51,[.slice B code.length c,vi m.at_,.int .u64 m.seed],3⟩,O3,O4] [R26,R24]:=hS5
 refine sQ 19 (ym (.tuple #[.agg #[vi r_3.Nodes,.slice B5 r_3.Edges.length c5],.agg #[vi r_4.Qubits,.slice B6 r_4.Gates.length c6],.slice B7 r_5.length c7]))<|sQ 22 (ye (.agg #[vi r_3.Nodes,.slice B5 r_3.Edges.length c5]))<|sQ 23 (ye (.agg #[vi r_4.Qubits,.slice B6 r_4.Gates.length c6]))<|sQ 24 (ye (.slice B7 r_5.length c7)) ?_
 refine sS 6 (yN [vi 0,.slice none 0 0] 2 hS6 K48) ?_
 rintro _ w_5 ⟨b4,rfl,hS7⟩
 refine sS 7 (yN [vi 0,.slice none 0 0] 2 hS7 K62) ?_
 rintro _ w_6 ⟨b5,rfl,hS8⟩
 refine s0 (yT 6 2 (aD b4) 25 (.agg #[vi r_3.Nodes,.slice B5 r_3.Edges.length c5]) [vi r_3.Nodes,.slice B5 r_3.Edges.length c5] 0 hS8 K3) ?_
 rintro _ w_7 ⟨rfl,hS9⟩
 refine s0 (yT 7 2 (aD b5) 28 (.agg #[vi r_4.Qubits,.slice B6 r_4.Gates.length c6]) [vi r_4.Qubits,.slice B6 r_4.Gates.length c6] 0 hS9 K7) ?_
 rintro _ w_8 ⟨rfl,hS10⟩
 refine sQ 8 (yg (.slice B7 r_5.length c7)) (rn (cq (cr ?_)))
 refine sQ 26 (yb (aD b4) 0 [vi r_3.Nodes,.slice B5 r_3.Edges.length c5] K5 K3 (hS10.c 6))<|sQ 27 (yb (aD b5) 0 [vi r_4.Qubits,.slice B6 r_4.Gates.length c6] K14 K7 (hS10.c 7))<|sQ 28 (ym (.slice B7 r_5.length c7)) ?_
 obtain ⟨⟨r_6,r_7⟩,hc1,hF⟩:=bI hF
 refine sc 29 rfl rfl (yC [.agg #[vi r_3.Nodes,.slice B5 r_3.Edges.length c5],.agg #[vi r_4.Qubits,.slice B6 r_4.Gates.length c6],.slice B7 r_5.length c7] k_call_24 (c_spec_GreedyRoute r_3 r_4 r_5 B5 c5 r_3.Edges.length B6 c6 r_4.Gates.length B7 c7 r_5.length _ rfl rfl rfl hq (hS10.inn0 [(false,4),(false,5),(true,0)] rfl) hc1)) ?_
 rintro _ w_9 ⟨B8,c8,B9,c9,rfl,hd1⟩
 have hS11:=hS10.out0 hd1
 refine sQ 25 (ym (.tuple #[.agg #[.slice B8 r_6.Start.length c8,.slice B9 r_6.Steps.length c9],.bool r_7]))<|sQ 30 (ye (.agg #[.slice B8 r_6.Start.length c8,.slice B9 r_6.Steps.length c9]))<|sQ 31 (ye (.bool r_7)) ?_
 refine sS 9 (yN [.slice none 0 0,.slice none 0 0] 2 hS11 K35) ?_
 rintro _ w_10 ⟨b6,rfl,hS12⟩
 refine s0 (yT 10 2 (aD b6) 36 (.agg #[.slice B8 r_6.Start.length c8,.slice B9 r_6.Steps.length c9]) [.slice B8 r_6.Start.length c8,.slice B9 r_6.Steps.length c9] 0 hS12 K13) ?_
 rintro _ w_11 ⟨rfl,hS13⟩
 refine sQ 10 (yg (.bool r_7)) (rn (cq ?_))
 obtain ⟨z,hz,hF1⟩:=bI hF
 let O0:Ob:=⟨aD b5,28,[vi r_4.Qubits,.slice B6 r_4.Gates.length c6],2⟩
 let O1:Ob:=⟨aD b4,25,[vi r_3.Nodes,.slice B5 r_3.Edges.length c5],2⟩
 refine cw_mid (fun f w=>∃ (at_:Int) (seed:Int) (Start:List Int) (Steps:List TRouteStep) (B10:Option Addr) (c10:Nat) (B11:Option Addr) (c11:Nat),(at_,seed,Start,Steps)=z∧FF f [(2,pt (aD b) 0),(3,pt (aD b1) 0),(4,pt (aD b2) 0),(5,pt (aD b3) 0),(6,pt (aD b4) 0),(7,pt (aD b5) 0),(8,.slice B7 r_5.length c7),(9,pt (aD b6) 0),(10,.bool r_7)]∧ST w0 [] w [O6,O5,O2,⟨aD b3,51,[.slice B code.length c,vi at_,.int .u64 seed],3⟩,O1,O3,O0,O4,⟨aD b6,36,[.slice B10 Start.length c10,.slice B11 Steps.length c11],2⟩,⟨B10,3,(Start.flatMap encI),c10*1⟩,⟨B11,60,(Steps.flatMap eN0),c11*3⟩] [R26,R24]) ?_ ?_
 ·skip
  refine cq (cr ?_)
  refine sQ 32 (ym (pt (aD b3) 0)) ?_
  obtain ⟨⟨r_8,m1⟩,hc2,hz⟩:=bI hz
  refine sc 33 rfl rfl (yC [pt (aD b3) 0,vi 3] K101 (c_spec_l1Cur_one (Tl1Cur.mk code m.at_ m.seed) 3 (aD b3) B c code.length _ rfl (hS13.inn [false,false,false,true,false,false,false,false,false,false,false] rfl [(true,1)] rfl) hc2)) ?_
  rintro _ w_12 ⟨rfl,hd2⟩
  have hS15:=hS13.out [false,false,false,true,false,false,false,false,false,false,false] rfl hd2
  refine rn ?_
  refine cw_cond (b:=r_8) rfl (fun hb=>?_) (fun hb=>?_)
  ·skip
   have hF2:=ct hz hb
   refine cq (cr ?_)
   refine sQ 35 (yb (aD b4) 0 [vi r_3.Nodes,.slice B5 r_3.Edges.length c5] K5 K3 (hS15.c 5))<|sQ 36 (yb (aD b5) 0 [vi r_4.Qubits,.slice B6 r_4.Gates.length c6] K14 K7 (hS15.c 6))<|sQ 37 (ym (.slice B7 r_5.length c7)) ?_
   obtain ⟨⟨r_9,r_10⟩,hc3,hF2⟩:=bI hF2
   refine sc 38 rfl rfl (yC [.agg #[vi r_3.Nodes,.slice B5 r_3.Edges.length c5],.agg #[vi r_4.Qubits,.slice B6 r_4.Gates.length c6],.slice B7 r_5.length c7] k_call_23 (c_spec_RouteFrom r_3 r_4 r_5 B5 c5 r_3.Edges.length B6 c6 r_4.Gates.length B7 c7 r_5.length _ rfl rfl rfl hq (hS15.inn0 [(false,3),(false,4),(true,0)] rfl) hc3)) ?_
   rintro _ w_13 ⟨B12,c12,B13,c13,rfl,hd3⟩
   have hS16:=hS15.out0 hd3
   refine sQ 34 (ym (.tuple #[.agg #[.slice B12 r_9.Start.length c12,.slice B13 r_9.Steps.length c13],.bool r_10]))<|sQ 39 (ye (.agg #[.slice B12 r_9.Start.length c12,.slice B13 r_9.Steps.length c13]))<|sQ 40 (ye (.bool r_10)) ?_
   refine sS 11 (yN [.slice none 0 0,.slice none 0 0] 2 hS16 K35) ?_
   rintro _ w_14 ⟨b7,rfl,hS17⟩
   refine s0 (yT 13 2 (aD b7) 36 (.agg #[.slice B12 r_9.Start.length c12,.slice B13 r_9.Steps.length c13]) [.slice B12 r_9.Start.length c12,.slice B13 r_9.Steps.length c13] 0 hS17 K13) ?_
   rintro _ w_15 ⟨rfl,hS18⟩
   refine sQ 12 (yg (.bool r_10)) (rn (cq (cr ?_)))
   refine sQ 41 (ym (.bool r_10)) (rn ?_)
   refine cw_cond (b:=r_10) rfl (fun hb1=>?_) (fun hb1=>?_)
   ·skip
    have hF3:=ct hF2 hb1
    refine cr ?_
    refine sQ 42 (yb (aD b7) 0 [.slice B12 r_9.Start.length c12,.slice B13 r_9.Steps.length c13] K32 K13 (hS18.c 13)) ?_
    refine s0 (yT 9 2 (aD b6) 36 (.agg #[.slice B12 r_9.Start.length c12,.slice B13 r_9.Steps.length c13]) [.slice B12 r_9.Start.length c12,.slice B13 r_9.Steps.length c13] 0 hS18 K13) ?_
    rintro _ w_16 ⟨rfl,hS19⟩
    refine rn ?_
    exact ⟨m1.at_,m1.seed,r_9.Start,r_9.Steps,B12,c12,B13,c13,(sI hF3),(fc rfl (fc rfl (fc rfl (fc rfl (fc rfl (fc rfl (fc rfl (fc rfl (fc rfl fn_))))))))),(hS19.sel [0,1,2,10,5,3,6,4,9,11,12] rfl rfl)⟩
   ·skip
    have hF4:=cf' hF2 hb1
    refine cw_skip ?_
    exact ⟨m1.at_,m1.seed,r_6.Start,r_6.Steps,B8,c8,B9,c9,(sI hF4),(fc rfl (fc rfl (fc rfl (fc rfl (fc rfl (fc rfl (fc rfl (fc rfl (fc rfl fn_))))))))),(hS18.sel [0,1,2,10,5,3,6,4,9,7,8] rfl rfl)⟩
  ·skip
   have hF5:=cf' hz hb
   refine cw_skip ?_
   exact ⟨m1.at_,m1.seed,r_6.Start,r_6.Steps,B8,c8,B9,c9,(sI hF5),(fc rfl (fc rfl (fc rfl (fc rfl (fc rfl (fc rfl (fc rfl (fc rfl (fc rfl fn_))))))))),(hS15.sel [0,1,2,10,5,3,6,4,9,7,8] rfl rfl)⟩
 rintro f w ⟨at_,seed,Start,Steps,B10,c10,B11,c11,rfl,hf,hS14⟩
 refine cq ?_
 obtain ⟨z1,hz1,hF6⟩:=bI hF1
 let O11:Ob:=⟨aD b3,51,[.slice B code.length c,vi at_,.int .u64 seed],3⟩
 let O14:Ob:=⟨B11,60,(Steps.flatMap eN0),c11*3⟩
 refine cw_mid (fun f w=>∃ (Start1:List Int) (B14:Option Addr) (c14:Nat),Start1=z1∧FF f [(2,pt (aD b) 0),(3,pt (aD b1) 0),(4,pt (aD b2) 0),(5,pt (aD b3) 0),(6,pt (aD b4) 0),(7,pt (aD b5) 0),(9,pt (aD b6) 0)]∧Org w0 [] [R24] [⟨B14,(Start1.flatMap encI)⟩]∧Start1.length≤c14∧ST w0 [] w [O6,O5,O2,O11,O1,O3,O0,O4,⟨aD b6,36,[.slice B14 Start1.length c14,.slice B11 Steps.length c11],2⟩,O14] [⟨B14,(Start1.flatMap encI)⟩,R26,R24]) ?_ ?_
 ·skip
  refine cq (cr ?_)
  refine sQ 43 (ym (.bool r_7) rfl (hf.g 10 8))<|sQ 44 (Y_not (p:=r_7) rfl rfl) (rn ?_)
  refine cw_cond (b:=(!r_7)) rfl (fun hb2=>?_) (fun hb2=>?_)
  ·skip
   have hF7:=ct hz1 hb2
   refine cr ?_
   refine sQ 45 (ym (.slice B7 r_5.length c7) rfl (hf.g 8 6))<|sQ 46 (yd (aD b6) 0 0 K66 K11 rfl (hf.g 9 7)) ?_
   refine s0 (yS 8 1 (aD b6) 36 (.slice B7 r_5.length c7) [.slice B7 r_5.length c7] 0 [.slice B7 r_5.length c7,.slice B11 Steps.length c11] hS14 K11) ?_
   rintro _ w_17 ⟨rfl,hS21⟩
   refine rn ?_
   have hS22:ST w0 [] _ [O6,O5,O2,O11,O1,O3,O0,O4,⟨aD b6,36,[.slice B7 r_5.length c7,.slice B11 Steps.length c11],2⟩,⟨B10,3,(Start.flatMap encI),c10*1⟩,O14] [R26,R26,R24]:=hS21.sT [0,0,1]
   exact ⟨r_5,B7,c7,(sI hF7),(hf.a 2 0 (hf.a 3 1 (hf.a 4 2 (hf.a 5 3 (hf.a 6 4 (hf.a 7 5 (hf.a 9 7 fn_))))))),(org_sub ho1 (sk 0 (fun _ h=>by cases h))),(len_le rfl hq),(hS22.sel [0,1,2,3,4,5,6,7,8,10] rfl rfl)⟩
  ·skip
   have hF8:=cf' hz1 hb2
   refine cw_skip ?_
   have ho3:Org w0 [] [R24] [⟨B10,(Start.flatMap encI)⟩]:=ST.orgOwn hS14 (i:=9) rfl
   have hcap:Start.length≤c10:=(hS14.lencap (i:=9) rfl (fm_lenn (l:=Start) encI_len rfl) rfl rfl)
   have hS23:ST w0 [] _ [O6,O5,O2,O11,O1,O3,O0,O4,⟨aD b6,36,[.slice B10 Start.length c10,.slice B11 Steps.length c11],2⟩,O14] [⟨B10,(Start.flatMap encI)⟩,R26,R24]:=hS14.freeze (i:=9) rfl
   exact ⟨Start,B10,c10,(sI hF8),(hf.a 2 0 (hf.a 3 1 (hf.a 4 2 (hf.a 5 3 (hf.a 6 4 (hf.a 7 5 (hf.a 9 7 fn_))))))),ho3,(len_le rfl hcap),(hS23.sel [0,1,2,3,4,5,6,7,8,9] rfl rfl)⟩
 rintro f w ⟨Start1,B14,c14,rfl,hf1,ho2,hq1,hS20⟩
 refine cq ?_
 obtain ⟨z2,hz2,hF9⟩:=bI hF6
 let R25:Ro:=⟨B14,(Start1.flatMap encI)⟩
 refine cw_mid (fun f w=>∃ (Start2:List Int) (Steps1:List TRouteStep) (B15:Option Addr) (c15:Nat),(Start2,Steps1)=z2∧FF f [(2,pt (aD b) 0),(3,pt (aD b1) 0),(4,pt (aD b2) 0),(6,pt (aD b4) 0),(7,pt (aD b5) 0),(9,pt (aD b6) 0)]∧Org w0 [] [R24] [⟨B15,(Start2.flatMap encI)⟩]∧Start2.length≤c15∧Org w0 [] [R24] [⟨B11,(Steps1.flatMap eN0)⟩]∧Steps1.length≤c11∧ST w0 [] w [O6,O5,O2,O1,O3,O0,O4,⟨aD b6,36,[.slice B15 Start2.length c15,.slice B11 Steps1.length c11],2⟩] [⟨B11,(Steps1.flatMap eN0)⟩,⟨B15,(Start2.flatMap encI)⟩,R25,R26,R24]) ?_ ?_
 ·skip
  refine cq (cr ?_)
  refine sQ 47 (yd (aD b6) 0 0 K29 K15 rfl (hf1.g 9 6))<|sQ 48 (yl (aD b6) 1 [.slice B14 Start1.length c14,.slice B11 Steps.length c11] (.slice B11 Steps.length c11) K31 (hS20.c 8))<|sQ 49 (Y_len (B:=B11) (m:=Steps.length) (c:=c11) K9 rfl rfl)<|sQ 13 (yg (vi (Steps.length:Int))) (rn (cq (cr ?_)))
  refine sQ 50 (ym (vi (Steps.length:Int)))<|sQ 51 (Y_gt (k:=.i64) (a:=(Steps.length:Int)) (b:=0) rfl rfl rfl) (rn ?_)
  refine cw_cond (b:=(decide (0<(Steps.length:Int)))) rfl (fun hb3=>?_) (fun hb3=>?_)
  ·skip
   have hF10:=ct hz2 hb3
   refine cq (cr ?_)
   refine sQ 52 (ym (pt (aD b3) 0) rfl (hf1.g 5 3)) ?_
   obtain ⟨⟨r_11,m2⟩,hc4,hF10⟩:=bI hF10
   refine sc 53 rfl rfl (yC [pt (aD b3) 0,vi 8] K17 (c_spec_l1Cur_pick (Tl1Cur.mk code at_ seed) 8 (aD b3) B c code.length _ rfl (hS20.inn [false,false,false,true,false,false,false,false,false,false] rfl [(true,2)] rfl) hc4)) ?_
   rintro _ w_18 ⟨rfl,hd4⟩
   have hS25:=hS20.out [false,false,false,true,false,false,false,false,false,false] rfl hd4
   refine rn (cw_block (cq (cr ?_)))
   refine sQ 55 (yE r_11 0)<|sQ 54 (yg (.bool (r_11==0))) (rn ?_)
   refine cw_cond (b:=(r_11==0)) rfl (fun hb4=>?_) (fun hb4=>?_)
   ·skip
    have hF11:=ct hF10 hb4
    obtain ⟨⟨r_12,m3⟩,hc5,hF11⟩:=bI hF11
    obtain ⟨hsl,hF11⟩:=chk_inv hF11
    have hcap1:Steps.length≤c11:=(hS25.lencap (i:=8) rfl (fm_lenn (l:=Steps) eN8 rfl) rfl rfl)
    let R27:Ro:=⟨B11,(Steps.flatMap eN0)⟩
    have ho8:Org w0 [] [R24] [R27]:=ST.orgOwn hS25 (i:=8) rfl
    have hcap3:Steps.length≤c11:=(hS25.lencap (i:=8) rfl (fm_lenn (l:=Steps) eN8 rfl) rfl rfl)
    let O7:Ob:=⟨aD b6,36,[.slice B14 Start1.length c14,.slice B11 Steps.length c11],2⟩
    let O10:Ob:=⟨aD b3,51,[.slice B code.length c,vi m2.at_,.int .u64 m2.seed],3⟩
    have hS29:ST w0 [] _ [O6,O5,O2,O1,O3,O0,O4,O7,O10] [R27,R25,R26,R24]:=hS25.freeze (i:=8) rfl
    have hv:(List.take r_12.toNat Steps).length=r_12.toNat:=(take_len rfl (by omega))
    have hq4:r_12.toNat≤c11:=by omega
    let R30:Ro:=⟨B11,((List.take r_12.toNat Steps).flatMap eN0)⟩
    have ho6:Org w0 [] [R24] [R30]:=org_view eN8 (q:=c11) ho8 (sv_zero _ _ _).symm rfl
    have hS30:ST w0 [] _ [O6,O5,O2,O1,O3,O0,O4,O7,O10] [R30,R27,R25,R26,R24]:=ST.view eN8 hS29 (i:=0) rfl (lo:=0) (h:=r_12.toNat) (q:=c11) (by omega) (by omega) (sv_zero _ _ _).symm rfl
    let O18:Ob:=⟨aD b6,36,[.slice B14 Start1.length c14,.slice B11 r_12.toNat c11],2⟩
    refine cw_mid (fun f w=>FF f [(2,pt (aD b) 0),(3,pt (aD b1) 0),(4,pt (aD b2) 0),(6,pt (aD b4) 0),(7,pt (aD b5) 0),(9,pt (aD b6) 0)]∧ST w0 [] w [O6,O5,O2,O1,O3,O0,O4,O18] [R30,R27,R25,R26,R24]) ?_ ?_
    ·skip
     refine ra_start (hS30.se [0,1,2,3,4,5,6]).fn (by kernel_rfl) ?_
     have hS32:=hS30.drew
     refine rq 0 56 (v:=pt (aD b6) 1) rfl (hS32.se [0,1,2,3,4,5,6]) (fun w' hw'=>(yd (aD b6) 0 0 K29 K15 rfl (hf1.g 9 6))) ?_
     refine rq 2 58 rfl (hS32.se [0,1,2,3,4,5,6]) (fun w' hw'=>(ym (pt (aD b3) 0) rfl (hf1.g 5 3))) ?_
     refine rq 3 59 rfl (hS32.se [0,1,2,3,4,5,6]) (fun w' hw'=>(ym (vi (Steps.length:Int)))) ?_
     refine rA [1,4] ?_
     refine ra_y 57 (i:=1) (v:=.slice B11 Steps.length c11) rfl rfl rfl (yl (aD b6) 1 [.slice B14 Start1.length c14,.slice B11 Steps.length c11] (.slice B11 Steps.length c11) K31 (hS32.c 7)) (hS32.se [0,1,2,3,4,5,6]) ?_ ?_
     ·skip
      refine rA [4] ?_
      refine rC 60 4 rfl (yC [pt (aD b3) 0,vi (Steps.length:Int)] K17 (c_spec_l1Cur_pick (Tl1Cur.mk code m2.at_ m2.seed) (Steps.length:Int) (aD b3) B c code.length _ rfl (hS32.inn [false,false,false,false,false,false,false,false,true] rfl [(true,4)] rfl) hc5)) ?_ aN
      rintro _ w_19 ⟨rfl,hd5⟩
      have hS33:=hS32.out [false,false,false,false,false,false,false,false,true] rfl hd5
      refine ⟨(hS33.se [0,1,2,3,4,5,6]),?_⟩
      refine rq 5 61 (v:=.slice B11 r_12.toNat c11) rfl (hS33.se [0,1,2,3,4,5,6]) (fun w' hw'=>(Y_slice0 (B:=B11) (m:=Steps.length) (c:=c11) (h:=r_12.toNat) (s:=3) K9 K8 rfl rfl (bnd_some rfl (nn_toNat (by omega))) (by omega))) ?_
      refine rq 6 62 (v:=pt (aD b6) 1) rfl (hS33.se [0,1,2,3,4,5,6]) (fun w' hw'=>(yd (aD b6) 0 0 K29 K15 rfl (hf1.g 9 6))) ?_
      refine rA [7] ?_
      refine rZ 7 rfl (yS 7 1 (aD b6) 36 (.slice B11 r_12.toNat c11) [.slice B11 r_12.toNat c11] 1 [.slice B14 Start1.length c14,.slice B11 r_12.toNat c11] hS33 K15) ?_ aN
      rintro _ w_20 ⟨rfl,hS34⟩
      refine ⟨(hS34.se [0,1,2,3,4,5,6]),?_⟩
      refine ra_done (by kernel_rfl) ?_
      exact ⟨(hf1.a 2 0 (hf1.a 3 1 (hf1.a 4 2 (hf1.a 6 4 (hf1.a 7 5 (hf1.a 9 6 fn_)))))),(hS34.sel [0,1,2,3,4,5,6,7] rfl rfl)⟩
     refine rC 60 4 rfl (yC [pt (aD b3) 0,vi (Steps.length:Int)] K17 (c_spec_l1Cur_pick (Tl1Cur.mk code m2.at_ m2.seed) (Steps.length:Int) (aD b3) B c code.length _ rfl (hS32.inn [false,false,false,false,false,false,false,false,true] rfl [(true,4)] rfl) hc5)) ?_ aN
     rintro _ w_21 ⟨rfl,hd6⟩
     have hS35:=hS32.out [false,false,false,false,false,false,false,false,true] rfl hd6
     refine ⟨(hS35.se [0,1,2,3,4,5,6]),?_⟩
     refine rA [1] ?_
     refine ra_y 57 (i:=1) (v:=.slice B11 Steps.length c11) rfl rfl rfl (yl (aD b6) 1 [.slice B14 Start1.length c14,.slice B11 Steps.length c11] (.slice B11 Steps.length c11) K31 (hS35.c 7)) (hS35.se [0,1,2,3,4,5,6]) ?_ aN
     refine rq 5 61 (v:=.slice B11 r_12.toNat c11) rfl (hS35.se [0,1,2,3,4,5,6]) (fun w' hw'=>(Y_slice0 (B:=B11) (m:=Steps.length) (c:=c11) (h:=r_12.toNat) (s:=3) K9 K8 rfl rfl (bnd_some rfl (nn_toNat (by omega))) (by omega))) ?_
     refine rq 6 62 (v:=pt (aD b6) 1) rfl (hS35.se [0,1,2,3,4,5,6]) (fun w' hw'=>(yd (aD b6) 0 0 K29 K15 rfl (hf1.g 9 6))) ?_
     refine rA [7] ?_
     refine rZ 7 rfl (yS 7 1 (aD b6) 36 (.slice B11 r_12.toNat c11) [.slice B11 r_12.toNat c11] 1 [.slice B14 Start1.length c14,.slice B11 r_12.toNat c11] hS35 K15) ?_ aN
     rintro _ w_22 ⟨rfl,hS36⟩
     refine ⟨(hS36.se [0,1,2,3,4,5,6]),?_⟩
     refine ra_done (by kernel_rfl) ?_
     exact ⟨(hf1.a 2 0 (hf1.a 3 1 (hf1.a 4 2 (hf1.a 6 4 (hf1.a 7 5 (hf1.a 9 6 fn_)))))),(hS36.sel [0,1,2,3,4,5,6,7] rfl rfl)⟩
    rintro f w ⟨hf3,hS31⟩
    have hS37:ST w0 [] _ [O6,O5,O2,O1,O3,O0,O4,O18] [R30,R25,R25,R26,R24]:=hS31.sT [0,2,2,3,4]
    exact ⟨Start1,(List.take r_12.toNat Steps),B14,c14,(sI hF11),(hf3.a 2 0 (hf3.a 3 1 (hf3.a 4 2 (hf3.a 6 3 (hf3.a 7 4 (hf3.a 9 5 fn_)))))),ho2,(len_le rfl hq1),ho6,(len_le hv hq4),(by rw [(hv:(List.take r_12.toNat Steps).length=r_12.toNat)]; exact hS37.sel [0,1,2,3,4,5,6,7] rfl rfl)⟩
   ·skip
    have hF12:=cf' hF10 hb4
    refine cq (cr ?_)
    refine sQ 64 (yE r_11 1)<|sQ 63 (yg (.bool (r_11==1))) (rn ?_)
    refine cw_cond (b:=(r_11==1)) rfl (fun hb5=>?_) (fun hb5=>?_)
    ·skip
     have hF13:=ct hF12 hb5
     obtain ⟨⟨r_13,m4⟩,hc6,hF13⟩:=bI hF13
     obtain ⟨⟨r_14,m5⟩,hc7,hF13⟩:=bI hF13
     obtain ⟨⟨r_15,m6⟩,hc8,hF13⟩:=bI hF13
     obtain ⟨⟨r_16,m7⟩,hc9,hF13⟩:=bI hF13
     obtain ⟨x,hx,hF13⟩:=bI hF13
     refine ra_start (hS25.se [0,1,2,3,4,5,6,7]).fn (by kernel_rfl) ?_
     have hS42:=hS25.drew
     refine rq 0 65 (v:=pt (aD b6) 1) rfl (hS42.se [0,1,2,3,4,5,6,7]) (fun w' hw'=>(yd (aD b6) 0 0 K29 K15 rfl (hf1.g 9 6))) ?_
     refine rq 1 66 rfl (hS42.se [0,1,2,3,4,5,6,7]) (fun w' hw'=>(yl (aD b6) 1 [.slice B14 Start1.length c14,.slice B11 Steps.length c11] (.slice B11 Steps.length c11) K31 (ST.cf hw' (i:=7) rfl))) ?_
     refine rq 2 67 rfl (hS42.se [0,1,2,3,4,5,6,7]) (fun w' hw'=>(ym (pt (aD b3) 0) rfl (hf1.g 5 3))) ?_
     refine rq 3 68 rfl (hS42.se [0,1,2,3,4,5,6,7]) (fun w' hw'=>(ym (vi (Steps.length:Int)))) ?_
     refine rq 5 70 rfl (hS42.se [0,1,2,3,4,5,6,7]) (fun w' hw'=>(ym (pt (aD b3) 0) rfl (hf1.g 5 3))) ?_
     refine rq 8 73 rfl (hS42.se [0,1,2,3,4,5,6,7]) (fun w' hw'=>(ym (pt (aD b3) 0) rfl (hf1.g 5 3))) ?_
     refine rq 10 75 rfl (hS42.se [0,1,2,3,4,5,6,7]) (fun w' hw'=>(ym (pt (aD b3) 0) rfl (hf1.g 5 3))) ?_
     refine rA [4] ?_
     refine rC 69 4 rfl (yC [pt (aD b3) 0,vi (Steps.length:Int)] K17 (c_spec_l1Cur_pick (Tl1Cur.mk code m2.at_ m2.seed) (Steps.length:Int) (aD b3) B c code.length _ rfl (hS42.inn [false,false,false,false,false,false,false,false,false,true] rfl [(true,2)] rfl) hc6)) ?_ aN
     rintro _ w_23 ⟨rfl,hd7⟩
     have hS43:=hS42.out [false,false,false,false,false,false,false,false,false,true] rfl hd7
     refine ⟨(hS43.se [0,1,2,3,4,5,6,7]),?_⟩
     refine rA [6] ?_
     refine rC 71 6 rfl (yC [pt (aD b3) 0,vi 10] K17 (c_spec_l1Cur_pick (Tl1Cur.mk code m4.at_ m4.seed) 10 (aD b3) B c code.length _ rfl (hS43.inn [false,false,false,false,false,false,false,false,false,true] rfl [(true,2)] rfl) hc7)) ?_ aN
     rintro _ w_24 ⟨rfl,hd8⟩
     have hS44:=hS43.out [false,false,false,false,false,false,false,false,false,true] rfl hd8
     refine ⟨(hS44.se [0,1,2,3,4,5,6,7]),?_⟩
     refine rq 7 72 rfl (hS44.se [0,1,2,3,4,5,6,7]) (fun w' hw'=>(yM r_14 1)) ?_
     refine rA [9] ?_
     refine rC 74 9 rfl (yC [pt (aD b3) 0,vi 4] K17 (c_spec_l1Cur_pick (Tl1Cur.mk code m5.at_ m5.seed) 4 (aD b3) B c code.length _ rfl (hS44.inn [false,false,false,false,false,false,false,false,false,true] rfl [(true,2)] rfl) hc8)) ?_ aN
     rintro _ w_25 ⟨rfl,hd9⟩
     have hS45:=hS44.out [false,false,false,false,false,false,false,false,false,true] rfl hd9
     refine ⟨(hS45.se [0,1,2,3,4,5,6,7]),?_⟩
     refine rA [11] ?_
     refine rC 76 11 rfl (yC [pt (aD b3) 0,vi 4] K17 (c_spec_l1Cur_pick (Tl1Cur.mk code m6.at_ m6.seed) 4 (aD b3) B c code.length _ rfl (hS45.inn [false,false,false,false,false,false,false,false,false,true] rfl [(true,2)] rfl) hc9)) ?_ aN
     rintro _ w_26 ⟨rfl,hd10⟩
     have hS46:=hS45.out [false,false,false,false,false,false,false,false,false,true] rfl hd10
     refine ⟨(hS46.se [0,1,2,3,4,5,6,7]),?_⟩
     refine rq 12 77 (v:=.agg #[vi (i64.wrap (r_14-1)),vi r_15,vi r_16]) rfl (hS46.se [0,1,2,3,4,5,6,7]) (fun w' hw'=>(Y_buildS (zs:=[vi 0,vi 0,vi 0]) (vs:=[(0,vi (i64.wrap (r_14-1))),(1,vi r_15),(2,vi r_16)]) (cs:=[vi (i64.wrap (r_14-1)),vi r_15,vi r_16]) K82 K23 rfl (mpc rfl (mpc rfl (mpc rfl mpn))) rfl)) ?_
     refine rA [13] ?_
     refine ra_y 78 (i:=13) (v:=pt B11 (r_13.toNat*3)) rfl rfl rfl (Y_index (B:=B11) (m:=Steps.length) (c:=c11) (k:=.i64) (i:=r_13) K9 K8 rfl rfl rfl (gi_isSome eN8 rfl (hS46.c 8) hx) (getI_nn hx) (getI_ltI hx rfl)) (hS46.se [0,1,2,3,4,5,6,7]) ?_ aN
     refine rA [14] ?_
     refine rZ 14 rfl (yS 8 3 B11 60 (.agg #[vi (i64.wrap (r_14-1)),vi r_15,vi r_16]) [vi (i64.wrap (r_14-1)),vi r_15,vi r_16] (r_13.toNat*3) ((Steps.set r_13.toNat (TRouteStep.mk (i64.wrap (r_14-1)) r_15 r_16)).flatMap eN0) hS46 K8 rfl rfl rfl rfl rfl rfl rfl (gi_fit0 eN8 hx) (gi_set eN8 hx (TRouteStep.mk (i64.wrap (r_14-1)) r_15 r_16) rfl)) ?_ aN
     rintro _ w_27 ⟨rfl,hS47⟩
     refine ⟨(hS47.se [0,1,2,3,4,5,6,7]),?_⟩
     refine ra_done (by kernel_rfl) ?_
     let R29:Ro:=⟨B11,((Steps.set r_13.toNat (TRouteStep.mk (i64.wrap (r_14-1)) r_15 r_16)).flatMap eN0)⟩
     have ho9:Org w0 [] [R24] [R29]:=ST.orgOwn hS47 (i:=8) rfl
     have hcap4:Steps.length≤c11:=(hS47.lencap (i:=8) rfl (fm_lenn (l:=(Steps.set r_13.toNat (TRouteStep.mk (i64.wrap (r_14-1)) r_15 r_16))) eN8 (set_len _ _ _ rfl)) rfl rfl)
     let O8:Ob:=⟨aD b6,36,[.slice B14 Start1.length c14,.slice B11 Steps.length c11],2⟩
     let O23:Ob:=⟨aD b3,51,[.slice B code.length c,vi m7.at_,.int .u64 m7.seed],3⟩
     have hS48:ST w0 [] _ [O6,O5,O2,O1,O3,O0,O4,O8,O23] [R29,R25,R26,R24]:=hS47.freeze (i:=8) rfl
     have hS49:ST w0 [] _ [O6,O5,O2,O1,O3,O0,O4,O8,O23] [R29,R25,R25,R26,R24]:=hS48.sT [0,1,1,2,3]
     exact ⟨Start1,(Steps.set r_13.toNat (TRouteStep.mk (i64.wrap (r_14-1)) r_15 r_16)),B14,c14,(sI hF13),(hf1.a 2 0 (hf1.a 3 1 (hf1.a 4 2 (hf1.a 6 4 (hf1.a 7 5 (hf1.a 9 6 fn_)))))),ho2,(len_le rfl hq1),ho9,(len_le (set_len _ _ _ rfl) hcap4),(by rw [((set_len _ _ _ rfl):(Steps.set r_13.toNat (TRouteStep.mk (i64.wrap (r_14-1)) r_15 r_16)).length=Steps.length)]; exact hS49.sel [0,1,2,3,4,5,6,7] rfl rfl)⟩
    ·skip
     have hF14:=cf' hF12 hb5
     refine cq (cr ?_)
     refine sQ 80 (yE r_11 2)<|sQ 79 (yg (.bool (r_11==2))) (rn ?_)
     refine cw_cond (b:=(r_11==2)) rfl (fun hb6=>?_) (fun hb6=>?_)
     ·skip
      have hF15:=ct hF14 hb6
      refine cq (cr ?_)
      refine sQ 81 (ym (pt (aD b3) 0) rfl (hf1.g 5 3))<|sQ 82 (ym (vi (Steps.length:Int))) ?_
      obtain ⟨⟨r_17,m8⟩,hc10,hF15⟩:=bI hF15
      refine sc 83 rfl rfl (yC [pt (aD b3) 0,vi (Steps.length:Int)] K17 (c_spec_l1Cur_pick (Tl1Cur.mk code m2.at_ m2.seed) (Steps.length:Int) (aD b3) B c code.length _ rfl (hS25.inn [false,false,false,false,false,false,false,false,false,true] rfl [(true,2)] rfl) hc10)) ?_
      rintro _ w_28 ⟨rfl,hd11⟩
      have hS50:=hS25.out [false,false,false,false,false,false,false,false,false,true] rfl hd11
      refine sQ 14 (yg (vi r_17)) (rn (cq (cr ?_)))
      refine sQ 84 (yd (aD b6) 0 0 K29 K15 rfl (hf1.g 9 6))<|sQ 85 (yl (aD b6) 1 [.slice B14 Start1.length c14,.slice B11 Steps.length c11] (.slice B11 Steps.length c11) K31 (hS50.c 7))<|sQ 86 (ym (vi r_17)) ?_
      obtain ⟨x1,hx1,hF15⟩:=bI hF15
      refine sQ 87 (Y_index (B:=B11) (m:=Steps.length) (c:=c11) (k:=.i64) (i:=r_17) K9 K8 rfl rfl rfl (gi_isSome eN8 rfl (hS50.c 8) hx1) (getI_nn hx1) (getI_ltI hx1 rfl))<|sQ 88 (ya B11 (r_17.toNat*3) (Steps.flatMap eN0) [vi x1.Gate,vi x1.A,vi x1.B] K88 K8 (hS50.c 8) rfl rfl (eN8 x1) (gi_seg eN8 hx1)) ?_
      refine sS 15 (yN [vi 0,vi 0,vi 0] 3 hS50 K23) ?_
      rintro _ w_29 ⟨b8,rfl,hS51⟩
      refine s0 (yT 10 3 (aD b8) 60 (.agg #[vi x1.Gate,vi x1.A,vi x1.B]) [vi x1.Gate,vi x1.A,vi x1.B] 0 hS51 K8) ?_
      rintro _ w_30 ⟨rfl,hS52⟩
      let O9:Ob:=⟨aD b6,36,[.slice B14 Start1.length c14,.slice B11 Steps.length c11],2⟩
      let O17:Ob:=⟨aD b3,51,[.slice B code.length c,vi m8.at_,.int .u64 m8.seed],3⟩
      let O21:Ob:=⟨aD b8,60,[vi x1.Gate,vi x1.A,vi x1.B],3⟩
      have hS52:ST w0 [] _ [O6,O5,O2,O1,O3,O0,O4,O9,O14,O17,O21] [R25,R26,R24]:=hS52
      refine rn (cq ?_)
      obtain ⟨x2,hx2,hF15⟩:=bI hF15
      refine ra_start (hS52.se [0,1,2,3,4,5,6,7,9,10]).fn (by kernel_rfl) ?_
      have hS53:=hS52.drew
      refine rq 0 89 (v:=pt (aD b6) 1) rfl (hS53.se [0,1,2,3,4,5,6,7,9,10]) (fun w' hw'=>(yd (aD b6) 0 0 K29 K15 rfl (hf1.g 9 6))) ?_
      refine rq 1 90 rfl (hS53.se [0,1,2,3,4,5,6,7,9,10]) (fun w' hw'=>(yl (aD b6) 1 [.slice B14 Start1.length c14,.slice B11 Steps.length c11] (.slice B11 Steps.length c11) K31 (ST.cf hw' (i:=7) rfl))) ?_
      refine rq 2 91 rfl (hS53.se [0,1,2,3,4,5,6,7,9,10]) (fun w' hw'=>(ym (vi r_17))) ?_
      refine rq 3 92 (v:=pt (aD b6) 1) rfl (hS53.se [0,1,2,3,4,5,6,7,9,10]) (fun w' hw'=>(yd (aD b6) 0 0 K29 K15 rfl (hf1.g 9 6))) ?_
      refine rq 4 93 rfl (hS53.se [0,1,2,3,4,5,6,7,9,10]) (fun w' hw'=>(yl (aD b6) 1 [.slice B14 Start1.length c14,.slice B11 Steps.length c11] (.slice B11 Steps.length c11) K31 (ST.cf hw' (i:=7) rfl))) ?_
      refine rq 5 94 rfl (hS53.se [0,1,2,3,4,5,6,7,9,10]) (fun w' hw'=>(ym (vi (Steps.length:Int)))) ?_
      refine rq 6 95 rfl (hS53.se [0,1,2,3,4,5,6,7,9,10]) (fun w' hw'=>(yM (Steps.length:Int) 1)) ?_
      refine rA [7] ?_
      refine ra_y 96 (i:=7) (v:=pt B11 ((i64.wrap ((Steps.length:Int)-1)).toNat*3)) rfl rfl rfl (Y_index (B:=B11) (m:=Steps.length) (c:=c11) (k:=.i64) (i:=(i64.wrap ((Steps.length:Int)-1))) K9 K8 rfl rfl rfl (gi_isSome eN8 rfl (hS53.c 8) hx2) (getI_nn hx2) (getI_ltI hx2 rfl)) (hS53.se [0,1,2,3,4,5,6,7,9,10]) ?_ aN
      refine rA [8] ?_
      refine ra_y 97 (i:=8) (v:=.agg #[vi x2.Gate,vi x2.A,vi x2.B]) rfl rfl rfl (ya B11 ((i64.wrap ((Steps.length:Int)-1)).toNat*3) (Steps.flatMap eN0) [vi x2.Gate,vi x2.A,vi x2.B] K88 K8 (hS53.c 8) rfl rfl (eN8 x2) (gi_seg eN8 hx2)) (hS53.se [0,1,2,3,4,5,6,7,9,10]) ?_ aN
      refine rA [9] ?_
      refine ra_y 98 (i:=9) (v:=pt B11 (r_17.toNat*3)) rfl rfl rfl (Y_index (B:=B11) (m:=Steps.length) (c:=c11) (k:=.i64) (i:=r_17) K9 K8 rfl rfl rfl (gi_isSome eN8 rfl (hS53.c 8) hx1) (getI_nn hx1) (getI_ltI hx1 rfl)) (hS53.se [0,1,2,3,4,5,6,7,9,10]) ?_ aN
      refine rA [10] ?_
      refine rZ 10 rfl (yS 8 3 B11 60 (.agg #[vi x2.Gate,vi x2.A,vi x2.B]) [vi x2.Gate,vi x2.A,vi x2.B] (r_17.toNat*3) ((Steps.set r_17.toNat x2).flatMap eN0) hS53 K8 rfl rfl rfl rfl rfl rfl rfl (gi_fit0 eN8 hx1) (gi_set eN8 hx1 x2 rfl)) ?_ aN
      rintro _ w_31 ⟨rfl,hS54⟩
      refine ⟨(hS54.se [0,1,2,3,4,5,6,7,9,10]),?_⟩
      refine ra_done (by kernel_rfl) ?_
      refine cr ?_
      refine sQ 99 (yd (aD b6) 0 0 K29 K15 rfl (hf1.g 9 6))<|sQ 100 (yl (aD b6) 1 [.slice B14 Start1.length c14,.slice B11 Steps.length c11] (.slice B11 Steps.length c11) K31 (hS54.c 7))<|sQ 101 (ym (vi (Steps.length:Int)))<|sQ 102 (yM (Steps.length:Int) 1)<|sQ 103 (yb (aD b8) 0 [vi x1.Gate,vi x1.A,vi x1.B] K88 K8 (hS54.c 10)) ?_
      obtain ⟨x3,hx3,hF15⟩:=bI hF15
      refine sQ 104 (Y_index (B:=B11) (m:=Steps.length) (c:=c11) (k:=.i64) (i:=(i64.wrap ((Steps.length:Int)-1))) K9 K8 rfl rfl rfl (gi_isSome eN8 rfl (hS54.c 8) hx3) (getI_nn hx3) (getI_ltI hx3 (set_len _ _ _ rfl))) ?_
      refine s0 (yS 8 3 B11 60 (.agg #[vi x1.Gate,vi x1.A,vi x1.B]) [vi x1.Gate,vi x1.A,vi x1.B] ((i64.wrap ((Steps.length:Int)-1)).toNat*3) (((Steps.set r_17.toNat x2).set (i64.wrap ((Steps.length:Int)-1)).toNat x1).flatMap eN0) hS54 K8 rfl rfl rfl rfl rfl rfl rfl (gi_fit0 eN8 hx3) (gi_set eN8 hx3 x1 rfl)) ?_
      rintro _ w_32 ⟨rfl,hS55⟩
      refine rn ?_
      let R28:Ro:=⟨B11,(((Steps.set r_17.toNat x2).set (i64.wrap ((Steps.length:Int)-1)).toNat x1).flatMap eN0)⟩
      have ho10:Org w0 [] [R24] [R28]:=ST.orgOwn hS55 (i:=8) rfl
      have hcap5:Steps.length≤c11:=(hS55.lencap (i:=8) rfl (fm_lenn (l:=((Steps.set r_17.toNat x2).set (i64.wrap ((Steps.length:Int)-1)).toNat x1)) eN8 (set_len _ _ _ (set_len _ _ _ rfl))) rfl rfl)
      have hS56:ST w0 [] _ [O6,O5,O2,O1,O3,O0,O4,O9,O17,O21] [R28,R25,R26,R24]:=hS55.freeze (i:=8) rfl
      have hS57:ST w0 [] _ [O6,O5,O2,O1,O3,O0,O4,O9,O17,O21] [R28,R25,R25,R26,R24]:=hS56.sT [0,1,1,2,3]
      exact ⟨Start1,((Steps.set r_17.toNat x2).set (i64.wrap ((Steps.length:Int)-1)).toNat x1),B14,c14,(sI hF15),(hf1.a 2 0 (hf1.a 3 1 (hf1.a 4 2 (hf1.a 6 4 (hf1.a 7 5 (hf1.a 9 6 fn_)))))),ho2,(len_le rfl hq1),ho10,(len_le (set_len _ _ _ (set_len _ _ _ rfl)) hcap5),(by rw [((set_len _ _ _ (set_len _ _ _ rfl)):((Steps.set r_17.toNat x2).set (i64.wrap ((Steps.length:Int)-1)).toNat x1).length=Steps.length)]; exact hS57.sel [0,1,2,3,4,5,6,7] rfl rfl)⟩
     ·skip
      have hF16:=cf' hF14 hb6
      refine cq (cr ?_)
      refine sQ 106 (yE r_11 3)<|sQ 105 (yg (.bool (r_11==3))) (rn ?_)
      refine cw_cond (b:=(r_11==3)) rfl (fun hb7=>?_) (fun hb7=>?_)
      ·skip
       have hF17:=ct hF16 hb7
       refine cq (cr ?_)
       refine sQ 107 (yd (aD b6) 0 0 K66 K11 rfl (hf1.g 9 6))<|sQ 108 (yl (aD b6) 0 [.slice B14 Start1.length c14,.slice B11 Steps.length c11] (.slice B14 Start1.length c14) K25 (hS25.c 7)) ?_
       obtain ⟨r_18,hc11,hF17⟩:=bI hF17
       refine sc 109 rfl rfl (yC [.slice B14 Start1.length c14] K77 (c_spec_l1Own Start1 B14 c14 Start1.length _ rfl (hS25.inn0 [(true,0)] rfl) hc11)) ?_
       rintro _ w_33 ⟨B16,c16,rfl,hd12⟩
       have hS58:=hS25.out0 hd12
       refine sQ 110 (yd (aD b6) 0 0 K66 K11 rfl (hf1.g 9 6)) ?_
       refine s0 (yS 7 1 (aD b6) 36 (.slice B16 r_18.length c16) [.slice B16 r_18.length c16] 0 [.slice B16 r_18.length c16,.slice B11 Steps.length c11] hS58 K11) ?_
       rintro _ w_34 ⟨rfl,hS59⟩
       refine rn (cq (cr ?_))
       refine sQ 111 (yd (aD b6) 0 0 K66 K11 rfl (hf1.g 9 6))<|sQ 112 (yl (aD b6) 0 [.slice B16 r_18.length c16,.slice B11 Steps.length c11] (.slice B16 r_18.length c16) K25 (hS59.c 7))<|sQ 113 (Y_len (B:=B16) (m:=r_18.length) (c:=c16) K2 rfl rfl)<|sQ 114 (Y_gt (k:=.i64) (a:=(r_18.length:Int)) (b:=0) rfl rfl rfl) (rn ?_)
       refine cw_cond (b:=(decide (0<(r_18.length:Int)))) rfl (fun hb8=>?_) (fun hb8=>?_)
       ·skip
        have hF18:=ct hF17 hb8
        obtain ⟨⟨r_19,m9⟩,hc12,hF18⟩:=bI hF18
        obtain ⟨⟨r_20,m10⟩,hc13,hF18⟩:=bI hF18
        obtain ⟨x4,hx4,hF18⟩:=bI hF18
        refine ra_start (hS59.se [0,1,2,3,4,5,6,7,8]).fn (by kernel_rfl) ?_
        have hS62:=hS59.drew
        refine rq 0 115 (v:=pt (aD b6) 0) rfl (hS62.se [0,1,2,3,4,5,6,7,8]) (fun w' hw'=>(yd (aD b6) 0 0 K66 K11 rfl (hf1.g 9 6))) ?_
        refine rq 1 116 rfl (hS62.se [0,1,2,3,4,5,6,7,8]) (fun w' hw'=>(yl (aD b6) 0 [.slice B16 r_18.length c16,.slice B11 Steps.length c11] (.slice B16 r_18.length c16) K25 (ST.cf hw' (i:=7) rfl))) ?_
        refine rq 2 117 rfl (hS62.se [0,1,2,3,4,5,6,7,8]) (fun w' hw'=>(ym (pt (aD b3) 0) rfl (hf1.g 5 3))) ?_
        refine rq 3 118 (v:=pt (aD b6) 0) rfl (hS62.se [0,1,2,3,4,5,6,7,8]) (fun w' hw'=>(yd (aD b6) 0 0 K66 K11 rfl (hf1.g 9 6))) ?_
        refine rq 4 119 rfl (hS62.se [0,1,2,3,4,5,6,7,8]) (fun w' hw'=>(yl (aD b6) 0 [.slice B16 r_18.length c16,.slice B11 Steps.length c11] (.slice B16 r_18.length c16) K25 (ST.cf hw' (i:=7) rfl))) ?_
        refine rq 5 120 (v:=vi (r_18.length:Int)) rfl (hS62.se [0,1,2,3,4,5,6,7,8]) (fun w' hw'=>(Y_len (B:=B16) (m:=r_18.length) (c:=c16) K2 rfl rfl)) ?_
        refine rq 7 122 rfl (hS62.se [0,1,2,3,4,5,6,7,8]) (fun w' hw'=>(ym (pt (aD b3) 0) rfl (hf1.g 5 3))) ?_
        refine rA [6] ?_
        refine rC 121 6 rfl (yC [pt (aD b3) 0,vi (r_18.length:Int)] K17 (c_spec_l1Cur_pick (Tl1Cur.mk code m2.at_ m2.seed) (r_18.length:Int) (aD b3) B c code.length _ rfl (hS62.inn [false,false,false,false,false,false,false,false,false,true,false] rfl [(true,2)] rfl) hc12)) ?_ aN
        rintro _ w_35 ⟨rfl,hd13⟩
        have hS63:=hS62.out [false,false,false,false,false,false,false,false,false,true,false] rfl hd13
        refine ⟨(hS63.se [0,1,2,3,4,5,6,7,8]),?_⟩
        refine rA [8] ?_
        refine rC 123 8 rfl (yC [pt (aD b3) 0,vi 6] K17 (c_spec_l1Cur_pick (Tl1Cur.mk code m9.at_ m9.seed) 6 (aD b3) B c code.length _ rfl (hS63.inn [false,false,false,false,false,false,false,false,false,false,true] rfl [(true,2)] rfl) hc13)) ?_ aN
        rintro _ w_36 ⟨rfl,hd14⟩
        have hS64:=hS63.out [false,false,false,false,false,false,false,false,false,false,true] rfl hd14
        refine ⟨(hS64.se [0,1,2,3,4,5,6,7,8]),?_⟩
        refine rA [9] ?_
        refine ra_y 124 (i:=9) (v:=pt B16 (r_19.toNat*1)) rfl rfl rfl (Y_index (B:=B16) (m:=r_18.length) (c:=c16) (k:=.i64) (i:=r_19) K2 K0 rfl rfl rfl (gi_isSome encI_len rfl (hS64.c 9) hx4) (getI_nn hx4) (getI_ltI hx4 rfl)) (hS64.se [0,1,2,3,4,5,6,7,8]) ?_ aN
        refine rA [10] ?_
        refine rZ 10 rfl (yS 9 1 B16 3 (vi r_20) [vi r_20] (r_19.toNat*1) ((r_18.set r_19.toNat r_20).flatMap encI) hS64 K0 rfl rfl rfl rfl rfl rfl rfl (gi_fit0 encI_len hx4) (gi_set encI_len hx4 r_20 rfl)) ?_ aN
        rintro _ w_37 ⟨rfl,hS65⟩
        refine ⟨(hS65.se [0,1,2,3,4,5,6,7,8]),?_⟩
        refine ra_done (by kernel_rfl) ?_
        let R31:Ro:=⟨B16,((r_18.set r_19.toNat r_20).flatMap encI)⟩
        have ho11:Org w0 [] [R24] [R31]:=ST.orgOwn hS65 (i:=9) rfl
        have hcap6:r_18.length≤c16:=(hS65.lencap (i:=9) rfl (fm_lenn (l:=(r_18.set r_19.toNat r_20)) encI_len (set_len _ _ _ rfl)) rfl rfl)
        let O13:Ob:=⟨aD b6,36,[.slice B16 r_18.length c16,.slice B11 Steps.length c11],2⟩
        let O20:Ob:=⟨aD b3,51,[.slice B code.length c,vi m10.at_,.int .u64 m10.seed],3⟩
        have hS66:ST w0 [] _ [O6,O5,O2,O1,O3,O0,O4,O13,O14,O20] [R31,R25,R26,R24]:=hS65.freeze (i:=9) rfl
        have ho12:Org w0 [] [R24] [⟨B11,(Steps.flatMap eN0)⟩]:=ST.orgOwn hS66 (i:=8) rfl
        have hcap7:Steps.length≤c11:=(hS66.lencap (i:=8) rfl (fm_lenn (l:=Steps) eN8 rfl) rfl rfl)
        have hS67:ST w0 [] _ [O6,O5,O2,O1,O3,O0,O4,O13,O20] [⟨B11,(Steps.flatMap eN0)⟩,R31,R25,R26,R24]:=hS66.freeze (i:=8) rfl
        exact ⟨(r_18.set r_19.toNat r_20),Steps,B16,c16,(sI hF18),(hf1.a 2 0 (hf1.a 3 1 (hf1.a 4 2 (hf1.a 6 4 (hf1.a 7 5 (hf1.a 9 6 fn_)))))),ho11,(len_le (set_len _ _ _ rfl) hcap6),ho12,(len_le rfl hcap7),(by rw [((set_len _ _ _ rfl):(r_18.set r_19.toNat r_20).length=r_18.length)]; exact hS67.sel [0,1,2,3,4,5,6,7] rfl rfl)⟩
       ·skip
        have hF19:=cf' hF17 hb8
        refine cw_skip ?_
        have ho13:Org w0 [] [R24] [⟨B16,(r_18.flatMap encI)⟩]:=ST.orgOwn hS59 (i:=10) rfl
        have hcap8:r_18.length≤c16:=(hS59.lencap (i:=10) rfl (fm_lenn (l:=r_18) encI_len rfl) rfl rfl)
        let O15:Ob:=⟨aD b3,51,[.slice B code.length c,vi m2.at_,.int .u64 m2.seed],3⟩
        let O19:Ob:=⟨aD b6,36,[.slice B16 r_18.length c16,.slice B11 Steps.length c11],2⟩
        have hS68:ST w0 [] _ [O6,O5,O2,O1,O3,O0,O4,O19,O14,O15] [⟨B16,(r_18.flatMap encI)⟩,R25,R26,R24]:=hS59.freeze (i:=10) rfl
        have ho14:Org w0 [] [R24] [⟨B11,(Steps.flatMap eN0)⟩]:=ST.orgOwn hS68 (i:=8) rfl
        have hcap9:Steps.length≤c11:=(hS68.lencap (i:=8) rfl (fm_lenn (l:=Steps) eN8 rfl) rfl rfl)
        have hS69:ST w0 [] _ [O6,O5,O2,O1,O3,O0,O4,O19,O15] [⟨B11,(Steps.flatMap eN0)⟩,⟨B16,(r_18.flatMap encI)⟩,R25,R26,R24]:=hS68.freeze (i:=8) rfl
        exact ⟨r_18,Steps,B16,c16,(sI hF19),(hf1.a 2 0 (hf1.a 3 1 (hf1.a 4 2 (hf1.a 6 4 (hf1.a 7 5 (hf1.a 9 6 fn_)))))),ho13,(len_le rfl hcap8),ho14,(len_le rfl hcap9),(hS69.sel [0,1,2,3,4,5,6,7] rfl rfl)⟩
      ·skip
       have hF20:=cf' hF16 hb7
       refine cw_skip ?_
       have ho15:Org w0 [] [R24] [⟨B11,(Steps.flatMap eN0)⟩]:=ST.orgOwn hS25 (i:=8) rfl
       have hcap10:Steps.length≤c11:=(hS25.lencap (i:=8) rfl (fm_lenn (l:=Steps) eN8 rfl) rfl rfl)
       let O12:Ob:=⟨aD b6,36,[.slice B14 Start1.length c14,.slice B11 Steps.length c11],2⟩
       let O22:Ob:=⟨aD b3,51,[.slice B code.length c,vi m2.at_,.int .u64 m2.seed],3⟩
       have hS70:ST w0 [] _ [O6,O5,O2,O1,O3,O0,O4,O12,O22] [⟨B11,(Steps.flatMap eN0)⟩,R25,R26,R24]:=hS25.freeze (i:=8) rfl
       have hS71:ST w0 [] _ [O6,O5,O2,O1,O3,O0,O4,O12,O22] [⟨B11,(Steps.flatMap eN0)⟩,R25,R25,R26,R24]:=hS70.sT [0,1,1,2,3]
       exact ⟨Start1,Steps,B14,c14,(sI hF20),(hf1.a 2 0 (hf1.a 3 1 (hf1.a 4 2 (hf1.a 6 4 (hf1.a 7 5 (hf1.a 9 6 fn_)))))),ho2,(len_le rfl hq1),ho15,(len_le rfl hcap10),(hS71.sel [0,1,2,3,4,5,6,7] rfl rfl)⟩
  ·skip
   have hF21:=cf' hz2 hb3
   refine cw_skip ?_
   have ho16:Org w0 [] [R24] [⟨B11,(Steps.flatMap eN0)⟩]:=ST.orgOwn hS20 (i:=9) rfl
   have hcap11:Steps.length≤c11:=(hS20.lencap (i:=9) rfl (fm_lenn (l:=Steps) eN8 rfl) rfl rfl)
   let O16:Ob:=⟨aD b6,36,[.slice B14 Start1.length c14,.slice B11 Steps.length c11],2⟩
   have hS72:ST w0 [] _ [O6,O5,O2,O11,O1,O3,O0,O4,O16] [⟨B11,(Steps.flatMap eN0)⟩,R25,R26,R24]:=hS20.freeze (i:=9) rfl
   have hS73:ST w0 [] _ [O6,O5,O2,O11,O1,O3,O0,O4,O16] [⟨B11,(Steps.flatMap eN0)⟩,R25,R25,R26,R24]:=hS72.sT [0,1,1,2,3]
   exact ⟨Start1,Steps,B14,c14,(sI hF21),(hf1.a 2 0 (hf1.a 3 1 (hf1.a 4 2 (hf1.a 6 4 (hf1.a 7 5 (hf1.a 9 6 fn_)))))),ho2,(len_le rfl hq1),ho16,(len_le rfl hcap11),(hS73.sel [0,1,2,4,5,6,7,8] rfl rfl)⟩
 rintro f w ⟨Start2,Steps1,B15,c15,rfl,hf2,ho4,hq2,ho5,hq3,hS24⟩
 refine cq ?_
 refine ra_start (hS24.se [3,4,5,6,7]).fn (by kernel_rfl) ?_
 have hS74:=hS24.drew
 refine rq 0 125 (v:=.agg #[vi r_3.Nodes,.slice B5 r_3.Edges.length c5]) rfl (hS74.se [3,4,5,6,7]) (fun w' hw'=>(yb (aD b4) 0 [vi r_3.Nodes,.slice B5 r_3.Edges.length c5] K5 K3 (ST.cf hw' (i:=0) rfl) rfl (hf2.g 6 3))) ?_
 refine rq 1 126 (v:=.agg #[vi r_4.Qubits,.slice B6 r_4.Gates.length c6]) rfl (hS74.se [3,4,5,6,7]) (fun w' hw'=>(yb (aD b5) 0 [vi r_4.Qubits,.slice B6 r_4.Gates.length c6] K14 K7 (ST.cf hw' (i:=2) rfl) rfl (hf2.g 7 4))) ?_
 refine rq 2 127 (v:=.agg #[.slice B15 Start2.length c15,.slice B11 Steps1.length c11]) rfl (hS74.se [3,4,5,6,7]) (fun w' hw'=>(yb (aD b6) 0 [.slice B15 Start2.length c15,.slice B11 Steps1.length c11] K32 K13 (ST.cf hw' (i:=4) rfl) rfl (hf2.g 9 5))) ?_
 refine rA [3] ?_
 refine rZ 3 rfl (yT 0 2 (aD b) 25 (.agg #[vi r_3.Nodes,.slice B5 r_3.Edges.length c5]) [vi r_3.Nodes,.slice B5 r_3.Edges.length c5] 0 hS74 K3 rfl (hf2.g 2 0)) ?_ aN
 rintro _ w_38 ⟨rfl,hS75⟩
 refine ⟨(hS75.se [3,4,5,6,7]),?_⟩
 refine rA [4] ?_
 refine rZ 4 rfl (yT 1 2 (aD b1) 28 (.agg #[vi r_4.Qubits,.slice B6 r_4.Gates.length c6]) [vi r_4.Qubits,.slice B6 r_4.Gates.length c6] 0 hS75 K7 rfl (hf2.g 3 1)) ?_ aN
 rintro _ w_39 ⟨rfl,hS76⟩
 refine ⟨(hS76.se [3,4,5,6,7]),?_⟩
 refine rA [5] ?_
 refine rZ 5 rfl (yT 2 2 (aD b2) 36 (.agg #[.slice B15 Start2.length c15,.slice B11 Steps1.length c11]) [.slice B15 Start2.length c15,.slice B11 Steps1.length c11] 0 hS76 K13 rfl (hf2.g 4 2)) ?_ aN
 rintro _ w_40 ⟨rfl,hS77⟩
 refine ⟨(hS77.se [3,4,5,6,7]),?_⟩
 refine ra_done (by kernel_rfl) ?_
 refine ct_ ?_
 obtain ⟨rfl,rfl,rfl⟩:=pr3 (sI hF9)
 exact ret3 Try.results7 (v1:=.agg #[vi r_3.Nodes,.slice B5 r_3.Edges.length c5]) (resAt_cellA (B:=aD b) (i:=0) (cs:=[vi r_3.Nodes,.slice B5 r_3.Edges.length c5]) (vs:=[vi r_3.Nodes,.slice B5 r_3.Edges.length c5]) (hf2.g 2 0) K5 K3 (hS77.c 0) rfl rfl) (v2:=.agg #[vi r_4.Qubits,.slice B6 r_4.Gates.length c6]) (resAt_cellA (B:=aD b1) (i:=0) (cs:=[vi r_4.Qubits,.slice B6 r_4.Gates.length c6]) (vs:=[vi r_4.Qubits,.slice B6 r_4.Gates.length c6]) (hf2.g 3 1) K14 K7 (hS77.c 1) rfl rfl) (v3:=.agg #[.slice B15 Start2.length c15,.slice B11 Steps1.length c11]) (resAt_cellA (B:=aD b2) (i:=0) (cs:=[.slice B15 Start2.length c15,.slice B11 Steps1.length c11]) (vs:=[.slice B15 Start2.length c15,.slice B11 Steps1.length c11]) (hf2.g 4 2) K32 K13 (hS77.c 2) rfl rfl) ⟨B5,c5,B6,c6,B15,c15,B11,c11,rfl,(len_le rfl hq2),(len_le rfl hq3),(org_cons ho4 (org_cons ho5 org_nil)),((hS77.sel [4,6] rfl rfl).sT [1,0])⟩

theorem c_impl_routing_step (r_:Trouting) (s:TRouteStep) (B:Option Addr) (c n:Nat) (B1:Option Addr) (c1 n1:Nat) (B2:Option Addr) (c2 n2:Nat) (B3:Option Addr) (c3 n3:Nat) (w0:World) (hn:r_.g.Edges.length=n) (hn1:r_.c.Gates.length=n1) (hq:n1≤c1) (hn2:r_.place.length=n2) (hn3:r_.done.length=n3) (hS:ST w0 (bl [⟨B2,3,(r_.place.flatMap encI),c2*1⟩,⟨B3,4,(r_.done.flatMap encB),c3*1⟩]) w0 [⟨B2,3,(r_.place.flatMap encI),c2*1⟩,⟨B3,4,(r_.done.flatMap encB),c3*1⟩] [⟨B,(r_.g.Edges.flatMap eN1)⟩,⟨B1,(r_.c.Gates.flatMap eN2)⟩]) {r_1:Int} {m:List Int} {m1:List Bool} (hF:F_impl_routing_step r_ s=some (r_1,m,m1)) :
  CV Try.prog 60 #[.agg #[vi r_.g.Nodes,.slice B n c,vi r_.c.Qubits,.slice B1 n1 c1,.slice B2 n2 c2,.slice B3 n3 c3],.agg #[vi s.Gate,vi s.A,vi s.B]] w0 (fun v w'=>v=vi r_1∧m.length=n2∧m1.length=n3∧ST w0 (bl [⟨B2,3,(r_.place.flatMap encI),c2*1⟩,⟨B3,4,(r_.done.flatMap encB),c3*1⟩]) w' [⟨B2,3,(m.flatMap encI),c2*1⟩,⟨B3,4,(m1.flatMap encB),c3*1⟩] []):=by
 subst hn
 subst hn1
 subst hn2
 subst hn3
 unfold F_impl_routing_step at hF
 refine cv_of_cw 50 Try.func60 rfl Try.ntmps60 rfl ?_
 refine cq (cr ?_)
 let V0:List Value:=[vi r_.g.Nodes,.slice B r_.g.Edges.length c,vi r_.c.Qubits,.slice B1 r_.c.Gates.length c1,.slice B2 r_.place.length c2,.slice B3 r_.done.length c3]
 refine sS 2 (yB 65 (.agg V0.toArray) V0 6 hS) ?_
 rintro _ w_ ⟨b,rfl,hS1⟩
 let V1:List Value:=[vi s.Gate,vi s.A,vi s.B]
 refine sS 3 (yB 60 (.agg V1.toArray) V1 3 hS1) ?_
 rintro _ w_1 ⟨b1,rfl,hS2⟩
 refine sQ 4 (yg (vi 0)) (rn (cq (cw_block (cq (cr ?_)))))
 refine sQ 6 (yd (aD b1) 0 0 K76 K0)<|sQ 7 (yl (aD b1) 0 V1 (vi s.Gate) K1 (hS2.c 3))<|sQ 8 (yE s.Gate (-1))<|sQ 5 (yg (.bool (s.Gate==(-1)))) (rn ?_)
 refine cw_cond (b:=(s.Gate==(-1))) rfl (fun hb=>?_) (fun hb=>?_)
 ·skip
  have hF1:=ct hF hb
  refine cq (cq (cr ?_))
  refine sQ 9 (yd (aD b) 0 1 k_fd_65_0_0_25 K3)<|sQ 10 (ya (aD b) 0 V0 [vi r_.g.Nodes,.slice B r_.g.Edges.length c] K5 K3 (hS2.c 2))<|sQ 11 (yd (aD b1) 0 0 K105 K0)<|sQ 12 (yl (aD b1) 1 V1 (vi s.A) K1 (hS2.c 3))<|sQ 13 (yd (aD b1) 0 0 K106 K0)<|sQ 14 (yl (aD b1) 2 V1 (vi s.B) K1 (hS2.c 3)) ?_
  obtain ⟨r_2,hc,hF1⟩:=bI hF1
  refine sc 15 rfl rfl (yC [.agg #[vi r_.g.Nodes,.slice B r_.g.Edges.length c],vi s.A,vi s.B] K133 (c_impl_CouplingGraph_joins r_.g s.A s.B B c r_.g.Edges.length _ rfl (hS2.inn0 [(true,0)] rfl) hc)) ?_
  rintro _ w_2 ⟨rfl,hd⟩
  have hS3:=hS2.out00 hd
  refine sQ 16 (Y_not (p:=r_2) rfl rfl) (rn ?_)
  refine cw_cond (b:=(!r_2)) rfl (fun hb1=>?_) (fun hb1=>?_)
  ·skip
   have hF2:=ct hF1 hb1
   refine cq (cr ?_)
   refine sQ 4 (yg (vi 2)) (rn (ct_ ?_))
   obtain ⟨rfl,rfl,rfl⟩:=pr3 (sI hF2)
   exact ret1 Try.results60 (v1:=vi 2) (resAt_tmp rfl) ⟨rfl,rfl,rfl,(hS3.sN [0,1])⟩
  ·skip
   have hF3:=cf' hF1 hb1
   refine cw_skip (cq (cr ?_))
   refine sQ 17 (yb (aD b) 0 V0 K47 K22 (hS3.c 2))<|sQ 18 (yd (aD b1) 0 0 K105 K0)<|sQ 19 (yl (aD b1) 1 V1 (vi s.A) K1 (hS3.c 3))<|sQ 20 (yd (aD b1) 0 0 K106 K0)<|sQ 21 (yl (aD b1) 2 V1 (vi s.B) K1 (hS3.c 3)) ?_
   obtain ⟨m2,hc1,hF3⟩:=bI hF3
   refine sc 22 rfl rfl (yC [.agg V0.toArray,vi s.A,vi s.B] K141 (c_impl_routing_swap r_ s.A s.B B c r_.g.Edges.length B1 c1 r_.c.Gates.length B2 c2 r_.place.length B3 c3 r_.done.length _ rfl rfl rfl rfl (hS3.inn [true,false,false,false] rfl [(true,0),(true,1),(false,0)] rfl) hc1)) ?_
   rintro _ w_3 ⟨rfl,hl,hd1⟩
   have hS4:=hS3.out [true,false,false,false] rfl hd1
   refine rn (cq (cr ?_))
   refine sQ 4 (yg (vi 0)) (rn (ct_ ?_))
   obtain ⟨rfl,rfl,rfl⟩:=pr3 (sI hF3)
   exact ret1 Try.results60 (v1:=vi 0) (resAt_tmp rfl) ⟨rfl,hl,rfl,(hS4.sN [3,0])⟩
 ·skip
  have hF4:=cf' hF hb
  refine cq (cr ?_)
  refine sQ 24 (yd (aD b1) 0 0 K105 K0)<|sQ 25 (yl (aD b1) 1 V1 (vi s.A) K1 (hS2.c 3))<|sQ 26 (Y_ne (k:=.i64) (a:=s.A) (b:=0) rfl rfl rfl)<|sQ 27 (ym (.bool (s.A != 0))) ?_
  refine sgq 28 (B:=(!(s.A != 0))) (v:=pt (aD b1) 2) rfl rfl (uF_ 27) (fun hg=>(yd (aD b1) 0 0 K106 K0)) ?_
  refine sgq 29 (B:=(!(s.A != 0))) rfl rfl (uF_ 27) (fun hg1=>(yl (aD b1) 2 V1 (vi s.B) K1 (hS2.c 3) rfl (gv_of (v:=pt (aD b1) 2) hg1))) ?_
  refine sgq 30 (B:=(!(s.A != 0))) rfl rfl (uF_ 27) (fun hg2=>(Y_ne (k:=.i64) (a:=s.B) (b:=0) rfl (gv_of (v:=vi s.B) hg2) rfl)) ?_
  refine sQ 31 (Y_or (b:=(s.A != 0)) (z:=(s.B != 0)) rfl rfl rfl rfl)<|sQ 32 (ym (.bool ((s.A != 0)||(s.B != 0)))) ?_
  refine sgq 33 (B:=(!((s.A != 0)||(s.B != 0)))) (v:=.agg V0.toArray) rfl rfl (uF_ 32) (fun hg3=>(yb (aD b) 0 V0 K47 K22 (hS2.c 2))) ?_
  refine sgq 34 (B:=(!((s.A != 0)||(s.B != 0)))) (v:=pt (aD b1) 0) rfl rfl (uF_ 32) (fun hg4=>(yd (aD b1) 0 0 K76 K0)) ?_
  refine sgq 35 (B:=(!((s.A != 0)||(s.B != 0)))) rfl rfl (uF_ 32) (fun hg5=>(yl (aD b1) 0 V1 (vi s.Gate) K1 (hS2.c 3) rfl (gv_of (v:=pt (aD b1) 0) hg5))) ?_
  obtain ⟨r_3,hc2,hF4⟩:=bI hF4
  refine sgc 36 (B:=(!((s.A != 0)||(s.B != 0)))) (v:=.bool r_3) (F:=hS2.fn) rfl rfl (uF_ 32) hS2 (fun hg6=>(yC [.agg V0.toArray,vi s.Gate] k_call_74 (CV.mono (c_impl_routing_isReady r_ s.Gate B c r_.g.Edges.length B1 c1 r_.c.Gates.length B2 c2 r_.place.length B3 c3 r_.done.length _ rfl rfl hq rfl rfl (hS2.inn0 [(true,0),(true,1),(false,0),(false,1)] rfl) (gb_inv hc2 hg6)) (by rintro _ _ ⟨rfl,h⟩; exact ⟨rfl,hS2.out00 h⟩)) rfl (mc (gv_of (v:=.agg V0.toArray) hg6) (mc (gv_of (v:=vi s.Gate) hg6) mn)))) ?_
  rintro w_4 hS5
  refine sgq 37 (B:=(!((s.A != 0)||(s.B != 0)))) (v:=.bool (!r_3)) rfl rfl (uF_ 32) (fun hg7=>(Y_not (p:=r_3) rfl (gv_of (v:=.bool r_3) hg7))) ?_
  refine sQ 38 (Y_or (b:=((s.A != 0)||(s.B != 0))) (z:=(!r_3)) rfl rfl rfl rfl)<|sQ 23 (yg (.bool (((s.A != 0)||(s.B != 0))||(!r_3)))) (rn ?_)
  refine cw_cond (b:=(((s.A != 0)||(s.B != 0))||(!r_3))) rfl (fun hb2=>?_) (fun hb2=>?_)
  ·skip
   have hF5:=ct hF4 hb2
   refine cq (cr ?_)
   refine sQ 4 (yg (vi 3)) (rn (ct_ ?_))
   obtain ⟨rfl,rfl,rfl⟩:=pr3 (sI hF5)
   exact ret1 Try.results60 (v1:=vi 3) (resAt_tmp rfl) ⟨rfl,rfl,rfl,(hS5.sN [0,1])⟩
  ·skip
   have hF6:=cf' hF4 hb2
   refine cq (cr ?_)
   refine sQ 40 (yb (aD b) 0 V0 K47 K22 (hS5.c 2))<|sQ 41 (yd (aD b1) 0 0 K76 K0)<|sQ 42 (yl (aD b1) 0 V1 (vi s.Gate) K1 (hS5.c 3)) ?_
   obtain ⟨r_4,hc3,hF6⟩:=bI hF6
   refine sc 43 rfl rfl (yC [.agg V0.toArray,vi s.Gate] K134 (c_impl_routing_fits r_ s.Gate B c r_.g.Edges.length B1 c1 r_.c.Gates.length B2 c2 r_.place.length B3 c3 r_.done.length _ rfl rfl rfl rfl (hS5.inn0 [(true,0),(true,1),(false,0),(false,1)] rfl) hc3)) ?_
   rintro _ w_5 ⟨rfl,hd2⟩
   have hS6:=hS5.out00 hd2
   refine sQ 44 (Y_not (p:=r_4) rfl rfl)<|sQ 39 (yg (.bool (!r_4))) (rn ?_)
   refine cw_cond (b:=(!r_4)) rfl (fun hb3=>?_) (fun hb3=>?_)
   ·skip
    have hF7:=ct hF6 hb3
    refine cq (cr ?_)
    refine sQ 4 (yg (vi 4)) (rn (ct_ ?_))
    obtain ⟨rfl,rfl,rfl⟩:=pr3 (sI hF7)
    exact ret1 Try.results60 (v1:=vi 4) (resAt_tmp rfl) ⟨rfl,rfl,rfl,(hS6.sN [0,1])⟩
   ·skip
    have hF8:=cf' hF6 hb3
    refine cw_skip (cq (cr ?_))
    refine sQ 45 (yd (aD b) 0 0 K69 K40)<|sQ 46 (yl (aD b) 5 V0 (.slice B3 r_.done.length c3) K56 (hS6.c 2))<|sQ 47 (yd (aD b1) 0 0 K76 K0)<|sQ 48 (yl (aD b1) 0 V1 (vi s.Gate) K1 (hS6.c 3)) ?_
    obtain ⟨x,hx,hF8⟩:=bI hF8
    refine sQ 49 (Y_index (B:=B3) (m:=r_.done.length) (c:=c3) (k:=.i64) (i:=s.Gate) K36 K37 rfl rfl rfl (gi_isSome encB_len rfl (hS6.c 1) hx) (getI_nn hx) (getI_ltI hx rfl)) ?_
    refine s0 (yS 1 1 B3 4 (.bool true) [.bool true] (s.Gate.toNat*1) ((r_.done.set s.Gate.toNat true).flatMap encB) hS6 K37 rfl rfl rfl rfl rfl rfl rfl (gi_fit0 encB_len hx) (gi_set encB_len hx true rfl)) ?_
    rintro _ w_6 ⟨rfl,hS7⟩
    refine rn (cq (cr ?_))
    refine sQ 4 (yg (vi 0)) (rn (ct_ ?_))
    obtain ⟨rfl,rfl,rfl⟩:=pr3 (sI hF8)
    exact ret1 Try.results60 (v1:=vi 0) (resAt_tmp rfl) ⟨rfl,rfl,(set_len _ _ _ rfl),(hS7.sN [0,1])⟩

theorem c_impl_check (g:TCouplingGraph) (c1:TCircuit) (route:TRoute) (B:Option Addr) (c n:Nat) (B1:Option Addr) (c2 n1:Nat) (B2:Option Addr) (c3 n2:Nat) (B3:Option Addr) (c4 n3:Nat) (w0:World) (hn:g.Edges.length=n) (hq:n≤c) (hn1:c1.Gates.length=n1) (hq1:n1≤c2) (hn2:route.Start.length=n2) (hq2:n2≤c3) (hn3:route.Steps.length=n3) (hS:ST w0 [] w0 [] [⟨B,(g.Edges.flatMap eN1)⟩,⟨B1,(c1.Gates.flatMap eN2)⟩,⟨B2,(route.Start.flatMap encI)⟩,⟨B3,(route.Steps.flatMap eN0)⟩]) {r_:Int} {r_1:Int} {r_2:Trouting} (hF:F_impl_check g c1 route=some (r_,r_1,r_2)) :
  CV Try.prog 27 #[.agg #[vi g.Nodes,.slice B n c],.agg #[vi c1.Qubits,.slice B1 n1 c2],.agg #[.slice B2 n2 c3,.slice B3 n3 c4]] w0 (fun v w'=>∃ (B4:Option Addr) (c5:Nat) (B5:Option Addr) (c6:Nat) (B6:Option Addr) (c7:Nat) (B7:Option Addr) (c8:Nat),v=.tuple #[vi r_,vi r_1,.agg #[vi r_2.g.Nodes,.slice B4 r_2.g.Edges.length c5,vi r_2.c.Qubits,.slice B5 r_2.c.Gates.length c6,.slice B6 r_2.place.length c7,.slice B7 r_2.done.length c8]]∧r_2.g.Edges.length≤c5∧r_2.c.Gates.length≤c6∧Org w0 [] [⟨B,(g.Edges.flatMap eN1)⟩,⟨B1,(c1.Gates.flatMap eN2)⟩,⟨B2,(route.Start.flatMap encI)⟩,⟨B3,(route.Steps.flatMap eN0)⟩] [⟨B4,(r_2.g.Edges.flatMap eN1)⟩,⟨B5,(r_2.c.Gates.flatMap eN2)⟩]∧ST w0 [] w' [⟨B6,3,(r_2.place.flatMap encI),c7*1⟩,⟨B7,4,(r_2.done.flatMap encB),c8*1⟩] [⟨B4,(r_2.g.Edges.flatMap eN1)⟩,⟨B5,(r_2.c.Gates.flatMap eN2)⟩]):=by
 subst hn
 subst hn1
 subst hn2
 subst hn3
 unfold F_impl_check at hF
 refine cv_of_cw 51 Try.func27 rfl Try.ntmps27 rfl ?_
 refine cq (cr ?_)
 let V13:List Value:=[vi g.Nodes,.slice B g.Edges.length c]
 refine sS 3 (yB 25 (.agg V13.toArray) V13 2 hS) ?_
 rintro _ w_ ⟨b,rfl,hS1⟩
 let V14:List Value:=[vi c1.Qubits,.slice B1 c1.Gates.length c2]
 refine sS 4 (yB 28 (.agg V14.toArray) V14 2 hS1) ?_
 rintro _ w_1 ⟨b1,rfl,hS2⟩
 let V12:List Value:=[.slice B2 route.Start.length c3,.slice B3 route.Steps.length c4]
 refine sS 5 (yB 36 (.agg V12.toArray) V12 2 hS2) ?_
 rintro _ w_2 ⟨b2,rfl,hS3⟩
 refine sQ 6 (yg (vi 0))<|sQ 7 (yg (vi 0)) ?_
 let V11:List Value:=[vi 0,.slice none 0 0,vi 0,.slice none 0 0,.slice none 0 0,.slice none 0 0]
 refine sS 8 (yN V11 6 hS3 K80) ?_
 rintro _ w_3 ⟨b3,rfl,hS4⟩
 refine rn (cq (cq (cr ?_)))
 refine sQ 13 (yb (aD b) 0 V13 K5 K3 (hS4.c 0))<|sQ 14 (yd (aD b1) 0 0 K60 K0)<|sQ 15 (yl (aD b1) 0 V14 (vi c1.Qubits) K1 (hS4.c 1))<|sQ 16 (yd (aD b2) 0 0 K66 K11)<|sQ 17 (yl (aD b2) 0 V12 (.slice B2 route.Start.length c3) K25 (hS4.c 2)) ?_
 obtain ⟨r_3,hc,hF⟩:=bI hF
 refine sc 18 rfl rfl (yC [.agg V13.toArray,vi c1.Qubits,.slice B2 route.Start.length c3] K115 (c_impl_CouplingGraph_isPlacement g c1.Qubits route.Start B c g.Edges.length B2 c3 route.Start.length _ rfl rfl hq2 (hS4.inn0 [(true,0),(true,2)] rfl) hc)) ?_
 rintro _ w_4 ⟨rfl,hd⟩
 have hS5:=hS4.out00 hd
 refine sQ 19 (Y_not (p:=r_3) rfl rfl) (rn ?_)
 refine cw_cond (b:=(!r_3)) rfl (fun hb=>?_) (fun hb=>?_)
 ·skip
  have hF1:=ct hF hb
  refine cq (cr ?_)
  refine sQ 20 (Y_buildS (zs:=V11) (vs:=[]) (cs:=V11) K132 K80 rfl mpn rfl)<|sQ 6 (yg (vi 1))<|sQ 7 (yg (vi 0)) ?_
  refine s0 (yT 3 6 (aD b3) 65 (.agg V11.toArray) V11 0 hS5 K22) ?_
  rintro _ w_5 ⟨rfl,hS6⟩
  refine rn (ct_ ?_)
  let O0:Ob:=⟨aD b3,65,V11,6⟩
  let O1:Ob:=⟨aD b2,36,V12,2⟩
  let O3:Ob:=⟨aD b1,28,V14,2⟩
  have hS7:ST w0 [] _ [⟨aD b,25,V13,2⟩,O3,O1,O0] [⟨none,([].flatMap eN1)⟩,⟨B,(g.Edges.flatMap eN1)⟩,⟨B1,(c1.Gates.flatMap eN2)⟩,⟨B2,(route.Start.flatMap encI)⟩,⟨B3,(route.Steps.flatMap eN0)⟩]:=ST.nilRo hS6
  have hS8:ST w0 [] _ [⟨aD b,25,V13,2⟩,O3,O1,O0] [⟨none,([].flatMap eN2)⟩,⟨none,([].flatMap eN1)⟩,⟨B,(g.Edges.flatMap eN1)⟩,⟨B1,(c1.Gates.flatMap eN2)⟩,⟨B2,(route.Start.flatMap encI)⟩,⟨B3,(route.Steps.flatMap eN0)⟩]:=ST.nilRo hS7
  have hS9:=hS8.addNil 3
  have hS10:=hS9.addNil 4
  obtain ⟨rfl,rfl,rfl⟩:=pr3 (sI hF1)
  exact ret3 Try.results27 (v1:=vi 1) (resAt_tmp rfl) (v2:=vi 0) (resAt_tmp rfl) (v3:=.agg V11.toArray) (resAt_cellA (B:=aD b3) (i:=0) (cs:=V11) (vs:=V11) rfl K47 K22 (hS10.c 3) rfl rfl) ⟨none,0,none,0,none,0,none,0,rfl,(len_le rfl (Nat.le_refl 0)),(len_le rfl (Nat.le_refl 0)),(org_cons org_none (org_cons org_none org_nil)),((hS10.sel [4,5] rfl rfl).sT [1,0])⟩
 ·skip
  have hF2:=cf' hF hb
  refine cw_skip (cq (cr ?_))
  refine sQ 21 (yb (aD b) 0 V13 K5 K3 (hS5.c 0))<|sQ 22 (yb (aD b1) 0 V14 K14 K7 (hS5.c 1))<|sQ 23 (yd (aD b2) 0 0 K66 K11)<|sQ 24 (yl (aD b2) 0 V12 (.slice B2 route.Start.length c3) K25 (hS5.c 2)) ?_
  obtain ⟨r_4,hc1,hF2⟩:=bI hF2
  refine sc 25 rfl rfl (yC [.agg V13.toArray,.agg V14.toArray,.slice B2 route.Start.length c3] K142 (c_impl_newRouting g c1 route.Start B c g.Edges.length B1 c2 c1.Gates.length B2 c3 route.Start.length _ rfl hq rfl hq1 rfl (hS5.inn0 [(true,0),(true,1),(true,2)] rfl) hc1)) ?_
  rintro _ w_6 ⟨B8,c9,B9,c10,B10,c11,B11,c12,rfl,hq3,hq4,ho,hd1⟩
  have hS11:=ST.outR0 hS5 hd1 ho (sk 0 (sk 1 (sk 2 (fun _ h=>by cases h))))
  let R5:Ro:=⟨B2,(route.Start.flatMap encI)⟩
  let R6:Ro:=⟨B3,(route.Steps.flatMap eN0)⟩
  let R7:Ro:=⟨B1,(c1.Gates.flatMap eN2)⟩
  let R8:Ro:=⟨B8,(r_4.g.Edges.flatMap eN1)⟩
  let R9:Ro:=⟨B9,(r_4.c.Gates.flatMap eN2)⟩
  have ho1:Org w0 [] [⟨B,(g.Edges.flatMap eN1)⟩,R7,R5,R6] [R8,R9]:=org_trans0 hS5 ho (org_cons (org_mem (i:=0) rfl) (org_cons (org_mem (i:=1) rfl) (org_cons (org_mem (i:=2) rfl) org_nil)))
  let O2:Ob:=⟨aD b3,65,V11,6⟩
  let O4:Ob:=⟨aD b2,36,V12,2⟩
  have hS12:ST w0 [] _ [⟨aD b,25,V13,2⟩,⟨aD b1,28,V14,2⟩,O4,O2,⟨B10,3,(r_4.place.flatMap encI),c11*1⟩,⟨B11,4,(r_4.done.flatMap encB),c12*1⟩] [R8,R9,⟨B,(g.Edges.flatMap eN1)⟩,R7,R5,R6]:=hS11
  refine sS 9 (yN V11 6 hS12 K80) ?_
  rintro _ w_7 ⟨b4,rfl,hS13⟩
  let V10:List Value:=[vi r_4.g.Nodes,.slice B8 r_4.g.Edges.length c9,vi r_4.c.Qubits,.slice B9 r_4.c.Gates.length c10,.slice B10 r_4.place.length c11,.slice B11 r_4.done.length c12]
  refine s0 (yT 6 6 (aD b4) 65 (.agg V10.toArray) V10 0 hS13 K22) ?_
  rintro _ w_8 ⟨rfl,hS14⟩
  refine rn (cq (cq (cr ?_)))
  refine sQ 26 (yd (aD b2) 0 0 K29 K15)<|sQ 27 (yl (aD b2) 1 V12 (.slice B3 route.Steps.length c4) K31 (hS14.c 2))<|sQ 28 (Y_len (B:=B3) (m:=route.Steps.length) (c:=c4) K9 rfl rfl)<|sQ 29 (ym (vi 0)) (rn ?_)
  obtain ⟨hN,hF2⟩:=chk_inv hF2
  obtain ⟨z,hz,hF3⟩:=bI hF2
  refine cw_block ?_
  refine cw_loop (fun k f w=>∃ (i:Nat) (place:List Int) (done:List Bool),FF f [(5,pt (aD b2) 0),(8,pt (aD b3) 0),(9,pt (aD b4) 0),(27,.slice B3 route.Steps.length c4),(28,vi (route.Steps.length:Int)),(29,vi (i:Int))]∧place.length=r_4.place.length∧done.length=r_4.done.length∧ST w0 [] w [O4,O2,⟨aD b4,65,V10,6⟩,⟨B10,3,(place.flatMap encI),c11*1⟩,⟨B11,4,(done.flatMap encB),c12*1⟩] [R8,R9,⟨B,(g.Edges.flatMap eN1)⟩,R7,R5,R6]∧i+k=route.Steps.length∧forX (F_impl_check_l1 route r_4 g) k i (place,done)=some z) route.Steps.length ⟨0,r_4.place,r_4.done,(fc rfl (fc rfl (fc rfl (fc rfl (fc rfl (fc rfl fn_)))))),rfl,rfl,(hS14.sel [2,3,6,4,5] rfl rfl),Nat.zero_add _,hz⟩ ?_
  rintro k_ f w ⟨i,place,done,hf,hl,hl1,hS15,hik,hL⟩
  refine cq (cr ?_)
  refine sQ 30 (yL (i:Int) (route.Steps.length:Int) rfl (hf.g 29 5) (hf.g 28 4)) (rn (cq ?_))
  refine cw_cond (b:=(decide ((i:Int)<(route.Steps.length:Int)))) rfl (fun hlt=>?_) (fun hlt=>?_)
  ·skip
   have hlt1:i<route.Steps.length:=by have h:=of_decide_eq_true hlt; omega
   obtain ⟨K4,rfl⟩:∃ k2,k_=k2+1:=⟨k_-1,by omega⟩
   obtain ⟨y,hb1,hL1⟩:=forX_go hL
   unfold F_impl_check_l1 at hb1
   refine cw_skip (cq (cw_block (cq (cr ?_))))
   refine sQ 31 (ym (vi (i:Int)) rfl (hf.g 29 5)) ?_
   obtain ⟨x,hx,hb1⟩:=bI hb1
   let V15:List Value:=[vi x.Gate,vi x.A,vi x.B]
   refine sQ 32 (Y_index (B:=B3) (m:=route.Steps.length) (c:=c4) (k:=.i64) (i:=(i:Int)) K9 K8 rfl (hf.g 27 3) (hf.g 29 5) (gi_isSome eN8 rfl (hS15.rf (i:=5) rfl) hx) (getI_nn hx) (getI_ltI hx rfl))<|sQ 33 (ya B3 ((i:Int).toNat*3) (route.Steps.flatMap eN0) V15 K88 K8 (hS15.rf (i:=5) rfl) rfl rfl (eN8 x) (gi_seg eN8 hx)) ?_
   refine sS 11 (yN [vi 0,vi 0,vi 0] 3 hS15 K23) ?_
   rintro _ w_9 ⟨b5,rfl,hS16⟩
   refine sQ 10 (yg (vi (i:Int))) ?_
   refine s0 (yT 5 3 (aD b5) 60 (.agg V15.toArray) V15 0 hS16 K8) ?_
   rintro _ w_10 ⟨rfl,hS17⟩
   refine rn (cq (cr ?_))
   refine sQ 34 (yb (aD b4) 0 V10 K47 K22 (hS17.c 2) rfl (hf.g 9 2))<|sQ 35 (yb (aD b5) 0 V15 K88 K8 (hS17.c 5)) ?_
   obtain ⟨⟨r_5,m,m1⟩,hc2,hb1⟩:=bI hb1
   refine sc 36 rfl rfl (yC [.agg V10.toArray,.agg V15.toArray] k_call_60 (c_impl_routing_step (Trouting.mk r_4.g r_4.c place done) x B8 c9 r_4.g.Edges.length B9 c10 r_4.c.Gates.length B10 c11 r_4.place.length B11 c12 r_4.done.length _ rfl rfl hq4 hl hl1 (hS17.inn [false,false,false,true,true,false] rfl [(true,0),(true,1)] rfl) hc2)) ?_
   rintro _ w_11 ⟨rfl,hl2,hl3,hd2⟩
   have hS18:=hS17.out [false,false,false,true,true,false] rfl hd2
   refine sQ 12 (yg (vi r_5)) (rn (cq (cr ?_)))
   refine sQ 37 (ym (vi r_5))<|sQ 38 (Y_ne (k:=.i64) (a:=r_5) (b:=0) rfl rfl rfl) (rn ?_)
   refine cw_cond (b:=(r_5 != 0)) rfl (fun hb2=>?_) (fun hb2=>?_)
   ·skip
    have hF4:=ct hb1 hb2
    refine cq ?_
    refine ra_start (hS18.se [0,2,3,4,5]).fn (by kernel_rfl) ?_
    have hS19:=hS18.drew
    refine rq 0 39 rfl (hS19.se [0,2,3,4,5]) (fun w' hw'=>(ym (vi r_5))) ?_
    refine rq 1 40 rfl (hS19.se [0,2,3,4,5]) (fun w' hw'=>(ym (vi (i:Int)))) ?_
    refine rq 2 41 (v:=.agg V10.toArray) rfl (hS19.se [0,2,3,4,5]) (fun w' hw'=>(yb (aD b4) 0 V10 K47 K22 (ST.cf hw' (i:=1) rfl) rfl (hf.g 9 2))) ?_
    refine rq 3 6 rfl (hS19.se [0,2,3,4,5]) (fun w' hw'=>(yg (vi r_5))) ?_
    refine rq 4 7 rfl (hS19.se [0,2,3,4,5]) (fun w' hw'=>(yg (vi (i:Int)))) ?_
    refine rA [5] ?_
    refine rZ 5 rfl (yT 1 6 (aD b3) 65 (.agg V10.toArray) V10 0 hS19 K22 rfl (hf.g 8 1)) ?_ aN
    rintro _ w_12 ⟨rfl,hS20⟩
    refine ⟨(hS20.se [0,2,3,4,5]),?_⟩
    refine ra_done (by kernel_rfl) ?_
    refine ct_ ?_
    obtain rfl:=sI hF4
    obtain rfl:=sI hL1
    obtain ⟨rfl,rfl,rfl⟩:=pr3 (sI hF3)
    exact ret3 Try.results27 (v1:=vi r_5) (resAt_tmp rfl) (v2:=vi (i:Int)) (resAt_tmp rfl) (v3:=.agg V10.toArray) (resAt_cellA (B:=aD b3) (i:=0) (cs:=V10) (vs:=V10) (hf.g 8 1) K47 K22 (hS20.c 1) rfl rfl) ⟨B8,c9,B9,c10,B10,c11,B11,c12,(by simp +zetaDelta [hl2,hl3]),(len_le rfl hq3),(len_le rfl hq4),(org_cons (org_sub ho1 (sk 0 (fun _ h=>by cases h))) (org_cons (org_sub ho1 (sk 1 (fun _ h=>by cases h))) org_nil)),((hS20.sel [4,5] rfl rfl).sT [0,1])⟩
   ·skip
    have hF5:=cf' hb1 hb2
    refine cw_skip (cr ?_)
    refine sQ 42 (yP (i:Int) 1 rfl (hf.g 29 5))<|sQ 29 (ym (vi (i64.wrap ((i:Int)+1)))) (rn ?_)
    obtain rfl:=sI hF5
    exact ⟨K4,Nat.lt_succ_self _,i+1,m,m1,(hf.a 5 0 (hf.a 8 1 (hf.a 9 2 (hf.a 27 3 (hf.a 28 4 (fc (congrArg (Value.int .i64) (wr_succ hlt1 hN)) fn_)))))),hl2,hl3,(hS18.sel [0,1,2,4,5] rfl rfl),(by omega),hL1⟩
  ·skip
   obtain rfl:k_=0:=by have h:=of_decide_eq_false hlt; omega
   refine cw_exit rfl ?_
   obtain rfl:=sI hL
   refine cq (cq (cr ?_))
   refine sQ 43 (yd (aD b4) 0 0 K69 K40 rfl (hf.g 9 2))<|sQ 44 (yl (aD b4) 5 V10 (.slice B11 r_4.done.length c12) K56 (hS15.c 2)) ?_
   obtain ⟨r_6,hc3,hF3⟩:=bI hF3
   refine sc 45 rfl rfl (yC [.slice B11 r_4.done.length c12,.bool false] k_call_50 (c_slices_Contains_bool_bool done false B11 c12 r_4.done.length _ hl1 (hS15.inn0 [(false,4)] rfl) hc3)) ?_
   rintro _ w_13 ⟨rfl,hd3⟩
   have hS21:=hS15.out00 hd3
   refine rn ?_
   refine cw_cond (b:=r_6) rfl (fun hb3=>?_) (fun hb3=>?_)
   ·skip
    have hF6:=ct hF3 hb3
    refine cq ?_
    refine ra_start (hS21.se [0,2,3,4]).fn (by kernel_rfl) ?_
    have hS22:=hS21.drew
    refine rq 0 46 (v:=pt (aD b2) 1) rfl (hS22.se [0,2,3,4]) (fun w' hw'=>(yd (aD b2) 0 0 K29 K15 rfl (hf.g 5 0))) ?_
    refine rq 1 47 rfl (hS22.se [0,2,3,4]) (fun w' hw'=>(yl (aD b2) 1 V12 (.slice B3 route.Steps.length c4) K31 (ST.cf hw' (i:=0) rfl))) ?_
    refine rq 2 48 (v:=vi (route.Steps.length:Int)) rfl (hS22.se [0,2,3,4]) (fun w' hw'=>(Y_len (B:=B3) (m:=route.Steps.length) (c:=c4) K9 rfl rfl)) ?_
    refine rq 3 49 (v:=.agg V10.toArray) rfl (hS22.se [0,2,3,4]) (fun w' hw'=>(yb (aD b4) 0 V10 K47 K22 (ST.cf hw' (i:=1) rfl) rfl (hf.g 9 2))) ?_
    refine rq 4 6 rfl (hS22.se [0,2,3,4]) (fun w' hw'=>(yg (vi 5))) ?_
    refine rq 5 7 rfl (hS22.se [0,2,3,4]) (fun w' hw'=>(yg (vi (route.Steps.length:Int)))) ?_
    refine rA [6] ?_
    refine rZ 6 rfl (yT 1 6 (aD b3) 65 (.agg V10.toArray) V10 0 hS22 K22 rfl (hf.g 8 1)) ?_ aN
    rintro _ w_14 ⟨rfl,hS23⟩
    refine ⟨(hS23.se [0,2,3,4]),?_⟩
    refine ra_done (by kernel_rfl) ?_
    refine ct_ ?_
    obtain ⟨rfl,rfl,rfl⟩:=pr3 (sI hF6)
    exact ret3 Try.results27 (v1:=vi 5) (resAt_tmp rfl) (v2:=vi (route.Steps.length:Int)) (resAt_tmp rfl) (v3:=.agg V10.toArray) (resAt_cellA (B:=aD b3) (i:=0) (cs:=V10) (vs:=V10) (hf.g 8 1) K47 K22 (hS23.c 1) rfl rfl) ⟨B8,c9,B9,c10,B10,c11,B11,c12,(by simp +zetaDelta [hl,hl1]),(len_le rfl hq3),(len_le rfl hq4),(org_cons (org_sub ho1 (sk 0 (fun _ h=>by cases h))) (org_cons (org_sub ho1 (sk 1 (fun _ h=>by cases h))) org_nil)),((hS23.sel [3,4] rfl rfl).sT [0,1])⟩
   ·skip
    have hF7:=cf' hF3 hb3
    refine cw_skip (cq ?_)
    refine ra_start (hS21.se [0,2,3,4]).fn (by kernel_rfl) ?_
    have hS24:=hS21.drew
    refine rq 0 50 (v:=.agg V10.toArray) rfl (hS24.se [0,2,3,4]) (fun w' hw'=>(yb (aD b4) 0 V10 K47 K22 (ST.cf hw' (i:=1) rfl) rfl (hf.g 9 2))) ?_
    refine rq 1 6 rfl (hS24.se [0,2,3,4]) (fun w' hw'=>(yg (vi 0))) ?_
    refine rq 2 7 rfl (hS24.se [0,2,3,4]) (fun w' hw'=>(yg (vi 0))) ?_
    refine rA [3] ?_
    refine rZ 3 rfl (yT 1 6 (aD b3) 65 (.agg V10.toArray) V10 0 hS24 K22 rfl (hf.g 8 1)) ?_ aN
    rintro _ w_15 ⟨rfl,hS25⟩
    refine ⟨(hS25.se [0,2,3,4]),?_⟩
    refine ra_done (by kernel_rfl) ?_
    refine ct_ ?_
    obtain ⟨rfl,rfl,rfl⟩:=pr3 (sI hF7)
    exact ret3 Try.results27 (v1:=vi 0) (resAt_tmp rfl) (v2:=vi 0) (resAt_tmp rfl) (v3:=.agg V10.toArray) (resAt_cellA (B:=aD b3) (i:=0) (cs:=V10) (vs:=V10) (hf.g 8 1) K47 K22 (hS25.c 1) rfl rfl) ⟨B8,c9,B9,c10,B10,c11,B11,c12,(by simp +zetaDelta [hl,hl1]),(len_le rfl hq3),(len_le rfl hq4),(org_cons (org_sub ho1 (sk 0 (fun _ h=>by cases h))) (org_cons (org_sub ho1 (sk 1 (fun _ h=>by cases h))) org_nil)),((hS25.sel [3,4] rfl rfl).sT [0,1])⟩

theorem c_impl_CheckRoute (g:TCouplingGraph) (c1:TCircuit) (r_:TRoute) (B:Option Addr) (c n:Nat) (B1:Option Addr) (c2 n1:Nat) (B2:Option Addr) (c3 n2:Nat) (B3:Option Addr) (c4 n3:Nat) (w0:World) (hn:g.Edges.length=n) (hq:n≤c) (hn1:c1.Gates.length=n1) (hq1:n1≤c2) (hn2:r_.Start.length=n2) (hq2:n2≤c3) (hn3:r_.Steps.length=n3) (hS:ST w0 [] w0 [] [⟨B,(g.Edges.flatMap eN1)⟩,⟨B1,(c1.Gates.flatMap eN2)⟩,⟨B2,(r_.Start.flatMap encI)⟩,⟨B3,(r_.Steps.flatMap eN0)⟩]) {r_1:Int} {r_2:Int} {r_3:Bool} (hF:F_impl_CheckRoute g c1 r_=some (r_1,r_2,r_3)) :
  CV Try.prog 8 #[.agg #[vi g.Nodes,.slice B n c],.agg #[vi c1.Qubits,.slice B1 n1 c2],.agg #[.slice B2 n2 c3,.slice B3 n3 c4]] w0 (fun v w'=>v=.tuple #[vi r_1,vi r_2,.bool r_3]∧ST w0 [] w' [] []):=by
 subst hn
 subst hn1
 subst hn2
 subst hn3
 unfold F_impl_CheckRoute at hF
 refine cv_of_cw 26 Try.func8 rfl Try.ntmps8 rfl ?_
 refine cq (cr ?_)
 let V3:List Value:=[vi g.Nodes,.slice B g.Edges.length c]
 refine sS 3 (yB 25 (.agg V3.toArray) V3 2 hS) ?_
 rintro _ w_ ⟨b,rfl,hS1⟩
 let V1:List Value:=[vi c1.Qubits,.slice B1 c1.Gates.length c2]
 refine sS 4 (yB 28 (.agg V1.toArray) V1 2 hS1) ?_
 rintro _ w_1 ⟨b1,rfl,hS2⟩
 let V2:List Value:=[.slice B2 r_.Start.length c3,.slice B3 r_.Steps.length c4]
 refine sS 5 (yB 36 (.agg V2.toArray) V2 2 hS2) ?_
 rintro _ w_2 ⟨b2,rfl,hS3⟩
 refine sQ 6 (yg (vi 0))<|sQ 7 (yg (vi 0))<|sQ 8 (yg (.bool false)) (rn (cq (cq (cr ?_))))
 refine sQ 12 (yb (aD b) 0 V3 K5 K3 (hS3.c 0))<|sQ 13 (yb (aD b1) 0 V1 K14 K7 (hS3.c 1)) ?_
 obtain ⟨r_4,hc,hF⟩:=bI hF
 refine sc 14 rfl rfl (yC [.agg V3.toArray,.agg V1.toArray] K119 (c_impl_canRoute g c1 B c g.Edges.length B1 c2 c1.Gates.length _ rfl rfl (hS3.inn0 [(true,0),(true,1)] rfl) hc)) ?_
 rintro _ w_3 ⟨rfl,hd⟩
 have hS4:=hS3.out00 hd
 refine sQ 15 (Y_not (p:=r_4) rfl rfl) (rn ?_)
 refine cw_cond (b:=(!r_4)) rfl (fun hb=>?_) (fun hb=>?_)
 ·skip
  have hF1:=ct hF hb
  refine cq (cr ?_)
  refine sQ 6 (yg (vi 0))<|sQ 7 (yg (vi 0))<|sQ 8 (yg (.bool false)) (rn (ct_ ?_))
  obtain ⟨rfl,rfl,rfl⟩:=pr3 (sI hF1)
  exact ret3 Try.results8 (v1:=vi 0) (resAt_tmp rfl) (v2:=vi 0) (resAt_tmp rfl) (v3:=.bool false) (resAt_tmp rfl) ⟨rfl,(hS4.sN [])⟩
 ·skip
  have hF2:=cf' hF hb
  refine cw_skip (cq (cr ?_))
  refine sQ 17 (yb (aD b) 0 V3 K5 K3 (hS4.c 0))<|sQ 18 (yb (aD b1) 0 V1 K14 K7 (hS4.c 1))<|sQ 19 (yb (aD b2) 0 V2 K32 K13 (hS4.c 2)) ?_
  obtain ⟨⟨r_5,r_6,r_7⟩,hc1,hF2⟩:=bI hF2
  refine sc 20 rfl rfl (yC [.agg V3.toArray,.agg V1.toArray,.agg V2.toArray] k_call_27 (c_impl_check g c1 r_ B c g.Edges.length B1 c2 c1.Gates.length B2 c3 r_.Start.length B3 c4 r_.Steps.length _ rfl hq rfl hq1 rfl hq2 rfl (hS4.inn0 [(true,0),(true,1),(true,2),(true,3)] rfl) hc1)) ?_
  rintro _ w_4 ⟨B4,c5,B5,c6,B6,c7,B7,c8,rfl,hq3,hq4,ho,hd1⟩
  have hS5:=ST.outR0 hS4 hd1 ho (sk 0 (sk 1 (sk 2 (sk 3 (fun _ h=>by cases h)))))
  have ho1:Org w0 [] [⟨B,(g.Edges.flatMap eN1)⟩,⟨B1,(c1.Gates.flatMap eN2)⟩,⟨B2,(r_.Start.flatMap encI)⟩,⟨B3,(r_.Steps.flatMap eN0)⟩] [⟨B4,(r_7.g.Edges.flatMap eN1)⟩,⟨B5,(r_7.c.Gates.flatMap eN2)⟩]:=org_trans0 hS4 ho (org_cons (org_mem (i:=0) rfl) (org_cons (org_mem (i:=1) rfl) (org_cons (org_mem (i:=2) rfl) (org_cons (org_mem (i:=3) rfl) org_nil))))
  have hS6:ST w0 [] _ [⟨aD b,25,V3,2⟩,⟨aD b1,28,V1,2⟩,⟨aD b2,36,V2,2⟩,⟨B6,3,(r_7.place.flatMap encI),c7*1⟩,⟨B7,4,(r_7.done.flatMap encB),c8*1⟩] [⟨B4,(r_7.g.Edges.flatMap eN1)⟩,⟨B5,(r_7.c.Gates.flatMap eN2)⟩,⟨B,(g.Edges.flatMap eN1)⟩,⟨B1,(c1.Gates.flatMap eN2)⟩,⟨B2,(r_.Start.flatMap encI)⟩,⟨B3,(r_.Steps.flatMap eN0)⟩]:=hS5
  let V0:List Value:=[vi r_7.g.Nodes,.slice B4 r_7.g.Edges.length c5,vi r_7.c.Qubits,.slice B5 r_7.c.Gates.length c6,.slice B6 r_7.place.length c7,.slice B7 r_7.done.length c8]
  refine sQ 16 (ym (.tuple #[vi r_5,vi r_6,.agg V0.toArray]))<|sQ 21 (ye (vi r_5))<|sQ 22 (ye (vi r_6))<|sQ 23 (ye (.agg V0.toArray)) ?_
  refine sS 11 (yN [vi 0,.slice none 0 0,vi 0,.slice none 0 0,.slice none 0 0,.slice none 0 0] 6 hS6 K80) ?_
  rintro _ w_5 ⟨b3,rfl,hS7⟩
  refine sQ 9 (yg (vi r_5))<|sQ 10 (yg (vi r_6)) ?_
  refine s0 (yT 5 6 (aD b3) 65 (.agg V0.toArray) V0 0 hS7 K22) ?_
  rintro _ w_6 ⟨rfl,hS8⟩
  refine rn (cq (cr ?_))
  refine sQ 24 (ym (vi r_5))<|sQ 25 (ym (vi r_6))<|sQ 6 (yg (vi r_5))<|sQ 7 (yg (vi r_6))<|sQ 8 (yg (.bool true)) (rn (ct_ ?_))
  obtain ⟨rfl,rfl,rfl⟩:=pr3 (sI hF2)
  exact ret3 Try.results8 (v1:=vi r_5) (resAt_tmp rfl) (v2:=vi r_6) (resAt_tmp rfl) (v3:=.bool true) (resAt_tmp rfl) ⟨rfl,(hS8.sN [])⟩

theorem c_spec_l23Play (g:TCouplingGraph) (c1:TCircuit) (r_:TRoute) (B:Option Addr) (c n:Nat) (B1:Option Addr) (c2 n1:Nat) (B2:Option Addr) (c3 n2:Nat) (B3:Option Addr) (c4 n3:Nat) (w0:World) (hn:g.Edges.length=n) (hn1:c1.Gates.length=n1) (hn2:r_.Start.length=n2) (hq:n2≤c3) (hn3:r_.Steps.length=n3) (hS:ST w0 [] w0 [] [⟨B,(g.Edges.flatMap eN1)⟩,⟨B1,(c1.Gates.flatMap eN2)⟩,⟨B2,(r_.Start.flatMap encI)⟩,⟨B3,(r_.Steps.flatMap eN0)⟩]) {r_1:Int} {r_2:Int} {r_3:List Int} (hF:F_spec_l23Play g c1 r_=some (r_1,r_2,r_3)) :
  CV Try.prog 29 #[.agg #[vi g.Nodes,.slice B n c],.agg #[vi c1.Qubits,.slice B1 n1 c2],.agg #[.slice B2 n2 c3,.slice B3 n3 c4]] w0 (fun v w'=>∃ (B4:Option Addr) (c5:Nat),v=.tuple #[vi r_1,vi r_2,.slice B4 r_3.length c5]∧ST w0 [] w' [⟨B4,3,(r_3.flatMap encI),c5*1⟩] []):=by
 subst hn
 subst hn1
 subst hn2
 subst hn3
 unfold F_spec_l23Play at hF
 refine cv_of_cw 97 Try.func29 rfl Try.ntmps29 rfl ?_
 refine cq (cr ?_)
 let V3:List Value:=[vi g.Nodes,.slice B g.Edges.length c]
 refine sS 3 (yB 25 (.agg V3.toArray) V3 2 hS) ?_
 rintro _ w_ ⟨b,rfl,hS1⟩
 let V2:List Value:=[vi c1.Qubits,.slice B1 c1.Gates.length c2]
 refine sS 4 (yB 28 (.agg V2.toArray) V2 2 hS1) ?_
 rintro _ w_1 ⟨b1,rfl,hS2⟩
 let V4:List Value:=[.slice B2 r_.Start.length c3,.slice B3 r_.Steps.length c4]
 refine sS 5 (yB 36 (.agg V4.toArray) V4 2 hS2) ?_
 rintro _ w_2 ⟨b2,rfl,hS3⟩
 refine sQ 6 (yg (vi 0))<|sQ 7 (yg (vi 0))<|sQ 8 (yg (.slice none 0 0)) (rn (cq (cq (cr ?_))))
 refine sQ 14 (yb (aD b) 0 V3 K5 K3 (hS3.c 0))<|sQ 15 (yd (aD b1) 0 0 K60 K0)<|sQ 16 (yl (aD b1) 0 V2 (vi c1.Qubits) K1 (hS3.c 1))<|sQ 17 (yd (aD b2) 0 0 K66 K11)<|sQ 18 (yl (aD b2) 0 V4 (.slice B2 r_.Start.length c3) K25 (hS3.c 2)) ?_
 obtain ⟨r_4,hc,hF⟩:=bI hF
 refine sc 19 rfl rfl (yC [.agg V3.toArray,vi c1.Qubits,.slice B2 r_.Start.length c3] K148 (c_spec_l23Placement g c1.Qubits r_.Start B c g.Edges.length B2 c3 r_.Start.length _ rfl rfl hq (hS3.inn0 [(true,0),(true,2)] rfl) hc)) ?_
 rintro _ w_3 ⟨rfl,hd⟩
 have hS4:=hS3.out00 hd
 refine sQ 20 (Y_not (p:=r_4) rfl rfl) (rn ?_)
 refine cw_cond (b:=(!r_4)) rfl (fun hb=>?_) (fun hb=>?_)
 ·skip
  have hF1:=ct hF hb
  refine cq (cr ?_)
  refine sQ 6 (yg (vi 1))<|sQ 7 (yg (vi 0))<|sQ 8 (yg (.slice none 0 0)) (rn (ct_ ?_))
  have hS5:=hS4.addNil 3
  obtain ⟨rfl,rfl,rfl⟩:=pr3 (sI hF1)
  exact ret3 Try.results29 (v1:=vi 1) (resAt_tmp rfl) (v2:=vi 0) (resAt_tmp rfl) (v3:=.slice none 0 0) (resAt_tmp rfl) ⟨none,0,rfl,(hS5.sN [3])⟩
 ·skip
  have hF2:=cf' hF hb
  refine cw_skip (cq (cr ?_))
  refine sQ 21 (yd (aD b2) 0 0 K66 K11)<|sQ 22 (yl (aD b2) 0 V4 (.slice B2 r_.Start.length c3) K25 (hS4.c 2)) ?_
  obtain ⟨r_5,hc1,hF2⟩:=bI hF2
  refine sc 23 rfl rfl (yC [.slice B2 r_.Start.length c3] K77 (c_spec_l1Own r_.Start B2 c3 r_.Start.length _ rfl (hS4.inn0 [(true,2)] rfl) hc1)) ?_
  rintro _ w_4 ⟨B5,c6,rfl,hd1⟩
  have hS6:=hS4.out0 hd1
  refine sQ 9 (yg (.slice B5 r_5.length c6)) (rn (cq (cr ?_)))
  refine sQ 24 (yd (aD b1) 0 0 K19 K16)<|sQ 25 (yl (aD b1) 1 V2 (.slice B1 c1.Gates.length c2) K21 (hS6.c 1))<|sQ 26 (Y_len (B:=B1) (m:=c1.Gates.length) (c:=c2) K12 rfl rfl) ?_
  obtain ⟨hmk,hF2⟩:=chk_inv hF2
  refine sS 27 (Ys_make (s:=1) (by':=1) (nn:=c1.Gates.length) (a:=(c1.Gates.length:Int)) (b:=(c1.Gates.length:Int)) (cs:=((List.replicate c1.Gates.length false).flatMap encB)) hS6 K36 K37 K74 K68 rfl rfl rfl rfl hmk.1 rfl (by have:=hmk; omega) (by have:=hmk; omega) (by omega) (fm_rep (enc:=encB) (d:=false) rfl _)) ?_
  rintro _ w_5 ⟨b3,rfl,hS7⟩
  refine sQ 10 (yg (.slice (aD b3) c1.Gates.length c1.Gates.length)) (rn (cq (cr ?_)))
  refine sQ 28 (yd (aD b1) 0 0 K19 K16)<|sQ 29 (yl (aD b1) 1 V2 (.slice B1 c1.Gates.length c2) K21 (hS7.c 1))<|sQ 30 (Y_len (B:=B1) (m:=c1.Gates.length) (c:=c2) K12 rfl rfl)<|sQ 11 (yg (vi (c1.Gates.length:Int))) (rn (cq (cq (cr ?_))))
  refine sQ 31 (yd (aD b2) 0 0 K29 K15)<|sQ 32 (yl (aD b2) 1 V4 (.slice B3 r_.Steps.length c4) K31 (hS7.c 2))<|sQ 33 (Y_len (B:=B3) (m:=r_.Steps.length) (c:=c4) K9 rfl rfl)<|sQ 34 (ym (vi 0)) (rn ?_)
  obtain ⟨hN,hF2⟩:=chk_inv hF2
  obtain ⟨z,hz,hF3⟩:=bI hF2
  refine cw_block ?_
  let O0:Ob:=⟨aD b2,36,V4,2⟩
  let O1:Ob:=⟨aD b1,28,V2,2⟩
  refine cw_loop (fun k f w=>∃ (i:Nat) (place:List Int) (done:List Bool) (left:Int) (B6:Option Addr) (c7:Nat),FF f [(3,pt (aD b) 0),(4,pt (aD b1) 0),(5,pt (aD b2) 0),(9,.slice B6 place.length c7),(10,.slice (aD b3) c1.Gates.length c1.Gates.length),(11,vi left),(32,.slice B3 r_.Steps.length c4),(33,vi (r_.Steps.length:Int)),(34,vi (i:Int))]∧done.length=c1.Gates.length∧ST w0 [] w [⟨aD b,25,V3,2⟩,O1,O0,⟨B6,3,(place.flatMap encI),c7*1⟩,⟨aD b3,4,(done.flatMap encB),c1.Gates.length*1⟩] [⟨B,(g.Edges.flatMap eN1)⟩,⟨B1,(c1.Gates.flatMap eN2)⟩,⟨B2,(r_.Start.flatMap encI)⟩,⟨B3,(r_.Steps.flatMap eN0)⟩]∧i+k=r_.Steps.length∧forX (F_spec_l23Play_l1 r_ g c1) k i (place,done,left)=some z) r_.Steps.length ⟨0,r_5,(List.replicate c1.Gates.length false),(c1.Gates.length:Int),B5,c6,(fc rfl (fc rfl (fc rfl (fc rfl (fc rfl (fc rfl (fc rfl (fc rfl (fc rfl fn_))))))))),List.length_replicate,(hS7.sel [0,1,2,3,4] rfl rfl),Nat.zero_add _,hz⟩ ?_
  rintro k_ f w ⟨i,place,done,left,B6,c7,hf,hl,hS8,hik,hL⟩
  refine cq (cr ?_)
  refine sQ 35 (yL (i:Int) (r_.Steps.length:Int) rfl (hf.g 34 8) (hf.g 33 7)) (rn (cq ?_))
  refine cw_cond (b:=(decide ((i:Int)<(r_.Steps.length:Int)))) rfl (fun hlt=>?_) (fun hlt=>?_)
  ·skip
   have hlt1:i<r_.Steps.length:=by have h:=of_decide_eq_true hlt; omega
   obtain ⟨K4,rfl⟩:∃ k2,k_=k2+1:=⟨k_-1,by omega⟩
   obtain ⟨y,hb1,hL1⟩:=forX_go hL
   unfold F_spec_l23Play_l1 at hb1
   refine cw_skip (cq ?_)
   obtain ⟨z1,hz1,hF4⟩:=bI hb1
   refine cw_mid (fun f w=>∃ (place1:List Int) (done1:List Bool) (left1:Int) (B7:Option Addr) (c8:Nat),.inl (place1,done1,left1)=z1∧FF f [(3,pt (aD b) 0),(4,pt (aD b1) 0),(5,pt (aD b2) 0),(9,.slice B7 place1.length c8),(10,.slice (aD b3) c1.Gates.length c1.Gates.length),(11,vi left1),(32,.slice B3 r_.Steps.length c4),(33,vi (r_.Steps.length:Int)),(34,vi (i:Int))]∧done1.length=c1.Gates.length∧ST w0 [] w [⟨aD b,25,V3,2⟩,O1,O0,⟨B7,3,(place1.flatMap encI),c8*1⟩,⟨aD b3,4,(done1.flatMap encB),c1.Gates.length*1⟩] [⟨B,(g.Edges.flatMap eN1)⟩,⟨B1,(c1.Gates.flatMap eN2)⟩,⟨B2,(r_.Start.flatMap encI)⟩,⟨B3,(r_.Steps.flatMap eN0)⟩]) ?_ ?_
   ·skip
    refine cw_block (cq (cr ?_))
    refine sQ 36 (ym (vi (i:Int)) rfl (hf.g 34 8)) ?_
    obtain ⟨x,hx,hz1⟩:=bI hz1
    let V5:List Value:=[vi x.Gate,vi x.A,vi x.B]
    refine sQ 37 (Y_index (B:=B3) (m:=r_.Steps.length) (c:=c4) (k:=.i64) (i:=(i:Int)) K9 K8 rfl (hf.g 32 6) (hf.g 34 8) (gi_isSome eN8 rfl (hS8.rf (i:=3) rfl) hx) (getI_nn hx) (getI_ltI hx rfl))<|sQ 38 (ya B3 ((i:Int).toNat*3) (r_.Steps.flatMap eN0) V5 K88 K8 (hS8.rf (i:=3) rfl) rfl rfl (eN8 x) (gi_seg eN8 hx)) ?_
    refine sS 13 (yN [vi 0,vi 0,vi 0] 3 hS8 K23) ?_
    rintro _ w_6 ⟨b4,rfl,hS10⟩
    refine sQ 12 (yg (vi (i:Int))) ?_
    refine s0 (yT 5 3 (aD b4) 60 (.agg V5.toArray) V5 0 hS10 K8) ?_
    rintro _ w_7 ⟨rfl,hS11⟩
    refine rn (cq (cq (cr ?_)))
    refine sQ 39 (yd (aD b4) 0 0 K76 K0)<|sQ 40 (yl (aD b4) 0 V5 (vi x.Gate) K1 (hS11.c 5))<|sQ 41 (yE x.Gate (-1)) (rn ?_)
    refine cw_cond (b:=(x.Gate==(-1))) rfl (fun hb2=>?_) (fun hb2=>?_)
    ·skip
     have hF5:=ct hz1 hb2
     refine cq (cq (cr ?_))
     refine sQ 42 (yb (aD b) 0 V3 K5 K3 (hS11.c 0) rfl (hf.g 3 0))<|sQ 43 (yd (aD b4) 0 0 K105 K0)<|sQ 44 (yl (aD b4) 1 V5 (vi x.A) K1 (hS11.c 5))<|sQ 45 (yd (aD b4) 0 0 K106 K0)<|sQ 46 (yl (aD b4) 2 V5 (vi x.B) K1 (hS11.c 5)) ?_
     obtain ⟨r_6,hc2,hF5⟩:=bI hF5
     refine sc 47 rfl rfl (yC [.agg V3.toArray,vi x.A,vi x.B] K122 (c_spec_l22Edge g x.A x.B B c g.Edges.length _ rfl (hS11.inn0 [(true,0)] rfl) hc2)) ?_
     rintro _ w_8 ⟨rfl,hd2⟩
     have hS12:=hS11.out00 hd2
     refine sQ 48 (Y_not (p:=r_6) rfl rfl) (rn ?_)
     refine cw_cond (b:=(!r_6)) rfl (fun hb3=>?_) (fun hb3=>?_)
     ·skip
      have hF6:=ct hF5 hb3
      refine cq (cr ?_)
      refine sQ 49 (ym (vi (i:Int)))<|sQ 6 (yg (vi 2))<|sQ 7 (yg (vi (i:Int)))<|sQ 8 (yg (.slice none 0 0)) (rn (ct_ ?_))
      have hS13:=hS12.addNil 3
      obtain rfl:=sI hF6
      obtain rfl:=sI hF4
      obtain rfl:=sI hL1
      obtain ⟨rfl,rfl,rfl⟩:=pr3 (sI hF3)
      exact ret3 Try.results29 (v1:=vi 2) (resAt_tmp rfl) (v2:=vi (i:Int)) (resAt_tmp rfl) (v3:=.slice none 0 0) (resAt_tmp rfl) ⟨none,0,rfl,(hS13.sN [6])⟩
     ·skip
      have hF7:=cf' hF5 hb3
      refine cw_skip (cq (cr ?_))
      refine sQ 50 (ym (.slice B6 place.length c7) rfl (hf.g 9 3))<|sQ 51 (yd (aD b4) 0 0 K105 K0)<|sQ 52 (yl (aD b4) 1 V5 (vi x.A) K1 (hS12.c 5))<|sQ 53 (yd (aD b4) 0 0 K106 K0)<|sQ 54 (yl (aD b4) 2 V5 (vi x.B) K1 (hS12.c 5)) ?_
      obtain ⟨r_7,hc3,hF7⟩:=bI hF7
      refine sc 55 rfl rfl (yC [.slice B6 place.length c7,vi x.A,vi x.B] K99 (c_spec_l23Swap place x.A x.B B6 c7 place.length _ rfl (hS12.inn0 [(false,3)] rfl) hc3)) ?_
      rintro _ w_9 ⟨B8,c9,rfl,hd3⟩
      have hS14:=hS12.out0 hd3
      refine sQ 9 (yg (.slice B8 r_7.length c9)) (rn ?_)
      refine cw_exit rfl ?_
      exact ⟨r_7,done,left,B8,c9,(sI hF7),(hf.a 3 0 (hf.a 4 1 (hf.a 5 2 (fc rfl (hf.a 10 4 (hf.a 11 5 (hf.a 32 6 (hf.a 33 7 (hf.a 34 8 fn_))))))))),hl,(hS14.sel [0,1,2,6,4] rfl rfl)⟩
    ·skip
     have hF8:=cf' hz1 hb2
     refine cw_skip (cq (cq (cr ?_)))
     refine sQ 56 (yd (aD b4) 0 0 K105 K0)<|sQ 57 (yl (aD b4) 1 V5 (vi x.A) K1 (hS11.c 5))<|sQ 58 (Y_ne (k:=.i64) (a:=x.A) (b:=0) rfl rfl rfl)<|sQ 59 (ym (.bool (x.A != 0))) ?_
     refine sgq 60 (B:=(!(x.A != 0))) (v:=pt (aD b4) 2) rfl rfl (uF_ 59) (fun hg=>(yd (aD b4) 0 0 K106 K0)) ?_
     refine sgq 61 (B:=(!(x.A != 0))) rfl rfl (uF_ 59) (fun hg1=>(yl (aD b4) 2 V5 (vi x.B) K1 (hS11.c 5) rfl (gv_of (v:=pt (aD b4) 2) hg1))) ?_
     refine sgq 62 (B:=(!(x.A != 0))) rfl rfl (uF_ 59) (fun hg2=>(Y_ne (k:=.i64) (a:=x.B) (b:=0) rfl (gv_of (v:=vi x.B) hg2) rfl)) ?_
     refine sQ 63 (Y_or (b:=(x.A != 0)) (z:=(x.B != 0)) rfl rfl rfl rfl)<|sQ 64 (ym (.bool ((x.A != 0)||(x.B != 0)))) ?_
     refine sgq 65 (B:=(!((x.A != 0)||(x.B != 0)))) (v:=.agg V2.toArray) rfl rfl (uF_ 64) (fun hg3=>(yb (aD b1) 0 V2 K14 K7 (hS11.c 1) rfl (hf.g 4 1))) ?_
     refine sgq 66 (B:=(!((x.A != 0)||(x.B != 0)))) rfl rfl (uF_ 64) (fun hg4=>(ym (.slice (aD b3) c1.Gates.length c1.Gates.length) rfl (hf.g 10 4))) ?_
     refine sgq 67 (B:=(!((x.A != 0)||(x.B != 0)))) (v:=pt (aD b4) 0) rfl rfl (uF_ 64) (fun hg5=>(yd (aD b4) 0 0 K76 K0)) ?_
     refine sgq 68 (B:=(!((x.A != 0)||(x.B != 0)))) rfl rfl (uF_ 64) (fun hg6=>(yl (aD b4) 0 V5 (vi x.Gate) K1 (hS11.c 5) rfl (gv_of (v:=pt (aD b4) 0) hg6))) ?_
     obtain ⟨r_8,hc4,hF8⟩:=bI hF8
     refine sgc 69 (B:=(!((x.A != 0)||(x.B != 0)))) (v:=.bool r_8) (F:=hS11.fn) rfl rfl (uF_ 64) hS11 (fun hg7=>(yC [.agg V2.toArray,.slice (aD b3) c1.Gates.length c1.Gates.length,vi x.Gate] k_call_64 (CV.mono (c_spec_l23Ready c1 done x.Gate B1 c2 c1.Gates.length (aD b3) c1.Gates.length c1.Gates.length _ rfl hl (hS11.inn0 [(true,1),(false,4)] rfl) (gb_inv hc4 hg7)) (by rintro _ _ ⟨rfl,h⟩; exact ⟨rfl,hS11.out00 h⟩)) rfl (mc (gv_of (v:=.agg V2.toArray) hg7) (mc (gv_of (v:=.slice (aD b3) c1.Gates.length c1.Gates.length) hg7) (mc (gv_of (v:=vi x.Gate) hg7) mn))))) ?_
     rintro w_10 hS15
     refine sgq 70 (B:=(!((x.A != 0)||(x.B != 0)))) (v:=.bool (!r_8)) rfl rfl (uF_ 64) (fun hg8=>(Y_not (p:=r_8) rfl (gv_of (v:=.bool r_8) hg8))) ?_
     refine sQ 71 (Y_or (b:=((x.A != 0)||(x.B != 0))) (z:=(!r_8)) rfl rfl rfl rfl) (rn ?_)
     refine cw_cond (b:=(((x.A != 0)||(x.B != 0))||(!r_8))) rfl (fun hb4=>?_) (fun hb4=>?_)
     ·skip
      have hF9:=ct hF8 hb4
      refine cq (cr ?_)
      refine sQ 72 (ym (vi (i:Int)))<|sQ 6 (yg (vi 3))<|sQ 7 (yg (vi (i:Int)))<|sQ 8 (yg (.slice none 0 0)) (rn (ct_ ?_))
      have hS16:=hS15.addNil 3
      obtain rfl:=sI hF9
      obtain rfl:=sI hF4
      obtain rfl:=sI hL1
      obtain ⟨rfl,rfl,rfl⟩:=pr3 (sI hF3)
      exact ret3 Try.results29 (v1:=vi 3) (resAt_tmp rfl) (v2:=vi (i:Int)) (resAt_tmp rfl) (v3:=.slice none 0 0) (resAt_tmp rfl) ⟨none,0,rfl,(hS16.sN [6])⟩
     ·skip
      have hF10:=cf' hF8 hb4
      refine cw_skip (cq (cq ?_))
      obtain ⟨x1,hx1,hF10⟩:=bI hF10
      obtain ⟨r_9,hc5,hF10⟩:=bI hF10
      refine ra_start (hS15.se [0,1,2,3,4,5]).fn (by kernel_rfl) ?_
      have hS18:=hS15.drew
      refine rq 0 73 (v:=.agg V3.toArray) rfl (hS18.se [0,1,2,3,4,5]) (fun w' hw'=>(yb (aD b) 0 V3 K5 K3 (ST.cf hw' (i:=0) rfl) rfl (hf.g 3 0))) ?_
      refine rq 1 74 rfl (hS18.se [0,1,2,3,4,5]) (fun w' hw'=>(ym (.slice B6 place.length c7) rfl (hf.g 9 3))) ?_
      refine rq 2 75 (v:=pt (aD b1) 1) rfl (hS18.se [0,1,2,3,4,5]) (fun w' hw'=>(yd (aD b1) 0 0 K19 K16 rfl (hf.g 4 1))) ?_
      refine rq 3 76 rfl (hS18.se [0,1,2,3,4,5]) (fun w' hw'=>(yl (aD b1) 1 V2 (.slice B1 c1.Gates.length c2) K21 (ST.cf hw' (i:=1) rfl))) ?_
      refine rq 4 77 (v:=pt (aD b4) 0) rfl (hS18.se [0,1,2,3,4,5]) (fun w' hw'=>(yd (aD b4) 0 0 K76 K0)) ?_
      refine rq 5 78 rfl (hS18.se [0,1,2,3,4,5]) (fun w' hw'=>(yl (aD b4) 0 V5 (vi x.Gate) K1 (ST.cf hw' (i:=5) rfl))) ?_
      refine rq 6 79 (v:=pt B1 (x.Gate.toNat*3)) rfl (hS18.se [0,1,2,3,4,5]) (fun w' hw'=>(Y_index (B:=B1) (m:=c1.Gates.length) (c:=c2) (k:=.i64) (i:=x.Gate) K12 K6 rfl rfl rfl (gi_isSome eN9 rfl (ST.rf hw' (i:=1) rfl) hx1) (getI_nn hx1) (getI_ltI hx1 rfl))) ?_
      refine rq 7 80 (v:=.agg #[vi x1.Kind,vi x1.A,vi x1.B]) rfl (hS18.se [0,1,2,3,4,5]) (fun w' hw'=>(ya B1 (x.Gate.toNat*3) (c1.Gates.flatMap eN2) [vi x1.Kind,vi x1.A,vi x1.B] K34 K6 (ST.rf hw' (i:=1) rfl) rfl rfl (eN9 x1) (gi_seg eN9 hx1))) ?_
      refine rA [8] ?_
      refine rC 81 8 rfl (yC [.agg V3.toArray,.slice B6 place.length c7,.agg #[vi x1.Kind,vi x1.A,vi x1.B]] K145 (c_spec_l23Near g place x1 B c g.Edges.length B6 c7 place.length _ rfl rfl (hS18.inn0 [(true,0),(false,3)] rfl) hc5)) ?_ aN
      rintro _ w_11 ⟨rfl,hd4⟩
      have hS19:=hS18.out00 hd4
      refine ⟨(hS19.se [0,1,2,3,4,5]),?_⟩
      refine rq 9 82 (v:=.bool (!r_9)) rfl (hS19.se [0,1,2,3,4,5]) (fun w' hw'=>(Y_not (p:=r_9) rfl rfl)) ?_
      refine ra_done (by kernel_rfl) ?_
      refine cw_cond (b:=(!r_9)) rfl (fun hb5=>?_) (fun hb5=>?_)
      ·skip
       have hF11:=ct hF10 hb5
       refine cq (cr ?_)
       refine sQ 83 (ym (vi (i:Int)))<|sQ 6 (yg (vi 4))<|sQ 7 (yg (vi (i:Int)))<|sQ 8 (yg (.slice none 0 0)) (rn (ct_ ?_))
       have hS20:=hS19.addNil 3
       obtain rfl:=sI hF11
       obtain rfl:=sI hF4
       obtain rfl:=sI hL1
       obtain ⟨rfl,rfl,rfl⟩:=pr3 (sI hF3)
       exact ret3 Try.results29 (v1:=vi 4) (resAt_tmp rfl) (v2:=vi (i:Int)) (resAt_tmp rfl) (v3:=.slice none 0 0) (resAt_tmp rfl) ⟨none,0,rfl,(hS20.sN [6])⟩
      ·skip
       have hF12:=cf' hF10 hb5
       refine cw_skip (cq (cr ?_))
       refine sQ 84 (ym (.slice (aD b3) c1.Gates.length c1.Gates.length) rfl (hf.g 10 4))<|sQ 85 (yd (aD b4) 0 0 K76 K0)<|sQ 86 (yl (aD b4) 0 V5 (vi x.Gate) K1 (hS19.c 5)) ?_
       obtain ⟨x2,hx2,hF12⟩:=bI hF12
       refine sQ 87 (Y_index (B:=aD b3) (m:=c1.Gates.length) (c:=c1.Gates.length) (k:=.i64) (i:=x.Gate) K36 K37 rfl rfl rfl (gi_isSome encB_len rfl (hS19.c 4) hx2) (getI_nn hx2) (getI_ltI hx2 hl)) ?_
       refine s0 (yS 4 1 (aD b3) 4 (.bool true) [.bool true] (x.Gate.toNat*1) ((done.set x.Gate.toNat true).flatMap encB) hS19 K37 rfl rfl rfl rfl rfl rfl rfl (gi_fit0 encB_len hx2) (gi_set encB_len hx2 true rfl)) ?_
       rintro _ w_12 ⟨rfl,hS21⟩
       refine rn (cr ?_)
       refine sQ 88 (ym (vi left) rfl (hf.g 11 5))<|sQ 89 (yM left 1)<|sQ 11 (yg (vi (i64.wrap (left-1)))) (rn ?_)
       exact ⟨place,(done.set x.Gate.toNat true),(i64.wrap (left-1)),B6,c7,(sI hF12),(hf.a 3 0 (hf.a 4 1 (hf.a 5 2 (hf.a 9 3 (hf.a 10 4 (fc rfl (hf.a 32 6 (hf.a 33 7 (hf.a 34 8 fn_))))))))),(set_len _ _ _ hl),(hS21.sel [0,1,2,3,4] rfl rfl)⟩
   rintro f w ⟨place1,done1,left1,B7,c8,rfl,hf1,hl1,hS9⟩
   refine cr ?_
   refine sQ 90 (yP (i:Int) 1 rfl (hf1.g 34 8))<|sQ 34 (ym (vi (i64.wrap ((i:Int)+1)))) (rn ?_)
   obtain rfl:=sI hF4
   exact ⟨K4,Nat.lt_succ_self _,i+1,place1,done1,left1,B7,c8,(hf1.a 3 0 (hf1.a 4 1 (hf1.a 5 2 (hf1.a 9 3 (hf1.a 10 4 (hf1.a 11 5 (hf1.a 32 6 (hf1.a 33 7 (fc (congrArg (Value.int .i64) (wr_succ hlt1 hN)) fn_))))))))),hl1,(hS9.sel [0,1,2,3,4] rfl rfl),(by omega),hL1⟩
  ·skip
   obtain rfl:k_=0:=by have h:=of_decide_eq_false hlt; omega
   refine cw_exit rfl ?_
   obtain rfl:=sI hL
   refine cq (cq (cr ?_))
   refine sQ 91 (ym (vi left) rfl (hf.g 11 5))<|sQ 92 (Y_gt (k:=.i64) (a:=left) (b:=0) rfl rfl rfl) (rn ?_)
   refine cw_cond (b:=(decide (0<left))) rfl (fun hb6=>?_) (fun hb6=>?_)
   ·skip
    have hF13:=ct hF3 hb6
    refine cq ?_
    refine ra_start (hS8.se [0,1,2,3,4]).fn (by kernel_rfl) ?_
    have hS22:=hS8.drew
    refine rq 0 93 (v:=pt (aD b2) 1) rfl (hS22.se [0,1,2,3,4]) (fun w' hw'=>(yd (aD b2) 0 0 K29 K15 rfl (hf.g 5 2))) ?_
    refine rq 1 94 rfl (hS22.se [0,1,2,3,4]) (fun w' hw'=>(yl (aD b2) 1 V4 (.slice B3 r_.Steps.length c4) K31 (ST.cf hw' (i:=2) rfl))) ?_
    refine rq 2 95 (v:=vi (r_.Steps.length:Int)) rfl (hS22.se [0,1,2,3,4]) (fun w' hw'=>(Y_len (B:=B3) (m:=r_.Steps.length) (c:=c4) K9 rfl rfl)) ?_
    refine rq 3 6 rfl (hS22.se [0,1,2,3,4]) (fun w' hw'=>(yg (vi 5))) ?_
    refine rq 4 7 rfl (hS22.se [0,1,2,3,4]) (fun w' hw'=>(yg (vi (r_.Steps.length:Int)))) ?_
    refine rq 5 8 rfl (hS22.se [0,1,2,3,4]) (fun w' hw'=>(yg (.slice none 0 0))) ?_
    refine ra_done (by kernel_rfl) ?_
    refine ct_ ?_
    have hS23:=hS22.addNil 3
    obtain ⟨rfl,rfl,rfl⟩:=pr3 (sI hF13)
    exact ret3 Try.results29 (v1:=vi 5) (resAt_tmp rfl) (v2:=vi (r_.Steps.length:Int)) (resAt_tmp rfl) (v3:=.slice none 0 0) (resAt_tmp rfl) ⟨none,0,rfl,(hS23.sN [5])⟩
   ·skip
    have hF14:=cf' hF3 hb6
    refine cw_skip (cq (cr ?_))
    refine sQ 96 (ym (.slice B6 place.length c7) rfl (hf.g 9 3))<|sQ 6 (yg (vi 0))<|sQ 7 (yg (vi 0))<|sQ 8 (yg (.slice B6 place.length c7)) (rn (ct_ ?_))
    obtain ⟨rfl,rfl,rfl⟩:=pr3 (sI hF14)
    exact ret3 Try.results29 (v1:=vi 0) (resAt_tmp rfl) (v2:=vi 0) (resAt_tmp rfl) (v3:=.slice B6 place.length c7) (resAt_tmp rfl) ⟨B6,c7,rfl,(hS8.sN [3])⟩

theorem c_spec_CheckRoute (g:TCouplingGraph) (c1:TCircuit) (r_:TRoute) (B:Option Addr) (c n:Nat) (B1:Option Addr) (c2 n1:Nat) (B2:Option Addr) (c3 n2:Nat) (B3:Option Addr) (c4 n3:Nat) (w0:World) (hn:g.Edges.length=n) (hn1:c1.Gates.length=n1) (hn2:r_.Start.length=n2) (hq:n2≤c3) (hn3:r_.Steps.length=n3) (hS:ST w0 [] w0 [] [⟨B,(g.Edges.flatMap eN1)⟩,⟨B1,(c1.Gates.flatMap eN2)⟩,⟨B2,(r_.Start.flatMap encI)⟩,⟨B3,(r_.Steps.flatMap eN0)⟩]) {r_1:Int} {r_2:Int} {r_3:Bool} (hF:F_spec_CheckRoute g c1 r_=some (r_1,r_2,r_3)) :
  CV Try.prog 9 #[.agg #[vi g.Nodes,.slice B n c],.agg #[vi c1.Qubits,.slice B1 n1 c2],.agg #[.slice B2 n2 c3,.slice B3 n3 c4]] w0 (fun v w'=>v=.tuple #[vi r_1,vi r_2,.bool r_3]∧ST w0 [] w' [] []):=by
 subst hn
 subst hn1
 subst hn2
 subst hn3
 unfold F_spec_CheckRoute at hF
 refine cv_of_cw 26 Try.func9 rfl Try.ntmps9 rfl ?_
 refine cq (cr ?_)
 let V2:List Value:=[vi g.Nodes,.slice B g.Edges.length c]
 refine sS 3 (yB 25 (.agg V2.toArray) V2 2 hS) ?_
 rintro _ w_ ⟨b,rfl,hS1⟩
 let V0:List Value:=[vi c1.Qubits,.slice B1 c1.Gates.length c2]
 refine sS 4 (yB 28 (.agg V0.toArray) V0 2 hS1) ?_
 rintro _ w_1 ⟨b1,rfl,hS2⟩
 let V1:List Value:=[.slice B2 r_.Start.length c3,.slice B3 r_.Steps.length c4]
 refine sS 5 (yB 36 (.agg V1.toArray) V1 2 hS2) ?_
 rintro _ w_2 ⟨b2,rfl,hS3⟩
 refine sQ 6 (yg (vi 0))<|sQ 7 (yg (vi 0))<|sQ 8 (yg (.bool false)) (rn (cq (cq (cr ?_))))
 refine sQ 12 (yb (aD b) 0 V2 K5 K3 (hS3.c 0))<|sQ 13 (yb (aD b1) 0 V0 K14 K7 (hS3.c 1)) ?_
 obtain ⟨r_4,hc,hF⟩:=bI hF
 refine sc 14 rfl rfl (yC [.agg V2.toArray,.agg V0.toArray] K144 (c_spec_l23Fits g c1 B c g.Edges.length B1 c2 c1.Gates.length _ rfl rfl (hS3.inn0 [(true,0),(true,1)] rfl) hc)) ?_
 rintro _ w_3 ⟨rfl,hd⟩
 have hS4:=hS3.out00 hd
 refine sQ 15 (Y_not (p:=r_4) rfl rfl) (rn ?_)
 refine cw_cond (b:=(!r_4)) rfl (fun hb=>?_) (fun hb=>?_)
 ·skip
  have hF1:=ct hF hb
  refine cq (cr ?_)
  refine sQ 6 (yg (vi 0))<|sQ 7 (yg (vi 0))<|sQ 8 (yg (.bool false)) (rn (ct_ ?_))
  obtain ⟨rfl,rfl,rfl⟩:=pr3 (sI hF1)
  exact ret3 Try.results9 (v1:=vi 0) (resAt_tmp rfl) (v2:=vi 0) (resAt_tmp rfl) (v3:=.bool false) (resAt_tmp rfl) ⟨rfl,(hS4.sN [])⟩
 ·skip
  have hF2:=cf' hF hb
  refine cw_skip (cq (cr ?_))
  refine sQ 17 (yb (aD b) 0 V2 K5 K3 (hS4.c 0))<|sQ 18 (yb (aD b1) 0 V0 K14 K7 (hS4.c 1))<|sQ 19 (yb (aD b2) 0 V1 K32 K13 (hS4.c 2)) ?_
  obtain ⟨⟨r_5,r_6,r_7⟩,hc1,hF2⟩:=bI hF2
  refine sc 20 rfl rfl (yC [.agg V2.toArray,.agg V0.toArray,.agg V1.toArray] k_call_29 (c_spec_l23Play g c1 r_ B c g.Edges.length B1 c2 c1.Gates.length B2 c3 r_.Start.length B3 c4 r_.Steps.length _ rfl rfl rfl hq rfl (hS4.inn0 [(true,0),(true,1),(true,2),(true,3)] rfl) hc1)) ?_
  rintro _ w_4 ⟨B4,c5,rfl,hd1⟩
  have hS5:=hS4.out0 hd1
  refine sQ 16 (ym (.tuple #[vi r_5,vi r_6,.slice B4 r_7.length c5]))<|sQ 21 (ye (vi r_5))<|sQ 22 (ye (vi r_6))<|sQ 23 (ye (.slice B4 r_7.length c5))<|sQ 9 (yg (vi r_5))<|sQ 10 (yg (vi r_6)) ?_
  refine sQ 11 (yg (.slice B4 r_7.length c5)) (rn (cq (cr ?_)))
  refine sQ 24 (ym (vi r_5))<|sQ 25 (ym (vi r_6))<|sQ 6 (yg (vi r_5))<|sQ 7 (yg (vi r_6))<|sQ 8 (yg (.bool true)) (rn (ct_ ?_))
  obtain ⟨rfl,rfl,rfl⟩:=pr3 (sI hF2)
  exact ret3 Try.results9 (v1:=vi r_5) (resAt_tmp rfl) (v2:=vi r_6) (resAt_tmp rfl) (v3:=.bool true) (resAt_tmp rfl) ⟨rfl,(hS5.sN [])⟩

theorem c_impl_RouteFrom (g:TCouplingGraph) (c1:TCircuit) (start:List Int) (B:Option Addr) (c n:Nat) (B1:Option Addr) (c2 n1:Nat) (B2:Option Addr) (c3 n2:Nat) (w0:World) (hn:g.Edges.length=n) (hq:n≤c) (hn1:c1.Gates.length=n1) (hq1:n1≤c2) (hn2:start.length=n2) (hq2:n2≤c3) (hS:ST w0 [] w0 [] [⟨B,(g.Edges.flatMap eN1)⟩,⟨B1,(c1.Gates.flatMap eN2)⟩,⟨B2,(start.flatMap encI)⟩]) {r_:TRoute} {r_1:Bool} (hF:F_impl_RouteFrom g c1 start=some (r_,r_1)) :
  CV Try.prog 10 #[.agg #[vi g.Nodes,.slice B n c],.agg #[vi c1.Qubits,.slice B1 n1 c2],.slice B2 n2 c3] w0 (fun v w'=>∃ (B3:Option Addr) (c4:Nat) (B4:Option Addr) (c5:Nat),v=.tuple #[.agg #[.slice B3 r_.Start.length c4,.slice B4 r_.Steps.length c5],.bool r_1]∧r_.Steps.length≤c5∧Org w0 [] [⟨B,(g.Edges.flatMap eN1)⟩,⟨B1,(c1.Gates.flatMap eN2)⟩,⟨B2,(start.flatMap encI)⟩] [⟨B4,(r_.Steps.flatMap eN0)⟩]∧ST w0 [] w' [⟨B3,3,(r_.Start.flatMap encI),c4*1⟩] [⟨B4,(r_.Steps.flatMap eN0)⟩]):=by
 subst hn
 subst hn1
 subst hn2
 unfold F_impl_RouteFrom at hF
 refine cv_of_cw 14 Try.func10 rfl Try.ntmps10 rfl ?_
 refine cq (cr ?_)
 let V2:List Value:=[vi g.Nodes,.slice B g.Edges.length c]
 refine sS 3 (yB 25 (.agg V2.toArray) V2 2 hS) ?_
 rintro _ w_ ⟨b,rfl,hS1⟩
 let V1:List Value:=[vi c1.Qubits,.slice B1 c1.Gates.length c2]
 refine sS 4 (yB 28 (.agg V1.toArray) V1 2 hS1) ?_
 rintro _ w_1 ⟨b1,rfl,hS2⟩
 refine sS 6 (yN [.slice none 0 0,.slice none 0 0] 2 hS2 K35) ?_
 rintro _ w_2 ⟨b2,rfl,hS3⟩
 refine sQ 7 (yg (.bool false)) (rn (cq (cr ?_)))
 refine sQ 8 (yb (aD b) 0 V2 K5 K3 (hS3.c 0))<|sQ 9 (yb (aD b1) 0 V1 K14 K7 (hS3.c 1))<|sQ 10 (ym (.slice B2 start.length c3)) ?_
 obtain ⟨⟨r_2,r_3⟩,hc,hF⟩:=bI hF
 refine sc 11 rfl rfl (yC [.agg V2.toArray,.agg V1.toArray,.slice B2 start.length c3] k_call_21 (c_impl_leastRoute g c1 start B c g.Edges.length B1 c2 c1.Gates.length B2 c3 start.length _ rfl hq rfl hq1 rfl hq2 (hS3.inn0 [(true,0),(true,1),(true,2)] rfl) hc)) ?_
 rintro _ w_3 ⟨B5,c6,B6,c7,rfl,hq3,ho,hd⟩
 have hS4:=ST.outR0 hS3 hd ho (sk 0 (sk 1 (sk 2 (fun _ h=>by cases h))))
 have ho1:Org w0 [] [⟨B,(g.Edges.flatMap eN1)⟩,⟨B1,(c1.Gates.flatMap eN2)⟩,⟨B2,(start.flatMap encI)⟩] [⟨B6,(r_2.Steps.flatMap eN0)⟩]:=org_trans0 hS3 ho (org_cons (org_mem (i:=0) rfl) (org_cons (org_mem (i:=1) rfl) (org_cons (org_mem (i:=2) rfl) org_nil)))
 have hS5:ST w0 [] _ [⟨aD b,25,V2,2⟩,⟨aD b1,28,V1,2⟩,⟨aD b2,36,[.slice none 0 0,.slice none 0 0],2⟩,⟨B5,3,(r_2.Start.flatMap encI),c6*1⟩] [⟨B6,(r_2.Steps.flatMap eN0)⟩,⟨B,(g.Edges.flatMap eN1)⟩,⟨B1,(c1.Gates.flatMap eN2)⟩,⟨B2,(start.flatMap encI)⟩]:=hS4
 let V0:List Value:=[.slice B5 r_2.Start.length c6,.slice B6 r_2.Steps.length c7]
 refine sQ 12 (ye (.agg V0.toArray))<|sQ 13 (ye (.bool r_3)) ?_
 refine s0 (yT 2 2 (aD b2) 36 (.agg V0.toArray) V0 0 hS5 K13) ?_
 rintro _ w_4 ⟨rfl,hS6⟩
 refine sQ 7 (yg (.bool r_3)) (rn (ct_ ?_))
 obtain ⟨rfl,rfl⟩:=pr2 (sI hF)
 exact ret2 Try.results10 (v1:=.agg V0.toArray) (resAt_cellA (B:=aD b2) (i:=0) (cs:=V0) (vs:=V0) rfl K32 K13 (hS6.c 2) rfl rfl) (v2:=.bool r_3) (resAt_tmp rfl) ⟨B5,c6,B6,c7,rfl,(len_le rfl hq3),(org_cons (org_sub ho1 (sk 0 (fun _ h=>by cases h))) org_nil),((hS6.sel [3] rfl rfl).sT [0])⟩

theorem c_math_bits_Mul64 (x:Int) (y:Int)  (w0:World)  (hS:ST w0 [] w0 [] []) {r_:Int} {r_1:Int} (hF:F_math_bits_Mul64 x y=some (r_,r_1)) :
  CV Try.prog 96 #[.int .u64 x,.int .u64 y] w0 (fun v w'=>v=.tuple #[.int .u64 r_,.int .u64 r_1]∧ST w0 [] w' [] []):=by
 unfold F_math_bits_Mul64 at hF
 refine cv_of_cw 51 Try.func96 rfl Try.ntmps96 rfl ?_
 refine cq (cr ?_)
 refine sQ 4 (yg (.int .u64 0))<|sQ 5 (yg (.int .u64 0)) (rn (cq (cr ?_)))
 refine sQ 14 (ym (.int .u64 x))<|sQ 15 (Y_band (k:=.u64) (a:=x) (b:=4294967295) rfl rfl rfl)<|sQ 6 (yg (.int .u64 (bits .and .u64 x 4294967295))) (rn (cq (cr ?_)))
 refine sQ 16 (ym (.int .u64 x))<|sQ 17 (Y_shr (k:=.u64) (a:=x) (k':=.u64) (b:=32) rfl rfl rfl (by decide))<|sQ 7 (yg (.int .u64 (shrK .u64 x 32))) (rn (cq (cr ?_)))
 refine sQ 18 (ym (.int .u64 y))<|sQ 19 (Y_band (k:=.u64) (a:=y) (b:=4294967295) rfl rfl rfl)<|sQ 8 (yg (.int .u64 (bits .and .u64 y 4294967295))) (rn (cq (cr ?_)))
 refine sQ 20 (ym (.int .u64 y))<|sQ 21 (Y_shr (k:=.u64) (a:=y) (k':=.u64) (b:=32) rfl rfl rfl (by decide))<|sQ 9 (yg (.int .u64 (shrK .u64 y 32))) (rn (cq (cr ?_)))
 refine sQ 22 (ym (.int .u64 (bits .and .u64 x 4294967295)))<|sQ 23 (ym (.int .u64 (bits .and .u64 y 4294967295)))<|sQ 24 (Y_mul (k:=.u64) (a:=(bits .and .u64 x 4294967295)) (b:=(bits .and .u64 y 4294967295)) rfl rfl rfl)<|sQ 10 (yg (.int .u64 (IntKind.u64.wrap ((bits .and .u64 x 4294967295)*(bits .and .u64 y 4294967295))))) (rn (cq (cr ?_)))
 refine sQ 25 (ym (.int .u64 (shrK .u64 x 32)))<|sQ 26 (ym (.int .u64 (bits .and .u64 y 4294967295)))<|sQ 27 (Y_mul (k:=.u64) (a:=(shrK .u64 x 32)) (b:=(bits .and .u64 y 4294967295)) rfl rfl rfl)<|sQ 28 (ym (.int .u64 (IntKind.u64.wrap ((bits .and .u64 x 4294967295)*(bits .and .u64 y 4294967295)))))<|sQ 29 (Y_shr (k:=.u64) (a:=(IntKind.u64.wrap ((bits .and .u64 x 4294967295)*(bits .and .u64 y 4294967295)))) (k':=.u64) (b:=32) rfl rfl rfl (by decide))<|sQ 30 (Y_add (k:=.u64) (a:=(IntKind.u64.wrap ((shrK .u64 x 32)*(bits .and .u64 y 4294967295)))) (b:=(shrK .u64 (IntKind.u64.wrap ((bits .and .u64 x 4294967295)*(bits .and .u64 y 4294967295))) 32)) rfl rfl rfl) ?_
 refine sQ 11 (yg (.int .u64 (IntKind.u64.wrap ((IntKind.u64.wrap ((shrK .u64 x 32)*(bits .and .u64 y 4294967295)))+(shrK .u64 (IntKind.u64.wrap ((bits .and .u64 x 4294967295)*(bits .and .u64 y 4294967295))) 32))))) (rn (cq (cr ?_)))
 refine sQ 31 (ym (.int .u64 (IntKind.u64.wrap ((IntKind.u64.wrap ((shrK .u64 x 32)*(bits .and .u64 y 4294967295)))+(shrK .u64 (IntKind.u64.wrap ((bits .and .u64 x 4294967295)*(bits .and .u64 y 4294967295))) 32)))))<|sQ 32 (Y_band (k:=.u64) (a:=(IntKind.u64.wrap ((IntKind.u64.wrap ((shrK .u64 x 32)*(bits .and .u64 y 4294967295)))+(shrK .u64 (IntKind.u64.wrap ((bits .and .u64 x 4294967295)*(bits .and .u64 y 4294967295))) 32)))) (b:=4294967295) rfl rfl rfl)<|sQ 12 (yg (.int .u64 (bits .and .u64 (IntKind.u64.wrap ((IntKind.u64.wrap ((shrK .u64 x 32)*(bits .and .u64 y 4294967295)))+(shrK .u64 (IntKind.u64.wrap ((bits .and .u64 x 4294967295)*(bits .and .u64 y 4294967295))) 32))) 4294967295))) (rn (cq (cr ?_)))
 refine sQ 33 (ym (.int .u64 (IntKind.u64.wrap ((IntKind.u64.wrap ((shrK .u64 x 32)*(bits .and .u64 y 4294967295)))+(shrK .u64 (IntKind.u64.wrap ((bits .and .u64 x 4294967295)*(bits .and .u64 y 4294967295))) 32)))))<|sQ 34 (Y_shr (k:=.u64) (a:=(IntKind.u64.wrap ((IntKind.u64.wrap ((shrK .u64 x 32)*(bits .and .u64 y 4294967295)))+(shrK .u64 (IntKind.u64.wrap ((bits .and .u64 x 4294967295)*(bits .and .u64 y 4294967295))) 32)))) (k':=.u64) (b:=32) rfl rfl rfl (by decide))<|sQ 13 (yg (.int .u64 (shrK .u64 (IntKind.u64.wrap ((IntKind.u64.wrap ((shrK .u64 x 32)*(bits .and .u64 y 4294967295)))+(shrK .u64 (IntKind.u64.wrap ((bits .and .u64 x 4294967295)*(bits .and .u64 y 4294967295))) 32))) 32))) (rn (cq (cr ?_)))
 refine sQ 35 (ym (.int .u64 (bits .and .u64 (IntKind.u64.wrap ((IntKind.u64.wrap ((shrK .u64 x 32)*(bits .and .u64 y 4294967295)))+(shrK .u64 (IntKind.u64.wrap ((bits .and .u64 x 4294967295)*(bits .and .u64 y 4294967295))) 32))) 4294967295)))<|sQ 36 (ym (.int .u64 (bits .and .u64 x 4294967295)))<|sQ 37 (ym (.int .u64 (shrK .u64 y 32)))<|sQ 38 (Y_mul (k:=.u64) (a:=(bits .and .u64 x 4294967295)) (b:=(shrK .u64 y 32)) rfl rfl rfl)<|sQ 39 (Y_add (k:=.u64) (a:=(bits .and .u64 (IntKind.u64.wrap ((IntKind.u64.wrap ((shrK .u64 x 32)*(bits .and .u64 y 4294967295)))+(shrK .u64 (IntKind.u64.wrap ((bits .and .u64 x 4294967295)*(bits .and .u64 y 4294967295))) 32))) 4294967295)) (b:=(IntKind.u64.wrap ((bits .and .u64 x 4294967295)*(shrK .u64 y 32)))) rfl rfl rfl)<|sQ 12 (yg (.int .u64 (IntKind.u64.wrap ((bits .and .u64 (IntKind.u64.wrap ((IntKind.u64.wrap ((shrK .u64 x 32)*(bits .and .u64 y 4294967295)))+(shrK .u64 (IntKind.u64.wrap ((bits .and .u64 x 4294967295)*(bits .and .u64 y 4294967295))) 32))) 4294967295)+(IntKind.u64.wrap ((bits .and .u64 x 4294967295)*(shrK .u64 y 32))))))) (rn (cq (cr ?_)))
 refine sQ 40 (ym (.int .u64 (shrK .u64 x 32)))<|sQ 41 (ym (.int .u64 (shrK .u64 y 32)))<|sQ 42 (Y_mul (k:=.u64) (a:=(shrK .u64 x 32)) (b:=(shrK .u64 y 32)) rfl rfl rfl)<|sQ 43 (ym (.int .u64 (shrK .u64 (IntKind.u64.wrap ((IntKind.u64.wrap ((shrK .u64 x 32)*(bits .and .u64 y 4294967295)))+(shrK .u64 (IntKind.u64.wrap ((bits .and .u64 x 4294967295)*(bits .and .u64 y 4294967295))) 32))) 32)))<|sQ 44 (Y_add (k:=.u64) (a:=(IntKind.u64.wrap ((shrK .u64 x 32)*(shrK .u64 y 32)))) (b:=(shrK .u64 (IntKind.u64.wrap ((IntKind.u64.wrap ((shrK .u64 x 32)*(bits .and .u64 y 4294967295)))+(shrK .u64 (IntKind.u64.wrap ((bits .and .u64 x 4294967295)*(bits .and .u64 y 4294967295))) 32))) 32)) rfl rfl rfl)<|sQ 45 (ym (.int .u64 (IntKind.u64.wrap ((bits .and .u64 (IntKind.u64.wrap ((IntKind.u64.wrap ((shrK .u64 x 32)*(bits .and .u64 y 4294967295)))+(shrK .u64 (IntKind.u64.wrap ((bits .and .u64 x 4294967295)*(bits .and .u64 y 4294967295))) 32))) 4294967295)+(IntKind.u64.wrap ((bits .and .u64 x 4294967295)*(shrK .u64 y 32))))))) ?_
 refine sQ 46 (Y_shr (k:=.u64) (a:=(IntKind.u64.wrap ((bits .and .u64 (IntKind.u64.wrap ((IntKind.u64.wrap ((shrK .u64 x 32)*(bits .and .u64 y 4294967295)))+(shrK .u64 (IntKind.u64.wrap ((bits .and .u64 x 4294967295)*(bits .and .u64 y 4294967295))) 32))) 4294967295)+(IntKind.u64.wrap ((bits .and .u64 x 4294967295)*(shrK .u64 y 32)))))) (k':=.u64) (b:=32) rfl rfl rfl (by decide))<|sQ 47 (Y_add (k:=.u64) (a:=(IntKind.u64.wrap ((IntKind.u64.wrap ((shrK .u64 x 32)*(shrK .u64 y 32)))+(shrK .u64 (IntKind.u64.wrap ((IntKind.u64.wrap ((shrK .u64 x 32)*(bits .and .u64 y 4294967295)))+(shrK .u64 (IntKind.u64.wrap ((bits .and .u64 x 4294967295)*(bits .and .u64 y 4294967295))) 32))) 32)))) (b:=(shrK .u64 (IntKind.u64.wrap ((bits .and .u64 (IntKind.u64.wrap ((IntKind.u64.wrap ((shrK .u64 x 32)*(bits .and .u64 y 4294967295)))+(shrK .u64 (IntKind.u64.wrap ((bits .and .u64 x 4294967295)*(bits .and .u64 y 4294967295))) 32))) 4294967295)+(IntKind.u64.wrap ((bits .and .u64 x 4294967295)*(shrK .u64 y 32))))) 32)) rfl rfl rfl)<|sQ 4 (yg (.int .u64 (IntKind.u64.wrap ((IntKind.u64.wrap ((IntKind.u64.wrap ((shrK .u64 x 32)*(shrK .u64 y 32)))+(shrK .u64 (IntKind.u64.wrap ((IntKind.u64.wrap ((shrK .u64 x 32)*(bits .and .u64 y 4294967295)))+(shrK .u64 (IntKind.u64.wrap ((bits .and .u64 x 4294967295)*(bits .and .u64 y 4294967295))) 32))) 32)))+(shrK .u64 (IntKind.u64.wrap ((bits .and .u64 (IntKind.u64.wrap ((IntKind.u64.wrap ((shrK .u64 x 32)*(bits .and .u64 y 4294967295)))+(shrK .u64 (IntKind.u64.wrap ((bits .and .u64 x 4294967295)*(bits .and .u64 y 4294967295))) 32))) 4294967295)+(IntKind.u64.wrap ((bits .and .u64 x 4294967295)*(shrK .u64 y 32))))) 32))))) (rn (cq (cr ?_)))
 refine sQ 48 (ym (.int .u64 x))<|sQ 49 (ym (.int .u64 y))<|sQ 50 (Y_mul (k:=.u64) (a:=x) (b:=y) rfl rfl rfl)<|sQ 5 (yg (.int .u64 (IntKind.u64.wrap (x*y)))) (rn (ct_ ?_))
 obtain ⟨rfl,rfl⟩:=pr2 (sI hF)
 exact ret2 Try.results96 (v1:=.int .u64 (IntKind.u64.wrap ((IntKind.u64.wrap ((IntKind.u64.wrap ((shrK .u64 x 32)*(shrK .u64 y 32)))+(shrK .u64 (IntKind.u64.wrap ((IntKind.u64.wrap ((shrK .u64 x 32)*(bits .and .u64 y 4294967295)))+(shrK .u64 (IntKind.u64.wrap ((bits .and .u64 x 4294967295)*(bits .and .u64 y 4294967295))) 32))) 32)))+(shrK .u64 (IntKind.u64.wrap ((bits .and .u64 (IntKind.u64.wrap ((IntKind.u64.wrap ((shrK .u64 x 32)*(bits .and .u64 y 4294967295)))+(shrK .u64 (IntKind.u64.wrap ((bits .and .u64 x 4294967295)*(bits .and .u64 y 4294967295))) 32))) 4294967295)+(IntKind.u64.wrap ((bits .and .u64 x 4294967295)*(shrK .u64 y 32))))) 32)))) (resAt_tmp rfl) (v2:=.int .u64 (IntKind.u64.wrap (x*y))) (resAt_tmp rfl) ⟨rfl,(hS.sN [])⟩

theorem c_math_bits_Mul (x:Int) (y:Int)  (w0:World)  (hS:ST w0 [] w0 [] []) {r_:Int} {r_1:Int} (hF:F_math_bits_Mul x y=some (r_,r_1)) :
  CV Try.prog 90 #[.int .u64 x,.int .u64 y] w0 (fun v w'=>v=.tuple #[.int .u64 r_,.int .u64 r_1]∧ST w0 [] w' [] []):=by
 unfold F_math_bits_Mul at hF
 refine cv_of_cw 30 Try.func90 rfl Try.ntmps90 rfl ?_
 refine cq (cr ?_)
 refine sQ 4 (yg (.int .u64 0))<|sQ 5 (yg (.int .u64 0)) (rn (cq ?_))
 refine cw_cond (b:=false) rfl (fun h=>by cases h) (fun _=>?_)
 refine cw_skip (cq (cr ?_))
 refine sQ 23 (ym (.int .u64 x))<|sQ 24 (ym (.int .u64 y)) ?_
 obtain ⟨⟨r_2,r_3⟩,hc,hF⟩:=bI hF
 refine sc 25 rfl rfl (yC [.int .u64 x,.int .u64 y] k_call_96 (c_math_bits_Mul64 x y _  (hS.inn0 [] rfl) hc)) ?_
 rintro _ w_ ⟨rfl,hd⟩
 have hS1:=hS.out00 hd
 refine sQ 22 (ym (.tuple #[.int .u64 r_2,.int .u64 r_3]))<|sQ 26 (ye (.int .u64 r_2))<|sQ 27 (ye (.int .u64 r_3))<|sQ 8 (yg (.int .u64 r_2))<|sQ 9 (yg (.int .u64 r_3)) (rn (cq (cr ?_)))
 refine sQ 28 (ym (.int .u64 r_2))<|sQ 29 (ym (.int .u64 r_3))<|sQ 4 (yg (.int .u64 r_2))<|sQ 5 (yg (.int .u64 r_3)) (rn (ct_ ?_))
 obtain ⟨rfl,rfl⟩:=pr2 (sI hF)
 exact ret2 Try.results90 (v1:=.int .u64 r_2) (resAt_tmp rfl) (v2:=.int .u64 r_3) (resAt_tmp rfl) ⟨rfl,(hS1.sN [])⟩

theorem c_slices_Repeat_int_int (x:List Int) (count:Int) (B:Option Addr) (c n:Nat) (w0:World) (hn:x.length=n) (hS:ST w0 [] w0 [] [⟨B,(x.flatMap encI)⟩]) {r_:List Int} (hF:F_slices_Repeat_int_int x count=some r_) :
  CV Try.prog 66 #[.slice B n c,vi count] w0 (fun v w'=>∃ (B1:Option Addr) (c1:Nat),v=.slice B1 r_.length c1∧ST w0 [] w' [⟨B1,3,(r_.flatMap encI),c1*1⟩] []):=by
 subst hn
 unfold F_slices_Repeat_int_int at hF
 refine cv_of_cw 48 Try.func66 rfl Try.ntmps66 rfl ?_
 refine cq (cr ?_)
 refine sQ 4 (yg (.slice none 0 0)) (rn (cq (cq (cr ?_))))
 refine sQ 9 (ym (vi count))<|sQ 10 (yL count 0) (rn ?_)
 refine cw_cond (b:=(decide (count<0))) rfl (fun hb=>?_) (fun hb=>?_)
 ·skip
  have hF1:=ct hF hb
  cases hF1
 ·skip
  have hF2:=cf' hF hb
  refine cw_skip (cq (cr ?_))
  refine sQ 13 (ym (.slice B x.length c))<|sQ 14 (Y_len (B:=B) (m:=x.length) (c:=c) K2 rfl rfl)<|sQ 15 (Y_conv (k:=.i64) (a:=(x.length:Int)) (T:=3) (T':=112) K110 K124 rfl rfl)<|sQ 16 (ym (vi count))<|sQ 17 (Y_conv (k:=.i64) (a:=count) (T:=3) (T':=112) K110 K124 rfl rfl) ?_
  obtain ⟨⟨r_1,r_2⟩,hc,hF2⟩:=bI hF2
  refine sc 18 rfl rfl (yC [.int .u64 (IntKind.u64.wrap (x.length:Int)),.int .u64 (IntKind.u64.wrap count)] k_call_90 (c_math_bits_Mul (IntKind.u64.wrap (x.length:Int)) (IntKind.u64.wrap count) _  (hS.inn0 [] rfl) hc)) ?_
  rintro _ w_ ⟨rfl,hd⟩
  have hS1:=hS.out00 hd
  refine sQ 12 (ym (.tuple #[.int .u64 r_1,.int .u64 r_2]))<|sQ 19 (ye (.int .u64 r_1))<|sQ 20 (ye (.int .u64 r_2))<|sQ 5 (yg (.int .u64 r_1))<|sQ 6 (yg (.int .u64 r_2)) (rn (cq (cq (cr ?_))))
  refine sQ 21 (ym (.int .u64 r_1))<|sQ 22 (Y_gt (k:=.u64) (a:=r_1) (b:=0) rfl rfl rfl)<|sQ 23 (ym (.bool (decide (0<r_1)))) ?_
  refine sgq 24 (B:=(!(decide (0<r_1)))) rfl rfl (uF_ 23) (fun hg=>(ym (.int .u64 r_2))) ?_
  refine sgq 25 (B:=(!(decide (0<r_1)))) rfl rfl (uF_ 23) (fun hg1=>(Y_gt (k:=.u64) (a:=r_2) (b:=9223372036854775807) rfl (gv_of (v:=.int .u64 r_2) hg1) rfl)) ?_
  refine sQ 26 (Y_or (b:=(decide (0<r_1))) (z:=(decide (9223372036854775807<r_2))) rfl rfl rfl rfl) (rn ?_)
  refine cw_cond (b:=((decide (0<r_1))||(decide (9223372036854775807<r_2)))) rfl (fun hb1=>?_) (fun hb1=>?_)
  ·skip
   have hF3:=ct hF2 hb1
   cases hF3
  ·skip
   have hF4:=cf' hF2 hb1
   refine cw_skip (cq (cr ?_))
   refine sQ 28 (ym (.int .u64 r_2))<|sQ 29 (Y_conv (k:=.u64) (a:=r_2) (T:=112) (T':=3) k_us_112 K43 rfl rfl) ?_
   obtain ⟨hmk,hF4⟩:=chk_inv hF4
   refine sS 30 (Ys_make (s:=1) (by':=8) (nn:=(i64.wrap r_2).toNat) (a:=(i64.wrap r_2)) (b:=(i64.wrap r_2)) (cs:=((List.replicate ((i64.wrap r_2).toNat) 0).flatMap encI)) hS1 K2 K0 K53 K54 rfl rfl rfl rfl hmk.1 rfl (by have:=hmk; omega) (by have:=hmk; omega) (by omega) (fm_rep (enc:=encI) (d:=0) rfl _)) ?_
   rintro _ w_1 ⟨b,rfl,hS2⟩
   refine sQ 7 (yg (.slice (aD b) ((i64.wrap r_2).toNat) ((i64.wrap r_2).toNat))) (rn (cq (cr ?_)))
   refine sQ 31 (ym (.slice (aD b) ((i64.wrap r_2).toNat) ((i64.wrap r_2).toNat)))<|sQ 32 (ym (.slice B x.length c)) ?_
   refine sS 33 (Ys_copy (enc:=encI) (s:=1) (i:=0) (m:=(i64.wrap r_2).toNat) (c:=(i64.wrap r_2).toNat) (k:=x.length) (B:=aD b) (l:=(List.replicate ((i64.wrap r_2).toNat) 0)) (l':=x) hS2 K2 K0 rfl rfl rfl rfl rfl List.length_replicate encI_len encI_one (hS2.rf (i:=0) rfl) rfl rfl) ?_
   rintro _ w_2 ⟨rfl,hS3⟩
   refine sQ 8 (yg (vi ((min x.length ((i64.wrap r_2).toNat):Nat):Int))) (rn (cq ?_))
   obtain ⟨z,hz,hF5⟩:=bI hF4
   refine cw_block ?_
   refine cw_loop (fun k f w=>∃ (newslice:List Int) (n1:Int),FF f [(7,.slice (aD b) ((i64.wrap r_2).toNat) ((i64.wrap r_2).toNat)),(8,vi n1)]∧newslice.length=(i64.wrap r_2).toNat∧ST w0 [] w [⟨aD b,3,(newslice.flatMap encI),((i64.wrap r_2).toNat)*1⟩] [⟨B,(x.flatMap encI)⟩]∧whX (F_slices_Repeat_int_int_l1 r_2) k (newslice,n1)=some z) fuel ⟨(List.take (min x.length ((i64.wrap r_2).toNat)) x++List.drop (min x.length ((i64.wrap r_2).toNat)) (List.replicate ((i64.wrap r_2).toNat) 0)),((min x.length ((i64.wrap r_2).toNat):Nat):Int),(fc rfl (fc rfl fn_)),(copy_len List.length_replicate rfl),(hS3.sel [0] rfl rfl),hz⟩ ?_
   rintro k_ f w ⟨newslice,n1,hf,hl,hS4,hL⟩
   obtain ⟨K4,y,rfl,hb2,hL1⟩:=whX_go hL
   unfold F_slices_Repeat_int_int_l1 at hb2
   refine cq (cq (cr ?_))
   refine sQ 34 (ym (vi n1) rfl (hf.g 8 1))<|sQ 35 (ym (.slice (aD b) ((i64.wrap r_2).toNat) ((i64.wrap r_2).toNat)) rfl (hf.g 7 0))<|sQ 36 (Y_len (B:=aD b) (m:=(i64.wrap r_2).toNat) (c:=(i64.wrap r_2).toNat) K2 rfl rfl)<|sQ 37 (yL n1 ((i64.wrap r_2).toNat:Int)) (rn ?_)
   refine cw_cond (b:=(decide (n1<((i64.wrap r_2).toNat:Int)))) rfl (fun hb3=>?_) (fun hb3=>?_)
   ·skip
    have hF6:=ct hb2 hb3
    refine cw_skip (cw_block ?_)
    obtain ⟨hsl,hF6⟩:=chk_inv hF6
    have hcap:(i64.wrap r_2).toNat≤(i64.wrap r_2).toNat:=hS4.lencap (i:=0) rfl (fm_lenn (l:=newslice) encI_len hl) rfl rfl
    obtain ⟨hsl1,hF6⟩:=chk_inv hF6
    have hcap1:(i64.wrap r_2).toNat≤(i64.wrap r_2).toNat:=hS4.lencap (i:=0) rfl (fm_lenn (l:=newslice) encI_len hl) rfl rfl
    refine ra_start (hS4.se []).fn (by kernel_rfl) ?_
    have hS5:=hS4.drew
    refine rq 0 38 rfl (hS5.se []) (fun w' hw'=>(ym (vi n1) rfl (hf.g 8 1))) ?_
    refine rq 1 39 rfl (hS5.se []) (fun w' hw'=>(ym (.slice (aD b) ((i64.wrap r_2).toNat) ((i64.wrap r_2).toNat)) rfl (hf.g 7 0))) ?_
    refine rq 2 40 rfl (hS5.se []) (fun w' hw'=>(ym (vi n1) rfl (hf.g 8 1))) ?_
    refine rq 3 41 (v:=.slice (sv (aD b) n1.toNat ((i64.wrap r_2).toNat) 1) (((i64.wrap r_2).toNat)-n1.toNat) (((i64.wrap r_2).toNat)-n1.toNat)) rfl (hS5.se []) (fun w' hw'=>(Y_slice (B:=aD b) (m:=(i64.wrap r_2).toNat) (c:=(i64.wrap r_2).toNat) (l:=n1.toNat) (h:=(i64.wrap r_2).toNat) (q:=(i64.wrap r_2).toNat) (s:=1) K2 K0 rfl rfl rfl rfl ⟨_,_,rfl,(Int.toNat_of_nonneg (by omega)).symm⟩ rfl (by omega) (by omega) (by omega))) ?_
    refine rq 4 42 rfl (hS5.se []) (fun w' hw'=>(ym (.slice (aD b) ((i64.wrap r_2).toNat) ((i64.wrap r_2).toNat)) rfl (hf.g 7 0))) ?_
    refine rq 5 43 rfl (hS5.se []) (fun w' hw'=>(ym (vi n1) rfl (hf.g 8 1))) ?_
    refine rq 6 44 (v:=.slice (sv (aD b) 0 ((i64.wrap r_2).toNat) 1) (n1.toNat-0) (((i64.wrap r_2).toNat)-0)) rfl (hS5.se []) (fun w' hw'=>(Y_slice (B:=aD b) (m:=(i64.wrap r_2).toNat) (c:=(i64.wrap r_2).toNat) (l:=0) (h:=n1.toNat) (q:=(i64.wrap r_2).toNat) (s:=1) K2 K0 rfl rfl rfl ⟨_,_,rfl,(Int.toNat_of_nonneg (by omega)).symm⟩ rfl rfl (by omega) (by omega) (by omega))) ?_
    refine rA [7] ?_
    refine rS 45 7 rfl (Ys_copyAt (enc:=encI) (s:=1) (i:=0) (lo:=n1.toNat) (m:=(i64.wrap r_2).toNat) (c:=(i64.wrap r_2).toNat) (k:=(n1.toNat-0)) (B:=aD b) (l:=newslice) (l':=(List.take n1.toNat newslice)) hS5 K2 K0 rfl rfl rfl rfl rfl hl encI_len encI_one (by rw [sv_zero]; exact CF.pre (hS5.c 0) (pre_take _ _)) (take_len hl (by omega)) (by omega) rfl) ?_ aN
    rintro _ w_3 ⟨rfl,hS6⟩
    refine ⟨(hS6.se []),?_⟩
    refine rq 8 46 rfl (hS6.se []) (fun w' hw'=>(yP n1 ((min (n1.toNat-0) ((i64.wrap r_2).toNat-n1.toNat):Nat):Int))) ?_
    refine rq 9 8 rfl (hS6.se []) (fun w' hw'=>(yg (vi (i64.wrap (n1+((min (n1.toNat-0) ((i64.wrap r_2).toNat-n1.toNat):Nat):Int)))))) ?_
    refine ra_done (by kernel_rfl) ?_
    obtain rfl:=sI hF6
    exact ⟨K4,Nat.lt_succ_self _,(List.take n1.toNat newslice++List.take (min (n1.toNat-0) ((i64.wrap r_2).toNat-n1.toNat)) (List.take n1.toNat newslice)++List.drop (n1.toNat+(min (n1.toNat-0) ((i64.wrap r_2).toNat-n1.toNat))) newslice),(i64.wrap (n1+((min (n1.toNat-0) ((i64.wrap r_2).toNat-n1.toNat):Nat):Int))),(hf.a 7 0 (fc rfl fn_)),(copyAt_len hl (take_len hl (by omega)) (by omega)),(hS6.sel [0] rfl rfl),hL1⟩
   ·skip
    have hF7:=cf' hb2 hb3
    refine cw_exit rfl ?_
    obtain rfl:=sI hF7
    obtain rfl:=sI hL1
    refine cq (cr ?_)
    refine sQ 47 (ym (.slice (aD b) ((i64.wrap r_2).toNat) ((i64.wrap r_2).toNat)) rfl (hf.g 7 0))<|sQ 4 (yg (.slice (aD b) ((i64.wrap r_2).toNat) ((i64.wrap r_2).toNat))) (rn (ct_ ?_))
    obtain rfl:=sI hF5
    exact ret1 Try.results66 (v1:=.slice (aD b) ((i64.wrap r_2).toNat) ((i64.wrap r_2).toNat)) (resAt_tmp rfl) ⟨aD b,(i64.wrap r_2).toNat,(sl_eqv hl),(hS4.sN [0])⟩

theorem c_impl_CouplingGraph_near (g:TCouplingGraph) (node:Int) (B:Option Addr) (c n:Nat) (w0:World) (hn:g.Edges.length=n) (hS:ST w0 [] w0 [] [⟨B,(g.Edges.flatMap eN1)⟩]) {r_:List Int} (hF:F_impl_CouplingGraph_near g node=some r_) :
  CV Try.prog 67 #[.agg #[vi g.Nodes,.slice B n c],vi node] w0 (fun v w'=>∃ (B1:Option Addr) (c1:Nat),v=.slice B1 r_.length c1∧ST w0 [] w' [⟨B1,3,(r_.flatMap encI),c1*1⟩] []):=by
 subst hn
 unfold F_impl_CouplingGraph_near at hF
 refine cv_of_cw 28 Try.func67 rfl Try.ntmps67 rfl ?_
 refine cq (cr ?_)
 let V0:List Value:=[vi g.Nodes,.slice B g.Edges.length c]
 refine sS 2 (yB 25 (.agg V0.toArray) V0 2 hS) ?_
 rintro _ w_ ⟨b,rfl,hS1⟩
 refine sQ 4 (yg (.slice none 0 0)) (rn (cq (cr ?_)))
 refine sS 7 (Ys_bslice0 (s:=1) (e:=3) hS1 K2 K0 rfl) ?_
 rintro _ w_1 ⟨b1,rfl,hS2⟩
 refine sQ 5 (yg (.slice (aD b1) 0 0)) (rn (cq (cq (cr ?_))))
 refine sQ 8 (yd (aD b) 0 0 K49 K0)<|sQ 9 (yl (aD b) 0 V0 (vi g.Nodes) K1 (hS2.c 0))<|sQ 10 (ym (vi 0)) (rn ?_)
 obtain ⟨hN,hF⟩:=chk_inv hF
 obtain ⟨z,hz,hF1⟩:=bI hF
 refine cw_block ?_
 refine cw_loop (fun k f w=>∃ (i:Nat) (out:List Int) (B2:Option Addr) (c2:Nat),FF f [(1,vi node),(2,pt (aD b) 0),(5,.slice B2 out.length c2),(9,vi g.Nodes),(10,vi (i:Int))]∧ST w0 [] w [⟨aD b,25,V0,2⟩,⟨B2,3,(out.flatMap encI),c2*1⟩] [⟨B,(g.Edges.flatMap eN1)⟩]∧i+k=g.Nodes.toNat∧forN (F_impl_CouplingGraph_near_l1 node g) k i out=some z) g.Nodes.toNat ⟨0,[],aD b1,0,(fc rfl (fc rfl (fc rfl (fc rfl (fc rfl fn_))))),(hS2.sel [0,1] rfl rfl),Nat.zero_add _,hz⟩ ?_
 rintro k_ f w ⟨i,out,B2,c2,hf,hS3,hik,hL⟩
 refine cq (cr ?_)
 refine sQ 11 (yL (i:Int) g.Nodes rfl (hf.g 10 4) (hf.g 9 3)) (rn (cq ?_))
 refine cw_cond (b:=(decide ((i:Int)<g.Nodes))) rfl (fun hlt=>?_) (fun hlt=>?_)
 ·skip
  have hlt1:i<g.Nodes.toNat:=by have h:=of_decide_eq_true hlt; omega
  obtain ⟨K4,rfl⟩:∃ k2,k_=k2+1:=⟨k_-1,by omega⟩
  obtain ⟨y,hb,hL1⟩:=forN_go hL
  unfold F_impl_CouplingGraph_near_l1 at hb
  refine cw_skip (cq ?_)
  obtain ⟨z1,hz1,hF2⟩:=bI hb
  refine cw_mid (fun f w=>∃ (out1:List Int) (B3:Option Addr) (c3:Nat),out1=z1∧FF f [(1,vi node),(2,pt (aD b) 0),(5,.slice B3 out1.length c3),(9,vi g.Nodes),(10,vi (i:Int))]∧ST w0 [] w [⟨aD b,25,V0,2⟩,⟨B3,3,(out1.flatMap encI),c3*1⟩] [⟨B,(g.Edges.flatMap eN1)⟩]) ?_ ?_
  ·skip
   refine cw_block (cq (cr ?_))
   refine sQ 12 (ym (vi (i:Int)) rfl (hf.g 10 4))<|sQ 6 (yg (vi (i:Int))) (rn (cq (cr ?_)))
   refine sQ 13 (ym (vi (i:Int)))<|sQ 14 (ym (vi node) rfl (hf.g 1 0))<|sQ 15 (Y_ne (k:=.i64) (a:=(i:Int)) (b:=node) rfl rfl rfl)<|sQ 16 (ym (.bool ((i:Int) != node))) ?_
   refine sgq 17 (B:=((i:Int) != node)) (v:=.agg V0.toArray) rfl rfl (uT_ 16) (fun hg=>(yb (aD b) 0 V0 K5 K3 (hS3.c 0) rfl (hf.g 2 1))) ?_
   refine sgq 18 (B:=((i:Int) != node)) rfl rfl (uT_ 16) (fun hg1=>(ym (vi (i:Int)))) ?_
   refine sgq 19 (B:=((i:Int) != node)) rfl rfl (uT_ 16) (fun hg2=>(ym (vi node) rfl (hf.g 1 0))) ?_
   obtain ⟨r_1,hc,hz1⟩:=bI hz1
   refine sgc 20 (B:=((i:Int) != node)) (v:=.bool r_1) (F:=hS3.fn) rfl rfl (uT_ 16) hS3 (fun hg3=>(yC [.agg V0.toArray,vi (i:Int),vi node] K133 (CV.mono (c_impl_CouplingGraph_joins g (i:Int) node B c g.Edges.length _ rfl (hS3.inn0 [(true,0)] rfl) (gb_inv hc hg3)) (by rintro _ _ ⟨rfl,h⟩; exact ⟨rfl,hS3.out00 h⟩)) rfl (mc (gv_of (v:=.agg V0.toArray) hg3) (mc (gv_of (v:=vi (i:Int)) hg3) (mc (gv_of (v:=vi node) hg3) mn))))) ?_
   rintro w_2 hS5
   refine sQ 21 (Y_and (b:=((i:Int) != node)) (z:=r_1) rfl rfl rfl rfl) (rn ?_)
   refine cw_cond (b:=(((i:Int) != node)&&r_1)) rfl (fun hb1=>?_) (fun hb1=>?_)
   ·skip
    have hF3:=ct hz1 hb1
    refine cr ?_
    refine sQ 22 (ym (.slice B2 out.length c2) rfl (hf.g 5 2))<|sQ 23 (ym (vi (i:Int))) ?_
    refine sS 24 (Ys_bslice (s:=1) (len:=1) (vs:=[(0,vi (i:Int))]) (cs:=[vi (i:Int)]) (zs:=[vi 0]) (m:=1) hS5 K2 K0 K30 rfl (mpc rfl mpn) rfl rfl rfl (by kernel_rfl) (by kernel_rfl) rfl) ?_
    rintro _ w_3 ⟨b2,rfl,hS6⟩
    obtain ⟨hap,hF3⟩:=chk_inv hF3
    refine sS 25 (Ys_append (s:=1) (by':=8) (i:=1) (nn:=out.length) (c:=c2) (k:=1) (len:=(out++[(i:Int)]).length) (B:=B2) (xs:=([(i:Int)].flatMap encI)) (cs':=((out++[(i:Int)]).flatMap encI)) hS6 K2 K0 K53 K54 rfl (by decide) rfl rfl rfl rfl (fm_lenn (l:=out) encI_len rfl) rfl (hS6.c 2) (fm_lenn (l:=[(i:Int)]) encI_len rfl) (fm_one' (enc:=encI) encI_one [(i:Int)]) (by have:=hap; omega) (by have:=hap; simp only [maxLen]; omega) (fm_app _ _) (app_len (l:=out) (l':=[(i:Int)]) rfl rfl)) ?_
    rintro _ w_4 ⟨B4,c4,rfl,hS7⟩
    refine sQ 5 (yg (.slice B4 ((out++[(i:Int)]).length) c4)) (rn ?_)
    exact ⟨(out++[(i:Int)]),B4,c4,(sI hF3),(hf.a 1 0 (hf.a 2 1 (fc rfl (hf.a 9 3 (hf.a 10 4 fn_))))),(hS7.sel [0,1] rfl rfl)⟩
   ·skip
    have hF4:=cf' hz1 hb1
    refine cw_skip ?_
    exact ⟨out,B2,c2,(sI hF4),(hf.a 1 0 (hf.a 2 1 (hf.a 5 2 (hf.a 9 3 (hf.a 10 4 fn_))))),(hS5.sel [0,1] rfl rfl)⟩
  rintro f w ⟨out1,B3,c3,rfl,hf1,hS4⟩
  refine cr ?_
  refine sQ 26 (yP (i:Int) 1 rfl (hf1.g 10 4))<|sQ 10 (ym (vi (i64.wrap ((i:Int)+1)))) (rn ?_)
  obtain rfl:=sI hF2
  exact ⟨K4,Nat.lt_succ_self _,i+1,out1,B3,c3,(hf1.a 1 0 (hf1.a 2 1 (hf1.a 5 2 (hf1.a 9 3 (fc (congrArg (Value.int .i64) (wr_succ hlt1 hN)) fn_))))),(hS4.sel [0,1] rfl rfl),(by omega),hL1⟩
 ·skip
  obtain rfl:k_=0:=by have h:=of_decide_eq_false hlt; omega
  refine cw_exit rfl ?_
  obtain rfl:=sI hL
  refine cq (cr ?_)
  refine sQ 27 (ym (.slice B2 out.length c2) rfl (hf.g 5 2))<|sQ 4 (yg (.slice B2 out.length c2)) (rn (ct_ ?_))
  obtain rfl:=sI hF1
  exact ret1 Try.results67 (v1:=.slice B2 out.length c2) (resAt_tmp rfl) ⟨B2,c2,rfl,(hS3.sN [1])⟩

theorem c_impl_CouplingGraph_distances (g:TCouplingGraph) (node:Int) (B:Option Addr) (c n:Nat) (w0:World) (hn:g.Edges.length=n) (hS:ST w0 [] w0 [] [⟨B,(g.Edges.flatMap eN1)⟩]) {r_:List Int} (hF:F_impl_CouplingGraph_distances g node=some r_) :
  CV Try.prog 32 #[.agg #[vi g.Nodes,.slice B n c],vi node] w0 (fun v w'=>∃ (B1:Option Addr) (c1:Nat),v=.slice B1 r_.length c1∧ST w0 [] w' [⟨B1,3,(r_.flatMap encI),c1*1⟩] []):=by
 subst hn
 unfold F_impl_CouplingGraph_distances at hF
 refine cv_of_cw 58 Try.func32 rfl Try.ntmps32 rfl ?_
 refine cq (cr ?_)
 let V1:List Value:=[vi g.Nodes,.slice B g.Edges.length c]
 refine sS 2 (yB 25 (.agg V1.toArray) V1 2 hS) ?_
 rintro _ w_ ⟨b,rfl,hS1⟩
 refine sQ 4 (yg (.slice none 0 0)) (rn (cq (cr ?_)))
 refine sS 10 (Ys_bslice (s:=1) (len:=1) (vs:=[(0,vi (-1))]) (cs:=[vi (-1)]) (zs:=[vi 0]) (m:=1) hS1 K2 K0 K30 rfl (mpc rfl mpn) rfl rfl rfl (by kernel_rfl) (by kernel_rfl) rfl) ?_
 rintro _ w_1 ⟨b1,rfl,hS2⟩
 refine sQ 11 (yd (aD b) 0 0 K49 K0)<|sQ 12 (yl (aD b) 0 V1 (vi g.Nodes) K1 (hS2.c 0)) ?_
 obtain ⟨r_1,hc,hF⟩:=bI hF
 refine sc 13 rfl rfl (yC [.slice (aD b1) 1 1,vi g.Nodes] k_call_66 (c_slices_Repeat_int_int [(-1)] g.Nodes (aD b1) 1 1 _ rfl (hS2.inn0 [(false,1)] rfl) hc)) ?_
 rintro _ w_2 ⟨B2,c2,rfl,hd⟩
 have hS3:=hS2.out0 hd
 refine sQ 5 (yg (.slice B2 r_1.length c2)) (rn (cq (cr ?_)))
 refine sQ 14 (ym (.slice B2 r_1.length c2))<|sQ 15 (ym (vi node)) ?_
 obtain ⟨x,hx,hF⟩:=bI hF
 refine sQ 16 (Y_index (B:=B2) (m:=r_1.length) (c:=c2) (k:=.i64) (i:=node) K2 K0 rfl rfl rfl (gi_isSome encI_len rfl (hS3.c 2) hx) (getI_nn hx) (getI_ltI hx rfl)) ?_
 refine s0 (yS 2 1 B2 3 (vi 0) [vi 0] (node.toNat*1) ((r_1.set node.toNat 0).flatMap encI) hS3 K0 rfl rfl rfl rfl rfl rfl rfl (gi_fit0 encI_len hx) (gi_set encI_len hx 0 rfl)) ?_
 rintro _ w_3 ⟨rfl,hS4⟩
 refine rn (cq (cr ?_))
 refine sQ 17 (ym (vi node)) ?_
 refine sS 18 (Ys_bslice (s:=1) (len:=1) (vs:=[(0,vi node)]) (cs:=[vi node]) (zs:=[vi 0]) (m:=1) hS4 K2 K0 K30 rfl (mpc rfl mpn) rfl rfl rfl (by kernel_rfl) (by kernel_rfl) rfl) ?_
 rintro _ w_4 ⟨b2,rfl,hS5⟩
 refine sQ 6 (yg (.slice (aD b2) 1 1)) (rn (cq (cq (cr ?_))))
 refine sQ 7 (yg (vi 0)) (rn ?_)
 obtain ⟨z,hz,hF1⟩:=bI hF
 refine cw_block ?_
 let O0:Ob:=⟨aD b,25,V1,2⟩
 refine cw_loop (fun k f w=>∃ (out:List Int) (queue:List Int) (at_1:Int) (B3:Option Addr) (c3:Nat),FF f [(2,pt (aD b) 0),(5,.slice B2 r_1.length c2),(6,.slice B3 queue.length c3),(7,vi at_1)]∧out.length=r_1.length∧ST w0 [] w [O0,⟨B2,3,(out.flatMap encI),c2*1⟩,⟨B3,3,(queue.flatMap encI),c3*1⟩] [⟨B,(g.Edges.flatMap eN1)⟩]∧whX (F_impl_CouplingGraph_distances_l1 g) k (out,queue,at_1)=some z) fuel ⟨(r_1.set node.toNat 0),[node],0,aD b2,1,(fc rfl (fc rfl (fc rfl (fc rfl fn_)))),(set_len _ _ _ rfl),(hS5.sel [0,2,3] rfl rfl),hz⟩ ?_
 rintro k_ f w ⟨out,queue,at_1,B3,c3,hf,hl,hS6,hL⟩
 obtain ⟨K4,y,rfl,hb,hL1⟩:=whX_go hL
 unfold F_impl_CouplingGraph_distances_l1 at hb
 refine cq (cq (cr ?_))
 refine sQ 19 (ym (vi at_1) rfl (hf.g 7 3))<|sQ 20 (ym (.slice B3 queue.length c3) rfl (hf.g 6 2))<|sQ 21 (Y_len (B:=B3) (m:=queue.length) (c:=c3) K2 rfl rfl)<|sQ 22 (yL at_1 (queue.length:Int)) (rn ?_)
 refine cw_cond (b:=(decide (at_1<(queue.length:Int)))) rfl (fun hb1=>?_) (fun hb1=>?_)
 ·skip
  have hF2:=ct hb hb1
  refine cw_skip (cq (cw_block (cq ?_)))
  obtain ⟨x1,hx1,hF2⟩:=bI hF2
  obtain ⟨r_2,hc1,hF2⟩:=bI hF2
  refine ra_start (hS6.se [0,1,2]).fn (by kernel_rfl) ?_
  have hS8:=hS6.drew
  refine rq 0 25 (v:=.agg V1.toArray) rfl (hS8.se [0,1,2]) (fun w' hw'=>(yb (aD b) 0 V1 K5 K3 (ST.cf hw' (i:=0) rfl) rfl (hf.g 2 0))) ?_
  refine rq 1 26 rfl (hS8.se [0,1,2]) (fun w' hw'=>(ym (.slice B3 queue.length c3) rfl (hf.g 6 2))) ?_
  refine rq 2 27 rfl (hS8.se [0,1,2]) (fun w' hw'=>(ym (vi at_1) rfl (hf.g 7 3))) ?_
  refine rq 3 28 (v:=pt B3 (at_1.toNat*1)) rfl (hS8.se [0,1,2]) (fun w' hw'=>(Y_index (B:=B3) (m:=queue.length) (c:=c3) (k:=.i64) (i:=at_1) K2 K0 rfl rfl rfl (gi_isSome encI_len rfl (ST.cf hw' (i:=2) rfl) hx1) (getI_nn hx1) (getI_ltI hx1 rfl))) ?_
  refine rq 4 29 rfl (hS8.se [0,1,2]) (fun w' hw'=>(yl B3 (at_1.toNat*1) (queue.flatMap encI) (vi x1) K1 (ST.cf hw' (i:=2) rfl) rfl rfl (gi_at0 encI_len hx1 rfl))) ?_
  refine rq 7 32 rfl (hS8.se [0,1,2]) (fun w' hw'=>(ym (vi 0))) ?_
  refine rA [5] ?_
  refine rC 30 5 rfl (yC [.agg V1.toArray,vi x1] k_call_67 (c_impl_CouplingGraph_near g x1 B c g.Edges.length _ rfl (hS8.inn0 [(true,0)] rfl) hc1)) ?_ aN
  rintro _ w_5 ⟨B4,c4,rfl,hd1⟩
  have hS9:=hS8.out0 hd1
  refine ⟨(hS9.se [0,1,2]),?_⟩
  refine rq 6 31 (v:=vi (r_2.length:Int)) rfl (hS9.se [0,1,2]) (fun w' hw'=>(Y_len (B:=B4) (m:=r_2.length) (c:=c4) K2 rfl rfl)) ?_
  refine ra_done (by kernel_rfl) ?_
  obtain ⟨hN,hF2⟩:=chk_inv hF2
  obtain ⟨z1,hz1,hF3⟩:=bI hF2
  refine cw_block ?_
  refine cw_loop (fun k f w=>∃ (i1:Nat) (out1:List Int) (queue1:List Int) (B5:Option Addr) (c5:Nat),FF f [(2,pt (aD b) 0),(5,.slice B2 r_1.length c2),(6,.slice B5 queue1.length c5),(7,vi at_1),(30,.slice B4 r_2.length c4),(31,vi (r_2.length:Int)),(32,vi (i1:Int))]∧out1.length=r_1.length∧ST w0 [] w [O0,⟨B2,3,(out1.flatMap encI),c2*1⟩,⟨B5,3,(queue1.flatMap encI),c5*1⟩,⟨B4,3,(r_2.flatMap encI),c4*1⟩] [⟨B,(g.Edges.flatMap eN1)⟩]∧i1+k=r_2.length∧forN (F_impl_CouplingGraph_distances_l2 r_2 at_1) k i1 (out1,queue1)=some z1) r_2.length ⟨0,out,queue,B3,c3,(hf.a 2 0 (hf.a 5 1 (hf.a 6 2 (hf.a 7 3 (fc rfl (fc rfl (fc rfl fn_))))))),hl,(hS9.sel [0,1,2,3] rfl rfl),Nat.zero_add _,hz1⟩ ?_
  rintro K10 f w ⟨i1,out1,queue1,B5,c5,hf1,hl1,hS10,hik1,hL2⟩
  refine cq (cr ?_)
  refine sQ 33 (yL (i1:Int) (r_2.length:Int) rfl (hf1.g 32 6) (hf1.g 31 5)) (rn (cq ?_))
  refine cw_cond (b:=(decide ((i1:Int)<(r_2.length:Int)))) rfl (fun hlt=>?_) (fun hlt=>?_)
  ·skip
   have hlt1:i1<r_2.length:=by have h:=of_decide_eq_true hlt; omega
   obtain ⟨K18,rfl⟩:∃ k2,K10=k2+1:=⟨K10-1,by omega⟩
   obtain ⟨y1,hb2,hL3⟩:=forN_go hL2
   unfold F_impl_CouplingGraph_distances_l2 at hb2
   refine cw_skip (cq ?_)
   obtain ⟨z2,hz2,hF4⟩:=bI hb2
   refine cw_mid (fun f w=>∃ (out2:List Int) (queue2:List Int) (B6:Option Addr) (c6:Nat),(out2,queue2)=z2∧FF f [(2,pt (aD b) 0),(5,.slice B2 r_1.length c2),(6,.slice B6 queue2.length c6),(7,vi at_1),(30,.slice B4 r_2.length c4),(31,vi (r_2.length:Int)),(32,vi (i1:Int))]∧out2.length=r_1.length∧ST w0 [] w [O0,⟨B2,3,(out2.flatMap encI),c2*1⟩,⟨B6,3,(queue2.flatMap encI),c6*1⟩,⟨B4,3,(r_2.flatMap encI),c4*1⟩] [⟨B,(g.Edges.flatMap eN1)⟩]) ?_ ?_
   ·skip
    refine cw_block (cq (cr ?_))
    obtain ⟨x2,hx2,hz2⟩:=bI hz2
    refine sQ 34 (Y_index (B:=B4) (m:=r_2.length) (c:=c4) (k:=.i64) (i:=(i1:Int)) K2 K0 rfl (hf1.g 30 4) (hf1.g 32 6) (gi_isSome encI_len rfl (hS10.c 3) hx2) (getI_nn hx2) (getI_ltI hx2 rfl))<|sQ 35 (yl B4 ((i1:Int).toNat*1) (r_2.flatMap encI) (vi x2) K1 (hS10.c 3) rfl rfl (gi_at0 encI_len hx2 rfl))<|sQ 9 (yg (vi x2)) (rn (cq (cr ?_)))
    refine sQ 36 (ym (.slice B2 r_1.length c2) rfl (hf1.g 5 1))<|sQ 37 (ym (vi x2)) ?_
    obtain ⟨x3,hx3,hz2⟩:=bI hz2
    refine sQ 38 (Y_index (B:=B2) (m:=r_1.length) (c:=c2) (k:=.i64) (i:=x2) K2 K0 rfl rfl rfl (gi_isSome encI_len rfl (hS10.c 1) hx3) (getI_nn hx3) (getI_ltI hx3 hl1))<|sQ 39 (yl B2 (x2.toNat*1) (out1.flatMap encI) (vi x3) K1 (hS10.c 1) rfl rfl (gi_at0 encI_len hx3 rfl))<|sQ 40 (yL x3 0) (rn ?_)
    refine cw_cond (b:=(decide (x3<0))) rfl (fun hb3=>?_) (fun hb3=>?_)
    ·skip
     have hF5:=ct hz2 hb3
     refine cq (cr ?_)
     refine sQ 41 (ym (.slice B2 r_1.length c2) rfl (hf1.g 5 1))<|sQ 42 (ym (vi x2))<|sQ 43 (ym (.slice B2 r_1.length c2) rfl (hf1.g 5 1))<|sQ 44 (ym (.slice B5 queue1.length c5) rfl (hf1.g 6 2))<|sQ 45 (ym (vi at_1) rfl (hf1.g 7 3)) ?_
     obtain ⟨x4,hx4,hF5⟩:=bI hF5
     refine sQ 46 (Y_index (B:=B5) (m:=queue1.length) (c:=c5) (k:=.i64) (i:=at_1) K2 K0 rfl rfl rfl (gi_isSome encI_len rfl (hS10.c 2) hx4) (getI_nn hx4) (getI_ltI hx4 rfl))<|sQ 47 (yl B5 (at_1.toNat*1) (queue1.flatMap encI) (vi x4) K1 (hS10.c 2) rfl rfl (gi_at0 encI_len hx4 rfl)) ?_
     obtain ⟨x5,hx5,hF5⟩:=bI hF5
     refine sQ 48 (Y_index (B:=B2) (m:=r_1.length) (c:=c2) (k:=.i64) (i:=x4) K2 K0 rfl rfl rfl (gi_isSome encI_len rfl (hS10.c 1) hx5) (getI_nn hx5) (getI_ltI hx5 hl1))<|sQ 49 (yl B2 (x4.toNat*1) (out1.flatMap encI) (vi x5) K1 (hS10.c 1) rfl rfl (gi_at0 encI_len hx5 rfl))<|sQ 50 (yP x5 1)<|sQ 51 (Y_index (B:=B2) (m:=r_1.length) (c:=c2) (k:=.i64) (i:=x2) K2 K0 rfl rfl rfl (gi_isSome encI_len rfl (hS10.c 1) hx3) (getI_nn hx3) (getI_ltI hx3 hl1)) ?_
     refine s0 (yS 1 1 B2 3 (vi (i64.wrap (x5+1))) [vi (i64.wrap (x5+1))] (x2.toNat*1) ((out1.set x2.toNat (i64.wrap (x5+1))).flatMap encI) hS10 K0 rfl rfl rfl rfl rfl rfl rfl (gi_fit0 encI_len hx3) (gi_set encI_len hx3 (i64.wrap (x5+1)) rfl)) ?_
     rintro _ w_6 ⟨rfl,hS12⟩
     refine rn (cr ?_)
     refine sQ 52 (ym (.slice B5 queue1.length c5) rfl (hf1.g 6 2))<|sQ 53 (ym (vi x2)) ?_
     refine sS 54 (Ys_bslice (s:=1) (len:=1) (vs:=[(0,vi x2)]) (cs:=[vi x2]) (zs:=[vi 0]) (m:=1) hS12 K2 K0 K30 rfl (mpc rfl mpn) rfl rfl rfl (by kernel_rfl) (by kernel_rfl) rfl) ?_
     rintro _ w_7 ⟨b3,rfl,hS13⟩
     obtain ⟨hap,hF5⟩:=chk_inv hF5
     refine sS 55 (Ys_append (s:=1) (by':=8) (i:=2) (nn:=queue1.length) (c:=c5) (k:=1) (len:=(queue1++[x2]).length) (B:=B5) (xs:=([x2].flatMap encI)) (cs':=((queue1++[x2]).flatMap encI)) hS13 K2 K0 K53 K54 rfl (by decide) rfl rfl rfl rfl (fm_lenn (l:=queue1) encI_len rfl) rfl (hS13.c 4) (fm_lenn (l:=[x2]) encI_len rfl) (fm_one' (enc:=encI) encI_one [x2]) (by have:=hap; omega) (by have:=hap; simp only [maxLen]; omega) (fm_app _ _) (app_len (l:=queue1) (l':=[x2]) rfl rfl)) ?_
     rintro _ w_8 ⟨B7,c7,rfl,hS14⟩
     refine sQ 6 (yg (.slice B7 ((queue1++[x2]).length) c7)) (rn ?_)
     exact ⟨(out1.set x2.toNat (i64.wrap (x5+1))),(queue1++[x2]),B7,c7,(sI hF5),(hf1.a 2 0 (hf1.a 5 1 (fc rfl (hf1.a 7 3 (hf1.a 30 4 (hf1.a 31 5 (hf1.a 32 6 fn_))))))),(set_len _ _ _ hl1),(hS14.sel [0,1,2,3] rfl rfl)⟩
    ·skip
     have hF6:=cf' hz2 hb3
     refine cw_skip ?_
     exact ⟨out1,queue1,B5,c5,(sI hF6),(hf1.a 2 0 (hf1.a 5 1 (hf1.a 6 2 (hf1.a 7 3 (hf1.a 30 4 (hf1.a 31 5 (hf1.a 32 6 fn_))))))),hl1,(hS10.sel [0,1,2,3] rfl rfl)⟩
   rintro f w ⟨out2,queue2,B6,c6,rfl,hf2,hl2,hS11⟩
   refine cr ?_
   refine sQ 56 (yP (i1:Int) 1 rfl (hf2.g 32 6))<|sQ 32 (ym (vi (i64.wrap ((i1:Int)+1)))) (rn ?_)
   obtain rfl:=sI hF4
   exact ⟨K18,Nat.lt_succ_self _,i1+1,out2,queue2,B6,c6,(hf2.a 2 0 (hf2.a 5 1 (hf2.a 6 2 (hf2.a 7 3 (hf2.a 30 4 (hf2.a 31 5 (fc (congrArg (Value.int .i64) (wr_succ hlt1 hN)) fn_))))))),hl2,(hS11.sel [0,1,2,3] rfl rfl),(by omega),hL3⟩
  ·skip
   obtain rfl:K10=0:=by have h:=of_decide_eq_false hlt; omega
   refine cw_exit rfl ?_
   obtain rfl:=sI hL2
   refine cr ?_
   refine sQ 23 (ym (vi at_1) rfl (hf1.g 7 3))<|sQ 24 (yP at_1 1)<|sQ 7 (yg (vi (i64.wrap (at_1+1)))) (rn ?_)
   obtain rfl:=sI hF3
   exact ⟨K4,Nat.lt_succ_self _,out1,queue1,(i64.wrap (at_1+1)),B5,c5,(hf1.a 2 0 (hf1.a 5 1 (hf1.a 6 2 (fc rfl fn_)))),hl1,(hS10.sel [0,1,2] rfl rfl),hL1⟩
 ·skip
  have hF7:=cf' hb hb1
  refine cw_exit rfl ?_
  obtain rfl:=sI hF7
  obtain rfl:=sI hL1
  refine cq (cr ?_)
  refine sQ 57 (ym (.slice B2 r_1.length c2) rfl (hf.g 5 1))<|sQ 4 (yg (.slice B2 r_1.length c2)) (rn (ct_ ?_))
  obtain rfl:=sI hF1
  exact ret1 Try.results32 (v1:=.slice B2 r_1.length c2) (resAt_tmp rfl) ⟨B2,c2,(sl_eqv hl),(hS6.sN [1])⟩

theorem c_impl_SwapBound (g:TCouplingGraph) (c1:TCircuit) (start:List Int) (B:Option Addr) (c n:Nat) (B1:Option Addr) (c2 n1:Nat) (B2:Option Addr) (c3 n2:Nat) (w0:World) (hn:g.Edges.length=n) (hn1:c1.Gates.length=n1) (hn2:start.length=n2) (hq:n2≤c3) (hS:ST w0 [] w0 [] [⟨B,(g.Edges.flatMap eN1)⟩,⟨B1,(c1.Gates.flatMap eN2)⟩,⟨B2,(start.flatMap encI)⟩]) {r_:Int} {r_1:Bool} (hF:F_impl_SwapBound g c1 start=some (r_,r_1)) :
  CV Try.prog 11 #[.agg #[vi g.Nodes,.slice B n c],.agg #[vi c1.Qubits,.slice B1 n1 c2],.slice B2 n2 c3] w0 (fun v w'=>v=.tuple #[vi r_,.bool r_1]∧ST w0 [] w' [] []):=by
 subst hn
 subst hn1
 subst hn2
 unfold F_impl_SwapBound at hF
 refine cv_of_cw 57 Try.func11 rfl Try.ntmps11 rfl ?_
 refine cq (cr ?_)
 let V0:List Value:=[vi g.Nodes,.slice B g.Edges.length c]
 refine sS 3 (yB 25 (.agg V0.toArray) V0 2 hS) ?_
 rintro _ w_ ⟨b,rfl,hS1⟩
 let V1:List Value:=[vi c1.Qubits,.slice B1 c1.Gates.length c2]
 refine sS 4 (yB 28 (.agg V1.toArray) V1 2 hS1) ?_
 rintro _ w_1 ⟨b1,rfl,hS2⟩
 refine sQ 6 (yg (vi 0))<|sQ 7 (yg (.bool false)) (rn (cq (cq (cr ?_))))
 refine sQ 12 (yb (aD b) 0 V0 K5 K3 (hS2.c 0))<|sQ 13 (yb (aD b1) 0 V1 K14 K7 (hS2.c 1)) ?_
 obtain ⟨r_2,hc,hF⟩:=bI hF
 refine sc 14 rfl rfl (yC [.agg V0.toArray,.agg V1.toArray] K119 (c_impl_canRoute g c1 B c g.Edges.length B1 c2 c1.Gates.length _ rfl rfl (hS2.inn0 [(true,0),(true,1)] rfl) hc)) ?_
 rintro _ w_2 ⟨rfl,hd⟩
 have hS3:=hS2.out00 hd
 refine sQ 15 (Y_not (p:=r_2) rfl rfl)<|sQ 16 (ym (.bool (!r_2))) ?_
 refine sgq 17 (B:=(!(!r_2))) (v:=.agg V0.toArray) rfl rfl (uF_ 16) (fun hg=>(yb (aD b) 0 V0 K5 K3 (hS3.c 0))) ?_
 refine sgq 18 (B:=(!(!r_2))) (v:=pt (aD b1) 0) rfl rfl (uF_ 16) (fun hg1=>(yd (aD b1) 0 0 K60 K0)) ?_
 refine sgq 19 (B:=(!(!r_2))) rfl rfl (uF_ 16) (fun hg2=>(yl (aD b1) 0 V1 (vi c1.Qubits) K1 (hS3.c 1) rfl (gv_of (v:=pt (aD b1) 0) hg2))) ?_
 refine sgq 20 (B:=(!(!r_2))) rfl rfl (uF_ 16) (fun hg3=>(ym (.slice B2 start.length c3))) ?_
 obtain ⟨r_3,hc1,hF⟩:=bI hF
 refine sgc 21 (B:=(!(!r_2))) (v:=.bool r_3) (F:=hS3.fn) rfl rfl (uF_ 16) hS3 (fun hg4=>(yC [.agg V0.toArray,vi c1.Qubits,.slice B2 start.length c3] K115 (CV.mono (c_impl_CouplingGraph_isPlacement g c1.Qubits start B c g.Edges.length B2 c3 start.length _ rfl rfl hq (hS3.inn0 [(true,0),(true,2)] rfl) (gb_inv hc1 hg4)) (by rintro _ _ ⟨rfl,h⟩; exact ⟨rfl,hS3.out00 h⟩)) rfl (mc (gv_of (v:=.agg V0.toArray) hg4) (mc (gv_of (v:=vi c1.Qubits) hg4) (mc (gv_of (v:=.slice B2 start.length c3) hg4) mn))))) ?_
 rintro w_3 hS4
 refine sgq 22 (B:=(!(!r_2))) (v:=.bool (!r_3)) rfl rfl (uF_ 16) (fun hg5=>(Y_not (p:=r_3) rfl (gv_of (v:=.bool r_3) hg5))) ?_
 refine sQ 23 (Y_or (b:=(!r_2)) (z:=(!r_3)) rfl rfl rfl rfl) (rn ?_)
 refine cw_cond (b:=((!r_2)||(!r_3))) rfl (fun hb=>?_) (fun hb=>?_)
 ·skip
  have hF1:=ct hF hb
  refine cq (cr ?_)
  refine sQ 6 (yg (vi 0))<|sQ 7 (yg (.bool false)) (rn (ct_ ?_))
  obtain ⟨rfl,rfl⟩:=pr2 (sI hF1)
  exact ret2 Try.results11 (v1:=vi 0) (resAt_tmp rfl) (v2:=.bool false) (resAt_tmp rfl) ⟨rfl,(hS4.sN [])⟩
 ·skip
  have hF2:=cf' hF hb
  refine cw_skip (cq (cr ?_))
  refine sQ 8 (yg (vi 0)) (rn (cq (cq (cr ?_))))
  refine sQ 24 (yd (aD b1) 0 0 K19 K16)<|sQ 25 (yl (aD b1) 1 V1 (.slice B1 c1.Gates.length c2) K21 (hS4.c 1))<|sQ 26 (Y_len (B:=B1) (m:=c1.Gates.length) (c:=c2) K12 rfl rfl)<|sQ 27 (ym (vi 0)) (rn ?_)
  obtain ⟨hN,hF2⟩:=chk_inv hF2
  obtain ⟨z,hz,hF3⟩:=bI hF2
  refine cw_block ?_
  refine cw_loop (fun k f w=>∃ (i:Nat) (bound:Int),FF f [(2,.slice B2 start.length c3),(3,pt (aD b) 0),(8,vi bound),(25,.slice B1 c1.Gates.length c2),(26,vi (c1.Gates.length:Int)),(27,vi (i:Int))]∧ST w0 [] w [⟨aD b,25,V0,2⟩] [⟨B,(g.Edges.flatMap eN1)⟩,⟨B1,(c1.Gates.flatMap eN2)⟩,⟨B2,(start.flatMap encI)⟩]∧i+k=c1.Gates.length∧forX (F_impl_SwapBound_l1 c1 start g) k i bound=some z) c1.Gates.length ⟨0,0,(fc rfl (fc rfl (fc rfl (fc rfl (fc rfl (fc rfl fn_)))))),(hS4.sel [0] rfl rfl),Nat.zero_add _,hz⟩ ?_
  rintro k_ f w ⟨i,bound,hf,hS5,hik,hL⟩
  refine cq (cr ?_)
  refine sQ 28 (yL (i:Int) (c1.Gates.length:Int) rfl (hf.g 27 5) (hf.g 26 4)) (rn (cq ?_))
  refine cw_cond (b:=(decide ((i:Int)<(c1.Gates.length:Int)))) rfl (fun hlt=>?_) (fun hlt=>?_)
  ·skip
   have hlt1:i<c1.Gates.length:=by have h:=of_decide_eq_true hlt; omega
   obtain ⟨K4,rfl⟩:∃ k2,k_=k2+1:=⟨k_-1,by omega⟩
   obtain ⟨y,hb1,hL1⟩:=forX_go hL
   unfold F_impl_SwapBound_l1 at hb1
   refine cw_skip (cq ?_)
   obtain ⟨z1,hz1,hF4⟩:=bI hb1
   refine cw_mid (fun f w=>∃ (bound1:Int),.inl bound1=z1∧FF f [(2,.slice B2 start.length c3),(3,pt (aD b) 0),(8,vi bound1),(25,.slice B1 c1.Gates.length c2),(26,vi (c1.Gates.length:Int)),(27,vi (i:Int))]∧ST w0 [] w [⟨aD b,25,V0,2⟩] [⟨B,(g.Edges.flatMap eN1)⟩,⟨B1,(c1.Gates.flatMap eN2)⟩,⟨B2,(start.flatMap encI)⟩]) ?_ ?_
   ·skip
    refine cw_block (cq (cr ?_))
    obtain ⟨x,hx,hz1⟩:=bI hz1
    let V2:List Value:=[vi x.Kind,vi x.A,vi x.B]
    refine sQ 29 (Y_index (B:=B1) (m:=c1.Gates.length) (c:=c2) (k:=.i64) (i:=(i:Int)) K12 K6 rfl (hf.g 25 3) (hf.g 27 5) (gi_isSome eN9 rfl (hS5.rf (i:=1) rfl) hx) (getI_nn hx) (getI_ltI hx rfl))<|sQ 30 (ya B1 ((i:Int).toNat*3) (c1.Gates.flatMap eN2) V2 K34 K6 (hS5.rf (i:=1) rfl) rfl rfl (eN9 x) (gi_seg eN9 hx)) ?_
    refine sS 10 (yN [vi 0,vi 0,vi 0] 3 hS5 K38) ?_
    rintro _ w_4 ⟨b2,rfl,hS7⟩
    refine s0 (yT 1 3 (aD b2) 56 (.agg V2.toArray) V2 0 hS7 K6) ?_
    rintro _ w_5 ⟨rfl,hS8⟩
    refine rn (cq (cq (cr ?_)))
    refine sQ 31 (yd (aD b2) 0 0 K51 K0)<|sQ 32 (yl (aD b2) 0 V2 (vi x.Kind) K1 (hS8.c 1)) ?_
    obtain ⟨r_4,hc2,hz1⟩:=bI hz1
    refine sc 33 rfl rfl (yC [vi x.Kind] K112 (c_impl_isTwo x.Kind _  (hS8.inn0 [] rfl) hc2)) ?_
    rintro _ w_6 ⟨rfl,hd1⟩
    have hS9:=hS8.out00 hd1
    refine sQ 34 (Y_not (p:=r_4) rfl rfl) (rn ?_)
    refine cw_cond (b:=(!r_4)) rfl (fun hb2=>?_) (fun hb2=>?_)
    ·skip
     have hF5:=ct hz1 hb2
     refine cw_exit rfl ?_
     exact ⟨bound,(sI hF5),(hf.a 2 0 (hf.a 3 1 (hf.a 8 2 (hf.a 25 3 (hf.a 26 4 (hf.a 27 5 fn_)))))),(hS9.sel [0] rfl rfl)⟩
    ·skip
     have hF6:=cf' hz1 hb2
     refine cw_skip (cq ?_)
     obtain ⟨x1,hx1,hF6⟩:=bI hF6
     obtain ⟨r_5,hc3,hF6⟩:=bI hF6
     obtain ⟨x2,hx2,hF6⟩:=bI hF6
     obtain ⟨x3,hx3,hF6⟩:=bI hF6
     refine ra_start (hS9.se [0,1]).fn (by kernel_rfl) ?_
     have hS11:=hS9.drew
     refine rq 0 35 (v:=.agg V0.toArray) rfl (hS11.se [0,1]) (fun w' hw'=>(yb (aD b) 0 V0 K5 K3 (ST.cf hw' (i:=0) rfl) rfl (hf.g 3 1))) ?_
     refine rq 1 36 rfl (hS11.se [0,1]) (fun w' hw'=>(ym (.slice B2 start.length c3) rfl (hf.g 2 0))) ?_
     refine rq 2 37 (v:=pt (aD b2) 1) rfl (hS11.se [0,1]) (fun w' hw'=>(yd (aD b2) 0 0 K44 K0)) ?_
     refine rq 3 38 rfl (hS11.se [0,1]) (fun w' hw'=>(yl (aD b2) 1 V2 (vi x.A) K1 (ST.cf hw' (i:=1) rfl))) ?_
     refine rq 4 39 (v:=pt B2 (x.A.toNat*1)) rfl (hS11.se [0,1]) (fun w' hw'=>(Y_index (B:=B2) (m:=start.length) (c:=c3) (k:=.i64) (i:=x.A) K2 K0 rfl rfl rfl (gi_isSome encI_len rfl (ST.rf hw' (i:=2) rfl) hx1) (getI_nn hx1) (getI_ltI hx1 rfl))) ?_
     refine rq 5 40 rfl (hS11.se [0,1]) (fun w' hw'=>(yl B2 (x.A.toNat*1) (start.flatMap encI) (vi x1) K1 (ST.rf hw' (i:=2) rfl) rfl rfl (gi_at0 encI_len hx1 rfl))) ?_
     refine rq 7 42 rfl (hS11.se [0,1]) (fun w' hw'=>(ym (.slice B2 start.length c3) rfl (hf.g 2 0))) ?_
     refine rq 8 43 (v:=pt (aD b2) 2) rfl (hS11.se [0,1]) (fun w' hw'=>(yd (aD b2) 0 0 K52 K0)) ?_
     refine rq 9 44 rfl (hS11.se [0,1]) (fun w' hw'=>(yl (aD b2) 2 V2 (vi x.B) K1 (ST.cf hw' (i:=1) rfl))) ?_
     refine rq 10 45 (v:=pt B2 (x.B.toNat*1)) rfl (hS11.se [0,1]) (fun w' hw'=>(Y_index (B:=B2) (m:=start.length) (c:=c3) (k:=.i64) (i:=x.B) K2 K0 rfl rfl rfl (gi_isSome encI_len rfl (ST.rf hw' (i:=2) rfl) hx2) (getI_nn hx2) (getI_ltI hx2 rfl))) ?_
     refine rq 11 46 rfl (hS11.se [0,1]) (fun w' hw'=>(yl B2 (x.B.toNat*1) (start.flatMap encI) (vi x2) K1 (ST.rf hw' (i:=2) rfl) rfl rfl (gi_at0 encI_len hx2 rfl))) ?_
     refine rA [6] ?_
     refine rC 41 6 rfl (yC [.agg V0.toArray,vi x1] k_call_32 (c_impl_CouplingGraph_distances g x1 B c g.Edges.length _ rfl (hS11.inn0 [(true,0)] rfl) hc3)) ?_ aN
     rintro _ w_7 ⟨B3,c4,rfl,hd2⟩
     have hS12:=hS11.out0 hd2
     refine ⟨(hS12.se [0,1]),?_⟩
     refine rA [12] ?_
     refine ra_y 47 (i:=12) (v:=pt B3 (x2.toNat*1)) rfl rfl rfl (Y_index (B:=B3) (m:=r_5.length) (c:=c4) (k:=.i64) (i:=x2) K2 K0 rfl rfl rfl (gi_isSome encI_len rfl (hS12.c 2) hx3) (getI_nn hx3) (getI_ltI hx3 rfl)) (hS12.se [0,1]) ?_ aN
     refine rA [13] ?_
     refine ra_y 48 (i:=13) (v:=vi x3) rfl rfl rfl (yl B3 (x2.toNat*1) (r_5.flatMap encI) (vi x3) K1 (hS12.c 2) rfl rfl (gi_at0 encI_len hx3 rfl)) (hS12.se [0,1]) ?_ aN
     refine rq 14 11 rfl (hS12.se [0,1]) (fun w' hw'=>(yg (vi x3))) ?_
     refine ra_done (by kernel_rfl) ?_
     refine cq (cq (cr ?_))
     refine sQ 49 (ym (vi x3))<|sQ 50 (yL x3 0) (rn ?_)
     refine cw_cond (b:=(decide (x3<0))) rfl (fun hb3=>?_) (fun hb3=>?_)
     ·skip
      have hF7:=ct hF6 hb3
      refine cq (cr ?_)
      refine sQ 6 (yg (vi 0))<|sQ 7 (yg (.bool false)) (rn (ct_ ?_))
      obtain rfl:=sI hF7
      obtain rfl:=sI hF4
      obtain rfl:=sI hL1
      obtain ⟨rfl,rfl⟩:=pr2 (sI hF3)
      exact ret2 Try.results11 (v1:=vi 0) (resAt_tmp rfl) (v2:=.bool false) (resAt_tmp rfl) ⟨rfl,(hS12.sN [])⟩
     ·skip
      have hF8:=cf' hF6 hb3
      refine cw_skip (cr ?_)
      refine sQ 51 (ym (vi bound) rfl (hf.g 8 2))<|sQ 52 (ym (vi x3))<|sQ 53 (yM x3 1)<|sQ 54 (Y_max2 (k:=.i64) (a:=bound) (b:=(i64.wrap (x3-1))) rfl rfl rfl)<|sQ 8 (yg (vi (if bound<(i64.wrap (x3-1)) then (i64.wrap (x3-1)) else bound))) (rn ?_)
      exact ⟨(if bound<(i64.wrap (x3-1)) then (i64.wrap (x3-1)) else bound),(sI hF8),(hf.a 2 0 (hf.a 3 1 (fc rfl (hf.a 25 3 (hf.a 26 4 (hf.a 27 5 fn_)))))),(hS12.sel [0] rfl rfl)⟩
   rintro f w ⟨bound1,rfl,hf1,hS6⟩
   refine cr ?_
   refine sQ 55 (yP (i:Int) 1 rfl (hf1.g 27 5))<|sQ 27 (ym (vi (i64.wrap ((i:Int)+1)))) (rn ?_)
   obtain rfl:=sI hF4
   exact ⟨K4,Nat.lt_succ_self _,i+1,bound1,(hf1.a 2 0 (hf1.a 3 1 (hf1.a 8 2 (hf1.a 25 3 (hf1.a 26 4 (fc (congrArg (Value.int .i64) (wr_succ hlt1 hN)) fn_)))))),(hS6.sel [0] rfl rfl),(by omega),hL1⟩
  ·skip
   obtain rfl:k_=0:=by have h:=of_decide_eq_false hlt; omega
   refine cw_exit rfl ?_
   obtain rfl:=sI hL
   refine cq (cr ?_)
   refine sQ 56 (ym (vi bound) rfl (hf.g 8 2))<|sQ 6 (yg (vi bound))<|sQ 7 (yg (.bool true)) (rn (ct_ ?_))
   obtain ⟨rfl,rfl⟩:=pr2 (sI hF3)
   exact ret2 Try.results11 (v1:=vi bound) (resAt_tmp rfl) (v2:=.bool true) (resAt_tmp rfl) ⟨rfl,(hS5.sN [])⟩

theorem c_impl_IsPlacement (g:TCouplingGraph) (n1:Int) (place:List Int) (B:Option Addr) (c n:Nat) (B1:Option Addr) (c1 n2:Nat) (w0:World) (hn:g.Edges.length=n) (hn1:place.length=n2) (hq:n2≤c1) (hS:ST w0 [] w0 [] [⟨B,(g.Edges.flatMap eN1)⟩,⟨B1,(place.flatMap encI)⟩]) {r_:Bool} {r_1:Bool} (hF:F_impl_IsPlacement g n1 place=some (r_,r_1)) :
  CV Try.prog 12 #[.agg #[vi g.Nodes,.slice B n c],vi n1,.slice B1 n2 c1] w0 (fun v w'=>v=.tuple #[.bool r_,.bool r_1]∧ST w0 [] w' [] []):=by
 subst hn
 subst hn1
 unfold F_impl_IsPlacement at hF
 refine cv_of_cw 20 Try.func12 rfl Try.ntmps12 rfl ?_
 refine cq (cr ?_)
 let V0:List Value:=[vi g.Nodes,.slice B g.Edges.length c]
 refine sS 3 (yB 25 (.agg V0.toArray) V0 2 hS) ?_
 rintro _ w_ ⟨b,rfl,hS1⟩
 refine sQ 6 (yg (.bool false))<|sQ 7 (yg (.bool false)) (rn (cq (cq (cr ?_))))
 refine sQ 8 (yb (aD b) 0 V0 K5 K3 (hS1.c 0)) ?_
 obtain ⟨r_2,hc,hF⟩:=bI hF
 refine sc 9 rfl rfl (yC [.agg V0.toArray] k_call_33 (c_impl_IsValidCouplingGraph g B c g.Edges.length _ rfl (hS1.inn0 [(true,0)] rfl) hc)) ?_
 rintro _ w_1 ⟨rfl,hd⟩
 have hS2:=hS1.out00 hd
 refine sQ 10 (Y_not (p:=r_2) rfl rfl)<|sQ 11 (ym (.bool (!r_2))) ?_
 refine sgq 12 (B:=(!(!r_2))) rfl rfl (uF_ 11) (fun hg=>(ym (vi n1))) ?_
 obtain ⟨r_3,hc1,hF⟩:=bI hF
 refine sgc 13 (B:=(!(!r_2))) (v:=.bool r_3) (F:=hS2.fn) rfl rfl (uF_ 11) hS2 (fun hg1=>(yC [vi n1,vi 1,vi 5] K67 (CV.mono (c_impl_within n1 1 5 _  (hS2.inn0 [] rfl) (gb_inv hc1 hg1)) (by rintro _ _ ⟨rfl,h⟩; exact ⟨rfl,hS2.out00 h⟩)) rfl (mc (gv_of (v:=vi n1) hg1) (mc rfl (mc rfl mn))))) ?_
 rintro w_2 hS3
 refine sgq 14 (B:=(!(!r_2))) (v:=.bool (!r_3)) rfl rfl (uF_ 11) (fun hg2=>(Y_not (p:=r_3) rfl (gv_of (v:=.bool r_3) hg2))) ?_
 refine sQ 15 (Y_or (b:=(!r_2)) (z:=(!r_3)) rfl rfl rfl rfl) (rn ?_)
 refine cw_cond (b:=((!r_2)||(!r_3))) rfl (fun hb=>?_) (fun hb=>?_)
 ·skip
  have hF1:=ct hF hb
  refine cq (cr ?_)
  refine sQ 6 (yg (.bool false))<|sQ 7 (yg (.bool false)) (rn (ct_ ?_))
  obtain ⟨rfl,rfl⟩:=pr2 (sI hF1)
  exact ret2 Try.results12 (v1:=.bool false) (resAt_tmp rfl) (v2:=.bool false) (resAt_tmp rfl) ⟨rfl,(hS3.sN [])⟩
 ·skip
  have hF2:=cf' hF hb
  refine cw_skip (cq (cr ?_))
  refine sQ 16 (yb (aD b) 0 V0 K5 K3 (hS3.c 0))<|sQ 17 (ym (vi n1))<|sQ 18 (ym (.slice B1 place.length c1)) ?_
  obtain ⟨r_4,hc2,hF2⟩:=bI hF2
  refine sc 19 rfl rfl (yC [.agg V0.toArray,vi n1,.slice B1 place.length c1] K115 (c_impl_CouplingGraph_isPlacement g n1 place B c g.Edges.length B1 c1 place.length _ rfl rfl hq (hS3.inn0 [(true,0),(true,1)] rfl) hc2)) ?_
  rintro _ w_3 ⟨rfl,hd1⟩
  have hS4:=hS3.out00 hd1
  refine sQ 6 (yg (.bool r_4))<|sQ 7 (yg (.bool true)) (rn (ct_ ?_))
  obtain ⟨rfl,rfl⟩:=pr2 (sI hF2)
  exact ret2 Try.results12 (v1:=.bool r_4) (resAt_tmp rfl) (v2:=.bool true) (resAt_tmp rfl) ⟨rfl,(hS4.sN [])⟩

theorem c_laws_qSwaps (r_:TRoute) (B:Option Addr) (c n:Nat) (B1:Option Addr) (c1 n1:Nat) (w0:World) (hn:r_.Start.length=n) (hn1:r_.Steps.length=n1) (hS:ST w0 [] w0 [] [⟨B,(r_.Start.flatMap encI)⟩,⟨B1,(r_.Steps.flatMap eN0)⟩]) {r_1:Int} (hF:F_laws_qSwaps r_=some r_1) :
  CV Try.prog 13 #[.agg #[.slice B n c,.slice B1 n1 c1]] w0 (fun v w'=>v=vi r_1∧ST w0 [] w' [] []):=by
 subst hn
 subst hn1
 unfold F_laws_qSwaps at hF
 refine cv_of_cw 20 Try.func13 rfl Try.ntmps13 rfl ?_
 refine cq (cr ?_)
 let V0:List Value:=[.slice B r_.Start.length c,.slice B1 r_.Steps.length c1]
 refine sS 1 (yB 36 (.agg V0.toArray) V0 2 hS) ?_
 rintro _ w_ ⟨b,rfl,hS1⟩
 refine sQ 2 (yg (vi 0)) (rn (cq (cr ?_)))
 refine sQ 3 (yg (vi 0)) (rn (cq (cq (cr ?_))))
 refine sQ 6 (yd (aD b) 0 0 K29 K15)<|sQ 7 (yl (aD b) 1 V0 (.slice B1 r_.Steps.length c1) K31 (hS1.c 0))<|sQ 8 (Y_len (B:=B1) (m:=r_.Steps.length) (c:=c1) K9 rfl rfl)<|sQ 9 (ym (vi 0)) (rn ?_)
 obtain ⟨hN,hF⟩:=chk_inv hF
 obtain ⟨z,hz,hF1⟩:=bI hF
 refine cw_block ?_
 refine cw_loop (fun k f w=>∃ (i:Nat) (n2:Int),FF f [(3,vi n2),(7,.slice B1 r_.Steps.length c1),(8,vi (r_.Steps.length:Int)),(9,vi (i:Int))]∧ST w0 [] w [] [⟨B,(r_.Start.flatMap encI)⟩,⟨B1,(r_.Steps.flatMap eN0)⟩]∧i+k=r_.Steps.length∧forN (F_laws_qSwaps_l1 r_) k i n2=some z) r_.Steps.length ⟨0,0,(fc rfl (fc rfl (fc rfl (fc rfl fn_)))),(hS1.sel [] rfl rfl),Nat.zero_add _,hz⟩ ?_
 rintro k_ f w ⟨i,n2,hf,hS2,hik,hL⟩
 refine cq (cr ?_)
 refine sQ 10 (yL (i:Int) (r_.Steps.length:Int) rfl (hf.g 9 3) (hf.g 8 2)) (rn (cq ?_))
 refine cw_cond (b:=(decide ((i:Int)<(r_.Steps.length:Int)))) rfl (fun hlt=>?_) (fun hlt=>?_)
 ·skip
  have hlt1:i<r_.Steps.length:=by have h:=of_decide_eq_true hlt; omega
  obtain ⟨K4,rfl⟩:∃ k2,k_=k2+1:=⟨k_-1,by omega⟩
  obtain ⟨y,hb,hL1⟩:=forN_go hL
  unfold F_laws_qSwaps_l1 at hb
  refine cw_skip (cq ?_)
  obtain ⟨z1,hz1,hF2⟩:=bI hb
  refine cw_mid (fun f w=>∃ (n3:Int),n3=z1∧FF f [(3,vi n3),(7,.slice B1 r_.Steps.length c1),(8,vi (r_.Steps.length:Int)),(9,vi (i:Int))]∧ST w0 [] w [] [⟨B,(r_.Start.flatMap encI)⟩,⟨B1,(r_.Steps.flatMap eN0)⟩]) ?_ ?_
  ·skip
   refine cw_block (cq (cr ?_))
   obtain ⟨x,hx,hz1⟩:=bI hz1
   let V1:List Value:=[vi x.Gate,vi x.A,vi x.B]
   refine sQ 11 (Y_index (B:=B1) (m:=r_.Steps.length) (c:=c1) (k:=.i64) (i:=(i:Int)) K9 K8 rfl (hf.g 7 1) (hf.g 9 3) (gi_isSome eN8 rfl (hS2.rf (i:=1) rfl) hx) (getI_nn hx) (getI_ltI hx rfl))<|sQ 12 (ya B1 ((i:Int).toNat*3) (r_.Steps.flatMap eN0) V1 K88 K8 (hS2.rf (i:=1) rfl) rfl rfl (eN8 x) (gi_seg eN8 hx)) ?_
   refine sS 5 (yN [vi 0,vi 0,vi 0] 3 hS2 K23) ?_
   rintro _ w_1 ⟨b1,rfl,hS4⟩
   refine s0 (yT 0 3 (aD b1) 60 (.agg V1.toArray) V1 0 hS4 K8) ?_
   rintro _ w_2 ⟨rfl,hS5⟩
   refine rn (cq (cr ?_))
   refine sQ 13 (yd (aD b1) 0 0 K76 K0)<|sQ 14 (yl (aD b1) 0 V1 (vi x.Gate) K1 (hS5.c 0))<|sQ 15 (yE x.Gate (-1)) (rn ?_)
   refine cw_cond (b:=(x.Gate==(-1))) rfl (fun hb1=>?_) (fun hb1=>?_)
   ·skip
    have hF3:=ct hz1 hb1
    refine cr ?_
    refine sQ 16 (ym (vi n2) rfl (hf.g 3 0))<|sQ 17 (yP n2 1)<|sQ 3 (yg (vi (i64.wrap (n2+1)))) (rn ?_)
    exact ⟨(i64.wrap (n2+1)),(sI hF3),(fc rfl (hf.a 7 1 (hf.a 8 2 (hf.a 9 3 fn_)))),(hS5.sel [] rfl rfl)⟩
   ·skip
    have hF4:=cf' hz1 hb1
    refine cw_skip ?_
    exact ⟨n2,(sI hF4),(hf.a 3 0 (hf.a 7 1 (hf.a 8 2 (hf.a 9 3 fn_)))),(hS5.sel [] rfl rfl)⟩
  rintro f w ⟨n3,rfl,hf1,hS3⟩
  refine cr ?_
  refine sQ 18 (yP (i:Int) 1 rfl (hf1.g 9 3))<|sQ 9 (ym (vi (i64.wrap ((i:Int)+1)))) (rn ?_)
  obtain rfl:=sI hF2
  exact ⟨K4,Nat.lt_succ_self _,i+1,n3,(hf1.a 3 0 (hf1.a 7 1 (hf1.a 8 2 (fc (congrArg (Value.int .i64) (wr_succ hlt1 hN)) fn_)))),(hS3.sel [] rfl rfl),(by omega),hL1⟩
 ·skip
  obtain rfl:k_=0:=by have h:=of_decide_eq_false hlt; omega
  refine cw_exit rfl ?_
  obtain rfl:=sI hL
  refine cq (cr ?_)
  refine sQ 19 (ym (vi n2) rfl (hf.g 3 0))<|sQ 2 (yg (vi n2)) (rn (ct_ ?_))
  obtain rfl:=sI hF1
  exact ret1 Try.results13 (v1:=vi n2) (resAt_tmp rfl) ⟨rfl,(hS2.sN [])⟩

theorem c_laws_qInts (a:List Int) (b:List Int) (B:Option Addr) (c n:Nat) (B1:Option Addr) (c1 n1:Nat) (w0:World) (hn:a.length=n) (hn1:b.length=n1) (hS:ST w0 [] w0 [] [⟨B,(a.flatMap encI)⟩,⟨B1,(b.flatMap encI)⟩]) {r_:Bool} (hF:F_laws_qInts a b=some r_) :
  CV Try.prog 14 #[.slice B n c,.slice B1 n1 c1] w0 (fun v w'=>v=.bool r_∧ST w0 [] w' [] []):=by
 subst hn
 subst hn1
 unfold F_laws_qInts at hF
 refine cv_of_cw 26 Try.func14 rfl Try.ntmps14 rfl ?_
 refine cq (cr ?_)
 refine sQ 4 (yg (.bool false)) (rn (cq (cq (cr ?_))))
 refine sQ 6 (ym (.slice B a.length c))<|sQ 7 (Y_len (B:=B) (m:=a.length) (c:=c) K2 rfl rfl)<|sQ 8 (ym (.slice B1 b.length c1))<|sQ 9 (Y_len (B:=B1) (m:=b.length) (c:=c1) K2 rfl rfl)<|sQ 10 (Y_ne (k:=.i64) (a:=(a.length:Int)) (b:=(b.length:Int)) rfl rfl rfl) (rn ?_)
 refine cw_cond (b:=((a.length:Int) != (b.length:Int))) rfl (fun hb=>?_) (fun hb=>?_)
 ·skip
  have hF1:=ct hF hb
  refine cq (cr ?_)
  refine sQ 4 (yg (.bool false)) (rn (ct_ ?_))
  obtain rfl:=sI hF1
  exact ret1 Try.results14 (v1:=.bool false) (resAt_tmp rfl) ⟨rfl,(hS.sN [])⟩
 ·skip
  have hF2:=cf' hF hb
  refine cw_skip (cq (cq (cr ?_)))
  refine sQ 11 (ym (.slice B a.length c))<|sQ 12 (Y_len (B:=B) (m:=a.length) (c:=c) K2 rfl rfl)<|sQ 13 (ym (vi 0)) (rn ?_)
  obtain ⟨hN,hF2⟩:=chk_inv hF2
  obtain ⟨z,hz,hF3⟩:=bI hF2
  refine cw_block ?_
  refine cw_loop (fun k f w=>∃ (i:Nat),FF f [(0,.slice B a.length c),(1,.slice B1 b.length c1),(12,vi (a.length:Int)),(13,vi (i:Int))]∧ST w0 [] w [] [⟨B,(a.flatMap encI)⟩,⟨B1,(b.flatMap encI)⟩]∧i+k=a.length∧forX (F_laws_qInts_l1 a b) k i ()=some z) a.length ⟨0,(fc rfl (fc rfl (fc rfl (fc rfl fn_)))),(hS.sel [] rfl rfl),Nat.zero_add _,hz⟩ ?_
  rintro k_ f w ⟨i,hf,hS1,hik,hL⟩
  refine cq (cr ?_)
  refine sQ 14 (yL (i:Int) (a.length:Int) rfl (hf.g 13 3) (hf.g 12 2)) (rn (cq ?_))
  refine cw_cond (b:=(decide ((i:Int)<(a.length:Int)))) rfl (fun hlt=>?_) (fun hlt=>?_)
  ·skip
   have hlt1:i<a.length:=by have h:=of_decide_eq_true hlt; omega
   obtain ⟨K4,rfl⟩:∃ k2,k_=k2+1:=⟨k_-1,by omega⟩
   obtain ⟨y,hb1,hL1⟩:=forX_go hL
   unfold F_laws_qInts_l1 at hb1
   refine cw_skip (cq (cw_block (cq (cr ?_))))
   refine sQ 15 (ym (vi (i:Int)) rfl (hf.g 13 3))<|sQ 5 (yg (vi (i:Int))) (rn (cq ?_))
   obtain ⟨x,hx,hb1⟩:=bI hb1
   obtain ⟨x1,hx1,hb1⟩:=bI hb1
   refine ra_start (hS1.se []).fn (by kernel_rfl) ?_
   have hS2:=hS1.drew
   refine rq 0 16 rfl (hS2.se []) (fun w' hw'=>(ym (.slice B a.length c) rfl (hf.g 0 0))) ?_
   refine rq 1 17 rfl (hS2.se []) (fun w' hw'=>(ym (vi (i:Int)))) ?_
   refine rq 2 18 (v:=pt B ((i:Int).toNat*1)) rfl (hS2.se []) (fun w' hw'=>(Y_index (B:=B) (m:=a.length) (c:=c) (k:=.i64) (i:=(i:Int)) K2 K0 rfl rfl rfl (gi_isSome encI_len rfl (ST.rf hw' (i:=0) rfl) hx) (getI_nn hx) (getI_ltI hx rfl))) ?_
   refine rq 3 19 rfl (hS2.se []) (fun w' hw'=>(yl B ((i:Int).toNat*1) (a.flatMap encI) (vi x) K1 (ST.rf hw' (i:=0) rfl) rfl rfl (gi_at0 encI_len hx rfl))) ?_
   refine rq 4 20 rfl (hS2.se []) (fun w' hw'=>(ym (.slice B1 b.length c1) rfl (hf.g 1 1))) ?_
   refine rq 5 21 rfl (hS2.se []) (fun w' hw'=>(ym (vi (i:Int)))) ?_
   refine rq 6 22 (v:=pt B1 ((i:Int).toNat*1)) rfl (hS2.se []) (fun w' hw'=>(Y_index (B:=B1) (m:=b.length) (c:=c1) (k:=.i64) (i:=(i:Int)) K2 K0 rfl rfl rfl (gi_isSome encI_len rfl (ST.rf hw' (i:=1) rfl) hx1) (getI_nn hx1) (getI_ltI hx1 rfl))) ?_
   refine rq 7 23 rfl (hS2.se []) (fun w' hw'=>(yl B1 ((i:Int).toNat*1) (b.flatMap encI) (vi x1) K1 (ST.rf hw' (i:=1) rfl) rfl rfl (gi_at0 encI_len hx1 rfl))) ?_
   refine rq 8 24 rfl (hS2.se []) (fun w' hw'=>(Y_ne (k:=.i64) (a:=x) (b:=x1) rfl rfl rfl)) ?_
   refine ra_done (by kernel_rfl) ?_
   refine cw_cond (b:=(x != x1)) rfl (fun hb2=>?_) (fun hb2=>?_)
   ·skip
    have hF4:=ct hb1 hb2
    refine cq (cr ?_)
    refine sQ 4 (yg (.bool false)) (rn (ct_ ?_))
    obtain rfl:=sI hF4
    obtain rfl:=sI hL1
    obtain rfl:=sI hF3
    exact ret1 Try.results14 (v1:=.bool false) (resAt_tmp rfl) ⟨rfl,(hS2.sN [])⟩
   ·skip
    have hF5:=cf' hb1 hb2
    refine cw_skip (cr ?_)
    refine sQ 25 (yP (i:Int) 1 rfl (hf.g 13 3))<|sQ 13 (ym (vi (i64.wrap ((i:Int)+1)))) (rn ?_)
    obtain rfl:=sI hF5
    exact ⟨K4,Nat.lt_succ_self _,i+1,(hf.a 0 0 (hf.a 1 1 (hf.a 12 2 (fc (congrArg (Value.int .i64) (wr_succ hlt1 hN)) fn_)))),(hS2.sel [] rfl rfl),(by omega),hL1⟩
  ·skip
   obtain rfl:k_=0:=by have h:=of_decide_eq_false hlt; omega
   refine cw_exit rfl ?_
   obtain rfl:=sI hL
   refine cq (cr ?_)
   refine sQ 4 (yg (.bool true)) (rn (ct_ ?_))
   obtain rfl:=sI hF3
   exact ret1 Try.results14 (v1:=.bool true) (resAt_tmp rfl) ⟨rfl,(hS1.sN [])⟩

theorem c_impl_CouplingGraph_path (g:TCouplingGraph) (a:Int) (b:Int) (B:Option Addr) (c n:Nat) (w0:World) (hn:g.Edges.length=n) (hS:ST w0 [] w0 [] [⟨B,(g.Edges.flatMap eN1)⟩]) {r_:List Int} (hF:F_impl_CouplingGraph_path g a b=some r_) :
  CV Try.prog 38 #[.agg #[vi g.Nodes,.slice B n c],vi a,vi b] w0 (fun v w'=>∃ (B1:Option Addr) (c1:Nat),v=.slice B1 r_.length c1∧B1.isNone=decide (r_=[])∧ST w0 [] w' [⟨B1,3,(r_.flatMap encI),c1*1⟩] []):=by
 subst hn
 unfold F_impl_CouplingGraph_path at hF
 refine cv_of_cw 49 Try.func38 rfl Try.ntmps38 rfl ?_
 refine cq (cr ?_)
 let V2:List Value:=[vi g.Nodes,.slice B g.Edges.length c]
 refine sS 3 (yB 25 (.agg V2.toArray) V2 2 hS) ?_
 rintro _ w_ ⟨b1,rfl,hS1⟩
 refine sQ 6 (yg (.slice none 0 0)) (rn (cq (cr ?_)))
 refine sQ 11 (yb (aD b1) 0 V2 K5 K3 (hS1.c 0))<|sQ 12 (ym (vi b)) ?_
 obtain ⟨r_1,hc,hF⟩:=bI hF
 refine sc 13 rfl rfl (yC [.agg V2.toArray,vi b] k_call_32 (c_impl_CouplingGraph_distances g b B c g.Edges.length _ rfl (hS1.inn0 [(true,0)] rfl) hc)) ?_
 rintro _ w_1 ⟨B2,c2,rfl,hd⟩
 have hS2:=hS1.out0 hd
 refine sQ 7 (yg (.slice B2 r_1.length c2)) (rn (cq (cq (cr ?_))))
 refine sQ 14 (ym (.slice B2 r_1.length c2))<|sQ 15 (ym (vi a)) ?_
 obtain ⟨x,hx,hF⟩:=bI hF
 refine sQ 16 (Y_index (B:=B2) (m:=r_1.length) (c:=c2) (k:=.i64) (i:=a) K2 K0 rfl rfl rfl (gi_isSome encI_len rfl (hS2.c 1) hx) (getI_nn hx) (getI_ltI hx rfl))<|sQ 17 (yl B2 (a.toNat*1) (r_1.flatMap encI) (vi x) K1 (hS2.c 1) rfl rfl (gi_at0 encI_len hx rfl))<|sQ 18 (yL x 0) (rn ?_)
 refine cw_cond (b:=(decide (x<0))) rfl (fun hb=>?_) (fun hb=>?_)
 ·skip
  have hF1:=ct hF hb
  refine cq (cr ?_)
  refine sQ 6 (yg (.slice none 0 0)) (rn (ct_ ?_))
  have hS3:=hS2.addNil 3
  obtain rfl:=sI hF1
  exact ret1 Try.results38 (v1:=.slice none 0 0) (resAt_tmp rfl) ⟨none,0,rfl,rfl,(hS3.sN [2])⟩
 ·skip
  have hF2:=cf' hF hb
  refine cw_skip (cq (cr ?_))
  refine sQ 19 (ym (vi a)) ?_
  refine sS 20 (Ys_bslice (s:=1) (len:=1) (vs:=[(0,vi a)]) (cs:=[vi a]) (zs:=[vi 0]) (m:=1) hS2 K2 K0 K30 rfl (mpc rfl mpn) rfl rfl rfl (by kernel_rfl) (by kernel_rfl) rfl) ?_
  rintro _ w_2 ⟨b2,rfl,hS4⟩
  refine sQ 8 (yg (.slice (aD b2) 1 1)) (rn (cq ?_))
  obtain ⟨z,hz,hF3⟩:=bI hF2
  refine cw_block ?_
  let O0:Ob:=⟨aD b1,25,V2,2⟩
  let O1:Ob:=⟨B2,3,(r_1.flatMap encI),c2*1⟩
  refine cw_loop (fun k f w=>∃ (a1:Int) (out:List Int) (B3:Option Addr) (c3:Nat),FF f [(1,vi a1),(2,vi b),(3,pt (aD b1) 0),(7,.slice B2 r_1.length c2),(8,.slice B3 out.length c3)]∧ST w0 [] w [O0,O1,⟨B3,3,(out.flatMap encI),c3*1⟩] [⟨B,(g.Edges.flatMap eN1)⟩]∧whX (F_impl_CouplingGraph_path_l1 b g r_1) k (a1,out)=some z) fuel ⟨a,[a],aD b2,1,(fc rfl (fc rfl (fc rfl (fc rfl (fc rfl fn_))))),(hS4.sel [0,1,2] rfl rfl),hz⟩ ?_
  rintro k_ f w ⟨a1,out,B3,c3,hf,hS5,hL⟩
  obtain ⟨K4,y,rfl,hb1,hL1⟩:=whX_go hL
  unfold F_impl_CouplingGraph_path_l1 at hb1
  refine cq (cq (cr ?_))
  refine sQ 21 (ym (vi a1) rfl (hf.g 1 0))<|sQ 22 (ym (vi b) rfl (hf.g 2 1))<|sQ 23 (Y_ne (k:=.i64) (a:=a1) (b:=b) rfl rfl rfl) (rn ?_)
  refine cw_cond (b:=(a1 != b)) rfl (fun hb2=>?_) (fun hb2=>?_)
  ·skip
   have hF4:=ct hb1 hb2
   refine cw_skip (cw_block (cq (cq (cr ?_))))
   refine sQ 24 (yb (aD b1) 0 V2 K5 K3 (hS5.c 0) rfl (hf.g 3 2))<|sQ 25 (ym (vi a1) rfl (hf.g 1 0)) ?_
   obtain ⟨r_2,hc1,hF4⟩:=bI hF4
   refine sc 26 rfl rfl (yC [.agg V2.toArray,vi a1] k_call_67 (c_impl_CouplingGraph_near g a1 B c g.Edges.length _ rfl (hS5.inn0 [(true,0)] rfl) hc1)) ?_
   rintro _ w_3 ⟨B4,c4,rfl,hd1⟩
   have hS6:=hS5.out0 hd1
   refine sQ 27 (Y_len (B:=B4) (m:=r_2.length) (c:=c4) K2 rfl rfl)<|sQ 28 (ym (vi 0)) (rn ?_)
   obtain ⟨hN,hF4⟩:=chk_inv hF4
   obtain ⟨z1,hz1,hF5⟩:=bI hF4
   let P3:List Ob:=[O0,O1,⟨B3,3,(out.flatMap encI),c3*1⟩,⟨B4,3,(r_2.flatMap encI),c4*1⟩]
   refine cw_mid (fun f w=>∃ (a2:Int),.inl a2=z1∧FF f [(1,vi a2),(2,vi b),(3,pt (aD b1) 0),(7,.slice B2 r_1.length c2),(8,.slice B3 out.length c3)]∧ST w0 [] w P3 [⟨B,(g.Edges.flatMap eN1)⟩]) ?_ ?_
   ·skip
    refine cw_block ?_
    refine cw_loop (fun k f w=>∃ (i:Nat) (a3:Int),FF f [(1,vi a3),(2,vi b),(3,pt (aD b1) 0),(7,.slice B2 r_1.length c2),(8,.slice B3 out.length c3),(26,.slice B4 r_2.length c4),(27,vi (r_2.length:Int)),(28,vi (i:Int))]∧ST w0 [] w P3 [⟨B,(g.Edges.flatMap eN1)⟩]∧i+k=r_2.length∧forX (F_impl_CouplingGraph_path_l2 r_2 r_1) k i a3=some z1) r_2.length ⟨0,a1,(hf.a 1 0 (hf.a 2 1 (hf.a 3 2 (hf.a 7 3 (hf.a 8 4 (fc rfl (fc rfl (fc rfl fn_)))))))),(hS6.sel [0,1,2,3] rfl rfl),Nat.zero_add _,hz1⟩ ?_
    rintro K10 f w ⟨i,a3,hf2,hS8,hik1,hL2⟩
    refine cq (cr ?_)
    refine sQ 29 (yL (i:Int) (r_2.length:Int) rfl (hf2.g 28 7) (hf2.g 27 6)) (rn (cq ?_))
    refine cw_cond (b:=(decide ((i:Int)<(r_2.length:Int)))) rfl (fun hlt=>?_) (fun hlt=>?_)
    ·skip
     have hlt1:i<r_2.length:=by have h:=of_decide_eq_true hlt; omega
     obtain ⟨K18,rfl⟩:∃ k2,K10=k2+1:=⟨K10-1,by omega⟩
     obtain ⟨y1,hb3,hL3⟩:=forX_go hL2
     unfold F_impl_CouplingGraph_path_l2 at hb3
     refine cw_skip (cq (cw_block (cq (cr ?_))))
     obtain ⟨x1,hx1,hb3⟩:=bI hb3
     refine sQ 30 (Y_index (B:=B4) (m:=r_2.length) (c:=c4) (k:=.i64) (i:=(i:Int)) K2 K0 rfl (hf2.g 26 5) (hf2.g 28 7) (gi_isSome encI_len rfl (hS8.c 3) hx1) (getI_nn hx1) (getI_ltI hx1 rfl))<|sQ 31 (yl B4 ((i:Int).toNat*1) (r_2.flatMap encI) (vi x1) K1 (hS8.c 3) rfl rfl (gi_at0 encI_len hx1 rfl))<|sQ 10 (yg (vi x1)) (rn (cq ?_))
     obtain ⟨x2,hx2,hb3⟩:=bI hb3
     obtain ⟨x3,hx3,hb3⟩:=bI hb3
     refine ra_start (hS8.se [0,1,2,3]).fn (by kernel_rfl) ?_
     have hS9:=hS8.drew
     refine rq 0 32 rfl (hS9.se [0,1,2,3]) (fun w' hw'=>(ym (.slice B2 r_1.length c2) rfl (hf2.g 7 3))) ?_
     refine rq 1 33 rfl (hS9.se [0,1,2,3]) (fun w' hw'=>(ym (vi x1))) ?_
     refine rq 2 34 (v:=pt B2 (x1.toNat*1)) rfl (hS9.se [0,1,2,3]) (fun w' hw'=>(Y_index (B:=B2) (m:=r_1.length) (c:=c2) (k:=.i64) (i:=x1) K2 K0 rfl rfl rfl (gi_isSome encI_len rfl (ST.cf hw' (i:=1) rfl) hx2) (getI_nn hx2) (getI_ltI hx2 rfl))) ?_
     refine rq 3 35 rfl (hS9.se [0,1,2,3]) (fun w' hw'=>(yl B2 (x1.toNat*1) (r_1.flatMap encI) (vi x2) K1 (ST.cf hw' (i:=1) rfl) rfl rfl (gi_at0 encI_len hx2 rfl))) ?_
     refine rq 4 36 rfl (hS9.se [0,1,2,3]) (fun w' hw'=>(ym (.slice B2 r_1.length c2) rfl (hf2.g 7 3))) ?_
     refine rq 5 37 rfl (hS9.se [0,1,2,3]) (fun w' hw'=>(ym (vi a3) rfl (hf2.g 1 0))) ?_
     refine rq 6 38 (v:=pt B2 (a3.toNat*1)) rfl (hS9.se [0,1,2,3]) (fun w' hw'=>(Y_index (B:=B2) (m:=r_1.length) (c:=c2) (k:=.i64) (i:=a3) K2 K0 rfl rfl rfl (gi_isSome encI_len rfl (ST.cf hw' (i:=1) rfl) hx3) (getI_nn hx3) (getI_ltI hx3 rfl))) ?_
     refine rq 7 39 rfl (hS9.se [0,1,2,3]) (fun w' hw'=>(yl B2 (a3.toNat*1) (r_1.flatMap encI) (vi x3) K1 (ST.cf hw' (i:=1) rfl) rfl rfl (gi_at0 encI_len hx3 rfl))) ?_
     refine rq 8 40 rfl (hS9.se [0,1,2,3]) (fun w' hw'=>(yM x3 1)) ?_
     refine rq 9 41 rfl (hS9.se [0,1,2,3]) (fun w' hw'=>(yE x2 (i64.wrap (x3-1)))) ?_
     refine ra_done (by kernel_rfl) ?_
     refine cw_cond (b:=(x2==(i64.wrap (x3-1)))) rfl (fun hb4=>?_) (fun hb4=>?_)
     ·skip
      have hF6:=ct hb3 hb4
      refine cq (cr ?_)
      refine sQ 42 (ym (vi x1))<|sQ 1 (yg (vi x1)) (rn ?_)
      refine cw_exit rfl ?_
      obtain rfl:=sI hF6
      exact ⟨x1,(sI hL3),(fc rfl (hf2.a 2 1 (hf2.a 3 2 (hf2.a 7 3 (hf2.a 8 4 fn_))))),(hS9.sel [0,1,2,3] rfl rfl)⟩
     ·skip
      have hF7:=cf' hb3 hb4
      refine cw_skip (cr ?_)
      refine sQ 43 (yP (i:Int) 1 rfl (hf2.g 28 7))<|sQ 28 (ym (vi (i64.wrap ((i:Int)+1)))) (rn ?_)
      obtain rfl:=sI hF7
      exact ⟨K18,Nat.lt_succ_self _,i+1,a3,(hf2.a 1 0 (hf2.a 2 1 (hf2.a 3 2 (hf2.a 7 3 (hf2.a 8 4 (hf2.a 26 5 (hf2.a 27 6 (fc (congrArg (Value.int .i64) (wr_succ hlt1 hN)) fn_)))))))),(hS9.sel [0,1,2,3] rfl rfl),(by omega),hL3⟩
    ·skip
     obtain rfl:K10=0:=by have h:=of_decide_eq_false hlt; omega
     refine cw_exit rfl ?_
     exact ⟨a3,(sI hL2),(hf2.a 1 0 (hf2.a 2 1 (hf2.a 3 2 (hf2.a 7 3 (hf2.a 8 4 fn_))))),(hS8.sel [0,1,2,3] rfl rfl)⟩
   rintro f w ⟨a2,rfl,hf1,hS7⟩
   refine cr ?_
   refine sQ 44 (ym (.slice B3 out.length c3) rfl (hf1.g 8 4))<|sQ 45 (ym (vi a2) rfl (hf1.g 1 0)) ?_
   refine sS 46 (Ys_bslice (s:=1) (len:=1) (vs:=[(0,vi a2)]) (cs:=[vi a2]) (zs:=[vi 0]) (m:=1) hS7 K2 K0 K30 rfl (mpc rfl mpn) rfl rfl rfl (by kernel_rfl) (by kernel_rfl) rfl) ?_
   rintro _ w_4 ⟨b3,rfl,hS10⟩
   obtain ⟨hap,hF5⟩:=chk_inv hF5
   refine sS 47 (Ys_append (s:=1) (by':=8) (i:=2) (nn:=out.length) (c:=c3) (k:=1) (len:=(out++[a2]).length) (B:=B3) (xs:=([a2].flatMap encI)) (cs':=((out++[a2]).flatMap encI)) hS10 K2 K0 K53 K54 rfl (by decide) rfl rfl rfl rfl (fm_lenn (l:=out) encI_len rfl) rfl (hS10.c 4) (fm_lenn (l:=[a2]) encI_len rfl) (fm_one' (enc:=encI) encI_one [a2]) (by have:=hap; omega) (by have:=hap; simp only [maxLen]; omega) (fm_app _ _) (app_len (l:=out) (l':=[a2]) rfl rfl)) ?_
   rintro _ w_5 ⟨B5,c5,rfl,hS11⟩
   refine sQ 8 (yg (.slice B5 ((out++[a2]).length) c5)) (rn ?_)
   obtain rfl:=sI hF5
   exact ⟨K4,Nat.lt_succ_self _,a2,(out++[a2]),B5,c5,(hf1.a 1 0 (hf1.a 2 1 (hf1.a 3 2 (hf1.a 7 3 (fc rfl fn_))))),(hS11.sel [0,1,2] rfl rfl),hL1⟩
  ·skip
   have hF8:=cf' hb1 hb2
   refine cw_exit rfl ?_
   obtain rfl:=sI hF8
   obtain rfl:=sI hL1
   refine cq (cr ?_)
   refine sQ 48 (ym (.slice B3 out.length c3) rfl (hf.g 8 4))<|sQ 6 (yg (.slice B3 out.length c3)) (rn (ct_ ?_))
   obtain ⟨hne,hF3⟩:=chk_inv hF3
   obtain rfl:=sI hF3
   exact ret1 Try.results38 (v1:=.slice B3 out.length c3) (resAt_tmp rfl) ⟨B3,c3,rfl,(nil_own encI_len rfl (hS5.c 2) hne),(hS5.sN [2])⟩

theorem c_impl_GreedyRoute (g:TCouplingGraph) (c1:TCircuit) (start:List Int) (B:Option Addr) (c n:Nat) (B1:Option Addr) (c2 n1:Nat) (B2:Option Addr) (c3 n2:Nat) (w0:World) (hn:g.Edges.length=n) (hq:n≤c) (hn1:c1.Gates.length=n1) (hq1:n1≤c2) (hn2:start.length=n2) (hq2:n2≤c3) (hS:ST w0 [] w0 [] [⟨B,(g.Edges.flatMap eN1)⟩,⟨B1,(c1.Gates.flatMap eN2)⟩,⟨B2,(start.flatMap encI)⟩]) {r_:TRoute} {r_1:Bool} (hF:F_impl_GreedyRoute g c1 start=some (r_,r_1)) :
  CV Try.prog 15 #[.agg #[vi g.Nodes,.slice B n c],.agg #[vi c1.Qubits,.slice B1 n1 c2],.slice B2 n2 c3] w0 (fun v w'=>∃ (B3:Option Addr) (c4:Nat) (B4:Option Addr) (c5:Nat),v=.tuple #[.agg #[.slice B3 r_.Start.length c4,.slice B4 r_.Steps.length c5],.bool r_1]∧ST w0 [] w' [⟨B3,3,(r_.Start.flatMap encI),c4*1⟩,⟨B4,60,(r_.Steps.flatMap eN0),c5*3⟩] []):=by
 subst hn
 subst hn1
 subst hn2
 unfold F_impl_GreedyRoute at hF
 refine cv_of_cw 105 Try.func15 rfl Try.ntmps15 rfl ?_
 refine cq (cr ?_)
 refine sS 3 (yB 25 (.agg #[vi g.Nodes,.slice B g.Edges.length c]) [vi g.Nodes,.slice B g.Edges.length c] 2 hS) ?_
 rintro _ w_ ⟨b,rfl,hS1⟩
 refine sS 4 (yB 28 (.agg #[vi c1.Qubits,.slice B1 c1.Gates.length c2]) [vi c1.Qubits,.slice B1 c1.Gates.length c2] 2 hS1) ?_
 rintro _ w_1 ⟨b1,rfl,hS2⟩
 refine sS 6 (yN [.slice none 0 0,.slice none 0 0] 2 hS2 K35) ?_
 rintro _ w_2 ⟨b2,rfl,hS3⟩
 refine sQ 7 (yg (.bool false)) (rn (cq (cq (cr ?_))))
 refine sQ 14 (yb (aD b) 0 [vi g.Nodes,.slice B g.Edges.length c] K5 K3 (hS3.c 0))<|sQ 15 (yb (aD b1) 0 [vi c1.Qubits,.slice B1 c1.Gates.length c2] K14 K7 (hS3.c 1)) ?_
 obtain ⟨r_2,hc,hF⟩:=bI hF
 refine sc 16 rfl rfl (yC [.agg #[vi g.Nodes,.slice B g.Edges.length c],.agg #[vi c1.Qubits,.slice B1 c1.Gates.length c2]] K119 (c_impl_canRoute g c1 B c g.Edges.length B1 c2 c1.Gates.length _ rfl rfl (hS3.inn0 [(true,0),(true,1)] rfl) hc)) ?_
 rintro _ w_3 ⟨rfl,hd⟩
 have hS4:=hS3.out00 hd
 refine sQ 17 (Y_not (p:=r_2) rfl rfl)<|sQ 18 (ym (.bool (!r_2))) ?_
 refine sgq 19 (B:=(!(!r_2))) (v:=.agg #[vi g.Nodes,.slice B g.Edges.length c]) rfl rfl (uF_ 18) (fun hg=>(yb (aD b) 0 [vi g.Nodes,.slice B g.Edges.length c] K5 K3 (hS4.c 0))) ?_
 refine sgq 20 (B:=(!(!r_2))) (v:=pt (aD b1) 0) rfl rfl (uF_ 18) (fun hg1=>(yd (aD b1) 0 0 K60 K0)) ?_
 refine sgq 21 (B:=(!(!r_2))) rfl rfl (uF_ 18) (fun hg2=>(yl (aD b1) 0 [vi c1.Qubits,.slice B1 c1.Gates.length c2] (vi c1.Qubits) K1 (hS4.c 1) rfl (gv_of (v:=pt (aD b1) 0) hg2))) ?_
 refine sgq 22 (B:=(!(!r_2))) rfl rfl (uF_ 18) (fun hg3=>(ym (.slice B2 start.length c3))) ?_
 obtain ⟨r_3,hc1,hF⟩:=bI hF
 refine sgc 23 (B:=(!(!r_2))) (v:=.bool r_3) (F:=hS4.fn) rfl rfl (uF_ 18) hS4 (fun hg4=>(yC [.agg #[vi g.Nodes,.slice B g.Edges.length c],vi c1.Qubits,.slice B2 start.length c3] K115 (CV.mono (c_impl_CouplingGraph_isPlacement g c1.Qubits start B c g.Edges.length B2 c3 start.length _ rfl rfl hq2 (hS4.inn0 [(true,0),(true,2)] rfl) (gb_inv hc1 hg4)) (by rintro _ _ ⟨rfl,h⟩; exact ⟨rfl,hS4.out00 h⟩)) rfl (mc (gv_of (v:=.agg #[vi g.Nodes,.slice B g.Edges.length c]) hg4) (mc (gv_of (v:=vi c1.Qubits) hg4) (mc (gv_of (v:=.slice B2 start.length c3) hg4) mn))))) ?_
 rintro w_4 hS5
 refine sgq 24 (B:=(!(!r_2))) (v:=.bool (!r_3)) rfl rfl (uF_ 18) (fun hg5=>(Y_not (p:=r_3) rfl (gv_of (v:=.bool r_3) hg5))) ?_
 refine sQ 25 (Y_or (b:=(!r_2)) (z:=(!r_3)) rfl rfl rfl rfl) (rn ?_)
 refine cw_cond (b:=((!r_2)||(!r_3))) rfl (fun hb=>?_) (fun hb=>?_)
 ·skip
  have hF1:=ct hF hb
  refine cq (cr ?_)
  refine sQ 26 (Y_buildS (zs:=[.slice none 0 0,.slice none 0 0]) (vs:=[]) (cs:=[.slice none 0 0,.slice none 0 0]) K70 K35 rfl mpn rfl) ?_
  refine s0 (yT 2 2 (aD b2) 36 (.agg #[.slice none 0 0,.slice none 0 0]) [.slice none 0 0,.slice none 0 0] 0 hS5 K13) ?_
  rintro _ w_5 ⟨rfl,hS6⟩
  refine sQ 7 (yg (.bool false)) (rn (ct_ ?_))
  have hS7:=hS6.addNil 3
  have hS8:=hS7.addNil 60
  obtain ⟨rfl,rfl⟩:=pr2 (sI hF1)
  exact ret2 Try.results15 (v1:=.agg #[.slice none 0 0,.slice none 0 0]) (resAt_cellA (B:=aD b2) (i:=0) (cs:=[.slice none 0 0,.slice none 0 0]) (vs:=[.slice none 0 0,.slice none 0 0]) rfl K32 K13 (hS8.c 2) rfl rfl) (v2:=.bool false) (resAt_tmp rfl) ⟨none,0,none,0,rfl,(hS8.sN [3,4])⟩
 ·skip
  have hF2:=cf' hF hb
  refine cw_skip (cq (cr ?_))
  refine sQ 27 (yb (aD b) 0 [vi g.Nodes,.slice B g.Edges.length c] K5 K3 (hS5.c 0))<|sQ 28 (yb (aD b1) 0 [vi c1.Qubits,.slice B1 c1.Gates.length c2] K14 K7 (hS5.c 1))<|sQ 29 (ym (.slice B2 start.length c3)) ?_
  obtain ⟨r_4,hc2,hF2⟩:=bI hF2
  refine sc 30 rfl rfl (yC [.agg #[vi g.Nodes,.slice B g.Edges.length c],.agg #[vi c1.Qubits,.slice B1 c1.Gates.length c2],.slice B2 start.length c3] K142 (c_impl_newRouting g c1 start B c g.Edges.length B1 c2 c1.Gates.length B2 c3 start.length _ rfl hq rfl hq1 rfl (hS5.inn0 [(true,0),(true,1),(true,2)] rfl) hc2)) ?_
  rintro _ w_6 ⟨B5,c6,B6,c7,B7,c8,B8,c9,rfl,hq3,hq4,ho,hd1⟩
  have hS9:=ST.outR0 hS5 hd1 ho (sk 0 (sk 1 (sk 2 (fun _ h=>by cases h))))
  let R5:Ro:=⟨B5,(r_4.g.Edges.flatMap eN1)⟩
  let R6:Ro:=⟨B6,(r_4.c.Gates.flatMap eN2)⟩
  let R7:Ro:=⟨B1,(c1.Gates.flatMap eN2)⟩
  let R8:Ro:=⟨B,(g.Edges.flatMap eN1)⟩
  let R9:Ro:=⟨B2,(start.flatMap encI)⟩
  have ho1:Org w0 [] [R8,R7,R9] [R5,R6]:=org_trans0 hS5 ho (org_cons (org_mem (i:=0) rfl) (org_cons (org_mem (i:=1) rfl) (org_cons (org_mem (i:=2) rfl) org_nil)))
  let O1:Ob:=⟨aD b,25,[vi g.Nodes,.slice B g.Edges.length c],2⟩
  let O2:Ob:=⟨aD b2,36,[.slice none 0 0,.slice none 0 0],2⟩
  let O3:Ob:=⟨B8,4,(r_4.done.flatMap encB),c9*1⟩
  have hS10:ST w0 [] _ [O1,⟨aD b1,28,[vi c1.Qubits,.slice B1 c1.Gates.length c2],2⟩,O2,⟨B7,3,(r_4.place.flatMap encI),c8*1⟩,O3] [R5,R6,R8,R7,R9]:=hS9
  refine sQ 31 (ym (.slice B2 start.length c3)) ?_
  obtain ⟨r_5,hc3,hF2⟩:=bI hF2
  refine sc 32 rfl rfl (yC [.slice B2 start.length c3] K96 (c_slices_Clone_int_int start B2 c3 start.length _ rfl (hS10.inn0 [(true,4)] rfl) hc3)) ?_
  rintro _ w_7 ⟨B9,c10,rfl,hd2⟩
  have hS11:=hS10.out0 hd2
  refine sQ 33 (Y_buildS (zs:=[.slice none 0 0,.slice none 0 0]) (vs:=[(0,.slice B9 r_5.length c10)]) (cs:=[.slice B9 r_5.length c10,.slice none 0 0]) K70 K35 rfl (mpc rfl mpn) rfl) ?_
  refine sS 8 (yN [vi 0,.slice none 0 0,vi 0,.slice none 0 0,.slice none 0 0,.slice none 0 0] 6 hS11 K80) ?_
  rintro _ w_8 ⟨b3,rfl,hS12⟩
  refine sS 9 (yN [.slice none 0 0,.slice none 0 0] 2 hS12 K35) ?_
  rintro _ w_9 ⟨b4,rfl,hS13⟩
  refine s0 (yT 6 6 (aD b3) 65 (.agg #[vi r_4.g.Nodes,.slice B5 r_4.g.Edges.length c6,vi r_4.c.Qubits,.slice B6 r_4.c.Gates.length c7,.slice B7 r_4.place.length c8,.slice B8 r_4.done.length c9]) [vi r_4.g.Nodes,.slice B5 r_4.g.Edges.length c6,vi r_4.c.Qubits,.slice B6 r_4.c.Gates.length c7,.slice B7 r_4.place.length c8,.slice B8 r_4.done.length c9] 0 hS13 K22) ?_
  rintro _ w_10 ⟨rfl,hS14⟩
  refine s0 (yT 7 2 (aD b4) 36 (.agg #[.slice B9 r_5.length c10,.slice none 0 0]) [.slice B9 r_5.length c10,.slice none 0 0] 0 hS14 K13) ?_
  rintro _ w_11 ⟨rfl,hS15⟩
  refine rn (cq (cq (cr ?_)))
  refine sQ 34 (yd (aD b1) 0 0 K19 K16)<|sQ 35 (yl (aD b1) 1 [vi c1.Qubits,.slice B1 c1.Gates.length c2] (.slice B1 c1.Gates.length c2) K21 (hS15.c 1))<|sQ 36 (Y_len (B:=B1) (m:=c1.Gates.length) (c:=c2) K12 rfl rfl)<|sQ 37 (ym (vi 0)) (rn ?_)
  obtain ⟨hN,hF2⟩:=chk_inv hF2
  obtain ⟨z,hz,hF3⟩:=bI hF2
  have hS17:=hS15.addNil 60
  refine cw_block ?_
  let O0:Ob:=⟨aD b3,65,[vi r_4.g.Nodes,.slice B5 r_4.g.Edges.length c6,vi r_4.c.Qubits,.slice B6 r_4.c.Gates.length c7,.slice B7 r_4.place.length c8,.slice B8 r_4.done.length c9],6⟩
  let O4:Ob:=⟨B9,3,(r_5.flatMap encI),c10*1⟩
  refine cw_loop (fun k f w=>∃ (i:Nat) (place:List Int) (Steps:List TRouteStep) (B10:Option Addr) (c11:Nat),FF f [(3,pt (aD b) 0),(6,pt (aD b2) 0),(8,pt (aD b3) 0),(9,pt (aD b4) 0),(35,.slice B1 c1.Gates.length c2),(36,vi (c1.Gates.length:Int)),(37,vi (i:Int))]∧place.length=r_4.place.length∧ST w0 [] w [O1,O2,O0,⟨B7,3,(place.flatMap encI),c8*1⟩,O3,⟨aD b4,36,[.slice B9 r_5.length c10,.slice B10 Steps.length c11],2⟩,O4,⟨B10,60,(Steps.flatMap eN0),c11*3⟩] [R5,R6,R8,R7,R9]∧i+k=c1.Gates.length∧forX (F_impl_GreedyRoute_l1 c1 r_4 g) k i (place,Steps)=some z) c1.Gates.length ⟨0,r_4.place,[],none,0,(fc rfl (fc rfl (fc rfl (fc rfl (fc rfl (fc rfl (fc rfl fn_))))))),rfl,(hS17.sel [0,2,6,3,4,7,5,8] rfl rfl),Nat.zero_add _,hz⟩ ?_
  rintro k_ f w ⟨i,place,Steps,B10,c11,hf,hl,hS16,hik,hL⟩
  refine cq (cr ?_)
  refine sQ 38 (yL (i:Int) (c1.Gates.length:Int) rfl (hf.g 37 6) (hf.g 36 5)) (rn (cq ?_))
  refine cw_cond (b:=(decide ((i:Int)<(c1.Gates.length:Int)))) rfl (fun hlt=>?_) (fun hlt=>?_)
  ·skip
   have hlt1:i<c1.Gates.length:=by have h:=of_decide_eq_true hlt; omega
   obtain ⟨K4,rfl⟩:∃ k2,k_=k2+1:=⟨k_-1,by omega⟩
   obtain ⟨y,hb1,hL1⟩:=forX_go hL
   unfold F_impl_GreedyRoute_l1 at hb1
   refine cw_skip (cq (cw_block (cq (cr ?_))))
   refine sQ 39 (ym (vi (i:Int)) rfl (hf.g 37 6)) ?_
   obtain ⟨x,hx,hb1⟩:=bI hb1
   refine sQ 40 (Y_index (B:=B1) (m:=c1.Gates.length) (c:=c2) (k:=.i64) (i:=(i:Int)) K12 K6 rfl (hf.g 35 4) (hf.g 37 6) (gi_isSome eN9 rfl (hS16.rf (i:=3) rfl) hx) (getI_nn hx) (getI_ltI hx rfl))<|sQ 41 (ya B1 ((i:Int).toNat*3) (c1.Gates.flatMap eN2) [vi x.Kind,vi x.A,vi x.B] K34 K6 (hS16.rf (i:=3) rfl) rfl rfl (eN9 x) (gi_seg eN9 hx)) ?_
   refine sS 11 (yN [vi 0,vi 0,vi 0] 3 hS16 K38) ?_
   rintro _ w_12 ⟨b5,rfl,hS18⟩
   refine sQ 10 (yg (vi (i:Int))) ?_
   refine s0 (yT 8 3 (aD b5) 56 (.agg #[vi x.Kind,vi x.A,vi x.B]) [vi x.Kind,vi x.A,vi x.B] 0 hS18 K6) ?_
   rintro _ w_13 ⟨rfl,hS19⟩
   refine rn (cq ?_)
   obtain ⟨z1,hz1,hF4⟩:=bI hb1
   refine cw_mid (fun f w=>∃ (place1:List Int) (Steps1:List TRouteStep) (B11:Option Addr) (c12:Nat),.inl (place1,Steps1)=z1∧FF f [(3,pt (aD b) 0),(6,pt (aD b2) 0),(8,pt (aD b3) 0),(9,pt (aD b4) 0),(10,vi (i:Int)),(35,.slice B1 c1.Gates.length c2),(36,vi (c1.Gates.length:Int)),(37,vi (i:Int))]∧place1.length=r_4.place.length∧ST w0 [] w [O1,O2,O0,⟨B7,3,(place1.flatMap encI),c8*1⟩,O3,⟨aD b4,36,[.slice B9 r_5.length c10,.slice B11 Steps1.length c12],2⟩,O4,⟨B11,60,(Steps1.flatMap eN0),c12*3⟩] [R5,R6,R8,R7,R9]) ?_ ?_
   ·skip
    refine cq (cr ?_)
    refine sQ 42 (yb (aD b3) 0 [vi r_4.g.Nodes,.slice B5 r_4.g.Edges.length c6,vi r_4.c.Qubits,.slice B6 r_4.c.Gates.length c7,.slice B7 r_4.place.length c8,.slice B8 r_4.done.length c9] K47 K22 (hS19.c 2) rfl (hf.g 8 2))<|sQ 43 (ym (vi (i:Int))) ?_
    obtain ⟨r_6,hc4,hz1⟩:=bI hz1
    refine sc 44 rfl rfl (yC [.agg #[vi r_4.g.Nodes,.slice B5 r_4.g.Edges.length c6,vi r_4.c.Qubits,.slice B6 r_4.c.Gates.length c7,.slice B7 r_4.place.length c8,.slice B8 r_4.done.length c9],vi (i:Int)] K134 (c_impl_routing_fits (Trouting.mk r_4.g r_4.c place r_4.done) (i:Int) B5 c6 r_4.g.Edges.length B6 c7 r_4.c.Gates.length B7 c8 r_4.place.length B8 c9 r_4.done.length _ rfl rfl hl rfl (hS19.inn0 [(true,0),(true,1),(false,3),(false,4)] rfl) hc4)) ?_
    rintro _ w_14 ⟨rfl,hd3⟩
    have hS21:=hS19.out00 hd3
    refine sQ 45 (Y_not (p:=r_6) rfl rfl) (rn ?_)
    refine cw_cond (b:=(!r_6)) rfl (fun hb2=>?_) (fun hb2=>?_)
    ·skip
     have hF5:=ct hz1 hb2
     refine cq ?_
     obtain ⟨x1,hx1,hF5⟩:=bI hF5
     obtain ⟨x2,hx2,hF5⟩:=bI hF5
     obtain ⟨r_7,hc5,hF5⟩:=bI hF5
     refine ra_start (hS21.se [0,1,2,3,4,5,6,7,8]).fn (by kernel_rfl) ?_
     have hS23:=hS21.drew
     refine rq 0 46 (v:=.agg #[vi g.Nodes,.slice B g.Edges.length c]) rfl (hS23.se [0,1,2,3,4,5,6,7,8]) (fun w' hw'=>(yb (aD b) 0 [vi g.Nodes,.slice B g.Edges.length c] K5 K3 (ST.cf hw' (i:=0) rfl) rfl (hf.g 3 0))) ?_
     refine rq 1 47 (v:=pt (aD b3) 4) rfl (hS23.se [0,1,2,3,4,5,6,7,8]) (fun w' hw'=>(yd (aD b3) 0 0 K64 K11 rfl (hf.g 8 2))) ?_
     refine rq 2 48 rfl (hS23.se [0,1,2,3,4,5,6,7,8]) (fun w' hw'=>(yl (aD b3) 4 [vi r_4.g.Nodes,.slice B5 r_4.g.Edges.length c6,vi r_4.c.Qubits,.slice B6 r_4.c.Gates.length c7,.slice B7 r_4.place.length c8,.slice B8 r_4.done.length c9] (.slice B7 r_4.place.length c8) K25 (ST.cf hw' (i:=2) rfl))) ?_
     refine rq 3 49 (v:=pt (aD b5) 1) rfl (hS23.se [0,1,2,3,4,5,6,7,8]) (fun w' hw'=>(yd (aD b5) 0 0 K44 K0)) ?_
     refine rq 4 50 rfl (hS23.se [0,1,2,3,4,5,6,7,8]) (fun w' hw'=>(yl (aD b5) 1 [vi x.Kind,vi x.A,vi x.B] (vi x.A) K1 (ST.cf hw' (i:=8) rfl))) ?_
     refine rq 5 51 (v:=pt B7 (x.A.toNat*1)) rfl (hS23.se [0,1,2,3,4,5,6,7,8]) (fun w' hw'=>(Y_index (B:=B7) (m:=r_4.place.length) (c:=c8) (k:=.i64) (i:=x.A) K2 K0 rfl rfl rfl (gi_isSome encI_len rfl (ST.cf hw' (i:=3) rfl) hx1) (getI_nn hx1) (getI_ltI hx1 hl))) ?_
     refine rq 6 52 rfl (hS23.se [0,1,2,3,4,5,6,7,8]) (fun w' hw'=>(yl B7 (x.A.toNat*1) (place.flatMap encI) (vi x1) K1 (ST.cf hw' (i:=3) rfl) rfl rfl (gi_at0 encI_len hx1 rfl))) ?_
     refine rq 7 53 (v:=pt (aD b3) 4) rfl (hS23.se [0,1,2,3,4,5,6,7,8]) (fun w' hw'=>(yd (aD b3) 0 0 K64 K11 rfl (hf.g 8 2))) ?_
     refine rq 8 54 rfl (hS23.se [0,1,2,3,4,5,6,7,8]) (fun w' hw'=>(yl (aD b3) 4 [vi r_4.g.Nodes,.slice B5 r_4.g.Edges.length c6,vi r_4.c.Qubits,.slice B6 r_4.c.Gates.length c7,.slice B7 r_4.place.length c8,.slice B8 r_4.done.length c9] (.slice B7 r_4.place.length c8) K25 (ST.cf hw' (i:=2) rfl))) ?_
     refine rq 9 55 (v:=pt (aD b5) 2) rfl (hS23.se [0,1,2,3,4,5,6,7,8]) (fun w' hw'=>(yd (aD b5) 0 0 K52 K0)) ?_
     refine rq 10 56 rfl (hS23.se [0,1,2,3,4,5,6,7,8]) (fun w' hw'=>(yl (aD b5) 2 [vi x.Kind,vi x.A,vi x.B] (vi x.B) K1 (ST.cf hw' (i:=8) rfl))) ?_
     refine rq 11 57 (v:=pt B7 (x.B.toNat*1)) rfl (hS23.se [0,1,2,3,4,5,6,7,8]) (fun w' hw'=>(Y_index (B:=B7) (m:=r_4.place.length) (c:=c8) (k:=.i64) (i:=x.B) K2 K0 rfl rfl rfl (gi_isSome encI_len rfl (ST.cf hw' (i:=3) rfl) hx2) (getI_nn hx2) (getI_ltI hx2 hl))) ?_
     refine rq 12 58 rfl (hS23.se [0,1,2,3,4,5,6,7,8]) (fun w' hw'=>(yl B7 (x.B.toNat*1) (place.flatMap encI) (vi x2) K1 (ST.cf hw' (i:=3) rfl) rfl rfl (gi_at0 encI_len hx2 rfl))) ?_
     refine rA [13] ?_
     refine rC 59 13 rfl (yC [.agg #[vi g.Nodes,.slice B g.Edges.length c],vi x1,vi x2] k_call_38 (c_impl_CouplingGraph_path g x1 x2 B c g.Edges.length _ rfl (hS23.inn0 [(true,2)] rfl) hc5)) ?_ aN
     rintro _ w_15 ⟨B12,c13,rfl,hn3,hd4⟩
     have hS24:=hS23.out0 hd4
     refine ⟨(hS24.se [0,1,2,3,4,5,6,7,8]),?_⟩
     refine rq 14 12 rfl (hS24.se [0,1,2,3,4,5,6,7,8]) (fun w' hw'=>(yg (.slice B12 r_7.length c13))) ?_
     refine ra_done (by kernel_rfl) ?_
     refine cq (cq (cr ?_))
     refine sQ 60 (ym (.slice B12 r_7.length c13))<|sQ 61 (show Y _ _ _ _ _ (.bool (decide (r_7=[]))) from by rw [← hn3]; exact (Y_nileql (B:=B12) (m:=r_7.length) (c:=c13) K2 rfl rfl rfl)) (rn ?_)
     refine cw_cond (b:=(decide (r_7=[]))) rfl (fun hb3=>?_) (fun hb3=>?_)
     ·skip
      have hF6:=ct hF5 hb3
      refine cq (cr ?_)
      refine sQ 62 (Y_buildS (zs:=[.slice none 0 0,.slice none 0 0]) (vs:=[]) (cs:=[.slice none 0 0,.slice none 0 0]) K70 K35 rfl mpn rfl) ?_
      refine s0 (yT 1 2 (aD b2) 36 (.agg #[.slice none 0 0,.slice none 0 0]) [.slice none 0 0,.slice none 0 0] 0 hS24 K13 rfl (hf.g 6 1)) ?_
      rintro _ w_16 ⟨rfl,hS25⟩
      refine sQ 7 (yg (.bool false)) (rn (ct_ ?_))
      have hS26:=hS25.addNil 3
      have hS27:=hS26.addNil 60
      obtain rfl:=sI hF6
      obtain rfl:=sI hF4
      obtain rfl:=sI hL1
      obtain ⟨rfl,rfl⟩:=pr2 (sI hF3)
      exact ret2 Try.results15 (v1:=.agg #[.slice none 0 0,.slice none 0 0]) (resAt_cellA (B:=aD b2) (i:=0) (cs:=[.slice none 0 0,.slice none 0 0]) (vs:=[.slice none 0 0,.slice none 0 0]) (hf.g 6 1) K32 K13 (hS27.c 1) rfl rfl) (v2:=.bool false) (resAt_tmp rfl) ⟨none,0,none,0,rfl,(hS27.sN [10,11])⟩
     ·skip
      have hF7:=cf' hF5 hb3
      refine cw_skip (cq (cr ?_))
      refine sQ 13 (yg (vi 0)) (rn ?_)
      obtain ⟨z2,hz2,hF8⟩:=bI hF7
      refine cw_block ?_
      refine cw_loop (fun k f w=>∃ (place2:List Int) (Steps2:List TRouteStep) (i1:Int) (B13:Option Addr) (c14:Nat),FF f [(3,pt (aD b) 0),(6,pt (aD b2) 0),(8,pt (aD b3) 0),(9,pt (aD b4) 0),(10,vi (i:Int)),(12,.slice B12 r_7.length c13),(13,vi i1),(35,.slice B1 c1.Gates.length c2),(36,vi (c1.Gates.length:Int)),(37,vi (i:Int))]∧place2.length=r_4.place.length∧ST w0 [] w [O1,O2,O0,⟨B7,3,(place2.flatMap encI),c8*1⟩,O3,⟨aD b4,36,[.slice B9 r_5.length c10,.slice B13 Steps2.length c14],2⟩,O4,⟨B13,60,(Steps2.flatMap eN0),c14*3⟩,⟨B12,3,(r_7.flatMap encI),c13*1⟩] [R5,R6,R8,R7,R9]∧whX (F_impl_GreedyRoute_l2 r_7 r_4) k (place2,Steps2,i1)=some z2) fuel ⟨place,Steps,0,B10,c11,(hf.a 3 0 (hf.a 6 1 (hf.a 8 2 (hf.a 9 3 (fc rfl (fc rfl (fc rfl (hf.a 35 4 (hf.a 36 5 (hf.a 37 6 fn_)))))))))),hl,(hS24.sel [0,1,2,3,4,5,6,7,9] rfl rfl),hz2⟩ ?_
      rintro K10 f w ⟨place2,Steps2,i1,B13,c14,hf2,hl2,hS28,hL2⟩
      obtain ⟨K18,y1,rfl,hb4,hL3⟩:=whX_go hL2
      unfold F_impl_GreedyRoute_l2 at hb4
      refine cq (cq (cr ?_))
      refine sQ 63 (ym (vi i1) rfl (hf2.g 13 6))<|sQ 64 (yP i1 2)<|sQ 65 (ym (.slice B12 r_7.length c13) rfl (hf2.g 12 5))<|sQ 66 (Y_len (B:=B12) (m:=r_7.length) (c:=c13) K2 rfl rfl)<|sQ 67 (yL (i64.wrap (i1+2)) (r_7.length:Int)) (rn ?_)
      refine cw_cond (b:=(decide ((i64.wrap (i1+2))<(r_7.length:Int)))) rfl (fun hb5=>?_) (fun hb5=>?_)
      ·skip
       have hF9:=ct hb4 hb5
       refine cw_skip (cq (cw_block (cq ?_)))
       obtain ⟨x3,hx3,hF9⟩:=bI hF9
       obtain ⟨x4,hx4,hF9⟩:=bI hF9
       obtain ⟨hap,hF9⟩:=chk_inv hF9
       refine cw_mid (fun f w=>∃ (B15:Option Addr) (c16:Nat),FF f [(3,pt (aD b) 0),(6,pt (aD b2) 0),(8,pt (aD b3) 0),(9,pt (aD b4) 0),(10,vi (i:Int)),(12,.slice B12 r_7.length c13),(13,vi i1),(35,.slice B1 c1.Gates.length c2),(36,vi (c1.Gates.length:Int)),(37,vi (i:Int))]∧ST w0 [] w [O1,O2,O0,⟨B7,3,(place2.flatMap encI),c8*1⟩,O3,⟨aD b4,36,[.slice B9 r_5.length c10,.slice B15 ((Steps2++[(TRouteStep.mk (-1) x3 x4)]).length) c16],2⟩,O4,⟨B15,60,((Steps2++[(TRouteStep.mk (-1) x3 x4)]).flatMap eN0),c16*3⟩,⟨B12,3,(r_7.flatMap encI),c13*1⟩] [R5,R6,R8,R7,R9]) ?_ ?_
       ·skip
        refine ra_start (hS28.se [0,1,2,3,4,6,8]).fn (by kernel_rfl) ?_
        have hS30:=hS28.drew
        refine rq 0 70 (v:=pt (aD b4) 1) rfl (hS30.se [0,1,2,3,4,6,8]) (fun w' hw'=>(yd (aD b4) 0 0 K29 K15 rfl (hf2.g 9 3))) ?_
        refine rq 2 72 rfl (hS30.se [0,1,2,3,4,6,8]) (fun w' hw'=>(ym (.slice B12 r_7.length c13) rfl (hf2.g 12 5))) ?_
        refine rq 3 73 rfl (hS30.se [0,1,2,3,4,6,8]) (fun w' hw'=>(ym (vi i1) rfl (hf2.g 13 6))) ?_
        refine rq 4 74 (v:=pt B12 (i1.toNat*1)) rfl (hS30.se [0,1,2,3,4,6,8]) (fun w' hw'=>(Y_index (B:=B12) (m:=r_7.length) (c:=c13) (k:=.i64) (i:=i1) K2 K0 rfl rfl rfl (gi_isSome encI_len rfl (ST.cf hw' (i:=6) rfl) hx3) (getI_nn hx3) (getI_ltI hx3 rfl))) ?_
        refine rq 5 75 rfl (hS30.se [0,1,2,3,4,6,8]) (fun w' hw'=>(yl B12 (i1.toNat*1) (r_7.flatMap encI) (vi x3) K1 (ST.cf hw' (i:=6) rfl) rfl rfl (gi_at0 encI_len hx3 rfl))) ?_
        refine rq 6 76 rfl (hS30.se [0,1,2,3,4,6,8]) (fun w' hw'=>(ym (.slice B12 r_7.length c13) rfl (hf2.g 12 5))) ?_
        refine rq 7 77 rfl (hS30.se [0,1,2,3,4,6,8]) (fun w' hw'=>(ym (vi i1) rfl (hf2.g 13 6))) ?_
        refine rq 8 78 rfl (hS30.se [0,1,2,3,4,6,8]) (fun w' hw'=>(yP i1 1)) ?_
        refine rq 9 79 (v:=pt B12 ((i64.wrap (i1+1)).toNat*1)) rfl (hS30.se [0,1,2,3,4,6,8]) (fun w' hw'=>(Y_index (B:=B12) (m:=r_7.length) (c:=c13) (k:=.i64) (i:=(i64.wrap (i1+1))) K2 K0 rfl rfl rfl (gi_isSome encI_len rfl (ST.cf hw' (i:=6) rfl) hx4) (getI_nn hx4) (getI_ltI hx4 rfl))) ?_
        refine rq 10 80 rfl (hS30.se [0,1,2,3,4,6,8]) (fun w' hw'=>(yl B12 ((i64.wrap (i1+1)).toNat*1) (r_7.flatMap encI) (vi x4) K1 (ST.cf hw' (i:=6) rfl) rfl rfl (gi_at0 encI_len hx4 rfl))) ?_
        refine rq 11 81 (v:=.agg #[vi (-1),vi x3,vi x4]) rfl (hS30.se [0,1,2,3,4,6,8]) (fun w' hw'=>(Y_buildS (zs:=[vi 0,vi 0,vi 0]) (vs:=[(0,vi (-1)),(1,vi x3),(2,vi x4)]) (cs:=[vi (-1),vi x3,vi x4]) K82 K23 rfl (mpc rfl (mpc rfl (mpc rfl mpn))) rfl)) ?_
        refine rA [1,12] ?_
        refine ra_y 71 (i:=1) (v:=.slice B13 Steps2.length c14) rfl rfl rfl (yl (aD b4) 1 [.slice B9 r_5.length c10,.slice B13 Steps2.length c14] (.slice B13 Steps2.length c14) K31 (hS30.c 5)) (hS30.se [0,1,2,3,4,6,8]) ?_ ?_
        ·skip
         refine rA [12] ?_
         refine rS 82 12 rfl (Ys_bslice (s:=3) (len:=1) (vs:=[(0,.agg #[vi (-1),vi x3,vi x4])]) (cs:=[vi (-1),vi x3,vi x4]) (zs:=[vi 0,vi 0,vi 0]) (m:=3) hS30 K9 K8 K50 rfl (mpc rfl mpn) rfl rfl rfl (by kernel_rfl) (by kernel_rfl) rfl) ?_ aN
         rintro _ w_17 ⟨b6,rfl,hS31⟩
         refine ⟨(hS31.se [0,1,2,3,4,6,8]),?_⟩
         refine rA [13] ?_
         refine rS 83 13 rfl (Ys_append (s:=3) (by':=24) (i:=7) (nn:=Steps2.length) (c:=c14) (k:=1) (len:=(Steps2++[(TRouteStep.mk (-1) x3 x4)]).length) (B:=B13) (xs:=([(TRouteStep.mk (-1) x3 x4)].flatMap eN0)) (cs':=((Steps2++[(TRouteStep.mk (-1) x3 x4)]).flatMap eN0)) hS31 K9 K8 K41 K23 rfl (by decide) rfl rfl rfl rfl (fm_lenn (l:=Steps2) eN8 rfl) rfl (hS31.c 9) (fm_lenn (l:=[(TRouteStep.mk (-1) x3 x4)]) eN8 rfl) (fm_one' (enc:=eN0) enc_RouteStep_one [(TRouteStep.mk (-1) x3 x4)]) (by have:=hap; omega) (by have:=hap; simp only [maxLen]; omega) (fm_app _ _) (app_len (l:=Steps2) (l':=[(TRouteStep.mk (-1) x3 x4)]) rfl rfl)) ?_ aN
         rintro _ w_18 ⟨B14,c15,rfl,hS32⟩
         refine ⟨(hS32.se [0,1,2,3,4,6,8]),?_⟩
         refine rq 14 84 (v:=pt (aD b4) 1) rfl (hS32.se [0,1,2,3,4,6,8]) (fun w' hw'=>(yd (aD b4) 0 0 K29 K15 rfl (hf2.g 9 3))) ?_
         refine rA [15] ?_
         refine rZ 15 rfl (yS 5 1 (aD b4) 36 (.slice B14 ((Steps2++[(TRouteStep.mk (-1) x3 x4)]).length) c15) [.slice B14 ((Steps2++[(TRouteStep.mk (-1) x3 x4)]).length) c15] 1 [.slice B9 r_5.length c10,.slice B14 ((Steps2++[(TRouteStep.mk (-1) x3 x4)]).length) c15] hS32 K15) ?_ aN
         rintro _ w_19 ⟨rfl,hS33⟩
         refine ⟨(hS33.se [0,1,2,3,4,6,8]),?_⟩
         refine ra_done (by kernel_rfl) ?_
         exact ⟨B14,c15,(hf2.a 3 0 (hf2.a 6 1 (hf2.a 8 2 (hf2.a 9 3 (hf2.a 10 4 (hf2.a 12 5 (hf2.a 13 6 (hf2.a 35 7 (hf2.a 36 8 (hf2.a 37 9 fn_)))))))))),(hS33.sel [0,1,2,3,4,5,6,7,8] rfl rfl)⟩
        refine rS 82 12 rfl (Ys_bslice (s:=3) (len:=1) (vs:=[(0,.agg #[vi (-1),vi x3,vi x4])]) (cs:=[vi (-1),vi x3,vi x4]) (zs:=[vi 0,vi 0,vi 0]) (m:=3) hS30 K9 K8 K50 rfl (mpc rfl mpn) rfl rfl rfl (by kernel_rfl) (by kernel_rfl) rfl) ?_ aN
        rintro _ w_20 ⟨b6,rfl,hS34⟩
        refine ⟨(hS34.se [0,1,2,3,4,6,8]),?_⟩
        refine rA [1] ?_
        refine ra_y 71 (i:=1) (v:=.slice B13 Steps2.length c14) rfl rfl rfl (yl (aD b4) 1 [.slice B9 r_5.length c10,.slice B13 Steps2.length c14] (.slice B13 Steps2.length c14) K31 (hS34.c 5)) (hS34.se [0,1,2,3,4,6,8]) ?_ aN
        refine rA [13] ?_
        refine rS 83 13 rfl (Ys_append (s:=3) (by':=24) (i:=7) (nn:=Steps2.length) (c:=c14) (k:=1) (len:=(Steps2++[(TRouteStep.mk (-1) x3 x4)]).length) (B:=B13) (xs:=([(TRouteStep.mk (-1) x3 x4)].flatMap eN0)) (cs':=((Steps2++[(TRouteStep.mk (-1) x3 x4)]).flatMap eN0)) hS34 K9 K8 K41 K23 rfl (by decide) rfl rfl rfl rfl (fm_lenn (l:=Steps2) eN8 rfl) rfl (hS34.c 9) (fm_lenn (l:=[(TRouteStep.mk (-1) x3 x4)]) eN8 rfl) (fm_one' (enc:=eN0) enc_RouteStep_one [(TRouteStep.mk (-1) x3 x4)]) (by have:=hap; omega) (by have:=hap; simp only [maxLen]; omega) (fm_app _ _) (app_len (l:=Steps2) (l':=[(TRouteStep.mk (-1) x3 x4)]) rfl rfl)) ?_ aN
        rintro _ w_21 ⟨B14,c15,rfl,hS35⟩
        refine ⟨(hS35.se [0,1,2,3,4,6,8]),?_⟩
        refine rq 14 84 (v:=pt (aD b4) 1) rfl (hS35.se [0,1,2,3,4,6,8]) (fun w' hw'=>(yd (aD b4) 0 0 K29 K15 rfl (hf2.g 9 3))) ?_
        refine rA [15] ?_
        refine rZ 15 rfl (yS 5 1 (aD b4) 36 (.slice B14 ((Steps2++[(TRouteStep.mk (-1) x3 x4)]).length) c15) [.slice B14 ((Steps2++[(TRouteStep.mk (-1) x3 x4)]).length) c15] 1 [.slice B9 r_5.length c10,.slice B14 ((Steps2++[(TRouteStep.mk (-1) x3 x4)]).length) c15] hS35 K15) ?_ aN
        rintro _ w_22 ⟨rfl,hS36⟩
        refine ⟨(hS36.se [0,1,2,3,4,6,8]),?_⟩
        refine ra_done (by kernel_rfl) ?_
        exact ⟨B14,c15,(hf2.a 3 0 (hf2.a 6 1 (hf2.a 8 2 (hf2.a 9 3 (hf2.a 10 4 (hf2.a 12 5 (hf2.a 13 6 (hf2.a 35 7 (hf2.a 36 8 (hf2.a 37 9 fn_)))))))))),(hS36.sel [0,1,2,3,4,5,6,7,8] rfl rfl)⟩
       rintro f w ⟨B15,c16,hf3,hS29⟩
       obtain ⟨x5,hx5,hF9⟩:=bI hF9
       obtain ⟨x6,hx6,hF9⟩:=bI hF9
       obtain ⟨m,hc6,hF9⟩:=bI hF9
       refine ra_start (hS29.se [0,1,2,4,5,6,7,8]).fn (by kernel_rfl) ?_
       have hS38:=hS29.drew
       refine rq 0 85 (v:=.agg #[vi r_4.g.Nodes,.slice B5 r_4.g.Edges.length c6,vi r_4.c.Qubits,.slice B6 r_4.c.Gates.length c7,.slice B7 r_4.place.length c8,.slice B8 r_4.done.length c9]) rfl (hS38.se [0,1,2,4,5,6,7,8]) (fun w' hw'=>(yb (aD b3) 0 [vi r_4.g.Nodes,.slice B5 r_4.g.Edges.length c6,vi r_4.c.Qubits,.slice B6 r_4.c.Gates.length c7,.slice B7 r_4.place.length c8,.slice B8 r_4.done.length c9] K47 K22 (ST.cf hw' (i:=2) rfl) rfl (hf3.g 8 2))) ?_
       refine rq 1 86 rfl (hS38.se [0,1,2,4,5,6,7,8]) (fun w' hw'=>(ym (.slice B12 r_7.length c13) rfl (hf3.g 12 5))) ?_
       refine rq 2 87 rfl (hS38.se [0,1,2,4,5,6,7,8]) (fun w' hw'=>(ym (vi i1) rfl (hf3.g 13 6))) ?_
       refine rq 3 88 (v:=pt B12 (i1.toNat*1)) rfl (hS38.se [0,1,2,4,5,6,7,8]) (fun w' hw'=>(Y_index (B:=B12) (m:=r_7.length) (c:=c13) (k:=.i64) (i:=i1) K2 K0 rfl rfl rfl (gi_isSome encI_len rfl (ST.cf hw' (i:=7) rfl) hx5) (getI_nn hx5) (getI_ltI hx5 rfl))) ?_
       refine rq 4 89 rfl (hS38.se [0,1,2,4,5,6,7,8]) (fun w' hw'=>(yl B12 (i1.toNat*1) (r_7.flatMap encI) (vi x5) K1 (ST.cf hw' (i:=7) rfl) rfl rfl (gi_at0 encI_len hx5 rfl))) ?_
       refine rq 5 90 rfl (hS38.se [0,1,2,4,5,6,7,8]) (fun w' hw'=>(ym (.slice B12 r_7.length c13) rfl (hf3.g 12 5))) ?_
       refine rq 6 91 rfl (hS38.se [0,1,2,4,5,6,7,8]) (fun w' hw'=>(ym (vi i1) rfl (hf3.g 13 6))) ?_
       refine rq 7 92 rfl (hS38.se [0,1,2,4,5,6,7,8]) (fun w' hw'=>(yP i1 1)) ?_
       refine rq 8 93 (v:=pt B12 ((i64.wrap (i1+1)).toNat*1)) rfl (hS38.se [0,1,2,4,5,6,7,8]) (fun w' hw'=>(Y_index (B:=B12) (m:=r_7.length) (c:=c13) (k:=.i64) (i:=(i64.wrap (i1+1))) K2 K0 rfl rfl rfl (gi_isSome encI_len rfl (ST.cf hw' (i:=7) rfl) hx6) (getI_nn hx6) (getI_ltI hx6 rfl))) ?_
       refine rq 9 94 rfl (hS38.se [0,1,2,4,5,6,7,8]) (fun w' hw'=>(yl B12 ((i64.wrap (i1+1)).toNat*1) (r_7.flatMap encI) (vi x6) K1 (ST.cf hw' (i:=7) rfl) rfl rfl (gi_at0 encI_len hx6 rfl))) ?_
       refine rA [10] ?_
       refine rC 95 10 rfl (yC [.agg #[vi r_4.g.Nodes,.slice B5 r_4.g.Edges.length c6,vi r_4.c.Qubits,.slice B6 r_4.c.Gates.length c7,.slice B7 r_4.place.length c8,.slice B8 r_4.done.length c9],vi x5,vi x6] K141 (c_impl_routing_swap (Trouting.mk r_4.g r_4.c place2 r_4.done) x5 x6 B5 c6 r_4.g.Edges.length B6 c7 r_4.c.Gates.length B7 c8 r_4.place.length B8 c9 r_4.done.length _ rfl rfl hl2 rfl (hS38.inn [false,false,false,true,false,false,false,false,false] rfl [(true,0),(true,1),(false,3)] rfl) hc6)) ?_ aN
       rintro _ w_23 ⟨rfl,hl3,hd5⟩
       have hS39:=hS38.out [false,false,false,true,false,false,false,false,false] rfl hd5
       refine ⟨(hS39.se [0,1,2,3,4,5,6,7]),?_⟩
       refine ra_done (by kernel_rfl) ?_
       refine cr ?_
       refine sQ 68 (ym (vi i1) rfl (hf3.g 13 6))<|sQ 69 (yP i1 1)<|sQ 13 (yg (vi (i64.wrap (i1+1)))) (rn ?_)
       obtain rfl:=sI hF9
       exact ⟨K18,Nat.lt_succ_self _,m,(Steps2++[(TRouteStep.mk (-1) x3 x4)]),(i64.wrap (i1+1)),B15,c16,(hf3.a 3 0 (hf3.a 6 1 (hf3.a 8 2 (hf3.a 9 3 (hf3.a 10 4 (hf3.a 12 5 (fc rfl (hf3.a 35 7 (hf3.a 36 8 (hf3.a 37 9 fn_)))))))))),hl3,(hS39.sel [0,1,2,8,3,4,5,6,7] rfl rfl),hL3⟩
      ·skip
       have hF10:=cf' hb4 hb5
       refine cw_exit rfl ?_
       obtain rfl:=sI hF10
       obtain rfl:=sI hL3
       exact ⟨place2,Steps2,B13,c14,(sI hF8),(hf2.a 3 0 (hf2.a 6 1 (hf2.a 8 2 (hf2.a 9 3 (hf2.a 10 4 (hf2.a 35 7 (hf2.a 36 8 (hf2.a 37 9 fn_)))))))),hl2,(hS28.sel [0,1,2,3,4,5,6,7] rfl rfl)⟩
    ·skip
     have hF11:=cf' hz1 hb2
     refine cw_skip ?_
     exact ⟨place,Steps,B10,c11,(sI hF11),(hf.a 3 0 (hf.a 6 1 (hf.a 8 2 (hf.a 9 3 (fc rfl (hf.a 35 4 (hf.a 36 5 (hf.a 37 6 fn_)))))))),hl,(hS21.sel [0,1,2,3,4,5,6,7] rfl rfl)⟩
   rintro f w ⟨place1,Steps1,B11,c12,rfl,hf1,hl1,hS20⟩
   refine cr ?_
   refine sQ 96 (yd (aD b4) 0 0 K29 K15 rfl (hf1.g 9 3))<|sQ 97 (yl (aD b4) 1 [.slice B9 r_5.length c10,.slice B11 Steps1.length c12] (.slice B11 Steps1.length c12) K31 (hS20.c 5))<|sQ 98 (ym (vi (i:Int)) rfl (hf1.g 10 4))<|sQ 99 (Y_buildS (zs:=[vi 0,vi 0,vi 0]) (vs:=[(0,vi (i:Int))]) (cs:=[vi (i:Int),vi 0,vi 0]) K82 K23 rfl (mpc rfl mpn) rfl) ?_
   refine sS 100 (Ys_bslice (s:=3) (len:=1) (vs:=[(0,.agg #[vi (i:Int),vi 0,vi 0])]) (cs:=[vi (i:Int),vi 0,vi 0]) (zs:=[vi 0,vi 0,vi 0]) (m:=3) hS20 K9 K8 K50 rfl (mpc rfl mpn) rfl rfl rfl (by kernel_rfl) (by kernel_rfl) rfl) ?_
   rintro _ w_24 ⟨b7,rfl,hS40⟩
   obtain ⟨hap1,hF4⟩:=chk_inv hF4
   refine sS 101 (Ys_append (s:=3) (by':=24) (i:=7) (nn:=Steps1.length) (c:=c12) (k:=1) (len:=(Steps1++[(TRouteStep.mk (i:Int) 0 0)]).length) (B:=B11) (xs:=([(TRouteStep.mk (i:Int) 0 0)].flatMap eN0)) (cs':=((Steps1++[(TRouteStep.mk (i:Int) 0 0)]).flatMap eN0)) hS40 K9 K8 K41 K23 rfl (by decide) rfl rfl rfl rfl (fm_lenn (l:=Steps1) eN8 rfl) rfl (hS40.c 8) (fm_lenn (l:=[(TRouteStep.mk (i:Int) 0 0)]) eN8 rfl) (fm_one' (enc:=eN0) enc_RouteStep_one [(TRouteStep.mk (i:Int) 0 0)]) (by have:=hap1; omega) (by have:=hap1; simp only [maxLen]; omega) (fm_app _ _) (app_len (l:=Steps1) (l':=[(TRouteStep.mk (i:Int) 0 0)]) rfl rfl)) ?_
   rintro _ w_25 ⟨B16,c17,rfl,hS41⟩
   refine sQ 102 (yd (aD b4) 0 0 K29 K15 rfl (hf1.g 9 3)) ?_
   refine s0 (yS 5 1 (aD b4) 36 (.slice B16 ((Steps1++[(TRouteStep.mk (i:Int) 0 0)]).length) c17) [.slice B16 ((Steps1++[(TRouteStep.mk (i:Int) 0 0)]).length) c17] 1 [.slice B9 r_5.length c10,.slice B16 ((Steps1++[(TRouteStep.mk (i:Int) 0 0)]).length) c17] hS41 K15) ?_
   rintro _ w_26 ⟨rfl,hS42⟩
   refine rn (cr ?_)
   refine sQ 103 (yP (i:Int) 1 rfl (hf1.g 37 7))<|sQ 37 (ym (vi (i64.wrap ((i:Int)+1)))) (rn ?_)
   obtain rfl:=sI hF4
   exact ⟨K4,Nat.lt_succ_self _,i+1,place1,(Steps1++[(TRouteStep.mk (i:Int) 0 0)]),B16,c17,(hf1.a 3 0 (hf1.a 6 1 (hf1.a 8 2 (hf1.a 9 3 (hf1.a 35 5 (hf1.a 36 6 (fc (congrArg (Value.int .i64) (wr_succ hlt1 hN)) fn_))))))),hl1,(hS42.sel [0,1,2,3,4,5,6,7] rfl rfl),(by omega),hL1⟩
  ·skip
   obtain rfl:k_=0:=by have h:=of_decide_eq_false hlt; omega
   refine cw_exit rfl ?_
   obtain rfl:=sI hL
   refine cq (cr ?_)
   refine sQ 104 (yb (aD b4) 0 [.slice B9 r_5.length c10,.slice B10 Steps.length c11] K32 K13 (hS16.c 5) rfl (hf.g 9 3)) ?_
   refine s0 (yT 1 2 (aD b2) 36 (.agg #[.slice B9 r_5.length c10,.slice B10 Steps.length c11]) [.slice B9 r_5.length c10,.slice B10 Steps.length c11] 0 hS16 K13 rfl (hf.g 6 1)) ?_
   rintro _ w_27 ⟨rfl,hS43⟩
   refine sQ 7 (yg (.bool true)) (rn (ct_ ?_))
   obtain ⟨rfl,rfl⟩:=pr2 (sI hF3)
   exact ret2 Try.results15 (v1:=.agg #[.slice B9 r_5.length c10,.slice B10 Steps.length c11]) (resAt_cellA (B:=aD b2) (i:=0) (cs:=[.slice B9 r_5.length c10,.slice B10 Steps.length c11]) (vs:=[.slice B9 r_5.length c10,.slice B10 Steps.length c11]) (hf.g 6 1) K32 K13 (hS43.c 1) rfl rfl) (v2:=.bool true) (resAt_tmp rfl) ⟨B9,c10,B10,c11,rfl,(hS43.sN [6,7])⟩
end Go.VK
