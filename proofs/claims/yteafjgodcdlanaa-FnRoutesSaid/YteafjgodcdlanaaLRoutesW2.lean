/- Walks: each Go function returns what its Lean function says. By program. -/
import Derived.Test.YteafjgodcdlanaaLRoutesFa
import Derived.Test.YteafjgodcdlanaaLibU
import Derived.Test.YteafjgodcdlanaaLibX
import Derived.Test.YteafjgodcdlanaaLibW
import Derived.Test.YteafjgodcdlanaaLRoutesW1
set_option linter.unusedVariables false
set_option maxRecDepth 100000
set_option maxHeartbeats 4000000
namespace Go.VK
open Go.RowKit
open Go.Proofs
open Go.IntKind
attribute [local irreducible] CW RW RA CV Y Yw Yc Ys RetOf
attribute [local irreducible] F_spec_l1In F_impl_within F_slices_Contains_int_int F_impl_CouplingGraph_isPlacement F_slices_Clone_int_int F_impl_newRouting F_impl_isTwo F_impl_canRoute F_impl_CountTwo F_impl_canSearch F_slices_Index_impl_Edge_impl_Edge F_slices_Contains_impl_Edge_impl_Edge F_impl_CouplingGraph_joins F_impl_routing_fits F_slices_IndexFunc_int_int F_slices_ContainsFunc_int_int F_impl_qubitsOf F_impl_meet_1 F_impl_meet F_impl_routing_isReady F_impl_routeNode_advance F_impl_routeNode_key F_slices_Index_bool_bool F_slices_Contains_bool_bool F_impl_routing_swap F_slices_Clone_bool_bool F_slices_Clone_impl_RouteStep_impl_RouteStep F_impl_routeNode_swapped F_impl_leastRoute F_impl_small F_impl_swapsIn F_impl_LeastSwaps F_spec_l22Valid F_spec_l4Gate F_spec_l4Good F_spec_l23Fits F_spec_l22Two
theorem c_impl_canSearch (g:TCouplingGraph) (c1:TCircuit) (B:Option Addr) (c n:Nat) (B1:Option Addr) (c2 n1:Nat) (w0:World) (hn:g.Edges.length=n) (hn1:c1.Gates.length=n1) (hS:ST w0 [] w0 [] [⟨B,(g.Edges.flatMap eN1)⟩,⟨B1,(c1.Gates.flatMap eN2)⟩]) {r_:Bool} (hF:F_impl_canSearch g c1=some r_) :
  CV Try.prog 47 #[.agg #[vi g.Nodes,.slice B n c],.agg #[vi c1.Qubits,.slice B1 n1 c2]] w0 (fun v w'=>v=.bool r_∧ST w0 [] w' [] []):=by
 subst hn
 subst hn1
 unfold F_impl_canSearch at hF
 refine cv_of_cw 33 Try.func47 rfl Try.ntmps47 rfl ?_
 refine cq (cr ?_)
 let V1:List Value:=[vi g.Nodes,.slice B g.Edges.length c]
 refine sS 2 (yB 25 (.agg V1.toArray) V1 2 hS) ?_
 rintro _ w_ ⟨b,rfl,hS1⟩
 let V0:List Value:=[vi c1.Qubits,.slice B1 c1.Gates.length c2]
 refine sS 3 (yB 28 (.agg V0.toArray) V0 2 hS1) ?_
 rintro _ w_1 ⟨b1,rfl,hS2⟩
 refine sQ 4 (yg (.bool false)) (rn (cq (cr ?_)))
 refine sQ 8 (yb (aD b1) 0 V0 K14 K7 (hS2.c 1)) ?_
 obtain ⟨⟨r_1,r_2⟩,hc,hF⟩:=bI hF
 refine sc 9 rfl rfl (yC [.agg V0.toArray] k_call_73 (c_impl_CountTwo c1 B1 c2 c1.Gates.length _ rfl (hS2.inn0 [(true,1)] rfl) hc)) ?_
 rintro _ w_2 ⟨rfl,hd⟩
 have hS3:=hS2.out00 hd
 refine sQ 7 (ym (.tuple #[vi r_1,.bool r_2]))<|sQ 10 (ye (vi r_1))<|sQ 11 (ye (.bool r_2))<|sQ 5 (yg (vi r_1))<|sQ 6 (yg (.bool r_2)) (rn (cq (cr ?_)))
 refine sQ 12 (ym (.bool r_2))<|sQ 13 (ym (.bool r_2)) ?_
 refine sgq 14 (B:=r_2) (v:=.agg V1.toArray) rfl rfl (uT_ 13) (fun hg=>(yb (aD b) 0 V1 K5 K3 (hS3.c 0))) ?_
 refine sgq 15 (B:=r_2) (v:=.agg V0.toArray) rfl rfl (uT_ 13) (fun hg1=>(yb (aD b1) 0 V0 K14 K7 (hS3.c 1))) ?_
 obtain ⟨r_3,hc1,hF⟩:=bI hF
 refine sgc 16 (B:=r_2) (v:=.bool r_3) (F:=hS3.fn) rfl rfl (uT_ 13) hS3 (fun hg2=>(yC [.agg V1.toArray,.agg V0.toArray] K119 (CV.mono (c_impl_canRoute g c1 B c g.Edges.length B1 c2 c1.Gates.length _ rfl rfl (hS3.inn0 [(true,0),(true,1)] rfl) (gb_inv hc1 hg2)) (by rintro _ _ ⟨rfl,h⟩; exact ⟨rfl,hS3.out00 h⟩)) rfl (mc (gv_of (v:=.agg V1.toArray) hg2) (mc (gv_of (v:=.agg V0.toArray) hg2) mn)))) ?_
 rintro w_3 hS4
 refine sQ 17 (Y_and (b:=r_2) (z:=r_3) rfl rfl rfl rfl)<|sQ 18 (ym (.bool (r_2&&r_3))) ?_
 refine sgq 19 (B:=(r_2&&r_3)) (v:=pt (aD b) 0) rfl rfl (uT_ 18) (fun hg3=>(yd (aD b) 0 0 K49 K0)) ?_
 refine sgq 20 (B:=(r_2&&r_3)) rfl rfl (uT_ 18) (fun hg4=>(yl (aD b) 0 V1 (vi g.Nodes) K1 (hS4.c 0) rfl (gv_of (v:=pt (aD b) 0) hg4))) ?_
 refine sgq 21 (B:=(r_2&&r_3)) rfl rfl (uT_ 18) (fun hg5=>(Y_le (k:=.i64) (a:=g.Nodes) (b:=5) rfl (gv_of (v:=vi g.Nodes) hg5) rfl)) ?_
 refine sQ 22 (Y_and (b:=(r_2&&r_3)) (z:=(decide (g.Nodes≤5))) rfl rfl rfl rfl)<|sQ 23 (ym (.bool ((r_2&&r_3)&&(decide (g.Nodes≤5))))) ?_
 refine sgq 24 (B:=((r_2&&r_3)&&(decide (g.Nodes≤5)))) (v:=pt (aD b1) 1) rfl rfl (uT_ 23) (fun hg6=>(yd (aD b1) 0 0 K19 K16)) ?_
 refine sgq 25 (B:=((r_2&&r_3)&&(decide (g.Nodes≤5)))) rfl rfl (uT_ 23) (fun hg7=>(yl (aD b1) 1 V0 (.slice B1 c1.Gates.length c2) K21 (hS4.c 1) rfl (gv_of (v:=pt (aD b1) 1) hg7))) ?_
 refine sgq 26 (B:=((r_2&&r_3)&&(decide (g.Nodes≤5)))) (v:=vi (c1.Gates.length:Int)) rfl rfl (uT_ 23) (fun hg8=>(Y_len (B:=B1) (m:=c1.Gates.length) (c:=c2) K12 rfl (gv_of (v:=.slice B1 c1.Gates.length c2) hg8))) ?_
 refine sgq 27 (B:=((r_2&&r_3)&&(decide (g.Nodes≤5)))) rfl rfl (uT_ 23) (fun hg9=>(Y_le (k:=.i64) (a:=(c1.Gates.length:Int)) (b:=40) rfl (gv_of (v:=vi (c1.Gates.length:Int)) hg9) rfl)) ?_
 refine sQ 28 (Y_and (b:=((r_2&&r_3)&&(decide (g.Nodes≤5)))) (z:=(decide ((c1.Gates.length:Int)≤40))) rfl rfl rfl rfl)<|sQ 29 (ym (.bool (((r_2&&r_3)&&(decide (g.Nodes≤5)))&&(decide ((c1.Gates.length:Int)≤40))))) ?_
 refine sgq 30 (B:=(((r_2&&r_3)&&(decide (g.Nodes≤5)))&&(decide ((c1.Gates.length:Int)≤40)))) rfl rfl (uT_ 29) (fun hg10=>(ym (vi r_1))) ?_
 refine sgq 31 (B:=(((r_2&&r_3)&&(decide (g.Nodes≤5)))&&(decide ((c1.Gates.length:Int)≤40)))) rfl rfl (uT_ 29) (fun hg11=>(Y_le (k:=.i64) (a:=r_1) (b:=12) rfl (gv_of (v:=vi r_1) hg11) rfl)) ?_
 refine sQ 32 (Y_and (b:=(((r_2&&r_3)&&(decide (g.Nodes≤5)))&&(decide ((c1.Gates.length:Int)≤40)))) (z:=(decide (r_1≤12))) rfl rfl rfl rfl)<|sQ 4 (yg (.bool ((((r_2&&r_3)&&(decide (g.Nodes≤5)))&&(decide ((c1.Gates.length:Int)≤40)))&&(decide (r_1≤12))))) (rn (ct_ ?_))
 obtain rfl:=sI hF
 exact ret1 Try.results47 (v1:=.bool ((((r_2&&r_3)&&(decide (g.Nodes≤5)))&&(decide ((c1.Gates.length:Int)≤40)))&&(decide (r_1≤12)))) (resAt_tmp rfl) ⟨rfl,(hS4.sN [])⟩

theorem c_slices_Index_impl_Edge_impl_Edge (s:List TEdge) (v_:TEdge) (B:Option Addr) (c n:Nat) (w0:World) (hn:s.length=n) (hS:ST w0 [] w0 [] [⟨B,(s.flatMap eN1)⟩]) {r_:Int} (hF:F_slices_Index_impl_Edge_impl_Edge s v_=some r_) :
  CV Try.prog 97 #[.slice B n c,.agg #[vi v_.A,vi v_.B]] w0 (fun v w'=>v=vi r_∧ST w0 [] w' [] []):=by
 subst hn
 unfold F_slices_Index_impl_Edge_impl_Edge at hF
 refine cv_of_cw 19 Try.func97 rfl Try.ntmps97 rfl ?_
 refine cq (cr ?_)
 refine sS 3 (yB 87 (.agg #[vi v_.A,vi v_.B]) [vi v_.A,vi v_.B] 2 hS) ?_
 rintro _ w_ ⟨b,rfl,hS1⟩
 refine sQ 4 (yg (vi 0)) (rn (cq (cq (cr ?_))))
 refine sQ 6 (ym (.slice B s.length c))<|sQ 7 (Y_len (B:=B) (m:=s.length) (c:=c) K26 rfl rfl)<|sQ 8 (ym (vi 0)) (rn ?_)
 obtain ⟨hN,hF⟩:=chk_inv hF
 obtain ⟨z,hz,hF1⟩:=bI hF
 refine cw_block ?_
 refine cw_loop (fun k f w=>∃ (i:Nat),FF f [(0,.slice B s.length c),(3,pt (aD b) 0),(7,vi (s.length:Int)),(8,vi (i:Int))]∧ST w0 [] w [⟨aD b,87,[vi v_.A,vi v_.B],2⟩] [⟨B,(s.flatMap eN1)⟩]∧i+k=s.length∧forX (F_slices_Index_impl_Edge_impl_Edge_l1 s v_) k i ()=some z) s.length ⟨0,(fc rfl (fc rfl (fc rfl (fc rfl fn_)))),(hS1.sel [0] rfl rfl),Nat.zero_add _,hz⟩ ?_
 rintro k_ f w ⟨i,hf,hS2,hik,hL⟩
 refine cq (cr ?_)
 refine sQ 9 (yL (i:Int) (s.length:Int) rfl (hf.g 8 3) (hf.g 7 2)) (rn (cq ?_))
 refine cw_cond (b:=(decide ((i:Int)<(s.length:Int)))) rfl (fun hlt=>?_) (fun hlt=>?_)
 ·skip
  have hlt1:i<s.length:=by have h:=of_decide_eq_true hlt; omega
  obtain ⟨K4,rfl⟩:∃ k2,k_=k2+1:=⟨k_-1,by omega⟩
  obtain ⟨y,hb,hL1⟩:=forX_go hL
  unfold F_slices_Index_impl_Edge_impl_Edge_l1 at hb
  refine cw_skip (cq (cw_block (cq (cr ?_))))
  refine sQ 10 (ym (vi (i:Int)) rfl (hf.g 8 3))<|sQ 5 (yg (vi (i:Int))) (rn (cq ?_))
  obtain ⟨x,hx,hb⟩:=bI hb
  refine ra_start (hS2.se [0]).fn (by kernel_rfl) ?_
  have hS3:=hS2.drew
  refine rq 0 11 (v:=.agg #[vi v_.A,vi v_.B]) rfl (hS3.se [0]) (fun w' hw'=>(yb (aD b) 0 [vi v_.A,vi v_.B] K81 K20 (ST.cf hw' (i:=0) rfl) rfl (hf.g 3 1))) ?_
  refine rq 1 12 rfl (hS3.se [0]) (fun w' hw'=>(ym (.slice B s.length c) rfl (hf.g 0 0))) ?_
  refine rq 2 13 rfl (hS3.se [0]) (fun w' hw'=>(ym (vi (i:Int)))) ?_
  refine rq 3 14 (v:=pt B ((i:Int).toNat*2)) rfl (hS3.se [0]) (fun w' hw'=>(Y_index (B:=B) (m:=s.length) (c:=c) (k:=.i64) (i:=(i:Int)) K26 K20 rfl rfl rfl (gi_isSome enc_Edge_len rfl (ST.rf hw' (i:=0) rfl) hx) (getI_nn hx) (getI_ltI hx rfl))) ?_
  refine rq 4 15 (v:=.agg #[vi x.A,vi x.B]) rfl (hS3.se [0]) (fun w' hw'=>(ya B ((i:Int).toNat*2) (s.flatMap eN1) [vi x.A,vi x.B] K81 K20 (ST.rf hw' (i:=0) rfl) rfl rfl (enc_Edge_len x) (gi_seg enc_Edge_len hx))) ?_
  refine rq 5 16 (v:=.bool ((v_.A==x.A)&&((v_.B==x.B)&&true))) rfl (hS3.se [0]) (fun w' hw'=>(Y_eqA (xs:=#[vi v_.A,vi v_.B]) (ys:=#[vi x.A,vi x.B]) (b:=((v_.A==x.A)&&((v_.B==x.B)&&true))) k_eg_87 rfl rfl rfl (eqr_struct (xs:=[vi v_.A,vi v_.B]) (ys:=[vi x.A,vi x.B]) k_st_87 k_ho_87 (pts_sc K1 rfl rfl (eqr_int K43) (pts_sc K1 rfl rfl (eqr_int K43) pts_nil))))) ?_
  refine ra_done (by kernel_rfl) ?_
  refine cw_cond (b:=((v_.A==x.A)&&((v_.B==x.B)&&true))) rfl (fun hb1=>?_) (fun hb1=>?_)
  ·skip
   have hF2:=ct hb hb1
   refine cq (cr ?_)
   refine sQ 17 (ym (vi (i:Int)))<|sQ 4 (yg (vi (i:Int))) (rn (ct_ ?_))
   obtain rfl:=sI hF2
   obtain rfl:=sI hL1
   obtain rfl:=sI hF1
   exact ret1 Try.results97 (v1:=vi (i:Int)) (resAt_tmp rfl) ⟨rfl,(hS3.sN [])⟩
  ·skip
   have hF3:=cf' hb hb1
   refine cw_skip (cr ?_)
   refine sQ 18 (yP (i:Int) 1 rfl (hf.g 8 3))<|sQ 8 (ym (vi (i64.wrap ((i:Int)+1)))) (rn ?_)
   obtain rfl:=sI hF3
   exact ⟨K4,Nat.lt_succ_self _,i+1,(hf.a 0 0 (hf.a 3 1 (hf.a 7 2 (fc (congrArg (Value.int .i64) (wr_succ hlt1 hN)) fn_)))),(hS3.sel [0] rfl rfl),(by omega),hL1⟩
 ·skip
  obtain rfl:k_=0:=by have h:=of_decide_eq_false hlt; omega
  refine cw_exit rfl ?_
  obtain rfl:=sI hL
  refine cq (cr ?_)
  refine sQ 4 (yg (vi (-1))) (rn (ct_ ?_))
  obtain rfl:=sI hF1
  exact ret1 Try.results97 (v1:=vi (-1)) (resAt_tmp rfl) ⟨rfl,(hS2.sN [])⟩

theorem c_slices_Contains_impl_Edge_impl_Edge (s:List TEdge) (v_:TEdge) (B:Option Addr) (c n:Nat) (w0:World) (hn:s.length=n) (hS:ST w0 [] w0 [] [⟨B,(s.flatMap eN1)⟩]) {r_:Bool} (hF:F_slices_Contains_impl_Edge_impl_Edge s v_=some r_) :
  CV Try.prog 91 #[.slice B n c,.agg #[vi v_.A,vi v_.B]] w0 (fun v w'=>v=.bool r_∧ST w0 [] w' [] []):=by
 subst hn
 unfold F_slices_Contains_impl_Edge_impl_Edge at hF
 refine cv_of_cw 9 Try.func91 rfl Try.ntmps91 rfl ?_
 refine cq (cr ?_)
 refine sS 3 (yB 87 (.agg #[vi v_.A,vi v_.B]) [vi v_.A,vi v_.B] 2 hS) ?_
 rintro _ w_ ⟨b,rfl,hS1⟩
 refine sQ 4 (yg (.bool false)) (rn (cq (cr ?_)))
 refine sQ 5 (ym (.slice B s.length c))<|sQ 6 (yb (aD b) 0 [vi v_.A,vi v_.B] K81 K20 (hS1.c 0)) ?_
 obtain ⟨r_1,hc,hF⟩:=bI hF
 refine sc 7 rfl rfl (yC [.slice B s.length c,.agg #[vi v_.A,vi v_.B]] k_call_97 (c_slices_Index_impl_Edge_impl_Edge s v_ B c s.length _ rfl (hS1.inn0 [(true,0)] rfl) hc)) ?_
 rintro _ w_1 ⟨rfl,hd⟩
 have hS2:=hS1.out00 hd
 refine sQ 8 (Y_ge (k:=.i64) (a:=r_1) (b:=0) rfl rfl rfl)<|sQ 4 (yg (.bool (decide (0≤r_1)))) (rn (ct_ ?_))
 obtain rfl:=sI hF
 exact ret1 Try.results91 (v1:=.bool (decide (0≤r_1))) (resAt_tmp rfl) ⟨rfl,(hS2.sN [])⟩

theorem c_impl_CouplingGraph_joins (g:TCouplingGraph) (a:Int) (b:Int) (B:Option Addr) (c n:Nat) (w0:World) (hn:g.Edges.length=n) (hS:ST w0 [] w0 [] [⟨B,(g.Edges.flatMap eN1)⟩]) {r_:Bool} (hF:F_impl_CouplingGraph_joins g a b=some r_) :
  CV Try.prog 69 #[.agg #[vi g.Nodes,.slice B n c],vi a,vi b] w0 (fun v w'=>v=.bool r_∧ST w0 [] w' [] []):=by
 subst hn
 unfold F_impl_CouplingGraph_joins at hF
 refine cv_of_cw 17 Try.func69 rfl Try.ntmps69 rfl ?_
 refine cq (cr ?_)
 let V0:List Value:=[vi g.Nodes,.slice B g.Edges.length c]
 refine sS 3 (yB 25 (.agg V0.toArray) V0 2 hS) ?_
 rintro _ w_ ⟨b1,rfl,hS1⟩
 refine sQ 6 (yg (.bool false)) (rn (cq (cr ?_)))
 refine sQ 7 (yd (aD b1) 0 0 K45 K39)<|sQ 8 (yl (aD b1) 1 V0 (.slice B g.Edges.length c) K59 (hS1.c 0))<|sQ 9 (ym (vi a))<|sQ 10 (ym (vi b))<|sQ 11 (Y_min2 (k:=.i64) (a:=a) (b:=b) rfl rfl rfl)<|sQ 12 (ym (vi a)) ?_
 refine sQ 13 (ym (vi b))<|sQ 14 (Y_max2 (k:=.i64) (a:=a) (b:=b) rfl rfl rfl)<|sQ 15 (Y_buildS (zs:=[vi 0,vi 0]) (vs:=[(0,vi (if b<a then b else a)),(1,vi (if a<b then b else a))]) (cs:=[vi (if b<a then b else a),vi (if a<b then b else a)]) K92 K46 rfl (mpc rfl (mpc rfl mpn)) rfl) ?_
 obtain ⟨r_1,hc,hF⟩:=bI hF
 refine sc 16 rfl rfl (yC [.slice B g.Edges.length c,.agg #[vi (if b<a then b else a),vi (if a<b then b else a)]] k_call_91 (c_slices_Contains_impl_Edge_impl_Edge g.Edges (TEdge.mk (if b<a then b else a) (if a<b then b else a)) B c g.Edges.length _ rfl (hS1.inn0 [(true,0)] rfl) hc)) ?_
 rintro _ w_1 ⟨rfl,hd⟩
 have hS2:=hS1.out00 hd
 refine sQ 6 (yg (.bool r_1)) (rn (ct_ ?_))
 obtain rfl:=sI hF
 exact ret1 Try.results69 (v1:=.bool r_1) (resAt_tmp rfl) ⟨rfl,(hS2.sN [])⟩

theorem c_impl_routing_fits (r_:Trouting) (k_:Int) (B:Option Addr) (c n:Nat) (B1:Option Addr) (c1 n1:Nat) (B2:Option Addr) (c2 n2:Nat) (B3:Option Addr) (c3 n3:Nat) (w0:World) (hn:r_.g.Edges.length=n) (hn1:r_.c.Gates.length=n1) (hn2:r_.place.length=n2) (hn3:r_.done.length=n3) (hS:ST w0 [] w0 [] [⟨B,(r_.g.Edges.flatMap eN1)⟩,⟨B1,(r_.c.Gates.flatMap eN2)⟩,⟨B2,(r_.place.flatMap encI)⟩,⟨B3,(r_.done.flatMap encB)⟩]) {r_1:Bool} (hF:F_impl_routing_fits r_ k_=some r_1) :
  CV Try.prog 37 #[.agg #[vi r_.g.Nodes,.slice B n c,vi r_.c.Qubits,.slice B1 n1 c1,.slice B2 n2 c2,.slice B3 n3 c3],vi k_] w0 (fun v w'=>v=.bool r_1∧ST w0 [] w' [] []):=by
 subst hn
 subst hn1
 subst hn2
 subst hn3
 unfold F_impl_routing_fits at hF
 refine cv_of_cw 33 Try.func37 rfl Try.ntmps37 rfl ?_
 refine cq (cr ?_)
 let V0:List Value:=[vi r_.g.Nodes,.slice B r_.g.Edges.length c,vi r_.c.Qubits,.slice B1 r_.c.Gates.length c1,.slice B2 r_.place.length c2,.slice B3 r_.done.length c3]
 refine sS 2 (yB 65 (.agg V0.toArray) V0 6 hS) ?_
 rintro _ w_ ⟨b,rfl,hS1⟩
 refine sQ 4 (yg (.bool false)) (rn (cq (cr ?_)))
 refine sQ 6 (yd (aD b) 0 1 K113 K7)<|sQ 7 (yd (aD b) 2 0 K19 K16)<|sQ 8 (yl (aD b) 3 V0 (.slice B1 r_.c.Gates.length c1) K21 (hS1.c 0))<|sQ 9 (ym (vi k_)) ?_
 obtain ⟨x,hx,hF⟩:=bI hF
 let V2:List Value:=[vi x.Kind,vi x.A,vi x.B]
 refine sQ 10 (Y_index (B:=B1) (m:=r_.c.Gates.length) (c:=c1) (k:=.i64) (i:=k_) K12 K6 rfl rfl rfl (gi_isSome eN9 rfl (hS1.rf (i:=1) rfl) hx) (getI_nn hx) (getI_ltI hx rfl))<|sQ 11 (ya B1 (k_.toNat*3) (r_.c.Gates.flatMap eN2) V2 K34 K6 (hS1.rf (i:=1) rfl) rfl rfl (eN9 x) (gi_seg eN9 hx)) ?_
 refine sS 5 (yN [vi 0,vi 0,vi 0] 3 hS1 K38) ?_
 rintro _ w_1 ⟨b1,rfl,hS2⟩
 refine s0 (yT 1 3 (aD b1) 56 (.agg V2.toArray) V2 0 hS2 K6) ?_
 rintro _ w_2 ⟨rfl,hS3⟩
 refine rn (cq ?_)
 obtain ⟨r_2,hc,hF⟩:=bI hF
 obtain ⟨x1,hx1,hF⟩:=bI hF
 obtain ⟨x2,hx2,hF⟩:=bI hF
 obtain ⟨r_3,hc1,hF⟩:=bI hF
 refine ra_start (hS3.se [0,1]).fn (by kernel_rfl) ?_
 have hS6:=hS3.drew
 refine rq 0 12 (v:=pt (aD b1) 0) rfl (hS6.se [0,1]) (fun w' hw'=>(yd (aD b1) 0 0 K51 K0)) ?_
 refine rq 1 13 rfl (hS6.se [0,1]) (fun w' hw'=>(yl (aD b1) 0 V2 (vi x.Kind) K1 (ST.cf hw' (i:=1) rfl))) ?_
 refine rA [2] ?_
 refine rC 14 2 rfl (yC [vi x.Kind] K112 (c_impl_isTwo x.Kind _  (hS6.inn0 [] rfl) hc)) ?_ aN
 rintro _ w_3 ⟨rfl,hd⟩
 have hS7:=hS6.out00 hd
 refine ⟨(hS7.se [0,1]),?_⟩
 refine rq 3 15 (v:=.bool (!r_2)) rfl (hS7.se [0,1]) (fun w' hw'=>(Y_not (p:=r_2) rfl rfl)) ?_
 refine rq 4 16 rfl (hS7.se [0,1]) (fun w' hw'=>(ym (.bool (!r_2)))) ?_
 refine rG 5 17 (B:=(!(!r_2))) (v:=pt (aD b) 0) rfl rfl rfl (uF_ 16) (hS7.se [0,1]) (fun hg w' hw'=>(yd (aD b) 0 1 k_fd_65_0_0_25 K3)) ?_
 let V1:List Value:=[vi r_.g.Nodes,.slice B r_.g.Edges.length c]
 refine rG 6 18 (B:=(!(!r_2))) (v:=.agg V1.toArray) rfl rfl rfl (uF_ 16) (hS7.se [0,1]) (fun hg1 w' hw'=>(ya (aD b) 0 V0 V1 K5 K3 (ST.cf hw' (i:=0) rfl) rfl (gv_of (v:=pt (aD b) 0) hg1))) ?_
 refine rG 7 19 (B:=(!(!r_2))) (v:=pt (aD b) 4) rfl rfl rfl (uF_ 16) (hS7.se [0,1]) (fun hg2 w' hw'=>(yd (aD b) 0 0 K64 K11)) ?_
 refine rG 8 20 (B:=(!(!r_2))) rfl rfl rfl (uF_ 16) (hS7.se [0,1]) (fun hg3 w' hw'=>(yl (aD b) 4 V0 (.slice B2 r_.place.length c2) K25 (ST.cf hw' (i:=0) rfl) rfl (gv_of (v:=pt (aD b) 4) hg3))) ?_
 refine rG 9 21 (B:=(!(!r_2))) (v:=pt (aD b1) 1) rfl rfl rfl (uF_ 16) (hS7.se [0,1]) (fun hg4 w' hw'=>(yd (aD b1) 0 0 K44 K0)) ?_
 refine rG 10 22 (B:=(!(!r_2))) rfl rfl rfl (uF_ 16) (hS7.se [0,1]) (fun hg5 w' hw'=>(yl (aD b1) 1 V2 (vi x.A) K1 (ST.cf hw' (i:=1) rfl) rfl (gv_of (v:=pt (aD b1) 1) hg5))) ?_
 refine rG 11 23 (B:=(!(!r_2))) (v:=pt B2 (x.A.toNat*1)) rfl rfl rfl (uF_ 16) (hS7.se [0,1]) (fun hg6 w' hw'=>(Y_index (B:=B2) (m:=r_.place.length) (c:=c2) (k:=.i64) (i:=x.A) K2 K0 rfl (gv_of (v:=.slice B2 r_.place.length c2) hg6) (gv_of (v:=vi x.A) hg6) (gi_isSome encI_len rfl (ST.rf hw' (i:=2) rfl) (gb_inv hx1 hg6)) (getI_nn (gb_inv hx1 hg6)) (getI_ltI (gb_inv hx1 hg6) rfl))) ?_
 refine rG 12 24 (B:=(!(!r_2))) rfl rfl rfl (uF_ 16) (hS7.se [0,1]) (fun hg7 w' hw'=>(yl B2 (x.A.toNat*1) (r_.place.flatMap encI) (vi x1) K1 (ST.rf hw' (i:=2) rfl) rfl (gv_of (v:=pt B2 (x.A.toNat*1)) hg7) (gi_at0 encI_len (gb_inv hx1 hg7) rfl))) ?_
 refine rG 13 25 (B:=(!(!r_2))) (v:=pt (aD b) 4) rfl rfl rfl (uF_ 16) (hS7.se [0,1]) (fun hg8 w' hw'=>(yd (aD b) 0 0 K64 K11)) ?_
 refine rG 14 26 (B:=(!(!r_2))) rfl rfl rfl (uF_ 16) (hS7.se [0,1]) (fun hg9 w' hw'=>(yl (aD b) 4 V0 (.slice B2 r_.place.length c2) K25 (ST.cf hw' (i:=0) rfl) rfl (gv_of (v:=pt (aD b) 4) hg9))) ?_
 refine rG 15 27 (B:=(!(!r_2))) (v:=pt (aD b1) 2) rfl rfl rfl (uF_ 16) (hS7.se [0,1]) (fun hg10 w' hw'=>(yd (aD b1) 0 0 K52 K0)) ?_
 refine rG 16 28 (B:=(!(!r_2))) rfl rfl rfl (uF_ 16) (hS7.se [0,1]) (fun hg11 w' hw'=>(yl (aD b1) 2 V2 (vi x.B) K1 (ST.cf hw' (i:=1) rfl) rfl (gv_of (v:=pt (aD b1) 2) hg11))) ?_
 refine rG 17 29 (B:=(!(!r_2))) (v:=pt B2 (x.B.toNat*1)) rfl rfl rfl (uF_ 16) (hS7.se [0,1]) (fun hg12 w' hw'=>(Y_index (B:=B2) (m:=r_.place.length) (c:=c2) (k:=.i64) (i:=x.B) K2 K0 rfl (gv_of (v:=.slice B2 r_.place.length c2) hg12) (gv_of (v:=vi x.B) hg12) (gi_isSome encI_len rfl (ST.rf hw' (i:=2) rfl) (gb_inv hx2 hg12)) (getI_nn (gb_inv hx2 hg12)) (getI_ltI (gb_inv hx2 hg12) rfl))) ?_
 refine rG 18 30 (B:=(!(!r_2))) rfl rfl rfl (uF_ 16) (hS7.se [0,1]) (fun hg13 w' hw'=>(yl B2 (x.B.toNat*1) (r_.place.flatMap encI) (vi x2) K1 (ST.rf hw' (i:=2) rfl) rfl (gv_of (v:=pt B2 (x.B.toNat*1)) hg13) (gi_at0 encI_len (gb_inv hx2 hg13) rfl))) ?_
 refine rA [19] ?_
 refine ra_gc 31 (i:=19) (B:=(!(!r_2))) (v:=.bool r_3) (F:=hS7.fn) rfl rfl rfl (uF_ 16) hS7 (fun hg14=>(yC [.agg V1.toArray,vi x1,vi x2] K133 (CV.mono (c_impl_CouplingGraph_joins r_.g x1 x2 B c r_.g.Edges.length _ rfl (hS7.inn0 [(true,0)] rfl) (gb_inv hc1 hg14)) (by rintro _ _ ⟨rfl,h⟩; exact ⟨rfl,hS7.out00 h⟩)) rfl (mc (gv_of (v:=.agg V1.toArray) hg14) (mc (gv_of (v:=vi x1) hg14) (mc (gv_of (v:=vi x2) hg14) mn))))) ?_ ?_
 ·rintro w_4 hS8
  refine ⟨(hS8.se [0,1]),?_⟩
  refine rq 20 32 (v:=.bool ((!r_2)||r_3)) rfl (hS8.se [0,1]) (fun w' hw'=>(Y_or (b:=(!r_2)) (z:=r_3) rfl rfl rfl rfl)) ?_
  refine rq 21 4 rfl (hS8.se [0,1]) (fun w' hw'=>(yg (.bool ((!r_2)||r_3)))) ?_
  refine ra_done (by kernel_rfl) ?_
  refine ct_ ?_
  obtain rfl:=sI hF
  exact ret1 Try.results37 (v1:=.bool ((!r_2)||r_3)) (resAt_tmp rfl) ⟨rfl,(hS8.sN [])⟩
 exact aN

theorem c_slices_IndexFunc_int_int (s:List Int) (f_:Int→Option (Bool)) (B:Option Addr) (c n:Nat) (kf:Nat) (caps:Array Value) (Rf:List Ro) (w0:World) (hn:s.length=n) (hk:callB Try.prog kf=true) (hp:∀ (w:World),ST w [] w [] Rf→∀ (x:Int) (y:Bool),f_ x=some y→CV Try.prog kf ((vi x)::caps.toList).toArray w (fun v w'=>v=.bool y∧ST w [] w' [] [])) (hS:ST w0 [] w0 [] (⟨B,(s.flatMap encI)⟩::Rf)) {r_:Int} (hF:F_slices_IndexFunc_int_int s f_=some r_) :
  CV Try.prog 101 #[.slice B n c,.func (.func kf) #[] caps] w0 (fun v w'=>v=vi r_∧ST w0 [] w' [] []):=by
 subst hn
 unfold F_slices_IndexFunc_int_int at hF
 refine cv_of_cw 19 Try.func101 rfl Try.ntmps101 rfl ?_
 refine cq (cr ?_)
 refine sQ 4 (yg (vi 0)) (rn (cq (cq (cr ?_))))
 refine sQ 6 (ym (.slice B s.length c))<|sQ 7 (Y_len (B:=B) (m:=s.length) (c:=c) K2 rfl rfl)<|sQ 8 (ym (vi 0)) (rn ?_)
 obtain ⟨hN,hF⟩:=chk_inv hF
 obtain ⟨z,hz,hF1⟩:=bI hF
 refine cw_block ?_
 refine cw_loop (fun k f w=>∃ (i:Nat),FF f [(0,.slice B s.length c),(1,.func (.func kf) #[] caps),(7,vi (s.length:Int)),(8,vi (i:Int))]∧ST w0 [] w [] (⟨B,(s.flatMap encI)⟩::Rf)∧i+k=s.length∧forX (F_slices_IndexFunc_int_int_l1 s f_) k i ()=some z) s.length ⟨0,(fc rfl (fc rfl (fc rfl (fc rfl fn_)))),(hS.sel [] rfl rfl),Nat.zero_add _,hz⟩ ?_
 rintro k_ f w ⟨i,hf,hS1,hik,hL⟩
 refine cq (cr ?_)
 refine sQ 9 (yL (i:Int) (s.length:Int) rfl (hf.g 8 3) (hf.g 7 2)) (rn (cq ?_))
 refine cw_cond (b:=(decide ((i:Int)<(s.length:Int)))) rfl (fun hlt=>?_) (fun hlt=>?_)
 ·skip
  have hlt1:i<s.length:=by have h:=of_decide_eq_true hlt; omega
  obtain ⟨K4,rfl⟩:∃ k2,k_=k2+1:=⟨k_-1,by omega⟩
  obtain ⟨y1,hb,hL1⟩:=forX_go hL
  unfold F_slices_IndexFunc_int_int_l1 at hb
  refine cw_skip (cq (cw_block (cq (cr ?_))))
  refine sQ 10 (ym (vi (i:Int)) rfl (hf.g 8 3))<|sQ 5 (yg (vi (i:Int))) (rn (cq (cr ?_)))
  refine sQ 11 (ym (.func (.func kf) #[] caps) rfl (hf.g 1 1))<|sQ 12 (ym (.slice B s.length c) rfl (hf.g 0 0))<|sQ 13 (ym (vi (i:Int))) ?_
  obtain ⟨x1,hx,hb⟩:=bI hb
  refine sQ 14 (Y_index (B:=B) (m:=s.length) (c:=c) (k:=.i64) (i:=(i:Int)) K2 K0 rfl rfl rfl (gi_isSome encI_len rfl (hS1.rf (i:=0) rfl) hx) (getI_nn hx) (getI_ltI hx rfl))<|sQ 15 (yl B ((i:Int).toNat*1) (s.flatMap encI) (vi x1) K1 (hS1.rf (i:=0) rfl) rfl rfl (gi_at0 encI_len hx rfl)) ?_
  obtain ⟨r_1,hc,hb⟩:=bI hb
  refine sc 16 rfl rfl (Yc_clos (g:=kf) (vs:=(vi x1)::caps.toList) hk rfl rfl (clo_args (mc rfl mn)) (hp _ (hS1.innS (fun _ h=>mOd (i:=1) h)) x1 r_1 hc)) ?_
  rintro _ w_ ⟨rfl,hd⟩
  have hS2:=hS1.out00 hd
  refine rn ?_
  refine cw_cond (b:=r_1) rfl (fun hb1=>?_) (fun hb1=>?_)
  ·skip
   have hF2:=ct hb hb1
   refine cq (cr ?_)
   refine sQ 17 (ym (vi (i:Int)))<|sQ 4 (yg (vi (i:Int))) (rn (ct_ ?_))
   obtain rfl:=sI hF2
   obtain rfl:=sI hL1
   obtain rfl:=sI hF1
   exact ret1 Try.results101 (v1:=vi (i:Int)) (resAt_tmp rfl) ⟨rfl,(hS2.sN [])⟩
  ·skip
   have hF3:=cf' hb hb1
   refine cw_skip (cr ?_)
   refine sQ 18 (yP (i:Int) 1 rfl (hf.g 8 3))<|sQ 8 (ym (vi (i64.wrap ((i:Int)+1)))) (rn ?_)
   obtain rfl:=sI hF3
   exact ⟨K4,Nat.lt_succ_self _,i+1,(hf.a 0 0 (hf.a 1 1 (hf.a 7 2 (fc (congrArg (Value.int .i64) (wr_succ hlt1 hN)) fn_)))),(hS2.sel [] rfl rfl),(by omega),hL1⟩
 ·skip
  obtain rfl:k_=0:=by have h:=of_decide_eq_false hlt; omega
  refine cw_exit rfl ?_
  obtain rfl:=sI hL
  refine cq (cr ?_)
  refine sQ 4 (yg (vi (-1))) (rn (ct_ ?_))
  obtain rfl:=sI hF1
  exact ret1 Try.results101 (v1:=vi (-1)) (resAt_tmp rfl) ⟨rfl,(hS1.sN [])⟩

theorem c_slices_ContainsFunc_int_int (s:List Int) (f_:Int→Option (Bool)) (B:Option Addr) (c n:Nat) (kf:Nat) (caps:Array Value) (Rf:List Ro) (w0:World) (hn:s.length=n) (hk:callB Try.prog kf=true) (hp:∀ (w:World),ST w [] w [] Rf→∀ (x:Int) (y:Bool),f_ x=some y→CV Try.prog kf ((vi x)::caps.toList).toArray w (fun v w'=>v=.bool y∧ST w [] w' [] [])) (hS:ST w0 [] w0 [] (⟨B,(s.flatMap encI)⟩::Rf)) {r_:Bool} (hF:F_slices_ContainsFunc_int_int s f_=some r_) :
  CV Try.prog 98 #[.slice B n c,.func (.func kf) #[] caps] w0 (fun v w'=>v=.bool r_∧ST w0 [] w' [] []):=by
 subst hn
 unfold F_slices_ContainsFunc_int_int at hF
 refine cv_of_cw 9 Try.func98 rfl Try.ntmps98 rfl ?_
 refine cq (cr ?_)
 refine sQ 4 (yg (.bool false)) (rn (cq (cr ?_)))
 refine sQ 5 (ym (.slice B s.length c))<|sQ 6 (ym (.func (.func kf) #[] caps)) ?_
 obtain ⟨r_1,hc,hF⟩:=bI hF
 refine sc 7 rfl rfl (yC [.slice B s.length c,.func (.func kf) #[] caps] k_call_101 (c_slices_IndexFunc_int_int s f_ B c s.length kf caps Rf _ rfl hk hp (hS.innS (sk 0 (fun _ h=>mOd (i:=1) h))) hc)) ?_
 rintro _ w_ ⟨rfl,hd⟩
 have hS1:=hS.out00 hd
 refine sQ 8 (Y_ge (k:=.i64) (a:=r_1) (b:=0) rfl rfl rfl)<|sQ 4 (yg (.bool (decide (0≤r_1)))) (rn (ct_ ?_))
 obtain rfl:=sI hF
 exact ret1 Try.results98 (v1:=.bool (decide (0≤r_1))) (resAt_tmp rfl) ⟨rfl,(hS1.sN [])⟩

theorem c_impl_qubitsOf (g:TGate)  (w0:World)  (hS:ST w0 [] w0 [] []) {r_:List Int} (hF:F_impl_qubitsOf g=some r_) :
  CV Try.prog 99 #[.agg #[vi g.Kind,vi g.A,vi g.B]] w0 (fun v w'=>∃ (B:Option Addr) (c:Nat),v=.slice B r_.length c∧ST w0 [] w' [⟨B,3,(r_.flatMap encI),c*1⟩] []):=by
 unfold F_impl_qubitsOf at hF
 refine cv_of_cw 19 Try.func99 rfl Try.ntmps99 rfl ?_
 refine cq (cr ?_)
 let V0:List Value:=[vi g.Kind,vi g.A,vi g.B]
 refine sS 1 (yB 56 (.agg V0.toArray) V0 3 hS) ?_
 rintro _ w_ ⟨b,rfl,hS1⟩
 refine sQ 2 (yg (.slice none 0 0)) (rn (cq (cw_block (cq (cr ?_)))))
 refine sQ 4 (yd (aD b) 0 0 K51 K0)<|sQ 5 (yl (aD b) 0 V0 (vi g.Kind) K1 (hS1.c 0))<|sQ 6 (yE g.Kind 12)<|sQ 3 (yg (.bool (g.Kind==12))) (rn ?_)
 refine cw_cond (b:=(g.Kind==12)) rfl (fun hb=>?_) (fun hb=>?_)
 ·skip
  have hF1:=ct hF hb
  refine cq (cr ?_)
  refine sQ 2 (yg (.slice none 0 0)) (rn (ct_ ?_))
  have hS2:=hS1.addNil 3
  obtain rfl:=sI hF1
  exact ret1 Try.results99 (v1:=.slice none 0 0) (resAt_tmp rfl) ⟨none,0,rfl,(hS2.sN [1])⟩
 ·skip
  have hF2:=cf' hF hb
  refine cq (cr ?_)
  refine sQ 8 (yd (aD b) 0 0 K51 K0)<|sQ 9 (yl (aD b) 0 V0 (vi g.Kind) K1 (hS1.c 0)) ?_
  obtain ⟨r_1,hc,hF2⟩:=bI hF2
  refine sc 10 rfl rfl (yC [vi g.Kind] K112 (c_impl_isTwo g.Kind _  (hS1.inn0 [] rfl) hc)) ?_
  rintro _ w_1 ⟨rfl,hd⟩
  have hS3:=hS1.out00 hd
  refine sQ 7 (yg (.bool r_1)) (rn ?_)
  refine cw_cond (b:=r_1) rfl (fun hb1=>?_) (fun hb1=>?_)
  ·skip
   have hF3:=ct hF2 hb1
   refine cq (cr ?_)
   refine sQ 11 (yd (aD b) 0 0 K44 K0)<|sQ 12 (yl (aD b) 1 V0 (vi g.A) K1 (hS3.c 0))<|sQ 13 (yd (aD b) 0 0 K52 K0)<|sQ 14 (yl (aD b) 2 V0 (vi g.B) K1 (hS3.c 0)) ?_
   refine sS 15 (Ys_bslice (s:=1) (len:=2) (vs:=[(0,vi g.A),(1,vi g.B)]) (cs:=[vi g.A,vi g.B]) (zs:=[vi 0,vi 0]) (m:=2) hS3 K2 K0 K30 rfl (mpc rfl (mpc rfl mpn)) rfl rfl rfl (by kernel_rfl) (by kernel_rfl) rfl) ?_
   rintro _ w_2 ⟨b1,rfl,hS4⟩
   refine sQ 2 (yg (.slice (aD b1) 2 2)) (rn (ct_ ?_))
   obtain rfl:=sI hF3
   exact ret1 Try.results99 (v1:=.slice (aD b1) 2 2) (resAt_tmp rfl) ⟨aD b1,2,rfl,(hS4.sN [1])⟩
  ·skip
   have hF4:=cf' hF2 hb1
   refine cw_skip (cq (cr ?_))
   refine sQ 16 (yd (aD b) 0 0 K44 K0)<|sQ 17 (yl (aD b) 1 V0 (vi g.A) K1 (hS3.c 0)) ?_
   refine sS 18 (Ys_bslice (s:=1) (len:=1) (vs:=[(0,vi g.A)]) (cs:=[vi g.A]) (zs:=[vi 0]) (m:=1) hS3 K2 K0 K30 rfl (mpc rfl mpn) rfl rfl rfl (by kernel_rfl) (by kernel_rfl) rfl) ?_
   rintro _ w_3 ⟨b2,rfl,hS5⟩
   refine sQ 2 (yg (.slice (aD b2) 1 1)) (rn (ct_ ?_))
   obtain rfl:=sI hF4
   exact ret1 Try.results99 (v1:=.slice (aD b2) 1 1) (resAt_tmp rfl) ⟨aD b2,1,rfl,(hS5.sN [1])⟩

theorem c_impl_meet_1 (q:Int) (p:TGate) (B:Option Addr) (w0:World)  (hS:ST w0 [] w0 [] [⟨B,[vi p.Kind,vi p.A,vi p.B]⟩]) {r_:Bool} (hF:F_impl_meet_1 q p=some r_) :
  CV Try.prog 100 #[vi q,pt B 0] w0 (fun v w'=>v=.bool r_∧ST w0 [] w' [] []):=by
 unfold F_impl_meet_1 at hF
 refine cv_of_cw 8 Try.func100 rfl Try.ntmps100 rfl ?_
 refine cq (cr ?_)
 refine sQ 3 (yg (.bool false)) (rn (cq (cr ?_)))
 refine sQ 4 (yb B 0 [vi p.Kind,vi p.A,vi p.B] K34 K6 (hS.rf (i:=0) rfl)) ?_
 obtain ⟨r_1,hc,hF⟩:=bI hF
 refine sc 5 rfl rfl (yC [.agg #[vi p.Kind,vi p.A,vi p.B]] k_call_99 (c_impl_qubitsOf p _  (hS.inn0 [] rfl) hc)) ?_
 rintro _ w_ ⟨B1,c,rfl,hd⟩
 have hS1:=hS.out0 hd
 refine sQ 6 (ym (vi q)) ?_
 obtain ⟨r_2,hc1,hF⟩:=bI hF
 refine sc 7 rfl rfl (yC [.slice B1 r_1.length c,vi q] k_call_65 (c_slices_Contains_int_int r_1 q B1 c r_1.length _ rfl (hS1.inn0 [(false,0)] rfl) hc1)) ?_
 rintro _ w_1 ⟨rfl,hd1⟩
 have hS2:=hS1.out00 hd1
 refine sQ 3 (yg (.bool r_2)) (rn (ct_ ?_))
 obtain rfl:=sI hF
 exact ret1 Try.results100 (v1:=.bool r_2) (resAt_tmp rfl) ⟨rfl,(hS2.sN [])⟩

theorem c_impl_meet (g:TGate) (h:TGate)  (w0:World)  (hS:ST w0 [] w0 [] []) {r_:Bool} (hF:F_impl_meet g h=some r_) :
  CV Try.prog 93 #[.agg #[vi g.Kind,vi g.A,vi g.B],.agg #[vi h.Kind,vi h.A,vi h.B]] w0 (fun v w'=>v=.bool r_∧ST w0 [] w' [] []):=by
 unfold F_impl_meet at hF
 refine cv_of_cw 9 Try.func93 rfl Try.ntmps93 rfl ?_
 refine cq (cr ?_)
 let V0:List Value:=[vi g.Kind,vi g.A,vi g.B]
 refine sS 2 (yB 56 (.agg V0.toArray) V0 3 hS) ?_
 rintro _ w_ ⟨b,rfl,hS1⟩
 refine sS 3 (yB 56 (.agg #[vi h.Kind,vi h.A,vi h.B]) [vi h.Kind,vi h.A,vi h.B] 3 hS1) ?_
 rintro _ w_1 ⟨b1,rfl,hS2⟩
 refine sQ 4 (yg (.bool false)) (rn (cq (cr ?_)))
 refine sQ 5 (yb (aD b) 0 V0 K34 K6 (hS2.c 0)) ?_
 obtain ⟨r_1,hc,hF⟩:=bI hF
 refine sc 6 rfl rfl (yC [.agg V0.toArray] k_call_99 (c_impl_qubitsOf g _  (hS2.inn0 [] rfl) hc)) ?_
 rintro _ w_2 ⟨B,c,rfl,hd⟩
 have hS3:=hS2.out0 hd
 refine sQ 7 (Y_makeFunc (cs:=[pt (aD b1) 0]) rfl rfl (mc rfl mn)) ?_
 obtain ⟨r_2,hc1,hF⟩:=bI hF
 refine sc 8 rfl rfl (yC [.slice B r_1.length c,.func (.func 100) #[] #[pt (aD b1) 0]] k_call_98 (c_slices_ContainsFunc_int_int r_1 (fun x_0=>F_impl_meet_1 x_0 h) B c r_1.length 100 (#[pt (aD b1) 0]) [⟨aD b1,[vi h.Kind,vi h.A,vi h.B]⟩] _ rfl k_call_100 (fun w hw x_0 y_0 h_=>c_impl_meet_1 x_0 h (aD b1) w  hw h_) (hS3.inn0 [(false,2),(false,1)] rfl) hc1)) ?_
 rintro _ w_3 ⟨rfl,hd1⟩
 have hS4:=hS3.out00 hd1
 refine sQ 4 (yg (.bool r_2)) (rn (ct_ ?_))
 obtain rfl:=sI hF
 exact ret1 Try.results93 (v1:=.bool r_2) (resAt_tmp rfl) ⟨rfl,(hS4.sN [])⟩

theorem c_impl_routing_isReady (r_:Trouting) (k_:Int) (B:Option Addr) (c n:Nat) (B1:Option Addr) (c1 n1:Nat) (B2:Option Addr) (c2 n2:Nat) (B3:Option Addr) (c3 n3:Nat) (w0:World) (hn:r_.g.Edges.length=n) (hn1:r_.c.Gates.length=n1) (hq:n1≤c1) (hn2:r_.place.length=n2) (hn3:r_.done.length=n3) (hS:ST w0 [] w0 [] [⟨B,(r_.g.Edges.flatMap eN1)⟩,⟨B1,(r_.c.Gates.flatMap eN2)⟩,⟨B2,(r_.place.flatMap encI)⟩,⟨B3,(r_.done.flatMap encB)⟩]) {r_1:Bool} (hF:F_impl_routing_isReady r_ k_=some r_1) :
  CV Try.prog 74 #[.agg #[vi r_.g.Nodes,.slice B n c,vi r_.c.Qubits,.slice B1 n1 c1,.slice B2 n2 c2,.slice B3 n3 c3],vi k_] w0 (fun v w'=>v=.bool r_1∧ST w0 [] w' [] []):=by
 subst hn
 subst hn1
 subst hn2
 subst hn3
 unfold F_impl_routing_isReady at hF
 refine cv_of_cw 50 Try.func74 rfl Try.ntmps74 rfl ?_
 refine cq (cr ?_)
 let V6:List Value:=[vi r_.g.Nodes,.slice B r_.g.Edges.length c,vi r_.c.Qubits,.slice B1 r_.c.Gates.length c1,.slice B2 r_.place.length c2,.slice B3 r_.done.length c3]
 refine sS 2 (yB 65 (.agg V6.toArray) V6 6 hS) ?_
 rintro _ w_ ⟨b,rfl,hS1⟩
 refine sQ 4 (yg (.bool false)) (rn (cq (cq (cr ?_))))
 refine sQ 7 (ym (vi k_))<|sQ 8 (yd (aD b) 0 1 K113 K7)<|sQ 9 (yd (aD b) 2 0 K19 K16)<|sQ 10 (yl (aD b) 3 V6 (.slice B1 r_.c.Gates.length c1) K21 (hS1.c 0))<|sQ 11 (Y_len (B:=B1) (m:=r_.c.Gates.length) (c:=c1) K12 rfl rfl)<|sQ 12 (yM (r_.c.Gates.length:Int) 1) ?_
 obtain ⟨r_2,hc,hF⟩:=bI hF
 refine sc 13 rfl rfl (yC [vi k_,vi 0,vi (i64.wrap ((r_.c.Gates.length:Int)-1))] K67 (c_impl_within k_ 0 (i64.wrap ((r_.c.Gates.length:Int)-1)) _  (hS1.inn0 [] rfl) hc)) ?_
 rintro _ w_1 ⟨rfl,hd⟩
 have hS2:=hS1.out00 hd
 refine sQ 14 (Y_not (p:=r_2) rfl rfl)<|sQ 15 (ym (.bool (!r_2))) ?_
 refine sgq 16 (B:=(!(!r_2))) (v:=pt (aD b) 5) rfl rfl (uF_ 15) (fun hg=>(yd (aD b) 0 0 K69 K40)) ?_
 refine sgq 17 (B:=(!(!r_2))) rfl rfl (uF_ 15) (fun hg1=>(yl (aD b) 5 V6 (.slice B3 r_.done.length c3) K56 (hS2.c 0) rfl (gv_of (v:=pt (aD b) 5) hg1))) ?_
 refine sgq 18 (B:=(!(!r_2))) rfl rfl (uF_ 15) (fun hg2=>(ym (vi k_))) ?_
 obtain ⟨x,hx,hF⟩:=bI hF
 refine sgq 19 (B:=(!(!r_2))) (v:=pt B3 (k_.toNat*1)) rfl rfl (uF_ 15) (fun hg3=>(Y_index (B:=B3) (m:=r_.done.length) (c:=c3) (k:=.i64) (i:=k_) K36 K37 rfl (gv_of (v:=.slice B3 r_.done.length c3) hg3) (gv_of (v:=vi k_) hg3) (gi_isSome encB_len rfl (hS2.rf (i:=3) rfl) (gb_inv hx hg3)) (getI_nn (gb_inv hx hg3)) (getI_ltI (gb_inv hx hg3) rfl))) ?_
 refine sgq 20 (B:=(!(!r_2))) rfl rfl (uF_ 15) (fun hg4=>(yl B3 (k_.toNat*1) (r_.done.flatMap encB) (.bool x) K97 (hS2.rf (i:=3) rfl) rfl (gv_of (v:=pt B3 (k_.toNat*1)) hg4) (gi_at0 encB_len (gb_inv hx hg4) rfl))) ?_
 refine sQ 21 (Y_or (b:=(!r_2)) (z:=x) rfl rfl rfl rfl) (rn ?_)
 refine cw_cond (b:=((!r_2)||x)) rfl (fun hb=>?_) (fun hb=>?_)
 ·skip
  have hF1:=ct hF hb
  refine cq (cr ?_)
  refine sQ 4 (yg (.bool false)) (rn (ct_ ?_))
  obtain rfl:=sI hF1
  exact ret1 Try.results74 (v1:=.bool false) (resAt_tmp rfl) ⟨rfl,(hS2.sN [])⟩
 ·skip
  have hF2:=cf' hF hb
  refine cw_skip (cq (cq (cr ?_)))
  refine sQ 22 (yd (aD b) 0 1 K113 K7)<|sQ 23 (yd (aD b) 2 0 K19 K16)<|sQ 24 (yl (aD b) 3 V6 (.slice B1 r_.c.Gates.length c1) K21 (hS2.c 0))<|sQ 25 (ym (vi k_)) ?_
  obtain ⟨hsl,hF2⟩:=chk_inv hF2
  have hcap:r_.c.Gates.length≤c1:=hq
  have hv:(List.take k_.toNat r_.c.Gates).length=k_.toNat:=(take_len rfl (by omega))
  have hq1:k_.toNat≤c1:=by omega
  let R1:Ro:=⟨B1,((List.take k_.toNat r_.c.Gates).flatMap eN2)⟩
  let R2:Ro:=⟨B1,(r_.c.Gates.flatMap eN2)⟩
  let R3:Ro:=⟨B,(r_.g.Edges.flatMap eN1)⟩
  let R4:Ro:=⟨B2,(r_.place.flatMap encI)⟩
  let R5:Ro:=⟨B3,(r_.done.flatMap encB)⟩
  have ho:Org w0 [] [R3,R2,R4,R5] [R1]:=org_view eN9 (q:=c1) (org_mem (i:=1) rfl) (sv_zero _ _ _).symm rfl
  let O0:Ob:=⟨aD b,65,V6,6⟩
  have hS3:ST w0 [] _ [O0] [R1,R3,R2,R4,R5]:=ST.view eN9 hS2 (i:=1) rfl (lo:=0) (h:=k_.toNat) (q:=c1) (by omega) (by omega) (sv_zero _ _ _).symm rfl
  refine sQ 26 (Y_slice0 (B:=B1) (m:=r_.c.Gates.length) (c:=c1) (h:=k_.toNat) (s:=3) K12 K6 rfl rfl (bnd_some rfl (nn_toNat (by omega))) (by omega))<|sQ 27 (Y_len (B:=B1) (m:=k_.toNat) (c:=c1) K12 rfl rfl)<|sQ 28 (ym (vi 0)) (rn ?_)
  obtain ⟨hN,hF2⟩:=chk_inv hF2
  obtain ⟨z,hz,hF3⟩:=bI hF2
  refine cw_block ?_
  refine cw_loop (fun k f w=>∃ (i:Nat),FF f [(1,vi k_),(2,pt (aD b) 0),(26,.slice B1 k_.toNat c1),(27,vi (k_.toNat:Int)),(28,vi (i:Int))]∧ST w0 [] w [O0] [R1,R3,R2,R4,R5]∧i+k=k_.toNat∧forX (F_impl_routing_isReady_l1 k_ r_) k i ()=some z) k_.toNat ⟨0,(fc rfl (fc rfl (fc rfl (fc rfl (fc rfl fn_))))),(hS3.sel [0] rfl rfl),Nat.zero_add _,hz⟩ ?_
  rintro K4 f w ⟨i,hf,hS4,hik,hL⟩
  refine cq (cr ?_)
  refine sQ 29 (yL (i:Int) (k_.toNat:Int) rfl (hf.g 28 4) (hf.g 27 3)) (rn (cq ?_))
  refine cw_cond (b:=(decide ((i:Int)<(k_.toNat:Int)))) rfl (fun hlt=>?_) (fun hlt=>?_)
  ·skip
   have hlt1:i<k_.toNat:=by have h:=of_decide_eq_true hlt; omega
   obtain ⟨K10,rfl⟩:∃ k2,K4=k2+1:=⟨K4-1,by omega⟩
   obtain ⟨y,hb1,hL1⟩:=forX_go hL
   unfold F_impl_routing_isReady_l1 at hb1
   refine cw_skip (cq (cw_block (cq (cr ?_))))
   refine sQ 30 (ym (vi (i:Int)) rfl (hf.g 28 4)) ?_
   obtain ⟨x1,hx1,hb1⟩:=bI hb1
   let V7:List Value:=[vi x1.Kind,vi x1.A,vi x1.B]
   refine sQ 31 (Y_index (B:=B1) (m:=k_.toNat) (c:=c1) (k:=.i64) (i:=(i:Int)) K12 K6 rfl (hf.g 26 2) (hf.g 28 4) (gi_isSome eN9 rfl (hS4.rf (i:=0) rfl) hx1) (getI_nn hx1) (getI_ltI hx1 hv))<|sQ 32 (ya B1 ((i:Int).toNat*3) ((List.take k_.toNat r_.c.Gates).flatMap eN2) V7 K34 K6 (hS4.rf (i:=0) rfl) rfl rfl (eN9 x1) (gi_seg eN9 hx1)) ?_
   refine sS 6 (yN [vi 0,vi 0,vi 0] 3 hS4 K38) ?_
   rintro _ w_2 ⟨b1,rfl,hS5⟩
   refine sQ 5 (yg (vi (i:Int))) ?_
   refine s0 (yT 1 3 (aD b1) 56 (.agg V7.toArray) V7 0 hS5 K6) ?_
   rintro _ w_3 ⟨rfl,hS6⟩
   refine rn (cq ?_)
   obtain ⟨x2,hx2,hb1⟩:=bI hb1
   obtain ⟨x3,hx3,hb1⟩:=bI hb1
   obtain ⟨r_3,hc1,hb1⟩:=bI hb1
   refine ra_start (hS6.se [0,1]).fn (by kernel_rfl) ?_
   have hS8:=hS6.drew
   refine rq 0 33 (v:=pt (aD b) 5) rfl (hS8.se [0,1]) (fun w' hw'=>(yd (aD b) 0 0 K69 K40 rfl (hf.g 2 1))) ?_
   refine rq 1 34 rfl (hS8.se [0,1]) (fun w' hw'=>(yl (aD b) 5 V6 (.slice B3 r_.done.length c3) K56 (ST.cf hw' (i:=0) rfl))) ?_
   refine rq 2 35 rfl (hS8.se [0,1]) (fun w' hw'=>(ym (vi (i:Int)))) ?_
   refine rq 3 36 (v:=pt B3 ((i:Int).toNat*1)) rfl (hS8.se [0,1]) (fun w' hw'=>(Y_index (B:=B3) (m:=r_.done.length) (c:=c3) (k:=.i64) (i:=(i:Int)) K36 K37 rfl rfl rfl (gi_isSome encB_len rfl (ST.rf hw' (i:=4) rfl) hx2) (getI_nn hx2) (getI_ltI hx2 rfl))) ?_
   refine rq 4 37 rfl (hS8.se [0,1]) (fun w' hw'=>(yl B3 ((i:Int).toNat*1) (r_.done.flatMap encB) (.bool x2) K97 (ST.rf hw' (i:=4) rfl) rfl rfl (gi_at0 encB_len hx2 rfl))) ?_
   refine rq 5 38 (v:=.bool (!x2)) rfl (hS8.se [0,1]) (fun w' hw'=>(Y_not (p:=x2) rfl rfl)) ?_
   refine rq 6 39 rfl (hS8.se [0,1]) (fun w' hw'=>(ym (.bool (!x2)))) ?_
   refine rG 7 40 (B:=(!x2)) (v:=.agg V7.toArray) rfl rfl rfl (uT_ 39) (hS8.se [0,1]) (fun hg5 w' hw'=>(yb (aD b1) 0 V7 K34 K6 (ST.cf hw' (i:=1) rfl))) ?_
   refine rG 8 41 (B:=(!x2)) (v:=pt (aD b) 2) rfl rfl rfl (uT_ 39) (hS8.se [0,1]) (fun hg6 w' hw'=>(yd (aD b) 0 1 K113 K7 rfl (hf.g 2 1))) ?_
   refine rG 9 42 (B:=(!x2)) (v:=pt (aD b) 3) rfl rfl rfl (uT_ 39) (hS8.se [0,1]) (fun hg7 w' hw'=>(yd (aD b) 2 0 K19 K16 rfl (gv_of (v:=pt (aD b) 2) hg7))) ?_
   refine rG 10 43 (B:=(!x2)) rfl rfl rfl (uT_ 39) (hS8.se [0,1]) (fun hg8 w' hw'=>(yl (aD b) 3 V6 (.slice B1 r_.c.Gates.length c1) K21 (ST.cf hw' (i:=0) rfl) rfl (gv_of (v:=pt (aD b) 3) hg8))) ?_
   refine rG 11 44 (B:=(!x2)) rfl rfl rfl (uT_ 39) (hS8.se [0,1]) (fun hg9 w' hw'=>(ym (vi k_) rfl (hf.g 1 0))) ?_
   refine rG 12 45 (B:=(!x2)) (v:=pt B1 (k_.toNat*3)) rfl rfl rfl (uT_ 39) (hS8.se [0,1]) (fun hg10 w' hw'=>(Y_index (B:=B1) (m:=r_.c.Gates.length) (c:=c1) (k:=.i64) (i:=k_) K12 K6 rfl (gv_of (v:=.slice B1 r_.c.Gates.length c1) hg10) (gv_of (v:=vi k_) hg10) (gi_isSome eN9 rfl (ST.rf hw' (i:=2) rfl) (gb_inv hx3 hg10)) (getI_nn (gb_inv hx3 hg10)) (getI_ltI (gb_inv hx3 hg10) rfl))) ?_
   let V8:List Value:=[vi x3.Kind,vi x3.A,vi x3.B]
   refine rG 13 46 (B:=(!x2)) (v:=.agg V8.toArray) rfl rfl rfl (uT_ 39) (hS8.se [0,1]) (fun hg11 w' hw'=>(ya B1 (k_.toNat*3) (r_.c.Gates.flatMap eN2) V8 K34 K6 (ST.rf hw' (i:=2) rfl) rfl (gv_of (v:=pt B1 (k_.toNat*3)) hg11) (eN9 x3) (gi_seg eN9 (gb_inv hx3 hg11)))) ?_
   refine rA [14] ?_
   refine ra_gc 47 (i:=14) (B:=(!x2)) (v:=.bool r_3) (F:=hS8.fn) rfl rfl rfl (uT_ 39) hS8 (fun hg12=>(yC [.agg V7.toArray,.agg V8.toArray] k_call_93 (CV.mono (c_impl_meet x1 x3 _  (hS8.inn0 [] rfl) (gb_inv hc1 hg12)) (by rintro _ _ ⟨rfl,h⟩; exact ⟨rfl,hS8.out00 h⟩)) rfl (mc (gv_of (v:=.agg V7.toArray) hg12) (mc (gv_of (v:=.agg V8.toArray) hg12) mn)))) ?_ ?_
   ·rintro w_4 hS9
    refine ⟨(hS9.se [0,1]),?_⟩
    refine rq 15 48 (v:=.bool ((!x2)&&r_3)) rfl (hS9.se [0,1]) (fun w' hw'=>(Y_and (b:=(!x2)) (z:=r_3) rfl rfl rfl rfl)) ?_
    refine ra_done (by kernel_rfl) ?_
    refine cw_cond (b:=((!x2)&&r_3)) rfl (fun hb2=>?_) (fun hb2=>?_)
    ·skip
     have hF4:=ct hb1 hb2
     refine cq (cr ?_)
     refine sQ 4 (yg (.bool false)) (rn (ct_ ?_))
     obtain rfl:=sI hF4
     obtain rfl:=sI hL1
     obtain rfl:=sI hF3
     exact ret1 Try.results74 (v1:=.bool false) (resAt_tmp rfl) ⟨rfl,(hS9.sN [])⟩
    ·skip
     have hF5:=cf' hb1 hb2
     refine cw_skip (cr ?_)
     refine sQ 49 (yP (i:Int) 1 rfl (hf.g 28 4))<|sQ 28 (ym (vi (i64.wrap ((i:Int)+1)))) (rn ?_)
     obtain rfl:=sI hF5
     exact ⟨K10,Nat.lt_succ_self _,i+1,(hf.a 1 0 (hf.a 2 1 (hf.a 26 2 (hf.a 27 3 (fc (congrArg (Value.int .i64) (wr_succ hlt1 hN)) fn_))))),(hS9.sel [0] rfl rfl),(by omega),hL1⟩
   exact aN
  ·skip
   obtain rfl:K4=0:=by have h:=of_decide_eq_false hlt; omega
   refine cw_exit rfl ?_
   obtain rfl:=sI hL
   refine cq (cr ?_)
   refine sQ 4 (yg (.bool true)) (rn (ct_ ?_))
   obtain rfl:=sI hF3
   exact ret1 Try.results74 (v1:=.bool true) (resAt_tmp rfl) ⟨rfl,(hS4.sN [])⟩

theorem c_impl_routeNode_advance (n:TrouteNode) (B:Option Addr) (B1:Option Addr) (c n1:Nat) (B2:Option Addr) (c1 n2:Nat) (B3:Option Addr) (c2 n3:Nat) (B4:Option Addr) (c3 n4:Nat) (B5:Option Addr) (c4 n5:Nat) (w0:World) (hn:n.work.g.Edges.length=n1) (hn1:n.work.c.Gates.length=n2) (hq:n2≤c1) (hn2:n.work.place.length=n3) (hn3:n.work.done.length=n4) (hn4:n.steps.length=n5) (hS:ST w0 (bl [⟨B,89,[vi n.work.g.Nodes,.slice B1 n1 c,vi n.work.c.Qubits,.slice B2 n2 c1,.slice B3 n3 c2,.slice B4 n4 c3,.slice B5 n5 c4],7⟩,⟨B4,4,(n.work.done.flatMap encB),c3*1⟩,⟨B5,60,(n.steps.flatMap eN0),c4*3⟩]) w0 [⟨B,89,[vi n.work.g.Nodes,.slice B1 n1 c,vi n.work.c.Qubits,.slice B2 n2 c1,.slice B3 n3 c2,.slice B4 n4 c3,.slice B5 n5 c4],7⟩,⟨B4,4,(n.work.done.flatMap encB),c3*1⟩,⟨B5,60,(n.steps.flatMap eN0),c4*3⟩] [⟨B1,(n.work.g.Edges.flatMap eN1)⟩,⟨B2,(n.work.c.Gates.flatMap eN2)⟩,⟨B3,(n.work.place.flatMap encI)⟩]) {m:TrouteNode} {m1:List Bool} (hF:F_impl_routeNode_advance n=some (m,m1)) :
  CV Try.prog 48 #[pt B 0] w0 (fun v w'=>∃ (B6:Option Addr) (c5:Nat),v=.tuple #[]∧m1.length=n4∧ST w0 (bl [⟨B,89,[vi n.work.g.Nodes,.slice B1 n1 c,vi n.work.c.Qubits,.slice B2 n2 c1,.slice B3 n3 c2,.slice B4 n4 c3,.slice B5 n5 c4],7⟩,⟨B4,4,(n.work.done.flatMap encB),c3*1⟩,⟨B5,60,(n.steps.flatMap eN0),c4*3⟩]) w' [⟨B,89,[vi m.work.g.Nodes,.slice B1 n1 c,vi m.work.c.Qubits,.slice B2 n2 c1,.slice B3 n3 c2,.slice B4 n4 c3,.slice B6 m.steps.length c5],7⟩,⟨B4,4,(m1.flatMap encB),c3*1⟩,⟨B6,60,(m.steps.flatMap eN0),c5*3⟩] []):=by
 subst hn
 subst hn1
 subst hn2
 subst hn3
 subst hn4
 unfold F_impl_routeNode_advance at hF
 refine cv_of_cw 46 Try.func48 rfl Try.ntmps48 rfl ?_
 refine cq (cr ?_)
 refine sQ 2 (yg (vi 0)) (rn ?_)
 obtain ⟨z,hz,hF1⟩:=bI hF
 refine cw_block ?_
 let O0:Ob:=⟨B,89,[vi n.work.g.Nodes,.slice B1 n.work.g.Edges.length c,vi n.work.c.Qubits,.slice B2 n.work.c.Gates.length c1,.slice B3 n.work.place.length c2,.slice B4 n.work.done.length c3,.slice B5 n.steps.length c4],7⟩
 let P3:List Ob:=[O0,⟨B4,4,(n.work.done.flatMap encB),c3*1⟩,⟨B5,60,(n.steps.flatMap eN0),c4*3⟩]
 refine cw_loop (fun k f w=>∃ (done:List Bool) (steps:List TRouteStep) (k_:Int) (B7:Option Addr) (c6:Nat),FF f [(0,pt B 0),(2,vi k_)]∧done.length=n.work.done.length∧ST w0 (bl P3) w [⟨B,89,[vi n.work.g.Nodes,.slice B1 n.work.g.Edges.length c,vi n.work.c.Qubits,.slice B2 n.work.c.Gates.length c1,.slice B3 n.work.place.length c2,.slice B4 n.work.done.length c3,.slice B7 steps.length c6],7⟩,⟨B4,4,(done.flatMap encB),c3*1⟩,⟨B7,60,(steps.flatMap eN0),c6*3⟩] [⟨B1,(n.work.g.Edges.flatMap eN1)⟩,⟨B2,(n.work.c.Gates.flatMap eN2)⟩,⟨B3,(n.work.place.flatMap encI)⟩]∧whX (F_impl_routeNode_advance_l1 n) k (done,steps,k_)=some z) fuel ⟨n.work.done,n.steps,0,B5,c4,(fc rfl (fc rfl fn_)),rfl,(hS.sel [0,1,2] rfl rfl),hz⟩ ?_
 rintro K4 f w ⟨done,steps,k_,B7,c6,hf,hl,hS1,hL⟩
 obtain ⟨K10,y,rfl,hb,hL1⟩:=whX_go hL
 unfold F_impl_routeNode_advance_l1 at hb
 refine cq (cq (cr ?_))
 refine sQ 3 (ym (vi k_) rfl (hf.g 2 1))<|sQ 4 (ym (pt B 0) rfl (hf.g 0 0))<|sQ 5 (Y_nilCheck (B:=B) (i:=0) rfl rfl)<|sQ 6 (yd B 0 5 K86 K22)<|sQ 7 (yd B 0 1 K113 K7)<|sQ 8 (yd B 2 0 K19 K16) ?_
 let V1:List Value:=[vi n.work.g.Nodes,.slice B1 n.work.g.Edges.length c,vi n.work.c.Qubits,.slice B2 n.work.c.Gates.length c1,.slice B3 n.work.place.length c2,.slice B4 n.work.done.length c3,.slice B7 steps.length c6]
 refine sQ 9 (yl B 3 V1 (.slice B2 n.work.c.Gates.length c1) K21 (hS1.c 0))<|sQ 10 (Y_len (B:=B2) (m:=n.work.c.Gates.length) (c:=c1) K12 rfl rfl)<|sQ 11 (yL k_ (n.work.c.Gates.length:Int)) (rn ?_)
 refine cw_cond (b:=(decide (k_<(n.work.c.Gates.length:Int)))) rfl (fun hb1=>?_) (fun hb1=>?_)
 ·skip
  have hF2:=ct hb hb1
  refine cw_skip (cq ?_)
  obtain ⟨z1,hz1,hF3⟩:=bI hF2
  refine cw_mid (fun f w=>∃ (done1:List Bool) (steps1:List TRouteStep) (K18:Int) (B8:Option Addr) (c7:Nat),(done1,steps1,K18)=z1∧FF f [(0,pt B 0),(2,vi K18)]∧done1.length=n.work.done.length∧ST w0 (bl P3) w [⟨B,89,[vi n.work.g.Nodes,.slice B1 n.work.g.Edges.length c,vi n.work.c.Qubits,.slice B2 n.work.c.Gates.length c1,.slice B3 n.work.place.length c2,.slice B4 n.work.done.length c3,.slice B8 steps1.length c7],7⟩,⟨B4,4,(done1.flatMap encB),c3*1⟩,⟨B8,60,(steps1.flatMap eN0),c7*3⟩] [⟨B1,(n.work.g.Edges.flatMap eN1)⟩,⟨B2,(n.work.c.Gates.flatMap eN2)⟩,⟨B3,(n.work.place.flatMap encI)⟩]) ?_ ?_
  ·skip
   refine cw_block (cq (cr ?_))
   let V2:List Value:=[vi n.work.g.Nodes,.slice B1 n.work.g.Edges.length c,vi n.work.c.Qubits,.slice B2 n.work.c.Gates.length c1,.slice B3 n.work.place.length c2,.slice B4 n.work.done.length c3]
   refine sQ 14 (ym (pt B 0) rfl (hf.g 0 0))<|sQ 15 (Y_nilCheck (B:=B) (i:=0) rfl rfl)<|sQ 16 (yd B 0 5 K86 K22)<|sQ 17 (ya B 0 V1 V2 K47 K22 (hS1.c 0))<|sQ 18 (ym (vi k_) rfl (hf.g 2 1)) ?_
   obtain ⟨r_,hc,hz1⟩:=bI hz1
   refine sc 19 rfl rfl (yC [.agg V2.toArray,vi k_] k_call_74 (c_impl_routing_isReady (Trouting.mk n.work.g n.work.c n.work.place done) k_ B1 c n.work.g.Edges.length B2 c1 n.work.c.Gates.length B3 c2 n.work.place.length B4 c3 n.work.done.length _ rfl rfl hq rfl hl (hS1.inn0 [(true,0),(true,1),(true,2),(false,1)] rfl) hc)) ?_
   rintro _ w_ ⟨rfl,hd⟩
   have hS3:=hS1.out00 hd
   refine sQ 20 (ym (.bool r_)) ?_
   refine sgq 21 (B:=r_) rfl rfl (uT_ 20) (fun hg=>(ym (pt B 0) rfl (hf.g 0 0))) ?_
   refine sgq 22 (B:=r_) (v:=pt B 0) rfl rfl (uT_ 20) (fun hg1=>(Y_nilCheck (B:=B) (i:=0) rfl (gv_of (v:=pt B 0) hg1))) ?_
   refine sgq 23 (B:=r_) (v:=pt B 0) rfl rfl (uT_ 20) (fun hg2=>(yd B 0 5 K86 K22 rfl (gv_of (v:=pt B 0) hg2))) ?_
   refine sgq 24 (B:=r_) (v:=.agg V2.toArray) rfl rfl (uT_ 20) (fun hg3=>(ya B 0 V1 V2 K47 K22 (hS3.c 0) rfl (gv_of (v:=pt B 0) hg3))) ?_
   refine sgq 25 (B:=r_) rfl rfl (uT_ 20) (fun hg4=>(ym (vi k_) rfl (hf.g 2 1))) ?_
   obtain ⟨r_1,hc1,hz1⟩:=bI hz1
   refine sgc 26 (B:=r_) (v:=.bool r_1) (F:=hS3.fn) rfl rfl (uT_ 20) hS3 (fun hg5=>(yC [.agg V2.toArray,vi k_] K134 (CV.mono (c_impl_routing_fits (Trouting.mk n.work.g n.work.c n.work.place done) k_ B1 c n.work.g.Edges.length B2 c1 n.work.c.Gates.length B3 c2 n.work.place.length B4 c3 n.work.done.length _ rfl rfl rfl hl (hS3.inn0 [(true,0),(true,1),(true,2),(false,1)] rfl) (gb_inv hc1 hg5)) (by rintro _ _ ⟨rfl,h⟩; exact ⟨rfl,hS3.out00 h⟩)) rfl (mc (gv_of (v:=.agg V2.toArray) hg5) (mc (gv_of (v:=vi k_) hg5) mn)))) ?_
   rintro w_1 hS4
   refine sQ 27 (Y_and (b:=r_) (z:=r_1) rfl rfl rfl rfl) (rn ?_)
   refine cw_cond (b:=(r_&&r_1)) rfl (fun hb2=>?_) (fun hb2=>?_)
   ·skip
    have hF4:=ct hz1 hb2
    refine cq (cr ?_)
    refine sQ 28 (ym (pt B 0) rfl (hf.g 0 0))<|sQ 29 (Y_nilCheck (B:=B) (i:=0) rfl rfl)<|sQ 30 (yd B 0 5 K86 K22)<|sQ 31 (yd B 0 0 K69 K40)<|sQ 32 (yl B 5 V1 (.slice B4 n.work.done.length c3) K56 (hS4.c 0))<|sQ 33 (ym (vi k_) rfl (hf.g 2 1)) ?_
    obtain ⟨x,hx,hF4⟩:=bI hF4
    refine sQ 34 (Y_index (B:=B4) (m:=n.work.done.length) (c:=c3) (k:=.i64) (i:=k_) K36 K37 rfl rfl rfl (gi_isSome encB_len rfl (hS4.c 1) hx) (getI_nn hx) (getI_ltI hx hl)) ?_
    refine s0 (yS 1 1 B4 4 (.bool true) [.bool true] (k_.toNat*1) ((done.set k_.toNat true).flatMap encB) hS4 K37 rfl rfl rfl rfl rfl rfl rfl (gi_fit0 encB_len hx) (gi_set encB_len hx true rfl)) ?_
    rintro _ w_2 ⟨rfl,hS5⟩
    refine rn (cq (cr ?_))
    refine sQ 35 (ym (pt B 0) rfl (hf.g 0 0))<|sQ 36 (ym (pt B 0) rfl (hf.g 0 0))<|sQ 37 (Y_nilCheck (B:=B) (i:=0) rfl rfl)<|sQ 38 (yd B 0 0 K120 K15)<|sQ 39 (yl B 6 V1 (.slice B7 steps.length c6) K31 (hS5.c 0))<|sQ 40 (ym (vi k_) rfl (hf.g 2 1)) ?_
    refine sQ 41 (Y_buildS (zs:=[vi 0,vi 0,vi 0]) (vs:=[(0,vi k_)]) (cs:=[vi k_,vi 0,vi 0]) K82 K23 rfl (mpc rfl mpn) rfl) ?_
    refine sS 42 (Ys_bslice (s:=3) (len:=1) (vs:=[(0,.agg #[vi k_,vi 0,vi 0])]) (cs:=[vi k_,vi 0,vi 0]) (zs:=[vi 0,vi 0,vi 0]) (m:=3) hS5 K9 K8 K50 rfl (mpc rfl mpn) rfl rfl rfl (by kernel_rfl) (by kernel_rfl) rfl) ?_
    rintro _ w_3 ⟨b,rfl,hS6⟩
    obtain ⟨hap,hF4⟩:=chk_inv hF4
    refine sS 43 (Ys_append (s:=3) (by':=24) (i:=2) (nn:=steps.length) (c:=c6) (k:=1) (len:=(steps++[(TRouteStep.mk k_ 0 0)]).length) (B:=B7) (xs:=([(TRouteStep.mk k_ 0 0)].flatMap eN0)) (cs':=((steps++[(TRouteStep.mk k_ 0 0)]).flatMap eN0)) hS6 K9 K8 K41 K23 rfl (by decide) rfl rfl rfl rfl (fm_lenn (l:=steps) eN8 rfl) rfl (hS6.c 3) (fm_lenn (l:=[(TRouteStep.mk k_ 0 0)]) eN8 rfl) (fm_one' (enc:=eN0) enc_RouteStep_one [(TRouteStep.mk k_ 0 0)]) (by have:=hap; omega) (by have:=hap; simp only [maxLen]; omega) (fm_app _ _) (app_len (l:=steps) (l':=[(TRouteStep.mk k_ 0 0)]) rfl rfl)) ?_
    rintro _ w_4 ⟨B9,c8,rfl,hS7⟩
    refine sQ 44 (Y_nilCheck (B:=B) (i:=0) rfl rfl)<|sQ 45 (yd B 0 0 K120 K15) ?_
    refine s0 (yS 0 1 B 89 (.slice B9 ((steps++[(TRouteStep.mk k_ 0 0)]).length) c8) [.slice B9 ((steps++[(TRouteStep.mk k_ 0 0)]).length) c8] 6 [vi n.work.g.Nodes,.slice B1 n.work.g.Edges.length c,vi n.work.c.Qubits,.slice B2 n.work.c.Gates.length c1,.slice B3 n.work.place.length c2,.slice B4 n.work.done.length c3,.slice B9 ((steps++[(TRouteStep.mk k_ 0 0)]).length) c8] hS7 K15) ?_
    rintro _ w_5 ⟨rfl,hS8⟩
    refine rn (cr ?_)
    refine sQ 2 (yg (vi (-1))) (rn ?_)
    exact ⟨(done.set k_.toNat true),(steps++[(TRouteStep.mk k_ 0 0)]),(-1),B9,c8,(sI hF4),(hf.a 0 0 (fc rfl fn_)),(set_len _ _ _ hl),(hS8.sel [0,1,2] rfl rfl)⟩
   ·skip
    have hF5:=cf' hz1 hb2
    refine cw_skip ?_
    exact ⟨done,steps,k_,B7,c6,(sI hF5),(hf.a 0 0 (hf.a 2 1 fn_)),hl,(hS4.sel [0,1,2] rfl rfl)⟩
  rintro f w ⟨done1,steps1,K18,B8,c7,rfl,hf1,hl1,hS2⟩
  refine cr ?_
  refine sQ 12 (ym (vi K18) rfl (hf1.g 2 1))<|sQ 13 (yP K18 1)<|sQ 2 (yg (vi (i64.wrap (K18+1)))) (rn ?_)
  obtain rfl:=sI hF3
  exact ⟨K10,Nat.lt_succ_self _,done1,steps1,(i64.wrap (K18+1)),B8,c7,(hf1.a 0 0 (fc rfl fn_)),hl1,(hS2.sel [0,1,2] rfl rfl),hL1⟩
 ·skip
  have hF6:=cf' hb hb1
  refine cw_exit rfl ?_
  obtain rfl:=sI hF6
  obtain rfl:=sI hL1
  obtain ⟨rfl,rfl⟩:=pr2 (sI hF1)
  exact ret0 Try.results48  ⟨B7,c6,rfl,hl,(hS1.sN [0,1,2])⟩

theorem c_impl_routeNode_key (n:TrouteNode) (B:Option Addr) (c n1:Nat) (B1:Option Addr) (c1 n2:Nat) (B2:Option Addr) (c2 n3:Nat) (B3:Option Addr) (c3 n4:Nat) (B4:Option Addr) (c4 n5:Nat) (w0:World) (hn:n.work.g.Edges.length=n1) (hn1:n.work.c.Gates.length=n2) (hn2:n.work.place.length=n3) (hn3:n.work.done.length=n4) (hn4:n.steps.length=n5) (hS:ST w0 [] w0 [] [⟨B,(n.work.g.Edges.flatMap eN1)⟩,⟨B1,(n.work.c.Gates.flatMap eN2)⟩,⟨B2,(n.work.place.flatMap encI)⟩,⟨B3,(n.work.done.flatMap encB)⟩,⟨B4,(n.steps.flatMap eN0)⟩]) {r_:TrouteKey} (hF:F_impl_routeNode_key n=some r_) :
  CV Try.prog 49 #[.agg #[vi n.work.g.Nodes,.slice B n1 c,vi n.work.c.Qubits,.slice B1 n2 c1,.slice B2 n3 c2,.slice B3 n4 c3,.slice B4 n5 c4]] w0 (fun v w'=>v=.agg #[vi r_.place.1,vi r_.place.2.1,vi r_.place.2.2.1,vi r_.place.2.2.2.1,vi r_.place.2.2.2.2,.int .u64 r_.done]∧ST w0 [] w' [] []):=by
 subst hn
 subst hn1
 subst hn2
 subst hn3
 subst hn4
 unfold F_impl_routeNode_key at hF
 refine cv_of_cw 31 Try.func49 rfl Try.ntmps49 rfl ?_
 refine cq (cr ?_)
 let V2:List Value:=[vi n.work.g.Nodes,.slice B n.work.g.Edges.length c,vi n.work.c.Qubits,.slice B1 n.work.c.Gates.length c1,.slice B2 n.work.place.length c2,.slice B3 n.work.done.length c3,.slice B4 n.steps.length c4]
 refine sS 1 (yB 89 (.agg V2.toArray) V2 7 hS) ?_
 rintro _ w_ ⟨b,rfl,hS1⟩
 let V3:List Value:=[vi 0,vi 0,vi 0,vi 0,vi 0,.int .u64 0]
 refine sS 2 (yN V3 6 hS1 K135) ?_
 rintro _ w_1 ⟨b1,rfl,hS2⟩
 refine rn (cq (cr ?_))
 refine sQ 6 (Y_buildS (zs:=V3) (vs:=[]) (cs:=V3) k_pl_92 K135 rfl mpn rfl) ?_
 refine sS 3 (yN V3 6 hS2 K135) ?_
 rintro _ w_2 ⟨b2,rfl,hS3⟩
 refine s0 (yT 2 6 (aD b2) 92 (.agg V3.toArray) V3 0 hS3 K121) ?_
 rintro _ w_3 ⟨rfl,hS4⟩
 refine rn (cq ?_)
 refine ra_start (hS4.se [0,1]).fn (by kernel_rfl) ?_
 have hS5:=hS4.drew
 refine rq 0 7 (v:=pt (aD b2) 0) rfl (hS5.se [0,1]) (fun w' hw'=>(yd (aD b2) 0 4 k_fd_92_0_0_90 K136)) ?_
 refine rq 1 8 (v:=.slice (some (ad (aD b2) 0)) 5 5) rfl (hS5.se [0,1]) (fun w' hw'=>(Y_sliceArr (B:=aD b2) (k:=0) K137 K0 rfl rfl)) ?_
 refine rq 2 9 (v:=pt (aD b) 0) rfl (hS5.se [0,1]) (fun w' hw'=>(yd (aD b) 0 5 K86 K22)) ?_
 refine rq 3 10 (v:=pt (aD b) 4) rfl (hS5.se [0,1]) (fun w' hw'=>(yd (aD b) 0 0 K64 K11)) ?_
 refine rq 4 11 rfl (hS5.se [0,1]) (fun w' hw'=>(yl (aD b) 4 V2 (.slice B2 n.work.place.length c2) K25 (ST.cf hw' (i:=0) rfl))) ?_
 refine rA [5] ?_
 refine rS 12 5 rfl (Ys_copyArr (i:=2) (m:=6) (na:=5) (k:=0) (q:=n.work.place.length) (B:=aD b2) (A:=[]) (C:=[.int .u64 0]) (cs:=V3) (cs':=[vi (n.work.place.getD 0 0),vi (n.work.place.getD 1 0),vi (n.work.place.getD 2 0),vi (n.work.place.getD 3 0),vi (n.work.place.getD 4 0),.int .u64 0]) (l':=n.work.place) (old:=[0,0,0,0,0]) hS5 K2 K0 rfl rfl rfl rfl rfl rfl rfl (hS5.rf (i:=2) rfl) rfl rfl rfl) ?_ aN
 rintro _ w_4 ⟨rfl,hS6⟩
 refine ⟨(hS6.se [0,1]),?_⟩
 refine ra_done (by kernel_rfl) ?_
 refine cq (cq (cr ?_))
 refine sQ 13 (yd (aD b) 0 5 K86 K22)<|sQ 14 (yd (aD b) 0 0 K69 K40)<|sQ 15 (yl (aD b) 5 V2 (.slice B3 n.work.done.length c3) K56 (hS6.c 0))<|sQ 16 (Y_len (B:=B3) (m:=n.work.done.length) (c:=c3) K36 rfl rfl)<|sQ 17 (ym (vi 0)) (rn ?_)
 obtain ⟨z,hz,hF1⟩:=bI hF
 refine cw_block ?_
 let O0:Ob:=⟨aD b1,92,V3,6⟩
 refine cw_loop (fun k f w=>∃ (done:Int) (t:Int),FF f [(2,pt (aD b1) 0),(3,pt (aD b2) 0),(15,.slice B3 n.work.done.length c3),(16,vi (n.work.done.length:Int)),(17,vi t)]∧ST w0 [] w [O0,⟨aD b2,92,[vi (n.work.place.getD 0 0),vi (n.work.place.getD 1 0),vi (n.work.place.getD 2 0),vi (n.work.place.getD 3 0),vi (n.work.place.getD 4 0),.int .u64 done],6⟩] [⟨B,(n.work.g.Edges.flatMap eN1)⟩,⟨B1,(n.work.c.Gates.flatMap eN2)⟩,⟨B2,(n.work.place.flatMap encI)⟩,⟨B3,(n.work.done.flatMap encB)⟩,⟨B4,(n.steps.flatMap eN0)⟩]∧whX (F_impl_routeNode_key_l1 n) k (done,t)=some z) fuel ⟨0,0,(fc rfl (fc rfl (fc rfl (fc rfl (fc rfl fn_))))),(hS6.sel [1,2] rfl rfl),hz⟩ ?_
 rintro k_ f w ⟨done,t,hf,hS7,hL⟩
 obtain ⟨K4,y,rfl,hb,hL1⟩:=whX_go hL
 unfold F_impl_routeNode_key_l1 at hb
 refine cq (cr ?_)
 refine sQ 18 (yL t (n.work.done.length:Int) rfl (hf.g 17 4) (hf.g 16 3)) (rn (cq ?_))
 refine cw_cond (b:=(decide (t<(n.work.done.length:Int)))) rfl (fun hb1=>?_) (fun hb1=>?_)
 ·skip
  have hF2:=ct hb hb1
  refine cw_skip (cq ?_)
  obtain ⟨z1,hz1,hF3⟩:=bI hF2
  refine cw_mid (fun f w=>∃ (done1:Int),done1=z1∧FF f [(2,pt (aD b1) 0),(3,pt (aD b2) 0),(15,.slice B3 n.work.done.length c3),(16,vi (n.work.done.length:Int)),(17,vi t)]∧ST w0 [] w [O0,⟨aD b2,92,[vi (n.work.place.getD 0 0),vi (n.work.place.getD 1 0),vi (n.work.place.getD 2 0),vi (n.work.place.getD 3 0),vi (n.work.place.getD 4 0),.int .u64 done1],6⟩] [⟨B,(n.work.g.Edges.flatMap eN1)⟩,⟨B1,(n.work.c.Gates.flatMap eN2)⟩,⟨B2,(n.work.place.flatMap encI)⟩,⟨B3,(n.work.done.flatMap encB)⟩,⟨B4,(n.steps.flatMap eN0)⟩]) ?_ ?_
  ·skip
   refine cw_block (cq (cr ?_))
   refine sQ 19 (ym (vi t) rfl (hf.g 17 4)) ?_
   obtain ⟨x,hx,hz1⟩:=bI hz1
   refine sQ 20 (Y_index (B:=B3) (m:=n.work.done.length) (c:=c3) (k:=.i64) (i:=t) K36 K37 rfl (hf.g 15 2) (hf.g 17 4) (gi_isSome encB_len rfl (hS7.rf (i:=3) rfl) hx) (getI_nn hx) (getI_ltI hx rfl))<|sQ 21 (yl B3 (t.toNat*1) (n.work.done.flatMap encB) (.bool x) K97 (hS7.rf (i:=3) rfl) rfl rfl (gi_at0 encB_len hx rfl))<|sQ 4 (yg (vi t))<|sQ 5 (yg (.bool x)) (rn (cq (cr ?_)))
   refine sQ 22 (ym (.bool x)) (rn ?_)
   refine cw_cond (b:=x) rfl (fun hb2=>?_) (fun hb2=>?_)
   ·skip
    have hF4:=ct hz1 hb2
    obtain ⟨hsh,hF4⟩:=chk_inv hF4
    refine ra_start (hS7.se [0]).fn (by kernel_rfl) ?_
    have hS9:=hS7.drew
    refine rq 0 23 (v:=pt (aD b2) 5) rfl (hS9.se [0]) (fun w' hw'=>(yd (aD b2) 0 0 k_fd_92_1_5_49 K90 rfl (hf.g 3 1))) ?_
    refine rq 2 25 rfl (hS9.se [0]) (fun w' hw'=>(ym (vi t))) ?_
    refine rq 3 26 (v:=.int .u64 (shlK .u64 1 t)) rfl (hS9.se [0]) (fun w' hw'=>(Y_shl (k:=.u64) (a:=1) (k':=.i64) (b:=t) rfl rfl rfl hsh)) ?_
    refine rA [1] ?_
    refine ra_y 24 (i:=1) (v:=.int .u64 done) rfl rfl rfl (yl (aD b2) 5 [vi (n.work.place.getD 0 0),vi (n.work.place.getD 1 0),vi (n.work.place.getD 2 0),vi (n.work.place.getD 3 0),vi (n.work.place.getD 4 0),.int .u64 done] (.int .u64 done) K109 (hS9.c 1)) (hS9.se [0]) ?_ aN
    refine rq 4 27 (v:=.int .u64 (bits .or .u64 done (shlK .u64 1 t))) rfl (hS9.se [0]) (fun w' hw'=>(Y_bor (k:=.u64) (a:=done) (b:=(shlK .u64 1 t)) rfl rfl rfl)) ?_
    refine rq 5 28 (v:=pt (aD b2) 5) rfl (hS9.se [0]) (fun w' hw'=>(yd (aD b2) 0 0 k_fd_92_1_5_49 K90 rfl (hf.g 3 1))) ?_
    refine rA [6] ?_
    refine rZ 6 rfl (yS 1 1 (aD b2) 92 (.int .u64 (bits .or .u64 done (shlK .u64 1 t))) [.int .u64 (bits .or .u64 done (shlK .u64 1 t))] 5 [vi (n.work.place.getD 0 0),vi (n.work.place.getD 1 0),vi (n.work.place.getD 2 0),vi (n.work.place.getD 3 0),vi (n.work.place.getD 4 0),.int .u64 (bits .or .u64 done (shlK .u64 1 t))] hS9 K90) ?_ aN
    rintro _ w_5 ⟨rfl,hS10⟩
    refine ⟨(hS10.se [0]),?_⟩
    refine ra_done (by kernel_rfl) ?_
    exact ⟨(bits .or .u64 done (shlK .u64 1 t)),(sI hF4),(hf.a 2 0 (hf.a 3 1 (hf.a 15 2 (hf.a 16 3 (hf.a 17 4 fn_))))),(hS10.sel [0,1] rfl rfl)⟩
   ·skip
    have hF5:=cf' hz1 hb2
    refine cw_skip ?_
    exact ⟨done,(sI hF5),(hf.a 2 0 (hf.a 3 1 (hf.a 15 2 (hf.a 16 3 (hf.a 17 4 fn_))))),(hS7.sel [0,1] rfl rfl)⟩
  rintro f w ⟨done1,rfl,hf1,hS8⟩
  refine cr ?_
  refine sQ 29 (yP t 1 rfl (hf1.g 17 4))<|sQ 17 (ym (vi (i64.wrap (t+1)))) (rn ?_)
  obtain rfl:=sI hF3
  exact ⟨K4,Nat.lt_succ_self _,done1,(i64.wrap (t+1)),(hf1.a 2 0 (hf1.a 3 1 (hf1.a 15 2 (hf1.a 16 3 (fc rfl fn_))))),(hS8.sel [0,1] rfl rfl),hL1⟩
 ·skip
  have hF6:=cf' hb hb1
  refine cw_exit rfl ?_
  obtain rfl:=sI hF6
  obtain rfl:=sI hL1
  refine cq (cr ?_)
  let V1:List Value:=[vi (n.work.place.getD 0 0),vi (n.work.place.getD 1 0),vi (n.work.place.getD 2 0),vi (n.work.place.getD 3 0),vi (n.work.place.getD 4 0),.int .u64 done]
  refine sQ 30 (yb (aD b2) 0 V1 K138 K121 (hS7.c 1) rfl (hf.g 3 1)) ?_
  refine s0 (yT 0 6 (aD b1) 92 (.agg V1.toArray) V1 0 hS7 K121 rfl (hf.g 2 0)) ?_
  rintro _ w_6 ⟨rfl,hS11⟩
  refine rn (ct_ ?_)
  obtain rfl:=sI hF1
  exact ret1 Try.results49 (v1:=.agg V1.toArray) (resAt_cellA (B:=aD b1) (i:=0) (cs:=V1) (vs:=V1) (hf.g 2 0) K138 K121 (hS11.c 0) rfl rfl) ⟨rfl,(hS11.sN [])⟩

theorem c_slices_Index_bool_bool (s:List Bool) (v_:Bool) (B:Option Addr) (c n:Nat) (w0:World) (hn:s.length=n) (hS:ST w0 [] w0 [] [⟨B,(s.flatMap encB)⟩]) {r_:Int} (hF:F_slices_Index_bool_bool s v_=some r_) :
  CV Try.prog 75 #[.slice B n c,.bool v_] w0 (fun v w'=>v=vi r_∧ST w0 [] w' [] []):=by
 subst hn
 unfold F_slices_Index_bool_bool at hF
 refine cv_of_cw 19 Try.func75 rfl Try.ntmps75 rfl ?_
 refine cq (cr ?_)
 refine sQ 4 (yg (vi 0)) (rn (cq (cq (cr ?_))))
 refine sQ 6 (ym (.slice B s.length c))<|sQ 7 (Y_len (B:=B) (m:=s.length) (c:=c) K36 rfl rfl)<|sQ 8 (ym (vi 0)) (rn ?_)
 obtain ⟨hN,hF⟩:=chk_inv hF
 obtain ⟨z,hz,hF1⟩:=bI hF
 refine cw_block ?_
 refine cw_loop (fun k f w=>∃ (i:Nat),FF f [(0,.slice B s.length c),(1,.bool v_),(7,vi (s.length:Int)),(8,vi (i:Int))]∧ST w0 [] w [] [⟨B,(s.flatMap encB)⟩]∧i+k=s.length∧forX (F_slices_Index_bool_bool_l1 s v_) k i ()=some z) s.length ⟨0,(fc rfl (fc rfl (fc rfl (fc rfl fn_)))),(hS.sel [] rfl rfl),Nat.zero_add _,hz⟩ ?_
 rintro k_ f w ⟨i,hf,hS1,hik,hL⟩
 refine cq (cr ?_)
 refine sQ 9 (yL (i:Int) (s.length:Int) rfl (hf.g 8 3) (hf.g 7 2)) (rn (cq ?_))
 refine cw_cond (b:=(decide ((i:Int)<(s.length:Int)))) rfl (fun hlt=>?_) (fun hlt=>?_)
 ·skip
  have hlt1:i<s.length:=by have h:=of_decide_eq_true hlt; omega
  obtain ⟨K4,rfl⟩:∃ k2,k_=k2+1:=⟨k_-1,by omega⟩
  obtain ⟨y,hb,hL1⟩:=forX_go hL
  unfold F_slices_Index_bool_bool_l1 at hb
  refine cw_skip (cq (cw_block (cq (cr ?_))))
  refine sQ 10 (ym (vi (i:Int)) rfl (hf.g 8 3))<|sQ 5 (yg (vi (i:Int))) (rn (cq (cr ?_)))
  refine sQ 11 (ym (.bool v_) rfl (hf.g 1 1))<|sQ 12 (ym (.slice B s.length c) rfl (hf.g 0 0))<|sQ 13 (ym (vi (i:Int))) ?_
  obtain ⟨x,hx,hb⟩:=bI hb
  refine sQ 14 (Y_index (B:=B) (m:=s.length) (c:=c) (k:=.i64) (i:=(i:Int)) K36 K37 rfl rfl rfl (gi_isSome encB_len rfl (hS1.rf (i:=0) rfl) hx) (getI_nn hx) (getI_ltI hx rfl))<|sQ 15 (yl B ((i:Int).toNat*1) (s.flatMap encB) (.bool x) K97 (hS1.rf (i:=0) rfl) rfl rfl (gi_at0 encB_len hx rfl))<|sQ 16 (Y_beq (p:=v_) (q:=x) K139 rfl rfl rfl) (rn ?_)
  refine cw_cond (b:=(v_==x)) rfl (fun hb1=>?_) (fun hb1=>?_)
  ·skip
   have hF2:=ct hb hb1
   refine cq (cr ?_)
   refine sQ 17 (ym (vi (i:Int)))<|sQ 4 (yg (vi (i:Int))) (rn (ct_ ?_))
   obtain rfl:=sI hF2
   obtain rfl:=sI hL1
   obtain rfl:=sI hF1
   exact ret1 Try.results75 (v1:=vi (i:Int)) (resAt_tmp rfl) ⟨rfl,(hS1.sN [])⟩
  ·skip
   have hF3:=cf' hb hb1
   refine cw_skip (cr ?_)
   refine sQ 18 (yP (i:Int) 1 rfl (hf.g 8 3))<|sQ 8 (ym (vi (i64.wrap ((i:Int)+1)))) (rn ?_)
   obtain rfl:=sI hF3
   exact ⟨K4,Nat.lt_succ_self _,i+1,(hf.a 0 0 (hf.a 1 1 (hf.a 7 2 (fc (congrArg (Value.int .i64) (wr_succ hlt1 hN)) fn_)))),(hS1.sel [] rfl rfl),(by omega),hL1⟩
 ·skip
  obtain rfl:k_=0:=by have h:=of_decide_eq_false hlt; omega
  refine cw_exit rfl ?_
  obtain rfl:=sI hL
  refine cq (cr ?_)
  refine sQ 4 (yg (vi (-1))) (rn (ct_ ?_))
  obtain rfl:=sI hF1
  exact ret1 Try.results75 (v1:=vi (-1)) (resAt_tmp rfl) ⟨rfl,(hS1.sN [])⟩

theorem c_slices_Contains_bool_bool (s:List Bool) (v_:Bool) (B:Option Addr) (c n:Nat) (w0:World) (hn:s.length=n) (hS:ST w0 [] w0 [] [⟨B,(s.flatMap encB)⟩]) {r_:Bool} (hF:F_slices_Contains_bool_bool s v_=some r_) :
  CV Try.prog 50 #[.slice B n c,.bool v_] w0 (fun v w'=>v=.bool r_∧ST w0 [] w' [] []):=by
 subst hn
 unfold F_slices_Contains_bool_bool at hF
 refine cv_of_cw 9 Try.func50 rfl Try.ntmps50 rfl ?_
 refine cq (cr ?_)
 refine sQ 4 (yg (.bool false)) (rn (cq (cr ?_)))
 refine sQ 5 (ym (.slice B s.length c))<|sQ 6 (ym (.bool v_)) ?_
 obtain ⟨r_1,hc,hF⟩:=bI hF
 refine sc 7 rfl rfl (yC [.slice B s.length c,.bool v_] k_call_75 (c_slices_Index_bool_bool s v_ B c s.length _ rfl (hS.inn0 [(true,0)] rfl) hc)) ?_
 rintro _ w_ ⟨rfl,hd⟩
 have hS1:=hS.out00 hd
 refine sQ 8 (Y_ge (k:=.i64) (a:=r_1) (b:=0) rfl rfl rfl)<|sQ 4 (yg (.bool (decide (0≤r_1)))) (rn (ct_ ?_))
 obtain rfl:=sI hF
 exact ret1 Try.results50 (v1:=.bool (decide (0≤r_1))) (resAt_tmp rfl) ⟨rfl,(hS1.sN [])⟩

theorem c_impl_routing_swap (r_:Trouting) (a:Int) (b:Int) (B:Option Addr) (c n:Nat) (B1:Option Addr) (c1 n1:Nat) (B2:Option Addr) (c2 n2:Nat) (B3:Option Addr) (c3 n3:Nat) (w0:World) (hn:r_.g.Edges.length=n) (hn1:r_.c.Gates.length=n1) (hn2:r_.place.length=n2) (hn3:r_.done.length=n3) (hS:ST w0 (bl [⟨B2,3,(r_.place.flatMap encI),c2*1⟩]) w0 [⟨B2,3,(r_.place.flatMap encI),c2*1⟩] [⟨B,(r_.g.Edges.flatMap eN1)⟩,⟨B1,(r_.c.Gates.flatMap eN2)⟩,⟨B3,(r_.done.flatMap encB)⟩]) {m:List Int} (hF:F_impl_routing_swap r_ a b=some m) :
  CV Try.prog 39 #[.agg #[vi r_.g.Nodes,.slice B n c,vi r_.c.Qubits,.slice B1 n1 c1,.slice B2 n2 c2,.slice B3 n3 c3],vi a,vi b] w0 (fun v w'=>v=.tuple #[]∧m.length=n2∧ST w0 (bl [⟨B2,3,(r_.place.flatMap encI),c2*1⟩]) w' [⟨B2,3,(m.flatMap encI),c2*1⟩] []):=by
 subst hn
 subst hn1
 subst hn2
 subst hn3
 unfold F_impl_routing_swap at hF
 refine cv_of_cw 34 Try.func39 rfl Try.ntmps39 rfl ?_
 refine cq (cr ?_)
 let V1:List Value:=[vi r_.g.Nodes,.slice B r_.g.Edges.length c,vi r_.c.Qubits,.slice B1 r_.c.Gates.length c1,.slice B2 r_.place.length c2,.slice B3 r_.done.length c3]
 refine sS 3 (yB 65 (.agg V1.toArray) V1 6 hS) ?_
 rintro _ w_ ⟨b1,rfl,hS1⟩
 refine rn (cq (cr ?_))
 refine sQ 8 (yd (aD b1) 0 0 K64 K11)<|sQ 9 (yl (aD b1) 4 V1 (.slice B2 r_.place.length c2) K25 (hS1.c 1))<|sQ 10 (Y_len (B:=B2) (m:=r_.place.length) (c:=c2) K2 rfl rfl)<|sQ 11 (ym (vi 0)) (rn ?_)
 obtain ⟨hN,hF⟩:=chk_inv hF
 obtain ⟨z,hz,hF1⟩:=bI hF
 refine cw_block ?_
 let O0:Ob:=⟨aD b1,65,V1,6⟩
 refine cw_loop (fun k f w=>∃ (i:Nat) (m1:List Int),FF f [(1,vi a),(2,vi b),(3,pt (aD b1) 0),(9,.slice B2 r_.place.length c2),(10,vi (r_.place.length:Int)),(11,vi (i:Int))]∧m1.length=r_.place.length∧ST w0 (bl [⟨B2,3,(r_.place.flatMap encI),c2*1⟩]) w [⟨B2,3,(m1.flatMap encI),c2*1⟩,O0] [⟨B,(r_.g.Edges.flatMap eN1)⟩,⟨B1,(r_.c.Gates.flatMap eN2)⟩,⟨B3,(r_.done.flatMap encB)⟩]∧i+k=r_.place.length∧forN (F_impl_routing_swap_l1 a b) k i m1=some z) r_.place.length ⟨0,r_.place,(fc rfl (fc rfl (fc rfl (fc rfl (fc rfl (fc rfl fn_)))))),rfl,(hS1.sel [0,1] rfl rfl),Nat.zero_add _,hz⟩ ?_
 rintro k_ f w ⟨i,m1,hf,hl,hS2,hik,hL⟩
 refine cq (cr ?_)
 refine sQ 12 (yL (i:Int) (r_.place.length:Int) rfl (hf.g 11 5) (hf.g 10 4)) (rn (cq ?_))
 refine cw_cond (b:=(decide ((i:Int)<(r_.place.length:Int)))) rfl (fun hlt=>?_) (fun hlt=>?_)
 ·skip
  have hlt1:i<r_.place.length:=by have h:=of_decide_eq_true hlt; omega
  obtain ⟨K4,rfl⟩:∃ k2,k_=k2+1:=⟨k_-1,by omega⟩
  obtain ⟨y,hb,hL1⟩:=forN_go hL
  unfold F_impl_routing_swap_l1 at hb
  refine cw_skip (cq ?_)
  obtain ⟨z1,hz1,hF2⟩:=bI hb
  refine cw_mid (fun f w=>∃ (m2:List Int),m2=z1∧FF f [(1,vi a),(2,vi b),(3,pt (aD b1) 0),(9,.slice B2 r_.place.length c2),(10,vi (r_.place.length:Int)),(11,vi (i:Int))]∧m2.length=r_.place.length∧ST w0 (bl [⟨B2,3,(r_.place.flatMap encI),c2*1⟩]) w [⟨B2,3,(m2.flatMap encI),c2*1⟩,O0] [⟨B,(r_.g.Edges.flatMap eN1)⟩,⟨B1,(r_.c.Gates.flatMap eN2)⟩,⟨B3,(r_.done.flatMap encB)⟩]) ?_ ?_
  ·skip
   refine cw_block (cq (cr ?_))
   refine sQ 13 (ym (vi (i:Int)) rfl (hf.g 11 5)) ?_
   obtain ⟨x,hx,hz1⟩:=bI hz1
   refine sQ 14 (Y_index (B:=B2) (m:=r_.place.length) (c:=c2) (k:=.i64) (i:=(i:Int)) K2 K0 rfl (hf.g 9 3) (hf.g 11 5) (gi_isSome encI_len rfl (hS2.c 0) hx) (getI_nn hx) (getI_ltI hx hl))<|sQ 15 (yl B2 ((i:Int).toNat*1) (m1.flatMap encI) (vi x) K1 (hS2.c 0) rfl rfl (gi_at0 encI_len hx rfl))<|sQ 6 (yg (vi (i:Int)))<|sQ 7 (yg (vi x)) (rn (cq (cr ?_)))
   refine sQ 16 (ym (vi x)) (rn (cw_block (cq (cr ?_))))
   refine sQ 18 (ym (vi a) rfl (hf.g 1 0))<|sQ 19 (yE x a)<|sQ 17 (yg (.bool (x==a))) (rn ?_)
   refine cw_cond (b:=(x==a)) rfl (fun hb1=>?_) (fun hb1=>?_)
   ·skip
    have hF3:=ct hz1 hb1
    refine cr ?_
    refine sQ 20 (yd (aD b1) 0 0 K64 K11 rfl (hf.g 3 2))<|sQ 21 (yl (aD b1) 4 V1 (.slice B2 r_.place.length c2) K25 (hS2.c 1))<|sQ 22 (ym (vi (i:Int)))<|sQ 23 (ym (vi b) rfl (hf.g 2 1))<|sQ 24 (Y_index (B:=B2) (m:=r_.place.length) (c:=c2) (k:=.i64) (i:=(i:Int)) K2 K0 rfl rfl rfl (gi_isSome encI_len rfl (hS2.c 0) hx) (getI_nn hx) (getI_ltI hx hl)) ?_
    refine s0 (yS 0 1 B2 3 (vi b) [vi b] ((i:Int).toNat*1) ((m1.set (i:Int).toNat b).flatMap encI) hS2 K0 rfl rfl rfl rfl rfl rfl rfl (gi_fit0 encI_len hx) (gi_set encI_len hx b rfl)) ?_
    rintro _ w_1 ⟨rfl,hS4⟩
    refine rn ?_
    exact ⟨(m1.set (i:Int).toNat b),(sI hF3),(hf.a 1 0 (hf.a 2 1 (hf.a 3 2 (hf.a 9 3 (hf.a 10 4 (hf.a 11 5 fn_)))))),(set_len _ _ _ hl),(hS4.sel [0,1] rfl rfl)⟩
   ·skip
    have hF4:=cf' hz1 hb1
    refine cq (cr ?_)
    refine sQ 26 (ym (vi b) rfl (hf.g 2 1))<|sQ 27 (yE x b)<|sQ 25 (yg (.bool (x==b))) (rn ?_)
    refine cw_cond (b:=(x==b)) rfl (fun hb2=>?_) (fun hb2=>?_)
    ·skip
     have hF5:=ct hF4 hb2
     refine cr ?_
     refine sQ 28 (yd (aD b1) 0 0 K64 K11 rfl (hf.g 3 2))<|sQ 29 (yl (aD b1) 4 V1 (.slice B2 r_.place.length c2) K25 (hS2.c 1))<|sQ 30 (ym (vi (i:Int)))<|sQ 31 (ym (vi a) rfl (hf.g 1 0))<|sQ 32 (Y_index (B:=B2) (m:=r_.place.length) (c:=c2) (k:=.i64) (i:=(i:Int)) K2 K0 rfl rfl rfl (gi_isSome encI_len rfl (hS2.c 0) hx) (getI_nn hx) (getI_ltI hx hl)) ?_
     refine s0 (yS 0 1 B2 3 (vi a) [vi a] ((i:Int).toNat*1) ((m1.set (i:Int).toNat a).flatMap encI) hS2 K0 rfl rfl rfl rfl rfl rfl rfl (gi_fit0 encI_len hx) (gi_set encI_len hx a rfl)) ?_
     rintro _ w_2 ⟨rfl,hS5⟩
     refine rn ?_
     exact ⟨(m1.set (i:Int).toNat a),(sI hF5),(hf.a 1 0 (hf.a 2 1 (hf.a 3 2 (hf.a 9 3 (hf.a 10 4 (hf.a 11 5 fn_)))))),(set_len _ _ _ hl),(hS5.sel [0,1] rfl rfl)⟩
    ·skip
     have hF6:=cf' hF4 hb2
     refine cw_skip ?_
     exact ⟨m1,(sI hF6),(hf.a 1 0 (hf.a 2 1 (hf.a 3 2 (hf.a 9 3 (hf.a 10 4 (hf.a 11 5 fn_)))))),hl,(hS2.sel [0,1] rfl rfl)⟩
  rintro f w ⟨m2,rfl,hf1,hl1,hS3⟩
  refine cr ?_
  refine sQ 33 (yP (i:Int) 1 rfl (hf1.g 11 5))<|sQ 11 (ym (vi (i64.wrap ((i:Int)+1)))) (rn ?_)
  obtain rfl:=sI hF2
  exact ⟨K4,Nat.lt_succ_self _,i+1,m2,(hf1.a 1 0 (hf1.a 2 1 (hf1.a 3 2 (hf1.a 9 3 (hf1.a 10 4 (fc (congrArg (Value.int .i64) (wr_succ hlt1 hN)) fn_)))))),hl1,(hS3.sel [0,1] rfl rfl),(by omega),hL1⟩
 ·skip
  obtain rfl:k_=0:=by have h:=of_decide_eq_false hlt; omega
  refine cw_exit rfl ?_
  obtain rfl:=sI hL
  obtain rfl:=sI hF1
  exact ret0 Try.results39  ⟨rfl,hl,(hS2.sN [0])⟩

theorem c_slices_Clone_bool_bool (s:List Bool) (B:Option Addr) (c n:Nat) (w0:World) (hn:s.length=n) (hS:ST w0 [] w0 [] [⟨B,(s.flatMap encB)⟩]) {r_:List Bool} (hF:F_slices_Clone_bool_bool s=some r_) :
  CV Try.prog 76 #[.slice B n c] w0 (fun v w'=>∃ (B1:Option Addr) (c1:Nat),v=.slice B1 r_.length c1∧ST w0 [] w' [⟨B1,4,(r_.flatMap encB),c1*1⟩] []):=by
 subst hn
 unfold F_slices_Clone_bool_bool at hF
 refine cv_of_cw 8 Try.func76 rfl Try.ntmps76 rfl ?_
 refine cq (cr ?_)
 refine sQ 2 (yg (.slice none 0 0)) (rn (cq (cq (cr ?_))))
 refine sQ 3 (ym (.slice B s.length c))<|sQ 4 (Y_nileql (B:=B) (m:=s.length) (c:=c) K36 rfl rfl rfl) (rn ?_)
 refine cw_cond (b:=B.isNone) rfl (fun hb=>?_) (fun hb=>?_)
 ·skip
  have hl:s=[]:=nil_cont encB_len (hS.rf (i:=0) rfl) rfl hb
  rw [hl] at hF
  have hF1:(some ([]))=some r_:=by simpa [chk] using hF
  subst hl
  refine cq (cr ?_)
  refine sQ 2 (yg (.slice none 0 0)) (rn (ct_ ?_))
  have hS1:=hS.addNil 4
  obtain rfl:=sI hF1
  exact ret1 Try.results76 (v1:=.slice none 0 0) (resAt_tmp rfl) ⟨none,0,rfl,(hS1.sN [0])⟩
 ·skip
  refine cw_skip (cq (cr ?_))
  refine sS 5 (Ys_bslice0 (s:=1) (e:=4) hS K36 K37 rfl) ?_
  rintro _ w_ ⟨b,rfl,hS2⟩
  refine sQ 6 (ym (.slice B s.length c)) ?_
  obtain ⟨hap,hF⟩:=chk_inv hF
  refine sS 7 (Ys_append (s:=1) (by':=1) (i:=0) (nn:=0) (c:=0) (k:=s.length) (len:=s.length) (B:=aD b) (xs:=(s.flatMap encB)) (cs':=(s.flatMap encB)) hS2 K36 K37 K74 K68 rfl (by decide) rfl rfl rfl rfl (fm_lenn (l:=[]) encB_len rfl) rfl (hS2.rf (i:=0) rfl) (fm_lenn (l:=s) encB_len rfl) (fm_one' (enc:=encB) encB_one s) (by have:=hap; omega) (by have:=hap; simp only [maxLen]; omega) rfl (app_len0 (l:=s) rfl)) ?_
  rintro _ w_1 ⟨B2,c2,rfl,hS3⟩
  refine sQ 2 (yg (.slice B2 s.length c2)) (rn (ct_ ?_))
  obtain rfl:=sI hF
  exact ret1 Try.results76 (v1:=.slice B2 s.length c2) (resAt_tmp rfl) ⟨B2,c2,rfl,(hS3.sN [0])⟩

theorem c_slices_Clone_impl_RouteStep_impl_RouteStep (s:List TRouteStep) (B:Option Addr) (c n:Nat) (w0:World) (hn:s.length=n) (hS:ST w0 [] w0 [] [⟨B,(s.flatMap eN0)⟩]) {r_:List TRouteStep} (hF:F_slices_Clone_impl_RouteStep_impl_RouteStep s=some r_) :
  CV Try.prog 77 #[.slice B n c] w0 (fun v w'=>∃ (B1:Option Addr) (c1:Nat),v=.slice B1 r_.length c1∧ST w0 [] w' [⟨B1,60,(r_.flatMap eN0),c1*3⟩] []):=by
 subst hn
 unfold F_slices_Clone_impl_RouteStep_impl_RouteStep at hF
 refine cv_of_cw 8 Try.func77 rfl Try.ntmps77 rfl ?_
 refine cq (cr ?_)
 refine sQ 2 (yg (.slice none 0 0)) (rn (cq (cq (cr ?_))))
 refine sQ 3 (ym (.slice B s.length c))<|sQ 4 (Y_nileql (B:=B) (m:=s.length) (c:=c) K9 rfl rfl rfl) (rn ?_)
 refine cw_cond (b:=B.isNone) rfl (fun hb=>?_) (fun hb=>?_)
 ·skip
  have hl:s=[]:=nil_cont eN8 (hS.rf (i:=0) rfl) rfl hb
  rw [hl] at hF
  have hF1:(some ([]))=some r_:=by simpa [chk] using hF
  subst hl
  refine cq (cr ?_)
  refine sQ 2 (yg (.slice none 0 0)) (rn (ct_ ?_))
  have hS1:=hS.addNil 60
  obtain rfl:=sI hF1
  exact ret1 Try.results77 (v1:=.slice none 0 0) (resAt_tmp rfl) ⟨none,0,rfl,(hS1.sN [0])⟩
 ·skip
  refine cw_skip (cq (cr ?_))
  refine sS 5 (Ys_bslice0 (s:=3) (e:=60) hS K9 K8 rfl) ?_
  rintro _ w_ ⟨b,rfl,hS2⟩
  refine sQ 6 (ym (.slice B s.length c)) ?_
  obtain ⟨hap,hF⟩:=chk_inv hF
  refine sS 7 (Ys_append (s:=3) (by':=24) (i:=0) (nn:=0) (c:=0) (k:=s.length) (len:=s.length) (B:=aD b) (xs:=(s.flatMap eN0)) (cs':=(s.flatMap eN0)) hS2 K9 K8 K41 K23 rfl (by decide) rfl rfl rfl rfl (fm_lenn (l:=[]) eN8 rfl) rfl (hS2.rf (i:=0) rfl) (fm_lenn (l:=s) eN8 rfl) (fm_one' (enc:=eN0) enc_RouteStep_one s) (by have:=hap; omega) (by have:=hap; simp only [maxLen]; omega) rfl (app_len0 (l:=s) rfl)) ?_
  rintro _ w_1 ⟨B2,c2,rfl,hS3⟩
  refine sQ 2 (yg (.slice B2 s.length c2)) (rn (ct_ ?_))
  obtain rfl:=sI hF
  exact ret1 Try.results77 (v1:=.slice B2 s.length c2) (resAt_tmp rfl) ⟨B2,c2,rfl,(hS3.sN [0])⟩

theorem c_impl_routeNode_swapped (n:TrouteNode) (e:TEdge) (B:Option Addr) (c n1:Nat) (B1:Option Addr) (c1 n2:Nat) (B2:Option Addr) (c2 n3:Nat) (B3:Option Addr) (c3 n4:Nat) (B4:Option Addr) (c4 n5:Nat) (w0:World) (hn:n.work.g.Edges.length=n1) (hq:n1≤c) (hn1:n.work.c.Gates.length=n2) (hq1:n2≤c1) (hn2:n.work.place.length=n3) (hn3:n.work.done.length=n4) (hn4:n.steps.length=n5) (hS:ST w0 [] w0 [] [⟨B,(n.work.g.Edges.flatMap eN1)⟩,⟨B1,(n.work.c.Gates.flatMap eN2)⟩,⟨B2,(n.work.place.flatMap encI)⟩,⟨B3,(n.work.done.flatMap encB)⟩,⟨B4,(n.steps.flatMap eN0)⟩]) {r_:TrouteNode} (hF:F_impl_routeNode_swapped n e=some r_) :
  CV Try.prog 51 #[.agg #[vi n.work.g.Nodes,.slice B n1 c,vi n.work.c.Qubits,.slice B1 n2 c1,.slice B2 n3 c2,.slice B3 n4 c3,.slice B4 n5 c4],.agg #[vi e.A,vi e.B]] w0 (fun v w'=>∃ (B5:Option Addr) (c5:Nat) (B6:Option Addr) (c6:Nat) (B7:Option Addr) (c7:Nat) (B8:Option Addr) (c8:Nat) (B9:Option Addr) (c9:Nat),v=.agg #[vi r_.work.g.Nodes,.slice B5 r_.work.g.Edges.length c5,vi r_.work.c.Qubits,.slice B6 r_.work.c.Gates.length c6,.slice B7 r_.work.place.length c7,.slice B8 r_.work.done.length c8,.slice B9 r_.steps.length c9]∧r_.work.g.Edges.length≤c5∧r_.work.c.Gates.length≤c6∧Org w0 [] [⟨B,(n.work.g.Edges.flatMap eN1)⟩,⟨B1,(n.work.c.Gates.flatMap eN2)⟩,⟨B2,(n.work.place.flatMap encI)⟩,⟨B3,(n.work.done.flatMap encB)⟩,⟨B4,(n.steps.flatMap eN0)⟩] [⟨B5,(r_.work.g.Edges.flatMap eN1)⟩,⟨B6,(r_.work.c.Gates.flatMap eN2)⟩]∧ST w0 [] w' [⟨B7,3,(r_.work.place.flatMap encI),c7*1⟩,⟨B8,4,(r_.work.done.flatMap encB),c8*1⟩,⟨B9,60,(r_.steps.flatMap eN0),c9*3⟩] [⟨B5,(r_.work.g.Edges.flatMap eN1)⟩,⟨B6,(r_.work.c.Gates.flatMap eN2)⟩]):=by
 subst hn
 subst hn1
 subst hn2
 subst hn3
 subst hn4
 unfold F_impl_routeNode_swapped at hF
 refine cv_of_cw 37 Try.func51 rfl Try.ntmps51 rfl ?_
 refine cq (cr ?_)
 let V18:List Value:=[vi n.work.g.Nodes,.slice B n.work.g.Edges.length c,vi n.work.c.Qubits,.slice B1 n.work.c.Gates.length c1,.slice B2 n.work.place.length c2,.slice B3 n.work.done.length c3,.slice B4 n.steps.length c4]
 refine sS 2 (yB 89 (.agg V18.toArray) V18 7 hS) ?_
 rintro _ w_ ⟨b,rfl,hS1⟩
 refine sS 3 (yB 87 (.agg #[vi e.A,vi e.B]) [vi e.A,vi e.B] 2 hS1) ?_
 rintro _ w_1 ⟨b1,rfl,hS2⟩
 let V15:List Value:=[vi 0,.slice none 0 0,vi 0,.slice none 0 0,.slice none 0 0,.slice none 0 0,.slice none 0 0]
 refine sS 4 (yN V15 7 hS2 K42) ?_
 rintro _ w_2 ⟨b2,rfl,hS3⟩
 refine rn (cq (cr ?_))
 let V16:List Value:=[vi n.work.g.Nodes,.slice B n.work.g.Edges.length c,vi n.work.c.Qubits,.slice B1 n.work.c.Gates.length c1,.slice B2 n.work.place.length c2,.slice B3 n.work.done.length c3]
 refine sQ 7 (yd (aD b) 0 5 K86 K22)<|sQ 8 (ya (aD b) 0 V18 V16 K47 K22 (hS3.c 0)) ?_
 refine sS 5 (yN [vi 0,.slice none 0 0,vi 0,.slice none 0 0,.slice none 0 0,.slice none 0 0] 6 hS3 K80) ?_
 rintro _ w_3 ⟨b3,rfl,hS4⟩
 refine s0 (yT 3 6 (aD b3) 65 (.agg V16.toArray) V16 0 hS4 K22) ?_
 rintro _ w_4 ⟨rfl,hS5⟩
 refine rn (cq ?_)
 obtain ⟨r_1,hc,hF⟩:=bI hF
 obtain ⟨r_2,hc1,hF⟩:=bI hF
 let O0:Ob:=⟨aD b,89,V18,7⟩
 let O1:Ob:=⟨aD b2,89,V15,7⟩
 let R2:Ro:=⟨B1,(n.work.c.Gates.flatMap eN2)⟩
 let R3:Ro:=⟨B,(n.work.g.Edges.flatMap eN1)⟩
 let R4:Ro:=⟨B2,(n.work.place.flatMap encI)⟩
 let R5:Ro:=⟨B3,(n.work.done.flatMap encB)⟩
 refine cw_mid (fun f w=>∃ (B12:Option Addr) (c12:Nat) (B13:Option Addr) (c13:Nat),FF f [(2,pt (aD b) 0),(3,pt (aD b1) 0),(4,pt (aD b2) 0),(5,pt (aD b3) 0)]∧ST w0 [] w [O0,⟨aD b1,87,[vi e.A,vi e.B],2⟩,O1,⟨aD b3,65,[vi n.work.g.Nodes,.slice B n.work.g.Edges.length c,vi n.work.c.Qubits,.slice B1 n.work.c.Gates.length c1,.slice B12 r_1.length c12,.slice B13 r_2.length c13],6⟩,⟨B12,3,(r_1.flatMap encI),c12*1⟩,⟨B13,4,(r_2.flatMap encB),c13*1⟩] [R3,R2,R4,R5,⟨B4,(n.steps.flatMap eN0)⟩]) ?_ ?_
 ·skip
  refine ra_start (hS5.se [0,1,2]).fn (by kernel_rfl) ?_
  have hS9:=hS5.drew
  refine rq 0 9 (v:=pt (aD b3) 4) rfl (hS9.se [0,1,2]) (fun w' hw'=>(yd (aD b3) 0 0 K64 K11)) ?_
  refine rq 3 12 (v:=pt (aD b3) 5) rfl (hS9.se [0,1,2]) (fun w' hw'=>(yd (aD b3) 0 0 K69 K40)) ?_
  refine rA [1,4] ?_
  refine ra_y 10 (i:=1) (v:=.slice B2 n.work.place.length c2) rfl rfl rfl (yl (aD b3) 4 V16 (.slice B2 n.work.place.length c2) K25 (hS9.c 3)) (hS9.se [0,1,2]) ?_ ?_
  ·skip
   refine rA [2,4] ?_
   refine rC 11 2 rfl (yC [.slice B2 n.work.place.length c2] K96 (c_slices_Clone_int_int n.work.place B2 c2 n.work.place.length _ rfl (hS9.inn0 [(true,2)] rfl) hc)) ?_ ?_
   ·rintro _ w_5 ⟨B10,c10,rfl,hd⟩
    have hS10:=hS9.out0 hd
    refine ⟨(hS10.se [0,1,2]),?_⟩
    refine rA [4] ?_
    refine ra_y 13 (i:=4) (v:=.slice B3 n.work.done.length c3) rfl rfl rfl (yl (aD b3) 5 V16 (.slice B3 n.work.done.length c3) K56 (hS10.c 3)) (hS10.se [0,1,2]) ?_ aN
    refine rq 6 15 (v:=pt (aD b3) 4) rfl (hS10.se [0,1,2]) (fun w' hw'=>(yd (aD b3) 0 0 K64 K11)) ?_
    refine rA [5] ?_
    refine rC 14 5 rfl (yC [.slice B3 n.work.done.length c3] K140 (c_slices_Clone_bool_bool n.work.done B3 c3 n.work.done.length _ rfl (hS10.inn0 [(true,3)] rfl) hc1)) ?_ aN
    rintro _ w_6 ⟨B11,c11,rfl,hd1⟩
    have hS11:=hS10.out0 hd1
    refine ⟨(hS11.se [0,1,2]),?_⟩
    refine rA [7] ?_
    refine rZ 7 rfl (yS 3 1 (aD b3) 65 (.slice B10 r_1.length c10) [.slice B10 r_1.length c10] 4 [vi n.work.g.Nodes,.slice B n.work.g.Edges.length c,vi n.work.c.Qubits,.slice B1 n.work.c.Gates.length c1,.slice B10 r_1.length c10,.slice B3 n.work.done.length c3] hS11 K11) ?_ aN
    rintro _ w_7 ⟨rfl,hS12⟩
    refine ⟨(hS12.se [0,1,2]),?_⟩
    refine rq 8 16 (v:=pt (aD b3) 5) rfl (hS12.se [0,1,2]) (fun w' hw'=>(yd (aD b3) 0 0 K69 K40)) ?_
    refine rA [9] ?_
    refine rZ 9 rfl (yS 3 1 (aD b3) 65 (.slice B11 r_2.length c11) [.slice B11 r_2.length c11] 5 [vi n.work.g.Nodes,.slice B n.work.g.Edges.length c,vi n.work.c.Qubits,.slice B1 n.work.c.Gates.length c1,.slice B10 r_1.length c10,.slice B11 r_2.length c11] hS12 K40) ?_ aN
    rintro _ w_8 ⟨rfl,hS13⟩
    refine ⟨(hS13.se [0,1,2]),?_⟩
    refine ra_done (by kernel_rfl) ?_
    exact ⟨B10,c10,B11,c11,(fc rfl (fc rfl (fc rfl (fc rfl fn_)))),(hS13.sel [0,1,2,3,4,5] rfl rfl)⟩
   refine ra_y 13 (i:=4) (v:=.slice B3 n.work.done.length c3) rfl rfl rfl (yl (aD b3) 5 V16 (.slice B3 n.work.done.length c3) K56 (hS9.c 3)) (hS9.se [0,1,2]) ?_ aN
   refine rA [2] ?_
   refine rC 11 2 rfl (yC [.slice B2 n.work.place.length c2] K96 (c_slices_Clone_int_int n.work.place B2 c2 n.work.place.length _ rfl (hS9.inn0 [(true,2)] rfl) hc)) ?_ aN
   rintro _ w_9 ⟨B10,c10,rfl,hd2⟩
   have hS14:=hS9.out0 hd2
   refine ⟨(hS14.se [0,1,2]),?_⟩
   refine rq 6 15 (v:=pt (aD b3) 4) rfl (hS14.se [0,1,2]) (fun w' hw'=>(yd (aD b3) 0 0 K64 K11)) ?_
   refine rA [5] ?_
   refine rC 14 5 rfl (yC [.slice B3 n.work.done.length c3] K140 (c_slices_Clone_bool_bool n.work.done B3 c3 n.work.done.length _ rfl (hS14.inn0 [(true,3)] rfl) hc1)) ?_ aN
   rintro _ w_10 ⟨B11,c11,rfl,hd3⟩
   have hS15:=hS14.out0 hd3
   refine ⟨(hS15.se [0,1,2]),?_⟩
   refine rA [7] ?_
   refine rZ 7 rfl (yS 3 1 (aD b3) 65 (.slice B10 r_1.length c10) [.slice B10 r_1.length c10] 4 [vi n.work.g.Nodes,.slice B n.work.g.Edges.length c,vi n.work.c.Qubits,.slice B1 n.work.c.Gates.length c1,.slice B10 r_1.length c10,.slice B3 n.work.done.length c3] hS15 K11) ?_ aN
   rintro _ w_11 ⟨rfl,hS16⟩
   refine ⟨(hS16.se [0,1,2]),?_⟩
   refine rq 8 16 (v:=pt (aD b3) 5) rfl (hS16.se [0,1,2]) (fun w' hw'=>(yd (aD b3) 0 0 K69 K40)) ?_
   refine rA [9] ?_
   refine rZ 9 rfl (yS 3 1 (aD b3) 65 (.slice B11 r_2.length c11) [.slice B11 r_2.length c11] 5 [vi n.work.g.Nodes,.slice B n.work.g.Edges.length c,vi n.work.c.Qubits,.slice B1 n.work.c.Gates.length c1,.slice B10 r_1.length c10,.slice B11 r_2.length c11] hS16 K40) ?_ aN
   rintro _ w_12 ⟨rfl,hS17⟩
   refine ⟨(hS17.se [0,1,2]),?_⟩
   refine ra_done (by kernel_rfl) ?_
   exact ⟨B10,c10,B11,c11,(fc rfl (fc rfl (fc rfl (fc rfl fn_)))),(hS17.sel [0,1,2,3,4,5] rfl rfl)⟩
  refine ra_y 13 (i:=4) (v:=.slice B3 n.work.done.length c3) rfl rfl rfl (yl (aD b3) 5 V16 (.slice B3 n.work.done.length c3) K56 (hS9.c 3)) (hS9.se [0,1,2]) ?_ aN
  refine rA [1] ?_
  refine ra_y 10 (i:=1) (v:=.slice B2 n.work.place.length c2) rfl rfl rfl (yl (aD b3) 4 V16 (.slice B2 n.work.place.length c2) K25 (hS9.c 3)) (hS9.se [0,1,2]) ?_ aN
  refine rA [2] ?_
  refine rC 11 2 rfl (yC [.slice B2 n.work.place.length c2] K96 (c_slices_Clone_int_int n.work.place B2 c2 n.work.place.length _ rfl (hS9.inn0 [(true,2)] rfl) hc)) ?_ aN
  rintro _ w_13 ⟨B10,c10,rfl,hd4⟩
  have hS18:=hS9.out0 hd4
  refine ⟨(hS18.se [0,1,2]),?_⟩
  refine rq 6 15 (v:=pt (aD b3) 4) rfl (hS18.se [0,1,2]) (fun w' hw'=>(yd (aD b3) 0 0 K64 K11)) ?_
  refine rA [5] ?_
  refine rC 14 5 rfl (yC [.slice B3 n.work.done.length c3] K140 (c_slices_Clone_bool_bool n.work.done B3 c3 n.work.done.length _ rfl (hS18.inn0 [(true,3)] rfl) hc1)) ?_ aN
  rintro _ w_14 ⟨B11,c11,rfl,hd5⟩
  have hS19:=hS18.out0 hd5
  refine ⟨(hS19.se [0,1,2]),?_⟩
  refine rA [7] ?_
  refine rZ 7 rfl (yS 3 1 (aD b3) 65 (.slice B10 r_1.length c10) [.slice B10 r_1.length c10] 4 [vi n.work.g.Nodes,.slice B n.work.g.Edges.length c,vi n.work.c.Qubits,.slice B1 n.work.c.Gates.length c1,.slice B10 r_1.length c10,.slice B3 n.work.done.length c3] hS19 K11) ?_ aN
  rintro _ w_15 ⟨rfl,hS20⟩
  refine ⟨(hS20.se [0,1,2]),?_⟩
  refine rq 8 16 (v:=pt (aD b3) 5) rfl (hS20.se [0,1,2]) (fun w' hw'=>(yd (aD b3) 0 0 K69 K40)) ?_
  refine rA [9] ?_
  refine rZ 9 rfl (yS 3 1 (aD b3) 65 (.slice B11 r_2.length c11) [.slice B11 r_2.length c11] 5 [vi n.work.g.Nodes,.slice B n.work.g.Edges.length c,vi n.work.c.Qubits,.slice B1 n.work.c.Gates.length c1,.slice B10 r_1.length c10,.slice B11 r_2.length c11] hS20 K40) ?_ aN
  rintro _ w_16 ⟨rfl,hS21⟩
  refine ⟨(hS21.se [0,1,2]),?_⟩
  refine ra_done (by kernel_rfl) ?_
  exact ⟨B10,c10,B11,c11,(fc rfl (fc rfl (fc rfl (fc rfl fn_)))),(hS21.sel [0,1,2,3,4,5] rfl rfl)⟩
 rintro f w ⟨B12,c12,B13,c13,hf,hS8⟩
 refine cq (cr ?_)
 let V14:List Value:=[vi n.work.g.Nodes,.slice B n.work.g.Edges.length c,vi n.work.c.Qubits,.slice B1 n.work.c.Gates.length c1,.slice B12 r_1.length c12,.slice B13 r_2.length c13]
 refine sQ 17 (yb (aD b3) 0 V14 K47 K22 (hS8.c 3) rfl (hf.g 5 3))<|sQ 18 (yd (aD b1) 0 0 K55 K0 rfl (hf.g 3 1))<|sQ 19 (yl (aD b1) 0 [vi e.A,vi e.B] (vi e.A) K1 (hS8.c 1))<|sQ 20 (yd (aD b1) 0 0 K63 K0 rfl (hf.g 3 1))<|sQ 21 (yl (aD b1) 1 [vi e.A,vi e.B] (vi e.B) K1 (hS8.c 1)) ?_
 obtain ⟨m,hc2,hF⟩:=bI hF
 refine sc 22 rfl rfl (yC [.agg V14.toArray,vi e.A,vi e.B] K141 (c_impl_routing_swap (Trouting.mk n.work.g n.work.c r_1 r_2) e.A e.B B c n.work.g.Edges.length B1 c1 n.work.c.Gates.length B12 c12 r_1.length B13 c13 r_2.length _ rfl rfl rfl rfl (hS8.inn [false,false,false,false,true,false] rfl [(true,0),(true,1),(false,4)] rfl) hc2)) ?_
 rintro _ w_17 ⟨rfl,hl,hd6⟩
 have hS22:=hS8.out [false,false,false,false,true,false] rfl hd6
 refine rn (cq ?_)
 obtain ⟨r_3,hc3,hF⟩:=bI hF
 obtain ⟨hap,hF⟩:=chk_inv hF
 refine cw_mid (fun f w=>∃ (B16:Option Addr) (B17:Option Addr) (c16:Nat),FF f [(4,pt (aD b2) 0),(6,pt B16 0)]∧ST w0 [] w [O1,⟨B16,89,[vi n.work.g.Nodes,.slice B n.work.g.Edges.length c,vi n.work.c.Qubits,.slice B1 n.work.c.Gates.length c1,.slice B12 r_1.length c12,.slice B13 r_2.length c13,.slice B17 ((r_3++[(TRouteStep.mk (-1) e.A e.B)]).length) c16],7⟩,⟨B12,3,(m.flatMap encI),c12*1⟩,⟨B13,4,(r_2.flatMap encB),c13*1⟩,⟨B17,60,((r_3++[(TRouteStep.mk (-1) e.A e.B)]).flatMap eN0),c16*3⟩] [R3,R2,R4,R5,⟨B4,(n.steps.flatMap eN0)⟩]) ?_ ?_
 ·skip
  refine ra_start (hS22.se [0,1,2,3,4,5]).fn (by kernel_rfl) ?_
  have hS25:=hS22.drew
  refine rq 0 23 (v:=.agg V14.toArray) rfl (hS25.se [0,1,2,3,4,5]) (fun w' hw'=>(yb (aD b3) 0 V14 K47 K22 (ST.cf hw' (i:=3) rfl) rfl (hf.g 5 3))) ?_
  refine rq 1 24 (v:=pt (aD b) 6) rfl (hS25.se [0,1,2,3,4,5]) (fun w' hw'=>(yd (aD b) 0 0 K120 K15 rfl (hf.g 2 0))) ?_
  refine rq 2 25 rfl (hS25.se [0,1,2,3,4,5]) (fun w' hw'=>(yl (aD b) 6 V18 (.slice B4 n.steps.length c4) K31 (ST.cf hw' (i:=0) rfl))) ?_
  refine rq 4 27 (v:=pt (aD b1) 0) rfl (hS25.se [0,1,2,3,4,5]) (fun w' hw'=>(yd (aD b1) 0 0 K55 K0 rfl (hf.g 3 1))) ?_
  refine rq 5 28 rfl (hS25.se [0,1,2,3,4,5]) (fun w' hw'=>(yl (aD b1) 0 [vi e.A,vi e.B] (vi e.A) K1 (ST.cf hw' (i:=1) rfl))) ?_
  refine rq 6 29 (v:=pt (aD b1) 1) rfl (hS25.se [0,1,2,3,4,5]) (fun w' hw'=>(yd (aD b1) 0 0 K63 K0 rfl (hf.g 3 1))) ?_
  refine rq 7 30 rfl (hS25.se [0,1,2,3,4,5]) (fun w' hw'=>(yl (aD b1) 1 [vi e.A,vi e.B] (vi e.B) K1 (ST.cf hw' (i:=1) rfl))) ?_
  let V19:List Value:=[vi (-1),vi e.A,vi e.B]
  refine rq 8 31 (v:=.agg V19.toArray) rfl (hS25.se [0,1,2,3,4,5]) (fun w' hw'=>(Y_buildS (zs:=[vi 0,vi 0,vi 0]) (vs:=[(0,vi (-1)),(1,vi e.A),(2,vi e.B)]) (cs:=V19) K82 K23 rfl (mpc rfl (mpc rfl (mpc rfl mpn))) rfl)) ?_
  refine rA [3,9,12] ?_
  let V20:List Value:=[.slice B4 n.steps.length c4]
  refine rC 26 3 rfl (yC V20 K114 (c_slices_Clone_impl_RouteStep_impl_RouteStep n.steps B4 c4 n.steps.length _ rfl (hS25.inn0 [(true,4)] rfl) hc3)) ?_ ?_
  ·rintro _ w_18 ⟨B14,c14,rfl,hd7⟩
   have hS26:=hS25.out0 hd7
   refine ⟨(hS26.se [0,1,2,3,4,5]),?_⟩
   refine rA [9,12] ?_
   refine rS 32 9 rfl (Ys_bslice (s:=3) (len:=1) (vs:=[(0,.agg V19.toArray)]) (cs:=V19) (zs:=[vi 0,vi 0,vi 0]) (m:=3) hS26 K9 K8 K50 rfl (mpc rfl mpn) rfl rfl rfl (by kernel_rfl) (by kernel_rfl) rfl) ?_ ?_
   ·rintro _ w_19 ⟨b4,rfl,hS27⟩
    refine ⟨(hS27.se [0,1,2,3,4,5]),?_⟩
    refine rA [10,12] ?_
    refine rS 33 10 rfl (Ys_append (s:=3) (by':=24) (i:=6) (nn:=r_3.length) (c:=c14) (k:=1) (len:=(r_3++[(TRouteStep.mk (-1) e.A e.B)]).length) (B:=B14) (xs:=([(TRouteStep.mk (-1) e.A e.B)].flatMap eN0)) (cs':=((r_3++[(TRouteStep.mk (-1) e.A e.B)]).flatMap eN0)) hS27 K9 K8 K41 K23 rfl (by decide) rfl rfl rfl rfl (fm_lenn (l:=r_3) eN8 rfl) rfl (hS27.c 7) (fm_lenn (l:=[(TRouteStep.mk (-1) e.A e.B)]) eN8 rfl) (fm_one' (enc:=eN0) enc_RouteStep_one [(TRouteStep.mk (-1) e.A e.B)]) (by have:=hap; omega) (by have:=hap; simp only [maxLen]; omega) (fm_app _ _) (app_len (l:=r_3) (l':=[(TRouteStep.mk (-1) e.A e.B)]) rfl rfl)) ?_ ?_
    ·rintro _ w_20 ⟨B15,c15,rfl,hS28⟩
     refine ⟨(hS28.se [0,1,2,3,4,5]),?_⟩
     let V6:List Value:=[vi n.work.g.Nodes,.slice B n.work.g.Edges.length c,vi n.work.c.Qubits,.slice B1 n.work.c.Gates.length c1,.slice B12 r_1.length c12,.slice B13 r_2.length c13,.slice B15 ((r_3++[(TRouteStep.mk (-1) e.A e.B)]).length) c15]
     refine rq 11 34 (v:=.agg V6.toArray) rfl (hS28.se [0,1,2,3,4,5]) (fun w' hw'=>(Y_buildS (zs:=V15) (vs:=[(0,.agg V14.toArray),(1,.slice B15 ((r_3++[(TRouteStep.mk (-1) e.A e.B)]).length) c15)]) (cs:=V6) K83 K42 rfl (mpc rfl (mpc rfl mpn)) rfl)) ?_
     refine rA [12] ?_
     refine rS 6 12 rfl (yN V15 7 hS28 K42) ?_ aN
     rintro _ w_21 ⟨b5,rfl,hS29⟩
     refine ⟨(hS29.se [0,1,2,3,4,5]),?_⟩
     refine rA [13] ?_
     refine rZ 13 rfl (yT 8 7 (aD b5) 89 (.agg V6.toArray) V6 0 hS29 K27) ?_ aN
     rintro _ w_22 ⟨rfl,hS30⟩
     refine ⟨(hS30.se [0,1,2,3,4,5]),?_⟩
     refine ra_done (by kernel_rfl) ?_
     exact ⟨aD b5,B15,c15,(hf.a 4 2 (fc rfl fn_)),(hS30.sel [2,8,5,4,6] rfl rfl)⟩
    refine rS 6 12 rfl (yN V15 7 hS27 K42) ?_ aN
    rintro _ w_23 ⟨b5,rfl,hS31⟩
    refine ⟨(hS31.se [0,1,2,3,4,5]),?_⟩
    refine rA [10] ?_
    refine rS 33 10 rfl (Ys_append (s:=3) (by':=24) (i:=6) (nn:=r_3.length) (c:=c14) (k:=1) (len:=(r_3++[(TRouteStep.mk (-1) e.A e.B)]).length) (B:=B14) (xs:=([(TRouteStep.mk (-1) e.A e.B)].flatMap eN0)) (cs':=((r_3++[(TRouteStep.mk (-1) e.A e.B)]).flatMap eN0)) hS31 K9 K8 K41 K23 rfl (by decide) rfl rfl rfl rfl (fm_lenn (l:=r_3) eN8 rfl) rfl (hS31.c 7) (fm_lenn (l:=[(TRouteStep.mk (-1) e.A e.B)]) eN8 rfl) (fm_one' (enc:=eN0) enc_RouteStep_one [(TRouteStep.mk (-1) e.A e.B)]) (by have:=hap; omega) (by have:=hap; simp only [maxLen]; omega) (fm_app _ _) (app_len (l:=r_3) (l':=[(TRouteStep.mk (-1) e.A e.B)]) rfl rfl)) ?_ aN
    rintro _ w_24 ⟨B15,c15,rfl,hS32⟩
    refine ⟨(hS32.se [0,1,2,3,4,5]),?_⟩
    let V7:List Value:=[vi n.work.g.Nodes,.slice B n.work.g.Edges.length c,vi n.work.c.Qubits,.slice B1 n.work.c.Gates.length c1,.slice B12 r_1.length c12,.slice B13 r_2.length c13,.slice B15 ((r_3++[(TRouteStep.mk (-1) e.A e.B)]).length) c15]
    refine rq 11 34 (v:=.agg V7.toArray) rfl (hS32.se [0,1,2,3,4,5]) (fun w' hw'=>(Y_buildS (zs:=V15) (vs:=[(0,.agg V14.toArray),(1,.slice B15 ((r_3++[(TRouteStep.mk (-1) e.A e.B)]).length) c15)]) (cs:=V7) K83 K42 rfl (mpc rfl (mpc rfl mpn)) rfl)) ?_
    refine rA [13] ?_
    refine rZ 13 rfl (yT 8 7 (aD b5) 89 (.agg V7.toArray) V7 0 hS32 K27) ?_ aN
    rintro _ w_25 ⟨rfl,hS33⟩
    refine ⟨(hS33.se [0,1,2,3,4,5]),?_⟩
    refine ra_done (by kernel_rfl) ?_
    exact ⟨aD b5,B15,c15,(hf.a 4 2 (fc rfl fn_)),(hS33.sel [2,8,5,4,6] rfl rfl)⟩
   refine rS 6 12 rfl (yN V15 7 hS26 K42) ?_ aN
   rintro _ w_26 ⟨b5,rfl,hS34⟩
   refine ⟨(hS34.se [0,1,2,3,4,5]),?_⟩
   refine rA [9] ?_
   refine rS 32 9 rfl (Ys_bslice (s:=3) (len:=1) (vs:=[(0,.agg V19.toArray)]) (cs:=V19) (zs:=[vi 0,vi 0,vi 0]) (m:=3) hS34 K9 K8 K50 rfl (mpc rfl mpn) rfl rfl rfl (by kernel_rfl) (by kernel_rfl) rfl) ?_ aN
   rintro _ w_27 ⟨b4,rfl,hS35⟩
   refine ⟨(hS35.se [0,1,2,3,4,5]),?_⟩
   refine rA [10] ?_
   refine rS 33 10 rfl (Ys_append (s:=3) (by':=24) (i:=6) (nn:=r_3.length) (c:=c14) (k:=1) (len:=(r_3++[(TRouteStep.mk (-1) e.A e.B)]).length) (B:=B14) (xs:=([(TRouteStep.mk (-1) e.A e.B)].flatMap eN0)) (cs':=((r_3++[(TRouteStep.mk (-1) e.A e.B)]).flatMap eN0)) hS35 K9 K8 K41 K23 rfl (by decide) rfl rfl rfl rfl (fm_lenn (l:=r_3) eN8 rfl) rfl (hS35.c 8) (fm_lenn (l:=[(TRouteStep.mk (-1) e.A e.B)]) eN8 rfl) (fm_one' (enc:=eN0) enc_RouteStep_one [(TRouteStep.mk (-1) e.A e.B)]) (by have:=hap; omega) (by have:=hap; simp only [maxLen]; omega) (fm_app _ _) (app_len (l:=r_3) (l':=[(TRouteStep.mk (-1) e.A e.B)]) rfl rfl)) ?_ aN
   rintro _ w_28 ⟨B15,c15,rfl,hS36⟩
   refine ⟨(hS36.se [0,1,2,3,4,5]),?_⟩
   let V8:List Value:=[vi n.work.g.Nodes,.slice B n.work.g.Edges.length c,vi n.work.c.Qubits,.slice B1 n.work.c.Gates.length c1,.slice B12 r_1.length c12,.slice B13 r_2.length c13,.slice B15 ((r_3++[(TRouteStep.mk (-1) e.A e.B)]).length) c15]
   refine rq 11 34 (v:=.agg V8.toArray) rfl (hS36.se [0,1,2,3,4,5]) (fun w' hw'=>(Y_buildS (zs:=V15) (vs:=[(0,.agg V14.toArray),(1,.slice B15 ((r_3++[(TRouteStep.mk (-1) e.A e.B)]).length) c15)]) (cs:=V8) K83 K42 rfl (mpc rfl (mpc rfl mpn)) rfl)) ?_
   refine rA [13] ?_
   refine rZ 13 rfl (yT 7 7 (aD b5) 89 (.agg V8.toArray) V8 0 hS36 K27) ?_ aN
   rintro _ w_29 ⟨rfl,hS37⟩
   refine ⟨(hS37.se [0,1,2,3,4,5]),?_⟩
   refine ra_done (by kernel_rfl) ?_
   exact ⟨aD b5,B15,c15,(hf.a 4 2 (fc rfl fn_)),(hS37.sel [2,7,5,4,6] rfl rfl)⟩
  refine rS 32 9 rfl (Ys_bslice (s:=3) (len:=1) (vs:=[(0,.agg V19.toArray)]) (cs:=V19) (zs:=[vi 0,vi 0,vi 0]) (m:=3) hS25 K9 K8 K50 rfl (mpc rfl mpn) rfl rfl rfl (by kernel_rfl) (by kernel_rfl) rfl) ?_ ?_
  ·rintro _ w_30 ⟨b4,rfl,hS38⟩
   have hS38:ST w0 [] _ [O0,⟨aD b1,87,[vi e.A,vi e.B],2⟩,O1,⟨aD b3,65,V14,6⟩,⟨B13,4,(r_2.flatMap encB),c13*1⟩,⟨B12,3,(m.flatMap encI),c12*1⟩,⟨aD b4,60,([(TRouteStep.mk (-1) e.A e.B)].flatMap eN0),1*3⟩] [R3,R2,R4,R5,⟨B4,(n.steps.flatMap eN0)⟩]:=hS38
   refine ⟨(hS38.se [0,1,2,3,4,5]),?_⟩
   refine rA [3,12] ?_
   refine rC 26 3 rfl (yC V20 K114 (c_slices_Clone_impl_RouteStep_impl_RouteStep n.steps B4 c4 n.steps.length _ rfl (hS38.inn0 [(true,4)] rfl) hc3)) ?_ ?_
   ·rintro _ w_31 ⟨B14,c14,rfl,hd8⟩
    have hS39:=hS38.out0 hd8
    refine ⟨(hS39.se [0,1,2,3,4,5]),?_⟩
    refine rA [10,12] ?_
    refine rS 33 10 rfl (Ys_append (s:=3) (by':=24) (i:=7) (nn:=r_3.length) (c:=c14) (k:=1) (len:=(r_3++[(TRouteStep.mk (-1) e.A e.B)]).length) (B:=B14) (xs:=([(TRouteStep.mk (-1) e.A e.B)].flatMap eN0)) (cs':=((r_3++[(TRouteStep.mk (-1) e.A e.B)]).flatMap eN0)) hS39 K9 K8 K41 K23 rfl (by decide) rfl rfl rfl rfl (fm_lenn (l:=r_3) eN8 rfl) rfl (hS39.c 6) (fm_lenn (l:=[(TRouteStep.mk (-1) e.A e.B)]) eN8 rfl) (fm_one' (enc:=eN0) enc_RouteStep_one [(TRouteStep.mk (-1) e.A e.B)]) (by have:=hap; omega) (by have:=hap; simp only [maxLen]; omega) (fm_app _ _) (app_len (l:=r_3) (l':=[(TRouteStep.mk (-1) e.A e.B)]) rfl rfl)) ?_ ?_
    ·rintro _ w_32 ⟨B15,c15,rfl,hS40⟩
     refine ⟨(hS40.se [0,1,2,3,4,5]),?_⟩
     let V9:List Value:=[vi n.work.g.Nodes,.slice B n.work.g.Edges.length c,vi n.work.c.Qubits,.slice B1 n.work.c.Gates.length c1,.slice B12 r_1.length c12,.slice B13 r_2.length c13,.slice B15 ((r_3++[(TRouteStep.mk (-1) e.A e.B)]).length) c15]
     refine rq 11 34 (v:=.agg V9.toArray) rfl (hS40.se [0,1,2,3,4,5]) (fun w' hw'=>(Y_buildS (zs:=V15) (vs:=[(0,.agg V14.toArray),(1,.slice B15 ((r_3++[(TRouteStep.mk (-1) e.A e.B)]).length) c15)]) (cs:=V9) K83 K42 rfl (mpc rfl (mpc rfl mpn)) rfl)) ?_
     refine rA [12] ?_
     refine rS 6 12 rfl (yN V15 7 hS40 K42) ?_ aN
     rintro _ w_33 ⟨b5,rfl,hS41⟩
     refine ⟨(hS41.se [0,1,2,3,4,5]),?_⟩
     refine rA [13] ?_
     refine rZ 13 rfl (yT 8 7 (aD b5) 89 (.agg V9.toArray) V9 0 hS41 K27) ?_ aN
     rintro _ w_34 ⟨rfl,hS42⟩
     refine ⟨(hS42.se [0,1,2,3,4,5]),?_⟩
     refine ra_done (by kernel_rfl) ?_
     exact ⟨aD b5,B15,c15,(hf.a 4 2 (fc rfl fn_)),(hS42.sel [2,8,5,4,7] rfl rfl)⟩
    refine rS 6 12 rfl (yN V15 7 hS39 K42) ?_ aN
    rintro _ w_35 ⟨b5,rfl,hS43⟩
    refine ⟨(hS43.se [0,1,2,3,4,5]),?_⟩
    refine rA [10] ?_
    refine rS 33 10 rfl (Ys_append (s:=3) (by':=24) (i:=7) (nn:=r_3.length) (c:=c14) (k:=1) (len:=(r_3++[(TRouteStep.mk (-1) e.A e.B)]).length) (B:=B14) (xs:=([(TRouteStep.mk (-1) e.A e.B)].flatMap eN0)) (cs':=((r_3++[(TRouteStep.mk (-1) e.A e.B)]).flatMap eN0)) hS43 K9 K8 K41 K23 rfl (by decide) rfl rfl rfl rfl (fm_lenn (l:=r_3) eN8 rfl) rfl (hS43.c 6) (fm_lenn (l:=[(TRouteStep.mk (-1) e.A e.B)]) eN8 rfl) (fm_one' (enc:=eN0) enc_RouteStep_one [(TRouteStep.mk (-1) e.A e.B)]) (by have:=hap; omega) (by have:=hap; simp only [maxLen]; omega) (fm_app _ _) (app_len (l:=r_3) (l':=[(TRouteStep.mk (-1) e.A e.B)]) rfl rfl)) ?_ aN
    rintro _ w_36 ⟨B15,c15,rfl,hS44⟩
    refine ⟨(hS44.se [0,1,2,3,4,5]),?_⟩
    let V10:List Value:=[vi n.work.g.Nodes,.slice B n.work.g.Edges.length c,vi n.work.c.Qubits,.slice B1 n.work.c.Gates.length c1,.slice B12 r_1.length c12,.slice B13 r_2.length c13,.slice B15 ((r_3++[(TRouteStep.mk (-1) e.A e.B)]).length) c15]
    refine rq 11 34 (v:=.agg V10.toArray) rfl (hS44.se [0,1,2,3,4,5]) (fun w' hw'=>(Y_buildS (zs:=V15) (vs:=[(0,.agg V14.toArray),(1,.slice B15 ((r_3++[(TRouteStep.mk (-1) e.A e.B)]).length) c15)]) (cs:=V10) K83 K42 rfl (mpc rfl (mpc rfl mpn)) rfl)) ?_
    refine rA [13] ?_
    refine rZ 13 rfl (yT 8 7 (aD b5) 89 (.agg V10.toArray) V10 0 hS44 K27) ?_ aN
    rintro _ w_37 ⟨rfl,hS45⟩
    refine ⟨(hS45.se [0,1,2,3,4,5]),?_⟩
    refine ra_done (by kernel_rfl) ?_
    exact ⟨aD b5,B15,c15,(hf.a 4 2 (fc rfl fn_)),(hS45.sel [2,8,5,4,7] rfl rfl)⟩
   refine rS 6 12 rfl (yN V15 7 hS38 K42) ?_ aN
   rintro _ w_38 ⟨b5,rfl,hS46⟩
   refine ⟨(hS46.se [0,1,2,3,4,5]),?_⟩
   refine rA [3] ?_
   refine rC 26 3 rfl (yC V20 K114 (c_slices_Clone_impl_RouteStep_impl_RouteStep n.steps B4 c4 n.steps.length _ rfl (hS46.inn0 [(true,4)] rfl) hc3)) ?_ aN
   rintro _ w_39 ⟨B14,c14,rfl,hd9⟩
   have hS47:=hS46.out0 hd9
   refine ⟨(hS47.se [0,1,2,3,4,5]),?_⟩
   refine rA [10] ?_
   refine rS 33 10 rfl (Ys_append (s:=3) (by':=24) (i:=8) (nn:=r_3.length) (c:=c14) (k:=1) (len:=(r_3++[(TRouteStep.mk (-1) e.A e.B)]).length) (B:=B14) (xs:=([(TRouteStep.mk (-1) e.A e.B)].flatMap eN0)) (cs':=((r_3++[(TRouteStep.mk (-1) e.A e.B)]).flatMap eN0)) hS47 K9 K8 K41 K23 rfl (by decide) rfl rfl rfl rfl (fm_lenn (l:=r_3) eN8 rfl) rfl (hS47.c 6) (fm_lenn (l:=[(TRouteStep.mk (-1) e.A e.B)]) eN8 rfl) (fm_one' (enc:=eN0) enc_RouteStep_one [(TRouteStep.mk (-1) e.A e.B)]) (by have:=hap; omega) (by have:=hap; simp only [maxLen]; omega) (fm_app _ _) (app_len (l:=r_3) (l':=[(TRouteStep.mk (-1) e.A e.B)]) rfl rfl)) ?_ aN
   rintro _ w_40 ⟨B15,c15,rfl,hS48⟩
   refine ⟨(hS48.se [0,1,2,3,4,5]),?_⟩
   let V11:List Value:=[vi n.work.g.Nodes,.slice B n.work.g.Edges.length c,vi n.work.c.Qubits,.slice B1 n.work.c.Gates.length c1,.slice B12 r_1.length c12,.slice B13 r_2.length c13,.slice B15 ((r_3++[(TRouteStep.mk (-1) e.A e.B)]).length) c15]
   refine rq 11 34 (v:=.agg V11.toArray) rfl (hS48.se [0,1,2,3,4,5]) (fun w' hw'=>(Y_buildS (zs:=V15) (vs:=[(0,.agg V14.toArray),(1,.slice B15 ((r_3++[(TRouteStep.mk (-1) e.A e.B)]).length) c15)]) (cs:=V11) K83 K42 rfl (mpc rfl (mpc rfl mpn)) rfl)) ?_
   refine rA [13] ?_
   refine rZ 13 rfl (yT 7 7 (aD b5) 89 (.agg V11.toArray) V11 0 hS48 K27) ?_ aN
   rintro _ w_41 ⟨rfl,hS49⟩
   refine ⟨(hS49.se [0,1,2,3,4,5]),?_⟩
   refine ra_done (by kernel_rfl) ?_
   exact ⟨aD b5,B15,c15,(hf.a 4 2 (fc rfl fn_)),(hS49.sel [2,7,5,4,8] rfl rfl)⟩
  refine rS 6 12 rfl (yN V15 7 hS25 K42) ?_ aN
  rintro _ w_42 ⟨b5,rfl,hS50⟩
  refine ⟨(hS50.se [0,1,2,3,4,5]),?_⟩
  refine rA [3,9] ?_
  refine rC 26 3 rfl (yC V20 K114 (c_slices_Clone_impl_RouteStep_impl_RouteStep n.steps B4 c4 n.steps.length _ rfl (hS50.inn0 [(true,4)] rfl) hc3)) ?_ ?_
  ·rintro _ w_43 ⟨B14,c14,rfl,hd10⟩
   have hS51:=hS50.out0 hd10
   refine ⟨(hS51.se [0,1,2,3,4,5]),?_⟩
   refine rA [9] ?_
   refine rS 32 9 rfl (Ys_bslice (s:=3) (len:=1) (vs:=[(0,.agg V19.toArray)]) (cs:=V19) (zs:=[vi 0,vi 0,vi 0]) (m:=3) hS51 K9 K8 K50 rfl (mpc rfl mpn) rfl rfl rfl (by kernel_rfl) (by kernel_rfl) rfl) ?_ aN
   rintro _ w_44 ⟨b4,rfl,hS52⟩
   refine ⟨(hS52.se [0,1,2,3,4,5]),?_⟩
   refine rA [10] ?_
   refine rS 33 10 rfl (Ys_append (s:=3) (by':=24) (i:=7) (nn:=r_3.length) (c:=c14) (k:=1) (len:=(r_3++[(TRouteStep.mk (-1) e.A e.B)]).length) (B:=B14) (xs:=([(TRouteStep.mk (-1) e.A e.B)].flatMap eN0)) (cs':=((r_3++[(TRouteStep.mk (-1) e.A e.B)]).flatMap eN0)) hS52 K9 K8 K41 K23 rfl (by decide) rfl rfl rfl rfl (fm_lenn (l:=r_3) eN8 rfl) rfl (hS52.c 8) (fm_lenn (l:=[(TRouteStep.mk (-1) e.A e.B)]) eN8 rfl) (fm_one' (enc:=eN0) enc_RouteStep_one [(TRouteStep.mk (-1) e.A e.B)]) (by have:=hap; omega) (by have:=hap; simp only [maxLen]; omega) (fm_app _ _) (app_len (l:=r_3) (l':=[(TRouteStep.mk (-1) e.A e.B)]) rfl rfl)) ?_ aN
   rintro _ w_45 ⟨B15,c15,rfl,hS53⟩
   refine ⟨(hS53.se [0,1,2,3,4,5]),?_⟩
   let V12:List Value:=[vi n.work.g.Nodes,.slice B n.work.g.Edges.length c,vi n.work.c.Qubits,.slice B1 n.work.c.Gates.length c1,.slice B12 r_1.length c12,.slice B13 r_2.length c13,.slice B15 ((r_3++[(TRouteStep.mk (-1) e.A e.B)]).length) c15]
   refine rq 11 34 (v:=.agg V12.toArray) rfl (hS53.se [0,1,2,3,4,5]) (fun w' hw'=>(Y_buildS (zs:=V15) (vs:=[(0,.agg V14.toArray),(1,.slice B15 ((r_3++[(TRouteStep.mk (-1) e.A e.B)]).length) c15)]) (cs:=V12) K83 K42 rfl (mpc rfl (mpc rfl mpn)) rfl)) ?_
   refine rA [13] ?_
   refine rZ 13 rfl (yT 6 7 (aD b5) 89 (.agg V12.toArray) V12 0 hS53 K27) ?_ aN
   rintro _ w_46 ⟨rfl,hS54⟩
   refine ⟨(hS54.se [0,1,2,3,4,5]),?_⟩
   refine ra_done (by kernel_rfl) ?_
   exact ⟨aD b5,B15,c15,(hf.a 4 2 (fc rfl fn_)),(hS54.sel [2,6,5,4,7] rfl rfl)⟩
  refine rS 32 9 rfl (Ys_bslice (s:=3) (len:=1) (vs:=[(0,.agg V19.toArray)]) (cs:=V19) (zs:=[vi 0,vi 0,vi 0]) (m:=3) hS50 K9 K8 K50 rfl (mpc rfl mpn) rfl rfl rfl (by kernel_rfl) (by kernel_rfl) rfl) ?_ aN
  rintro _ w_47 ⟨b4,rfl,hS55⟩
  refine ⟨(hS55.se [0,1,2,3,4,5]),?_⟩
  refine rA [3] ?_
  refine rC 26 3 rfl (yC V20 K114 (c_slices_Clone_impl_RouteStep_impl_RouteStep n.steps B4 c4 n.steps.length _ rfl (hS55.inn0 [(true,4)] rfl) hc3)) ?_ aN
  rintro _ w_48 ⟨B14,c14,rfl,hd11⟩
  have hS56:=hS55.out0 hd11
  refine ⟨(hS56.se [0,1,2,3,4,5]),?_⟩
  refine rA [10] ?_
  refine rS 33 10 rfl (Ys_append (s:=3) (by':=24) (i:=8) (nn:=r_3.length) (c:=c14) (k:=1) (len:=(r_3++[(TRouteStep.mk (-1) e.A e.B)]).length) (B:=B14) (xs:=([(TRouteStep.mk (-1) e.A e.B)].flatMap eN0)) (cs':=((r_3++[(TRouteStep.mk (-1) e.A e.B)]).flatMap eN0)) hS56 K9 K8 K41 K23 rfl (by decide) rfl rfl rfl rfl (fm_lenn (l:=r_3) eN8 rfl) rfl (hS56.c 7) (fm_lenn (l:=[(TRouteStep.mk (-1) e.A e.B)]) eN8 rfl) (fm_one' (enc:=eN0) enc_RouteStep_one [(TRouteStep.mk (-1) e.A e.B)]) (by have:=hap; omega) (by have:=hap; simp only [maxLen]; omega) (fm_app _ _) (app_len (l:=r_3) (l':=[(TRouteStep.mk (-1) e.A e.B)]) rfl rfl)) ?_ aN
  rintro _ w_49 ⟨B15,c15,rfl,hS57⟩
  refine ⟨(hS57.se [0,1,2,3,4,5]),?_⟩
  let V13:List Value:=[vi n.work.g.Nodes,.slice B n.work.g.Edges.length c,vi n.work.c.Qubits,.slice B1 n.work.c.Gates.length c1,.slice B12 r_1.length c12,.slice B13 r_2.length c13,.slice B15 ((r_3++[(TRouteStep.mk (-1) e.A e.B)]).length) c15]
  refine rq 11 34 (v:=.agg V13.toArray) rfl (hS57.se [0,1,2,3,4,5]) (fun w' hw'=>(Y_buildS (zs:=V15) (vs:=[(0,.agg V14.toArray),(1,.slice B15 ((r_3++[(TRouteStep.mk (-1) e.A e.B)]).length) c15)]) (cs:=V13) K83 K42 rfl (mpc rfl (mpc rfl mpn)) rfl)) ?_
  refine rA [13] ?_
  refine rZ 13 rfl (yT 6 7 (aD b5) 89 (.agg V13.toArray) V13 0 hS57 K27) ?_ aN
  rintro _ w_50 ⟨rfl,hS58⟩
  refine ⟨(hS58.se [0,1,2,3,4,5]),?_⟩
  refine ra_done (by kernel_rfl) ?_
  exact ⟨aD b5,B15,c15,(hf.a 4 2 (fc rfl fn_)),(hS58.sel [2,6,5,4,8] rfl rfl)⟩
 rintro f w ⟨B16,B17,c16,hf1,hS24⟩
 refine cq (cr ?_)
 obtain ⟨⟨m1,m2⟩,hc4,hF⟩:=bI hF
 refine sc 35 rfl rfl (yC [pt B16 0] k_call_48 (c_impl_routeNode_advance (TrouteNode.mk (Trouting.mk n.work.g n.work.c m r_2) (r_3++[(TRouteStep.mk (-1) e.A e.B)])) B16 B c n.work.g.Edges.length B1 c1 n.work.c.Gates.length B12 c12 r_1.length B13 c13 r_2.length B17 c16 ((r_3++[(TRouteStep.mk (-1) e.A e.B)]).length) _ rfl rfl hq1 hl rfl rfl (hS24.inn [false,true,false,true,true] rfl [(true,0),(true,1),(false,1)] rfl) hc4) rfl (mc (hf1.g 6 1) mn)) ?_
 rintro _ w_51 ⟨B18,c17,rfl,hl1,hd12⟩
 have hS59:=hS24.out [false,true,false,true,true] rfl hd12
 refine rn (cq (cr ?_))
 let V17:List Value:=[vi m1.work.g.Nodes,.slice B n.work.g.Edges.length c,vi m1.work.c.Qubits,.slice B1 n.work.c.Gates.length c1,.slice B12 r_1.length c12,.slice B13 r_2.length c13,.slice B18 m1.steps.length c17]
 refine sQ 36 (yb B16 0 V17 K84 K27 (hS59.c 2) rfl (hf1.g 6 1)) ?_
 refine s0 (yT 0 7 (aD b2) 89 (.agg V17.toArray) V17 0 hS59 K27 rfl (hf1.g 4 0)) ?_
 rintro _ w_52 ⟨rfl,hS60⟩
 refine rn (ct_ ?_)
 obtain rfl:=sI hF
 exact ret1 Try.results51 (v1:=.agg V17.toArray) (resAt_cellA (B:=aD b2) (i:=0) (cs:=V17) (vs:=V17) (hf1.g 4 0) K84 K27 (hS60.c 0) rfl rfl) ⟨B,c,B1,c1,B12,c12,B13,c13,B18,c17,(by simp +zetaDelta [hl,hl1]),(len_le rfl hq),(len_le rfl hq1),(org_cons (org_mem (i:=0) rfl) (org_cons (org_mem (i:=1) rfl) org_nil)),((hS60.sel [1,3,4] rfl rfl).sT [0,1])⟩

theorem keK_impl_leastRoute_92:KeyE Try.prog 92 vK_routeKey :=
 keyAgg K138 (fun a=>⟨_,rfl⟩)
  (fun a b h=>by
   obtain ⟨⟨a0_0,a0_1,a0_2,a0_3,a0_4⟩,a1⟩:=a
   obtain ⟨⟨b0_0,b0_1,b0_2,b0_3,b0_4⟩,b1⟩:=b
   unfold vK_routeKey at h
   injection h with h
   have h:=congrArg Array.toList h
   simp only [List.cons.injEq,Value.int.injEq,true_and,and_true] at h
   simp only [TrouteKey.mk.injEq,Prod.mk.injEq]
   simp only [h,and_self])
  (fun a b=>⟨_,(eqr_struct (xs:=[vi a.place.1,vi a.place.2.1,vi a.place.2.2.1,vi a.place.2.2.2.1,vi a.place.2.2.2.2,.int .u64 a.done]) (ys:=[vi b.place.1,vi b.place.2.1,vi b.place.2.2.1,vi b.place.2.2.2.1,vi b.place.2.2.2.2,.int .u64 b.done]) k_st_92 k_ho_92 (pts_ag (us:=[vi a.place.1,vi a.place.2.1,vi a.place.2.2.1,vi a.place.2.2.2.1,vi a.place.2.2.2.2]) (vs:=[vi b.place.1,vi b.place.2.1,vi b.place.2.2.1,vi b.place.2.2.2.1,vi b.place.2.2.2.2]) k_ag_90 K136 rfl rfl (eqr_arr (xs:=[vi a.place.1,vi a.place.2.1,vi a.place.2.2.1,vi a.place.2.2.2.1,vi a.place.2.2.2.2]) (ys:=[vi b.place.1,vi b.place.2.1,vi b.place.2.2.1,vi b.place.2.2.2.1,vi b.place.2.2.2.2]) K137 K0 rfl (itm_sc K1 rfl rfl (eqr_int K43) (itm_sc K1 rfl rfl (eqr_int K43) (itm_sc K1 rfl rfl (eqr_int K43) (itm_sc K1 rfl rfl (eqr_int K43) (itm_sc K1 rfl rfl (eqr_int K43) itm_nil)))))) (pts_sc K109 rfl rfl (eqr_int K129) pts_nil))),by
   obtain ⟨⟨a0_0,a0_1,a0_2,a0_3,a0_4⟩,a1⟩:=a
   obtain ⟨⟨b0_0,b0_1,b0_2,b0_3,b0_4⟩,b1⟩:=b
   simp only [Bool.and_eq_true,beq_iff_eq,TrouteKey.mk.injEq,Prod.mk.injEq,and_true]
   try simp only [and_assoc]⟩)
  (fun a=>(chk_struct (xs:=[vi a.place.1,vi a.place.2.1,vi a.place.2.2.1,vi a.place.2.2.2.1,vi a.place.2.2.2.2,.int .u64 a.done]) k_st_92 (pck_ag (us:=[vi a.place.1,vi a.place.2.1,vi a.place.2.2.1,vi a.place.2.2.2.1,vi a.place.2.2.2.2]) k_ag_90 K136 rfl (chk_arr (xs:=[vi a.place.1,vi a.place.2.1,vi a.place.2.2.1,vi a.place.2.2.2.1,vi a.place.2.2.2.2]) K137 K1 K0 rfl (ick_sc rfl (chk_int K43) (ick_sc rfl (chk_int K43) (ick_sc rfl (chk_int K43) (ick_sc rfl (chk_int K43) (ick_sc rfl (chk_int K43) ick_nil)))))) (pck_sc K109 rfl (chk_int K129) pck_nil))))
  (fun a=>bits_agg (xs:=[vi a.place.1,vi a.place.2.1,vi a.place.2.2.1,vi a.place.2.2.2.1,vi a.place.2.2.2.2,.int .u64 a.done]) (fun v hv=>by
   simp only [List.mem_cons,List.not_mem_nil,or_false] at hv
   rcases hv with rfl | rfl | rfl | rfl | rfl | rfl <;> simp [Instr.sameBits]))
theorem c_impl_leastRoute (g:TCouplingGraph) (c1:TCircuit) (start:List Int) (B:Option Addr) (c n:Nat) (B1:Option Addr) (c2 n1:Nat) (B2:Option Addr) (c3 n2:Nat) (w0:World) (hn:g.Edges.length=n) (hq:n≤c) (hn1:c1.Gates.length=n1) (hq1:n1≤c2) (hn2:start.length=n2) (hq2:n2≤c3) (hS:ST w0 [] w0 [] [⟨B,(g.Edges.flatMap eN1)⟩,⟨B1,(c1.Gates.flatMap eN2)⟩,⟨B2,(start.flatMap encI)⟩]) {r_:TRoute} {r_1:Bool} (hF:F_impl_leastRoute g c1 start=some (r_,r_1)) :
  CV Try.prog 21 #[.agg #[vi g.Nodes,.slice B n c],.agg #[vi c1.Qubits,.slice B1 n1 c2],.slice B2 n2 c3] w0 (fun v w'=>∃ (B3:Option Addr) (c4:Nat) (B4:Option Addr) (c5:Nat),v=.tuple #[.agg #[.slice B3 r_.Start.length c4,.slice B4 r_.Steps.length c5],.bool r_1]∧r_.Steps.length≤c5∧Org w0 [] [⟨B,(g.Edges.flatMap eN1)⟩,⟨B1,(c1.Gates.flatMap eN2)⟩,⟨B2,(start.flatMap encI)⟩] [⟨B4,(r_.Steps.flatMap eN0)⟩]∧ST w0 [] w' [⟨B3,3,(r_.Start.flatMap encI),c4*1⟩] [⟨B4,(r_.Steps.flatMap eN0)⟩]):=by
 subst hn
 subst hn1
 subst hn2
 unfold F_impl_leastRoute at hF
 refine cv_of_cw 85 Try.func21 rfl Try.ntmps21 rfl ?_
 refine cq (cr ?_)
 refine sS 3 (yB 25 (.agg #[vi g.Nodes,.slice B g.Edges.length c]) [vi g.Nodes,.slice B g.Edges.length c] 2 hS) ?_
 rintro _ w_ ⟨b,rfl,hS1⟩
 refine sS 4 (yB 28 (.agg #[vi c1.Qubits,.slice B1 c1.Gates.length c2]) [vi c1.Qubits,.slice B1 c1.Gates.length c2] 2 hS1) ?_
 rintro _ w_1 ⟨b1,rfl,hS2⟩
 refine sS 6 (yN [.slice none 0 0,.slice none 0 0] 2 hS2 K35) ?_
 rintro _ w_2 ⟨b2,rfl,hS3⟩
 refine sQ 7 (yg (.bool false)) (rn (cq (cq (cr ?_))))
 refine sQ 16 (yb (aD b) 0 [vi g.Nodes,.slice B g.Edges.length c] K5 K3 (hS3.c 0))<|sQ 17 (yb (aD b1) 0 [vi c1.Qubits,.slice B1 c1.Gates.length c2] K14 K7 (hS3.c 1)) ?_
 obtain ⟨r_2,hc,hF⟩:=bI hF
 refine sc 18 rfl rfl (yC [.agg #[vi g.Nodes,.slice B g.Edges.length c],.agg #[vi c1.Qubits,.slice B1 c1.Gates.length c2]] k_call_47 (c_impl_canSearch g c1 B c g.Edges.length B1 c2 c1.Gates.length _ rfl rfl (hS3.inn0 [(true,0),(true,1)] rfl) hc)) ?_
 rintro _ w_3 ⟨rfl,hd⟩
 have hS4:=hS3.out00 hd
 refine sQ 19 (Y_not (p:=r_2) rfl rfl)<|sQ 20 (ym (.bool (!r_2))) ?_
 refine sgq 21 (B:=(!(!r_2))) (v:=.agg #[vi g.Nodes,.slice B g.Edges.length c]) rfl rfl (uF_ 20) (fun hg=>(yb (aD b) 0 [vi g.Nodes,.slice B g.Edges.length c] K5 K3 (hS4.c 0))) ?_
 refine sgq 22 (B:=(!(!r_2))) (v:=pt (aD b1) 0) rfl rfl (uF_ 20) (fun hg1=>(yd (aD b1) 0 0 K60 K0)) ?_
 refine sgq 23 (B:=(!(!r_2))) rfl rfl (uF_ 20) (fun hg2=>(yl (aD b1) 0 [vi c1.Qubits,.slice B1 c1.Gates.length c2] (vi c1.Qubits) K1 (hS4.c 1) rfl (gv_of (v:=pt (aD b1) 0) hg2))) ?_
 refine sgq 24 (B:=(!(!r_2))) rfl rfl (uF_ 20) (fun hg3=>(ym (.slice B2 start.length c3))) ?_
 obtain ⟨r_3,hc1,hF⟩:=bI hF
 refine sgc 25 (B:=(!(!r_2))) (v:=.bool r_3) (F:=hS4.fn) rfl rfl (uF_ 20) hS4 (fun hg4=>(yC [.agg #[vi g.Nodes,.slice B g.Edges.length c],vi c1.Qubits,.slice B2 start.length c3] K115 (CV.mono (c_impl_CouplingGraph_isPlacement g c1.Qubits start B c g.Edges.length B2 c3 start.length _ rfl rfl hq2 (hS4.inn0 [(true,0),(true,2)] rfl) (gb_inv hc1 hg4)) (by rintro _ _ ⟨rfl,h⟩; exact ⟨rfl,hS4.out00 h⟩)) rfl (mc (gv_of (v:=.agg #[vi g.Nodes,.slice B g.Edges.length c]) hg4) (mc (gv_of (v:=vi c1.Qubits) hg4) (mc (gv_of (v:=.slice B2 start.length c3) hg4) mn))))) ?_
 rintro w_4 hS5
 refine sgq 26 (B:=(!(!r_2))) (v:=.bool (!r_3)) rfl rfl (uF_ 20) (fun hg5=>(Y_not (p:=r_3) rfl (gv_of (v:=.bool r_3) hg5))) ?_
 refine sQ 27 (Y_or (b:=(!r_2)) (z:=(!r_3)) rfl rfl rfl rfl) (rn ?_)
 refine cw_cond (b:=((!r_2)||(!r_3))) rfl (fun hb=>?_) (fun hb=>?_)
 ·skip
  have hF1:=ct hF hb
  refine cq (cr ?_)
  refine sQ 28 (Y_buildS (zs:=[.slice none 0 0,.slice none 0 0]) (vs:=[]) (cs:=[.slice none 0 0,.slice none 0 0]) K70 K35 rfl mpn rfl) ?_
  refine s0 (yT 2 2 (aD b2) 36 (.agg #[.slice none 0 0,.slice none 0 0]) [.slice none 0 0,.slice none 0 0] 0 hS5 K13) ?_
  rintro _ w_5 ⟨rfl,hS6⟩
  refine sQ 7 (yg (.bool false)) (rn (ct_ ?_))
  have hS7:=hS6.addNil 3
  have hS8:ST w0 [] _ [⟨aD b,25,[vi g.Nodes,.slice B g.Edges.length c],2⟩,⟨aD b1,28,[vi c1.Qubits,.slice B1 c1.Gates.length c2],2⟩,⟨aD b2,36,[.slice none 0 0,.slice none 0 0],2⟩,⟨none,3,([].flatMap encI),0*1⟩] [⟨none,([].flatMap eN0)⟩,⟨B,(g.Edges.flatMap eN1)⟩,⟨B1,(c1.Gates.flatMap eN2)⟩,⟨B2,(start.flatMap encI)⟩]:=ST.nilRo hS7
  obtain ⟨rfl,rfl⟩:=pr2 (sI hF1)
  exact ret2 Try.results21 (v1:=.agg #[.slice none 0 0,.slice none 0 0]) (resAt_cellA (B:=aD b2) (i:=0) (cs:=[.slice none 0 0,.slice none 0 0]) (vs:=[.slice none 0 0,.slice none 0 0]) rfl K32 K13 (hS8.c 2) rfl rfl) (v2:=.bool false) (resAt_tmp rfl) ⟨none,0,none,0,rfl,(len_le rfl (Nat.le_refl 0)),(org_cons org_none org_nil),((hS8.sel [3] rfl rfl).sT [0])⟩
 ·skip
  have hF2:=cf' hF hb
  refine cw_skip (cq (cr ?_))
  refine sQ 29 (yb (aD b) 0 [vi g.Nodes,.slice B g.Edges.length c] K5 K3 (hS5.c 0))<|sQ 30 (yb (aD b1) 0 [vi c1.Qubits,.slice B1 c1.Gates.length c2] K14 K7 (hS5.c 1))<|sQ 31 (ym (.slice B2 start.length c3)) ?_
  obtain ⟨r_4,hc2,hF2⟩:=bI hF2
  refine sc 32 rfl rfl (yC [.agg #[vi g.Nodes,.slice B g.Edges.length c],.agg #[vi c1.Qubits,.slice B1 c1.Gates.length c2],.slice B2 start.length c3] K142 (c_impl_newRouting g c1 start B c g.Edges.length B1 c2 c1.Gates.length B2 c3 start.length _ rfl hq rfl hq1 rfl (hS5.inn0 [(true,0),(true,1),(true,2)] rfl) hc2)) ?_
  rintro _ w_6 ⟨B5,c6,B6,c7,B7,c8,B8,c9,rfl,hq3,hq4,ho,hd1⟩
  have hS9:=ST.outR0 hS5 hd1 ho (sk 0 (sk 1 (sk 2 (fun _ h=>by cases h))))
  let R11:Ro:=⟨B1,(c1.Gates.flatMap eN2)⟩
  let R12:Ro:=⟨B,(g.Edges.flatMap eN1)⟩
  let R13:Ro:=⟨B2,(start.flatMap encI)⟩
  let R14:Ro:=⟨B5,(r_4.g.Edges.flatMap eN1)⟩
  let R15:Ro:=⟨B6,(r_4.c.Gates.flatMap eN2)⟩
  have ho1:Org w0 [] [R12,R11,R13] [R14,R15]:=org_trans0 hS5 ho (org_cons (org_mem (i:=0) rfl) (org_cons (org_mem (i:=1) rfl) (org_cons (org_mem (i:=2) rfl) org_nil)))
  let O2:Ob:=⟨aD b,25,[vi g.Nodes,.slice B g.Edges.length c],2⟩
  let O4:Ob:=⟨aD b2,36,[.slice none 0 0,.slice none 0 0],2⟩
  let O5:Ob:=⟨aD b1,28,[vi c1.Qubits,.slice B1 c1.Gates.length c2],2⟩
  have hS10:ST w0 [] _ [O2,O5,O4,⟨B7,3,(r_4.place.flatMap encI),c8*1⟩,⟨B8,4,(r_4.done.flatMap encB),c9*1⟩] [R14,R15,R12,R11,R13]:=hS9
  refine sQ 33 (Y_buildS (zs:=[vi 0,.slice none 0 0,vi 0,.slice none 0 0,.slice none 0 0,.slice none 0 0,.slice none 0 0]) (vs:=[(0,.agg #[vi r_4.g.Nodes,.slice B5 r_4.g.Edges.length c6,vi r_4.c.Qubits,.slice B6 r_4.c.Gates.length c7,.slice B7 r_4.place.length c8,.slice B8 r_4.done.length c9])]) (cs:=[vi r_4.g.Nodes,.slice B5 r_4.g.Edges.length c6,vi r_4.c.Qubits,.slice B6 r_4.c.Gates.length c7,.slice B7 r_4.place.length c8,.slice B8 r_4.done.length c9,.slice none 0 0]) K83 K42 rfl (mpc rfl mpn) rfl) ?_
  refine sS 8 (yN [vi 0,.slice none 0 0,vi 0,.slice none 0 0,.slice none 0 0,.slice none 0 0,.slice none 0 0] 7 hS10 K42) ?_
  rintro _ w_7 ⟨b3,rfl,hS11⟩
  refine s0 (yT 5 7 (aD b3) 89 (.agg #[vi r_4.g.Nodes,.slice B5 r_4.g.Edges.length c6,vi r_4.c.Qubits,.slice B6 r_4.c.Gates.length c7,.slice B7 r_4.place.length c8,.slice B8 r_4.done.length c9,.slice none 0 0]) [vi r_4.g.Nodes,.slice B5 r_4.g.Edges.length c6,vi r_4.c.Qubits,.slice B6 r_4.c.Gates.length c7,.slice B7 r_4.place.length c8,.slice B8 r_4.done.length c9,.slice none 0 0] 0 hS11 K27) ?_
  rintro _ w_8 ⟨rfl,hS12⟩
  refine rn (cq (cr ?_))
  obtain ⟨⟨m,m1⟩,hc3,hF2⟩:=bI hF2
  have hS13:=hS12.addNil 60
  have hS14:=(hS13.sel [0,1,2,3,5,4,6] rfl rfl)
  refine sc 34 rfl rfl (yC [pt (aD b3) 0] k_call_48 (c_impl_routeNode_advance (TrouteNode.mk r_4 []) (aD b3) B5 c6 r_4.g.Edges.length B6 c7 r_4.c.Gates.length B7 c8 r_4.place.length B8 c9 r_4.done.length none 0 0 _ rfl rfl hq4 rfl rfl rfl (hS14.inn [false,false,false,false,true,true,true] rfl [(true,0),(true,1),(false,3)] rfl) hc3)) ?_
  rintro _ w_9 ⟨B9,c10,rfl,hl,hd2⟩
  have hS15:=hS14.out [false,false,false,false,true,true,true] rfl hd2
  refine rn (cq ?_)
  obtain ⟨r_5,hc4,hF2⟩:=bI hF2
  let R16:Ro:=⟨B7,(r_4.place.flatMap encI)⟩
  have ho6:Org w0 [] [R12,R11,R13] [R16]:=ST.orgOwn hS15 (i:=3) rfl
  have hcap3:r_4.place.length≤c8:=(hS15.lencap (i:=3) rfl (fm_lenn (l:=r_4.place) encI_len rfl) rfl rfl)
  let O1:Ob:=⟨aD b3,89,[vi m.work.g.Nodes,.slice B5 r_4.g.Edges.length c6,vi m.work.c.Qubits,.slice B6 r_4.c.Gates.length c7,.slice B7 r_4.place.length c8,.slice B8 r_4.done.length c9,.slice B9 m.steps.length c10],7⟩
  have hS21:ST w0 [] _ [O2,O5,O4,O1,⟨B8,4,(m1.flatMap encB),c9*1⟩,⟨B9,60,(m.steps.flatMap eN0),c10*3⟩] [R16,R14,R15,R12,R11,R13]:=hS15.freeze (i:=3) rfl
  let R18:Ro:=⟨B8,(m1.flatMap encB)⟩
  have ho7:Org w0 [] [R12,R11,R13] [R18]:=ST.orgOwn hS21 (i:=4) rfl
  have hcap4:r_4.done.length≤c9:=(hS21.lencap (i:=4) rfl (fm_lenn (l:=m1) encB_len hl) rfl rfl)
  have hS22:ST w0 [] _ [O2,O5,O4,O1,⟨B9,60,(m.steps.flatMap eN0),c10*3⟩] [R18,R16,R14,R15,R12,R11,R13]:=hS21.freeze (i:=4) rfl
  let R17:Ro:=⟨B9,(m.steps.flatMap eN0)⟩
  have ho8:Org w0 [] [R12,R11,R13] [R17]:=ST.orgOwn hS22 (i:=4) rfl
  have hcap5:m.steps.length≤c10:=(hS22.lencap (i:=4) rfl (fm_lenn (l:=m.steps) eN8 rfl) rfl rfl)
  have hS23:ST w0 [] _ [O2,O5,O4,O1] [R17,R18,R16,R14,R15,R12,R11,R13]:=hS22.freeze (i:=4) rfl
  refine cw_mid (fun f w=>∃ (g2:Nat) (B10:Option Addr) (D:List ((Hd×Hd×Hd×Hd×Hd)×TrouteNode)),FF f [(2,.slice B2 start.length c3),(3,pt (aD b) 0),(6,pt (aD b2) 0),(9,.map (some g2)),(10,.slice B10 (([(TrouteNode.mk (Trouting.mk (TCouplingGraph.mk m.work.g.Nodes r_4.g.Edges) (TCircuit.mk m.work.c.Qubits r_4.c.Gates) r_4.place m1) m.steps)]:List TrouteNode).length) 1)]∧D.map Prod.snd=([(TrouteNode.mk (Trouting.mk (TCouplingGraph.mk m.work.g.Nodes r_4.g.Edges) (TCircuit.mk m.work.c.Qubits r_4.c.Gates) r_4.place m1) m.steps)]:List TrouteNode)∧(∀ p_∈D,capD_routeNode p_)∧Org w0 [] [R12,R11,R13] (D.flatMap eN7)∧ST w0 [] w [O2,O4,⟨(aD g2),.mp (mpE vK_routeKey Value.bool (mput ([]:List (TrouteKey×Bool)) r_5 true)),[],0⟩,⟨B10,89,(D.flatMap encD_routeNode),1*7⟩] (R17::R18::R16::R14::R15::R12::R11::R13::((D.flatMap eN7)++[]))) ?_ ?_
  ·skip
   refine ra_start (hS23.se [0,1,2,3]).fn (by kernel_rfl) ?_
   have hS25:=hS23.drew
   refine rq 1 36 (v:=.agg #[vi m.work.g.Nodes,.slice B5 r_4.g.Edges.length c6,vi m.work.c.Qubits,.slice B6 r_4.c.Gates.length c7,.slice B7 r_4.place.length c8,.slice B8 r_4.done.length c9,.slice B9 m.steps.length c10]) rfl (hS25.se [0,1,2,3]) (fun w' hw'=>(yb (aD b3) 0 [vi m.work.g.Nodes,.slice B5 r_4.g.Edges.length c6,vi m.work.c.Qubits,.slice B6 r_4.c.Gates.length c7,.slice B7 r_4.place.length c8,.slice B8 r_4.done.length c9,.slice B9 m.steps.length c10] K84 K27 (ST.cf hw' (i:=3) rfl))) ?_
   refine rq 5 39 (v:=.agg #[vi m.work.g.Nodes,.slice B5 r_4.g.Edges.length c6,vi m.work.c.Qubits,.slice B6 r_4.c.Gates.length c7,.slice B7 r_4.place.length c8,.slice B8 r_4.done.length c9,.slice B9 m.steps.length c10]) rfl (hS25.se [0,1,2,3]) (fun w' hw'=>(yb (aD b3) 0 [vi m.work.g.Nodes,.slice B5 r_4.g.Edges.length c6,vi m.work.c.Qubits,.slice B6 r_4.c.Gates.length c7,.slice B7 r_4.place.length c8,.slice B8 r_4.done.length c9,.slice B9 m.steps.length c10] K84 K27 (ST.cf hw' (i:=3) rfl))) ?_
   refine rA [0,2,6] ?_
   refine rS 35 0 rfl (Ys_mkMap (T:=94) hS25 rfl) ?_ ?_
   ·rintro _ w_10 ⟨g1,rfl,hS26⟩
    refine ⟨(hS26.se [0,1,2,3]),?_⟩
    refine rA [2,6] ?_
    refine rC 37 2 rfl (yC [.agg #[vi m.work.g.Nodes,.slice B5 r_4.g.Edges.length c6,vi m.work.c.Qubits,.slice B6 r_4.c.Gates.length c7,.slice B7 r_4.place.length c8,.slice B8 r_4.done.length c9,.slice B9 m.steps.length c10]] K98 (c_impl_routeNode_key (TrouteNode.mk (Trouting.mk (TCouplingGraph.mk m.work.g.Nodes r_4.g.Edges) (TCircuit.mk m.work.c.Qubits r_4.c.Gates) r_4.place m1) m.steps) B5 c6 r_4.g.Edges.length B6 c7 r_4.c.Gates.length B7 c8 r_4.place.length B8 c9 r_4.done.length B9 c10 m.steps.length _ rfl rfl rfl hl rfl (hS26.inn0 [(true,3),(true,4),(true,2),(true,1),(true,0)] rfl) hc4)) ?_ ?_
    ·rintro _ w_11 ⟨rfl,hd3⟩
     have hS27:=hS26.out00 hd3
     refine ⟨(hS27.se [0,1,2,3]),?_⟩
     refine rA [3,6] ?_
     refine rZ 3 rfl (Ys_mapIns (kE:=vK_routeKey) (vE:=Value.bool) (l:=([]:List (TrouteKey×Bool))) (a:=r_5) (b:=true) (g:=g1) (i:=4) hS27 keK_impl_leastRoute_92 K75 rfl rfl rfl rfl rfl rfl) ?_ ?_
     ·rintro _ w_12 ⟨rfl,hS28⟩
      refine ⟨(hS28.se [0,1,2,3]),?_⟩
      refine rq 4 38 rfl (hS28.se [0,1,2,3]) (fun w' hw'=>(ym (.map (some g1)))) ?_
      refine rq 7 9 rfl (hS28.se [0,1,2,3]) (fun w' hw'=>(yg (.map (some g1)))) ?_
      refine rA [6] ?_
      refine rS 40 6 rfl (Ys_bslice (s:=7) (len:=1) (vs:=[(0,.agg #[vi m.work.g.Nodes,.slice B5 r_4.g.Edges.length c6,vi m.work.c.Qubits,.slice B6 r_4.c.Gates.length c7,.slice B7 r_4.place.length c8,.slice B8 m1.length c9,.slice B9 m.steps.length c10])]) (cs:=[vi m.work.g.Nodes,.slice B5 r_4.g.Edges.length c6,vi m.work.c.Qubits,.slice B6 r_4.c.Gates.length c7,.slice B7 r_4.place.length c8,.slice B8 m1.length c9,.slice B9 m.steps.length c10]) (zs:=[vi 0,.slice none 0 0,vi 0,.slice none 0 0,.slice none 0 0,.slice none 0 0,.slice none 0 0]) (m:=7) hS28 K71 K27 K87 rfl (mpc (by rw [hl]; exact rfl) mpn) rfl rfl rfl (by kernel_rfl) (by kernel_rfl) rfl) ?_ aN
      rintro _ w_13 ⟨b4,rfl,hS29⟩
      have hm1:∀ r∈(([(((B5,c6),(B6,c7),(B7,c8),(B8,c9),(B9,c10)),(TrouteNode.mk (Trouting.mk (TCouplingGraph.mk m.work.g.Nodes r_4.g.Edges) (TCircuit.mk m.work.c.Qubits r_4.c.Gates) r_4.place m1) m.steps))]:List ((Hd×Hd×Hd×Hd×Hd)×TrouteNode)).flatMap eN7),r∈([R17,R18,R16,R14,R15,R12,R11,R13]:List Ro):=(fsub_cons (sk 3 (sk 4 (sk 2 (sk 1 (sk 0 (fun _ h=>by cases h)))))) fsub_nil)
      have ho10:Org w0 [] [R12,R11,R13] (([(((B5,c6),(B6,c7),(B7,c8),(B8,c9),(B9,c10)),(TrouteNode.mk (Trouting.mk (TCouplingGraph.mk m.work.g.Nodes r_4.g.Edges) (TCircuit.mk m.work.c.Qubits r_4.c.Gates) r_4.place m1) m.steps))]:List ((Hd×Hd×Hd×Hd×Hd)×TrouteNode)).flatMap eN7):=(forg_cons (org_cons (org_sub ho1 (sk 0 (fun _ h=>by cases h))) (org_cons (org_sub ho1 (sk 1 (fun _ h=>by cases h))) (org_cons ho6 (org_cons ho7 (org_cons ho8 org_nil))))) forg_nil)
      have hdc2:∀ p_∈([(((B5,c6),(B6,c7),(B7,c8),(B8,c9),(B9,c10)),(TrouteNode.mk (Trouting.mk (TCouplingGraph.mk m.work.g.Nodes r_4.g.Edges) (TCircuit.mk m.work.c.Qubits r_4.c.Gates) r_4.place m1) m.steps))]:List ((Hd×Hd×Hd×Hd×Hd)×TrouteNode)),capD_routeNode p_:=fun p_ hp_=>by rw [List.mem_singleton.1 hp_]; exact ⟨hq3,hq4,hcap3,(len_le hl hcap4),hcap5⟩
      have hS30:ST w0 [] _ [O2,O5,O4,O1,⟨(aD g1),.mp (mpE vK_routeKey Value.bool (mput ([]:List (TrouteKey×Bool)) r_5 true)),[],0⟩,⟨aD b4,89,(([(((B5,c6),(B6,c7),(B7,c8),(B8,c9),(B9,c10)),(TrouteNode.mk (Trouting.mk (TCouplingGraph.mk m.work.g.Nodes r_4.g.Edges) (TCircuit.mk m.work.c.Qubits r_4.c.Gates) r_4.place m1) m.steps))]:List ((Hd×Hd×Hd×Hd×Hd)×TrouteNode)).flatMap encD_routeNode),1*7⟩] (R17::R18::R16::R14::R15::R12::R11::R13::((([(((B5,c6),(B6,c7),(B7,c8),(B8,c9),(B9,c10)),(TrouteNode.mk (Trouting.mk (TCouplingGraph.mk m.work.g.Nodes r_4.g.Edges) (TCircuit.mk m.work.c.Qubits r_4.c.Gates) r_4.place m1) m.steps))]:List ((Hd×Hd×Hd×Hd×Hd)×TrouteNode)).flatMap eN7)++[])):=ST.subR hS29 (sk 0 (sk 1 (sk 2 (sk 3 (sk 4 (sk 5 (sk 6 (sk 7 (suba hm1 (fun _ h=>by cases h))))))))))
      refine ⟨((hS30.se [0,1,2,3]).sT [0,1,2,3,4,5,6,7]),?_⟩
      refine rq 8 10 rfl ((hS30.se [0,1,2,3]).sT [0,1,2,3,4,5,6,7]) (fun w' hw'=>(yg (.slice (aD b4) 1 1))) ?_
      refine ra_done (by kernel_rfl) ?_
      exact ⟨g1,aD b4,([(((B5,c6),(B6,c7),(B7,c8),(B8,c9),(B9,c10)),(TrouteNode.mk (Trouting.mk (TCouplingGraph.mk m.work.g.Nodes r_4.g.Edges) (TCircuit.mk m.work.c.Qubits r_4.c.Gates) r_4.place m1) m.steps))]:List ((Hd×Hd×Hd×Hd×Hd)×TrouteNode)),(fc rfl (fc rfl (fc rfl (fc rfl (fc rfl fn_))))),(show List.map Prod.snd ([(((B5,c6),(B6,c7),(B7,c8),(B8,c9),(B9,c10)),(TrouteNode.mk (Trouting.mk (TCouplingGraph.mk m.work.g.Nodes r_4.g.Edges) (TCircuit.mk m.work.c.Qubits r_4.c.Gates) r_4.place m1) m.steps))]:List ((Hd×Hd×Hd×Hd×Hd)×TrouteNode))=([(TrouteNode.mk (Trouting.mk (TCouplingGraph.mk m.work.g.Nodes r_4.g.Edges) (TCircuit.mk m.work.c.Qubits r_4.c.Gates) r_4.place m1) m.steps)]:List TrouteNode) from rfl),hdc2,ho10,(hS30.sel [0,2,4,5] rfl rfl)⟩
     refine rS 40 6 rfl (Ys_bslice (s:=7) (len:=1) (vs:=[(0,.agg #[vi m.work.g.Nodes,.slice B5 r_4.g.Edges.length c6,vi m.work.c.Qubits,.slice B6 r_4.c.Gates.length c7,.slice B7 r_4.place.length c8,.slice B8 m1.length c9,.slice B9 m.steps.length c10])]) (cs:=[vi m.work.g.Nodes,.slice B5 r_4.g.Edges.length c6,vi m.work.c.Qubits,.slice B6 r_4.c.Gates.length c7,.slice B7 r_4.place.length c8,.slice B8 m1.length c9,.slice B9 m.steps.length c10]) (zs:=[vi 0,.slice none 0 0,vi 0,.slice none 0 0,.slice none 0 0,.slice none 0 0,.slice none 0 0]) (m:=7) hS27 K71 K27 K87 rfl (mpc (by rw [hl]; exact rfl) mpn) rfl rfl rfl (by kernel_rfl) (by kernel_rfl) rfl) ?_ aN
     rintro _ w_14 ⟨b4,rfl,hS31⟩
     have hm2:∀ r∈(([(((B5,c6),(B6,c7),(B7,c8),(B8,c9),(B9,c10)),(TrouteNode.mk (Trouting.mk (TCouplingGraph.mk m.work.g.Nodes r_4.g.Edges) (TCircuit.mk m.work.c.Qubits r_4.c.Gates) r_4.place m1) m.steps))]:List ((Hd×Hd×Hd×Hd×Hd)×TrouteNode)).flatMap eN7),r∈([R17,R18,R16,R14,R15,R12,R11,R13]:List Ro):=(fsub_cons (sk 3 (sk 4 (sk 2 (sk 1 (sk 0 (fun _ h=>by cases h)))))) fsub_nil)
     have ho11:Org w0 [] [R12,R11,R13] (([(((B5,c6),(B6,c7),(B7,c8),(B8,c9),(B9,c10)),(TrouteNode.mk (Trouting.mk (TCouplingGraph.mk m.work.g.Nodes r_4.g.Edges) (TCircuit.mk m.work.c.Qubits r_4.c.Gates) r_4.place m1) m.steps))]:List ((Hd×Hd×Hd×Hd×Hd)×TrouteNode)).flatMap eN7):=(forg_cons (org_cons (org_sub ho1 (sk 0 (fun _ h=>by cases h))) (org_cons (org_sub ho1 (sk 1 (fun _ h=>by cases h))) (org_cons ho6 (org_cons ho7 (org_cons ho8 org_nil))))) forg_nil)
     have hdc3:∀ p_∈([(((B5,c6),(B6,c7),(B7,c8),(B8,c9),(B9,c10)),(TrouteNode.mk (Trouting.mk (TCouplingGraph.mk m.work.g.Nodes r_4.g.Edges) (TCircuit.mk m.work.c.Qubits r_4.c.Gates) r_4.place m1) m.steps))]:List ((Hd×Hd×Hd×Hd×Hd)×TrouteNode)),capD_routeNode p_:=fun p_ hp_=>by rw [List.mem_singleton.1 hp_]; exact ⟨hq3,hq4,hcap3,(len_le hl hcap4),hcap5⟩
     have hS32:ST w0 [] _ [O2,O5,O4,O1,⟨(aD g1),.mp (mpE vK_routeKey Value.bool ([]:List (TrouteKey×Bool))),[],0⟩,⟨aD b4,89,(([(((B5,c6),(B6,c7),(B7,c8),(B8,c9),(B9,c10)),(TrouteNode.mk (Trouting.mk (TCouplingGraph.mk m.work.g.Nodes r_4.g.Edges) (TCircuit.mk m.work.c.Qubits r_4.c.Gates) r_4.place m1) m.steps))]:List ((Hd×Hd×Hd×Hd×Hd)×TrouteNode)).flatMap encD_routeNode),1*7⟩] (R17::R18::R16::R14::R15::R12::R11::R13::((([(((B5,c6),(B6,c7),(B7,c8),(B8,c9),(B9,c10)),(TrouteNode.mk (Trouting.mk (TCouplingGraph.mk m.work.g.Nodes r_4.g.Edges) (TCircuit.mk m.work.c.Qubits r_4.c.Gates) r_4.place m1) m.steps))]:List ((Hd×Hd×Hd×Hd×Hd)×TrouteNode)).flatMap eN7)++[])):=ST.subR hS31 (sk 0 (sk 1 (sk 2 (sk 3 (sk 4 (sk 5 (sk 6 (sk 7 (suba hm2 (fun _ h=>by cases h))))))))))
     refine ⟨((hS32.se [0,1,2,3]).sT [0,1,2,3,4,5,6,7]),?_⟩
     refine rA [3] ?_
     refine rZ 3 rfl (Ys_mapIns (kE:=vK_routeKey) (vE:=Value.bool) (l:=([]:List (TrouteKey×Bool))) (a:=r_5) (b:=true) (g:=g1) (i:=4) hS32 keK_impl_leastRoute_92 K75 rfl rfl rfl rfl rfl rfl) ?_ aN
     rintro _ w_15 ⟨rfl,hS33⟩
     refine ⟨((hS33.se [0,1,2,3]).sT [0,1,2,3,4,5,6,7]),?_⟩
     refine rq 4 38 rfl ((hS33.se [0,1,2,3]).sT [0,1,2,3,4,5,6,7]) (fun w' hw'=>(ym (.map (some g1)))) ?_
     refine rq 7 9 rfl ((hS33.se [0,1,2,3]).sT [0,1,2,3,4,5,6,7]) (fun w' hw'=>(yg (.map (some g1)))) ?_
     refine rq 8 10 rfl ((hS33.se [0,1,2,3]).sT [0,1,2,3,4,5,6,7]) (fun w' hw'=>(yg (.slice (aD b4) 1 1))) ?_
     refine ra_done (by kernel_rfl) ?_
     exact ⟨g1,aD b4,([(((B5,c6),(B6,c7),(B7,c8),(B8,c9),(B9,c10)),(TrouteNode.mk (Trouting.mk (TCouplingGraph.mk m.work.g.Nodes r_4.g.Edges) (TCircuit.mk m.work.c.Qubits r_4.c.Gates) r_4.place m1) m.steps))]:List ((Hd×Hd×Hd×Hd×Hd)×TrouteNode)),(fc rfl (fc rfl (fc rfl (fc rfl (fc rfl fn_))))),(show List.map Prod.snd ([(((B5,c6),(B6,c7),(B7,c8),(B8,c9),(B9,c10)),(TrouteNode.mk (Trouting.mk (TCouplingGraph.mk m.work.g.Nodes r_4.g.Edges) (TCircuit.mk m.work.c.Qubits r_4.c.Gates) r_4.place m1) m.steps))]:List ((Hd×Hd×Hd×Hd×Hd)×TrouteNode))=([(TrouteNode.mk (Trouting.mk (TCouplingGraph.mk m.work.g.Nodes r_4.g.Edges) (TCircuit.mk m.work.c.Qubits r_4.c.Gates) r_4.place m1) m.steps)]:List TrouteNode) from rfl),hdc3,ho11,(hS33.sel [0,2,4,5] rfl rfl)⟩
    refine rS 40 6 rfl (Ys_bslice (s:=7) (len:=1) (vs:=[(0,.agg #[vi m.work.g.Nodes,.slice B5 r_4.g.Edges.length c6,vi m.work.c.Qubits,.slice B6 r_4.c.Gates.length c7,.slice B7 r_4.place.length c8,.slice B8 m1.length c9,.slice B9 m.steps.length c10])]) (cs:=[vi m.work.g.Nodes,.slice B5 r_4.g.Edges.length c6,vi m.work.c.Qubits,.slice B6 r_4.c.Gates.length c7,.slice B7 r_4.place.length c8,.slice B8 m1.length c9,.slice B9 m.steps.length c10]) (zs:=[vi 0,.slice none 0 0,vi 0,.slice none 0 0,.slice none 0 0,.slice none 0 0,.slice none 0 0]) (m:=7) hS26 K71 K27 K87 rfl (mpc (by rw [hl]; exact rfl) mpn) rfl rfl rfl (by kernel_rfl) (by kernel_rfl) rfl) ?_ aN
    rintro _ w_16 ⟨b4,rfl,hS34⟩
    have hm3:∀ r∈(([(((B5,c6),(B6,c7),(B7,c8),(B8,c9),(B9,c10)),(TrouteNode.mk (Trouting.mk (TCouplingGraph.mk m.work.g.Nodes r_4.g.Edges) (TCircuit.mk m.work.c.Qubits r_4.c.Gates) r_4.place m1) m.steps))]:List ((Hd×Hd×Hd×Hd×Hd)×TrouteNode)).flatMap eN7),r∈([R17,R18,R16,R14,R15,R12,R11,R13]:List Ro):=(fsub_cons (sk 3 (sk 4 (sk 2 (sk 1 (sk 0 (fun _ h=>by cases h)))))) fsub_nil)
    have ho12:Org w0 [] [R12,R11,R13] (([(((B5,c6),(B6,c7),(B7,c8),(B8,c9),(B9,c10)),(TrouteNode.mk (Trouting.mk (TCouplingGraph.mk m.work.g.Nodes r_4.g.Edges) (TCircuit.mk m.work.c.Qubits r_4.c.Gates) r_4.place m1) m.steps))]:List ((Hd×Hd×Hd×Hd×Hd)×TrouteNode)).flatMap eN7):=(forg_cons (org_cons (org_sub ho1 (sk 0 (fun _ h=>by cases h))) (org_cons (org_sub ho1 (sk 1 (fun _ h=>by cases h))) (org_cons ho6 (org_cons ho7 (org_cons ho8 org_nil))))) forg_nil)
    have hdc4:∀ p_∈([(((B5,c6),(B6,c7),(B7,c8),(B8,c9),(B9,c10)),(TrouteNode.mk (Trouting.mk (TCouplingGraph.mk m.work.g.Nodes r_4.g.Edges) (TCircuit.mk m.work.c.Qubits r_4.c.Gates) r_4.place m1) m.steps))]:List ((Hd×Hd×Hd×Hd×Hd)×TrouteNode)),capD_routeNode p_:=fun p_ hp_=>by rw [List.mem_singleton.1 hp_]; exact ⟨hq3,hq4,hcap3,(len_le hl hcap4),hcap5⟩
    have hS35:ST w0 [] _ [O2,O5,O4,O1,⟨(aD g1),.mp (mpE vK_routeKey Value.bool ([]:List (TrouteKey×Bool))),[],0⟩,⟨aD b4,89,(([(((B5,c6),(B6,c7),(B7,c8),(B8,c9),(B9,c10)),(TrouteNode.mk (Trouting.mk (TCouplingGraph.mk m.work.g.Nodes r_4.g.Edges) (TCircuit.mk m.work.c.Qubits r_4.c.Gates) r_4.place m1) m.steps))]:List ((Hd×Hd×Hd×Hd×Hd)×TrouteNode)).flatMap encD_routeNode),1*7⟩] (R17::R18::R16::R14::R15::R12::R11::R13::((([(((B5,c6),(B6,c7),(B7,c8),(B8,c9),(B9,c10)),(TrouteNode.mk (Trouting.mk (TCouplingGraph.mk m.work.g.Nodes r_4.g.Edges) (TCircuit.mk m.work.c.Qubits r_4.c.Gates) r_4.place m1) m.steps))]:List ((Hd×Hd×Hd×Hd×Hd)×TrouteNode)).flatMap eN7)++[])):=ST.subR hS34 (sk 0 (sk 1 (sk 2 (sk 3 (sk 4 (sk 5 (sk 6 (sk 7 (suba hm3 (fun _ h=>by cases h))))))))))
    refine ⟨((hS35.se [0,1,2,3]).sT [0,1,2,3,4,5,6,7]),?_⟩
    refine rA [2] ?_
    refine rC 37 2 rfl (yC [.agg #[vi m.work.g.Nodes,.slice B5 r_4.g.Edges.length c6,vi m.work.c.Qubits,.slice B6 r_4.c.Gates.length c7,.slice B7 r_4.place.length c8,.slice B8 r_4.done.length c9,.slice B9 m.steps.length c10]] K98 (c_impl_routeNode_key (TrouteNode.mk (Trouting.mk (TCouplingGraph.mk m.work.g.Nodes r_4.g.Edges) (TCircuit.mk m.work.c.Qubits r_4.c.Gates) r_4.place m1) m.steps) B5 c6 r_4.g.Edges.length B6 c7 r_4.c.Gates.length B7 c8 r_4.place.length B8 c9 r_4.done.length B9 c10 m.steps.length _ rfl rfl rfl hl rfl (hS35.inn0 [(true,3),(true,4),(true,2),(true,1),(true,0)] rfl) hc4)) ?_ aN
    rintro _ w_17 ⟨rfl,hd4⟩
    have hS36:=hS35.out00 hd4
    refine ⟨((hS36.se [0,1,2,3]).sT [0,1,2,3,4,5,6,7]),?_⟩
    refine rA [3] ?_
    refine rZ 3 rfl (Ys_mapIns (kE:=vK_routeKey) (vE:=Value.bool) (l:=([]:List (TrouteKey×Bool))) (a:=r_5) (b:=true) (g:=g1) (i:=4) hS36 keK_impl_leastRoute_92 K75 rfl rfl rfl rfl rfl rfl) ?_ aN
    rintro _ w_18 ⟨rfl,hS37⟩
    refine ⟨((hS37.se [0,1,2,3]).sT [0,1,2,3,4,5,6,7]),?_⟩
    refine rq 4 38 rfl ((hS37.se [0,1,2,3]).sT [0,1,2,3,4,5,6,7]) (fun w' hw'=>(ym (.map (some g1)))) ?_
    refine rq 7 9 rfl ((hS37.se [0,1,2,3]).sT [0,1,2,3,4,5,6,7]) (fun w' hw'=>(yg (.map (some g1)))) ?_
    refine rq 8 10 rfl ((hS37.se [0,1,2,3]).sT [0,1,2,3,4,5,6,7]) (fun w' hw'=>(yg (.slice (aD b4) 1 1))) ?_
    refine ra_done (by kernel_rfl) ?_
    exact ⟨g1,aD b4,([(((B5,c6),(B6,c7),(B7,c8),(B8,c9),(B9,c10)),(TrouteNode.mk (Trouting.mk (TCouplingGraph.mk m.work.g.Nodes r_4.g.Edges) (TCircuit.mk m.work.c.Qubits r_4.c.Gates) r_4.place m1) m.steps))]:List ((Hd×Hd×Hd×Hd×Hd)×TrouteNode)),(fc rfl (fc rfl (fc rfl (fc rfl (fc rfl fn_))))),(show List.map Prod.snd ([(((B5,c6),(B6,c7),(B7,c8),(B8,c9),(B9,c10)),(TrouteNode.mk (Trouting.mk (TCouplingGraph.mk m.work.g.Nodes r_4.g.Edges) (TCircuit.mk m.work.c.Qubits r_4.c.Gates) r_4.place m1) m.steps))]:List ((Hd×Hd×Hd×Hd×Hd)×TrouteNode))=([(TrouteNode.mk (Trouting.mk (TCouplingGraph.mk m.work.g.Nodes r_4.g.Edges) (TCircuit.mk m.work.c.Qubits r_4.c.Gates) r_4.place m1) m.steps)]:List TrouteNode) from rfl),hdc4,ho12,(hS37.sel [0,2,4,5] rfl rfl)⟩
   refine rC 37 2 rfl (yC [.agg #[vi m.work.g.Nodes,.slice B5 r_4.g.Edges.length c6,vi m.work.c.Qubits,.slice B6 r_4.c.Gates.length c7,.slice B7 r_4.place.length c8,.slice B8 r_4.done.length c9,.slice B9 m.steps.length c10]] K98 (c_impl_routeNode_key (TrouteNode.mk (Trouting.mk (TCouplingGraph.mk m.work.g.Nodes r_4.g.Edges) (TCircuit.mk m.work.c.Qubits r_4.c.Gates) r_4.place m1) m.steps) B5 c6 r_4.g.Edges.length B6 c7 r_4.c.Gates.length B7 c8 r_4.place.length B8 c9 r_4.done.length B9 c10 m.steps.length _ rfl rfl rfl hl rfl (hS25.inn0 [(true,3),(true,4),(true,2),(true,1),(true,0)] rfl) hc4)) ?_ ?_
   ·rintro _ w_19 ⟨rfl,hd5⟩
    have hS38:=hS25.out00 hd5
    refine ⟨(hS38.se [0,1,2,3]),?_⟩
    refine rA [0,6] ?_
    refine rS 35 0 rfl (Ys_mkMap (T:=94) hS38 rfl) ?_ ?_
    ·rintro _ w_20 ⟨g1,rfl,hS39⟩
     refine ⟨(hS39.se [0,1,2,3]),?_⟩
     refine rA [3,6] ?_
     refine rZ 3 rfl (Ys_mapIns (kE:=vK_routeKey) (vE:=Value.bool) (l:=([]:List (TrouteKey×Bool))) (a:=r_5) (b:=true) (g:=g1) (i:=4) hS39 keK_impl_leastRoute_92 K75 rfl rfl rfl rfl rfl rfl) ?_ ?_
     ·rintro _ w_21 ⟨rfl,hS40⟩
      refine ⟨(hS40.se [0,1,2,3]),?_⟩
      refine rq 4 38 rfl (hS40.se [0,1,2,3]) (fun w' hw'=>(ym (.map (some g1)))) ?_
      refine rq 7 9 rfl (hS40.se [0,1,2,3]) (fun w' hw'=>(yg (.map (some g1)))) ?_
      refine rA [6] ?_
      refine rS 40 6 rfl (Ys_bslice (s:=7) (len:=1) (vs:=[(0,.agg #[vi m.work.g.Nodes,.slice B5 r_4.g.Edges.length c6,vi m.work.c.Qubits,.slice B6 r_4.c.Gates.length c7,.slice B7 r_4.place.length c8,.slice B8 m1.length c9,.slice B9 m.steps.length c10])]) (cs:=[vi m.work.g.Nodes,.slice B5 r_4.g.Edges.length c6,vi m.work.c.Qubits,.slice B6 r_4.c.Gates.length c7,.slice B7 r_4.place.length c8,.slice B8 m1.length c9,.slice B9 m.steps.length c10]) (zs:=[vi 0,.slice none 0 0,vi 0,.slice none 0 0,.slice none 0 0,.slice none 0 0,.slice none 0 0]) (m:=7) hS40 K71 K27 K87 rfl (mpc (by rw [hl]; exact rfl) mpn) rfl rfl rfl (by kernel_rfl) (by kernel_rfl) rfl) ?_ aN
      rintro _ w_22 ⟨b4,rfl,hS41⟩
      have hm4:∀ r∈(([(((B5,c6),(B6,c7),(B7,c8),(B8,c9),(B9,c10)),(TrouteNode.mk (Trouting.mk (TCouplingGraph.mk m.work.g.Nodes r_4.g.Edges) (TCircuit.mk m.work.c.Qubits r_4.c.Gates) r_4.place m1) m.steps))]:List ((Hd×Hd×Hd×Hd×Hd)×TrouteNode)).flatMap eN7),r∈([R17,R18,R16,R14,R15,R12,R11,R13]:List Ro):=(fsub_cons (sk 3 (sk 4 (sk 2 (sk 1 (sk 0 (fun _ h=>by cases h)))))) fsub_nil)
      have ho13:Org w0 [] [R12,R11,R13] (([(((B5,c6),(B6,c7),(B7,c8),(B8,c9),(B9,c10)),(TrouteNode.mk (Trouting.mk (TCouplingGraph.mk m.work.g.Nodes r_4.g.Edges) (TCircuit.mk m.work.c.Qubits r_4.c.Gates) r_4.place m1) m.steps))]:List ((Hd×Hd×Hd×Hd×Hd)×TrouteNode)).flatMap eN7):=(forg_cons (org_cons (org_sub ho1 (sk 0 (fun _ h=>by cases h))) (org_cons (org_sub ho1 (sk 1 (fun _ h=>by cases h))) (org_cons ho6 (org_cons ho7 (org_cons ho8 org_nil))))) forg_nil)
      have hdc5:∀ p_∈([(((B5,c6),(B6,c7),(B7,c8),(B8,c9),(B9,c10)),(TrouteNode.mk (Trouting.mk (TCouplingGraph.mk m.work.g.Nodes r_4.g.Edges) (TCircuit.mk m.work.c.Qubits r_4.c.Gates) r_4.place m1) m.steps))]:List ((Hd×Hd×Hd×Hd×Hd)×TrouteNode)),capD_routeNode p_:=fun p_ hp_=>by rw [List.mem_singleton.1 hp_]; exact ⟨hq3,hq4,hcap3,(len_le hl hcap4),hcap5⟩
      have hS42:ST w0 [] _ [O2,O5,O4,O1,⟨(aD g1),.mp (mpE vK_routeKey Value.bool (mput ([]:List (TrouteKey×Bool)) r_5 true)),[],0⟩,⟨aD b4,89,(([(((B5,c6),(B6,c7),(B7,c8),(B8,c9),(B9,c10)),(TrouteNode.mk (Trouting.mk (TCouplingGraph.mk m.work.g.Nodes r_4.g.Edges) (TCircuit.mk m.work.c.Qubits r_4.c.Gates) r_4.place m1) m.steps))]:List ((Hd×Hd×Hd×Hd×Hd)×TrouteNode)).flatMap encD_routeNode),1*7⟩] (R17::R18::R16::R14::R15::R12::R11::R13::((([(((B5,c6),(B6,c7),(B7,c8),(B8,c9),(B9,c10)),(TrouteNode.mk (Trouting.mk (TCouplingGraph.mk m.work.g.Nodes r_4.g.Edges) (TCircuit.mk m.work.c.Qubits r_4.c.Gates) r_4.place m1) m.steps))]:List ((Hd×Hd×Hd×Hd×Hd)×TrouteNode)).flatMap eN7)++[])):=ST.subR hS41 (sk 0 (sk 1 (sk 2 (sk 3 (sk 4 (sk 5 (sk 6 (sk 7 (suba hm4 (fun _ h=>by cases h))))))))))
      refine ⟨((hS42.se [0,1,2,3]).sT [0,1,2,3,4,5,6,7]),?_⟩
      refine rq 8 10 rfl ((hS42.se [0,1,2,3]).sT [0,1,2,3,4,5,6,7]) (fun w' hw'=>(yg (.slice (aD b4) 1 1))) ?_
      refine ra_done (by kernel_rfl) ?_
      exact ⟨g1,aD b4,([(((B5,c6),(B6,c7),(B7,c8),(B8,c9),(B9,c10)),(TrouteNode.mk (Trouting.mk (TCouplingGraph.mk m.work.g.Nodes r_4.g.Edges) (TCircuit.mk m.work.c.Qubits r_4.c.Gates) r_4.place m1) m.steps))]:List ((Hd×Hd×Hd×Hd×Hd)×TrouteNode)),(fc rfl (fc rfl (fc rfl (fc rfl (fc rfl fn_))))),(show List.map Prod.snd ([(((B5,c6),(B6,c7),(B7,c8),(B8,c9),(B9,c10)),(TrouteNode.mk (Trouting.mk (TCouplingGraph.mk m.work.g.Nodes r_4.g.Edges) (TCircuit.mk m.work.c.Qubits r_4.c.Gates) r_4.place m1) m.steps))]:List ((Hd×Hd×Hd×Hd×Hd)×TrouteNode))=([(TrouteNode.mk (Trouting.mk (TCouplingGraph.mk m.work.g.Nodes r_4.g.Edges) (TCircuit.mk m.work.c.Qubits r_4.c.Gates) r_4.place m1) m.steps)]:List TrouteNode) from rfl),hdc5,ho13,(hS42.sel [0,2,4,5] rfl rfl)⟩
     refine rS 40 6 rfl (Ys_bslice (s:=7) (len:=1) (vs:=[(0,.agg #[vi m.work.g.Nodes,.slice B5 r_4.g.Edges.length c6,vi m.work.c.Qubits,.slice B6 r_4.c.Gates.length c7,.slice B7 r_4.place.length c8,.slice B8 m1.length c9,.slice B9 m.steps.length c10])]) (cs:=[vi m.work.g.Nodes,.slice B5 r_4.g.Edges.length c6,vi m.work.c.Qubits,.slice B6 r_4.c.Gates.length c7,.slice B7 r_4.place.length c8,.slice B8 m1.length c9,.slice B9 m.steps.length c10]) (zs:=[vi 0,.slice none 0 0,vi 0,.slice none 0 0,.slice none 0 0,.slice none 0 0,.slice none 0 0]) (m:=7) hS39 K71 K27 K87 rfl (mpc (by rw [hl]; exact rfl) mpn) rfl rfl rfl (by kernel_rfl) (by kernel_rfl) rfl) ?_ aN
     rintro _ w_23 ⟨b4,rfl,hS43⟩
     have hm5:∀ r∈(([(((B5,c6),(B6,c7),(B7,c8),(B8,c9),(B9,c10)),(TrouteNode.mk (Trouting.mk (TCouplingGraph.mk m.work.g.Nodes r_4.g.Edges) (TCircuit.mk m.work.c.Qubits r_4.c.Gates) r_4.place m1) m.steps))]:List ((Hd×Hd×Hd×Hd×Hd)×TrouteNode)).flatMap eN7),r∈([R17,R18,R16,R14,R15,R12,R11,R13]:List Ro):=(fsub_cons (sk 3 (sk 4 (sk 2 (sk 1 (sk 0 (fun _ h=>by cases h)))))) fsub_nil)
     have ho14:Org w0 [] [R12,R11,R13] (([(((B5,c6),(B6,c7),(B7,c8),(B8,c9),(B9,c10)),(TrouteNode.mk (Trouting.mk (TCouplingGraph.mk m.work.g.Nodes r_4.g.Edges) (TCircuit.mk m.work.c.Qubits r_4.c.Gates) r_4.place m1) m.steps))]:List ((Hd×Hd×Hd×Hd×Hd)×TrouteNode)).flatMap eN7):=(forg_cons (org_cons (org_sub ho1 (sk 0 (fun _ h=>by cases h))) (org_cons (org_sub ho1 (sk 1 (fun _ h=>by cases h))) (org_cons ho6 (org_cons ho7 (org_cons ho8 org_nil))))) forg_nil)
     have hdc6:∀ p_∈([(((B5,c6),(B6,c7),(B7,c8),(B8,c9),(B9,c10)),(TrouteNode.mk (Trouting.mk (TCouplingGraph.mk m.work.g.Nodes r_4.g.Edges) (TCircuit.mk m.work.c.Qubits r_4.c.Gates) r_4.place m1) m.steps))]:List ((Hd×Hd×Hd×Hd×Hd)×TrouteNode)),capD_routeNode p_:=fun p_ hp_=>by rw [List.mem_singleton.1 hp_]; exact ⟨hq3,hq4,hcap3,(len_le hl hcap4),hcap5⟩
     have hS44:ST w0 [] _ [O2,O5,O4,O1,⟨(aD g1),.mp (mpE vK_routeKey Value.bool ([]:List (TrouteKey×Bool))),[],0⟩,⟨aD b4,89,(([(((B5,c6),(B6,c7),(B7,c8),(B8,c9),(B9,c10)),(TrouteNode.mk (Trouting.mk (TCouplingGraph.mk m.work.g.Nodes r_4.g.Edges) (TCircuit.mk m.work.c.Qubits r_4.c.Gates) r_4.place m1) m.steps))]:List ((Hd×Hd×Hd×Hd×Hd)×TrouteNode)).flatMap encD_routeNode),1*7⟩] (R17::R18::R16::R14::R15::R12::R11::R13::((([(((B5,c6),(B6,c7),(B7,c8),(B8,c9),(B9,c10)),(TrouteNode.mk (Trouting.mk (TCouplingGraph.mk m.work.g.Nodes r_4.g.Edges) (TCircuit.mk m.work.c.Qubits r_4.c.Gates) r_4.place m1) m.steps))]:List ((Hd×Hd×Hd×Hd×Hd)×TrouteNode)).flatMap eN7)++[])):=ST.subR hS43 (sk 0 (sk 1 (sk 2 (sk 3 (sk 4 (sk 5 (sk 6 (sk 7 (suba hm5 (fun _ h=>by cases h))))))))))
     refine ⟨((hS44.se [0,1,2,3]).sT [0,1,2,3,4,5,6,7]),?_⟩
     refine rA [3] ?_
     refine rZ 3 rfl (Ys_mapIns (kE:=vK_routeKey) (vE:=Value.bool) (l:=([]:List (TrouteKey×Bool))) (a:=r_5) (b:=true) (g:=g1) (i:=4) hS44 keK_impl_leastRoute_92 K75 rfl rfl rfl rfl rfl rfl) ?_ aN
     rintro _ w_24 ⟨rfl,hS45⟩
     refine ⟨((hS45.se [0,1,2,3]).sT [0,1,2,3,4,5,6,7]),?_⟩
     refine rq 4 38 rfl ((hS45.se [0,1,2,3]).sT [0,1,2,3,4,5,6,7]) (fun w' hw'=>(ym (.map (some g1)))) ?_
     refine rq 7 9 rfl ((hS45.se [0,1,2,3]).sT [0,1,2,3,4,5,6,7]) (fun w' hw'=>(yg (.map (some g1)))) ?_
     refine rq 8 10 rfl ((hS45.se [0,1,2,3]).sT [0,1,2,3,4,5,6,7]) (fun w' hw'=>(yg (.slice (aD b4) 1 1))) ?_
     refine ra_done (by kernel_rfl) ?_
     exact ⟨g1,aD b4,([(((B5,c6),(B6,c7),(B7,c8),(B8,c9),(B9,c10)),(TrouteNode.mk (Trouting.mk (TCouplingGraph.mk m.work.g.Nodes r_4.g.Edges) (TCircuit.mk m.work.c.Qubits r_4.c.Gates) r_4.place m1) m.steps))]:List ((Hd×Hd×Hd×Hd×Hd)×TrouteNode)),(fc rfl (fc rfl (fc rfl (fc rfl (fc rfl fn_))))),(show List.map Prod.snd ([(((B5,c6),(B6,c7),(B7,c8),(B8,c9),(B9,c10)),(TrouteNode.mk (Trouting.mk (TCouplingGraph.mk m.work.g.Nodes r_4.g.Edges) (TCircuit.mk m.work.c.Qubits r_4.c.Gates) r_4.place m1) m.steps))]:List ((Hd×Hd×Hd×Hd×Hd)×TrouteNode))=([(TrouteNode.mk (Trouting.mk (TCouplingGraph.mk m.work.g.Nodes r_4.g.Edges) (TCircuit.mk m.work.c.Qubits r_4.c.Gates) r_4.place m1) m.steps)]:List TrouteNode) from rfl),hdc6,ho14,(hS45.sel [0,2,4,5] rfl rfl)⟩
    refine rS 40 6 rfl (Ys_bslice (s:=7) (len:=1) (vs:=[(0,.agg #[vi m.work.g.Nodes,.slice B5 r_4.g.Edges.length c6,vi m.work.c.Qubits,.slice B6 r_4.c.Gates.length c7,.slice B7 r_4.place.length c8,.slice B8 m1.length c9,.slice B9 m.steps.length c10])]) (cs:=[vi m.work.g.Nodes,.slice B5 r_4.g.Edges.length c6,vi m.work.c.Qubits,.slice B6 r_4.c.Gates.length c7,.slice B7 r_4.place.length c8,.slice B8 m1.length c9,.slice B9 m.steps.length c10]) (zs:=[vi 0,.slice none 0 0,vi 0,.slice none 0 0,.slice none 0 0,.slice none 0 0,.slice none 0 0]) (m:=7) hS38 K71 K27 K87 rfl (mpc (by rw [hl]; exact rfl) mpn) rfl rfl rfl (by kernel_rfl) (by kernel_rfl) rfl) ?_ aN
    rintro _ w_25 ⟨b4,rfl,hS46⟩
    have hm6:∀ r∈(([(((B5,c6),(B6,c7),(B7,c8),(B8,c9),(B9,c10)),(TrouteNode.mk (Trouting.mk (TCouplingGraph.mk m.work.g.Nodes r_4.g.Edges) (TCircuit.mk m.work.c.Qubits r_4.c.Gates) r_4.place m1) m.steps))]:List ((Hd×Hd×Hd×Hd×Hd)×TrouteNode)).flatMap eN7),r∈([R17,R18,R16,R14,R15,R12,R11,R13]:List Ro):=(fsub_cons (sk 3 (sk 4 (sk 2 (sk 1 (sk 0 (fun _ h=>by cases h)))))) fsub_nil)
    have ho15:Org w0 [] [R12,R11,R13] (([(((B5,c6),(B6,c7),(B7,c8),(B8,c9),(B9,c10)),(TrouteNode.mk (Trouting.mk (TCouplingGraph.mk m.work.g.Nodes r_4.g.Edges) (TCircuit.mk m.work.c.Qubits r_4.c.Gates) r_4.place m1) m.steps))]:List ((Hd×Hd×Hd×Hd×Hd)×TrouteNode)).flatMap eN7):=(forg_cons (org_cons (org_sub ho1 (sk 0 (fun _ h=>by cases h))) (org_cons (org_sub ho1 (sk 1 (fun _ h=>by cases h))) (org_cons ho6 (org_cons ho7 (org_cons ho8 org_nil))))) forg_nil)
    have hdc7:∀ p_∈([(((B5,c6),(B6,c7),(B7,c8),(B8,c9),(B9,c10)),(TrouteNode.mk (Trouting.mk (TCouplingGraph.mk m.work.g.Nodes r_4.g.Edges) (TCircuit.mk m.work.c.Qubits r_4.c.Gates) r_4.place m1) m.steps))]:List ((Hd×Hd×Hd×Hd×Hd)×TrouteNode)),capD_routeNode p_:=fun p_ hp_=>by rw [List.mem_singleton.1 hp_]; exact ⟨hq3,hq4,hcap3,(len_le hl hcap4),hcap5⟩
    have hS47:ST w0 [] _ [O2,O5,O4,O1,⟨aD b4,89,(([(((B5,c6),(B6,c7),(B7,c8),(B8,c9),(B9,c10)),(TrouteNode.mk (Trouting.mk (TCouplingGraph.mk m.work.g.Nodes r_4.g.Edges) (TCircuit.mk m.work.c.Qubits r_4.c.Gates) r_4.place m1) m.steps))]:List ((Hd×Hd×Hd×Hd×Hd)×TrouteNode)).flatMap encD_routeNode),1*7⟩] (R17::R18::R16::R14::R15::R12::R11::R13::((([(((B5,c6),(B6,c7),(B7,c8),(B8,c9),(B9,c10)),(TrouteNode.mk (Trouting.mk (TCouplingGraph.mk m.work.g.Nodes r_4.g.Edges) (TCircuit.mk m.work.c.Qubits r_4.c.Gates) r_4.place m1) m.steps))]:List ((Hd×Hd×Hd×Hd×Hd)×TrouteNode)).flatMap eN7)++[])):=ST.subR hS46 (sk 0 (sk 1 (sk 2 (sk 3 (sk 4 (sk 5 (sk 6 (sk 7 (suba hm6 (fun _ h=>by cases h))))))))))
    refine ⟨((hS47.se [0,1,2,3]).sT [0,1,2,3,4,5,6,7]),?_⟩
    refine rA [0] ?_
    refine rS 35 0 rfl (Ys_mkMap (T:=94) hS47 rfl) ?_ aN
    rintro _ w_26 ⟨g1,rfl,hS48⟩
    refine ⟨((hS48.se [0,1,2,3]).sT [0,1,2,3,4,5,6,7]),?_⟩
    refine rA [3] ?_
    refine rZ 3 rfl (Ys_mapIns (kE:=vK_routeKey) (vE:=Value.bool) (l:=([]:List (TrouteKey×Bool))) (a:=r_5) (b:=true) (g:=g1) (i:=5) hS48 keK_impl_leastRoute_92 K75 rfl rfl rfl rfl rfl rfl) ?_ aN
    rintro _ w_27 ⟨rfl,hS49⟩
    refine ⟨((hS49.se [0,1,2,3]).sT [0,1,2,3,4,5,6,7]),?_⟩
    refine rq 4 38 rfl ((hS49.se [0,1,2,3]).sT [0,1,2,3,4,5,6,7]) (fun w' hw'=>(ym (.map (some g1)))) ?_
    refine rq 7 9 rfl ((hS49.se [0,1,2,3]).sT [0,1,2,3,4,5,6,7]) (fun w' hw'=>(yg (.map (some g1)))) ?_
    refine rq 8 10 rfl ((hS49.se [0,1,2,3]).sT [0,1,2,3,4,5,6,7]) (fun w' hw'=>(yg (.slice (aD b4) 1 1))) ?_
    refine ra_done (by kernel_rfl) ?_
    exact ⟨g1,aD b4,([(((B5,c6),(B6,c7),(B7,c8),(B8,c9),(B9,c10)),(TrouteNode.mk (Trouting.mk (TCouplingGraph.mk m.work.g.Nodes r_4.g.Edges) (TCircuit.mk m.work.c.Qubits r_4.c.Gates) r_4.place m1) m.steps))]:List ((Hd×Hd×Hd×Hd×Hd)×TrouteNode)),(fc rfl (fc rfl (fc rfl (fc rfl (fc rfl fn_))))),(show List.map Prod.snd ([(((B5,c6),(B6,c7),(B7,c8),(B8,c9),(B9,c10)),(TrouteNode.mk (Trouting.mk (TCouplingGraph.mk m.work.g.Nodes r_4.g.Edges) (TCircuit.mk m.work.c.Qubits r_4.c.Gates) r_4.place m1) m.steps))]:List ((Hd×Hd×Hd×Hd×Hd)×TrouteNode))=([(TrouteNode.mk (Trouting.mk (TCouplingGraph.mk m.work.g.Nodes r_4.g.Edges) (TCircuit.mk m.work.c.Qubits r_4.c.Gates) r_4.place m1) m.steps)]:List TrouteNode) from rfl),hdc7,ho15,(hS49.sel [0,2,5,4] rfl rfl)⟩
   refine rS 40 6 rfl (Ys_bslice (s:=7) (len:=1) (vs:=[(0,.agg #[vi m.work.g.Nodes,.slice B5 r_4.g.Edges.length c6,vi m.work.c.Qubits,.slice B6 r_4.c.Gates.length c7,.slice B7 r_4.place.length c8,.slice B8 m1.length c9,.slice B9 m.steps.length c10])]) (cs:=[vi m.work.g.Nodes,.slice B5 r_4.g.Edges.length c6,vi m.work.c.Qubits,.slice B6 r_4.c.Gates.length c7,.slice B7 r_4.place.length c8,.slice B8 m1.length c9,.slice B9 m.steps.length c10]) (zs:=[vi 0,.slice none 0 0,vi 0,.slice none 0 0,.slice none 0 0,.slice none 0 0,.slice none 0 0]) (m:=7) hS25 K71 K27 K87 rfl (mpc (by rw [hl]; exact rfl) mpn) rfl rfl rfl (by kernel_rfl) (by kernel_rfl) rfl) ?_ aN
   rintro _ w_28 ⟨b4,rfl,hS50⟩
   have hm7:∀ r∈(([(((B5,c6),(B6,c7),(B7,c8),(B8,c9),(B9,c10)),(TrouteNode.mk (Trouting.mk (TCouplingGraph.mk m.work.g.Nodes r_4.g.Edges) (TCircuit.mk m.work.c.Qubits r_4.c.Gates) r_4.place m1) m.steps))]:List ((Hd×Hd×Hd×Hd×Hd)×TrouteNode)).flatMap eN7),r∈([R17,R18,R16,R14,R15,R12,R11,R13]:List Ro):=(fsub_cons (sk 3 (sk 4 (sk 2 (sk 1 (sk 0 (fun _ h=>by cases h)))))) fsub_nil)
   have ho16:Org w0 [] [R12,R11,R13] (([(((B5,c6),(B6,c7),(B7,c8),(B8,c9),(B9,c10)),(TrouteNode.mk (Trouting.mk (TCouplingGraph.mk m.work.g.Nodes r_4.g.Edges) (TCircuit.mk m.work.c.Qubits r_4.c.Gates) r_4.place m1) m.steps))]:List ((Hd×Hd×Hd×Hd×Hd)×TrouteNode)).flatMap eN7):=(forg_cons (org_cons (org_sub ho1 (sk 0 (fun _ h=>by cases h))) (org_cons (org_sub ho1 (sk 1 (fun _ h=>by cases h))) (org_cons ho6 (org_cons ho7 (org_cons ho8 org_nil))))) forg_nil)
   have hdc8:∀ p_∈([(((B5,c6),(B6,c7),(B7,c8),(B8,c9),(B9,c10)),(TrouteNode.mk (Trouting.mk (TCouplingGraph.mk m.work.g.Nodes r_4.g.Edges) (TCircuit.mk m.work.c.Qubits r_4.c.Gates) r_4.place m1) m.steps))]:List ((Hd×Hd×Hd×Hd×Hd)×TrouteNode)),capD_routeNode p_:=fun p_ hp_=>by rw [List.mem_singleton.1 hp_]; exact ⟨hq3,hq4,hcap3,(len_le hl hcap4),hcap5⟩
   have hS51:ST w0 [] _ [O2,O5,O4,O1,⟨aD b4,89,(([(((B5,c6),(B6,c7),(B7,c8),(B8,c9),(B9,c10)),(TrouteNode.mk (Trouting.mk (TCouplingGraph.mk m.work.g.Nodes r_4.g.Edges) (TCircuit.mk m.work.c.Qubits r_4.c.Gates) r_4.place m1) m.steps))]:List ((Hd×Hd×Hd×Hd×Hd)×TrouteNode)).flatMap encD_routeNode),1*7⟩] (R17::R18::R16::R14::R15::R12::R11::R13::((([(((B5,c6),(B6,c7),(B7,c8),(B8,c9),(B9,c10)),(TrouteNode.mk (Trouting.mk (TCouplingGraph.mk m.work.g.Nodes r_4.g.Edges) (TCircuit.mk m.work.c.Qubits r_4.c.Gates) r_4.place m1) m.steps))]:List ((Hd×Hd×Hd×Hd×Hd)×TrouteNode)).flatMap eN7)++[])):=ST.subR hS50 (sk 0 (sk 1 (sk 2 (sk 3 (sk 4 (sk 5 (sk 6 (sk 7 (suba hm7 (fun _ h=>by cases h))))))))))
   refine ⟨((hS51.se [0,1,2,3]).sT [0,1,2,3,4,5,6,7]),?_⟩
   refine rA [0,2] ?_
   refine rS 35 0 rfl (Ys_mkMap (T:=94) hS51 rfl) ?_ ?_
   ·rintro _ w_29 ⟨g1,rfl,hS52⟩
    refine ⟨((hS52.se [0,1,2,3]).sT [0,1,2,3,4,5,6,7]),?_⟩
    refine rA [2] ?_
    refine rC 37 2 rfl (yC [.agg #[vi m.work.g.Nodes,.slice B5 r_4.g.Edges.length c6,vi m.work.c.Qubits,.slice B6 r_4.c.Gates.length c7,.slice B7 r_4.place.length c8,.slice B8 r_4.done.length c9,.slice B9 m.steps.length c10]] K98 (c_impl_routeNode_key (TrouteNode.mk (Trouting.mk (TCouplingGraph.mk m.work.g.Nodes r_4.g.Edges) (TCircuit.mk m.work.c.Qubits r_4.c.Gates) r_4.place m1) m.steps) B5 c6 r_4.g.Edges.length B6 c7 r_4.c.Gates.length B7 c8 r_4.place.length B8 c9 r_4.done.length B9 c10 m.steps.length _ rfl rfl rfl hl rfl (hS52.inn0 [(true,3),(true,4),(true,2),(true,1),(true,0)] rfl) hc4)) ?_ aN
    rintro _ w_30 ⟨rfl,hd6⟩
    have hS53:=hS52.out00 hd6
    have hS53:ST w0 [] _ [O2,O5,O4,O1,⟨aD b4,89,(([(((B5,c6),(B6,c7),(B7,c8),(B8,c9),(B9,c10)),(TrouteNode.mk (Trouting.mk (TCouplingGraph.mk m.work.g.Nodes r_4.g.Edges) (TCircuit.mk m.work.c.Qubits r_4.c.Gates) r_4.place m1) m.steps))]:List ((Hd×Hd×Hd×Hd×Hd)×TrouteNode)).flatMap encD_routeNode),1*7⟩,⟨(aD g1),.mp (mpE vK_routeKey Value.bool ([]:List (TrouteKey×Bool))),[],0⟩] (R17::R18::R16::R14::R15::R12::R11::R13::((([(((B5,c6),(B6,c7),(B7,c8),(B8,c9),(B9,c10)),(TrouteNode.mk (Trouting.mk (TCouplingGraph.mk m.work.g.Nodes r_4.g.Edges) (TCircuit.mk m.work.c.Qubits r_4.c.Gates) r_4.place m1) m.steps))]:List ((Hd×Hd×Hd×Hd×Hd)×TrouteNode)).flatMap eN7)++[])):=hS53
    refine ⟨((hS53.se [0,1,2,3]).sT [0,1,2,3,4,5,6,7]),?_⟩
    refine rA [3] ?_
    refine rZ 3 rfl (Ys_mapIns (kE:=vK_routeKey) (vE:=Value.bool) (l:=([]:List (TrouteKey×Bool))) (a:=r_5) (b:=true) (g:=g1) (i:=5) hS53 keK_impl_leastRoute_92 K75 rfl rfl rfl rfl rfl rfl) ?_ aN
    rintro _ w_31 ⟨rfl,hS54⟩
    refine ⟨((hS54.se [0,1,2,3]).sT [0,1,2,3,4,5,6,7]),?_⟩
    refine rq 4 38 rfl ((hS54.se [0,1,2,3]).sT [0,1,2,3,4,5,6,7]) (fun w' hw'=>(ym (.map (some g1)))) ?_
    refine rq 7 9 rfl ((hS54.se [0,1,2,3]).sT [0,1,2,3,4,5,6,7]) (fun w' hw'=>(yg (.map (some g1)))) ?_
    refine rq 8 10 rfl ((hS54.se [0,1,2,3]).sT [0,1,2,3,4,5,6,7]) (fun w' hw'=>(yg (.slice (aD b4) 1 1))) ?_
    refine ra_done (by kernel_rfl) ?_
    exact ⟨g1,aD b4,([(((B5,c6),(B6,c7),(B7,c8),(B8,c9),(B9,c10)),(TrouteNode.mk (Trouting.mk (TCouplingGraph.mk m.work.g.Nodes r_4.g.Edges) (TCircuit.mk m.work.c.Qubits r_4.c.Gates) r_4.place m1) m.steps))]:List ((Hd×Hd×Hd×Hd×Hd)×TrouteNode)),(fc rfl (fc rfl (fc rfl (fc rfl (fc rfl fn_))))),(show List.map Prod.snd ([(((B5,c6),(B6,c7),(B7,c8),(B8,c9),(B9,c10)),(TrouteNode.mk (Trouting.mk (TCouplingGraph.mk m.work.g.Nodes r_4.g.Edges) (TCircuit.mk m.work.c.Qubits r_4.c.Gates) r_4.place m1) m.steps))]:List ((Hd×Hd×Hd×Hd×Hd)×TrouteNode))=([(TrouteNode.mk (Trouting.mk (TCouplingGraph.mk m.work.g.Nodes r_4.g.Edges) (TCircuit.mk m.work.c.Qubits r_4.c.Gates) r_4.place m1) m.steps)]:List TrouteNode) from rfl),hdc8,ho16,(hS54.sel [0,2,5,4] rfl rfl)⟩
   refine rC 37 2 rfl (yC [.agg #[vi m.work.g.Nodes,.slice B5 r_4.g.Edges.length c6,vi m.work.c.Qubits,.slice B6 r_4.c.Gates.length c7,.slice B7 r_4.place.length c8,.slice B8 r_4.done.length c9,.slice B9 m.steps.length c10]] K98 (c_impl_routeNode_key (TrouteNode.mk (Trouting.mk (TCouplingGraph.mk m.work.g.Nodes r_4.g.Edges) (TCircuit.mk m.work.c.Qubits r_4.c.Gates) r_4.place m1) m.steps) B5 c6 r_4.g.Edges.length B6 c7 r_4.c.Gates.length B7 c8 r_4.place.length B8 c9 r_4.done.length B9 c10 m.steps.length _ rfl rfl rfl hl rfl (hS51.inn0 [(true,3),(true,4),(true,2),(true,1),(true,0)] rfl) hc4)) ?_ aN
   rintro _ w_32 ⟨rfl,hd7⟩
   have hS55:=hS51.out00 hd7
   refine ⟨((hS55.se [0,1,2,3]).sT [0,1,2,3,4,5,6,7]),?_⟩
   refine rA [0] ?_
   refine rS 35 0 rfl (Ys_mkMap (T:=94) hS55 rfl) ?_ aN
   rintro _ w_33 ⟨g1,rfl,hS56⟩
   refine ⟨((hS56.se [0,1,2,3]).sT [0,1,2,3,4,5,6,7]),?_⟩
   refine rA [3] ?_
   refine rZ 3 rfl (Ys_mapIns (kE:=vK_routeKey) (vE:=Value.bool) (l:=([]:List (TrouteKey×Bool))) (a:=r_5) (b:=true) (g:=g1) (i:=5) hS56 keK_impl_leastRoute_92 K75 rfl rfl rfl rfl rfl rfl) ?_ aN
   rintro _ w_34 ⟨rfl,hS57⟩
   refine ⟨((hS57.se [0,1,2,3]).sT [0,1,2,3,4,5,6,7]),?_⟩
   refine rq 4 38 rfl ((hS57.se [0,1,2,3]).sT [0,1,2,3,4,5,6,7]) (fun w' hw'=>(ym (.map (some g1)))) ?_
   refine rq 7 9 rfl ((hS57.se [0,1,2,3]).sT [0,1,2,3,4,5,6,7]) (fun w' hw'=>(yg (.map (some g1)))) ?_
   refine rq 8 10 rfl ((hS57.se [0,1,2,3]).sT [0,1,2,3,4,5,6,7]) (fun w' hw'=>(yg (.slice (aD b4) 1 1))) ?_
   refine ra_done (by kernel_rfl) ?_
   exact ⟨g1,aD b4,([(((B5,c6),(B6,c7),(B7,c8),(B8,c9),(B9,c10)),(TrouteNode.mk (Trouting.mk (TCouplingGraph.mk m.work.g.Nodes r_4.g.Edges) (TCircuit.mk m.work.c.Qubits r_4.c.Gates) r_4.place m1) m.steps))]:List ((Hd×Hd×Hd×Hd×Hd)×TrouteNode)),(fc rfl (fc rfl (fc rfl (fc rfl (fc rfl fn_))))),(show List.map Prod.snd ([(((B5,c6),(B6,c7),(B7,c8),(B8,c9),(B9,c10)),(TrouteNode.mk (Trouting.mk (TCouplingGraph.mk m.work.g.Nodes r_4.g.Edges) (TCircuit.mk m.work.c.Qubits r_4.c.Gates) r_4.place m1) m.steps))]:List ((Hd×Hd×Hd×Hd×Hd)×TrouteNode))=([(TrouteNode.mk (Trouting.mk (TCouplingGraph.mk m.work.g.Nodes r_4.g.Edges) (TCircuit.mk m.work.c.Qubits r_4.c.Gates) r_4.place m1) m.steps)]:List TrouteNode) from rfl),hdc8,ho16,(hS57.sel [0,2,5,4] rfl rfl)⟩
  rintro f w ⟨g2,B10,D,hf,hD,hdc1,ho9,hS24⟩
  refine cq (cq (cr ?_))
  refine sQ 11 (yg (vi 0)) (rn ?_)
  obtain ⟨z,hz,hF3⟩:=bI hF2
  refine cw_block ?_
  refine cw_loop (fun k f w=>∃ (seen:List (TrouteKey×Bool)) (queue:List TrouteNode) (at_1:Int) (B11:Option Addr) (c11:Nat) (D1:List ((Hd×Hd×Hd×Hd×Hd)×TrouteNode)),FF f [(2,.slice B2 start.length c3),(3,pt (aD b) 0),(6,pt (aD b2) 0),(9,.map (some g2)),(10,.slice B11 queue.length c11),(11,vi at_1)]∧D1.map Prod.snd=queue∧(∀ p_∈D1,capD_routeNode p_)∧Org w0 [] [R12,R11,R13] (D1.flatMap eN7)∧ST w0 [] w [O2,O4,⟨(aD g2),.mp (mpE vK_routeKey Value.bool seen),[],0⟩,⟨B11,89,(D1.flatMap encD_routeNode),c11*7⟩] (R17::R18::R16::R14::R15::R12::R11::R13::((D1.flatMap eN7)++[]))∧whX (F_impl_leastRoute_l1 start g) k (seen,queue,at_1)=some z) fuel ⟨(mput ([]:List (TrouteKey×Bool)) r_5 true),([(TrouteNode.mk (Trouting.mk (TCouplingGraph.mk m.work.g.Nodes r_4.g.Edges) (TCircuit.mk m.work.c.Qubits r_4.c.Gates) r_4.place m1) m.steps)]:List TrouteNode),0,B10,1,D,(hf.a 2 0 (hf.a 3 1 (hf.a 6 2 (hf.a 9 3 (hf.a 10 4 (fc rfl fn_)))))),hD,hdc1,ho9,(hS24.sel [0,1,2,3] rfl rfl),hz⟩ ?_
  rintro k_ f w ⟨seen,queue,at_1,B11,c11,D1,hf1,hD1,hdc9,ho17,hS58,hL⟩
  obtain ⟨K4,y,rfl,hb1,hL1⟩:=whX_go hL
  unfold F_impl_leastRoute_l1 at hb1
  refine cq (cq (cr ?_))
  refine sQ 41 (ym (vi at_1) rfl (hf1.g 11 5))<|sQ 42 (ym (.slice B11 queue.length c11) rfl (hf1.g 10 4))<|sQ 43 (Y_len (B:=B11) (m:=queue.length) (c:=c11) K71 rfl rfl)<|sQ 44 (yL at_1 (queue.length:Int)) (rn ?_)
  refine cw_cond (b:=(decide (at_1<(queue.length:Int)))) rfl (fun hb2=>?_) (fun hb2=>?_)
  ·skip
   have hF4:=ct hb1 hb2
   refine cw_skip (cq (cw_block (cq (cr ?_))))
   refine sQ 47 (ym (.slice B11 queue.length c11) rfl (hf1.g 10 4))<|sQ 48 (ym (vi at_1) rfl (hf1.g 11 5)) ?_
   obtain ⟨x,hx,hF4⟩:=bI hF4
   obtain ⟨⟨⟨B12,c12⟩,⟨B13,c13⟩,⟨B14,c14⟩,⟨B15,c15⟩,⟨B16,c16⟩⟩,hp⟩:=getI_snd hD1 hx
   refine sQ 49 (Y_index (B:=B11) (m:=queue.length) (c:=c11) (k:=.i64) (i:=at_1) K71 K27 rfl rfl rfl (gi_isSome encD_routeNode_len rfl (hS58.c 3) hp) (getI_nn hp) (getI_ltI hp (dl_len hD1))) ?_
   let R19:Ro:=⟨B12,(x.work.g.Edges.flatMap eN1)⟩
   have hm8:(R19:Ro)∈((R17::R18::R16::R14::R15::R12::R11::R13::((D1.flatMap eN7)++[])):List Ro):=app_mem (fun r_ (h:r_∈((D1.flatMap eN7):List Ro))=>mOd (i:=8) (show r_∈((((D1.flatMap eN7)++[])):List Ro) from mAl _ h)) (row_mem (rw_:=eN7) hp _ (mt 0))
   let O7:Ob:=⟨B11,89,(D1.flatMap encD_routeNode),c11*7⟩
   have hS59:ST w0 [] _ [O2,O4,⟨(aD g2),.mp (mpE vK_routeKey Value.bool seen),[],0⟩,O7] (R19::R17::R18::R16::R14::R15::R12::R11::R13::((D1.flatMap eN7)++[])):=ST.subR hS58 (subc hm8 (fun _ h=>h))
   let R20:Ro:=⟨B13,(x.work.c.Gates.flatMap eN2)⟩
   have hm9:(R20:Ro)∈((R19::R17::R18::R16::R14::R15::R12::R11::R13::((D1.flatMap eN7)++[])):List Ro):=app_mem (fun r_ (h:r_∈((D1.flatMap eN7):List Ro))=>mOd (i:=9) (show r_∈((((D1.flatMap eN7)++[])):List Ro) from mAl _ h)) (row_mem (rw_:=eN7) hp _ (mt 1))
   have hS60:ST w0 [] _ [O2,O4,⟨(aD g2),.mp (mpE vK_routeKey Value.bool seen),[],0⟩,O7] (R20::R19::R17::R18::R16::R14::R15::R12::R11::R13::((D1.flatMap eN7)++[])):=ST.subR hS59 (subc hm9 (fun _ h=>h))
   let R21:Ro:=⟨B14,(x.work.place.flatMap encI)⟩
   have hm10:(R21:Ro)∈((R20::R19::R17::R18::R16::R14::R15::R12::R11::R13::((D1.flatMap eN7)++[])):List Ro):=app_mem (fun r_ (h:r_∈((D1.flatMap eN7):List Ro))=>mOd (i:=10) (show r_∈((((D1.flatMap eN7)++[])):List Ro) from mAl _ h)) (row_mem (rw_:=eN7) hp _ (mt 2))
   have hS61:ST w0 [] _ [O2,O4,⟨(aD g2),.mp (mpE vK_routeKey Value.bool seen),[],0⟩,O7] (R21::R20::R19::R17::R18::R16::R14::R15::R12::R11::R13::((D1.flatMap eN7)++[])):=ST.subR hS60 (subc hm10 (fun _ h=>h))
   let R22:Ro:=⟨B15,(x.work.done.flatMap encB)⟩
   have hm11:(R22:Ro)∈((R21::R20::R19::R17::R18::R16::R14::R15::R12::R11::R13::((D1.flatMap eN7)++[])):List Ro):=app_mem (fun r_ (h:r_∈((D1.flatMap eN7):List Ro))=>mOd (i:=11) (show r_∈((((D1.flatMap eN7)++[])):List Ro) from mAl _ h)) (row_mem (rw_:=eN7) hp _ (mt 3))
   have hS62:ST w0 [] _ [O2,O4,⟨(aD g2),.mp (mpE vK_routeKey Value.bool seen),[],0⟩,O7] (R22::R21::R20::R19::R17::R18::R16::R14::R15::R12::R11::R13::((D1.flatMap eN7)++[])):=ST.subR hS61 (subc hm11 (fun _ h=>h))
   let R23:Ro:=⟨B16,(x.steps.flatMap eN0)⟩
   have hm12:(R23:Ro)∈((R22::R21::R20::R19::R17::R18::R16::R14::R15::R12::R11::R13::((D1.flatMap eN7)++[])):List Ro):=app_mem (fun r_ (h:r_∈((D1.flatMap eN7):List Ro))=>mOd (i:=12) (show r_∈((((D1.flatMap eN7)++[])):List Ro) from mAl _ h)) (row_mem (rw_:=eN7) hp _ (mt 4))
   have hS63:ST w0 [] _ [O2,O4,⟨(aD g2),.mp (mpE vK_routeKey Value.bool seen),[],0⟩,O7] (R23::R22::R21::R20::R19::R17::R18::R16::R14::R15::R12::R11::R13::((D1.flatMap eN7)++[])):=ST.subR hS62 (subc hm12 (fun _ h=>h))
   refine sQ 50 (ya B11 (at_1.toNat*7) (D1.flatMap encD_routeNode) [vi x.work.g.Nodes,.slice B12 x.work.g.Edges.length c12,vi x.work.c.Qubits,.slice B13 x.work.c.Gates.length c13,.slice B14 x.work.place.length c14,.slice B15 x.work.done.length c15,.slice B16 x.steps.length c16] K84 K27 (hS63.c 3) rfl rfl (encD_routeNode_len (((B12,c12),(B13,c13),(B14,c14),(B15,c15),(B16,c16)),x)) (gi_seg encD_routeNode_len hp)) ?_
   refine sS 12 (yN [vi 0,.slice none 0 0,vi 0,.slice none 0 0,.slice none 0 0,.slice none 0 0,.slice none 0 0] 7 hS63 K42) ?_
   rintro _ w_35 ⟨b5,rfl,hS64⟩
   refine s0 (yT 4 7 (aD b5) 89 (.agg #[vi x.work.g.Nodes,.slice B12 x.work.g.Edges.length c12,vi x.work.c.Qubits,.slice B13 x.work.c.Gates.length c13,.slice B14 x.work.place.length c14,.slice B15 x.work.done.length c15,.slice B16 x.steps.length c16]) [vi x.work.g.Nodes,.slice B12 x.work.g.Edges.length c12,vi x.work.c.Qubits,.slice B13 x.work.c.Gates.length c13,.slice B14 x.work.place.length c14,.slice B15 x.work.done.length c15,.slice B16 x.steps.length c16] 0 hS64 K27) ?_
   rintro _ w_36 ⟨rfl,hS65⟩
   refine rn (cq (cq (cr ?_)))
   refine sQ 51 (yd (aD b5) 0 5 K86 K22)<|sQ 52 (yd (aD b5) 0 0 K69 K40)<|sQ 53 (yl (aD b5) 5 [vi x.work.g.Nodes,.slice B12 x.work.g.Edges.length c12,vi x.work.c.Qubits,.slice B13 x.work.c.Gates.length c13,.slice B14 x.work.place.length c14,.slice B15 x.work.done.length c15,.slice B16 x.steps.length c16] (.slice B15 x.work.done.length c15) K56 (hS65.c 4)) ?_
   obtain ⟨r_6,hc5,hF4⟩:=bI hF4
   refine sc 54 rfl rfl (yC [.slice B15 x.work.done.length c15,.bool false] k_call_50 (c_slices_Contains_bool_bool x.work.done false B15 c15 x.work.done.length _ rfl (hS65.inn0 [(true,1)] rfl) hc5)) ?_
   rintro _ w_37 ⟨rfl,hd8⟩
   have hS66:=hS65.out00 hd8
   refine sQ 55 (Y_not (p:=r_6) rfl rfl) (rn ?_)
   refine cw_cond (b:=(!r_6)) rfl (fun hb3=>?_) (fun hb3=>?_)
   ·skip
    have hF5:=ct hF4 hb3
    refine cq ?_
    obtain ⟨r_7,hc6,hF5⟩:=bI hF5
    refine ra_start (hS66.se [0,2,3,4]).fn (by kernel_rfl) ?_
    have hS68:=hS66.drew
    refine rq 0 56 rfl (hS68.se [0,2,3,4]) (fun w' hw'=>(ym (.slice B2 start.length c3) rfl (hf1.g 2 0))) ?_
    refine rq 2 58 (v:=pt (aD b5) 6) rfl (hS68.se [0,2,3,4]) (fun w' hw'=>(yd (aD b5) 0 0 K120 K15)) ?_
    refine rq 3 59 rfl (hS68.se [0,2,3,4]) (fun w' hw'=>(yl (aD b5) 6 [vi x.work.g.Nodes,.slice B12 x.work.g.Edges.length c12,vi x.work.c.Qubits,.slice B13 x.work.c.Gates.length c13,.slice B14 x.work.place.length c14,.slice B15 x.work.done.length c15,.slice B16 x.steps.length c16] (.slice B16 x.steps.length c16) K31 (ST.cf hw' (i:=3) rfl))) ?_
    refine rA [1] ?_
    refine rC 57 1 rfl (yC [.slice B2 start.length c3] K96 (c_slices_Clone_int_int start B2 c3 start.length _ rfl (hS68.inn0 [(true,12)] rfl) hc6)) ?_ aN
    rintro _ w_38 ⟨B17,c17,rfl,hd9⟩
    have hS69:=hS68.out0 hd9
    refine ⟨(hS69.se [0,2,3,4]),?_⟩
    refine rq 4 60 (v:=.agg #[.slice B17 r_7.length c17,.slice B16 x.steps.length c16]) rfl (hS69.se [0,2,3,4]) (fun w' hw'=>(Y_buildS (zs:=[.slice none 0 0,.slice none 0 0]) (vs:=[(0,.slice B17 r_7.length c17),(1,.slice B16 x.steps.length c16)]) (cs:=[.slice B17 r_7.length c17,.slice B16 x.steps.length c16]) K70 K35 rfl (mpc rfl (mpc rfl mpn)) rfl)) ?_
    refine rA [5] ?_
    refine rZ 5 rfl (yT 1 2 (aD b2) 36 (.agg #[.slice B17 r_7.length c17,.slice B16 x.steps.length c16]) [.slice B17 r_7.length c17,.slice B16 x.steps.length c16] 0 hS69 K13 rfl (hf1.g 6 2)) ?_ aN
    rintro _ w_39 ⟨rfl,hS70⟩
    refine ⟨(hS70.se [0,2,3,4]),?_⟩
    refine rq 6 7 rfl (hS70.se [0,2,3,4]) (fun w' hw'=>(yg (.bool true))) ?_
    refine ra_done (by kernel_rfl) ?_
    refine ct_ ?_
    obtain rfl:=sI hF5
    obtain rfl:=sI hL1
    obtain ⟨rfl,rfl⟩:=pr2 (sI hF3)
    exact ret2 Try.results21 (v1:=.agg #[.slice B17 r_7.length c17,.slice B16 x.steps.length c16]) (resAt_cellA (B:=aD b2) (i:=0) (cs:=[.slice B17 r_7.length c17,.slice B16 x.steps.length c16]) (vs:=[.slice B17 r_7.length c17,.slice B16 x.steps.length c16]) (hf1.g 6 2) K32 K13 (hS70.c 1) rfl rfl) (v2:=.bool true) (resAt_tmp rfl) ⟨B17,c17,B16,c16,rfl,(len_le rfl (capD_routeNode_4 (hdc9 _ (List.mem_of_getElem? (getI_some hp))))),(org_cons (org_sub ho17 (subc (row_mem (rw_:=eN7) hp _ (mt 4)) (fun _ h=>by cases h))) org_nil),((hS70.sel [5] rfl rfl).sT [0])⟩
   ·skip
    have hF6:=cf' hF4 hb3
    refine cw_skip (cq (cr ?_))
    refine sQ 61 (yd (aD b) 0 0 K45 K39 rfl (hf1.g 3 1))<|sQ 62 (yl (aD b) 1 [vi g.Nodes,.slice B g.Edges.length c] (.slice B g.Edges.length c) K59 (hS66.c 0))<|sQ 63 (Y_len (B:=B) (m:=g.Edges.length) (c:=c) K26 rfl rfl)<|sQ 64 (ym (vi 0)) (rn ?_)
    obtain ⟨hN,hF6⟩:=chk_inv hF6
    obtain ⟨z1,hz1,hF7⟩:=bI hF6
    refine cw_block ?_
    let O0:Ob:=⟨aD b5,89,[vi x.work.g.Nodes,.slice B12 x.work.g.Edges.length c12,vi x.work.c.Qubits,.slice B13 x.work.c.Gates.length c13,.slice B14 x.work.place.length c14,.slice B15 x.work.done.length c15,.slice B16 x.steps.length c16],7⟩
    refine cw_loop (fun k f w=>∃ (i1:Nat) (seen1:List (TrouteKey×Bool)) (queue1:List TrouteNode) (B18:Option Addr) (c18:Nat) (D2:List ((Hd×Hd×Hd×Hd×Hd)×TrouteNode)),FF f [(2,.slice B2 start.length c3),(3,pt (aD b) 0),(6,pt (aD b2) 0),(9,.map (some g2)),(10,.slice B18 queue1.length c18),(11,vi at_1),(12,pt (aD b5) 0),(62,.slice B g.Edges.length c),(63,vi (g.Edges.length:Int)),(64,vi (i1:Int))]∧D2.map Prod.snd=queue1∧(∀ p_∈D2,capD_routeNode p_)∧Org w0 [] [R12,R11,R13] (D2.flatMap eN7)∧ST w0 [] w [O2,O4,⟨(aD g2),.mp (mpE vK_routeKey Value.bool seen1),[],0⟩,⟨B18,89,(D2.flatMap encD_routeNode),c18*7⟩,O0] (R23::R22::R21::R20::R19::R17::R18::R16::R14::R15::R12::R11::R13::((D2.flatMap eN7)++[]))∧i1+k=g.Edges.length∧forN (F_impl_leastRoute_l2 g x) k i1 (seen1,queue1)=some z1) g.Edges.length ⟨0,seen,queue,B11,c11,D1,(hf1.a 2 0 (hf1.a 3 1 (hf1.a 6 2 (hf1.a 9 3 (hf1.a 10 4 (hf1.a 11 5 (fc rfl (fc rfl (fc rfl (fc rfl fn_)))))))))),hD1,hdc9,ho17,(hS66.sel [0,1,2,3,4] rfl rfl),Nat.zero_add _,hz1⟩ ?_
    rintro K10 f w ⟨i1,seen1,queue1,B18,c18,D2,hf2,hD2,hdc10,ho18,hS71,hik1,hL2⟩
    refine cq (cr ?_)
    refine sQ 65 (yL (i1:Int) (g.Edges.length:Int) rfl (hf2.g 64 9) (hf2.g 63 8)) (rn (cq ?_))
    refine cw_cond (b:=(decide ((i1:Int)<(g.Edges.length:Int)))) rfl (fun hlt=>?_) (fun hlt=>?_)
    ·skip
     have hlt1:i1<g.Edges.length:=by have h:=of_decide_eq_true hlt; omega
     obtain ⟨K18,rfl⟩:∃ k2,K10=k2+1:=⟨K10-1,by omega⟩
     obtain ⟨y1,hb4,hL3⟩:=forN_go hL2
     unfold F_impl_leastRoute_l2 at hb4
     refine cw_skip (cq ?_)
     obtain ⟨z2,hz2,hF8⟩:=bI hb4
     refine cw_mid (fun f w=>∃ (seen2:List (TrouteKey×Bool)) (queue2:List TrouteNode) (B19:Option Addr) (c19:Nat) (D3:List ((Hd×Hd×Hd×Hd×Hd)×TrouteNode)),(seen2,queue2)=z2∧FF f [(2,.slice B2 start.length c3),(3,pt (aD b) 0),(6,pt (aD b2) 0),(9,.map (some g2)),(10,.slice B19 queue2.length c19),(11,vi at_1),(12,pt (aD b5) 0),(62,.slice B g.Edges.length c),(63,vi (g.Edges.length:Int)),(64,vi (i1:Int))]∧D3.map Prod.snd=queue2∧(∀ p_∈D3,capD_routeNode p_)∧Org w0 [] [R12,R11,R13] (D3.flatMap eN7)∧ST w0 [] w [O2,O4,⟨(aD g2),.mp (mpE vK_routeKey Value.bool seen2),[],0⟩,⟨B19,89,(D3.flatMap encD_routeNode),c19*7⟩,O0] (R23::R22::R21::R20::R19::R17::R18::R16::R14::R15::R12::R11::R13::((D3.flatMap eN7)++[]))) ?_ ?_
     ·skip
      refine cw_block (cq (cr ?_))
      obtain ⟨x1,hx1,hz2⟩:=bI hz2
      refine sQ 66 (Y_index (B:=B) (m:=g.Edges.length) (c:=c) (k:=.i64) (i:=(i1:Int)) K26 K20 rfl (hf2.g 62 7) (hf2.g 64 9) (gi_isSome enc_Edge_len rfl (hS71.rf (i:=10) rfl) hx1) (getI_nn hx1) (getI_ltI hx1 rfl))<|sQ 67 (ya B ((i1:Int).toNat*2) (g.Edges.flatMap eN1) [vi x1.A,vi x1.B] K81 K20 (hS71.rf (i:=10) rfl) rfl rfl (enc_Edge_len x1) (gi_seg enc_Edge_len hx1)) ?_
      refine sS 14 (yN [vi 0,vi 0] 2 hS71 K46) ?_
      rintro _ w_40 ⟨b6,rfl,hS73⟩
      refine s0 (yT 5 2 (aD b6) 87 (.agg #[vi x1.A,vi x1.B]) [vi x1.A,vi x1.B] 0 hS73 K20) ?_
      rintro _ w_41 ⟨rfl,hS74⟩
      refine rn (cq (cr ?_))
      refine sQ 68 (yb (aD b5) 0 [vi x.work.g.Nodes,.slice B12 x.work.g.Edges.length c12,vi x.work.c.Qubits,.slice B13 x.work.c.Gates.length c13,.slice B14 x.work.place.length c14,.slice B15 x.work.done.length c15,.slice B16 x.steps.length c16] K84 K27 (hS74.c 4) rfl (hf2.g 12 6))<|sQ 69 (yb (aD b6) 0 [vi x1.A,vi x1.B] K81 K20 (hS74.c 5)) ?_
      obtain ⟨r_8,hc7,hz2⟩:=bI hz2
      refine sc 70 rfl rfl (yC [.agg #[vi x.work.g.Nodes,.slice B12 x.work.g.Edges.length c12,vi x.work.c.Qubits,.slice B13 x.work.c.Gates.length c13,.slice B14 x.work.place.length c14,.slice B15 x.work.done.length c15,.slice B16 x.steps.length c16],.agg #[vi x1.A,vi x1.B]] k_call_51 (c_impl_routeNode_swapped x x1 B12 c12 x.work.g.Edges.length B13 c13 x.work.c.Gates.length B14 c14 x.work.place.length B15 c15 x.work.done.length B16 c16 x.steps.length _ rfl (capD_routeNode_0 (hdc9 _ (List.mem_of_getElem? (getI_some hp)))) rfl (capD_routeNode_1 (hdc9 _ (List.mem_of_getElem? (getI_some hp)))) rfl rfl rfl (hS74.inn0 [(true,4),(true,3),(true,2),(true,1),(true,0)] rfl) hc7)) ?_
      rintro _ w_42 ⟨B20,c20,B21,c21,B22,c22,B23,c23,B24,c24,rfl,hq5,hq6,ho20,hd10⟩
      have hS75:=ST.outR0 hS74 hd10 ho20 (sk 4 (sk 3 (sk 2 (sk 1 (sk 0 (fun _ h=>by cases h))))))
      let R24:Ro:=⟨B20,(r_8.work.g.Edges.flatMap eN1)⟩
      let R25:Ro:=⟨B21,(r_8.work.c.Gates.flatMap eN2)⟩
      have ho21:Org w0 [] [R12,R11,R13] [R24,R25]:=org_trans0 hS74 ho20 (org_cons (org_sub ho17 (subc (row_mem (rw_:=eN7) hp _ (mt 0)) (fun _ h=>by cases h))) (org_cons (org_sub ho17 (subc (row_mem (rw_:=eN7) hp _ (mt 1)) (fun _ h=>by cases h))) (org_cons (org_sub ho17 (subc (row_mem (rw_:=eN7) hp _ (mt 2)) (fun _ h=>by cases h))) (org_cons (org_sub ho17 (subc (row_mem (rw_:=eN7) hp _ (mt 3)) (fun _ h=>by cases h))) (org_cons (org_sub ho17 (subc (row_mem (rw_:=eN7) hp _ (mt 4)) (fun _ h=>by cases h))) org_nil)))))
      let O6:Ob:=⟨B18,89,(D2.flatMap encD_routeNode),c18*7⟩
      let O8:Ob:=⟨aD b6,87,[vi x1.A,vi x1.B],2⟩
      let O9:Ob:=⟨B24,60,(r_8.steps.flatMap eN0),c24*3⟩
      let O10:Ob:=⟨B23,4,(r_8.work.done.flatMap encB),c23*1⟩
      have hS76:ST w0 [] _ [O2,O4,⟨(aD g2),.mp (mpE vK_routeKey Value.bool seen1),[],0⟩,O6,O0,O8,⟨B22,3,(r_8.work.place.flatMap encI),c22*1⟩,O10,O9] (R24::R25::R23::R22::R21::R20::R19::R17::R18::R16::R14::R15::R12::R11::R13::((D2.flatMap eN7)++[])):=hS75
      refine sS 15 (yN [vi 0,.slice none 0 0,vi 0,.slice none 0 0,.slice none 0 0,.slice none 0 0,.slice none 0 0] 7 hS76 K42) ?_
      rintro _ w_43 ⟨b7,rfl,hS77⟩
      refine s0 (yT 9 7 (aD b7) 89 (.agg #[vi r_8.work.g.Nodes,.slice B20 r_8.work.g.Edges.length c20,vi r_8.work.c.Qubits,.slice B21 r_8.work.c.Gates.length c21,.slice B22 r_8.work.place.length c22,.slice B23 r_8.work.done.length c23,.slice B24 r_8.steps.length c24]) [vi r_8.work.g.Nodes,.slice B20 r_8.work.g.Edges.length c20,vi r_8.work.c.Qubits,.slice B21 r_8.work.c.Gates.length c21,.slice B22 r_8.work.place.length c22,.slice B23 r_8.work.done.length c23,.slice B24 r_8.steps.length c24] 0 hS77 K27) ?_
      rintro _ w_44 ⟨rfl,hS78⟩
      refine rn (cq (cr ?_))
      refine sQ 71 (ym (.map (some g2)) rfl (hf2.g 9 3))<|sQ 72 (yb (aD b7) 0 [vi r_8.work.g.Nodes,.slice B20 r_8.work.g.Edges.length c20,vi r_8.work.c.Qubits,.slice B21 r_8.work.c.Gates.length c21,.slice B22 r_8.work.place.length c22,.slice B23 r_8.work.done.length c23,.slice B24 r_8.steps.length c24] K84 K27 (hS78.c 9)) ?_
      obtain ⟨r_9,hc8,hz2⟩:=bI hz2
      refine sc 73 rfl rfl (yC [.agg #[vi r_8.work.g.Nodes,.slice B20 r_8.work.g.Edges.length c20,vi r_8.work.c.Qubits,.slice B21 r_8.work.c.Gates.length c21,.slice B22 r_8.work.place.length c22,.slice B23 r_8.work.done.length c23,.slice B24 r_8.steps.length c24]] K98 (c_impl_routeNode_key r_8 B20 c20 r_8.work.g.Edges.length B21 c21 r_8.work.c.Gates.length B22 c22 r_8.work.place.length B23 c23 r_8.work.done.length B24 c24 r_8.steps.length _ rfl rfl rfl rfl rfl (hS78.inn0 [(true,0),(true,1),(false,6),(false,7),(false,8)] rfl) hc8)) ?_
      rintro _ w_45 ⟨rfl,hd11⟩
      have hS79:=hS78.out00 hd11
      refine sQ 74 (Y_mapGet (kE:=vK_routeKey) (vE:=Value.bool) (l:=seen1) (a:=r_9) (d:=false) (g:=g2) (i:=2) hS79 keK_impl_leastRoute_92 K75 K68 rfl rfl rfl rfl)<|sQ 75 (Y_not (p:=(mgt seen1 r_9 false)) rfl rfl) (rn ?_)
      refine cw_cond (b:=(!(mgt seen1 r_9 false))) rfl (fun hb5=>?_) (fun hb5=>?_)
      ·skip
       have hF9:=ct hz2 hb5
       refine cq (cr ?_)
       refine sQ 76 (ym (.map (some g2)) rfl (hf2.g 9 3))<|sQ 77 (yb (aD b7) 0 [vi r_8.work.g.Nodes,.slice B20 r_8.work.g.Edges.length c20,vi r_8.work.c.Qubits,.slice B21 r_8.work.c.Gates.length c21,.slice B22 r_8.work.place.length c22,.slice B23 r_8.work.done.length c23,.slice B24 r_8.steps.length c24] K84 K27 (hS79.c 9)) ?_
       obtain ⟨r_10,hc9,hF9⟩:=bI hF9
       refine sc 78 rfl rfl (yC [.agg #[vi r_8.work.g.Nodes,.slice B20 r_8.work.g.Edges.length c20,vi r_8.work.c.Qubits,.slice B21 r_8.work.c.Gates.length c21,.slice B22 r_8.work.place.length c22,.slice B23 r_8.work.done.length c23,.slice B24 r_8.steps.length c24]] K98 (c_impl_routeNode_key r_8 B20 c20 r_8.work.g.Edges.length B21 c21 r_8.work.c.Gates.length B22 c22 r_8.work.place.length B23 c23 r_8.work.done.length B24 c24 r_8.steps.length _ rfl rfl rfl rfl rfl (hS79.inn0 [(true,0),(true,1),(false,6),(false,7),(false,8)] rfl) hc9)) ?_
       rintro _ w_46 ⟨rfl,hd12⟩
       have hS80:=hS79.out00 hd12
       refine s0 (Ys_mapPut (kE:=vK_routeKey) (vE:=Value.bool) (l:=seen1) (a:=r_10) (b:=true) (g:=g2) (i:=2) hS80 keK_impl_leastRoute_92 K75 rfl rfl rfl rfl rfl rfl) ?_
       rintro _ w_47 ⟨rfl,hS81⟩
       refine rn (cr ?_)
       refine sQ 79 (ym (.slice B18 queue1.length c18) rfl (hf2.g 10 4))<|sQ 80 (yb (aD b7) 0 [vi r_8.work.g.Nodes,.slice B20 r_8.work.g.Edges.length c20,vi r_8.work.c.Qubits,.slice B21 r_8.work.c.Gates.length c21,.slice B22 r_8.work.place.length c22,.slice B23 r_8.work.done.length c23,.slice B24 r_8.steps.length c24] K84 K27 (hS81.c 9)) ?_
       let R26:Ro:=⟨B22,(r_8.work.place.flatMap encI)⟩
       have ho22:Org w0 [] [R12,R11,R13] [R26]:=ST.orgOwn hS81 (i:=6) rfl
       have hcap6:r_8.work.place.length≤c22:=(hS81.lencap (i:=6) rfl (fm_lenn (l:=r_8.work.place) encI_len rfl) rfl rfl)
       let O3:Ob:=⟨aD b7,89,[vi r_8.work.g.Nodes,.slice B20 r_8.work.g.Edges.length c20,vi r_8.work.c.Qubits,.slice B21 r_8.work.c.Gates.length c21,.slice B22 r_8.work.place.length c22,.slice B23 r_8.work.done.length c23,.slice B24 r_8.steps.length c24],7⟩
       have hS82:ST w0 [] _ [O2,O4,⟨(aD g2),.mp (mpE vK_routeKey Value.bool (mput seen1 r_10 true)),[],0⟩,O6,O0,O8,O10,O9,O3] (R26::R24::R25::R23::R22::R21::R20::R19::R17::R18::R16::R14::R15::R12::R11::R13::((D2.flatMap eN7)++[])):=hS81.freeze (i:=6) rfl
       let R27:Ro:=⟨B23,(r_8.work.done.flatMap encB)⟩
       have ho23:Org w0 [] [R12,R11,R13] [R27]:=ST.orgOwn hS82 (i:=6) rfl
       have hcap7:r_8.work.done.length≤c23:=(hS82.lencap (i:=6) rfl (fm_lenn (l:=r_8.work.done) encB_len rfl) rfl rfl)
       have hS83:ST w0 [] _ [O2,O4,⟨(aD g2),.mp (mpE vK_routeKey Value.bool (mput seen1 r_10 true)),[],0⟩,O6,O0,O8,O9,O3] (R27::R26::R24::R25::R23::R22::R21::R20::R19::R17::R18::R16::R14::R15::R12::R11::R13::((D2.flatMap eN7)++[])):=hS82.freeze (i:=6) rfl
       let R28:Ro:=⟨B24,(r_8.steps.flatMap eN0)⟩
       have ho24:Org w0 [] [R12,R11,R13] [R28]:=ST.orgOwn hS83 (i:=6) rfl
       have hcap8:r_8.steps.length≤c24:=(hS83.lencap (i:=6) rfl (fm_lenn (l:=r_8.steps) eN8 rfl) rfl rfl)
       have hS84:ST w0 [] _ [O2,O4,⟨(aD g2),.mp (mpE vK_routeKey Value.bool (mput seen1 r_10 true)),[],0⟩,O6,O0,O8,O3] (R28::R27::R26::R24::R25::R23::R22::R21::R20::R19::R17::R18::R16::R14::R15::R12::R11::R13::((D2.flatMap eN7)++[])):=hS83.freeze (i:=6) rfl
       refine sS 81 (Ys_bslice (s:=7) (len:=1) (vs:=[(0,.agg #[vi r_8.work.g.Nodes,.slice B20 r_8.work.g.Edges.length c20,vi r_8.work.c.Qubits,.slice B21 r_8.work.c.Gates.length c21,.slice B22 r_8.work.place.length c22,.slice B23 r_8.work.done.length c23,.slice B24 r_8.steps.length c24])]) (cs:=[vi r_8.work.g.Nodes,.slice B20 r_8.work.g.Edges.length c20,vi r_8.work.c.Qubits,.slice B21 r_8.work.c.Gates.length c21,.slice B22 r_8.work.place.length c22,.slice B23 r_8.work.done.length c23,.slice B24 r_8.steps.length c24]) (zs:=[vi 0,.slice none 0 0,vi 0,.slice none 0 0,.slice none 0 0,.slice none 0 0,.slice none 0 0]) (m:=7) hS84 K71 K27 K87 rfl (mpc rfl mpn) rfl rfl rfl (by kernel_rfl) (by kernel_rfl) rfl) ?_
       rintro _ w_48 ⟨b8,rfl,hS85⟩
       have hm13:∀ r∈(([(((B20,c20),(B21,c21),(B22,c22),(B23,c23),(B24,c24)),r_8)]:List ((Hd×Hd×Hd×Hd×Hd)×TrouteNode)).flatMap eN7),r∈((R28::R27::R26::R24::R25::R23::R22::R21::R20::R19::R17::R18::R16::R14::R15::R12::R11::R13::((D2.flatMap eN7)++[])):List Ro):=(fsub_cons (sk 3 (sk 4 (sk 2 (sk 1 (sk 0 (fun _ h=>by cases h)))))) fsub_nil)
       have ho25:Org w0 [] [R12,R11,R13] (([(((B20,c20),(B21,c21),(B22,c22),(B23,c23),(B24,c24)),r_8)]:List ((Hd×Hd×Hd×Hd×Hd)×TrouteNode)).flatMap eN7):=(forg_cons (org_cons (org_sub ho21 (sk 0 (fun _ h=>by cases h))) (org_cons (org_sub ho21 (sk 1 (fun _ h=>by cases h))) (org_cons ho22 (org_cons ho23 (org_cons ho24 org_nil))))) forg_nil)
       have hdc12:∀ p_∈([(((B20,c20),(B21,c21),(B22,c22),(B23,c23),(B24,c24)),r_8)]:List ((Hd×Hd×Hd×Hd×Hd)×TrouteNode)),capD_routeNode p_:=fun p_ hp_=>by rw [List.mem_singleton.1 hp_]; exact ⟨hq5,hq6,hcap6,hcap7,hcap8⟩
       have hS86:ST w0 [] _ [O2,O4,⟨(aD g2),.mp (mpE vK_routeKey Value.bool (mput seen1 r_10 true)),[],0⟩,⟨B18,89,(D2.flatMap encD_routeNode),c18*7⟩,O0,O8,O3,⟨aD b8,89,(([(((B20,c20),(B21,c21),(B22,c22),(B23,c23),(B24,c24)),r_8)]:List ((Hd×Hd×Hd×Hd×Hd)×TrouteNode)).flatMap encD_routeNode),1*7⟩] (R28::R27::R26::R24::R25::R23::R22::R21::R20::R19::R17::R18::R16::R14::R15::R12::R11::R13::((([(((B20,c20),(B21,c21),(B22,c22),(B23,c23),(B24,c24)),r_8)]:List ((Hd×Hd×Hd×Hd×Hd)×TrouteNode)).flatMap eN7)++((D2.flatMap eN7)++[]))):=ST.subR hS85 (sk 0 (sk 1 (sk 2 (sk 3 (sk 4 (sk 5 (sk 6 (sk 7 (sk 8 (sk 9 (sk 10 (sk 11 (sk 12 (sk 13 (sk 14 (sk 15 (sk 16 (sk 17 (suba hm13 (suba (fun r_ (h:r_∈((D2.flatMap eN7):List Ro))=>mOd (i:=18) (show r_∈((((D2.flatMap eN7)++[])):List Ro) from mAl _ h)) (fun _ h=>by cases h)))))))))))))))))))))
       obtain ⟨hap,hF9⟩:=chk_inv hF9
       refine sS 82 (Ys_append (s:=7) (by':=136) (i:=3) (nn:=queue1.length) (c:=c18) (k:=1) (len:=(queue1++([r_8]:List TrouteNode)).length) (B:=B18) (xs:=(([(((B20,c20),(B21,c21),(B22,c22),(B23,c23),(B24,c24)),r_8)]:List ((Hd×Hd×Hd×Hd×Hd)×TrouteNode)).flatMap encD_routeNode)) (cs':=((D2++([(((B20,c20),(B21,c21),(B22,c22),(B23,c23),(B24,c24)),r_8)]:List ((Hd×Hd×Hd×Hd×Hd)×TrouteNode))).flatMap encD_routeNode)) hS86 K71 K27 k_by_89_136 K42 rfl (by decide) rfl rfl rfl rfl (fm_lenn (l:=D2) encD_routeNode_len (dl_len hD2)) rfl (hS86.c 7) (fm_lenn (l:=([(((B20,c20),(B21,c21),(B22,c22),(B23,c23),(B24,c24)),r_8)]:List ((Hd×Hd×Hd×Hd×Hd)×TrouteNode))) encD_routeNode_len rfl) (fm_one' (enc:=encD_routeNode) encD_routeNode_one ([(((B20,c20),(B21,c21),(B22,c22),(B23,c23),(B24,c24)),r_8)]:List ((Hd×Hd×Hd×Hd×Hd)×TrouteNode))) (by have:=hap; omega) (by have:=hap; simp only [maxLen]; omega) (fm_app _ _) (dl_sum (dl_len hD2) rfl (dl_app hD2 (show List.map Prod.snd ([(((B20,c20),(B21,c21),(B22,c22),(B23,c23),(B24,c24)),r_8)]:List ((Hd×Hd×Hd×Hd×Hd)×TrouteNode))=([r_8]:List TrouteNode) from rfl)))) ?_
       rintro _ w_49 ⟨B25,c25,rfl,hS87⟩
       have ho26:Org w0 [] [R12,R11,R13] ((D2++([(((B20,c20),(B21,c21),(B22,c22),(B23,c23),(B24,c24)),r_8)]:List ((Hd×Hd×Hd×Hd×Hd)×TrouteNode))).flatMap eN7):=(forg_app ho18 ho25)
       have hdc13:∀ p_∈(D2++([(((B20,c20),(B21,c21),(B22,c22),(B23,c23),(B24,c24)),r_8)]:List ((Hd×Hd×Hd×Hd×Hd)×TrouteNode))),capD_routeNode p_:=fun p_ hp_=>(List.mem_append.1 hp_).elim (fun h=>hdc10 p_ h) (fun h=>hdc12 p_ h)
       have hS88:ST w0 [] _ [O2,O4,⟨(aD g2),.mp (mpE vK_routeKey Value.bool (mput seen1 r_10 true)),[],0⟩,⟨B25,89,((D2++([(((B20,c20),(B21,c21),(B22,c22),(B23,c23),(B24,c24)),r_8)]:List ((Hd×Hd×Hd×Hd×Hd)×TrouteNode))).flatMap encD_routeNode),c25*7⟩,O0,O8,⟨aD b7,89,[vi r_8.work.g.Nodes,.slice B20 r_8.work.g.Edges.length c20,vi r_8.work.c.Qubits,.slice B21 r_8.work.c.Gates.length c21,.slice B22 r_8.work.place.length c22,.slice B23 r_8.work.done.length c23,.slice B24 r_8.steps.length c24],7⟩,⟨aD b8,89,(([(((B20,c20),(B21,c21),(B22,c22),(B23,c23),(B24,c24)),r_8)]:List ((Hd×Hd×Hd×Hd×Hd)×TrouteNode)).flatMap encD_routeNode),1*7⟩] (⟨B24,(r_8.steps.flatMap eN0)⟩::⟨B23,(r_8.work.done.flatMap encB)⟩::⟨B22,(r_8.work.place.flatMap encI)⟩::⟨B20,(r_8.work.g.Edges.flatMap eN1)⟩::⟨B21,(r_8.work.c.Gates.flatMap eN2)⟩::R23::R22::R21::R20::R19::R17::R18::R16::R14::R15::R12::R11::R13::(((D2++([(((B20,c20),(B21,c21),(B22,c22),(B23,c23),(B24,c24)),r_8)]:List ((Hd×Hd×Hd×Hd×Hd)×TrouteNode))).flatMap eN7)++((([(((B20,c20),(B21,c21),(B22,c22),(B23,c23),(B24,c24)),r_8)]:List ((Hd×Hd×Hd×Hd×Hd)×TrouteNode)).flatMap eN7)++[]))):=ST.subR hS87 (sk 0 (sk 1 (sk 2 (sk 3 (sk 4 (sk 5 (sk 6 (sk 7 (sk 8 (sk 9 (sk 10 (sk 11 (sk 12 (sk 13 (sk 14 (sk 15 (sk 16 (sk 17 (suba (fsub_app (fun r_ (h:r_∈((D2.flatMap eN7):List Ro))=>mOd (i:=18) (show r_∈((((([(((B20,c20),(B21,c21),(B22,c22),(B23,c23),(B24,c24)),r_8)]:List ((Hd×Hd×Hd×Hd×Hd)×TrouteNode)).flatMap eN7)++((D2.flatMap eN7)++[]))):List Ro) from mAr _ (mAl _ h))) (fun r_ (h:r_∈((([(((B20,c20),(B21,c21),(B22,c22),(B23,c23),(B24,c24)),r_8)]:List ((Hd×Hd×Hd×Hd×Hd)×TrouteNode)).flatMap eN7):List Ro))=>mOd (i:=18) (show r_∈((((([(((B20,c20),(B21,c21),(B22,c22),(B23,c23),(B24,c24)),r_8)]:List ((Hd×Hd×Hd×Hd×Hd)×TrouteNode)).flatMap eN7)++((D2.flatMap eN7)++[]))):List Ro) from mAl _ h))) (suba (fun r_ (h:r_∈((([(((B20,c20),(B21,c21),(B22,c22),(B23,c23),(B24,c24)),r_8)]:List ((Hd×Hd×Hd×Hd×Hd)×TrouteNode)).flatMap eN7):List Ro))=>mOd (i:=18) (show r_∈((((([(((B20,c20),(B21,c21),(B22,c22),(B23,c23),(B24,c24)),r_8)]:List ((Hd×Hd×Hd×Hd×Hd)×TrouteNode)).flatMap eN7)++((D2.flatMap eN7)++[]))):List Ro) from mAl _ h)) (fun _ h=>by cases h)))))))))))))))))))))
       refine sQ 10 (yg (.slice B25 ((queue1++([r_8]:List TrouteNode)).length) c25)) (rn ?_)
       have hS89:ST w0 [] _ [O2,O4,⟨(aD g2),.mp (mpE vK_routeKey Value.bool (mput seen1 r_10 true)),[],0⟩,⟨B25,89,((D2++([(((B20,c20),(B21,c21),(B22,c22),(B23,c23),(B24,c24)),r_8)]:List ((Hd×Hd×Hd×Hd×Hd)×TrouteNode))).flatMap encD_routeNode),c25*7⟩,O0,O8,⟨aD b7,89,[vi r_8.work.g.Nodes,.slice B20 r_8.work.g.Edges.length c20,vi r_8.work.c.Qubits,.slice B21 r_8.work.c.Gates.length c21,.slice B22 r_8.work.place.length c22,.slice B23 r_8.work.done.length c23,.slice B24 r_8.steps.length c24],7⟩,⟨aD b8,89,(([(((B20,c20),(B21,c21),(B22,c22),(B23,c23),(B24,c24)),r_8)]:List ((Hd×Hd×Hd×Hd×Hd)×TrouteNode)).flatMap encD_routeNode),1*7⟩] (R23::R22::R21::R20::R19::R17::R18::R16::R14::R15::R12::R11::R13::(((D2++([(((B20,c20),(B21,c21),(B22,c22),(B23,c23),(B24,c24)),r_8)]:List ((Hd×Hd×Hd×Hd×Hd)×TrouteNode))).flatMap eN7)++[])):=ST.subR hS88 (sk 5 (sk 6 (sk 7 (sk 8 (sk 9 (sk 10 (sk 11 (sk 12 (sk 13 (sk 14 (sk 15 (sk 16 (sk 17 (suba (fun r_ (h:r_∈(((D2++([(((B20,c20),(B21,c21),(B22,c22),(B23,c23),(B24,c24)),r_8)]:List ((Hd×Hd×Hd×Hd×Hd)×TrouteNode))).flatMap eN7):List Ro))=>mOd (i:=18) (show r_∈(((((D2++([(((B20,c20),(B21,c21),(B22,c22),(B23,c23),(B24,c24)),r_8)]:List ((Hd×Hd×Hd×Hd×Hd)×TrouteNode))).flatMap eN7)++((([(((B20,c20),(B21,c21),(B22,c22),(B23,c23),(B24,c24)),r_8)]:List ((Hd×Hd×Hd×Hd×Hd)×TrouteNode)).flatMap eN7)++[]))):List Ro) from mAl _ h)) (fun _ h=>by cases h)))))))))))))))
       exact ⟨(mput seen1 r_10 true),(queue1++([r_8]:List TrouteNode)),B25,c25,(D2++([(((B20,c20),(B21,c21),(B22,c22),(B23,c23),(B24,c24)),r_8)]:List ((Hd×Hd×Hd×Hd×Hd)×TrouteNode))),(sI hF9),(hf2.a 2 0 (hf2.a 3 1 (hf2.a 6 2 (hf2.a 9 3 (fc rfl (hf2.a 11 5 (hf2.a 12 6 (hf2.a 62 7 (hf2.a 63 8 (hf2.a 64 9 fn_)))))))))),(dl_app hD2 (show List.map Prod.snd ([(((B20,c20),(B21,c21),(B22,c22),(B23,c23),(B24,c24)),r_8)]:List ((Hd×Hd×Hd×Hd×Hd)×TrouteNode))=([r_8]:List TrouteNode) from rfl)),hdc13,ho26,(hS89.sel [0,1,2,3,4] rfl rfl)⟩
      ·skip
       have hF10:=cf' hz2 hb5
       refine cw_skip ?_
       have hS90:ST w0 [] _ [O2,O4,⟨(aD g2),.mp (mpE vK_routeKey Value.bool seen1),[],0⟩,O6,O0,O8,⟨B22,3,(r_8.work.place.flatMap encI),c22*1⟩,O10,O9,⟨aD b7,89,[vi r_8.work.g.Nodes,.slice B20 r_8.work.g.Edges.length c20,vi r_8.work.c.Qubits,.slice B21 r_8.work.c.Gates.length c21,.slice B22 r_8.work.place.length c22,.slice B23 r_8.work.done.length c23,.slice B24 r_8.steps.length c24],7⟩] (R23::R22::R21::R20::R19::R17::R18::R16::R14::R15::R12::R11::R13::((D2.flatMap eN7)++[])):=hS79.sR 15 [2,3,4,5,6,7,8,9,10,11,12,13,14]
       exact ⟨seen1,queue1,B18,c18,D2,(sI hF10),(hf2.a 2 0 (hf2.a 3 1 (hf2.a 6 2 (hf2.a 9 3 (hf2.a 10 4 (hf2.a 11 5 (hf2.a 12 6 (hf2.a 62 7 (hf2.a 63 8 (hf2.a 64 9 fn_)))))))))),hD2,hdc10,ho18,(hS90.sel [0,1,2,3,4] rfl rfl)⟩
     rintro f w ⟨seen2,queue2,B19,c19,D3,rfl,hf3,hD3,hdc11,ho19,hS72⟩
     refine cr ?_
     refine sQ 83 (yP (i1:Int) 1 rfl (hf3.g 64 9))<|sQ 64 (ym (vi (i64.wrap ((i1:Int)+1)))) (rn ?_)
     obtain rfl:=sI hF8
     exact ⟨K18,Nat.lt_succ_self _,i1+1,seen2,queue2,B19,c19,D3,(hf3.a 2 0 (hf3.a 3 1 (hf3.a 6 2 (hf3.a 9 3 (hf3.a 10 4 (hf3.a 11 5 (hf3.a 12 6 (hf3.a 62 7 (hf3.a 63 8 (fc (congrArg (Value.int .i64) (wr_succ hlt1 hN)) fn_)))))))))),hD3,hdc11,ho19,(hS72.sel [0,1,2,3,4] rfl rfl),(by omega),hL3⟩
    ·skip
     obtain rfl:K10=0:=by have h:=of_decide_eq_false hlt; omega
     refine cw_exit rfl ?_
     obtain rfl:=sI hL2
     refine cr ?_
     refine sQ 45 (ym (vi at_1) rfl (hf2.g 11 5))<|sQ 46 (yP at_1 1)<|sQ 11 (yg (vi (i64.wrap (at_1+1)))) (rn ?_)
     obtain rfl:=sI hF7
     have hS91:ST w0 [] _ [O2,O4,⟨(aD g2),.mp (mpE vK_routeKey Value.bool seen1),[],0⟩,⟨B18,89,(D2.flatMap encD_routeNode),c18*7⟩,O0] (R17::R18::R16::R14::R15::R12::R11::R13::((D2.flatMap eN7)++[])):=hS71.sR 13 [5,6,7,8,9,10,11,12]
     exact ⟨K4,Nat.lt_succ_self _,seen1,queue1,(i64.wrap (at_1+1)),B18,c18,D2,(hf2.a 2 0 (hf2.a 3 1 (hf2.a 6 2 (hf2.a 9 3 (hf2.a 10 4 (fc rfl fn_)))))),hD2,hdc10,ho18,(hS91.sel [0,1,2,3] rfl rfl),hL1⟩
  ·skip
   have hF11:=cf' hb1 hb2
   refine cw_exit rfl ?_
   obtain rfl:=sI hF11
   obtain rfl:=sI hL1
   refine cq (cr ?_)
   refine sQ 84 (Y_buildS (zs:=[.slice none 0 0,.slice none 0 0]) (vs:=[]) (cs:=[.slice none 0 0,.slice none 0 0]) K70 K35 rfl mpn rfl) ?_
   refine s0 (yT 1 2 (aD b2) 36 (.agg #[.slice none 0 0,.slice none 0 0]) [.slice none 0 0,.slice none 0 0] 0 hS58 K13 rfl (hf1.g 6 2)) ?_
   rintro _ w_50 ⟨rfl,hS92⟩
   refine sQ 7 (yg (.bool false)) (rn (ct_ ?_))
   have hS93:=hS92.addNil 3
   have hS94:ST w0 [] _ [O2,O4,⟨(aD g2),.mp (mpE vK_routeKey Value.bool seen),[],0⟩,⟨B11,89,(D1.flatMap encD_routeNode),c11*7⟩,⟨none,3,([].flatMap encI),0*1⟩] (⟨none,([].flatMap eN0)⟩::R17::R18::R16::R14::R15::R12::R11::R13::((D1.flatMap eN7)++[])):=ST.nilRo hS93
   obtain ⟨rfl,rfl⟩:=pr2 (sI hF3)
   exact ret2 Try.results21 (v1:=.agg #[.slice none 0 0,.slice none 0 0]) (resAt_cellA (B:=aD b2) (i:=0) (cs:=[.slice none 0 0,.slice none 0 0]) (vs:=[.slice none 0 0,.slice none 0 0]) (hf1.g 6 2) K32 K13 (hS94.c 1) rfl rfl) (v2:=.bool false) (resAt_tmp rfl) ⟨none,0,none,0,rfl,(len_le rfl (Nat.le_refl 0)),(org_cons org_none org_nil),((hS94.sel [4] rfl rfl).sT [0])⟩

theorem c_impl_small (holds:Bool)  (w0:World)  (hS:ST w0 [] w0 [] []) {r_:Int} (hF:F_impl_small holds=some r_) :
  CV Try.prog 52 #[.bool holds] w0 (fun v w'=>v=vi r_∧ST w0 [] w' [] []):=by
 unfold F_impl_small at hF
 refine cv_of_cw 4 Try.func52 rfl Try.ntmps52 rfl ?_
 refine cq (cr ?_)
 refine sQ 2 (yg (vi 0)) (rn (cq (cq (cr ?_))))
 refine sQ 3 (ym (.bool holds)) (rn ?_)
 refine cw_cond (b:=holds) rfl (fun hb=>?_) (fun hb=>?_)
 ·skip
  have hF1:=ct hF hb
  refine cq (cr ?_)
  refine sQ 2 (yg (vi 1)) (rn (ct_ ?_))
  obtain rfl:=sI hF1
  exact ret1 Try.results52 (v1:=vi 1) (resAt_tmp rfl) ⟨rfl,(hS.sN [])⟩
 ·skip
  have hF2:=cf' hF hb
  refine cw_skip (cq (cr ?_))
  refine sQ 2 (yg (vi 0)) (rn (ct_ ?_))
  obtain rfl:=sI hF2
  exact ret1 Try.results52 (v1:=vi 0) (resAt_tmp rfl) ⟨rfl,(hS.sN [])⟩

theorem c_impl_swapsIn (r_:TRoute) (B:Option Addr) (c n:Nat) (B1:Option Addr) (c1 n1:Nat) (w0:World) (hn:r_.Start.length=n) (hn1:r_.Steps.length=n1) (hS:ST w0 [] w0 [] [⟨B,(r_.Start.flatMap encI)⟩,⟨B1,(r_.Steps.flatMap eN0)⟩]) {r_1:Int} (hF:F_impl_swapsIn r_=some r_1) :
  CV Try.prog 22 #[.agg #[.slice B n c,.slice B1 n1 c1]] w0 (fun v w'=>v=vi r_1∧ST w0 [] w' [] []):=by
 subst hn
 subst hn1
 unfold F_impl_swapsIn at hF
 refine cv_of_cw 21 Try.func22 rfl Try.ntmps22 rfl ?_
 refine cq (cr ?_)
 let V0:List Value:=[.slice B r_.Start.length c,.slice B1 r_.Steps.length c1]
 refine sS 1 (yB 36 (.agg V0.toArray) V0 2 hS) ?_
 rintro _ w_ ⟨b,rfl,hS1⟩
 refine sQ 2 (yg (vi 0)) (rn (cq (cr ?_)))
 refine sQ 3 (yg (vi 0)) (rn (cq (cq (cr ?_))))
 refine sQ 6 (yd (aD b) 0 0 K29 K15)<|sQ 7 (yl (aD b) 1 V0 (.slice B1 r_.Steps.length c1) K31 (hS1.c 0))<|sQ 8 (Y_len (B:=B1) (m:=r_.Steps.length) (c:=c1) K9 rfl rfl)<|sQ 9 (ym (vi 0)) (rn ?_)
 obtain ⟨hN,hF⟩:=chk_inv hF
 obtain ⟨z,hz,hF1⟩:=bI hF
 refine cw_block ?_
 refine cw_loop (fun k f w=>∃ (i:Nat) (count:Int),FF f [(3,vi count),(7,.slice B1 r_.Steps.length c1),(8,vi (r_.Steps.length:Int)),(9,vi (i:Int))]∧ST w0 [] w [] [⟨B,(r_.Start.flatMap encI)⟩,⟨B1,(r_.Steps.flatMap eN0)⟩]∧i+k=r_.Steps.length∧forN (F_impl_swapsIn_l1 r_) k i count=some z) r_.Steps.length ⟨0,0,(fc rfl (fc rfl (fc rfl (fc rfl fn_)))),(hS1.sel [] rfl rfl),Nat.zero_add _,hz⟩ ?_
 rintro k_ f w ⟨i,count,hf,hS2,hik,hL⟩
 refine cq (cr ?_)
 refine sQ 10 (yL (i:Int) (r_.Steps.length:Int) rfl (hf.g 9 3) (hf.g 8 2)) (rn (cq ?_))
 refine cw_cond (b:=(decide ((i:Int)<(r_.Steps.length:Int)))) rfl (fun hlt=>?_) (fun hlt=>?_)
 ·skip
  have hlt1:i<r_.Steps.length:=by have h:=of_decide_eq_true hlt; omega
  obtain ⟨K4,rfl⟩:∃ k2,k_=k2+1:=⟨k_-1,by omega⟩
  obtain ⟨y,hb,hL1⟩:=forN_go hL
  unfold F_impl_swapsIn_l1 at hb
  refine cw_skip (cq (cw_block (cq (cr ?_))))
  obtain ⟨x,hx,hb⟩:=bI hb
  let V1:List Value:=[vi x.Gate,vi x.A,vi x.B]
  refine sQ 11 (Y_index (B:=B1) (m:=r_.Steps.length) (c:=c1) (k:=.i64) (i:=(i:Int)) K9 K8 rfl (hf.g 7 1) (hf.g 9 3) (gi_isSome eN8 rfl (hS2.rf (i:=1) rfl) hx) (getI_nn hx) (getI_ltI hx rfl))<|sQ 12 (ya B1 ((i:Int).toNat*3) (r_.Steps.flatMap eN0) V1 K88 K8 (hS2.rf (i:=1) rfl) rfl rfl (eN8 x) (gi_seg eN8 hx)) ?_
  refine sS 5 (yN [vi 0,vi 0,vi 0] 3 hS2 K23) ?_
  rintro _ w_1 ⟨b1,rfl,hS3⟩
  refine s0 (yT 0 3 (aD b1) 60 (.agg V1.toArray) V1 0 hS3 K8) ?_
  rintro _ w_2 ⟨rfl,hS4⟩
  refine rn (cr ?_)
  refine sQ 13 (ym (vi count) rfl (hf.g 3 0))<|sQ 14 (yd (aD b1) 0 0 K76 K0)<|sQ 15 (yl (aD b1) 0 V1 (vi x.Gate) K1 (hS4.c 0))<|sQ 16 (yE x.Gate (-1)) ?_
  obtain ⟨r_2,hc,hb⟩:=bI hb
  refine sc 17 rfl rfl (yC [.bool (x.Gate==(-1))] k_call_52 (c_impl_small (x.Gate==(-1)) _  (hS4.inn0 [] rfl) hc)) ?_
  rintro _ w_3 ⟨rfl,hd⟩
  have hS5:=hS4.out00 hd
  refine sQ 18 (yP count r_2)<|sQ 3 (yg (vi (i64.wrap (count+r_2)))) (rn (cr ?_))
  refine sQ 19 (yP (i:Int) 1 rfl (hf.g 9 3))<|sQ 9 (ym (vi (i64.wrap ((i:Int)+1)))) (rn ?_)
  obtain rfl:=sI hb
  exact ⟨K4,Nat.lt_succ_self _,i+1,(i64.wrap (count+r_2)),(fc rfl (hf.a 7 1 (hf.a 8 2 (fc (congrArg (Value.int .i64) (wr_succ hlt1 hN)) fn_)))),(hS5.sel [] rfl rfl),(by omega),hL1⟩
 ·skip
  obtain rfl:k_=0:=by have h:=of_decide_eq_false hlt; omega
  refine cw_exit rfl ?_
  obtain rfl:=sI hL
  refine cq (cr ?_)
  refine sQ 20 (ym (vi count) rfl (hf.g 3 0))<|sQ 2 (yg (vi count)) (rn (ct_ ?_))
  obtain rfl:=sI hF1
  exact ret1 Try.results22 (v1:=vi count) (resAt_tmp rfl) ⟨rfl,(hS2.sN [])⟩

theorem c_impl_LeastSwaps (g:TCouplingGraph) (c1:TCircuit) (start:List Int) (B:Option Addr) (c n:Nat) (B1:Option Addr) (c2 n1:Nat) (B2:Option Addr) (c3 n2:Nat) (w0:World) (hn:g.Edges.length=n) (hq:n≤c) (hn1:c1.Gates.length=n1) (hq1:n1≤c2) (hn2:start.length=n2) (hq2:n2≤c3) (hS:ST w0 [] w0 [] [⟨B,(g.Edges.flatMap eN1)⟩,⟨B1,(c1.Gates.flatMap eN2)⟩,⟨B2,(start.flatMap encI)⟩]) {r_:Int} {r_1:Bool} (hF:F_impl_LeastSwaps g c1 start=some (r_,r_1)) :
  CV Try.prog 5 #[.agg #[vi g.Nodes,.slice B n c],.agg #[vi c1.Qubits,.slice B1 n1 c2],.slice B2 n2 c3] w0 (fun v w'=>v=.tuple #[vi r_,.bool r_1]∧ST w0 [] w' [] []):=by
 subst hn
 subst hn1
 subst hn2
 unfold F_impl_LeastSwaps at hF
 refine cv_of_cw 20 Try.func5 rfl Try.ntmps5 rfl ?_
 refine cq (cr ?_)
 let V2:List Value:=[vi g.Nodes,.slice B g.Edges.length c]
 refine sS 3 (yB 25 (.agg V2.toArray) V2 2 hS) ?_
 rintro _ w_ ⟨b,rfl,hS1⟩
 let V1:List Value:=[vi c1.Qubits,.slice B1 c1.Gates.length c2]
 refine sS 4 (yB 28 (.agg V1.toArray) V1 2 hS1) ?_
 rintro _ w_1 ⟨b1,rfl,hS2⟩
 refine sQ 6 (yg (vi 0))<|sQ 7 (yg (.bool false)) (rn (cq (cr ?_)))
 refine sQ 11 (yb (aD b) 0 V2 K5 K3 (hS2.c 0))<|sQ 12 (yb (aD b1) 0 V1 K14 K7 (hS2.c 1))<|sQ 13 (ym (.slice B2 start.length c3)) ?_
 obtain ⟨⟨r_2,r_3⟩,hc,hF⟩:=bI hF
 refine sc 14 rfl rfl (yC [.agg V2.toArray,.agg V1.toArray,.slice B2 start.length c3] k_call_21 (c_impl_leastRoute g c1 start B c g.Edges.length B1 c2 c1.Gates.length B2 c3 start.length _ rfl hq rfl hq1 rfl hq2 (hS2.inn0 [(true,0),(true,1),(true,2)] rfl) hc)) ?_
 rintro _ w_2 ⟨B3,c4,B4,c5,rfl,hq3,ho,hd⟩
 have hS3:=ST.outR0 hS2 hd ho (sk 0 (sk 1 (sk 2 (fun _ h=>by cases h))))
 have ho1:Org w0 [] [⟨B,(g.Edges.flatMap eN1)⟩,⟨B1,(c1.Gates.flatMap eN2)⟩,⟨B2,(start.flatMap encI)⟩] [⟨B4,(r_2.Steps.flatMap eN0)⟩]:=org_trans0 hS2 ho (org_cons (org_mem (i:=0) rfl) (org_cons (org_mem (i:=1) rfl) (org_cons (org_mem (i:=2) rfl) org_nil)))
 have hS4:ST w0 [] _ [⟨aD b,25,V2,2⟩,⟨aD b1,28,V1,2⟩,⟨B3,3,(r_2.Start.flatMap encI),c4*1⟩] [⟨B4,(r_2.Steps.flatMap eN0)⟩,⟨B,(g.Edges.flatMap eN1)⟩,⟨B1,(c1.Gates.flatMap eN2)⟩,⟨B2,(start.flatMap encI)⟩]:=hS3
 let V0:List Value:=[.slice B3 r_2.Start.length c4,.slice B4 r_2.Steps.length c5]
 refine sQ 10 (ym (.tuple #[.agg V0.toArray,.bool r_3]))<|sQ 15 (ye (.agg V0.toArray))<|sQ 16 (ye (.bool r_3)) ?_
 refine sS 8 (yN [.slice none 0 0,.slice none 0 0] 2 hS4 K35) ?_
 rintro _ w_3 ⟨b2,rfl,hS5⟩
 refine s0 (yT 3 2 (aD b2) 36 (.agg V0.toArray) V0 0 hS5 K13) ?_
 rintro _ w_4 ⟨rfl,hS6⟩
 refine sQ 9 (yg (.bool r_3)) (rn (cq (cr ?_)))
 refine sQ 17 (yb (aD b2) 0 V0 K32 K13 (hS6.c 3)) ?_
 obtain ⟨r_4,hc1,hF⟩:=bI hF
 refine sc 18 rfl rfl (yC [.agg V0.toArray] k_call_22 (c_impl_swapsIn r_2 B3 c4 r_2.Start.length B4 c5 r_2.Steps.length _ rfl rfl (hS6.inn0 [(false,2),(true,0)] rfl) hc1)) ?_
 rintro _ w_5 ⟨rfl,hd1⟩
 have hS7:=hS6.out00 hd1
 refine sQ 19 (ym (.bool r_3))<|sQ 6 (yg (vi r_4))<|sQ 7 (yg (.bool r_3)) (rn (ct_ ?_))
 obtain ⟨rfl,rfl⟩:=pr2 (sI hF)
 exact ret2 Try.results5 (v1:=vi r_4) (resAt_tmp rfl) (v2:=.bool r_3) (resAt_tmp rfl) ⟨rfl,(hS7.sN [])⟩

theorem c_spec_l22Valid (g:TCouplingGraph) (B:Option Addr) (c n:Nat) (w0:World) (hn:g.Edges.length=n) (hS:ST w0 [] w0 [] [⟨B,(g.Edges.flatMap eN1)⟩]) {r_:Bool} (hF:F_spec_l22Valid g=some r_) :
  CV Try.prog 61 #[.agg #[vi g.Nodes,.slice B n c]] w0 (fun v w'=>v=.bool r_∧ST w0 [] w' [] []):=by
 subst hn
 unfold F_spec_l22Valid at hF
 refine cv_of_cw 71 Try.func61 rfl Try.ntmps61 rfl ?_
 refine cq (cr ?_)
 let V0:List Value:=[vi g.Nodes,.slice B g.Edges.length c]
 refine sS 1 (yB 25 (.agg V0.toArray) V0 2 hS) ?_
 rintro _ w_ ⟨b,rfl,hS1⟩
 refine sQ 2 (yg (.bool false)) (rn (cq (cq (cr ?_))))
 refine sQ 5 (yd (aD b) 0 0 K45 K39)<|sQ 6 (yl (aD b) 1 V0 (.slice B g.Edges.length c) K59 (hS1.c 0))<|sQ 7 (Y_len (B:=B) (m:=g.Edges.length) (c:=c) K26 rfl rfl)<|sQ 8 (ym (vi 0)) (rn ?_)
 obtain ⟨hN,hF⟩:=chk_inv hF
 obtain ⟨z,hz,hF1⟩:=bI hF
 refine cw_block ?_
 refine cw_loop (fun k f w=>∃ (i:Nat),FF f [(1,pt (aD b) 0),(6,.slice B g.Edges.length c),(7,vi (g.Edges.length:Int)),(8,vi (i:Int))]∧ST w0 [] w [⟨aD b,25,V0,2⟩] [⟨B,(g.Edges.flatMap eN1)⟩]∧i+k=g.Edges.length∧forX (F_spec_l22Valid_l1 g) k i ()=some z) g.Edges.length ⟨0,(fc rfl (fc rfl (fc rfl (fc rfl fn_)))),(hS1.sel [0] rfl rfl),Nat.zero_add _,hz⟩ ?_
 rintro k_ f w ⟨i,hf,hS2,hik,hL⟩
 refine cq (cr ?_)
 refine sQ 9 (yL (i:Int) (g.Edges.length:Int) rfl (hf.g 8 3) (hf.g 7 2)) (rn (cq ?_))
 refine cw_cond (b:=(decide ((i:Int)<(g.Edges.length:Int)))) rfl (fun hlt=>?_) (fun hlt=>?_)
 ·skip
  have hlt1:i<g.Edges.length:=by have h:=of_decide_eq_true hlt; omega
  obtain ⟨K4,rfl⟩:∃ k2,k_=k2+1:=⟨k_-1,by omega⟩
  obtain ⟨y,hb,hL1⟩:=forX_go hL
  unfold F_spec_l22Valid_l1 at hb
  refine cw_skip (cq (cw_block (cq (cr ?_))))
  refine sQ 10 (ym (vi (i:Int)) rfl (hf.g 8 3)) ?_
  obtain ⟨x,hx,hb⟩:=bI hb
  refine sQ 11 (Y_index (B:=B) (m:=g.Edges.length) (c:=c) (k:=.i64) (i:=(i:Int)) K26 K20 rfl (hf.g 6 1) (hf.g 8 3) (gi_isSome enc_Edge_len rfl (hS2.rf (i:=0) rfl) hx) (getI_nn hx) (getI_ltI hx rfl))<|sQ 12 (ya B ((i:Int).toNat*2) (g.Edges.flatMap eN1) [vi x.A,vi x.B] K81 K20 (hS2.rf (i:=0) rfl) rfl rfl (enc_Edge_len x) (gi_seg enc_Edge_len hx)) ?_
  refine sS 4 (yN [vi 0,vi 0] 2 hS2 K46) ?_
  rintro _ w_1 ⟨b1,rfl,hS3⟩
  refine sQ 3 (yg (vi (i:Int))) ?_
  refine s0 (yT 1 2 (aD b1) 87 (.agg #[vi x.A,vi x.B]) [vi x.A,vi x.B] 0 hS3 K20) ?_
  rintro _ w_2 ⟨rfl,hS4⟩
  refine rn (cq (cq (cr ?_)))
  refine sQ 13 (yd (aD b1) 0 0 K55 K0)<|sQ 14 (yl (aD b1) 0 [vi x.A,vi x.B] (vi x.A) K1 (hS4.c 1))<|sQ 15 (yd (aD b1) 0 0 K63 K0)<|sQ 16 (yl (aD b1) 1 [vi x.A,vi x.B] (vi x.B) K1 (hS4.c 1))<|sQ 17 (yM x.B 1) ?_
  obtain ⟨r_1,hc,hb⟩:=bI hb
  refine sc 18 rfl rfl (yC [vi x.A,vi 0,vi (i64.wrap (x.B-1))] K61 (c_spec_l1In x.A 0 (i64.wrap (x.B-1)) _  (hS4.inn0 [] rfl) hc)) ?_
  rintro _ w_3 ⟨rfl,hd⟩
  have hS5:=hS4.out00 hd
  refine sQ 19 (Y_not (p:=r_1) rfl rfl)<|sQ 20 (ym (.bool (!r_1))) ?_
  refine sgq 21 (B:=(!(!r_1))) (v:=pt (aD b1) 1) rfl rfl (uF_ 20) (fun hg=>(yd (aD b1) 0 0 K63 K0)) ?_
  refine sgq 22 (B:=(!(!r_1))) rfl rfl (uF_ 20) (fun hg1=>(yl (aD b1) 1 [vi x.A,vi x.B] (vi x.B) K1 (hS5.c 1) rfl (gv_of (v:=pt (aD b1) 1) hg1))) ?_
  refine sgq 23 (B:=(!(!r_1))) (v:=pt (aD b) 0) rfl rfl (uF_ 20) (fun hg2=>(yd (aD b) 0 0 K49 K0 rfl (hf.g 1 0))) ?_
  refine sgq 24 (B:=(!(!r_1))) rfl rfl (uF_ 20) (fun hg3=>(yl (aD b) 0 V0 (vi g.Nodes) K1 (hS5.c 0) rfl (gv_of (v:=pt (aD b) 0) hg3))) ?_
  refine sgq 25 (B:=(!(!r_1))) rfl rfl (uF_ 20) (fun hg4=>(yM g.Nodes 1 rfl (gv_of (v:=vi g.Nodes) hg4))) ?_
  obtain ⟨r_2,hc1,hb⟩:=bI hb
  refine sgc 26 (B:=(!(!r_1))) (v:=.bool r_2) (F:=hS5.fn) rfl rfl (uF_ 20) hS5 (fun hg5=>(yC [vi x.B,vi 0,vi (i64.wrap (g.Nodes-1))] K61 (CV.mono (c_spec_l1In x.B 0 (i64.wrap (g.Nodes-1)) _  (hS5.inn0 [] rfl) (gb_inv hc1 hg5)) (by rintro _ _ ⟨rfl,h⟩; exact ⟨rfl,hS5.out00 h⟩)) rfl (mc (gv_of (v:=vi x.B) hg5) (mc rfl (mc (gv_of (v:=vi (i64.wrap (g.Nodes-1))) hg5) mn))))) ?_
  rintro w_4 hS6
  refine sgq 27 (B:=(!(!r_1))) (v:=.bool (!r_2)) rfl rfl (uF_ 20) (fun hg6=>(Y_not (p:=r_2) rfl (gv_of (v:=.bool r_2) hg6))) ?_
  refine sQ 28 (Y_or (b:=(!r_1)) (z:=(!r_2)) rfl rfl rfl rfl) (rn ?_)
  refine cw_cond (b:=((!r_1)||(!r_2))) rfl (fun hb1=>?_) (fun hb1=>?_)
  ·skip
   have hF2:=ct hb hb1
   refine cq (cr ?_)
   refine sQ 2 (yg (.bool false)) (rn (ct_ ?_))
   obtain rfl:=sI hF2
   obtain rfl:=sI hL1
   obtain rfl:=sI hF1
   exact ret1 Try.results61 (v1:=.bool false) (resAt_tmp rfl) ⟨rfl,(hS6.sN [])⟩
  ·skip
   have hF3:=cf' hb hb1
   refine cw_skip (cq ?_)
   obtain ⟨x1,hx1,hF3⟩:=bI hF3
   obtain ⟨x2,hx2,hF3⟩:=bI hF3
   obtain ⟨x3,hx3,hF3⟩:=bI hF3
   refine ra_start (hS6.se [0,1]).fn (by kernel_rfl) ?_
   have hS7:=hS6.drew
   refine rq 0 29 rfl (hS7.se [0,1]) (fun w' hw'=>(ym (vi (i:Int)))) ?_
   refine rq 1 30 rfl (hS7.se [0,1]) (fun w' hw'=>(Y_gt (k:=.i64) (a:=(i:Int)) (b:=0) rfl rfl rfl)) ?_
   refine rq 2 31 rfl (hS7.se [0,1]) (fun w' hw'=>(ym (.bool (decide (0<(i:Int)))))) ?_
   refine rG 3 32 (B:=(decide (0<(i:Int)))) (v:=pt (aD b) 1) rfl rfl rfl (uT_ 31) (hS7.se [0,1]) (fun hg7 w' hw'=>(yd (aD b) 0 0 K45 K39 rfl (hf.g 1 0))) ?_
   refine rG 4 33 (B:=(decide (0<(i:Int)))) rfl rfl rfl (uT_ 31) (hS7.se [0,1]) (fun hg8 w' hw'=>(yl (aD b) 1 V0 (.slice B g.Edges.length c) K59 (ST.cf hw' (i:=0) rfl) rfl (gv_of (v:=pt (aD b) 1) hg8))) ?_
   refine rG 5 34 (B:=(decide (0<(i:Int)))) rfl rfl rfl (uT_ 31) (hS7.se [0,1]) (fun hg9 w' hw'=>(ym (vi (i:Int)))) ?_
   refine rG 6 35 (B:=(decide (0<(i:Int)))) rfl rfl rfl (uT_ 31) (hS7.se [0,1]) (fun hg10 w' hw'=>(yM (i:Int) 1 rfl (gv_of (v:=vi (i:Int)) hg10))) ?_
   refine rG 7 36 (B:=(decide (0<(i:Int)))) (v:=pt B ((i64.wrap ((i:Int)-1)).toNat*2)) rfl rfl rfl (uT_ 31) (hS7.se [0,1]) (fun hg11 w' hw'=>(Y_index (B:=B) (m:=g.Edges.length) (c:=c) (k:=.i64) (i:=(i64.wrap ((i:Int)-1))) K26 K20 rfl (gv_of (v:=.slice B g.Edges.length c) hg11) (gv_of (v:=vi (i64.wrap ((i:Int)-1))) hg11) (gi_isSome enc_Edge_len rfl (ST.rf hw' (i:=0) rfl) (gb_inv hx1 hg11)) (getI_nn (gb_inv hx1 hg11)) (getI_ltI (gb_inv hx1 hg11) rfl))) ?_
   refine rG 8 37 (B:=(decide (0<(i:Int)))) (v:=pt B ((i64.wrap ((i:Int)-1)).toNat*2+0)) rfl rfl rfl (uT_ 31) (hS7.se [0,1]) (fun hg12 w' hw'=>(yd B ((i64.wrap ((i:Int)-1)).toNat*2) 0 K55 K0 rfl (gv_of (v:=pt B ((i64.wrap ((i:Int)-1)).toNat*2)) hg12))) ?_
   refine rG 9 38 (B:=(decide (0<(i:Int)))) rfl rfl rfl (uT_ 31) (hS7.se [0,1]) (fun hg13 w' hw'=>(yl B ((i64.wrap ((i:Int)-1)).toNat*2+0) (g.Edges.flatMap eN1) (vi x1.A) K1 (ST.rf hw' (i:=0) rfl) rfl (gv_of (v:=pt B ((i64.wrap ((i:Int)-1)).toNat*2+0)) hg13) (gi_at enc_Edge_len (gb_inv hx1 hg13) rfl))) ?_
   refine rG 10 39 (B:=(decide (0<(i:Int)))) (v:=pt (aD b1) 0) rfl rfl rfl (uT_ 31) (hS7.se [0,1]) (fun hg14 w' hw'=>(yd (aD b1) 0 0 K55 K0)) ?_
   refine rG 11 40 (B:=(decide (0<(i:Int)))) rfl rfl rfl (uT_ 31) (hS7.se [0,1]) (fun hg15 w' hw'=>(yl (aD b1) 0 [vi x.A,vi x.B] (vi x.A) K1 (ST.cf hw' (i:=1) rfl) rfl (gv_of (v:=pt (aD b1) 0) hg15))) ?_
   refine rG 12 41 (B:=(decide (0<(i:Int)))) rfl rfl rfl (uT_ 31) (hS7.se [0,1]) (fun hg16 w' hw'=>(Y_gt (k:=.i64) (a:=x1.A) (b:=x.A) rfl (gv_of (v:=vi x1.A) hg16) (gv_of (v:=vi x.A) hg16))) ?_
   refine rG 13 42 (B:=(decide (0<(i:Int)))) rfl rfl rfl (uT_ 31) (hS7.se [0,1]) (fun hg17 w' hw'=>(ym (.bool (decide (x.A<x1.A))) rfl (gv_of (v:=.bool (decide (x.A<x1.A))) hg17))) ?_
   refine rG 14 43 (B:=((decide (0<(i:Int)))&&(!(decide (x.A<x1.A))))) (v:=pt (aD b) 1) rfl rfl rfl (wt_gf (gd_of (t:=42) (by kernel_rfl) rfl)) (hS7.se [0,1]) (fun hg18 w' hw'=>(yd (aD b) 0 0 K45 K39 rfl (hf.g 1 0))) ?_
   refine rG 15 44 (B:=((decide (0<(i:Int)))&&(!(decide (x.A<x1.A))))) rfl rfl rfl (wt_gf (gd_of (t:=42) (by kernel_rfl) rfl)) (hS7.se [0,1]) (fun hg19 w' hw'=>(yl (aD b) 1 V0 (.slice B g.Edges.length c) K59 (ST.cf hw' (i:=0) rfl) rfl (gv_of (v:=pt (aD b) 1) hg19))) ?_
   refine rG 16 45 (B:=((decide (0<(i:Int)))&&(!(decide (x.A<x1.A))))) rfl rfl rfl (wt_gf (gd_of (t:=42) (by kernel_rfl) rfl)) (hS7.se [0,1]) (fun hg20 w' hw'=>(ym (vi (i:Int)))) ?_
   refine rG 17 46 (B:=((decide (0<(i:Int)))&&(!(decide (x.A<x1.A))))) rfl rfl rfl (wt_gf (gd_of (t:=42) (by kernel_rfl) rfl)) (hS7.se [0,1]) (fun hg21 w' hw'=>(yM (i:Int) 1 rfl (gv_of (v:=vi (i:Int)) hg21))) ?_
   refine rG 18 47 (B:=((decide (0<(i:Int)))&&(!(decide (x.A<x1.A))))) (v:=pt B ((i64.wrap ((i:Int)-1)).toNat*2)) rfl rfl rfl (wt_gf (gd_of (t:=42) (by kernel_rfl) rfl)) (hS7.se [0,1]) (fun hg22 w' hw'=>(Y_index (B:=B) (m:=g.Edges.length) (c:=c) (k:=.i64) (i:=(i64.wrap ((i:Int)-1))) K26 K20 rfl (gv_of (v:=.slice B g.Edges.length c) hg22) (gv_of (v:=vi (i64.wrap ((i:Int)-1))) hg22) (gi_isSome enc_Edge_len rfl (ST.rf hw' (i:=0) rfl) (gb_inv hx2 hg22)) (getI_nn (gb_inv hx2 hg22)) (getI_ltI (gb_inv hx2 hg22) rfl))) ?_
   refine rG 19 48 (B:=((decide (0<(i:Int)))&&(!(decide (x.A<x1.A))))) (v:=pt B ((i64.wrap ((i:Int)-1)).toNat*2+0)) rfl rfl rfl (wt_gf (gd_of (t:=42) (by kernel_rfl) rfl)) (hS7.se [0,1]) (fun hg23 w' hw'=>(yd B ((i64.wrap ((i:Int)-1)).toNat*2) 0 K55 K0 rfl (gv_of (v:=pt B ((i64.wrap ((i:Int)-1)).toNat*2)) hg23))) ?_
   refine rG 20 49 (B:=((decide (0<(i:Int)))&&(!(decide (x.A<x1.A))))) rfl rfl rfl (wt_gf (gd_of (t:=42) (by kernel_rfl) rfl)) (hS7.se [0,1]) (fun hg24 w' hw'=>(yl B ((i64.wrap ((i:Int)-1)).toNat*2+0) (g.Edges.flatMap eN1) (vi x2.A) K1 (ST.rf hw' (i:=0) rfl) rfl (gv_of (v:=pt B ((i64.wrap ((i:Int)-1)).toNat*2+0)) hg24) (gi_at enc_Edge_len (gb_inv hx2 hg24) rfl))) ?_
   refine rG 21 50 (B:=((decide (0<(i:Int)))&&(!(decide (x.A<x1.A))))) (v:=pt (aD b1) 0) rfl rfl rfl (wt_gf (gd_of (t:=42) (by kernel_rfl) rfl)) (hS7.se [0,1]) (fun hg25 w' hw'=>(yd (aD b1) 0 0 K55 K0)) ?_
   refine rG 22 51 (B:=((decide (0<(i:Int)))&&(!(decide (x.A<x1.A))))) rfl rfl rfl (wt_gf (gd_of (t:=42) (by kernel_rfl) rfl)) (hS7.se [0,1]) (fun hg26 w' hw'=>(yl (aD b1) 0 [vi x.A,vi x.B] (vi x.A) K1 (ST.cf hw' (i:=1) rfl) rfl (gv_of (v:=pt (aD b1) 0) hg26))) ?_
   refine rG 23 52 (B:=((decide (0<(i:Int)))&&(!(decide (x.A<x1.A))))) rfl rfl rfl (wt_gf (gd_of (t:=42) (by kernel_rfl) rfl)) (hS7.se [0,1]) (fun hg27 w' hw'=>(yE x2.A x.A rfl (gv_of (v:=vi x2.A) hg27) (gv_of (v:=vi x.A) hg27))) ?_
   refine rG 24 53 (B:=((decide (0<(i:Int)))&&(!(decide (x.A<x1.A))))) rfl rfl rfl (wt_gf (gd_of (t:=42) (by kernel_rfl) rfl)) (hS7.se [0,1]) (fun hg28 w' hw'=>(ym (.bool (x2.A==x.A)) rfl (gv_of (v:=.bool (x2.A==x.A)) hg28))) ?_
   refine rG 25 54 (B:=(((decide (0<(i:Int)))&&(!(decide (x.A<x1.A))))&&(x2.A==x.A))) (v:=pt (aD b) 1) rfl rfl rfl (wt_gt (gd_of (t:=53) (by kernel_rfl) rfl)) (hS7.se [0,1]) (fun hg29 w' hw'=>(yd (aD b) 0 0 K45 K39 rfl (hf.g 1 0))) ?_
   refine rG 26 55 (B:=(((decide (0<(i:Int)))&&(!(decide (x.A<x1.A))))&&(x2.A==x.A))) rfl rfl rfl (wt_gt (gd_of (t:=53) (by kernel_rfl) rfl)) (hS7.se [0,1]) (fun hg30 w' hw'=>(yl (aD b) 1 V0 (.slice B g.Edges.length c) K59 (ST.cf hw' (i:=0) rfl) rfl (gv_of (v:=pt (aD b) 1) hg30))) ?_
   refine rG 27 56 (B:=(((decide (0<(i:Int)))&&(!(decide (x.A<x1.A))))&&(x2.A==x.A))) rfl rfl rfl (wt_gt (gd_of (t:=53) (by kernel_rfl) rfl)) (hS7.se [0,1]) (fun hg31 w' hw'=>(ym (vi (i:Int)))) ?_
   refine rG 28 57 (B:=(((decide (0<(i:Int)))&&(!(decide (x.A<x1.A))))&&(x2.A==x.A))) rfl rfl rfl (wt_gt (gd_of (t:=53) (by kernel_rfl) rfl)) (hS7.se [0,1]) (fun hg32 w' hw'=>(yM (i:Int) 1 rfl (gv_of (v:=vi (i:Int)) hg32))) ?_
   refine rG 29 58 (B:=(((decide (0<(i:Int)))&&(!(decide (x.A<x1.A))))&&(x2.A==x.A))) (v:=pt B ((i64.wrap ((i:Int)-1)).toNat*2)) rfl rfl rfl (wt_gt (gd_of (t:=53) (by kernel_rfl) rfl)) (hS7.se [0,1]) (fun hg33 w' hw'=>(Y_index (B:=B) (m:=g.Edges.length) (c:=c) (k:=.i64) (i:=(i64.wrap ((i:Int)-1))) K26 K20 rfl (gv_of (v:=.slice B g.Edges.length c) hg33) (gv_of (v:=vi (i64.wrap ((i:Int)-1))) hg33) (gi_isSome enc_Edge_len rfl (ST.rf hw' (i:=0) rfl) (gb_inv hx3 hg33)) (getI_nn (gb_inv hx3 hg33)) (getI_ltI (gb_inv hx3 hg33) rfl))) ?_
   refine rG 30 59 (B:=(((decide (0<(i:Int)))&&(!(decide (x.A<x1.A))))&&(x2.A==x.A))) (v:=pt B ((i64.wrap ((i:Int)-1)).toNat*2+1)) rfl rfl rfl (wt_gt (gd_of (t:=53) (by kernel_rfl) rfl)) (hS7.se [0,1]) (fun hg34 w' hw'=>(yd B ((i64.wrap ((i:Int)-1)).toNat*2) 0 K63 K0 rfl (gv_of (v:=pt B ((i64.wrap ((i:Int)-1)).toNat*2)) hg34))) ?_
   refine rG 31 60 (B:=(((decide (0<(i:Int)))&&(!(decide (x.A<x1.A))))&&(x2.A==x.A))) rfl rfl rfl (wt_gt (gd_of (t:=53) (by kernel_rfl) rfl)) (hS7.se [0,1]) (fun hg35 w' hw'=>(yl B ((i64.wrap ((i:Int)-1)).toNat*2+1) (g.Edges.flatMap eN1) (vi x3.B) K1 (ST.rf hw' (i:=0) rfl) rfl (gv_of (v:=pt B ((i64.wrap ((i:Int)-1)).toNat*2+1)) hg35) (gi_at enc_Edge_len (gb_inv hx3 hg35) rfl))) ?_
   refine rG 32 61 (B:=(((decide (0<(i:Int)))&&(!(decide (x.A<x1.A))))&&(x2.A==x.A))) (v:=pt (aD b1) 1) rfl rfl rfl (wt_gt (gd_of (t:=53) (by kernel_rfl) rfl)) (hS7.se [0,1]) (fun hg36 w' hw'=>(yd (aD b1) 0 0 K63 K0)) ?_
   refine rG 33 62 (B:=(((decide (0<(i:Int)))&&(!(decide (x.A<x1.A))))&&(x2.A==x.A))) rfl rfl rfl (wt_gt (gd_of (t:=53) (by kernel_rfl) rfl)) (hS7.se [0,1]) (fun hg37 w' hw'=>(yl (aD b1) 1 [vi x.A,vi x.B] (vi x.B) K1 (ST.cf hw' (i:=1) rfl) rfl (gv_of (v:=pt (aD b1) 1) hg37))) ?_
   refine rG 34 63 (B:=(((decide (0<(i:Int)))&&(!(decide (x.A<x1.A))))&&(x2.A==x.A))) rfl rfl rfl (wt_gt (gd_of (t:=53) (by kernel_rfl) rfl)) (hS7.se [0,1]) (fun hg38 w' hw'=>(Y_ge (k:=.i64) (a:=x3.B) (b:=x.B) rfl (gv_of (v:=vi x3.B) hg38) (gv_of (v:=vi x.B) hg38))) ?_
   refine rG 35 64 (B:=((decide (0<(i:Int)))&&(!(decide (x.A<x1.A))))) (v:=.bool ((x2.A==x.A)&&(decide (x.B≤x3.B)))) rfl rfl rfl (wt_gf (gd_of (t:=42) (by kernel_rfl) rfl)) (hS7.se [0,1]) (fun hg39 w' hw'=>(Y_and (b:=(x2.A==x.A)) (z:=(decide (x.B≤x3.B))) rfl (gv_of (v:=.bool (x2.A==x.A)) hg39) (gv_and (B:=((decide (0<(i:Int)))&&(!(decide (x.A<x1.A))))) (C:=(x2.A==x.A)) (v:=.bool (decide (x.B≤x3.B))) hg39) rfl)) ?_
   refine rG 36 65 (B:=(decide (0<(i:Int)))) (v:=.bool ((decide (x.A<x1.A))||((x2.A==x.A)&&(decide (x.B≤x3.B))))) rfl rfl rfl (uT_ 31) (hS7.se [0,1]) (fun hg40 w' hw'=>(Y_or (b:=(decide (x.A<x1.A))) (z:=((x2.A==x.A)&&(decide (x.B≤x3.B)))) rfl (gv_of (v:=.bool (decide (x.A<x1.A))) hg40) rfl (gv_and (B:=(decide (0<(i:Int)))) (C:=(!(decide (x.A<x1.A)))) (v:=.bool ((x2.A==x.A)&&(decide (x.B≤x3.B)))) hg40))) ?_
   refine rq 37 66 (v:=.bool ((decide (0<(i:Int)))&&((decide (x.A<x1.A))||((x2.A==x.A)&&(decide (x.B≤x3.B)))))) rfl (hS7.se [0,1]) (fun w' hw'=>(Y_and (b:=(decide (0<(i:Int)))) (z:=((decide (x.A<x1.A))||((x2.A==x.A)&&(decide (x.B≤x3.B))))) rfl rfl rfl rfl)) ?_
   refine ra_done (by kernel_rfl) ?_
   refine cw_cond (b:=((decide (0<(i:Int)))&&((decide (x.A<x1.A))||((x2.A==x.A)&&(decide (x.B≤x3.B)))))) rfl (fun hb2=>?_) (fun hb2=>?_)
   ·skip
    have hF4:=ct hF3 hb2
    refine cq (cr ?_)
    refine sQ 2 (yg (.bool false)) (rn (ct_ ?_))
    obtain rfl:=sI hF4
    obtain rfl:=sI hL1
    obtain rfl:=sI hF1
    exact ret1 Try.results61 (v1:=.bool false) (resAt_tmp rfl) ⟨rfl,(hS7.sN [])⟩
   ·skip
    have hF5:=cf' hF3 hb2
    refine cw_skip (cr ?_)
    refine sQ 67 (yP (i:Int) 1 rfl (hf.g 8 3))<|sQ 8 (ym (vi (i64.wrap ((i:Int)+1)))) (rn ?_)
    obtain rfl:=sI hF5
    exact ⟨K4,Nat.lt_succ_self _,i+1,(hf.a 1 0 (hf.a 6 1 (hf.a 7 2 (fc (congrArg (Value.int .i64) (wr_succ hlt1 hN)) fn_)))),(hS7.sel [0] rfl rfl),(by omega),hL1⟩
 ·skip
  obtain rfl:k_=0:=by have h:=of_decide_eq_false hlt; omega
  refine cw_exit rfl ?_
  obtain rfl:=sI hL
  refine cq (cr ?_)
  refine sQ 68 (yd (aD b) 0 0 K49 K0 rfl (hf.g 1 0))<|sQ 69 (yl (aD b) 0 V0 (vi g.Nodes) K1 (hS2.c 0)) ?_
  obtain ⟨r_3,hc2,hF1⟩:=bI hF1
  refine sc 70 rfl rfl (yC [vi g.Nodes,vi 1,vi 8] K61 (c_spec_l1In g.Nodes 1 8 _  (hS2.inn0 [] rfl) hc2)) ?_
  rintro _ w_5 ⟨rfl,hd1⟩
  have hS8:=hS2.out00 hd1
  refine sQ 2 (yg (.bool r_3)) (rn (ct_ ?_))
  obtain rfl:=sI hF1
  exact ret1 Try.results61 (v1:=.bool r_3) (resAt_tmp rfl) ⟨rfl,(hS8.sN [])⟩

theorem c_spec_l4Gate (n:Int) (g:TGate)  (w0:World)  (hS:ST w0 [] w0 [] []) {r_:Bool} (hF:F_spec_l4Gate n g=some r_) :
  CV Try.prog 87 #[vi n,.agg #[vi g.Kind,vi g.A,vi g.B]] w0 (fun v w'=>v=.bool r_∧ST w0 [] w' [] []):=by
 unfold F_spec_l4Gate at hF
 refine cv_of_cw 55 Try.func87 rfl Try.ntmps87 rfl ?_
 refine cq (cr ?_)
 let V0:List Value:=[vi g.Kind,vi g.A,vi g.B]
 refine sS 3 (yB 56 (.agg V0.toArray) V0 3 hS) ?_
 rintro _ w_ ⟨b,rfl,hS1⟩
 refine sQ 4 (yg (.bool false)) (rn (cq (cw_block (cq (cr ?_)))))
 refine sQ 6 (yd (aD b) 0 0 K51 K0)<|sQ 7 (yl (aD b) 0 V0 (vi g.Kind) K1 (hS1.c 0)) ?_
 obtain ⟨r_1,hc,hF⟩:=bI hF
 refine sc 8 rfl rfl (yC [vi g.Kind,vi 1,vi 8] K61 (c_spec_l1In g.Kind 1 8 _  (hS1.inn0 [] rfl) hc)) ?_
 rintro _ w_1 ⟨rfl,hd⟩
 have hS2:=hS1.out00 hd
 refine sQ 5 (yg (.bool r_1)) (rn ?_)
 refine cw_cond (b:=r_1) rfl (fun hb=>?_) (fun hb=>?_)
 ·skip
  have hF1:=ct hF hb
  refine cq (cr ?_)
  refine sQ 9 (yd (aD b) 0 0 K44 K0)<|sQ 10 (yl (aD b) 1 V0 (vi g.A) K1 (hS2.c 0))<|sQ 11 (ym (vi n))<|sQ 12 (yM n 1) ?_
  obtain ⟨r_2,hc1,hF1⟩:=bI hF1
  refine sc 13 rfl rfl (yC [vi g.A,vi 0,vi (i64.wrap (n-1))] K61 (c_spec_l1In g.A 0 (i64.wrap (n-1)) _  (hS2.inn0 [] rfl) hc1)) ?_
  rintro _ w_2 ⟨rfl,hd1⟩
  have hS3:=hS2.out00 hd1
  refine sQ 14 (ym (.bool r_2)) ?_
  refine sgq 15 (B:=r_2) (v:=pt (aD b) 2) rfl rfl (uT_ 14) (fun hg=>(yd (aD b) 0 0 K52 K0)) ?_
  refine sgq 16 (B:=r_2) rfl rfl (uT_ 14) (fun hg1=>(yl (aD b) 2 V0 (vi g.B) K1 (hS3.c 0) rfl (gv_of (v:=pt (aD b) 2) hg1))) ?_
  refine sgq 17 (B:=r_2) rfl rfl (uT_ 14) (fun hg2=>(yE g.B 0 rfl (gv_of (v:=vi g.B) hg2))) ?_
  refine sQ 18 (Y_and (b:=r_2) (z:=(g.B==0)) rfl rfl rfl rfl)<|sQ 4 (yg (.bool (r_2&&(g.B==0)))) (rn (ct_ ?_))
  obtain rfl:=sI hF1
  exact ret1 Try.results87 (v1:=.bool (r_2&&(g.B==0))) (resAt_tmp rfl) ⟨rfl,(hS3.sN [])⟩
 ·skip
  have hF2:=cf' hF hb
  refine cq (cr ?_)
  refine sQ 20 (yd (aD b) 0 0 K51 K0)<|sQ 21 (yl (aD b) 0 V0 (vi g.Kind) K1 (hS2.c 0)) ?_
  obtain ⟨r_3,hc2,hF2⟩:=bI hF2
  refine sc 22 rfl rfl (yC [vi g.Kind,vi 9,vi 11] K61 (c_spec_l1In g.Kind 9 11 _  (hS2.inn0 [] rfl) hc2)) ?_
  rintro _ w_3 ⟨rfl,hd2⟩
  have hS4:=hS2.out00 hd2
  refine sQ 19 (yg (.bool r_3)) (rn ?_)
  refine cw_cond (b:=r_3) rfl (fun hb1=>?_) (fun hb1=>?_)
  ·skip
   have hF3:=ct hF2 hb1
   refine cq (cr ?_)
   refine sQ 23 (yd (aD b) 0 0 K44 K0)<|sQ 24 (yl (aD b) 1 V0 (vi g.A) K1 (hS4.c 0))<|sQ 25 (ym (vi n))<|sQ 26 (yM n 1) ?_
   obtain ⟨r_4,hc3,hF3⟩:=bI hF3
   refine sc 27 rfl rfl (yC [vi g.A,vi 0,vi (i64.wrap (n-1))] K61 (c_spec_l1In g.A 0 (i64.wrap (n-1)) _  (hS4.inn0 [] rfl) hc3)) ?_
   rintro _ w_4 ⟨rfl,hd3⟩
   have hS5:=hS4.out00 hd3
   refine sQ 28 (ym (.bool r_4)) ?_
   refine sgq 29 (B:=r_4) (v:=pt (aD b) 2) rfl rfl (uT_ 28) (fun hg3=>(yd (aD b) 0 0 K52 K0)) ?_
   refine sgq 30 (B:=r_4) rfl rfl (uT_ 28) (fun hg4=>(yl (aD b) 2 V0 (vi g.B) K1 (hS5.c 0) rfl (gv_of (v:=pt (aD b) 2) hg4))) ?_
   refine sgq 31 (B:=r_4) rfl rfl (uT_ 28) (fun hg5=>(ym (vi n))) ?_
   refine sgq 32 (B:=r_4) rfl rfl (uT_ 28) (fun hg6=>(yM n 1 rfl (gv_of (v:=vi n) hg6))) ?_
   obtain ⟨r_5,hc4,hF3⟩:=bI hF3
   refine sgc 33 (B:=r_4) (v:=.bool r_5) (F:=hS5.fn) rfl rfl (uT_ 28) hS5 (fun hg7=>(yC [vi g.B,vi 0,vi (i64.wrap (n-1))] K61 (CV.mono (c_spec_l1In g.B 0 (i64.wrap (n-1)) _  (hS5.inn0 [] rfl) (gb_inv hc4 hg7)) (by rintro _ _ ⟨rfl,h⟩; exact ⟨rfl,hS5.out00 h⟩)) rfl (mc (gv_of (v:=vi g.B) hg7) (mc rfl (mc (gv_of (v:=vi (i64.wrap (n-1))) hg7) mn))))) ?_
   rintro w_5 hS6
   refine sQ 34 (Y_and (b:=r_4) (z:=r_5) rfl rfl rfl rfl)<|sQ 35 (ym (.bool (r_4&&r_5))) ?_
   refine sgq 36 (B:=(r_4&&r_5)) (v:=pt (aD b) 1) rfl rfl (uT_ 35) (fun hg8=>(yd (aD b) 0 0 K44 K0)) ?_
   refine sgq 37 (B:=(r_4&&r_5)) rfl rfl (uT_ 35) (fun hg9=>(yl (aD b) 1 V0 (vi g.A) K1 (hS6.c 0) rfl (gv_of (v:=pt (aD b) 1) hg9))) ?_
   refine sgq 38 (B:=(r_4&&r_5)) (v:=pt (aD b) 2) rfl rfl (uT_ 35) (fun hg10=>(yd (aD b) 0 0 K52 K0)) ?_
   refine sgq 39 (B:=(r_4&&r_5)) rfl rfl (uT_ 35) (fun hg11=>(yl (aD b) 2 V0 (vi g.B) K1 (hS6.c 0) rfl (gv_of (v:=pt (aD b) 2) hg11))) ?_
   refine sgq 40 (B:=(r_4&&r_5)) rfl rfl (uT_ 35) (fun hg12=>(Y_ne (k:=.i64) (a:=g.A) (b:=g.B) rfl (gv_of (v:=vi g.A) hg12) (gv_of (v:=vi g.B) hg12))) ?_
   refine sQ 41 (Y_and (b:=(r_4&&r_5)) (z:=(g.A != g.B)) rfl rfl rfl rfl)<|sQ 4 (yg (.bool ((r_4&&r_5)&&(g.A != g.B)))) (rn (ct_ ?_))
   obtain rfl:=sI hF3
   exact ret1 Try.results87 (v1:=.bool ((r_4&&r_5)&&(g.A != g.B))) (resAt_tmp rfl) ⟨rfl,(hS6.sN [])⟩
  ·skip
   have hF4:=cf' hF2 hb1
   refine cw_skip (cq (cr ?_))
   refine sQ 42 (yd (aD b) 0 0 K51 K0)<|sQ 43 (yl (aD b) 0 V0 (vi g.Kind) K1 (hS4.c 0))<|sQ 44 (yE g.Kind 12)<|sQ 45 (ym (.bool (g.Kind==12))) ?_
   refine sgq 46 (B:=(g.Kind==12)) (v:=pt (aD b) 1) rfl rfl (uT_ 45) (fun hg13=>(yd (aD b) 0 0 K44 K0)) ?_
   refine sgq 47 (B:=(g.Kind==12)) rfl rfl (uT_ 45) (fun hg14=>(yl (aD b) 1 V0 (vi g.A) K1 (hS4.c 0) rfl (gv_of (v:=pt (aD b) 1) hg14))) ?_
   refine sgq 48 (B:=(g.Kind==12)) rfl rfl (uT_ 45) (fun hg15=>(yE g.A 0 rfl (gv_of (v:=vi g.A) hg15))) ?_
   refine sQ 49 (Y_and (b:=(g.Kind==12)) (z:=(g.A==0)) rfl rfl rfl rfl)<|sQ 50 (ym (.bool ((g.Kind==12)&&(g.A==0)))) ?_
   refine sgq 51 (B:=((g.Kind==12)&&(g.A==0))) (v:=pt (aD b) 2) rfl rfl (uT_ 50) (fun hg16=>(yd (aD b) 0 0 K52 K0)) ?_
   refine sgq 52 (B:=((g.Kind==12)&&(g.A==0))) rfl rfl (uT_ 50) (fun hg17=>(yl (aD b) 2 V0 (vi g.B) K1 (hS4.c 0) rfl (gv_of (v:=pt (aD b) 2) hg17))) ?_
   refine sgq 53 (B:=((g.Kind==12)&&(g.A==0))) rfl rfl (uT_ 50) (fun hg18=>(yE g.B 0 rfl (gv_of (v:=vi g.B) hg18))) ?_
   refine sQ 54 (Y_and (b:=((g.Kind==12)&&(g.A==0))) (z:=(g.B==0)) rfl rfl rfl rfl)<|sQ 4 (yg (.bool (((g.Kind==12)&&(g.A==0))&&(g.B==0)))) (rn (ct_ ?_))
   obtain rfl:=sI hF4
   exact ret1 Try.results87 (v1:=.bool (((g.Kind==12)&&(g.A==0))&&(g.B==0))) (resAt_tmp rfl) ⟨rfl,(hS4.sN [])⟩

theorem c_spec_l4Good (c:TCircuit) (B:Option Addr) (c1 n:Nat) (w0:World) (hn:c.Gates.length=n) (hS:ST w0 [] w0 [] [⟨B,(c.Gates.flatMap eN2)⟩]) {r_:Bool} (hF:F_spec_l4Good c=some r_) :
  CV Try.prog 62 #[.agg #[vi c.Qubits,.slice B n c1]] w0 (fun v w'=>v=.bool r_∧ST w0 [] w' [] []):=by
 subst hn
 unfold F_spec_l4Good at hF
 refine cv_of_cw 28 Try.func62 rfl Try.ntmps62 rfl ?_
 refine cq (cr ?_)
 let V0:List Value:=[vi c.Qubits,.slice B c.Gates.length c1]
 refine sS 1 (yB 28 (.agg V0.toArray) V0 2 hS) ?_
 rintro _ w_ ⟨b,rfl,hS1⟩
 refine sQ 2 (yg (.bool false)) (rn (cq (cq (cr ?_))))
 refine sQ 5 (yd (aD b) 0 0 K60 K0)<|sQ 6 (yl (aD b) 0 V0 (vi c.Qubits) K1 (hS1.c 0)) ?_
 obtain ⟨r_1,hc,hF⟩:=bI hF
 refine sc 7 rfl rfl (yC [vi c.Qubits,vi 1,vi 5] K61 (c_spec_l1In c.Qubits 1 5 _  (hS1.inn0 [] rfl) hc)) ?_
 rintro _ w_1 ⟨rfl,hd⟩
 have hS2:=hS1.out00 hd
 refine sQ 8 (Y_not (p:=r_1) rfl rfl)<|sQ 9 (ym (.bool (!r_1))) ?_
 refine sgq 10 (B:=(!(!r_1))) (v:=pt (aD b) 1) rfl rfl (uF_ 9) (fun hg=>(yd (aD b) 0 0 K19 K16)) ?_
 refine sgq 11 (B:=(!(!r_1))) rfl rfl (uF_ 9) (fun hg1=>(yl (aD b) 1 V0 (.slice B c.Gates.length c1) K21 (hS2.c 0) rfl (gv_of (v:=pt (aD b) 1) hg1))) ?_
 refine sgq 12 (B:=(!(!r_1))) (v:=vi (c.Gates.length:Int)) rfl rfl (uF_ 9) (fun hg2=>(Y_len (B:=B) (m:=c.Gates.length) (c:=c1) K12 rfl (gv_of (v:=.slice B c.Gates.length c1) hg2))) ?_
 refine sgq 13 (B:=(!(!r_1))) rfl rfl (uF_ 9) (fun hg3=>(Y_gt (k:=.i64) (a:=(c.Gates.length:Int)) (b:=400) rfl (gv_of (v:=vi (c.Gates.length:Int)) hg3) rfl)) ?_
 refine sQ 14 (Y_or (b:=(!r_1)) (z:=(decide (400<(c.Gates.length:Int)))) rfl rfl rfl rfl) (rn ?_)
 refine cw_cond (b:=((!r_1)||(decide (400<(c.Gates.length:Int))))) rfl (fun hb=>?_) (fun hb=>?_)
 ·skip
  have hF1:=ct hF hb
  refine cq (cr ?_)
  refine sQ 2 (yg (.bool false)) (rn (ct_ ?_))
  obtain rfl:=sI hF1
  exact ret1 Try.results62 (v1:=.bool false) (resAt_tmp rfl) ⟨rfl,(hS2.sN [])⟩
 ·skip
  have hF2:=cf' hF hb
  refine cw_skip (cq (cq (cr ?_)))
  refine sQ 15 (yd (aD b) 0 0 K19 K16)<|sQ 16 (yl (aD b) 1 V0 (.slice B c.Gates.length c1) K21 (hS2.c 0))<|sQ 17 (Y_len (B:=B) (m:=c.Gates.length) (c:=c1) K12 rfl rfl)<|sQ 18 (ym (vi 0)) (rn ?_)
  obtain ⟨hN,hF2⟩:=chk_inv hF2
  obtain ⟨z,hz,hF3⟩:=bI hF2
  refine cw_block ?_
  refine cw_loop (fun k f w=>∃ (i:Nat),FF f [(1,pt (aD b) 0),(16,.slice B c.Gates.length c1),(17,vi (c.Gates.length:Int)),(18,vi (i:Int))]∧ST w0 [] w [⟨aD b,28,V0,2⟩] [⟨B,(c.Gates.flatMap eN2)⟩]∧i+k=c.Gates.length∧forX (F_spec_l4Good_l1 c) k i ()=some z) c.Gates.length ⟨0,(fc rfl (fc rfl (fc rfl (fc rfl fn_)))),(hS2.sel [0] rfl rfl),Nat.zero_add _,hz⟩ ?_
  rintro k_ f w ⟨i,hf,hS3,hik,hL⟩
  refine cq (cr ?_)
  refine sQ 19 (yL (i:Int) (c.Gates.length:Int) rfl (hf.g 18 3) (hf.g 17 2)) (rn (cq ?_))
  refine cw_cond (b:=(decide ((i:Int)<(c.Gates.length:Int)))) rfl (fun hlt=>?_) (fun hlt=>?_)
  ·skip
   have hlt1:i<c.Gates.length:=by have h:=of_decide_eq_true hlt; omega
   obtain ⟨K4,rfl⟩:∃ k2,k_=k2+1:=⟨k_-1,by omega⟩
   obtain ⟨y,hb1,hL1⟩:=forX_go hL
   unfold F_spec_l4Good_l1 at hb1
   refine cw_skip (cq (cw_block (cq (cr ?_))))
   obtain ⟨x,hx,hb1⟩:=bI hb1
   let V1:List Value:=[vi x.Kind,vi x.A,vi x.B]
   refine sQ 20 (Y_index (B:=B) (m:=c.Gates.length) (c:=c1) (k:=.i64) (i:=(i:Int)) K12 K6 rfl (hf.g 16 1) (hf.g 18 3) (gi_isSome eN9 rfl (hS3.rf (i:=0) rfl) hx) (getI_nn hx) (getI_ltI hx rfl))<|sQ 21 (ya B ((i:Int).toNat*3) (c.Gates.flatMap eN2) V1 K34 K6 (hS3.rf (i:=0) rfl) rfl rfl (eN9 x) (gi_seg eN9 hx)) ?_
   refine sS 4 (yN [vi 0,vi 0,vi 0] 3 hS3 K38) ?_
   rintro _ w_2 ⟨b1,rfl,hS4⟩
   refine s0 (yT 1 3 (aD b1) 56 (.agg V1.toArray) V1 0 hS4 K6) ?_
   rintro _ w_3 ⟨rfl,hS5⟩
   refine rn (cq (cr ?_))
   refine sQ 22 (yd (aD b) 0 0 K60 K0 rfl (hf.g 1 0))<|sQ 23 (yl (aD b) 0 V0 (vi c.Qubits) K1 (hS5.c 0))<|sQ 24 (yb (aD b1) 0 V1 K34 K6 (hS5.c 1)) ?_
   obtain ⟨r_2,hc1,hb1⟩:=bI hb1
   refine sc 25 rfl rfl (yC [vi c.Qubits,.agg V1.toArray] k_call_87 (c_spec_l4Gate c.Qubits x _  (hS5.inn0 [] rfl) hc1)) ?_
   rintro _ w_4 ⟨rfl,hd1⟩
   have hS6:=hS5.out00 hd1
   refine sQ 26 (Y_not (p:=r_2) rfl rfl) (rn ?_)
   refine cw_cond (b:=(!r_2)) rfl (fun hb2=>?_) (fun hb2=>?_)
   ·skip
    have hF4:=ct hb1 hb2
    refine cq (cr ?_)
    refine sQ 2 (yg (.bool false)) (rn (ct_ ?_))
    obtain rfl:=sI hF4
    obtain rfl:=sI hL1
    obtain rfl:=sI hF3
    exact ret1 Try.results62 (v1:=.bool false) (resAt_tmp rfl) ⟨rfl,(hS6.sN [])⟩
   ·skip
    have hF5:=cf' hb1 hb2
    refine cw_skip (cr ?_)
    refine sQ 27 (yP (i:Int) 1 rfl (hf.g 18 3))<|sQ 18 (ym (vi (i64.wrap ((i:Int)+1)))) (rn ?_)
    obtain rfl:=sI hF5
    exact ⟨K4,Nat.lt_succ_self _,i+1,(hf.a 1 0 (hf.a 16 1 (hf.a 17 2 (fc (congrArg (Value.int .i64) (wr_succ hlt1 hN)) fn_)))),(hS6.sel [0] rfl rfl),(by omega),hL1⟩
  ·skip
   obtain rfl:k_=0:=by have h:=of_decide_eq_false hlt; omega
   refine cw_exit rfl ?_
   obtain rfl:=sI hL
   refine cq (cr ?_)
   refine sQ 2 (yg (.bool true)) (rn (ct_ ?_))
   obtain rfl:=sI hF3
   exact ret1 Try.results62 (v1:=.bool true) (resAt_tmp rfl) ⟨rfl,(hS3.sN [])⟩

theorem c_spec_l23Fits (g:TCouplingGraph) (c1:TCircuit) (B:Option Addr) (c n:Nat) (B1:Option Addr) (c2 n1:Nat) (w0:World) (hn:g.Edges.length=n) (hn1:c1.Gates.length=n1) (hS:ST w0 [] w0 [] [⟨B,(g.Edges.flatMap eN1)⟩,⟨B1,(c1.Gates.flatMap eN2)⟩]) {r_:Bool} (hF:F_spec_l23Fits g c1=some r_) :
  CV Try.prog 28 #[.agg #[vi g.Nodes,.slice B n c],.agg #[vi c1.Qubits,.slice B1 n1 c2]] w0 (fun v w'=>v=.bool r_∧ST w0 [] w' [] []):=by
 subst hn
 subst hn1
 unfold F_spec_l23Fits at hF
 refine cv_of_cw 18 Try.func28 rfl Try.ntmps28 rfl ?_
 refine cq (cr ?_)
 let V1:List Value:=[vi g.Nodes,.slice B g.Edges.length c]
 refine sS 2 (yB 25 (.agg V1.toArray) V1 2 hS) ?_
 rintro _ w_ ⟨b,rfl,hS1⟩
 let V0:List Value:=[vi c1.Qubits,.slice B1 c1.Gates.length c2]
 refine sS 3 (yB 28 (.agg V0.toArray) V0 2 hS1) ?_
 rintro _ w_1 ⟨b1,rfl,hS2⟩
 refine sQ 4 (yg (.bool false)) (rn (cq (cr ?_)))
 refine sQ 5 (yb (aD b) 0 V1 K5 K3 (hS2.c 0)) ?_
 obtain ⟨r_1,hc,hF⟩:=bI hF
 refine sc 6 rfl rfl (yC [.agg V1.toArray] k_call_61 (c_spec_l22Valid g B c g.Edges.length _ rfl (hS2.inn0 [(true,0)] rfl) hc)) ?_
 rintro _ w_2 ⟨rfl,hd⟩
 have hS3:=hS2.out00 hd
 refine sQ 7 (ym (.bool r_1)) ?_
 refine sgq 8 (B:=r_1) (v:=.agg V0.toArray) rfl rfl (uT_ 7) (fun hg=>(yb (aD b1) 0 V0 K14 K7 (hS3.c 1))) ?_
 obtain ⟨r_2,hc1,hF⟩:=bI hF
 refine sgc 9 (B:=r_1) (v:=.bool r_2) (F:=hS3.fn) rfl rfl (uT_ 7) hS3 (fun hg1=>(yC [.agg V0.toArray] k_call_62 (CV.mono (c_spec_l4Good c1 B1 c2 c1.Gates.length _ rfl (hS3.inn0 [(true,1)] rfl) (gb_inv hc1 hg1)) (by rintro _ _ ⟨rfl,h⟩; exact ⟨rfl,hS3.out00 h⟩)) rfl (mc (gv_of (v:=.agg V0.toArray) hg1) mn))) ?_
 rintro w_3 hS4
 refine sQ 10 (Y_and (b:=r_1) (z:=r_2) rfl rfl rfl rfl)<|sQ 11 (ym (.bool (r_1&&r_2))) ?_
 refine sgq 12 (B:=(r_1&&r_2)) (v:=pt (aD b1) 0) rfl rfl (uT_ 11) (fun hg2=>(yd (aD b1) 0 0 K60 K0)) ?_
 refine sgq 13 (B:=(r_1&&r_2)) rfl rfl (uT_ 11) (fun hg3=>(yl (aD b1) 0 V0 (vi c1.Qubits) K1 (hS4.c 1) rfl (gv_of (v:=pt (aD b1) 0) hg3))) ?_
 refine sgq 14 (B:=(r_1&&r_2)) (v:=pt (aD b) 0) rfl rfl (uT_ 11) (fun hg4=>(yd (aD b) 0 0 K49 K0)) ?_
 refine sgq 15 (B:=(r_1&&r_2)) rfl rfl (uT_ 11) (fun hg5=>(yl (aD b) 0 V1 (vi g.Nodes) K1 (hS4.c 0) rfl (gv_of (v:=pt (aD b) 0) hg5))) ?_
 refine sgq 16 (B:=(r_1&&r_2)) rfl rfl (uT_ 11) (fun hg6=>(Y_le (k:=.i64) (a:=c1.Qubits) (b:=g.Nodes) rfl (gv_of (v:=vi c1.Qubits) hg6) (gv_of (v:=vi g.Nodes) hg6))) ?_
 refine sQ 17 (Y_and (b:=(r_1&&r_2)) (z:=(decide (c1.Qubits≤g.Nodes))) rfl rfl rfl rfl)<|sQ 4 (yg (.bool ((r_1&&r_2)&&(decide (c1.Qubits≤g.Nodes))))) (rn (ct_ ?_))
 obtain rfl:=sI hF
 exact ret1 Try.results28 (v1:=.bool ((r_1&&r_2)&&(decide (c1.Qubits≤g.Nodes)))) (resAt_tmp rfl) ⟨rfl,(hS4.sN [])⟩

theorem c_spec_l22Two (g:TGate)  (w0:World)  (hS:ST w0 [] w0 [] []) {r_:Bool} (hF:F_spec_l22Two g=some r_) :
  CV Try.prog 78 #[.agg #[vi g.Kind,vi g.A,vi g.B]] w0 (fun v w'=>v=.bool r_∧ST w0 [] w' [] []):=by
 unfold F_spec_l22Two at hF
 refine cv_of_cw 16 Try.func78 rfl Try.ntmps78 rfl ?_
 refine cq (cr ?_)
 let V0:List Value:=[vi g.Kind,vi g.A,vi g.B]
 refine sS 1 (yB 56 (.agg V0.toArray) V0 3 hS) ?_
 rintro _ w_ ⟨b,rfl,hS1⟩
 refine sQ 2 (yg (.bool false)) (rn (cq (cr ?_)))
 refine sQ 3 (yd (aD b) 0 0 K51 K0)<|sQ 4 (yl (aD b) 0 V0 (vi g.Kind) K1 (hS1.c 0))<|sQ 5 (yE g.Kind 9)<|sQ 6 (ym (.bool (g.Kind==9))) ?_
 refine sgq 7 (B:=(!(g.Kind==9))) (v:=pt (aD b) 0) rfl rfl (uF_ 6) (fun hg=>(yd (aD b) 0 0 K51 K0)) ?_
 refine sgq 8 (B:=(!(g.Kind==9))) rfl rfl (uF_ 6) (fun hg1=>(yl (aD b) 0 V0 (vi g.Kind) K1 (hS1.c 0) rfl (gv_of (v:=pt (aD b) 0) hg1))) ?_
 refine sgq 9 (B:=(!(g.Kind==9))) rfl rfl (uF_ 6) (fun hg2=>(yE g.Kind 10 rfl (gv_of (v:=vi g.Kind) hg2))) ?_
 refine sQ 10 (Y_or (b:=(g.Kind==9)) (z:=(g.Kind==10)) rfl rfl rfl rfl)<|sQ 11 (ym (.bool ((g.Kind==9)||(g.Kind==10)))) ?_
 refine sgq 12 (B:=(!((g.Kind==9)||(g.Kind==10)))) (v:=pt (aD b) 0) rfl rfl (uF_ 11) (fun hg3=>(yd (aD b) 0 0 K51 K0)) ?_
 refine sgq 13 (B:=(!((g.Kind==9)||(g.Kind==10)))) rfl rfl (uF_ 11) (fun hg4=>(yl (aD b) 0 V0 (vi g.Kind) K1 (hS1.c 0) rfl (gv_of (v:=pt (aD b) 0) hg4))) ?_
 refine sgq 14 (B:=(!((g.Kind==9)||(g.Kind==10)))) rfl rfl (uF_ 11) (fun hg5=>(yE g.Kind 11 rfl (gv_of (v:=vi g.Kind) hg5))) ?_
 refine sQ 15 (Y_or (b:=((g.Kind==9)||(g.Kind==10))) (z:=(g.Kind==11)) rfl rfl rfl rfl)<|sQ 2 (yg (.bool (((g.Kind==9)||(g.Kind==10))||(g.Kind==11)))) (rn (ct_ ?_))
 obtain rfl:=sI hF
 exact ret1 Try.results78 (v1:=.bool (((g.Kind==9)||(g.Kind==10))||(g.Kind==11))) (resAt_tmp rfl) ⟨rfl,(hS1.sN [])⟩
end Go.VK
