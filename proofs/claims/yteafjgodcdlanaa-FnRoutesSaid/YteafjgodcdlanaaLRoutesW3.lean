/- Walks: each Go function returns what its Lean function says. By program. -/
import Derived.Test.YteafjgodcdlanaaLRoutesFa
import Derived.Test.YteafjgodcdlanaaLibU
import Derived.Test.YteafjgodcdlanaaLibX
import Derived.Test.YteafjgodcdlanaaLibW
import Derived.Test.YteafjgodcdlanaaLRoutesW2
set_option linter.unusedVariables false
set_option maxRecDepth 100000
set_option maxHeartbeats 4000000
namespace Go.VK
open Go.RowKit
open Go.Proofs
open Go.IntKind
attribute [local irreducible] CW RW RA CV Y Yw Yc Ys RetOf
attribute [local irreducible] F_spec_l1In F_spec_l1Has F_spec_l23Fits F_spec_l22Two F_spec_l23Small F_spec_l23Placement F_spec_l1Own F_spec_l23Swap F_spec_l22Edge F_spec_l23Near F_spec_l23Qubits F_spec_l23Ready F_spec_l23Run F_spec_l23Code F_spec_l23Mask
theorem c_spec_l23Small (g:TCouplingGraph) (c1:TCircuit) (B:Option Addr) (c n:Nat) (B1:Option Addr) (c2 n1:Nat) (w0:World) (hn:g.Edges.length=n) (hn1:c1.Gates.length=n1) (hS:ST w0 [] w0 [] [⟨B,(g.Edges.flatMap eN1)⟩,⟨B1,(c1.Gates.flatMap eN2)⟩]) {r_:Bool} (hF:F_spec_l23Small g c1=some r_) :
  CV Try.prog 53 #[.agg #[vi g.Nodes,.slice B n c],.agg #[vi c1.Qubits,.slice B1 n1 c2]] w0 (fun v w'=>v=.bool r_∧ST w0 [] w' [] []):=by
 subst hn
 subst hn1
 unfold F_spec_l23Small at hF
 refine cv_of_cw 38 Try.func53 rfl Try.ntmps53 rfl ?_
 refine cq (cr ?_)
 let V2:List Value:=[vi g.Nodes,.slice B g.Edges.length c]
 refine sS 2 (yB 25 (.agg V2.toArray) V2 2 hS) ?_
 rintro _ w_ ⟨b,rfl,hS1⟩
 let V1:List Value:=[vi c1.Qubits,.slice B1 c1.Gates.length c2]
 refine sS 3 (yB 28 (.agg V1.toArray) V1 2 hS1) ?_
 rintro _ w_1 ⟨b1,rfl,hS2⟩
 refine sQ 4 (yg (.bool false)) (rn (cq (cr ?_)))
 refine sQ 5 (yg (vi 0)) (rn (cq (cq (cr ?_))))
 refine sQ 8 (yd (aD b1) 0 0 K19 K16)<|sQ 9 (yl (aD b1) 1 V1 (.slice B1 c1.Gates.length c2) K21 (hS2.c 1))<|sQ 10 (Y_len (B:=B1) (m:=c1.Gates.length) (c:=c2) K12 rfl rfl)<|sQ 11 (ym (vi 0)) (rn ?_)
 obtain ⟨hN,hF⟩:=chk_inv hF
 obtain ⟨z,hz,hF1⟩:=bI hF
 refine cw_block ?_
 let O0:Ob:=⟨aD b1,28,V1,2⟩
 refine cw_loop (fun k f w=>∃ (i:Nat) (two:Int),FF f [(2,pt (aD b) 0),(3,pt (aD b1) 0),(5,vi two),(9,.slice B1 c1.Gates.length c2),(10,vi (c1.Gates.length:Int)),(11,vi (i:Int))]∧ST w0 [] w [⟨aD b,25,V2,2⟩,O0] [⟨B,(g.Edges.flatMap eN1)⟩,⟨B1,(c1.Gates.flatMap eN2)⟩]∧i+k=c1.Gates.length∧forN (F_spec_l23Small_l1 c1) k i two=some z) c1.Gates.length ⟨0,0,(fc rfl (fc rfl (fc rfl (fc rfl (fc rfl (fc rfl fn_)))))),(hS2.sel [0,1] rfl rfl),Nat.zero_add _,hz⟩ ?_
 rintro k_ f w ⟨i,two,hf,hS3,hik,hL⟩
 refine cq (cr ?_)
 refine sQ 12 (yL (i:Int) (c1.Gates.length:Int) rfl (hf.g 11 5) (hf.g 10 4)) (rn (cq ?_))
 refine cw_cond (b:=(decide ((i:Int)<(c1.Gates.length:Int)))) rfl (fun hlt=>?_) (fun hlt=>?_)
 ·skip
  have hlt1:i<c1.Gates.length:=by have h:=of_decide_eq_true hlt; omega
  obtain ⟨K4,rfl⟩:∃ k2,k_=k2+1:=⟨k_-1,by omega⟩
  obtain ⟨y,hb,hL1⟩:=forN_go hL
  unfold F_spec_l23Small_l1 at hb
  refine cw_skip (cq ?_)
  obtain ⟨z1,hz1,hF2⟩:=bI hb
  refine cw_mid (fun f w=>∃ (two1:Int),two1=z1∧FF f [(2,pt (aD b) 0),(3,pt (aD b1) 0),(5,vi two1),(9,.slice B1 c1.Gates.length c2),(10,vi (c1.Gates.length:Int)),(11,vi (i:Int))]∧ST w0 [] w [⟨aD b,25,V2,2⟩,O0] [⟨B,(g.Edges.flatMap eN1)⟩,⟨B1,(c1.Gates.flatMap eN2)⟩]) ?_ ?_
  ·skip
   refine cw_block (cq (cr ?_))
   obtain ⟨x,hx,hz1⟩:=bI hz1
   let V3:List Value:=[vi x.Kind,vi x.A,vi x.B]
   refine sQ 13 (Y_index (B:=B1) (m:=c1.Gates.length) (c:=c2) (k:=.i64) (i:=(i:Int)) K12 K6 rfl (hf.g 9 3) (hf.g 11 5) (gi_isSome eN9 rfl (hS3.rf (i:=1) rfl) hx) (getI_nn hx) (getI_ltI hx rfl))<|sQ 14 (ya B1 ((i:Int).toNat*3) (c1.Gates.flatMap eN2) V3 K34 K6 (hS3.rf (i:=1) rfl) rfl rfl (eN9 x) (gi_seg eN9 hx)) ?_
   refine sS 7 (yN [vi 0,vi 0,vi 0] 3 hS3 K38) ?_
   rintro _ w_2 ⟨b2,rfl,hS5⟩
   refine s0 (yT 2 3 (aD b2) 56 (.agg V3.toArray) V3 0 hS5 K6) ?_
   rintro _ w_3 ⟨rfl,hS6⟩
   refine rn (cq (cr ?_))
   refine sQ 15 (yb (aD b2) 0 V3 K34 K6 (hS6.c 2)) ?_
   obtain ⟨r_1,hc,hz1⟩:=bI hz1
   refine sc 16 rfl rfl (yC [.agg V3.toArray] K143 (c_spec_l22Two x _  (hS6.inn0 [] rfl) hc)) ?_
   rintro _ w_4 ⟨rfl,hd⟩
   have hS7:=hS6.out00 hd
   refine rn ?_
   refine cw_cond (b:=r_1) rfl (fun hb1=>?_) (fun hb1=>?_)
   ·skip
    have hF3:=ct hz1 hb1
    refine cr ?_
    refine sQ 17 (ym (vi two) rfl (hf.g 5 2))<|sQ 18 (yP two 1)<|sQ 5 (yg (vi (i64.wrap (two+1)))) (rn ?_)
    exact ⟨(i64.wrap (two+1)),(sI hF3),(hf.a 2 0 (hf.a 3 1 (fc rfl (hf.a 9 3 (hf.a 10 4 (hf.a 11 5 fn_)))))),(hS7.sel [0,1] rfl rfl)⟩
   ·skip
    have hF4:=cf' hz1 hb1
    refine cw_skip ?_
    exact ⟨two,(sI hF4),(hf.a 2 0 (hf.a 3 1 (hf.a 5 2 (hf.a 9 3 (hf.a 10 4 (hf.a 11 5 fn_)))))),(hS7.sel [0,1] rfl rfl)⟩
  rintro f w ⟨two1,rfl,hf1,hS4⟩
  refine cr ?_
  refine sQ 19 (yP (i:Int) 1 rfl (hf1.g 11 5))<|sQ 11 (ym (vi (i64.wrap ((i:Int)+1)))) (rn ?_)
  obtain rfl:=sI hF2
  exact ⟨K4,Nat.lt_succ_self _,i+1,two1,(hf1.a 2 0 (hf1.a 3 1 (hf1.a 5 2 (hf1.a 9 3 (hf1.a 10 4 (fc (congrArg (Value.int .i64) (wr_succ hlt1 hN)) fn_)))))),(hS4.sel [0,1] rfl rfl),(by omega),hL1⟩
 ·skip
  obtain rfl:k_=0:=by have h:=of_decide_eq_false hlt; omega
  refine cw_exit rfl ?_
  obtain rfl:=sI hL
  refine cq (cr ?_)
  refine sQ 20 (yb (aD b) 0 V2 K5 K3 (hS3.c 0) rfl (hf.g 2 0))<|sQ 21 (yb (aD b1) 0 V1 K14 K7 (hS3.c 1) rfl (hf.g 3 1)) ?_
  obtain ⟨r_2,hc1,hF1⟩:=bI hF1
  refine sc 22 rfl rfl (yC [.agg V2.toArray,.agg V1.toArray] K144 (c_spec_l23Fits g c1 B c g.Edges.length B1 c2 c1.Gates.length _ rfl rfl (hS3.inn0 [(true,0),(true,1)] rfl) hc1)) ?_
  rintro _ w_5 ⟨rfl,hd1⟩
  have hS8:=hS3.out00 hd1
  refine sQ 23 (ym (.bool r_2)) ?_
  refine sgq 24 (B:=r_2) (v:=pt (aD b) 0) rfl rfl (uT_ 23) (fun hg=>(yd (aD b) 0 0 K49 K0 rfl (hf.g 2 0))) ?_
  refine sgq 25 (B:=r_2) rfl rfl (uT_ 23) (fun hg1=>(yl (aD b) 0 V2 (vi g.Nodes) K1 (hS8.c 0) rfl (gv_of (v:=pt (aD b) 0) hg1))) ?_
  refine sgq 26 (B:=r_2) rfl rfl (uT_ 23) (fun hg2=>(Y_le (k:=.i64) (a:=g.Nodes) (b:=5) rfl (gv_of (v:=vi g.Nodes) hg2) rfl)) ?_
  refine sQ 27 (Y_and (b:=r_2) (z:=(decide (g.Nodes≤5))) rfl rfl rfl rfl)<|sQ 28 (ym (.bool (r_2&&(decide (g.Nodes≤5))))) ?_
  refine sgq 29 (B:=(r_2&&(decide (g.Nodes≤5)))) (v:=pt (aD b1) 1) rfl rfl (uT_ 28) (fun hg3=>(yd (aD b1) 0 0 K19 K16 rfl (hf.g 3 1))) ?_
  refine sgq 30 (B:=(r_2&&(decide (g.Nodes≤5)))) rfl rfl (uT_ 28) (fun hg4=>(yl (aD b1) 1 V1 (.slice B1 c1.Gates.length c2) K21 (hS8.c 1) rfl (gv_of (v:=pt (aD b1) 1) hg4))) ?_
  refine sgq 31 (B:=(r_2&&(decide (g.Nodes≤5)))) (v:=vi (c1.Gates.length:Int)) rfl rfl (uT_ 28) (fun hg5=>(Y_len (B:=B1) (m:=c1.Gates.length) (c:=c2) K12 rfl (gv_of (v:=.slice B1 c1.Gates.length c2) hg5))) ?_
  refine sgq 32 (B:=(r_2&&(decide (g.Nodes≤5)))) rfl rfl (uT_ 28) (fun hg6=>(Y_le (k:=.i64) (a:=(c1.Gates.length:Int)) (b:=40) rfl (gv_of (v:=vi (c1.Gates.length:Int)) hg6) rfl)) ?_
  refine sQ 33 (Y_and (b:=(r_2&&(decide (g.Nodes≤5)))) (z:=(decide ((c1.Gates.length:Int)≤40))) rfl rfl rfl rfl)<|sQ 34 (ym (.bool ((r_2&&(decide (g.Nodes≤5)))&&(decide ((c1.Gates.length:Int)≤40))))) ?_
  refine sgq 35 (B:=((r_2&&(decide (g.Nodes≤5)))&&(decide ((c1.Gates.length:Int)≤40)))) rfl rfl (uT_ 34) (fun hg7=>(ym (vi two) rfl (hf.g 5 2))) ?_
  refine sgq 36 (B:=((r_2&&(decide (g.Nodes≤5)))&&(decide ((c1.Gates.length:Int)≤40)))) rfl rfl (uT_ 34) (fun hg8=>(Y_le (k:=.i64) (a:=two) (b:=12) rfl (gv_of (v:=vi two) hg8) rfl)) ?_
  refine sQ 37 (Y_and (b:=((r_2&&(decide (g.Nodes≤5)))&&(decide ((c1.Gates.length:Int)≤40)))) (z:=(decide (two≤12))) rfl rfl rfl rfl)<|sQ 4 (yg (.bool (((r_2&&(decide (g.Nodes≤5)))&&(decide ((c1.Gates.length:Int)≤40)))&&(decide (two≤12))))) (rn (ct_ ?_))
  obtain rfl:=sI hF1
  exact ret1 Try.results53 (v1:=.bool (((r_2&&(decide (g.Nodes≤5)))&&(decide ((c1.Gates.length:Int)≤40)))&&(decide (two≤12)))) (resAt_tmp rfl) ⟨rfl,(hS8.sN [])⟩

theorem c_spec_l23Placement (g:TCouplingGraph) (n1:Int) (place:List Int) (B:Option Addr) (c n:Nat) (B1:Option Addr) (c1 n2:Nat) (w0:World) (hn:g.Edges.length=n) (hn1:place.length=n2) (hq:n2≤c1) (hS:ST w0 [] w0 [] [⟨B,(g.Edges.flatMap eN1)⟩,⟨B1,(place.flatMap encI)⟩]) {r_:Bool} (hF:F_spec_l23Placement g n1 place=some r_) :
  CV Try.prog 54 #[.agg #[vi g.Nodes,.slice B n c],vi n1,.slice B1 n2 c1] w0 (fun v w'=>v=.bool r_∧ST w0 [] w' [] []):=by
 subst hn
 subst hn1
 unfold F_spec_l23Placement at hF
 refine cv_of_cw 34 Try.func54 rfl Try.ntmps54 rfl ?_
 refine cq (cr ?_)
 let V3:List Value:=[vi g.Nodes,.slice B g.Edges.length c]
 refine sS 3 (yB 25 (.agg V3.toArray) V3 2 hS) ?_
 rintro _ w_ ⟨b,rfl,hS1⟩
 refine sQ 6 (yg (.bool false)) (rn (cq (cq (cr ?_))))
 refine sQ 9 (ym (.slice B1 place.length c1))<|sQ 10 (Y_len (B:=B1) (m:=place.length) (c:=c1) K2 rfl rfl)<|sQ 11 (ym (vi 0)) (rn ?_)
 obtain ⟨hN,hF⟩:=chk_inv hF
 obtain ⟨z,hz,hF1⟩:=bI hF
 refine cw_block ?_
 let O0:Ob:=⟨aD b,25,V3,2⟩
 let R1:Ro:=⟨B,(g.Edges.flatMap eN1)⟩
 let R2:Ro:=⟨B1,(place.flatMap encI)⟩
 refine cw_loop (fun k f w=>∃ (i:Nat),FF f [(1,vi n1),(2,.slice B1 place.length c1),(3,pt (aD b) 0),(9,.slice B1 place.length c1),(10,vi (place.length:Int)),(11,vi (i:Int))]∧ST w0 [] w [O0] [R1,R2]∧i+k=place.length∧forX (F_spec_l23Placement_l1 place g) k i ()=some z) place.length ⟨0,(fc rfl (fc rfl (fc rfl (fc rfl (fc rfl (fc rfl fn_)))))),(hS1.sel [0] rfl rfl),Nat.zero_add _,hz⟩ ?_
 rintro k_ f w ⟨i,hf,hS2,hik,hL⟩
 refine cq (cr ?_)
 refine sQ 12 (yL (i:Int) (place.length:Int) rfl (hf.g 11 5) (hf.g 10 4)) (rn (cq ?_))
 refine cw_cond (b:=(decide ((i:Int)<(place.length:Int)))) rfl (fun hlt=>?_) (fun hlt=>?_)
 ·skip
  have hlt1:i<place.length:=by have h:=of_decide_eq_true hlt; omega
  obtain ⟨K4,rfl⟩:∃ k2,k_=k2+1:=⟨k_-1,by omega⟩
  obtain ⟨y,hb,hL1⟩:=forX_go hL
  unfold F_spec_l23Placement_l1 at hb
  refine cw_skip (cq (cw_block (cq (cr ?_))))
  refine sQ 13 (ym (vi (i:Int)) rfl (hf.g 11 5)) ?_
  obtain ⟨x,hx,hb⟩:=bI hb
  refine sQ 14 (Y_index (B:=B1) (m:=place.length) (c:=c1) (k:=.i64) (i:=(i:Int)) K2 K0 rfl (hf.g 9 3) (hf.g 11 5) (gi_isSome encI_len rfl (hS2.rf (i:=1) rfl) hx) (getI_nn hx) (getI_ltI hx rfl))<|sQ 15 (yl B1 ((i:Int).toNat*1) (place.flatMap encI) (vi x) K1 (hS2.rf (i:=1) rfl) rfl rfl (gi_at0 encI_len hx rfl))<|sQ 7 (yg (vi (i:Int)))<|sQ 8 (yg (vi x)) (rn (cq (cr ?_)))
  refine sQ 16 (ym (vi x))<|sQ 17 (yd (aD b) 0 0 K49 K0 rfl (hf.g 3 2))<|sQ 18 (yl (aD b) 0 V3 (vi g.Nodes) K1 (hS2.c 0))<|sQ 19 (yM g.Nodes 1) ?_
  obtain ⟨r_1,hc,hb⟩:=bI hb
  refine sc 20 rfl rfl (yC [vi x,vi 0,vi (i64.wrap (g.Nodes-1))] K61 (c_spec_l1In x 0 (i64.wrap (g.Nodes-1)) _  (hS2.inn0 [] rfl) hc)) ?_
  rintro _ w_1 ⟨rfl,hd⟩
  have hS3:=hS2.out00 hd
  refine sQ 21 (Y_not (p:=r_1) rfl rfl)<|sQ 22 (ym (.bool (!r_1))) ?_
  refine sgq 23 (B:=(!(!r_1))) rfl rfl (uF_ 22) (fun hg=>(ym (.slice B1 place.length c1) rfl (hf.g 2 1))) ?_
  refine sgq 24 (B:=(!(!r_1))) rfl rfl (uF_ 22) (fun hg1=>(ym (vi (i:Int)))) ?_
  refine rw_split (B:=(!(!r_1))) (fun hb1=>?_) (fun hb1=>?_)
  ·skip
   have hF2:=ct hb hb1
   obtain ⟨hsl,hF2⟩:=chk_inv hF2
   have hcap:place.length≤c1:=hq
   have hv:(List.take i place).length=i:=(take_len rfl (by omega))
   have hq1:i≤c1:=by omega
   have ho:Org w0 [] [R1,R2] [⟨B1,((List.take i place).flatMap encI)⟩]:=org_view encI_len (q:=c1) (org_mem (i:=1) rfl) (sv_zero _ _ _).symm rfl
   have hS4:ST w0 [] _ [O0] [⟨B1,((List.take i place).flatMap encI)⟩,R1,R2]:=ST.view encI_len hS3 (i:=1) rfl (lo:=0) (h:=i) (q:=c1) (by omega) (by omega) (sv_zero _ _ _).symm rfl
   refine sqg 25 rfl rfl (uF_ 22) hb1 (Y_slice0 (B:=B1) (m:=place.length) (c:=c1) (h:=i) (s:=1) K2 K0 rfl (gv_of (v:=.slice B1 place.length c1) hb1) (bnd_some (gv_of (v:=vi (i:Int)) hb1) rfl) (by omega)) ?_
   refine sqg 26 rfl rfl (uF_ 22) hb1 (ym (vi x)) ?_
   obtain ⟨r_2,hc1,hF2⟩:=bI hF2
   refine scg 27 rfl rfl (uF_ 22) hb1 (yC [.slice B1 i c1,vi x] K118 (c_spec_l1Has (List.take i place) x B1 c1 i _ hv (hS4.inn0 [(true,0)] rfl) hc1)) ?_
   rintro _ w_2 ⟨rfl,hd1⟩
   have hS5:=hS4.out00 hd1
   refine sQ 28 (Y_pickF (b:=(!r_1)) (v:=.bool r_2) rfl rfl (nt hb1) rfl) (rn ?_)
   refine cw_cond (b:=r_2) rfl (fun hb2=>?_) (fun hb2=>?_)
   ·skip
    have hF3:=ct hF2 hb2
    refine cq (cr ?_)
    refine sQ 6 (yg (.bool false)) (rn (ct_ ?_))
    obtain rfl:=sI hF3
    obtain rfl:=sI hL1
    obtain rfl:=sI hF1
    exact ret1 Try.results54 (v1:=.bool false) (resAt_tmp rfl) ⟨rfl,(hS5.sN [])⟩
   ·skip
    have hF4:=cf' hF2 hb2
    refine cw_skip (cr ?_)
    refine sQ 29 (yP (i:Int) 1 rfl (hf.g 11 5))<|sQ 11 (ym (vi (i64.wrap ((i:Int)+1)))) (rn ?_)
    obtain rfl:=sI hF4
    have hS6:ST w0 [] _ [O0] [R1,R2]:=hS5.sT [1,2]
    exact ⟨K4,Nat.lt_succ_self _,i+1,(hf.a 1 0 (hf.a 2 1 (hf.a 3 2 (hf.a 9 3 (hf.a 10 4 (fc (congrArg (Value.int .i64) (wr_succ hlt1 hN)) fn_)))))),(hS6.sel [0] rfl rfl),(by omega),hL1⟩
  ·skip
   have hF5:=cf' hb hb1
   refine sgn 25 rfl rfl (uF_ 22) hb1 ?_
   refine sgn 26 rfl rfl (uF_ 22) hb1 ?_
   refine sgn 27 rfl rfl (uF_ 22) hb1 ?_
   refine sQ 28 (Y_pickT (b:=(!r_1)) (v:=.bool true) rfl rfl (nf hb1) rfl) (rn ?_)
   refine cw_cond (b:=true) rfl (fun _=>?_) (fun h=>by cases h)
   refine cq (cr ?_)
   refine sQ 6 (yg (.bool false)) (rn (ct_ ?_))
   obtain rfl:=sI hF5
   obtain rfl:=sI hL1
   obtain rfl:=sI hF1
   exact ret1 Try.results54 (v1:=.bool false) (resAt_tmp rfl) ⟨rfl,(hS3.sN [])⟩
 ·skip
  obtain rfl:k_=0:=by have h:=of_decide_eq_false hlt; omega
  refine cw_exit rfl ?_
  obtain rfl:=sI hL
  refine cq (cr ?_)
  refine sQ 30 (ym (.slice B1 place.length c1) rfl (hf.g 2 1))<|sQ 31 (Y_len (B:=B1) (m:=place.length) (c:=c1) K2 rfl rfl)<|sQ 32 (ym (vi n1) rfl (hf.g 1 0))<|sQ 33 (yE (place.length:Int) n1)<|sQ 6 (yg (.bool ((place.length:Int)==n1))) (rn (ct_ ?_))
  obtain rfl:=sI hF1
  exact ret1 Try.results54 (v1:=.bool ((place.length:Int)==n1)) (resAt_tmp rfl) ⟨rfl,(hS2.sN [])⟩

theorem c_spec_l1Own (l:List Int) (B:Option Addr) (c n:Nat) (w0:World) (hn:l.length=n) (hS:ST w0 [] w0 [] [⟨B,(l.flatMap encI)⟩]) {r_:List Int} (hF:F_spec_l1Own l=some r_) :
  CV Try.prog 25 #[.slice B n c] w0 (fun v w'=>∃ (B1:Option Addr) (c1:Nat),v=.slice B1 r_.length c1∧ST w0 [] w' [⟨B1,3,(r_.flatMap encI),c1*1⟩] []):=by
 subst hn
 unfold F_spec_l1Own at hF
 refine cv_of_cw 6 Try.func25 rfl Try.ntmps25 rfl ?_
 refine cq (cr ?_)
 refine sQ 2 (yg (.slice none 0 0)) (rn (cq (cr ?_)))
 refine sS 3 (Ys_bslice0 (s:=1) (e:=3) hS K2 K0 rfl) ?_
 rintro _ w_ ⟨b,rfl,hS1⟩
 refine sQ 4 (ym (.slice B l.length c)) ?_
 obtain ⟨hap,hF⟩:=chk_inv hF
 refine sS 5 (Ys_append (s:=1) (by':=8) (i:=0) (nn:=0) (c:=0) (k:=l.length) (len:=l.length) (B:=aD b) (xs:=(l.flatMap encI)) (cs':=(l.flatMap encI)) hS1 K2 K0 K53 K54 rfl (by decide) rfl rfl rfl rfl (fm_lenn (l:=[]) encI_len rfl) rfl (hS1.rf (i:=0) rfl) (fm_lenn (l:=l) encI_len rfl) (fm_one' (enc:=encI) encI_one l) (by have:=hap; omega) (by have:=hap; simp only [maxLen]; omega) rfl (app_len0 (l:=l) rfl)) ?_
 rintro _ w_1 ⟨B2,c2,rfl,hS2⟩
 refine sQ 2 (yg (.slice B2 l.length c2)) (rn (ct_ ?_))
 obtain rfl:=sI hF
 exact ret1 Try.results25 (v1:=.slice B2 l.length c2) (resAt_tmp rfl) ⟨B2,c2,rfl,(hS2.sN [0])⟩

theorem c_spec_l23Swap (place:List Int) (a:Int) (b:Int) (B:Option Addr) (c n:Nat) (w0:World) (hn:place.length=n) (hS:ST w0 [] w0 [] [⟨B,(place.flatMap encI)⟩]) {r_:List Int} (hF:F_spec_l23Swap place a b=some r_) :
  CV Try.prog 58 #[.slice B n c,vi a,vi b] w0 (fun v w'=>∃ (B1:Option Addr) (c1:Nat),v=.slice B1 r_.length c1∧ST w0 [] w' [⟨B1,3,(r_.flatMap encI),c1*1⟩] []):=by
 subst hn
 unfold F_spec_l23Swap at hF
 refine cv_of_cw 36 Try.func58 rfl Try.ntmps58 rfl ?_
 refine cq (cr ?_)
 refine sQ 6 (yg (.slice none 0 0)) (rn (cq (cr ?_)))
 refine sQ 10 (ym (.slice B place.length c)) ?_
 obtain ⟨r_1,hc,hF⟩:=bI hF
 refine sc 11 rfl rfl (yC [.slice B place.length c] K77 (c_spec_l1Own place B c place.length _ rfl (hS.inn0 [(true,0)] rfl) hc)) ?_
 rintro _ w_ ⟨B2,c2,rfl,hd⟩
 have hS1:=hS.out0 hd
 refine sQ 7 (yg (.slice B2 r_1.length c2)) (rn (cq (cq (cr ?_))))
 refine sQ 12 (ym (.slice B place.length c))<|sQ 13 (Y_len (B:=B) (m:=place.length) (c:=c) K2 rfl rfl)<|sQ 14 (ym (vi 0)) (rn ?_)
 obtain ⟨hN,hF⟩:=chk_inv hF
 obtain ⟨z,hz,hF1⟩:=bI hF
 refine cw_block ?_
 refine cw_loop (fun k f w=>∃ (i:Nat) (out:List Int),FF f [(1,vi a),(2,vi b),(7,.slice B2 r_1.length c2),(12,.slice B place.length c),(13,vi (place.length:Int)),(14,vi (i:Int))]∧out.length=r_1.length∧ST w0 [] w [⟨B2,3,(out.flatMap encI),c2*1⟩] [⟨B,(place.flatMap encI)⟩]∧i+k=place.length∧forN (F_spec_l23Swap_l1 place a b) k i out=some z) place.length ⟨0,r_1,(fc rfl (fc rfl (fc rfl (fc rfl (fc rfl (fc rfl fn_)))))),rfl,(hS1.sel [0] rfl rfl),Nat.zero_add _,hz⟩ ?_
 rintro k_ f w ⟨i,out,hf,hl,hS2,hik,hL⟩
 refine cq (cr ?_)
 refine sQ 15 (yL (i:Int) (place.length:Int) rfl (hf.g 14 5) (hf.g 13 4)) (rn (cq ?_))
 refine cw_cond (b:=(decide ((i:Int)<(place.length:Int)))) rfl (fun hlt=>?_) (fun hlt=>?_)
 ·skip
  have hlt1:i<place.length:=by have h:=of_decide_eq_true hlt; omega
  obtain ⟨K4,rfl⟩:∃ k2,k_=k2+1:=⟨k_-1,by omega⟩
  obtain ⟨y,hb,hL1⟩:=forN_go hL
  unfold F_spec_l23Swap_l1 at hb
  refine cw_skip (cq ?_)
  obtain ⟨z1,hz1,hF2⟩:=bI hb
  refine cw_mid (fun f w=>∃ (out1:List Int),out1=z1∧FF f [(1,vi a),(2,vi b),(7,.slice B2 r_1.length c2),(12,.slice B place.length c),(13,vi (place.length:Int)),(14,vi (i:Int))]∧out1.length=r_1.length∧ST w0 [] w [⟨B2,3,(out1.flatMap encI),c2*1⟩] [⟨B,(place.flatMap encI)⟩]) ?_ ?_
  ·skip
   refine cw_block (cq (cr ?_))
   refine sQ 16 (ym (vi (i:Int)) rfl (hf.g 14 5)) ?_
   obtain ⟨x,hx,hz1⟩:=bI hz1
   refine sQ 17 (Y_index (B:=B) (m:=place.length) (c:=c) (k:=.i64) (i:=(i:Int)) K2 K0 rfl (hf.g 12 3) (hf.g 14 5) (gi_isSome encI_len rfl (hS2.rf (i:=0) rfl) hx) (getI_nn hx) (getI_ltI hx rfl))<|sQ 18 (yl B ((i:Int).toNat*1) (place.flatMap encI) (vi x) K1 (hS2.rf (i:=0) rfl) rfl rfl (gi_at0 encI_len hx rfl))<|sQ 8 (yg (vi (i:Int)))<|sQ 9 (yg (vi x)) (rn (cq (cr ?_)))
   refine sQ 19 (ym (vi x)) (rn (cw_block (cq (cr ?_))))
   refine sQ 21 (ym (vi a) rfl (hf.g 1 0))<|sQ 22 (yE x a)<|sQ 20 (yg (.bool (x==a))) (rn ?_)
   refine cw_cond (b:=(x==a)) rfl (fun hb1=>?_) (fun hb1=>?_)
   ·skip
    have hF3:=ct hz1 hb1
    refine cr ?_
    refine sQ 23 (ym (.slice B2 r_1.length c2) rfl (hf.g 7 2))<|sQ 24 (ym (vi (i:Int)))<|sQ 25 (ym (vi b) rfl (hf.g 2 1)) ?_
    obtain ⟨x1,hx1,hF3⟩:=bI hF3
    refine sQ 26 (Y_index (B:=B2) (m:=r_1.length) (c:=c2) (k:=.i64) (i:=(i:Int)) K2 K0 rfl rfl rfl (gi_isSome encI_len rfl (hS2.c 0) hx1) (getI_nn hx1) (getI_ltI hx1 hl)) ?_
    refine s0 (yS 0 1 B2 3 (vi b) [vi b] ((i:Int).toNat*1) ((out.set (i:Int).toNat b).flatMap encI) hS2 K0 rfl rfl rfl rfl rfl rfl rfl (gi_fit0 encI_len hx1) (gi_set encI_len hx1 b rfl)) ?_
    rintro _ w_1 ⟨rfl,hS4⟩
    refine rn ?_
    exact ⟨(out.set (i:Int).toNat b),(sI hF3),(hf.a 1 0 (hf.a 2 1 (hf.a 7 2 (hf.a 12 3 (hf.a 13 4 (hf.a 14 5 fn_)))))),(set_len _ _ _ hl),(hS4.sel [0] rfl rfl)⟩
   ·skip
    have hF4:=cf' hz1 hb1
    refine cq (cr ?_)
    refine sQ 28 (ym (vi b) rfl (hf.g 2 1))<|sQ 29 (yE x b)<|sQ 27 (yg (.bool (x==b))) (rn ?_)
    refine cw_cond (b:=(x==b)) rfl (fun hb2=>?_) (fun hb2=>?_)
    ·skip
     have hF5:=ct hF4 hb2
     refine cr ?_
     refine sQ 30 (ym (.slice B2 r_1.length c2) rfl (hf.g 7 2))<|sQ 31 (ym (vi (i:Int)))<|sQ 32 (ym (vi a) rfl (hf.g 1 0)) ?_
     obtain ⟨x2,hx2,hF5⟩:=bI hF5
     refine sQ 33 (Y_index (B:=B2) (m:=r_1.length) (c:=c2) (k:=.i64) (i:=(i:Int)) K2 K0 rfl rfl rfl (gi_isSome encI_len rfl (hS2.c 0) hx2) (getI_nn hx2) (getI_ltI hx2 hl)) ?_
     refine s0 (yS 0 1 B2 3 (vi a) [vi a] ((i:Int).toNat*1) ((out.set (i:Int).toNat a).flatMap encI) hS2 K0 rfl rfl rfl rfl rfl rfl rfl (gi_fit0 encI_len hx2) (gi_set encI_len hx2 a rfl)) ?_
     rintro _ w_2 ⟨rfl,hS5⟩
     refine rn ?_
     exact ⟨(out.set (i:Int).toNat a),(sI hF5),(hf.a 1 0 (hf.a 2 1 (hf.a 7 2 (hf.a 12 3 (hf.a 13 4 (hf.a 14 5 fn_)))))),(set_len _ _ _ hl),(hS5.sel [0] rfl rfl)⟩
    ·skip
     have hF6:=cf' hF4 hb2
     refine cw_skip ?_
     exact ⟨out,(sI hF6),(hf.a 1 0 (hf.a 2 1 (hf.a 7 2 (hf.a 12 3 (hf.a 13 4 (hf.a 14 5 fn_)))))),hl,(hS2.sel [0] rfl rfl)⟩
  rintro f w ⟨out1,rfl,hf1,hl1,hS3⟩
  refine cr ?_
  refine sQ 34 (yP (i:Int) 1 rfl (hf1.g 14 5))<|sQ 14 (ym (vi (i64.wrap ((i:Int)+1)))) (rn ?_)
  obtain rfl:=sI hF2
  exact ⟨K4,Nat.lt_succ_self _,i+1,out1,(hf1.a 1 0 (hf1.a 2 1 (hf1.a 7 2 (hf1.a 12 3 (hf1.a 13 4 (fc (congrArg (Value.int .i64) (wr_succ hlt1 hN)) fn_)))))),hl1,(hS3.sel [0] rfl rfl),(by omega),hL1⟩
 ·skip
  obtain rfl:k_=0:=by have h:=of_decide_eq_false hlt; omega
  refine cw_exit rfl ?_
  obtain rfl:=sI hL
  refine cq (cr ?_)
  refine sQ 35 (ym (.slice B2 r_1.length c2) rfl (hf.g 7 2))<|sQ 6 (yg (.slice B2 r_1.length c2)) (rn (ct_ ?_))
  obtain rfl:=sI hF1
  exact ret1 Try.results58 (v1:=.slice B2 r_1.length c2) (resAt_tmp rfl) ⟨B2,c2,(sl_eqv hl),(hS2.sN [0])⟩

theorem c_spec_l22Edge (g:TCouplingGraph) (a:Int) (b:Int) (B:Option Addr) (c n:Nat) (w0:World) (hn:g.Edges.length=n) (hS:ST w0 [] w0 [] [⟨B,(g.Edges.flatMap eN1)⟩]) {r_:Bool} (hF:F_spec_l22Edge g a b=some r_) :
  CV Try.prog 63 #[.agg #[vi g.Nodes,.slice B n c],vi a,vi b] w0 (fun v w'=>v=.bool r_∧ST w0 [] w' [] []):=by
 subst hn
 unfold F_spec_l22Edge at hF
 refine cv_of_cw 39 Try.func63 rfl Try.ntmps63 rfl ?_
 refine cq (cr ?_)
 let V0:List Value:=[vi g.Nodes,.slice B g.Edges.length c]
 refine sS 3 (yB 25 (.agg V0.toArray) V0 2 hS) ?_
 rintro _ w_ ⟨b1,rfl,hS1⟩
 refine sQ 6 (yg (.bool false)) (rn (cq (cq (cr ?_))))
 refine sQ 9 (yd (aD b1) 0 0 K45 K39)<|sQ 10 (yl (aD b1) 1 V0 (.slice B g.Edges.length c) K59 (hS1.c 0))<|sQ 11 (Y_len (B:=B) (m:=g.Edges.length) (c:=c) K26 rfl rfl)<|sQ 12 (ym (vi 0)) (rn ?_)
 obtain ⟨hN,hF⟩:=chk_inv hF
 obtain ⟨z,hz,hF1⟩:=bI hF
 refine cw_block ?_
 refine cw_loop (fun k f w=>∃ (i:Nat),FF f [(1,vi a),(2,vi b),(10,.slice B g.Edges.length c),(11,vi (g.Edges.length:Int)),(12,vi (i:Int))]∧ST w0 [] w [] [⟨B,(g.Edges.flatMap eN1)⟩]∧i+k=g.Edges.length∧forX (F_spec_l22Edge_l1 g a b) k i ()=some z) g.Edges.length ⟨0,(fc rfl (fc rfl (fc rfl (fc rfl (fc rfl fn_))))),(hS1.sel [] rfl rfl),Nat.zero_add _,hz⟩ ?_
 rintro k_ f w ⟨i,hf,hS2,hik,hL⟩
 refine cq (cr ?_)
 refine sQ 13 (yL (i:Int) (g.Edges.length:Int) rfl (hf.g 12 4) (hf.g 11 3)) (rn (cq ?_))
 refine cw_cond (b:=(decide ((i:Int)<(g.Edges.length:Int)))) rfl (fun hlt=>?_) (fun hlt=>?_)
 ·skip
  have hlt1:i<g.Edges.length:=by have h:=of_decide_eq_true hlt; omega
  obtain ⟨K4,rfl⟩:∃ k2,k_=k2+1:=⟨k_-1,by omega⟩
  obtain ⟨y,hb,hL1⟩:=forX_go hL
  unfold F_spec_l22Edge_l1 at hb
  refine cw_skip (cq (cw_block (cq (cr ?_))))
  obtain ⟨x,hx,hb⟩:=bI hb
  refine sQ 14 (Y_index (B:=B) (m:=g.Edges.length) (c:=c) (k:=.i64) (i:=(i:Int)) K26 K20 rfl (hf.g 10 2) (hf.g 12 4) (gi_isSome enc_Edge_len rfl (hS2.rf (i:=0) rfl) hx) (getI_nn hx) (getI_ltI hx rfl))<|sQ 15 (ya B ((i:Int).toNat*2) (g.Edges.flatMap eN1) [vi x.A,vi x.B] K81 K20 (hS2.rf (i:=0) rfl) rfl rfl (enc_Edge_len x) (gi_seg enc_Edge_len hx)) ?_
  refine sS 8 (yN [vi 0,vi 0] 2 hS2 K46) ?_
  rintro _ w_1 ⟨b2,rfl,hS3⟩
  refine s0 (yT 0 2 (aD b2) 87 (.agg #[vi x.A,vi x.B]) [vi x.A,vi x.B] 0 hS3 K20) ?_
  rintro _ w_2 ⟨rfl,hS4⟩
  refine rn (cq (cr ?_))
  refine sQ 16 (yd (aD b2) 0 0 K55 K0)<|sQ 17 (yl (aD b2) 0 [vi x.A,vi x.B] (vi x.A) K1 (hS4.c 0))<|sQ 18 (ym (vi a) rfl (hf.g 1 0))<|sQ 19 (yE x.A a)<|sQ 20 (ym (.bool (x.A==a))) ?_
  refine sgq 21 (B:=(x.A==a)) (v:=pt (aD b2) 1) rfl rfl (uT_ 20) (fun hg=>(yd (aD b2) 0 0 K63 K0)) ?_
  refine sgq 22 (B:=(x.A==a)) rfl rfl (uT_ 20) (fun hg1=>(yl (aD b2) 1 [vi x.A,vi x.B] (vi x.B) K1 (hS4.c 0) rfl (gv_of (v:=pt (aD b2) 1) hg1))) ?_
  refine sgq 23 (B:=(x.A==a)) rfl rfl (uT_ 20) (fun hg2=>(ym (vi b) rfl (hf.g 2 1))) ?_
  refine sgq 24 (B:=(x.A==a)) rfl rfl (uT_ 20) (fun hg3=>(yE x.B b rfl (gv_of (v:=vi x.B) hg3) (gv_of (v:=vi b) hg3))) ?_
  refine sQ 25 (Y_and (b:=(x.A==a)) (z:=(x.B==b)) rfl rfl rfl rfl)<|sQ 26 (ym (.bool ((x.A==a)&&(x.B==b)))) ?_
  refine sgq 27 (B:=(!((x.A==a)&&(x.B==b)))) (v:=pt (aD b2) 0) rfl rfl (uF_ 26) (fun hg4=>(yd (aD b2) 0 0 K55 K0)) ?_
  refine sgq 28 (B:=(!((x.A==a)&&(x.B==b)))) rfl rfl (uF_ 26) (fun hg5=>(yl (aD b2) 0 [vi x.A,vi x.B] (vi x.A) K1 (hS4.c 0) rfl (gv_of (v:=pt (aD b2) 0) hg5))) ?_
  refine sgq 29 (B:=(!((x.A==a)&&(x.B==b)))) rfl rfl (uF_ 26) (fun hg6=>(ym (vi b) rfl (hf.g 2 1))) ?_
  refine sgq 30 (B:=(!((x.A==a)&&(x.B==b)))) rfl rfl (uF_ 26) (fun hg7=>(yE x.A b rfl (gv_of (v:=vi x.A) hg7) (gv_of (v:=vi b) hg7))) ?_
  refine sgq 31 (B:=(!((x.A==a)&&(x.B==b)))) rfl rfl (uF_ 26) (fun hg8=>(ym (.bool (x.A==b)) rfl (gv_of (v:=.bool (x.A==b)) hg8))) ?_
  refine sgq 32 (B:=((!((x.A==a)&&(x.B==b)))&&(x.A==b))) (v:=pt (aD b2) 1) rfl rfl (wt_gt (gd_of (t:=31) (by kernel_rfl) rfl)) (fun hg9=>(yd (aD b2) 0 0 K63 K0)) ?_
  refine sgq 33 (B:=((!((x.A==a)&&(x.B==b)))&&(x.A==b))) rfl rfl (wt_gt (gd_of (t:=31) (by kernel_rfl) rfl)) (fun hg10=>(yl (aD b2) 1 [vi x.A,vi x.B] (vi x.B) K1 (hS4.c 0) rfl (gv_of (v:=pt (aD b2) 1) hg10))) ?_
  refine sgq 34 (B:=((!((x.A==a)&&(x.B==b)))&&(x.A==b))) rfl rfl (wt_gt (gd_of (t:=31) (by kernel_rfl) rfl)) (fun hg11=>(ym (vi a) rfl (hf.g 1 0))) ?_
  refine sgq 35 (B:=((!((x.A==a)&&(x.B==b)))&&(x.A==b))) rfl rfl (wt_gt (gd_of (t:=31) (by kernel_rfl) rfl)) (fun hg12=>(yE x.B a rfl (gv_of (v:=vi x.B) hg12) (gv_of (v:=vi a) hg12))) ?_
  refine sgq 36 (B:=(!((x.A==a)&&(x.B==b)))) (v:=.bool ((x.A==b)&&(x.B==a))) rfl rfl (uF_ 26) (fun hg13=>(Y_and (b:=(x.A==b)) (z:=(x.B==a)) rfl (gv_of (v:=.bool (x.A==b)) hg13) (gv_and (B:=(!((x.A==a)&&(x.B==b)))) (C:=(x.A==b)) (v:=.bool (x.B==a)) hg13) rfl)) ?_
  refine sQ 37 (Y_or (b:=((x.A==a)&&(x.B==b))) (z:=((x.A==b)&&(x.B==a))) rfl rfl rfl rfl) (rn ?_)
  refine cw_cond (b:=(((x.A==a)&&(x.B==b))||((x.A==b)&&(x.B==a)))) rfl (fun hb1=>?_) (fun hb1=>?_)
  ·skip
   have hF2:=ct hb hb1
   refine cq (cr ?_)
   refine sQ 6 (yg (.bool true)) (rn (ct_ ?_))
   obtain rfl:=sI hF2
   obtain rfl:=sI hL1
   obtain rfl:=sI hF1
   exact ret1 Try.results63 (v1:=.bool true) (resAt_tmp rfl) ⟨rfl,(hS4.sN [])⟩
  ·skip
   have hF3:=cf' hb hb1
   refine cw_skip (cr ?_)
   refine sQ 38 (yP (i:Int) 1 rfl (hf.g 12 4))<|sQ 12 (ym (vi (i64.wrap ((i:Int)+1)))) (rn ?_)
   obtain rfl:=sI hF3
   exact ⟨K4,Nat.lt_succ_self _,i+1,(hf.a 1 0 (hf.a 2 1 (hf.a 10 2 (hf.a 11 3 (fc (congrArg (Value.int .i64) (wr_succ hlt1 hN)) fn_))))),(hS4.sel [] rfl rfl),(by omega),hL1⟩
 ·skip
  obtain rfl:k_=0:=by have h:=of_decide_eq_false hlt; omega
  refine cw_exit rfl ?_
  obtain rfl:=sI hL
  refine cq (cr ?_)
  refine sQ 6 (yg (.bool false)) (rn (ct_ ?_))
  obtain rfl:=sI hF1
  exact ret1 Try.results63 (v1:=.bool false) (resAt_tmp rfl) ⟨rfl,(hS2.sN [])⟩

theorem c_spec_l23Near (g:TCouplingGraph) (place:List Int) (x:TGate) (B:Option Addr) (c n:Nat) (B1:Option Addr) (c1 n1:Nat) (w0:World) (hn:g.Edges.length=n) (hn1:place.length=n1) (hS:ST w0 [] w0 [] [⟨B,(g.Edges.flatMap eN1)⟩,⟨B1,(place.flatMap encI)⟩]) {r_:Bool} (hF:F_spec_l23Near g place x=some r_) :
  CV Try.prog 56 #[.agg #[vi g.Nodes,.slice B n c],.slice B1 n1 c1,.agg #[vi x.Kind,vi x.A,vi x.B]] w0 (fun v w'=>v=.bool r_∧ST w0 [] w' [] []):=by
 subst hn
 subst hn1
 unfold F_spec_l23Near at hF
 refine cv_of_cw 24 Try.func56 rfl Try.ntmps56 rfl ?_
 refine cq (cr ?_)
 let V0:List Value:=[vi g.Nodes,.slice B g.Edges.length c]
 refine sS 3 (yB 25 (.agg V0.toArray) V0 2 hS) ?_
 rintro _ w_ ⟨b,rfl,hS1⟩
 let V1:List Value:=[vi x.Kind,vi x.A,vi x.B]
 refine sS 5 (yB 56 (.agg V1.toArray) V1 3 hS1) ?_
 rintro _ w_1 ⟨b1,rfl,hS2⟩
 refine sQ 6 (yg (.bool false)) (rn (cq ?_))
 obtain ⟨r_1,hc,hF⟩:=bI hF
 obtain ⟨x1,hx,hF⟩:=bI hF
 obtain ⟨x2,hx1,hF⟩:=bI hF
 obtain ⟨r_2,hc1,hF⟩:=bI hF
 refine ra_start (hS2.se [0,1]).fn (by kernel_rfl) ?_
 have hS5:=hS2.drew
 refine rq 0 7 (v:=.agg V1.toArray) rfl (hS5.se [0,1]) (fun w' hw'=>(yb (aD b1) 0 V1 K34 K6 (ST.cf hw' (i:=1) rfl))) ?_
 refine rA [1] ?_
 refine rC 8 1 rfl (yC [.agg V1.toArray] K143 (c_spec_l22Two x _  (hS5.inn0 [] rfl) hc)) ?_ aN
 rintro _ w_2 ⟨rfl,hd⟩
 have hS6:=hS5.out00 hd
 refine ⟨(hS6.se [0,1]),?_⟩
 refine rq 2 9 (v:=.bool (!r_1)) rfl (hS6.se [0,1]) (fun w' hw'=>(Y_not (p:=r_1) rfl rfl)) ?_
 refine rq 3 10 rfl (hS6.se [0,1]) (fun w' hw'=>(ym (.bool (!r_1)))) ?_
 refine rG 4 11 (B:=(!(!r_1))) (v:=.agg V0.toArray) rfl rfl rfl (uF_ 10) (hS6.se [0,1]) (fun hg w' hw'=>(yb (aD b) 0 V0 K5 K3 (ST.cf hw' (i:=0) rfl))) ?_
 refine rG 5 12 (B:=(!(!r_1))) rfl rfl rfl (uF_ 10) (hS6.se [0,1]) (fun hg1 w' hw'=>(ym (.slice B1 place.length c1))) ?_
 refine rG 6 13 (B:=(!(!r_1))) (v:=pt (aD b1) 1) rfl rfl rfl (uF_ 10) (hS6.se [0,1]) (fun hg2 w' hw'=>(yd (aD b1) 0 0 K44 K0)) ?_
 refine rG 7 14 (B:=(!(!r_1))) rfl rfl rfl (uF_ 10) (hS6.se [0,1]) (fun hg3 w' hw'=>(yl (aD b1) 1 V1 (vi x.A) K1 (ST.cf hw' (i:=1) rfl) rfl (gv_of (v:=pt (aD b1) 1) hg3))) ?_
 refine rG 8 15 (B:=(!(!r_1))) (v:=pt B1 (x.A.toNat*1)) rfl rfl rfl (uF_ 10) (hS6.se [0,1]) (fun hg4 w' hw'=>(Y_index (B:=B1) (m:=place.length) (c:=c1) (k:=.i64) (i:=x.A) K2 K0 rfl (gv_of (v:=.slice B1 place.length c1) hg4) (gv_of (v:=vi x.A) hg4) (gi_isSome encI_len rfl (ST.rf hw' (i:=1) rfl) (gb_inv hx hg4)) (getI_nn (gb_inv hx hg4)) (getI_ltI (gb_inv hx hg4) rfl))) ?_
 refine rG 9 16 (B:=(!(!r_1))) rfl rfl rfl (uF_ 10) (hS6.se [0,1]) (fun hg5 w' hw'=>(yl B1 (x.A.toNat*1) (place.flatMap encI) (vi x1) K1 (ST.rf hw' (i:=1) rfl) rfl (gv_of (v:=pt B1 (x.A.toNat*1)) hg5) (gi_at0 encI_len (gb_inv hx hg5) rfl))) ?_
 refine rG 10 17 (B:=(!(!r_1))) rfl rfl rfl (uF_ 10) (hS6.se [0,1]) (fun hg6 w' hw'=>(ym (.slice B1 place.length c1))) ?_
 refine rG 11 18 (B:=(!(!r_1))) (v:=pt (aD b1) 2) rfl rfl rfl (uF_ 10) (hS6.se [0,1]) (fun hg7 w' hw'=>(yd (aD b1) 0 0 K52 K0)) ?_
 refine rG 12 19 (B:=(!(!r_1))) rfl rfl rfl (uF_ 10) (hS6.se [0,1]) (fun hg8 w' hw'=>(yl (aD b1) 2 V1 (vi x.B) K1 (ST.cf hw' (i:=1) rfl) rfl (gv_of (v:=pt (aD b1) 2) hg8))) ?_
 refine rG 13 20 (B:=(!(!r_1))) (v:=pt B1 (x.B.toNat*1)) rfl rfl rfl (uF_ 10) (hS6.se [0,1]) (fun hg9 w' hw'=>(Y_index (B:=B1) (m:=place.length) (c:=c1) (k:=.i64) (i:=x.B) K2 K0 rfl (gv_of (v:=.slice B1 place.length c1) hg9) (gv_of (v:=vi x.B) hg9) (gi_isSome encI_len rfl (ST.rf hw' (i:=1) rfl) (gb_inv hx1 hg9)) (getI_nn (gb_inv hx1 hg9)) (getI_ltI (gb_inv hx1 hg9) rfl))) ?_
 refine rG 14 21 (B:=(!(!r_1))) rfl rfl rfl (uF_ 10) (hS6.se [0,1]) (fun hg10 w' hw'=>(yl B1 (x.B.toNat*1) (place.flatMap encI) (vi x2) K1 (ST.rf hw' (i:=1) rfl) rfl (gv_of (v:=pt B1 (x.B.toNat*1)) hg10) (gi_at0 encI_len (gb_inv hx1 hg10) rfl))) ?_
 refine rA [15] ?_
 refine ra_gc 22 (i:=15) (B:=(!(!r_1))) (v:=.bool r_2) (F:=hS6.fn) rfl rfl rfl (uF_ 10) hS6 (fun hg11=>(yC [.agg V0.toArray,vi x1,vi x2] K122 (CV.mono (c_spec_l22Edge g x1 x2 B c g.Edges.length _ rfl (hS6.inn0 [(true,0)] rfl) (gb_inv hc1 hg11)) (by rintro _ _ ⟨rfl,h⟩; exact ⟨rfl,hS6.out00 h⟩)) rfl (mc (gv_of (v:=.agg V0.toArray) hg11) (mc (gv_of (v:=vi x1) hg11) (mc (gv_of (v:=vi x2) hg11) mn))))) ?_ ?_
 ·rintro w_3 hS7
  refine ⟨(hS7.se [0,1]),?_⟩
  refine rq 16 23 (v:=.bool ((!r_1)||r_2)) rfl (hS7.se [0,1]) (fun w' hw'=>(Y_or (b:=(!r_1)) (z:=r_2) rfl rfl rfl rfl)) ?_
  refine rq 17 6 rfl (hS7.se [0,1]) (fun w' hw'=>(yg (.bool ((!r_1)||r_2)))) ?_
  refine ra_done (by kernel_rfl) ?_
  refine ct_ ?_
  obtain rfl:=sI hF
  exact ret1 Try.results56 (v1:=.bool ((!r_1)||r_2)) (resAt_tmp rfl) ⟨rfl,(hS7.sN [])⟩
 exact aN

theorem c_spec_l23Qubits (x:TGate)  (w0:World)  (hS:ST w0 [] w0 [] []) {r_:List Int} (hF:F_spec_l23Qubits x=some r_) :
  CV Try.prog 88 #[.agg #[vi x.Kind,vi x.A,vi x.B]] w0 (fun v w'=>∃ (B:Option Addr) (c:Nat),v=.slice B r_.length c∧ST w0 [] w' [⟨B,3,(r_.flatMap encI),c*1⟩] []):=by
 unfold F_spec_l23Qubits at hF
 refine cv_of_cw 18 Try.func88 rfl Try.ntmps88 rfl ?_
 refine cq (cr ?_)
 let V0:List Value:=[vi x.Kind,vi x.A,vi x.B]
 refine sS 1 (yB 56 (.agg V0.toArray) V0 3 hS) ?_
 rintro _ w_ ⟨b,rfl,hS1⟩
 refine sQ 2 (yg (.slice none 0 0)) (rn (cq (cw_block (cq (cr ?_)))))
 refine sQ 4 (yd (aD b) 0 0 K51 K0)<|sQ 5 (yl (aD b) 0 V0 (vi x.Kind) K1 (hS1.c 0))<|sQ 6 (yE x.Kind 12)<|sQ 3 (yg (.bool (x.Kind==12))) (rn ?_)
 refine cw_cond (b:=(x.Kind==12)) rfl (fun hb=>?_) (fun hb=>?_)
 ·skip
  have hF1:=ct hF hb
  refine cq (cr ?_)
  refine sQ 2 (yg (.slice none 0 0)) (rn (ct_ ?_))
  have hS2:=hS1.addNil 3
  obtain rfl:=sI hF1
  exact ret1 Try.results88 (v1:=.slice none 0 0) (resAt_tmp rfl) ⟨none,0,rfl,(hS2.sN [1])⟩
 ·skip
  have hF2:=cf' hF hb
  refine cq (cr ?_)
  refine sQ 8 (yb (aD b) 0 V0 K34 K6 (hS1.c 0)) ?_
  obtain ⟨r_1,hc,hF2⟩:=bI hF2
  refine sc 9 rfl rfl (yC [.agg V0.toArray] K143 (c_spec_l22Two x _  (hS1.inn0 [] rfl) hc)) ?_
  rintro _ w_1 ⟨rfl,hd⟩
  have hS3:=hS1.out00 hd
  refine sQ 7 (yg (.bool r_1)) (rn ?_)
  refine cw_cond (b:=r_1) rfl (fun hb1=>?_) (fun hb1=>?_)
  ·skip
   have hF3:=ct hF2 hb1
   refine cq (cr ?_)
   refine sQ 10 (yd (aD b) 0 0 K44 K0)<|sQ 11 (yl (aD b) 1 V0 (vi x.A) K1 (hS3.c 0))<|sQ 12 (yd (aD b) 0 0 K52 K0)<|sQ 13 (yl (aD b) 2 V0 (vi x.B) K1 (hS3.c 0)) ?_
   refine sS 14 (Ys_bslice (s:=1) (len:=2) (vs:=[(0,vi x.A),(1,vi x.B)]) (cs:=[vi x.A,vi x.B]) (zs:=[vi 0,vi 0]) (m:=2) hS3 K2 K0 K30 rfl (mpc rfl (mpc rfl mpn)) rfl rfl rfl (by kernel_rfl) (by kernel_rfl) rfl) ?_
   rintro _ w_2 ⟨b1,rfl,hS4⟩
   refine sQ 2 (yg (.slice (aD b1) 2 2)) (rn (ct_ ?_))
   obtain rfl:=sI hF3
   exact ret1 Try.results88 (v1:=.slice (aD b1) 2 2) (resAt_tmp rfl) ⟨aD b1,2,rfl,(hS4.sN [1])⟩
  ·skip
   have hF4:=cf' hF2 hb1
   refine cw_skip (cq (cr ?_))
   refine sQ 15 (yd (aD b) 0 0 K44 K0)<|sQ 16 (yl (aD b) 1 V0 (vi x.A) K1 (hS3.c 0)) ?_
   refine sS 17 (Ys_bslice (s:=1) (len:=1) (vs:=[(0,vi x.A)]) (cs:=[vi x.A]) (zs:=[vi 0]) (m:=1) hS3 K2 K0 K30 rfl (mpc rfl mpn) rfl rfl rfl (by kernel_rfl) (by kernel_rfl) rfl) ?_
   rintro _ w_3 ⟨b2,rfl,hS5⟩
   refine sQ 2 (yg (.slice (aD b2) 1 1)) (rn (ct_ ?_))
   obtain rfl:=sI hF4
   exact ret1 Try.results88 (v1:=.slice (aD b2) 1 1) (resAt_tmp rfl) ⟨aD b2,1,rfl,(hS5.sN [1])⟩

theorem c_spec_l23Ready (c:TCircuit) (done:List Bool) (k_:Int) (B:Option Addr) (c1 n:Nat) (B1:Option Addr) (c2 n1:Nat) (w0:World) (hn:c.Gates.length=n) (hn1:done.length=n1) (hS:ST w0 [] w0 [] [⟨B,(c.Gates.flatMap eN2)⟩,⟨B1,(done.flatMap encB)⟩]) {r_:Bool} (hF:F_spec_l23Ready c done k_=some r_) :
  CV Try.prog 64 #[.agg #[vi c.Qubits,.slice B n c1],.slice B1 n1 c2,vi k_] w0 (fun v w'=>v=.bool r_∧ST w0 [] w' [] []):=by
 subst hn
 subst hn1
 unfold F_spec_l23Ready at hF
 refine cv_of_cw 57 Try.func64 rfl Try.ntmps64 rfl ?_
 refine cq (cr ?_)
 let V0:List Value:=[vi c.Qubits,.slice B c.Gates.length c1]
 refine sS 3 (yB 28 (.agg V0.toArray) V0 2 hS) ?_
 rintro _ w_ ⟨b,rfl,hS1⟩
 refine sQ 6 (yg (.bool false)) (rn (cq (cq (cr ?_))))
 refine sQ 11 (ym (vi k_))<|sQ 12 (yd (aD b) 0 0 K19 K16)<|sQ 13 (yl (aD b) 1 V0 (.slice B c.Gates.length c1) K21 (hS1.c 0))<|sQ 14 (Y_len (B:=B) (m:=c.Gates.length) (c:=c1) K12 rfl rfl)<|sQ 15 (yM (c.Gates.length:Int) 1) ?_
 obtain ⟨r_1,hc,hF⟩:=bI hF
 refine sc 16 rfl rfl (yC [vi k_,vi 0,vi (i64.wrap ((c.Gates.length:Int)-1))] K61 (c_spec_l1In k_ 0 (i64.wrap ((c.Gates.length:Int)-1)) _  (hS1.inn0 [] rfl) hc)) ?_
 rintro _ w_1 ⟨rfl,hd⟩
 have hS2:=hS1.out00 hd
 refine sQ 17 (Y_not (p:=r_1) rfl rfl)<|sQ 18 (ym (.bool (!r_1))) ?_
 refine sgq 19 (B:=(!(!r_1))) rfl rfl (uF_ 18) (fun hg=>(ym (.slice B1 done.length c2))) ?_
 refine sgq 20 (B:=(!(!r_1))) rfl rfl (uF_ 18) (fun hg1=>(ym (vi k_))) ?_
 obtain ⟨x,hx,hF⟩:=bI hF
 refine sgq 21 (B:=(!(!r_1))) (v:=pt B1 (k_.toNat*1)) rfl rfl (uF_ 18) (fun hg2=>(Y_index (B:=B1) (m:=done.length) (c:=c2) (k:=.i64) (i:=k_) K36 K37 rfl (gv_of (v:=.slice B1 done.length c2) hg2) (gv_of (v:=vi k_) hg2) (gi_isSome encB_len rfl (hS2.rf (i:=1) rfl) (gb_inv hx hg2)) (getI_nn (gb_inv hx hg2)) (getI_ltI (gb_inv hx hg2) rfl))) ?_
 refine sgq 22 (B:=(!(!r_1))) rfl rfl (uF_ 18) (fun hg3=>(yl B1 (k_.toNat*1) (done.flatMap encB) (.bool x) K97 (hS2.rf (i:=1) rfl) rfl (gv_of (v:=pt B1 (k_.toNat*1)) hg3) (gi_at0 encB_len (gb_inv hx hg3) rfl))) ?_
 refine sQ 23 (Y_or (b:=(!r_1)) (z:=x) rfl rfl rfl rfl) (rn ?_)
 refine cw_cond (b:=((!r_1)||x)) rfl (fun hb=>?_) (fun hb=>?_)
 ·skip
  have hF1:=ct hF hb
  refine cq (cr ?_)
  refine sQ 6 (yg (.bool false)) (rn (ct_ ?_))
  obtain rfl:=sI hF1
  exact ret1 Try.results64 (v1:=.bool false) (resAt_tmp rfl) ⟨rfl,(hS2.sN [])⟩
 ·skip
  have hF2:=cf' hF hb
  refine cw_skip (cq (cr ?_))
  refine sQ 24 (yd (aD b) 0 0 K19 K16)<|sQ 25 (yl (aD b) 1 V0 (.slice B c.Gates.length c1) K21 (hS2.c 0))<|sQ 26 (ym (vi k_)) ?_
  obtain ⟨x1,hx1,hF2⟩:=bI hF2
  refine sQ 27 (Y_index (B:=B) (m:=c.Gates.length) (c:=c1) (k:=.i64) (i:=k_) K12 K6 rfl rfl rfl (gi_isSome eN9 rfl (hS2.rf (i:=0) rfl) hx1) (getI_nn hx1) (getI_ltI hx1 rfl))<|sQ 28 (ya B (k_.toNat*3) (c.Gates.flatMap eN2) [vi x1.Kind,vi x1.A,vi x1.B] K34 K6 (hS2.rf (i:=0) rfl) rfl rfl (eN9 x1) (gi_seg eN9 hx1)) ?_
  obtain ⟨r_2,hc1,hF2⟩:=bI hF2
  refine sc 29 rfl rfl (yC [.agg #[vi x1.Kind,vi x1.A,vi x1.B]] k_call_88 (c_spec_l23Qubits x1 _  (hS2.inn0 [] rfl) hc1)) ?_
  rintro _ w_2 ⟨B2,c3,rfl,hd1⟩
  have hS3:=hS2.out0 hd1
  refine sQ 7 (yg (.slice B2 r_2.length c3)) (rn (cq (cq (cr ?_))))
  refine sQ 8 (yg (vi 0)) (rn ?_)
  obtain ⟨hN,hF2⟩:=chk_inv hF2
  obtain ⟨z,hz,hF3⟩:=bI hF2
  refine cw_block ?_
  refine cw_loop (fun k f w=>∃ (i1:Nat),FF f [(1,.slice B1 done.length c2),(2,vi k_),(3,pt (aD b) 0),(7,.slice B2 r_2.length c3),(8,vi (i1:Int))]∧ST w0 [] w [⟨aD b,28,V0,2⟩,⟨B2,3,(r_2.flatMap encI),c3*1⟩] [⟨B,(c.Gates.flatMap eN2)⟩,⟨B1,(done.flatMap encB)⟩]∧i1+k=k_.toNat∧forX (F_spec_l23Ready_l1 c done r_2) k i1 ()=some z) k_.toNat ⟨0,(fc rfl (fc rfl (fc rfl (fc rfl (fc rfl fn_))))),(hS3.sel [0,1] rfl rfl),Nat.zero_add _,hz⟩ ?_
  rintro K4 f w ⟨i1,hf,hS4,hik,hL⟩
  refine cq (cq (cr ?_))
  refine sQ 30 (ym (vi (i1:Int)) rfl (hf.g 8 4))<|sQ 31 (ym (vi k_) rfl (hf.g 2 1))<|sQ 32 (yL (i1:Int) k_) (rn ?_)
  refine cw_cond (b:=(decide ((i1:Int)<k_))) rfl (fun hlt=>?_) (fun hlt=>?_)
  ·skip
   have hlt1:i1<k_.toNat:=by have h:=of_decide_eq_true hlt; omega
   obtain ⟨K10,rfl⟩:∃ k2,K4=k2+1:=⟨K4-1,by omega⟩
   obtain ⟨y,hb1,hL1⟩:=forX_go hL
   unfold F_spec_l23Ready_l1 at hb1
   refine cw_skip (cq (cw_block (cq (cr ?_))))
   refine sQ 35 (yd (aD b) 0 0 K19 K16 rfl (hf.g 3 2))<|sQ 36 (yl (aD b) 1 V0 (.slice B c.Gates.length c1) K21 (hS4.c 0))<|sQ 37 (ym (vi (i1:Int)) rfl (hf.g 8 4)) ?_
   obtain ⟨x2,hx2,hb1⟩:=bI hb1
   refine sQ 38 (Y_index (B:=B) (m:=c.Gates.length) (c:=c1) (k:=.i64) (i:=(i1:Int)) K12 K6 rfl rfl rfl (gi_isSome eN9 rfl (hS4.rf (i:=0) rfl) hx2) (getI_nn hx2) (getI_ltI hx2 rfl))<|sQ 39 (ya B ((i1:Int).toNat*3) (c.Gates.flatMap eN2) [vi x2.Kind,vi x2.A,vi x2.B] K34 K6 (hS4.rf (i:=0) rfl) rfl rfl (eN9 x2) (gi_seg eN9 hx2)) ?_
   obtain ⟨r_3,hc2,hb1⟩:=bI hb1
   refine sc 40 rfl rfl (yC [.agg #[vi x2.Kind,vi x2.A,vi x2.B]] k_call_88 (c_spec_l23Qubits x2 _  (hS4.inn0 [] rfl) hc2)) ?_
   rintro _ w_3 ⟨B3,c4,rfl,hd2⟩
   have hS5:=hS4.out0 hd2
   refine sQ 41 (Y_len (B:=B3) (m:=r_3.length) (c:=c4) K2 rfl rfl)<|sQ 42 (ym (vi 0)) (rn ?_)
   obtain ⟨hN1,hb1⟩:=chk_inv hb1
   obtain ⟨z1,hz1,hF4⟩:=bI hb1
   refine cw_block ?_
   refine cw_loop (fun k f w=>∃ (i2:Nat),FF f [(1,.slice B1 done.length c2),(2,vi k_),(3,pt (aD b) 0),(7,.slice B2 r_2.length c3),(8,vi (i1:Int)),(40,.slice B3 r_3.length c4),(41,vi (r_3.length:Int)),(42,vi (i2:Int))]∧ST w0 [] w [⟨aD b,28,V0,2⟩,⟨B2,3,(r_2.flatMap encI),c3*1⟩,⟨B3,3,(r_3.flatMap encI),c4*1⟩] [⟨B,(c.Gates.flatMap eN2)⟩,⟨B1,(done.flatMap encB)⟩]∧i2+k=r_3.length∧forX (F_spec_l23Ready_l2 r_3 done i1 r_2) k i2 ()=some z1) r_3.length ⟨0,(hf.a 1 0 (hf.a 2 1 (hf.a 3 2 (hf.a 7 3 (hf.a 8 4 (fc rfl (fc rfl (fc rfl fn_)))))))),(hS5.sel [0,1,2] rfl rfl),Nat.zero_add _,hz1⟩ ?_
   rintro K18 f w ⟨i2,hf1,hS6,hik1,hL2⟩
   refine cq (cr ?_)
   refine sQ 43 (yL (i2:Int) (r_3.length:Int) rfl (hf1.g 42 7) (hf1.g 41 6)) (rn (cq ?_))
   refine cw_cond (b:=(decide ((i2:Int)<(r_3.length:Int)))) rfl (fun hlt2=>?_) (fun hlt2=>?_)
   ·skip
    have hlt3:i2<r_3.length:=by have h:=of_decide_eq_true hlt2; omega
    obtain ⟨K24,rfl⟩:∃ k2,K18=k2+1:=⟨K18-1,by omega⟩
    obtain ⟨y1,hb2,hL3⟩:=forX_go hL2
    unfold F_spec_l23Ready_l2 at hb2
    refine cw_skip (cq (cw_block (cq (cr ?_))))
    obtain ⟨x3,hx3,hb2⟩:=bI hb2
    refine sQ 44 (Y_index (B:=B3) (m:=r_3.length) (c:=c4) (k:=.i64) (i:=(i2:Int)) K2 K0 rfl (hf1.g 40 5) (hf1.g 42 7) (gi_isSome encI_len rfl (hS6.c 2) hx3) (getI_nn hx3) (getI_ltI hx3 rfl))<|sQ 45 (yl B3 ((i2:Int).toNat*1) (r_3.flatMap encI) (vi x3) K1 (hS6.c 2) rfl rfl (gi_at0 encI_len hx3 rfl))<|sQ 10 (yg (vi x3)) (rn (cq (cr ?_)))
    refine sQ 46 (ym (.slice B1 done.length c2) rfl (hf1.g 1 0))<|sQ 47 (ym (vi (i1:Int)) rfl (hf1.g 8 4)) ?_
    obtain ⟨x4,hx4,hb2⟩:=bI hb2
    refine sQ 48 (Y_index (B:=B1) (m:=done.length) (c:=c2) (k:=.i64) (i:=(i1:Int)) K36 K37 rfl rfl rfl (gi_isSome encB_len rfl (hS6.rf (i:=1) rfl) hx4) (getI_nn hx4) (getI_ltI hx4 rfl))<|sQ 49 (yl B1 ((i1:Int).toNat*1) (done.flatMap encB) (.bool x4) K97 (hS6.rf (i:=1) rfl) rfl rfl (gi_at0 encB_len hx4 rfl))<|sQ 50 (Y_not (p:=x4) rfl rfl)<|sQ 51 (ym (.bool (!x4))) ?_
    refine sgq 52 (B:=(!x4)) rfl rfl (uT_ 51) (fun hg4=>(ym (.slice B2 r_2.length c3) rfl (hf1.g 7 3))) ?_
    refine sgq 53 (B:=(!x4)) rfl rfl (uT_ 51) (fun hg5=>(ym (vi x3))) ?_
    obtain ⟨r_4,hc3,hb2⟩:=bI hb2
    refine sgc 54 (B:=(!x4)) (v:=.bool r_4) (F:=hS6.fn) rfl rfl (uT_ 51) hS6 (fun hg6=>(yC [.slice B2 r_2.length c3,vi x3] K118 (CV.mono (c_spec_l1Has r_2 x3 B2 c3 r_2.length _ rfl (hS6.inn0 [(false,1)] rfl) (gb_inv hc3 hg6)) (by rintro _ _ ⟨rfl,h⟩; exact ⟨rfl,hS6.out00 h⟩)) rfl (mc (gv_of (v:=.slice B2 r_2.length c3) hg6) (mc (gv_of (v:=vi x3) hg6) mn)))) ?_
    rintro w_4 hS7
    refine sQ 55 (Y_and (b:=(!x4)) (z:=r_4) rfl rfl rfl rfl) (rn ?_)
    refine cw_cond (b:=((!x4)&&r_4)) rfl (fun hb3=>?_) (fun hb3=>?_)
    ·skip
     have hF5:=ct hb2 hb3
     refine cq (cr ?_)
     refine sQ 6 (yg (.bool false)) (rn (ct_ ?_))
     obtain rfl:=sI hF5
     obtain rfl:=sI hL3
     obtain rfl:=sI hF4
     obtain rfl:=sI hL1
     obtain rfl:=sI hF3
     exact ret1 Try.results64 (v1:=.bool false) (resAt_tmp rfl) ⟨rfl,(hS7.sN [])⟩
    ·skip
     have hF6:=cf' hb2 hb3
     refine cw_skip (cr ?_)
     refine sQ 56 (yP (i2:Int) 1 rfl (hf1.g 42 7))<|sQ 42 (ym (vi (i64.wrap ((i2:Int)+1)))) (rn ?_)
     obtain rfl:=sI hF6
     exact ⟨K24,Nat.lt_succ_self _,i2+1,(hf1.a 1 0 (hf1.a 2 1 (hf1.a 3 2 (hf1.a 7 3 (hf1.a 8 4 (hf1.a 40 5 (hf1.a 41 6 (fc (congrArg (Value.int .i64) (wr_succ hlt3 hN1)) fn_)))))))),(hS7.sel [0,1,2] rfl rfl),(by omega),hL3⟩
   ·skip
    obtain rfl:K18=0:=by have h:=of_decide_eq_false hlt2; omega
    refine cw_exit rfl ?_
    obtain rfl:=sI hL2
    refine cr ?_
    refine sQ 33 (ym (vi (i1:Int)) rfl (hf1.g 8 4))<|sQ 34 (yP (i1:Int) 1)<|sQ 8 (yg (vi (i64.wrap ((i1:Int)+1)))) (rn ?_)
    obtain rfl:=sI hF4
    exact ⟨K10,Nat.lt_succ_self _,i1+1,(hf1.a 1 0 (hf1.a 2 1 (hf1.a 3 2 (hf1.a 7 3 (fc (congrArg (Value.int .i64) (wr_succ hlt1 hN)) fn_))))),(hS6.sel [0,1] rfl rfl),(by omega),hL1⟩
  ·skip
   obtain rfl:K4=0:=by have h:=of_decide_eq_false hlt; omega
   refine cw_exit rfl ?_
   obtain rfl:=sI hL
   refine cq (cr ?_)
   refine sQ 6 (yg (.bool true)) (rn (ct_ ?_))
   obtain rfl:=sI hF3
   exact ret1 Try.results64 (v1:=.bool true) (resAt_tmp rfl) ⟨rfl,(hS4.sN [])⟩

theorem c_spec_l23Run (g:TCouplingGraph) (c1:TCircuit) (x:Tl23Node) (B:Option Addr) (c n:Nat) (B1:Option Addr) (c2 n1:Nat) (B2:Option Addr) (c3 n2:Nat) (B3:Option Addr) (c4 n3:Nat) (B4:Option Addr) (c5 n4:Nat) (w0:World) (hn:g.Edges.length=n) (hn1:c1.Gates.length=n1) (hn2:x.place.length=n2) (hq:n2≤c3) (hn3:x.done.length=n3) (hn4:x.steps.length=n4) (hS:ST w0 (bl [⟨B4,60,(x.steps.flatMap eN0),c5*3⟩]) w0 [⟨B4,60,(x.steps.flatMap eN0),c5*3⟩] [⟨B,(g.Edges.flatMap eN1)⟩,⟨B1,(c1.Gates.flatMap eN2)⟩,⟨B2,(x.place.flatMap encI)⟩,⟨B3,(x.done.flatMap encB)⟩]) {r_:Tl23Node} (hF:F_spec_l23Run g c1 x=some r_) :
  CV Try.prog 79 #[.agg #[vi g.Nodes,.slice B n c],.agg #[vi c1.Qubits,.slice B1 n1 c2],.agg #[.slice B2 n2 c3,.slice B3 n3 c4,vi x.from_,.slice B4 n4 c5]] w0 (fun v w'=>∃ (B5:Option Addr) (c6:Nat) (B6:Option Addr) (c7:Nat) (B7:Option Addr) (c8:Nat),v=.agg #[.slice B5 r_.place.length c6,.slice B6 r_.done.length c7,vi r_.from_,.slice B7 r_.steps.length c8]∧r_.place.length≤c6∧Org w0 (bl [⟨B4,60,(x.steps.flatMap eN0),c5*3⟩]) [⟨B,(g.Edges.flatMap eN1)⟩,⟨B1,(c1.Gates.flatMap eN2)⟩,⟨B2,(x.place.flatMap encI)⟩,⟨B3,(x.done.flatMap encB)⟩] [⟨B5,(r_.place.flatMap encI)⟩]∧ST w0 (bl [⟨B4,60,(x.steps.flatMap eN0),c5*3⟩]) w' [⟨B6,4,(r_.done.flatMap encB),c7*1⟩,⟨B7,60,(r_.steps.flatMap eN0),c8*3⟩] [⟨B5,(r_.place.flatMap encI)⟩]):=by
 subst hn
 subst hn1
 subst hn2
 subst hn3
 subst hn4
 unfold F_spec_l23Run at hF
 refine cv_of_cw 48 Try.func79 rfl Try.ntmps79 rfl ?_
 refine cq (cr ?_)
 let V5:List Value:=[vi g.Nodes,.slice B g.Edges.length c]
 refine sS 3 (yB 25 (.agg V5.toArray) V5 2 hS) ?_
 rintro _ w_ ⟨b,rfl,hS1⟩
 let V4:List Value:=[vi c1.Qubits,.slice B1 c1.Gates.length c2]
 refine sS 4 (yB 28 (.agg V4.toArray) V4 2 hS1) ?_
 rintro _ w_1 ⟨b1,rfl,hS2⟩
 let V6:List Value:=[.slice B2 x.place.length c3,.slice B3 x.done.length c4,vi x.from_,.slice B4 x.steps.length c5]
 refine sS 5 (yB 122 (.agg V6.toArray) V6 4 hS2) ?_
 rintro _ w_2 ⟨b2,rfl,hS3⟩
 refine sS 6 (yN [.slice none 0 0,.slice none 0 0,vi 0,.slice none 0 0] 4 hS3 K33) ?_
 rintro _ w_3 ⟨b3,rfl,hS4⟩
 refine rn (cq (cr ?_))
 refine sS 8 (Ys_bslice0 (s:=1) (e:=4) hS4 K36 K37 rfl) ?_
 rintro _ w_4 ⟨b4,rfl,hS5⟩
 refine sQ 9 (yd (aD b2) 0 0 K89 K40)<|sQ 10 (yl (aD b2) 1 V6 (.slice B3 x.done.length c4) K56 (hS5.c 3)) ?_
 obtain ⟨hap,hF⟩:=chk_inv hF
 refine sS 11 (Ys_append (s:=1) (by':=1) (i:=5) (nn:=0) (c:=0) (k:=x.done.length) (len:=x.done.length) (B:=aD b4) (xs:=(x.done.flatMap encB)) (cs':=(x.done.flatMap encB)) hS5 K36 K37 K74 K68 rfl (by decide) rfl rfl rfl rfl (fm_lenn (l:=[]) encB_len rfl) rfl (hS5.rf (i:=3) rfl) (fm_lenn (l:=x.done) encB_len rfl) (fm_one' (enc:=encB) encB_one x.done) (by have:=hap; omega) (by have:=hap; simp only [maxLen]; omega) rfl (app_len0 (l:=x.done) rfl)) ?_
 rintro _ w_5 ⟨B8,c9,rfl,hS6⟩
 refine sQ 12 (yd (aD b2) 0 0 K89 K40) ?_
 refine s0 (yS 3 1 (aD b2) 122 (.slice B8 x.done.length c9) [.slice B8 x.done.length c9] 1 [.slice B2 x.place.length c3,.slice B8 x.done.length c9,vi x.from_,.slice B4 x.steps.length c5] hS6 K40) ?_
 rintro _ w_6 ⟨rfl,hS7⟩
 refine rn (cq (cq (cr ?_)))
 refine sQ 7 (yg (vi 0)) (rn ?_)
 obtain ⟨z,hz,hF1⟩:=bI hF
 refine cw_block ?_
 let O0:Ob:=⟨aD b3,122,[.slice none 0 0,.slice none 0 0,vi 0,.slice none 0 0],4⟩
 let O1:Ob:=⟨aD b1,28,V4,2⟩
 refine cw_loop (fun k f w=>∃ (done:List Bool) (steps:List TRouteStep) (k_:Int) (B9:Option Addr) (c10:Nat),FF f [(3,pt (aD b) 0),(4,pt (aD b1) 0),(5,pt (aD b2) 0),(6,pt (aD b3) 0),(7,vi k_)]∧done.length=x.done.length∧ST w0 (bl [⟨B4,60,(x.steps.flatMap eN0),c5*3⟩]) w [⟨aD b,25,V5,2⟩,O1,⟨aD b2,122,[.slice B2 x.place.length c3,.slice B8 x.done.length c9,vi x.from_,.slice B9 steps.length c10],4⟩,⟨B8,4,(done.flatMap encB),c9*1⟩,⟨B9,60,(steps.flatMap eN0),c10*3⟩,O0] [⟨B,(g.Edges.flatMap eN1)⟩,⟨B1,(c1.Gates.flatMap eN2)⟩,⟨B2,(x.place.flatMap encI)⟩,⟨B3,(x.done.flatMap encB)⟩]∧whX (F_spec_l23Run_l1 c1 g x) k (done,steps,k_)=some z) fuel ⟨x.done,x.steps,0,B4,c5,(fc rfl (fc rfl (fc rfl (fc rfl (fc rfl fn_))))),rfl,(hS7.sel [1,2,3,5,0,4] rfl rfl),hz⟩ ?_
 rintro K4 f w ⟨done,steps,k_,B9,c10,hf,hl,hS8,hL⟩
 obtain ⟨K10,y,rfl,hb,hL1⟩:=whX_go hL
 unfold F_spec_l23Run_l1 at hb
 refine cq (cq (cr ?_))
 refine sQ 13 (ym (vi k_) rfl (hf.g 7 4))<|sQ 14 (yd (aD b1) 0 0 K19 K16 rfl (hf.g 4 1))<|sQ 15 (yl (aD b1) 1 V4 (.slice B1 c1.Gates.length c2) K21 (hS8.c 1))<|sQ 16 (Y_len (B:=B1) (m:=c1.Gates.length) (c:=c2) K12 rfl rfl)<|sQ 17 (yL k_ (c1.Gates.length:Int)) (rn ?_)
 refine cw_cond (b:=(decide (k_<(c1.Gates.length:Int)))) rfl (fun hb1=>?_) (fun hb1=>?_)
 ·skip
  have hF2:=ct hb hb1
  refine cw_skip (cq ?_)
  obtain ⟨z1,hz1,hF3⟩:=bI hF2
  refine cw_mid (fun f w=>∃ (done1:List Bool) (steps1:List TRouteStep) (K18:Int) (B10:Option Addr) (c11:Nat),(done1,steps1,K18)=z1∧FF f [(3,pt (aD b) 0),(4,pt (aD b1) 0),(5,pt (aD b2) 0),(6,pt (aD b3) 0),(7,vi K18)]∧done1.length=x.done.length∧ST w0 (bl [⟨B4,60,(x.steps.flatMap eN0),c5*3⟩]) w [⟨aD b,25,V5,2⟩,O1,⟨aD b2,122,[.slice B2 x.place.length c3,.slice B8 x.done.length c9,vi x.from_,.slice B10 steps1.length c11],4⟩,⟨B8,4,(done1.flatMap encB),c9*1⟩,⟨B10,60,(steps1.flatMap eN0),c11*3⟩,O0] [⟨B,(g.Edges.flatMap eN1)⟩,⟨B1,(c1.Gates.flatMap eN2)⟩,⟨B2,(x.place.flatMap encI)⟩,⟨B3,(x.done.flatMap encB)⟩]) ?_ ?_
  ·skip
   refine cw_block (cq ?_)
   obtain ⟨r_1,hc,hz1⟩:=bI hz1
   obtain ⟨x1,hx,hz1⟩:=bI hz1
   obtain ⟨r_2,hc1,hz1⟩:=bI hz1
   refine ra_start (hS8.se [0,1,2,3,4,5]).fn (by kernel_rfl) ?_
   have hS12:=hS8.drew
   refine rq 0 20 (v:=.agg V4.toArray) rfl (hS12.se [0,1,2,3,4,5]) (fun w' hw'=>(yb (aD b1) 0 V4 K14 K7 (ST.cf hw' (i:=1) rfl) rfl (hf.g 4 1))) ?_
   refine rq 1 21 (v:=pt (aD b2) 1) rfl (hS12.se [0,1,2,3,4,5]) (fun w' hw'=>(yd (aD b2) 0 0 K89 K40 rfl (hf.g 5 2))) ?_
   let V2:List Value:=[.slice B2 x.place.length c3,.slice B8 x.done.length c9,vi x.from_,.slice B9 steps.length c10]
   refine rq 2 22 rfl (hS12.se [0,1,2,3,4,5]) (fun w' hw'=>(yl (aD b2) 1 V2 (.slice B8 x.done.length c9) K56 (ST.cf hw' (i:=2) rfl))) ?_
   refine rq 3 23 rfl (hS12.se [0,1,2,3,4,5]) (fun w' hw'=>(ym (vi k_) rfl (hf.g 7 4))) ?_
   refine rA [4] ?_
   refine rC 24 4 rfl (yC [.agg V4.toArray,.slice B8 x.done.length c9,vi k_] k_call_64 (c_spec_l23Ready c1 done k_ B1 c2 c1.Gates.length B8 c9 x.done.length _ rfl hl (hS12.inn0 [(true,1),(false,3)] rfl) hc)) ?_ aN
   rintro _ w_7 ⟨rfl,hd⟩
   have hS13:=hS12.out00 hd
   refine ⟨(hS13.se [0,1,2,3,4,5]),?_⟩
   refine rq 5 25 rfl (hS13.se [0,1,2,3,4,5]) (fun w' hw'=>(ym (.bool r_1))) ?_
   refine rG 6 26 (B:=r_1) (v:=.agg V5.toArray) rfl rfl rfl (uT_ 25) (hS13.se [0,1,2,3,4,5]) (fun hg w' hw'=>(yb (aD b) 0 V5 K5 K3 (ST.cf hw' (i:=0) rfl) rfl (hf.g 3 0))) ?_
   refine rG 7 27 (B:=r_1) (v:=pt (aD b2) 0) rfl rfl rfl (uT_ 25) (hS13.se [0,1,2,3,4,5]) (fun hg1 w' hw'=>(yd (aD b2) 0 0 K102 K11 rfl (hf.g 5 2))) ?_
   refine rG 8 28 (B:=r_1) rfl rfl rfl (uT_ 25) (hS13.se [0,1,2,3,4,5]) (fun hg2 w' hw'=>(yl (aD b2) 0 V2 (.slice B2 x.place.length c3) K25 (ST.cf hw' (i:=2) rfl) rfl (gv_of (v:=pt (aD b2) 0) hg2))) ?_
   refine rG 9 29 (B:=r_1) (v:=pt (aD b1) 1) rfl rfl rfl (uT_ 25) (hS13.se [0,1,2,3,4,5]) (fun hg3 w' hw'=>(yd (aD b1) 0 0 K19 K16 rfl (hf.g 4 1))) ?_
   refine rG 10 30 (B:=r_1) rfl rfl rfl (uT_ 25) (hS13.se [0,1,2,3,4,5]) (fun hg4 w' hw'=>(yl (aD b1) 1 V4 (.slice B1 c1.Gates.length c2) K21 (ST.cf hw' (i:=1) rfl) rfl (gv_of (v:=pt (aD b1) 1) hg4))) ?_
   refine rG 11 31 (B:=r_1) rfl rfl rfl (uT_ 25) (hS13.se [0,1,2,3,4,5]) (fun hg5 w' hw'=>(ym (vi k_) rfl (hf.g 7 4))) ?_
   refine rG 12 32 (B:=r_1) (v:=pt B1 (k_.toNat*3)) rfl rfl rfl (uT_ 25) (hS13.se [0,1,2,3,4,5]) (fun hg6 w' hw'=>(Y_index (B:=B1) (m:=c1.Gates.length) (c:=c2) (k:=.i64) (i:=k_) K12 K6 rfl (gv_of (v:=.slice B1 c1.Gates.length c2) hg6) (gv_of (v:=vi k_) hg6) (gi_isSome eN9 rfl (ST.rf hw' (i:=1) rfl) (gb_inv hx hg6)) (getI_nn (gb_inv hx hg6)) (getI_ltI (gb_inv hx hg6) rfl))) ?_
   let V7:List Value:=[vi x1.Kind,vi x1.A,vi x1.B]
   refine rG 13 33 (B:=r_1) (v:=.agg V7.toArray) rfl rfl rfl (uT_ 25) (hS13.se [0,1,2,3,4,5]) (fun hg7 w' hw'=>(ya B1 (k_.toNat*3) (c1.Gates.flatMap eN2) V7 K34 K6 (ST.rf hw' (i:=1) rfl) rfl (gv_of (v:=pt B1 (k_.toNat*3)) hg7) (eN9 x1) (gi_seg eN9 (gb_inv hx hg7)))) ?_
   refine rA [14] ?_
   refine ra_gc 34 (i:=14) (B:=r_1) (v:=.bool r_2) (F:=hS13.fn) rfl rfl rfl (uT_ 25) hS13 (fun hg8=>(yC [.agg V5.toArray,.slice B2 x.place.length c3,.agg V7.toArray] K145 (CV.mono (c_spec_l23Near g x.place x1 B c g.Edges.length B2 c3 x.place.length _ rfl rfl (hS13.inn0 [(true,0),(true,2)] rfl) (gb_inv hc1 hg8)) (by rintro _ _ ⟨rfl,h⟩; exact ⟨rfl,hS13.out00 h⟩)) rfl (mc (gv_of (v:=.agg V5.toArray) hg8) (mc (gv_of (v:=.slice B2 x.place.length c3) hg8) (mc (gv_of (v:=.agg V7.toArray) hg8) mn))))) ?_ ?_
   ·rintro w_8 hS14
    refine ⟨(hS14.se [0,1,2,3,4,5]),?_⟩
    refine rq 15 35 (v:=.bool (r_1&&r_2)) rfl (hS14.se [0,1,2,3,4,5]) (fun w' hw'=>(Y_and (b:=r_1) (z:=r_2) rfl rfl rfl rfl)) ?_
    refine ra_done (by kernel_rfl) ?_
    refine cw_cond (b:=(r_1&&r_2)) rfl (fun hb2=>?_) (fun hb2=>?_)
    ·skip
     have hF4:=ct hz1 hb2
     refine cq (cr ?_)
     refine sQ 36 (yd (aD b2) 0 0 K89 K40 rfl (hf.g 5 2))<|sQ 37 (yl (aD b2) 1 V2 (.slice B8 x.done.length c9) K56 (hS14.c 2))<|sQ 38 (ym (vi k_) rfl (hf.g 7 4)) ?_
     obtain ⟨x2,hx1,hF4⟩:=bI hF4
     refine sQ 39 (Y_index (B:=B8) (m:=x.done.length) (c:=c9) (k:=.i64) (i:=k_) K36 K37 rfl rfl rfl (gi_isSome encB_len rfl (hS14.c 3) hx1) (getI_nn hx1) (getI_ltI hx1 hl)) ?_
     refine s0 (yS 3 1 B8 4 (.bool true) [.bool true] (k_.toNat*1) ((done.set k_.toNat true).flatMap encB) hS14 K37 rfl rfl rfl rfl rfl rfl rfl (gi_fit0 encB_len hx1) (gi_set encB_len hx1 true rfl)) ?_
     rintro _ w_9 ⟨rfl,hS15⟩
     refine rn (cq (cr ?_))
     refine sQ 40 (yd (aD b2) 0 0 K146 K15 rfl (hf.g 5 2))<|sQ 41 (yl (aD b2) 3 V2 (.slice B9 steps.length c10) K31 (hS15.c 2))<|sQ 42 (ym (vi k_) rfl (hf.g 7 4))<|sQ 43 (Y_buildS (zs:=[vi 0,vi 0,vi 0]) (vs:=[(0,vi k_)]) (cs:=[vi k_,vi 0,vi 0]) K82 K23 rfl (mpc rfl mpn) rfl) ?_
     refine sS 44 (Ys_bslice (s:=3) (len:=1) (vs:=[(0,.agg #[vi k_,vi 0,vi 0])]) (cs:=[vi k_,vi 0,vi 0]) (zs:=[vi 0,vi 0,vi 0]) (m:=3) hS15 K9 K8 K50 rfl (mpc rfl mpn) rfl rfl rfl (by kernel_rfl) (by kernel_rfl) rfl) ?_
     rintro _ w_10 ⟨b5,rfl,hS16⟩
     obtain ⟨hap1,hF4⟩:=chk_inv hF4
     refine sS 45 (Ys_append (s:=3) (by':=24) (i:=4) (nn:=steps.length) (c:=c10) (k:=1) (len:=(steps++[(TRouteStep.mk k_ 0 0)]).length) (B:=B9) (xs:=([(TRouteStep.mk k_ 0 0)].flatMap eN0)) (cs':=((steps++[(TRouteStep.mk k_ 0 0)]).flatMap eN0)) hS16 K9 K8 K41 K23 rfl (by decide) rfl rfl rfl rfl (fm_lenn (l:=steps) eN8 rfl) rfl (hS16.c 6) (fm_lenn (l:=[(TRouteStep.mk k_ 0 0)]) eN8 rfl) (fm_one' (enc:=eN0) enc_RouteStep_one [(TRouteStep.mk k_ 0 0)]) (by have:=hap1; omega) (by have:=hap1; simp only [maxLen]; omega) (fm_app _ _) (app_len (l:=steps) (l':=[(TRouteStep.mk k_ 0 0)]) rfl rfl)) ?_
     rintro _ w_11 ⟨B11,c12,rfl,hS17⟩
     refine sQ 46 (yd (aD b2) 0 0 K146 K15 rfl (hf.g 5 2)) ?_
     refine s0 (yS 2 1 (aD b2) 122 (.slice B11 ((steps++[(TRouteStep.mk k_ 0 0)]).length) c12) [.slice B11 ((steps++[(TRouteStep.mk k_ 0 0)]).length) c12] 3 [.slice B2 x.place.length c3,.slice B8 x.done.length c9,vi x.from_,.slice B11 ((steps++[(TRouteStep.mk k_ 0 0)]).length) c12] hS17 K15) ?_
     rintro _ w_12 ⟨rfl,hS18⟩
     refine rn (cr ?_)
     refine sQ 7 (yg (vi (-1))) (rn ?_)
     exact ⟨(done.set k_.toNat true),(steps++[(TRouteStep.mk k_ 0 0)]),(-1),B11,c12,(sI hF4),(hf.a 3 0 (hf.a 4 1 (hf.a 5 2 (hf.a 6 3 (fc rfl fn_))))),(set_len _ _ _ hl),(hS18.sel [0,1,2,3,4,5] rfl rfl)⟩
    ·skip
     have hF5:=cf' hz1 hb2
     refine cw_skip ?_
     exact ⟨done,steps,k_,B9,c10,(sI hF5),(hf.a 3 0 (hf.a 4 1 (hf.a 5 2 (hf.a 6 3 (hf.a 7 4 fn_))))),hl,(hS14.sel [0,1,2,3,4,5] rfl rfl)⟩
   exact aN
  rintro f w ⟨done1,steps1,K18,B10,c11,rfl,hf1,hl1,hS9⟩
  refine cr ?_
  refine sQ 18 (ym (vi K18) rfl (hf1.g 7 4))<|sQ 19 (yP K18 1)<|sQ 7 (yg (vi (i64.wrap (K18+1)))) (rn ?_)
  obtain rfl:=sI hF3
  exact ⟨K10,Nat.lt_succ_self _,done1,steps1,(i64.wrap (K18+1)),B10,c11,(hf1.a 3 0 (hf1.a 4 1 (hf1.a 5 2 (hf1.a 6 3 (fc rfl fn_))))),hl1,(hS9.sel [0,1,2,3,4,5] rfl rfl),hL1⟩
 ·skip
  have hF6:=cf' hb hb1
  refine cw_exit rfl ?_
  obtain rfl:=sI hF6
  obtain rfl:=sI hL1
  refine cq (cr ?_)
  let V3:List Value:=[.slice B2 x.place.length c3,.slice B8 x.done.length c9,vi x.from_,.slice B9 steps.length c10]
  refine sQ 47 (yb (aD b2) 0 V3 K123 K28 (hS8.c 2) rfl (hf.g 5 2)) ?_
  refine s0 (yT 5 4 (aD b3) 122 (.agg V3.toArray) V3 0 hS8 K28 rfl (hf.g 6 3)) ?_
  rintro _ w_13 ⟨rfl,hS19⟩
  refine rn (ct_ ?_)
  obtain rfl:=sI hF1
  exact ret1 Try.results79 (v1:=.agg V3.toArray) (resAt_cellA (B:=aD b3) (i:=0) (cs:=V3) (vs:=V3) (hf.g 6 3) K123 K28 (hS19.c 5) rfl rfl) ⟨B2,c3,B8,c9,B9,c10,(by simp +zetaDelta [hl]),(len_le rfl hq),(org_cons (org_mem (i:=2) rfl) org_nil),((hS19.sel [3,4] rfl rfl).sT [2])⟩

theorem c_spec_l23Code (place:List Int) (B:Option Addr) (c n:Nat) (w0:World) (hn:place.length=n) (hS:ST w0 [] w0 [] [⟨B,(place.flatMap encI)⟩]) {r_:Int} (hF:F_spec_l23Code place=some r_) :
  CV Try.prog 80 #[.slice B n c] w0 (fun v w'=>v=vi r_∧ST w0 [] w' [] []):=by
 subst hn
 unfold F_spec_l23Code at hF
 refine cv_of_cw 18 Try.func80 rfl Try.ntmps80 rfl ?_
 refine cq (cr ?_)
 refine sQ 2 (yg (vi 0)) (rn (cq (cr ?_)))
 refine sQ 3 (yg (vi 0)) (rn (cq (cq (cr ?_))))
 refine sQ 6 (ym (.slice B place.length c))<|sQ 7 (Y_len (B:=B) (m:=place.length) (c:=c) K2 rfl rfl)<|sQ 8 (ym (vi 0)) (rn ?_)
 obtain ⟨hN,hF⟩:=chk_inv hF
 obtain ⟨z,hz,hF1⟩:=bI hF
 refine cw_block ?_
 refine cw_loop (fun k f w=>∃ (i:Nat) (n1:Int),FF f [(3,vi n1),(6,.slice B place.length c),(7,vi (place.length:Int)),(8,vi (i:Int))]∧ST w0 [] w [] [⟨B,(place.flatMap encI)⟩]∧i+k=place.length∧forN (F_spec_l23Code_l1 place) k i n1=some z) place.length ⟨0,0,(fc rfl (fc rfl (fc rfl (fc rfl fn_)))),(hS.sel [] rfl rfl),Nat.zero_add _,hz⟩ ?_
 rintro k_ f w ⟨i,n1,hf,hS1,hik,hL⟩
 refine cq (cr ?_)
 refine sQ 9 (yL (i:Int) (place.length:Int) rfl (hf.g 8 3) (hf.g 7 2)) (rn (cq ?_))
 refine cw_cond (b:=(decide ((i:Int)<(place.length:Int)))) rfl (fun hlt=>?_) (fun hlt=>?_)
 ·skip
  have hlt1:i<place.length:=by have h:=of_decide_eq_true hlt; omega
  obtain ⟨K4,rfl⟩:∃ k2,k_=k2+1:=⟨k_-1,by omega⟩
  obtain ⟨y,hb,hL1⟩:=forN_go hL
  unfold F_spec_l23Code_l1 at hb
  refine cw_skip (cq (cw_block (cq (cr ?_))))
  obtain ⟨x,hx,hb⟩:=bI hb
  refine sQ 10 (Y_index (B:=B) (m:=place.length) (c:=c) (k:=.i64) (i:=(i:Int)) K2 K0 rfl (hf.g 6 1) (hf.g 8 3) (gi_isSome encI_len rfl (hS1.rf (i:=0) rfl) hx) (getI_nn hx) (getI_ltI hx rfl))<|sQ 11 (yl B ((i:Int).toNat*1) (place.flatMap encI) (vi x) K1 (hS1.rf (i:=0) rfl) rfl rfl (gi_at0 encI_len hx rfl))<|sQ 5 (yg (vi x)) (rn (cr ?_))
  refine sQ 12 (ym (vi n1) rfl (hf.g 3 0))<|sQ 13 (yX n1 5)<|sQ 14 (ym (vi x))<|sQ 15 (yP (i64.wrap (n1*5)) x)<|sQ 3 (yg (vi (i64.wrap ((i64.wrap (n1*5))+x)))) (rn (cr ?_))
  refine sQ 16 (yP (i:Int) 1 rfl (hf.g 8 3))<|sQ 8 (ym (vi (i64.wrap ((i:Int)+1)))) (rn ?_)
  obtain rfl:=sI hb
  exact ⟨K4,Nat.lt_succ_self _,i+1,(i64.wrap ((i64.wrap (n1*5))+x)),(fc rfl (hf.a 6 1 (hf.a 7 2 (fc (congrArg (Value.int .i64) (wr_succ hlt1 hN)) fn_)))),(hS1.sel [] rfl rfl),(by omega),hL1⟩
 ·skip
  obtain rfl:k_=0:=by have h:=of_decide_eq_false hlt; omega
  refine cw_exit rfl ?_
  obtain rfl:=sI hL
  refine cq (cr ?_)
  refine sQ 17 (ym (vi n1) rfl (hf.g 3 0))<|sQ 2 (yg (vi n1)) (rn (ct_ ?_))
  obtain rfl:=sI hF1
  exact ret1 Try.results80 (v1:=vi n1) (resAt_tmp rfl) ⟨rfl,(hS1.sN [])⟩

theorem c_spec_l23Mask (done:List Bool) (B:Option Addr) (c n:Nat) (w0:World) (hn:done.length=n) (hS:ST w0 [] w0 [] [⟨B,(done.flatMap encB)⟩]) {r_:Int} (hF:F_spec_l23Mask done=some r_) :
  CV Try.prog 81 #[.slice B n c] w0 (fun v w'=>v=vi r_∧ST w0 [] w' [] []):=by
 subst hn
 unfold F_spec_l23Mask at hF
 refine cv_of_cw 21 Try.func81 rfl Try.ntmps81 rfl ?_
 refine cq (cr ?_)
 refine sQ 2 (yg (vi 0)) (rn (cq (cr ?_)))
 refine sQ 3 (yg (vi 0)) (rn (cq (cq (cr ?_))))
 refine sQ 6 (ym (.slice B done.length c))<|sQ 7 (Y_len (B:=B) (m:=done.length) (c:=c) K36 rfl rfl)<|sQ 8 (ym (vi 0)) (rn ?_)
 obtain ⟨hN,hF⟩:=chk_inv hF
 obtain ⟨z,hz,hF1⟩:=bI hF
 refine cw_block ?_
 refine cw_loop (fun k f w=>∃ (i:Nat) (set_:Int),FF f [(3,vi set_),(6,.slice B done.length c),(7,vi (done.length:Int)),(8,vi (i:Int))]∧ST w0 [] w [] [⟨B,(done.flatMap encB)⟩]∧i+k=done.length∧forN (F_spec_l23Mask_l1 done) k i set_=some z) done.length ⟨0,0,(fc rfl (fc rfl (fc rfl (fc rfl fn_)))),(hS.sel [] rfl rfl),Nat.zero_add _,hz⟩ ?_
 rintro k_ f w ⟨i,set_,hf,hS1,hik,hL⟩
 refine cq (cr ?_)
 refine sQ 9 (yL (i:Int) (done.length:Int) rfl (hf.g 8 3) (hf.g 7 2)) (rn (cq ?_))
 refine cw_cond (b:=(decide ((i:Int)<(done.length:Int)))) rfl (fun hlt=>?_) (fun hlt=>?_)
 ·skip
  have hlt1:i<done.length:=by have h:=of_decide_eq_true hlt; omega
  obtain ⟨K4,rfl⟩:∃ k2,k_=k2+1:=⟨k_-1,by omega⟩
  obtain ⟨y,hb,hL1⟩:=forN_go hL
  unfold F_spec_l23Mask_l1 at hb
  refine cw_skip (cq ?_)
  obtain ⟨z1,hz1,hF2⟩:=bI hb
  refine cw_mid (fun f w=>∃ (set_1:Int),set_1=z1∧FF f [(3,vi set_1),(6,.slice B done.length c),(7,vi (done.length:Int)),(8,vi (i:Int))]∧ST w0 [] w [] [⟨B,(done.flatMap encB)⟩]) ?_ ?_
  ·skip
   refine cw_block (cq (cr ?_))
   refine sQ 10 (ym (vi (i:Int)) rfl (hf.g 8 3)) ?_
   obtain ⟨x,hx,hz1⟩:=bI hz1
   refine sQ 11 (Y_index (B:=B) (m:=done.length) (c:=c) (k:=.i64) (i:=(i:Int)) K36 K37 rfl (hf.g 6 1) (hf.g 8 3) (gi_isSome encB_len rfl (hS1.rf (i:=0) rfl) hx) (getI_nn hx) (getI_ltI hx rfl))<|sQ 12 (yl B ((i:Int).toNat*1) (done.flatMap encB) (.bool x) K97 (hS1.rf (i:=0) rfl) rfl rfl (gi_at0 encB_len hx rfl))<|sQ 4 (yg (vi (i:Int)))<|sQ 5 (yg (.bool x)) (rn (cq (cr ?_)))
   refine sQ 13 (ym (.bool x)) (rn ?_)
   refine cw_cond (b:=x) rfl (fun hb1=>?_) (fun hb1=>?_)
   ·skip
    have hF3:=ct hz1 hb1
    refine cr ?_
    refine sQ 14 (ym (vi set_) rfl (hf.g 3 0))<|sQ 15 (ym (vi (i:Int)))<|sQ 16 (Y_conv (k:=.i64) (a:=(i:Int)) (T:=3) (T':=112) K110 K124 rfl rfl) ?_
    obtain ⟨hsh,hF3⟩:=chk_inv hF3
    refine sQ 17 (Y_shl (k:=.i64) (a:=1) (k':=.u64) (b:=(IntKind.u64.wrap (i:Int))) rfl rfl rfl hsh)<|sQ 18 (Y_bor (k:=.i64) (a:=set_) (b:=(shlK .i64 1 (IntKind.u64.wrap (i:Int)))) rfl rfl rfl)<|sQ 3 (yg (vi (bits .or .i64 set_ (shlK .i64 1 (IntKind.u64.wrap (i:Int)))))) (rn ?_)
    exact ⟨(bits .or .i64 set_ (shlK .i64 1 (IntKind.u64.wrap (i:Int)))),(sI hF3),(fc rfl (hf.a 6 1 (hf.a 7 2 (hf.a 8 3 fn_)))),(hS1.sel [] rfl rfl)⟩
   ·skip
    have hF4:=cf' hz1 hb1
    refine cw_skip ?_
    exact ⟨set_,(sI hF4),(hf.a 3 0 (hf.a 6 1 (hf.a 7 2 (hf.a 8 3 fn_)))),(hS1.sel [] rfl rfl)⟩
  rintro f w ⟨set_1,rfl,hf1,hS2⟩
  refine cr ?_
  refine sQ 19 (yP (i:Int) 1 rfl (hf1.g 8 3))<|sQ 8 (ym (vi (i64.wrap ((i:Int)+1)))) (rn ?_)
  obtain rfl:=sI hF2
  exact ⟨K4,Nat.lt_succ_self _,i+1,set_1,(hf1.a 3 0 (hf1.a 6 1 (hf1.a 7 2 (fc (congrArg (Value.int .i64) (wr_succ hlt1 hN)) fn_)))),(hS2.sel [] rfl rfl),(by omega),hL1⟩
 ·skip
  obtain rfl:k_=0:=by have h:=of_decide_eq_false hlt; omega
  refine cw_exit rfl ?_
  obtain rfl:=sI hL
  refine cq (cr ?_)
  refine sQ 20 (ym (vi set_) rfl (hf.g 3 0))<|sQ 2 (yg (vi set_)) (rn (ct_ ?_))
  obtain rfl:=sI hF1
  exact ret1 Try.results81 (v1:=vi set_) (resAt_tmp rfl) ⟨rfl,(hS1.sN [])⟩
end Go.VK
