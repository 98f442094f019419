/- Walks: each Go function returns what its Lean function says. By program. -/
import Derived.Test.YteafjgodcdlanaaLRoutesFa
import Derived.Test.YteafjgodcdlanaaLibU
import Derived.Test.YteafjgodcdlanaaLibX
import Derived.Test.YteafjgodcdlanaaLibW
import Derived.Test.YteafjgodcdlanaaLRoutesW5
set_option linter.unusedVariables false
set_option maxRecDepth 100000
set_option maxHeartbeats 4000000
namespace Go.VK
open Go.RowKit
open Go.Proofs
open Go.IntKind
attribute [local irreducible] CW RW RA CV Y Yw Yc Ys RetOf
attribute [local irreducible] F_spec_DrawLeastSwaps F_impl_LeastSwaps F_spec_LeastSwaps F_spec_DrawCheckRoute F_impl_CheckRoute F_spec_CheckRoute F_impl_RouteFrom F_impl_SwapBound F_impl_IsPlacement F_laws_qSwaps F_laws_qInts F_impl_GreedyRoute F_laws_FnRoutes
theorem c_laws_FnRoutes (code:List Int) (more:List Int) (B:Option Addr) (c n:Nat) (B1:Option Addr) (c1 n1:Nat) (w0:World) (hn:code.length=n) (hn1:more.length=n1) (hS:ST w0 [] w0 [] [⟨B,(code.flatMap enc_u8)⟩,⟨B1,(more.flatMap enc_u8)⟩]) {r_:Bool} (hF:F_laws_FnRoutes code more=some r_) :
  CV Try.prog 3 #[.slice B n c,.slice B1 n1 c1] w0 (fun v w'=>v=.bool r_∧ST w0 [] w' [] []):=by
 subst hn
 subst hn1
 unfold F_laws_FnRoutes at hF
 refine cv_of_cw 206 Try.func3 rfl Try.ntmps3 rfl ?_
 refine cq (cr ?_)
 refine sQ 4 (yg (.bool false)) (rn (cq (cq (cr ?_))))
 refine sQ 35 (ym (.slice B code.length c))<|sQ 36 (Y_len (B:=B) (m:=code.length) (c:=c) K108 rfl rfl)<|sQ 37 (ym (.slice B1 more.length c1))<|sQ 38 (Y_len (B:=B1) (m:=more.length) (c:=c1) K108 rfl rfl)<|sQ 39 (yP (code.length:Int) (more.length:Int))<|sQ 40 (Y_gt (k:=.i64) (a:=(i64.wrap ((code.length:Int)+(more.length:Int)))) (b:=1048576) rfl rfl rfl) (rn ?_)
 refine cw_cond (b:=(decide (1048576<(i64.wrap ((code.length:Int)+(more.length:Int)))))) rfl (fun hb=>?_) (fun hb=>?_)
 ·skip
  have hF1:=ct hF hb
  refine cq (cr ?_)
  refine sQ 4 (yg (.bool true)) (rn (ct_ ?_))
  obtain rfl:=sI hF1
  exact ret1 Try.results3 (v1:=.bool true) (resAt_tmp rfl) ⟨rfl,(hS.sN [])⟩
 ·skip
  have hF2:=cf' hF hb
  refine cw_skip (cq (cr ?_))
  refine sQ 42 (ym (.slice B code.length c)) ?_
  obtain ⟨⟨r_1,r_2,r_3⟩,hc,hF2⟩:=bI hF2
  refine sc 43 rfl rfl (yC [.slice B code.length c] k_call_4 (c_spec_DrawLeastSwaps code B c code.length _ rfl (hS.inn0 [(true,0)] rfl) hc)) ?_
  rintro _ w_ ⟨B2,c2,B3,c3,B4,c4,rfl,hq,ho,hd⟩
  have hS1:=ST.outR0 hS hd ho (sk 0 (fun _ h=>by cases h))
  let R8:Ro:=⟨B1,(more.flatMap enc_u8)⟩
  let R9:Ro:=⟨B,(code.flatMap enc_u8)⟩
  let R12:Ro:=⟨B4,(r_3.flatMap encI)⟩
  have ho1:Org w0 [] [R9,R8] [R12]:=org_trans0 hS ho (org_cons (org_mem (i:=0) rfl) org_nil)
  let O7:Ob:=⟨B3,56,(r_2.Gates.flatMap eN2),c3*3⟩
  have hS2:ST w0 [] _ [⟨B2,87,(r_1.Edges.flatMap eN1),c2*2⟩,O7] [R12,R9,R8]:=hS1
  let V14:List Value:=[vi r_1.Nodes,.slice B2 r_1.Edges.length c2]
  let V15:List Value:=[vi r_2.Qubits,.slice B3 r_2.Gates.length c3]
  let V21:List Value:=[.agg V14.toArray,.agg V15.toArray,.slice B4 r_3.length c4]
  refine sQ 41 (ym (.tuple V21.toArray))<|sQ 44 (ye (.agg V14.toArray))<|sQ 45 (ye (.agg V15.toArray))<|sQ 46 (ye (.slice B4 r_3.length c4)) ?_
  refine sS 5 (yN [vi 0,.slice none 0 0] 2 hS2 K48) ?_
  rintro _ w_1 ⟨b,rfl,hS3⟩
  refine sS 6 (yN [vi 0,.slice none 0 0] 2 hS3 K62) ?_
  rintro _ w_2 ⟨b1,rfl,hS4⟩
  refine s0 (yT 2 2 (aD b) 25 (.agg V14.toArray) V14 0 hS4 K3) ?_
  rintro _ w_3 ⟨rfl,hS5⟩
  refine s0 (yT 3 2 (aD b1) 28 (.agg V15.toArray) V15 0 hS5 K7) ?_
  rintro _ w_4 ⟨rfl,hS6⟩
  refine sQ 7 (yg (.slice B4 r_3.length c4)) (rn (cq (cr ?_)))
  refine sQ 48 (yb (aD b) 0 V14 K5 K3 (hS6.c 2))<|sQ 49 (yb (aD b1) 0 V15 K14 K7 (hS6.c 3))<|sQ 50 (ym (.slice B4 r_3.length c4)) ?_
  obtain ⟨⟨r_4,r_5⟩,hc1,hF2⟩:=bI hF2
  refine sc 51 rfl rfl (yC V21 k_call_5 (c_impl_LeastSwaps r_1 r_2 r_3 B2 c2 r_1.Edges.length B3 c3 r_2.Gates.length B4 c4 r_3.length _ rfl (hS6.lencap (i:=0) rfl (fm_lenn (l:=r_1.Edges) enc_Edge_len rfl) rfl rfl) rfl (hS6.lencap (i:=1) rfl (fm_lenn (l:=r_2.Gates) eN9 rfl) rfl rfl) rfl hq (hS6.inn0 [(false,0),(false,1),(true,0)] rfl) hc1)) ?_
  rintro _ w_5 ⟨rfl,hd1⟩
  have hS7:=hS6.out00 hd1
  refine sQ 47 (ym (.tuple #[vi r_4,.bool r_5]))<|sQ 52 (ye (vi r_4))<|sQ 53 (ye (.bool r_5))<|sQ 8 (yg (vi r_4))<|sQ 9 (yg (.bool r_5)) (rn (cq (cr ?_)))
  refine sQ 55 (yb (aD b) 0 V14 K5 K3 (hS7.c 2))<|sQ 56 (yb (aD b1) 0 V15 K14 K7 (hS7.c 3))<|sQ 57 (ym (.slice B4 r_3.length c4)) ?_
  obtain ⟨⟨r_6,r_7⟩,hc2,hF2⟩:=bI hF2
  refine sc 58 rfl rfl (yC V21 k_call_6 (c_spec_LeastSwaps r_1 r_2 r_3 B2 c2 r_1.Edges.length B3 c3 r_2.Gates.length B4 c4 r_3.length _ rfl rfl rfl hq (hS7.inn0 [(false,0),(false,1),(true,0)] rfl) hc2)) ?_
  rintro _ w_6 ⟨rfl,hd2⟩
  have hS8:=hS7.out00 hd2
  refine sQ 54 (ym (.tuple #[vi r_6,.bool r_7]))<|sQ 59 (ye (vi r_6))<|sQ 60 (ye (.bool r_7))<|sQ 10 (yg (vi r_6))<|sQ 11 (yg (.bool r_7)) (rn (cq (cr ?_)))
  refine sQ 62 (ym (.slice B1 more.length c1)) ?_
  obtain ⟨⟨r_8,r_9,r_10⟩,hc3,hF2⟩:=bI hF2
  refine sc 63 rfl rfl (yC [.slice B1 more.length c1] k_call_7 (c_spec_DrawCheckRoute more B1 c1 more.length _ rfl (hS8.inn0 [(true,2)] rfl) hc3)) ?_
  rintro _ w_7 ⟨B5,c5,B6,c6,B7,c7,B8,c8,rfl,hq1,hq2,ho2,hd3⟩
  have hS9:=ST.outR0 hS8 hd3 ho2 (sk 2 (fun _ h=>by cases h))
  let R10:Ro:=⟨B7,(r_10.Start.flatMap encI)⟩
  let R11:Ro:=⟨B8,(r_10.Steps.flatMap eN0)⟩
  have ho3:Org w0 [] [R9,R8] [R10,R11]:=org_trans0 hS8 ho2 (org_cons (org_mem (i:=1) rfl) org_nil)
  let O0:Ob:=⟨aD b1,28,V15,2⟩
  let O1:Ob:=⟨aD b,25,V14,2⟩
  let O5:Ob:=⟨B5,87,(r_8.Edges.flatMap eN1),c5*2⟩
  let O6:Ob:=⟨B6,56,(r_9.Gates.flatMap eN2),c6*3⟩
  have hS10:ST w0 [] _ [⟨B2,87,(r_1.Edges.flatMap eN1),c2*2⟩,O7,O1,O0,O5,O6] [R10,R11,R12,R9,R8]:=hS9
  let V18:List Value:=[.slice B7 r_10.Start.length c7,.slice B8 r_10.Steps.length c8]
  let V19:List Value:=[vi r_9.Qubits,.slice B6 r_9.Gates.length c6]
  let V20:List Value:=[vi r_8.Nodes,.slice B5 r_8.Edges.length c5]
  let V22:List Value:=[.agg V20.toArray,.agg V19.toArray,.agg V18.toArray]
  refine sQ 61 (ym (.tuple V22.toArray))<|sQ 64 (ye (.agg V20.toArray))<|sQ 65 (ye (.agg V19.toArray))<|sQ 66 (ye (.agg V18.toArray)) ?_
  refine sS 12 (yN [vi 0,.slice none 0 0] 2 hS10 K48) ?_
  rintro _ w_8 ⟨b2,rfl,hS11⟩
  refine sS 13 (yN [vi 0,.slice none 0 0] 2 hS11 K62) ?_
  rintro _ w_9 ⟨b3,rfl,hS12⟩
  refine sS 14 (yN [.slice none 0 0,.slice none 0 0] 2 hS12 K35) ?_
  rintro _ w_10 ⟨b4,rfl,hS13⟩
  refine s0 (yT 6 2 (aD b2) 25 (.agg V20.toArray) V20 0 hS13 K3) ?_
  rintro _ w_11 ⟨rfl,hS14⟩
  refine s0 (yT 7 2 (aD b3) 28 (.agg V19.toArray) V19 0 hS14 K7) ?_
  rintro _ w_12 ⟨rfl,hS15⟩
  refine s0 (yT 8 2 (aD b4) 36 (.agg V18.toArray) V18 0 hS15 K13) ?_
  rintro _ w_13 ⟨rfl,hS16⟩
  refine rn (cq (cr ?_))
  refine sQ 68 (yb (aD b2) 0 V20 K5 K3 (hS16.c 6))<|sQ 69 (yb (aD b3) 0 V19 K14 K7 (hS16.c 7))<|sQ 70 (yb (aD b4) 0 V18 K32 K13 (hS16.c 8)) ?_
  obtain ⟨⟨r_11,r_12,r_13⟩,hc4,hF2⟩:=bI hF2
  refine sc 71 rfl rfl (yC V22 K149 (c_impl_CheckRoute r_8 r_9 r_10 B5 c5 r_8.Edges.length B6 c6 r_9.Gates.length B7 c7 r_10.Start.length B8 c8 r_10.Steps.length _ rfl (hS16.lencap (i:=4) rfl (fm_lenn (l:=r_8.Edges) enc_Edge_len rfl) rfl rfl) rfl (hS16.lencap (i:=5) rfl (fm_lenn (l:=r_9.Gates) eN9 rfl) rfl rfl) rfl hq1 rfl (hS16.inn0 [(false,4),(false,5),(true,0),(true,1)] rfl) hc4)) ?_
  rintro _ w_14 ⟨rfl,hd4⟩
  have hS17:=hS16.out00 hd4
  refine sQ 67 (ym (.tuple #[vi r_11,vi r_12,.bool r_13]))<|sQ 72 (ye (vi r_11))<|sQ 73 (ye (vi r_12))<|sQ 74 (ye (.bool r_13))<|sQ 15 (yg (vi r_11))<|sQ 16 (yg (vi r_12)) ?_
  refine sQ 17 (yg (.bool r_13)) (rn (cq (cr ?_)))
  refine sQ 76 (yb (aD b2) 0 V20 K5 K3 (hS17.c 6))<|sQ 77 (yb (aD b3) 0 V19 K14 K7 (hS17.c 7))<|sQ 78 (yb (aD b4) 0 V18 K32 K13 (hS17.c 8)) ?_
  obtain ⟨⟨r_14,r_15,r_16⟩,hc5,hF2⟩:=bI hF2
  refine sc 79 rfl rfl (yC V22 k_call_9 (c_spec_CheckRoute r_8 r_9 r_10 B5 c5 r_8.Edges.length B6 c6 r_9.Gates.length B7 c7 r_10.Start.length B8 c8 r_10.Steps.length _ rfl rfl rfl hq1 rfl (hS17.inn0 [(false,4),(false,5),(true,0),(true,1)] rfl) hc5)) ?_
  rintro _ w_15 ⟨rfl,hd5⟩
  have hS18:=hS17.out00 hd5
  refine sQ 75 (ym (.tuple #[vi r_14,vi r_15,.bool r_16]))<|sQ 80 (ye (vi r_14))<|sQ 81 (ye (vi r_15))<|sQ 82 (ye (.bool r_16))<|sQ 18 (yg (vi r_14))<|sQ 19 (yg (vi r_15)) ?_
  refine sQ 20 (yg (.bool r_16)) (rn (cq (cq (cr ?_))))
  refine sQ 83 (ym (.bool r_5))<|sQ 84 (ym (.bool r_7))<|sQ 85 (Y_bne (p:=r_5) (q:=r_7) K139 rfl rfl rfl)<|sQ 86 (ym (.bool (!(r_5==r_7)))) ?_
  refine sgq 87 (B:=(!(!(r_5==r_7)))) rfl rfl (uF_ 86) (fun hg=>(ym (vi r_4))) ?_
  refine sgq 88 (B:=(!(!(r_5==r_7)))) rfl rfl (uF_ 86) (fun hg1=>(ym (vi r_6))) ?_
  refine sgq 89 (B:=(!(!(r_5==r_7)))) rfl rfl (uF_ 86) (fun hg2=>(Y_ne (k:=.i64) (a:=r_4) (b:=r_6) rfl (gv_of (v:=vi r_4) hg2) (gv_of (v:=vi r_6) hg2))) ?_
  refine sQ 90 (Y_or (b:=(!(r_5==r_7))) (z:=(r_4 != r_6)) rfl rfl rfl rfl)<|sQ 91 (ym (.bool ((!(r_5==r_7))||(r_4 != r_6)))) ?_
  refine sgq 92 (B:=(!((!(r_5==r_7))||(r_4 != r_6)))) rfl rfl (uF_ 91) (fun hg3=>(ym (.bool r_13))) ?_
  refine sgq 93 (B:=(!((!(r_5==r_7))||(r_4 != r_6)))) rfl rfl (uF_ 91) (fun hg4=>(ym (.bool r_16))) ?_
  refine sgq 94 (B:=(!((!(r_5==r_7))||(r_4 != r_6)))) (v:=.bool (!(r_13==r_16))) rfl rfl (uF_ 91) (fun hg5=>(Y_bne (p:=r_13) (q:=r_16) K139 rfl (gv_of (v:=.bool r_13) hg5) (gv_of (v:=.bool r_16) hg5))) ?_
  refine sQ 95 (Y_or (b:=((!(r_5==r_7))||(r_4 != r_6))) (z:=(!(r_13==r_16))) rfl rfl rfl rfl)<|sQ 96 (ym (.bool (((!(r_5==r_7))||(r_4 != r_6))||(!(r_13==r_16))))) ?_
  refine sgq 97 (B:=(!(((!(r_5==r_7))||(r_4 != r_6))||(!(r_13==r_16))))) rfl rfl (uF_ 96) (fun hg6=>(ym (vi r_11))) ?_
  refine sgq 98 (B:=(!(((!(r_5==r_7))||(r_4 != r_6))||(!(r_13==r_16))))) rfl rfl (uF_ 96) (fun hg7=>(ym (vi r_14))) ?_
  refine sgq 99 (B:=(!(((!(r_5==r_7))||(r_4 != r_6))||(!(r_13==r_16))))) rfl rfl (uF_ 96) (fun hg8=>(Y_ne (k:=.i64) (a:=r_11) (b:=r_14) rfl (gv_of (v:=vi r_11) hg8) (gv_of (v:=vi r_14) hg8))) ?_
  refine sQ 100 (Y_or (b:=(((!(r_5==r_7))||(r_4 != r_6))||(!(r_13==r_16)))) (z:=(r_11 != r_14)) rfl rfl rfl rfl)<|sQ 101 (ym (.bool ((((!(r_5==r_7))||(r_4 != r_6))||(!(r_13==r_16)))||(r_11 != r_14)))) ?_
  refine sgq 102 (B:=(!((((!(r_5==r_7))||(r_4 != r_6))||(!(r_13==r_16)))||(r_11 != r_14)))) rfl rfl (uF_ 101) (fun hg9=>(ym (vi r_12))) ?_
  refine sgq 103 (B:=(!((((!(r_5==r_7))||(r_4 != r_6))||(!(r_13==r_16)))||(r_11 != r_14)))) rfl rfl (uF_ 101) (fun hg10=>(ym (vi r_15))) ?_
  refine sgq 104 (B:=(!((((!(r_5==r_7))||(r_4 != r_6))||(!(r_13==r_16)))||(r_11 != r_14)))) rfl rfl (uF_ 101) (fun hg11=>(Y_ne (k:=.i64) (a:=r_12) (b:=r_15) rfl (gv_of (v:=vi r_12) hg11) (gv_of (v:=vi r_15) hg11))) ?_
  refine sQ 105 (Y_or (b:=((((!(r_5==r_7))||(r_4 != r_6))||(!(r_13==r_16)))||(r_11 != r_14))) (z:=(r_12 != r_15)) rfl rfl rfl rfl) (rn ?_)
  refine cw_cond (b:=(((((!(r_5==r_7))||(r_4 != r_6))||(!(r_13==r_16)))||(r_11 != r_14))||(r_12 != r_15))) rfl (fun hb1=>?_) (fun hb1=>?_)
  ·skip
   have hF3:=ct hF2 hb1
   refine cq (cr ?_)
   refine sQ 4 (yg (.bool false)) (rn (ct_ ?_))
   obtain rfl:=sI hF3
   exact ret1 Try.results3 (v1:=.bool false) (resAt_tmp rfl) ⟨rfl,(hS18.sN [])⟩
  ·skip
   have hF4:=cf' hF2 hb1
   refine cw_skip (cq (cq (cr ?_)))
   refine sQ 106 (ym (.bool r_5))<|sQ 107 (Y_not (p:=r_5) rfl rfl) (rn ?_)
   refine cw_cond (b:=(!r_5)) rfl (fun hb2=>?_) (fun hb2=>?_)
   ·skip
    have hF5:=ct hF4 hb2
    refine cq (cr ?_)
    refine sQ 4 (yg (.bool true)) (rn (ct_ ?_))
    obtain rfl:=sI hF5
    exact ret1 Try.results3 (v1:=.bool true) (resAt_tmp rfl) ⟨rfl,(hS18.sN [])⟩
   ·skip
    have hF6:=cf' hF4 hb2
    refine cw_skip (cq (cr ?_))
    refine sQ 109 (yb (aD b) 0 V14 K5 K3 (hS18.c 2))<|sQ 110 (yb (aD b1) 0 V15 K14 K7 (hS18.c 3))<|sQ 111 (ym (.slice B4 r_3.length c4)) ?_
    obtain ⟨⟨r_17,r_18⟩,hc6,hF6⟩:=bI hF6
    let R13:Ro:=⟨B2,(r_1.Edges.flatMap eN1)⟩
    have ho5:Org w0 [] [R9,R8] [R13]:=ST.orgOwn hS18 (i:=0) rfl
    have hcap:r_1.Edges.length≤c2:=(hS18.lencap (i:=0) rfl (fm_lenn (l:=r_1.Edges) enc_Edge_len rfl) rfl rfl)
    let O2:Ob:=⟨aD b4,36,V18,2⟩
    let O3:Ob:=⟨aD b3,28,V19,2⟩
    let O4:Ob:=⟨aD b2,25,V20,2⟩
    have hS19:ST w0 [] _ [O7,O1,O0,O5,O6,O4,O3,O2] [R13,R10,R11,R12,R9,R8]:=hS18.freeze (i:=0) rfl
    have ho6:Org w0 [] [R9,R8] [⟨B3,(r_2.Gates.flatMap eN2)⟩]:=ST.orgOwn hS19 (i:=0) rfl
    have hcap1:r_2.Gates.length≤c3:=(hS19.lencap (i:=0) rfl (fm_lenn (l:=r_2.Gates) eN9 rfl) rfl rfl)
    have hS20:ST w0 [] _ [O1,O0,O5,O6,O4,O3,O2] [⟨B3,(r_2.Gates.flatMap eN2)⟩,R13,R10,R11,R12,R9,R8]:=hS19.freeze (i:=0) rfl
    refine sc 112 rfl rfl (yC V21 k_call_10 (c_impl_RouteFrom r_1 r_2 r_3 B2 c2 r_1.Edges.length B3 c3 r_2.Gates.length B4 c4 r_3.length _ rfl hcap rfl hcap1 rfl hq (hS20.inn0 [(true,1),(true,0),(true,4)] rfl) hc6)) ?_
    rintro _ w_16 ⟨B9,c9,B10,c10,rfl,hq3,ho4,hd6⟩
    have hS21:=ST.outR0 hS20 hd6 ho4 (sk 1 (sk 0 (sk 4 (fun _ h=>by cases h))))
    have ho7:Org w0 [] [R9,R8] [⟨B10,(r_17.Steps.flatMap eN0)⟩]:=org_trans0 hS20 ho4 (org_cons ho5 (org_cons ho6 (org_cons (org_sub ho1 (sk 0 (fun _ h=>by cases h))) org_nil)))
    have hS22:ST w0 [] _ [O1,O0,O5,O6,O4,O3,O2,⟨B9,3,(r_17.Start.flatMap encI),c9*1⟩] [⟨B10,(r_17.Steps.flatMap eN0)⟩,⟨B3,(r_2.Gates.flatMap eN2)⟩,R13,R10,R11,R12,R9,R8]:=hS21
    let V16:List Value:=[.slice B9 r_17.Start.length c9,.slice B10 r_17.Steps.length c10]
    refine sQ 108 (ym (.tuple #[.agg V16.toArray,.bool r_18]))<|sQ 113 (ye (.agg V16.toArray))<|sQ 114 (ye (.bool r_18)) ?_
    refine sS 21 (yN [.slice none 0 0,.slice none 0 0] 2 hS22 K35) ?_
    rintro _ w_17 ⟨b5,rfl,hS23⟩
    refine s0 (yT 8 2 (aD b5) 36 (.agg V16.toArray) V16 0 hS23 K13) ?_
    rintro _ w_18 ⟨rfl,hS24⟩
    refine sQ 22 (yg (.bool r_18)) (rn (cq (cr ?_)))
    refine sQ 116 (yb (aD b) 0 V14 K5 K3 (hS24.c 0))<|sQ 117 (yb (aD b1) 0 V15 K14 K7 (hS24.c 1))<|sQ 118 (yb (aD b5) 0 V16 K32 K13 (hS24.c 8)) ?_
    obtain ⟨⟨r_19,r_20,r_21⟩,hc7,hF6⟩:=bI hF6
    refine sc 119 rfl rfl (yC [.agg V14.toArray,.agg V15.toArray,.agg V16.toArray] K149 (c_impl_CheckRoute r_1 r_2 r_17 B2 c2 r_1.Edges.length B3 c3 r_2.Gates.length B9 c9 r_17.Start.length B10 c10 r_17.Steps.length _ rfl hcap rfl hcap1 rfl (hS24.lencap (i:=7) rfl (fm_lenn (l:=r_17.Start) encI_len rfl) rfl rfl) rfl (hS24.inn0 [(true,2),(true,1),(false,7),(true,0)] rfl) hc7)) ?_
    rintro _ w_19 ⟨rfl,hd7⟩
    have hS25:=hS24.out00 hd7
    refine sQ 115 (ym (.tuple #[vi r_19,vi r_20,.bool r_21]))<|sQ 120 (ye (vi r_19))<|sQ 121 (ye (vi r_20))<|sQ 122 (ye (.bool r_21))<|sQ 23 (yg (vi r_19))<|sQ 24 (yg (vi r_20)) ?_
    refine sQ 25 (yg (.bool r_21)) (rn (cq (cr ?_)))
    refine sQ 124 (yb (aD b) 0 V14 K5 K3 (hS25.c 0))<|sQ 125 (yb (aD b1) 0 V15 K14 K7 (hS25.c 1))<|sQ 126 (ym (.slice B4 r_3.length c4)) ?_
    obtain ⟨⟨r_22,r_23⟩,hc8,hF6⟩:=bI hF6
    refine sc 127 rfl rfl (yC V21 k_call_11 (c_impl_SwapBound r_1 r_2 r_3 B2 c2 r_1.Edges.length B3 c3 r_2.Gates.length B4 c4 r_3.length _ rfl rfl rfl hq (hS25.inn0 [(true,2),(true,1),(true,5)] rfl) hc8)) ?_
    rintro _ w_20 ⟨rfl,hd8⟩
    have hS26:=hS25.out00 hd8
    refine sQ 123 (ym (.tuple #[vi r_22,.bool r_23]))<|sQ 128 (ye (vi r_22))<|sQ 129 (ye (.bool r_23))<|sQ 26 (yg (vi r_22))<|sQ 27 (yg (.bool r_23)) (rn (cq (cr ?_)))
    refine sQ 131 (yb (aD b) 0 V14 K5 K3 (hS26.c 0))<|sQ 132 (yd (aD b1) 0 0 K60 K0)<|sQ 133 (yl (aD b1) 0 V15 (vi r_2.Qubits) K1 (hS26.c 1))<|sQ 134 (ym (.slice B4 r_3.length c4)) ?_
    obtain ⟨⟨r_24,r_25⟩,hc9,hF6⟩:=bI hF6
    refine sc 135 rfl rfl (yC [.agg V14.toArray,vi r_2.Qubits,.slice B4 r_3.length c4] k_call_12 (c_impl_IsPlacement r_1 r_2.Qubits r_3 B2 c2 r_1.Edges.length B4 c4 r_3.length _ rfl rfl hq (hS26.inn0 [(true,2),(true,5)] rfl) hc9)) ?_
    rintro _ w_21 ⟨rfl,hd9⟩
    have hS27:=hS26.out00 hd9
    refine sQ 130 (ym (.tuple #[.bool r_24,.bool r_25]))<|sQ 136 (ye (.bool r_24))<|sQ 137 (ye (.bool r_25))<|sQ 28 (yg (.bool r_24))<|sQ 29 (yg (.bool r_25)) (rn (cq (cq (cr ?_))))
    refine sQ 138 (ym (.bool r_18))<|sQ 139 (Y_not (p:=r_18) rfl rfl)<|sQ 140 (ym (.bool (!r_18))) ?_
    refine sgq 141 (B:=(!(!r_18))) rfl rfl (uF_ 140) (fun hg12=>(ym (.bool r_21))) ?_
    refine sgq 142 (B:=(!(!r_18))) (v:=.bool (!r_21)) rfl rfl (uF_ 140) (fun hg13=>(Y_not (p:=r_21) rfl (gv_of (v:=.bool r_21) hg13))) ?_
    refine sQ 143 (Y_or (b:=(!r_18)) (z:=(!r_21)) rfl rfl rfl rfl)<|sQ 144 (ym (.bool ((!r_18)||(!r_21)))) ?_
    refine sgq 145 (B:=(!((!r_18)||(!r_21)))) rfl rfl (uF_ 144) (fun hg14=>(ym (.bool r_23))) ?_
    refine sgq 146 (B:=(!((!r_18)||(!r_21)))) (v:=.bool (!r_23)) rfl rfl (uF_ 144) (fun hg15=>(Y_not (p:=r_23) rfl (gv_of (v:=.bool r_23) hg15))) ?_
    refine sQ 147 (Y_or (b:=((!r_18)||(!r_21))) (z:=(!r_23)) rfl rfl rfl rfl)<|sQ 148 (ym (.bool (((!r_18)||(!r_21))||(!r_23)))) ?_
    refine sgq 149 (B:=(!(((!r_18)||(!r_21))||(!r_23)))) rfl rfl (uF_ 148) (fun hg16=>(ym (.bool r_25))) ?_
    refine sgq 150 (B:=(!(((!r_18)||(!r_21))||(!r_23)))) (v:=.bool (!r_25)) rfl rfl (uF_ 148) (fun hg17=>(Y_not (p:=r_25) rfl (gv_of (v:=.bool r_25) hg17))) ?_
    refine sQ 151 (Y_or (b:=(((!r_18)||(!r_21))||(!r_23))) (z:=(!r_25)) rfl rfl rfl rfl)<|sQ 152 (ym (.bool ((((!r_18)||(!r_21))||(!r_23))||(!r_25)))) ?_
    refine sgq 153 (B:=(!((((!r_18)||(!r_21))||(!r_23))||(!r_25)))) rfl rfl (uF_ 152) (fun hg18=>(ym (.bool r_24))) ?_
    refine sgq 154 (B:=(!((((!r_18)||(!r_21))||(!r_23))||(!r_25)))) (v:=.bool (!r_24)) rfl rfl (uF_ 152) (fun hg19=>(Y_not (p:=r_24) rfl (gv_of (v:=.bool r_24) hg19))) ?_
    refine sQ 155 (Y_or (b:=((((!r_18)||(!r_21))||(!r_23))||(!r_25))) (z:=(!r_24)) rfl rfl rfl rfl)<|sQ 156 (ym (.bool (((((!r_18)||(!r_21))||(!r_23))||(!r_25))||(!r_24)))) ?_
    refine sgq 157 (B:=(!(((((!r_18)||(!r_21))||(!r_23))||(!r_25))||(!r_24)))) rfl rfl (uF_ 156) (fun hg20=>(ym (vi r_19))) ?_
    refine sgq 158 (B:=(!(((((!r_18)||(!r_21))||(!r_23))||(!r_25))||(!r_24)))) rfl rfl (uF_ 156) (fun hg21=>(Y_ne (k:=.i64) (a:=r_19) (b:=0) rfl (gv_of (v:=vi r_19) hg21) rfl)) ?_
    refine sQ 159 (Y_or (b:=(((((!r_18)||(!r_21))||(!r_23))||(!r_25))||(!r_24))) (z:=(r_19 != 0)) rfl rfl rfl rfl)<|sQ 160 (ym (.bool ((((((!r_18)||(!r_21))||(!r_23))||(!r_25))||(!r_24))||(r_19 != 0)))) ?_
    refine sgq 161 (B:=(!((((((!r_18)||(!r_21))||(!r_23))||(!r_25))||(!r_24))||(r_19 != 0)))) (v:=.agg V16.toArray) rfl rfl (uF_ 160) (fun hg22=>(yb (aD b5) 0 V16 K32 K13 (hS27.c 8))) ?_
    obtain ⟨r_26,hc10,hF6⟩:=bI hF6
    refine sgc 162 (B:=(!((((((!r_18)||(!r_21))||(!r_23))||(!r_25))||(!r_24))||(r_19 != 0)))) (v:=vi r_26) (F:=hS27.fn) rfl rfl (uF_ 160) hS27 (fun hg23=>(yC [.agg V16.toArray] k_call_13 (CV.mono (c_laws_qSwaps r_17 B9 c9 r_17.Start.length B10 c10 r_17.Steps.length _ rfl rfl (hS27.inn0 [(false,7),(true,0)] rfl) (gb_inv hc10 hg23)) (by rintro _ _ ⟨rfl,h⟩; exact ⟨rfl,hS27.out00 h⟩)) rfl (mc (gv_of (v:=.agg V16.toArray) hg23) mn))) ?_
    rintro w_22 hS28
    refine sgq 163 (B:=(!((((((!r_18)||(!r_21))||(!r_23))||(!r_25))||(!r_24))||(r_19 != 0)))) rfl rfl (uF_ 160) (fun hg24=>(ym (vi r_4))) ?_
    refine sgq 164 (B:=(!((((((!r_18)||(!r_21))||(!r_23))||(!r_25))||(!r_24))||(r_19 != 0)))) rfl rfl (uF_ 160) (fun hg25=>(Y_ne (k:=.i64) (a:=r_26) (b:=r_4) rfl (gv_of (v:=vi r_26) hg25) (gv_of (v:=vi r_4) hg25))) ?_
    refine sQ 165 (Y_or (b:=((((((!r_18)||(!r_21))||(!r_23))||(!r_25))||(!r_24))||(r_19 != 0))) (z:=(r_26 != r_4)) rfl rfl rfl rfl)<|sQ 166 (ym (.bool (((((((!r_18)||(!r_21))||(!r_23))||(!r_25))||(!r_24))||(r_19 != 0))||(r_26 != r_4)))) ?_
    refine sgq 167 (B:=(!(((((((!r_18)||(!r_21))||(!r_23))||(!r_25))||(!r_24))||(r_19 != 0))||(r_26 != r_4)))) rfl rfl (uF_ 166) (fun hg26=>(ym (vi r_22))) ?_
    refine sgq 168 (B:=(!(((((((!r_18)||(!r_21))||(!r_23))||(!r_25))||(!r_24))||(r_19 != 0))||(r_26 != r_4)))) rfl rfl (uF_ 166) (fun hg27=>(ym (vi r_4))) ?_
    refine sgq 169 (B:=(!(((((((!r_18)||(!r_21))||(!r_23))||(!r_25))||(!r_24))||(r_19 != 0))||(r_26 != r_4)))) rfl rfl (uF_ 166) (fun hg28=>(Y_gt (k:=.i64) (a:=r_22) (b:=r_4) rfl (gv_of (v:=vi r_22) hg28) (gv_of (v:=vi r_4) hg28))) ?_
    refine sQ 170 (Y_or (b:=(((((((!r_18)||(!r_21))||(!r_23))||(!r_25))||(!r_24))||(r_19 != 0))||(r_26 != r_4))) (z:=(decide (r_4<r_22))) rfl rfl rfl rfl)<|sQ 171 (ym (.bool ((((((((!r_18)||(!r_21))||(!r_23))||(!r_25))||(!r_24))||(r_19 != 0))||(r_26 != r_4))||(decide (r_4<r_22))))) ?_
    refine sgq 172 (B:=(!((((((((!r_18)||(!r_21))||(!r_23))||(!r_25))||(!r_24))||(r_19 != 0))||(r_26 != r_4))||(decide (r_4<r_22))))) (v:=pt (aD b5) 0) rfl rfl (uF_ 171) (fun hg29=>(yd (aD b5) 0 0 K66 K11)) ?_
    refine sgq 173 (B:=(!((((((((!r_18)||(!r_21))||(!r_23))||(!r_25))||(!r_24))||(r_19 != 0))||(r_26 != r_4))||(decide (r_4<r_22))))) rfl rfl (uF_ 171) (fun hg30=>(yl (aD b5) 0 V16 (.slice B9 r_17.Start.length c9) K25 (hS28.c 8) rfl (gv_of (v:=pt (aD b5) 0) hg30))) ?_
    refine sgq 174 (B:=(!((((((((!r_18)||(!r_21))||(!r_23))||(!r_25))||(!r_24))||(r_19 != 0))||(r_26 != r_4))||(decide (r_4<r_22))))) rfl rfl (uF_ 171) (fun hg31=>(ym (.slice B4 r_3.length c4))) ?_
    obtain ⟨r_27,hc11,hF6⟩:=bI hF6
    refine sgc 175 (B:=(!((((((((!r_18)||(!r_21))||(!r_23))||(!r_25))||(!r_24))||(r_19 != 0))||(r_26 != r_4))||(decide (r_4<r_22))))) (v:=.bool r_27) (F:=hS28.fn) rfl rfl (uF_ 171) hS28 (fun hg32=>(yC [.slice B9 r_17.Start.length c9,.slice B4 r_3.length c4] k_call_14 (CV.mono (c_laws_qInts r_17.Start r_3 B9 c9 r_17.Start.length B4 c4 r_3.length _ rfl rfl (hS28.inn0 [(false,7),(true,5)] rfl) (gb_inv hc11 hg32)) (by rintro _ _ ⟨rfl,h⟩; exact ⟨rfl,hS28.out00 h⟩)) rfl (mc (gv_of (v:=.slice B9 r_17.Start.length c9) hg32) (mc (gv_of (v:=.slice B4 r_3.length c4) hg32) mn)))) ?_
    rintro w_23 hS29
    refine sgq 176 (B:=(!((((((((!r_18)||(!r_21))||(!r_23))||(!r_25))||(!r_24))||(r_19 != 0))||(r_26 != r_4))||(decide (r_4<r_22))))) (v:=.bool (!r_27)) rfl rfl (uF_ 171) (fun hg33=>(Y_not (p:=r_27) rfl (gv_of (v:=.bool r_27) hg33))) ?_
    refine sQ 177 (Y_or (b:=((((((((!r_18)||(!r_21))||(!r_23))||(!r_25))||(!r_24))||(r_19 != 0))||(r_26 != r_4))||(decide (r_4<r_22)))) (z:=(!r_27)) rfl rfl rfl rfl) (rn ?_)
    refine cw_cond (b:=(((((((((!r_18)||(!r_21))||(!r_23))||(!r_25))||(!r_24))||(r_19 != 0))||(r_26 != r_4))||(decide (r_4<r_22)))||(!r_27))) rfl (fun hb3=>?_) (fun hb3=>?_)
    ·skip
     have hF7:=ct hF6 hb3
     refine cq (cr ?_)
     refine sQ 4 (yg (.bool false)) (rn (ct_ ?_))
     obtain rfl:=sI hF7
     exact ret1 Try.results3 (v1:=.bool false) (resAt_tmp rfl) ⟨rfl,(hS29.sN [])⟩
    ·skip
     have hF8:=cf' hF6 hb3
     refine cw_skip (cq (cr ?_))
     refine sQ 179 (yb (aD b) 0 V14 K5 K3 (hS29.c 0))<|sQ 180 (yb (aD b1) 0 V15 K14 K7 (hS29.c 1))<|sQ 181 (ym (.slice B4 r_3.length c4)) ?_
     obtain ⟨⟨r_28,r_29⟩,hc12,hF8⟩:=bI hF8
     refine sc 182 rfl rfl (yC V21 k_call_15 (c_impl_GreedyRoute r_1 r_2 r_3 B2 c2 r_1.Edges.length B3 c3 r_2.Gates.length B4 c4 r_3.length _ rfl hcap rfl hcap1 rfl hq (hS29.inn0 [(true,2),(true,1),(true,5)] rfl) hc12)) ?_
     rintro _ w_24 ⟨B11,c11,B12,c12,rfl,hd10⟩
     have hS30:=hS29.out0 hd10
     let V17:List Value:=[.slice B11 r_28.Start.length c11,.slice B12 r_28.Steps.length c12]
     refine sQ 178 (ym (.tuple #[.agg V17.toArray,.bool r_29]))<|sQ 183 (ye (.agg V17.toArray))<|sQ 184 (ye (.bool r_29)) ?_
     refine sS 30 (yN [.slice none 0 0,.slice none 0 0] 2 hS30 K35) ?_
     rintro _ w_25 ⟨b6,rfl,hS31⟩
     refine s0 (yT 11 2 (aD b6) 36 (.agg V17.toArray) V17 0 hS31 K13) ?_
     rintro _ w_26 ⟨rfl,hS32⟩
     refine sQ 31 (yg (.bool r_29)) (rn (cq (cq (cr ?_))))
     refine sQ 185 (ym (.bool r_29))<|sQ 186 (Y_not (p:=r_29) rfl rfl) (rn ?_)
     refine cw_cond (b:=(!r_29)) rfl (fun hb4=>?_) (fun hb4=>?_)
     ·skip
      have hF9:=ct hF8 hb4
      refine cq (cr ?_)
      refine sQ 4 (yg (.bool false)) (rn (ct_ ?_))
      obtain rfl:=sI hF9
      exact ret1 Try.results3 (v1:=.bool false) (resAt_tmp rfl) ⟨rfl,(hS32.sN [])⟩
     ·skip
      have hF10:=cf' hF8 hb4
      refine cw_skip (cq (cr ?_))
      refine sQ 188 (yb (aD b) 0 V14 K5 K3 (hS32.c 0))<|sQ 189 (yb (aD b1) 0 V15 K14 K7 (hS32.c 1))<|sQ 190 (yb (aD b6) 0 V17 K32 K13 (hS32.c 11)) ?_
      obtain ⟨⟨r_30,r_31,r_32⟩,hc13,hF10⟩:=bI hF10
      refine sc 191 rfl rfl (yC [.agg V14.toArray,.agg V15.toArray,.agg V17.toArray] K149 (c_impl_CheckRoute r_1 r_2 r_28 B2 c2 r_1.Edges.length B3 c3 r_2.Gates.length B11 c11 r_28.Start.length B12 c12 r_28.Steps.length _ rfl hcap rfl hcap1 rfl (hS32.lencap (i:=9) rfl (fm_lenn (l:=r_28.Start) encI_len rfl) rfl rfl) rfl (hS32.inn0 [(true,2),(true,1),(false,9),(false,10)] rfl) hc13)) ?_
      rintro _ w_27 ⟨rfl,hd11⟩
      have hS33:=hS32.out00 hd11
      refine sQ 187 (ym (.tuple #[vi r_30,vi r_31,.bool r_32]))<|sQ 192 (ye (vi r_30))<|sQ 193 (ye (vi r_31))<|sQ 194 (ye (.bool r_32))<|sQ 32 (yg (vi r_30))<|sQ 33 (yg (vi r_31)) ?_
      refine sQ 34 (yg (.bool r_32)) (rn (cq (cr ?_)))
      refine sQ 195 (ym (.bool r_32))<|sQ 196 (ym (.bool r_32)) ?_
      refine sgq 197 (B:=r_32) rfl rfl (uT_ 196) (fun hg34=>(ym (vi r_30))) ?_
      refine sgq 198 (B:=r_32) rfl rfl (uT_ 196) (fun hg35=>(yE r_30 0 rfl (gv_of (v:=vi r_30) hg35))) ?_
      refine sQ 199 (Y_and (b:=r_32) (z:=(r_30==0)) rfl rfl rfl rfl)<|sQ 200 (ym (.bool (r_32&&(r_30==0)))) ?_
      refine sgq 201 (B:=(r_32&&(r_30==0))) (v:=.agg V17.toArray) rfl rfl (uT_ 200) (fun hg36=>(yb (aD b6) 0 V17 K32 K13 (hS33.c 11))) ?_
      obtain ⟨r_33,hc14,hF10⟩:=bI hF10
      refine sgc 202 (B:=(r_32&&(r_30==0))) (v:=vi r_33) (F:=hS33.fn) rfl rfl (uT_ 200) hS33 (fun hg37=>(yC [.agg V17.toArray] k_call_13 (CV.mono (c_laws_qSwaps r_28 B11 c11 r_28.Start.length B12 c12 r_28.Steps.length _ rfl rfl (hS33.inn0 [(false,9),(false,10)] rfl) (gb_inv hc14 hg37)) (by rintro _ _ ⟨rfl,h⟩; exact ⟨rfl,hS33.out00 h⟩)) rfl (mc (gv_of (v:=.agg V17.toArray) hg37) mn))) ?_
      rintro w_28 hS34
      refine sgq 203 (B:=(r_32&&(r_30==0))) rfl rfl (uT_ 200) (fun hg38=>(ym (vi r_4))) ?_
      refine sgq 204 (B:=(r_32&&(r_30==0))) rfl rfl (uT_ 200) (fun hg39=>(Y_ge (k:=.i64) (a:=r_33) (b:=r_4) rfl (gv_of (v:=vi r_33) hg39) (gv_of (v:=vi r_4) hg39))) ?_
      refine sQ 205 (Y_and (b:=(r_32&&(r_30==0))) (z:=(decide (r_4≤r_33))) rfl rfl rfl rfl)<|sQ 4 (yg (.bool ((r_32&&(r_30==0))&&(decide (r_4≤r_33))))) (rn (ct_ ?_))
      obtain rfl:=sI hF10
      exact ret1 Try.results3 (v1:=.bool ((r_32&&(r_30==0))&&(decide (r_4≤r_33)))) (resAt_tmp rfl) ⟨rfl,(hS34.sN [])⟩
end Go.VK
