/- Walks: each Go function returns what its Lean function says. By program. -/
import Derived.Test.YtboiaghjocmpiaaGreatLBestRoutesFa
import Derived.Test.YtboiaghjocmpiaaGreatLBestRoutesShelf
import Derived.Test.YtboiaghjocmpiaaGreatLibQ
import Derived.Test.YtboiaghjocmpiaaGreatLibU
import Derived.Test.YtboiaghjocmpiaaGreatLibX
import Derived.Test.YtboiaghjocmpiaaGreatLibZ
import Derived.Test.YtboiaghjocmpiaaGreatLibY
import Derived.Test.YtboiaghjocmpiaaGreatLibW
import Derived.Test.YtboiaghjocmpiaaGreatLBestRoutesW1
set_option linter.unusedVariables false
set_option maxRecDepth 100000
set_option maxHeartbeats 4000000
namespace Go.VK
open Go.RowKit
open Go.Proofs
open Go.IntKind
attribute [local irreducible] CW RW RA CV Y Yw Yc Ys RetOf
attribute [local irreducible] AF Ce BG Bv Cs BT CI DP CU Co CX F5 G3 Ez Dq BN CJ Eh DJ Dd FR ES Fe DH BJ Cg Eu F6 Gl F0 CA DL Cm
theorem Qp (s:List Ak) (B:Option Addr) (c n:Nat) (w0:World) (hn:s.length=n) (hS:ST w0 [] w0 [] [⟨B,(s.flatMap eN2)⟩]) {r_:List Ak} (hF:G3 s=some r_) :
  CV Tryz.prog 99 #[.slice B n c] w0 (fun v w'=>∃ (B1:Option Addr) (c1:Nat),v=.slice B1 r_.length c1∧ST w0 [] w' [⟨B1,39,(r_.flatMap eN2),c1*3⟩] []):=by
 subst hn
 unfold G3 at hF
 refine cv_of_cw 8 Tryz.func99 rfl Tryz.ntmps99 rfl ?_
 refine cq (cr ?_)
 refine sQ 2 yu (rn (cq (cq (cr ?_))))
 refine sQ 3 yv<|sQ 4 (Y_nileql (B:=B) (m:=s.length) (c:=c) K31 rfl rfl rfl) (rn ?_)
 refine cw_cond rfl (fun hb=>?_) (fun hb=>?_)
 ·skip
  have hl:s=[]:=nil_cont A5 (hS.rf (i:=0) rfl) rfl hb
  rw [hl] at hF
  have hF1:(some ([]))=some r_:=by simpa [chk] using hF
  subst hl
  refine cq (cr ?_)
  refine sQ 2 yu (rn (ct_ ?_))
  have hS1:=hS.addNil 39
  obtain rfl:=sI hF1
  exact ret1 Tryz.results99 rT ⟨none,0,rfl,(hS1.sN [0])⟩
 ·skip
  refine cw_skip (cq (cr ?_))
  refine sS 5 (Ys_bslice0 (s:=3) (e:=39) hS K31 K26 rfl) ?_
  rintro _ w_ ⟨b,rfl,hS2⟩
  refine sQ 6 yv ?_
  obtain ⟨hap,hF⟩:=chk_inv hF
  refine sS 7 (Ys_append (s:=3) (by':=24) (i:=0) (nn:=0) (c:=0) (k:=s.length) (len:=s.length) (B:=aD b) (xs:=(s.flatMap eN2)) (cs':=(s.flatMap eN2)) hS2 K31 K26 K84 K56 rfl (by decide) rfl rfl rfl rfl (fm_lenn (l:=[]) A5 rfl) rfl (hS2.rf (i:=0) rfl) (fm_lenn (l:=s) A5 rfl) (fm_one' (enc:=eN2) C8 s) (by have:=hap; omega) (by have:=hap; simp only [maxLen]; omega) rfl (app_len0 (l:=s) rfl)) ?_
  rintro _ w_1 ⟨B2,c2,rfl,hS3⟩
  refine sQ 2 yu (rn (ct_ ?_))
  obtain rfl:=sI hF
  exact ret1 Tryz.results99 rT ⟨B2,c2,rfl,(hS3.sN [0])⟩

theorem VI (n:Al) (e:Ah) (B:Option Addr) (c n1:Nat) (B1:Option Addr) (c1 n2:Nat) (B2:Option Addr) (c2 n3:Nat) (B3:Option Addr) (c3 n4:Nat) (B4:Option Addr) (c4 n5:Nat) (w0:World) (hn:n.work.g.Edges.length=n1) (hq:n1≤c) (hn1:n.work.c.Gates.length=n2) (hq1:n2≤c1) (hn2:n.work.place.length=n3) (hn3:n.work.done.length=n4) (hn4:n.steps.length=n5) (hS:ST w0 [] w0 [] [⟨B,(n.work.g.Edges.flatMap eN1)⟩,⟨B1,(n.work.c.Gates.flatMap eN0)⟩,⟨B2,(n.work.place.flatMap encI)⟩,⟨B3,(n.work.done.flatMap encB)⟩,⟨B4,(n.steps.flatMap eN2)⟩]) {r_:Al} (hF:Ez n e=some r_) :
  CV Tryz.prog 67 #[.agg #[vi n.work.g.Nodes,.slice B n1 c,vi n.work.c.Qubits,.slice B1 n2 c1,.slice B2 n3 c2,.slice B3 n4 c3,.slice B4 n5 c4],.agg #[vi e.A,vi e.B]] w0 (fun v w'=>∃ (B5:Option Addr) (c5:Nat) (B6:Option Addr) (c6:Nat) (B7:Option Addr) (c7:Nat) (B8:Option Addr) (c8:Nat) (B9:Option Addr) (c9:Nat),v=.agg #[vi r_.work.g.Nodes,.slice B5 r_.work.g.Edges.length c5,vi r_.work.c.Qubits,.slice B6 r_.work.c.Gates.length c6,.slice B7 r_.work.place.length c7,.slice B8 r_.work.done.length c8,.slice B9 r_.steps.length c9]∧r_.work.g.Edges.length≤c5∧r_.work.c.Gates.length≤c6∧Org w0 [] [⟨B,(n.work.g.Edges.flatMap eN1)⟩,⟨B1,(n.work.c.Gates.flatMap eN0)⟩,⟨B2,(n.work.place.flatMap encI)⟩,⟨B3,(n.work.done.flatMap encB)⟩,⟨B4,(n.steps.flatMap eN2)⟩] [⟨B5,(r_.work.g.Edges.flatMap eN1)⟩,⟨B6,(r_.work.c.Gates.flatMap eN0)⟩]∧ST w0 [] w' [⟨B7,3,(r_.work.place.flatMap encI),c7*1⟩,⟨B8,4,(r_.work.done.flatMap encB),c8*1⟩,⟨B9,39,(r_.steps.flatMap eN2),c9*3⟩] [⟨B5,(r_.work.g.Edges.flatMap eN1)⟩,⟨B6,(r_.work.c.Gates.flatMap eN0)⟩]):=by
 subst hn
 subst hn1
 subst hn2
 subst hn3
 subst hn4
 unfold Ez at hF
 refine cv_of_cw 37 Tryz.func67 rfl Tryz.ntmps67 rfl ?_
 refine cq (cr ?_)
 let V8:List Value:=[vi n.work.g.Nodes,.slice B n.work.g.Edges.length c,vi n.work.c.Qubits,.slice B1 n.work.c.Gates.length c1,.slice B2 n.work.place.length c2,.slice B3 n.work.done.length c3,.slice B4 n.steps.length c4]
 refine sS 2 (yV V8 7 hS) ?_
 rintro _ w_ ⟨b,rfl,hS1⟩
 refine sS 3 (yV [vi e.A,vi e.B] 2 hS1) ?_
 rintro _ w_1 ⟨b1,rfl,hS2⟩
 let V7:List Value:=[vi 0,.slice none 0 0,vi 0,.slice none 0 0,.slice none 0 0,.slice none 0 0,.slice none 0 0]
 refine sS 4 (yN V7 7 hS2 K95) ?_
 rintro _ w_2 ⟨b2,rfl,hS3⟩
 refine rn (cq (cr ?_))
 refine sQ 7 (yd (aD b) 0 5 K94 K24)<|sQ 8 (ya (aD b) 0 V8 [vi n.work.g.Nodes,.slice B n.work.g.Edges.length c,vi n.work.c.Qubits,.slice B1 n.work.c.Gates.length c1,.slice B2 n.work.place.length c2,.slice B3 n.work.done.length c3] K54 K24 (hS3.c 0)) ?_
 refine sS 5 (yN [vi 0,.slice none 0 0,vi 0,.slice none 0 0,.slice none 0 0,.slice none 0 0] 6 hS3 K86) ?_
 rintro _ w_3 ⟨b3,rfl,hS4⟩
 refine s0 (yK 3 6 0 hS4 K24) ?_
 rintro _ w_4 ⟨rfl,hS5⟩
 refine rn (cq ?_)
 obtain ⟨r_1,hc,hF⟩:=bI hF
 obtain ⟨r_2,hc1,hF⟩:=bI hF
 let O0:Ob:=⟨aD b,109,V8,7⟩
 let O2:Ob:=⟨aD b2,109,V7,7⟩
 let O4:Ob:=⟨aD b1,118,[vi e.A,vi e.B],2⟩
 refine cw_mid (fun f w=>∃ (B12:Option Addr) (c12:Nat) (B13:Option Addr) (c13:Nat),FF f [(2,pt (aD b) 0),(3,pt (aD b1) 0),(4,pt (aD b2) 0),(5,pt (aD b3) 0)]∧ST w0 [] w [O0,O4,O2,⟨aD b3,82,[vi n.work.g.Nodes,.slice B n.work.g.Edges.length c,vi n.work.c.Qubits,.slice B1 n.work.c.Gates.length c1,.slice B12 r_1.length c12,.slice B13 r_2.length c13],6⟩,⟨B12,3,(r_1.flatMap encI),c12*1⟩,⟨B13,4,(r_2.flatMap encB),c13*1⟩] [⟨B,(n.work.g.Edges.flatMap eN1)⟩,⟨B1,(n.work.c.Gates.flatMap eN0)⟩,⟨B2,(n.work.place.flatMap encI)⟩,⟨B3,(n.work.done.flatMap encB)⟩,⟨B4,(n.steps.flatMap eN2)⟩]) ?_ ?_
 ·skip
  refine ra_start (hS5.se [0,1,2]).fn (by kernel_rfl) ?_
  have hS9:=hS5.drew
  have hQ0:=hS9.se [0,1,2]
  refine rq 0 9 rfl hQ0 (fun _ q=>(yd (aD b3) 0 0 K73 K16))<|rq 3 12 rfl hQ0 (fun _ q=>(yd (aD b3) 0 0 K76 K41)) ?_
  refine rA [1,4] ?_
  refine ry 10 1 rfl (yz 4 K23 (hS9.c 3)) hQ0 ?_ ?_
  ·skip
   refine rA [2,4] ?_
   refine rC 11 2 rfl (yc E5 (DV n.work.place B2 c2 n.work.place.length _ rfl (hS9.inn0 [(true,2)] rfl) hc)) ?_ ?_
   ·rintro _ w_5 ⟨B10,c10,rfl,hd⟩
    have hS10:=hS9.out0 hd
    have hQ1:=hS10.se [0,1,2]
    refine ⟨hQ1,?_⟩
    refine r1 13 4 rfl (yz 5 K60 (hS10.c 3)) hQ1<|rq 6 15 rfl hQ1 (fun _ q=>(yd (aD b3) 0 0 K73 K16)) ?_
    refine rA [5] ?_
    refine rC 14 5 rfl (yc Kk (Jh n.work.done B3 c3 n.work.done.length _ rfl (hS10.inn0 [(true,3)] rfl) hc1)) ?_ aN
    rintro _ w_6 ⟨B11,c11,rfl,hd1⟩
    have hS11:=hS10.out0 hd1
    refine ⟨(hS11.se [0,1,2]),?_⟩
    refine rA [7] ?_
    refine rZ 7 rfl (yS 3 1 (aD b3) 82 (.slice B10 r_1.length c10) [.slice B10 r_1.length c10] 4 [vi n.work.g.Nodes,.slice B n.work.g.Edges.length c,vi n.work.c.Qubits,.slice B1 n.work.c.Gates.length c1,.slice B10 r_1.length c10,.slice B3 n.work.done.length c3] hS11 K16) ?_ aN
    rintro _ w_7 ⟨rfl,hS12⟩
    refine ⟨(hS12.se [0,1,2]),?_⟩
    refine rq 8 16 rfl (hS12.se [0,1,2]) (fun _ q=>(yd (aD b3) 0 0 K76 K41)) ?_
    refine rA [9] ?_
    refine rZ 9 rfl (yS 3 1 (aD b3) 82 (.slice B11 r_2.length c11) [.slice B11 r_2.length c11] 5 [vi n.work.g.Nodes,.slice B n.work.g.Edges.length c,vi n.work.c.Qubits,.slice B1 n.work.c.Gates.length c1,.slice B10 r_1.length c10,.slice B11 r_2.length c11] hS12 K41) ?_ aN
    rintro _ w_8 ⟨rfl,hS13⟩
    refine ⟨(hS13.se [0,1,2]),?_⟩
    refine ra_done (by kernel_rfl) ?_
    exact ⟨B10,c10,B11,c11,(fc rfl (fc rfl (fc rfl (fc rfl fn_)))),(hS13.sel [0,1,2,3,4,5] rfl rfl)⟩
   refine ry 13 4 rfl (yz 5 K60 (hS9.c 3)) hQ0 ?_ aN
   refine rA [2] ?_
   refine rC 11 2 rfl (yc E5 (DV n.work.place B2 c2 n.work.place.length _ rfl (hS9.inn0 [(true,2)] rfl) hc)) ?_ aN
   rintro _ w_9 ⟨B10,c10,rfl,hd2⟩
   have hS14:=hS9.out0 hd2
   refine ⟨(hS14.se [0,1,2]),?_⟩
   refine rq 6 15 rfl (hS14.se [0,1,2]) (fun _ q=>(yd (aD b3) 0 0 K73 K16)) ?_
   refine rA [5] ?_
   refine rC 14 5 rfl (yc Kk (Jh n.work.done B3 c3 n.work.done.length _ rfl (hS14.inn0 [(true,3)] rfl) hc1)) ?_ aN
   rintro _ w_10 ⟨B11,c11,rfl,hd3⟩
   have hS15:=hS14.out0 hd3
   refine ⟨(hS15.se [0,1,2]),?_⟩
   refine rA [7] ?_
   refine rZ 7 rfl (yS 3 1 (aD b3) 82 (.slice B10 r_1.length c10) [.slice B10 r_1.length c10] 4 [vi n.work.g.Nodes,.slice B n.work.g.Edges.length c,vi n.work.c.Qubits,.slice B1 n.work.c.Gates.length c1,.slice B10 r_1.length c10,.slice B3 n.work.done.length c3] hS15 K16) ?_ aN
   rintro _ w_11 ⟨rfl,hS16⟩
   refine ⟨(hS16.se [0,1,2]),?_⟩
   refine rq 8 16 rfl (hS16.se [0,1,2]) (fun _ q=>(yd (aD b3) 0 0 K76 K41)) ?_
   refine rA [9] ?_
   refine rZ 9 rfl (yS 3 1 (aD b3) 82 (.slice B11 r_2.length c11) [.slice B11 r_2.length c11] 5 [vi n.work.g.Nodes,.slice B n.work.g.Edges.length c,vi n.work.c.Qubits,.slice B1 n.work.c.Gates.length c1,.slice B10 r_1.length c10,.slice B11 r_2.length c11] hS16 K41) ?_ aN
   rintro _ w_12 ⟨rfl,hS17⟩
   refine ⟨(hS17.se [0,1,2]),?_⟩
   refine ra_done (by kernel_rfl) ?_
   exact ⟨B10,c10,B11,c11,(fc rfl (fc rfl (fc rfl (fc rfl fn_)))),(hS17.sel [0,1,2,3,4,5] rfl rfl)⟩
  refine ry 13 4 rfl (yz 5 K60 (hS9.c 3)) hQ0 ?_ aN
  refine r1 10 1 rfl (yz 4 K23 (hS9.c 3)) hQ0 ?_
  refine rA [2] ?_
  refine rC 11 2 rfl (yc E5 (DV n.work.place B2 c2 n.work.place.length _ rfl (hS9.inn0 [(true,2)] rfl) hc)) ?_ aN
  rintro _ w_13 ⟨B10,c10,rfl,hd4⟩
  have hS18:=hS9.out0 hd4
  refine ⟨(hS18.se [0,1,2]),?_⟩
  refine rq 6 15 rfl (hS18.se [0,1,2]) (fun _ q=>(yd (aD b3) 0 0 K73 K16)) ?_
  refine rA [5] ?_
  refine rC 14 5 rfl (yc Kk (Jh n.work.done B3 c3 n.work.done.length _ rfl (hS18.inn0 [(true,3)] rfl) hc1)) ?_ aN
  rintro _ w_14 ⟨B11,c11,rfl,hd5⟩
  have hS19:=hS18.out0 hd5
  refine ⟨(hS19.se [0,1,2]),?_⟩
  refine rA [7] ?_
  refine rZ 7 rfl (yS 3 1 (aD b3) 82 (.slice B10 r_1.length c10) [.slice B10 r_1.length c10] 4 [vi n.work.g.Nodes,.slice B n.work.g.Edges.length c,vi n.work.c.Qubits,.slice B1 n.work.c.Gates.length c1,.slice B10 r_1.length c10,.slice B3 n.work.done.length c3] hS19 K16) ?_ aN
  rintro _ w_15 ⟨rfl,hS20⟩
  refine ⟨(hS20.se [0,1,2]),?_⟩
  refine rq 8 16 rfl (hS20.se [0,1,2]) (fun _ q=>(yd (aD b3) 0 0 K76 K41)) ?_
  refine rA [9] ?_
  refine rZ 9 rfl (yS 3 1 (aD b3) 82 (.slice B11 r_2.length c11) [.slice B11 r_2.length c11] 5 [vi n.work.g.Nodes,.slice B n.work.g.Edges.length c,vi n.work.c.Qubits,.slice B1 n.work.c.Gates.length c1,.slice B10 r_1.length c10,.slice B11 r_2.length c11] hS20 K41) ?_ aN
  rintro _ w_16 ⟨rfl,hS21⟩
  refine ⟨(hS21.se [0,1,2]),?_⟩
  refine ra_done (by kernel_rfl) ?_
  exact ⟨B10,c10,B11,c11,(fc rfl (fc rfl (fc rfl (fc rfl fn_)))),(hS21.sel [0,1,2,3,4,5] rfl rfl)⟩
 rintro f w ⟨B12,c12,B13,c13,hf,hS8⟩
 refine cq (cr ?_)
 refine sQ 17 (yw 0 K54 K24 (hS8.c 3) rfl (hf.g 5 3))<|sQ 18 (yd (aD b1) 0 0 K59 K0 rfl (hf.g 3 1))<|sQ 19 (yz 0 K1 (hS8.c 1))<|sQ 20 (yd (aD b1) 0 0 K70 K0 rfl (hf.g 3 1))<|sQ 21 (yz 1 K1 (hS8.c 1)) ?_
 obtain ⟨m,hc2,hF⟩:=bI hF
 refine sc 22 rfl rfl (yc PZ (Nz (Ap.mk n.work.g n.work.c r_1 r_2) e.A e.B B c n.work.g.Edges.length B1 c1 n.work.c.Gates.length B12 c12 r_1.length B13 c13 r_2.length _ rfl rfl rfl rfl (hS8.inn [false,false,false,false,true,false] rfl [(true,0),(true,1),(false,4)] rfl) hc2)) ?_
 rintro _ w_17 ⟨rfl,hl,hd6⟩
 have hS22:=hS8.out [false,false,false,false,true,false] rfl hd6
 refine rn (cq ?_)
 obtain ⟨r_3,hc3,hF⟩:=bI hF
 obtain ⟨hap,hF⟩:=chk_inv hF
 refine ra_start (hS22.se [0,1,2,3,4,5]).fn (by kernel_rfl) ?_
 have hS24:=hS22.drew
 have hQ2:=hS24.se [0,1,2,3,4,5]
 refine rq 0 23 rfl hQ2 (fun _ q=>(yw 0 K54 K24 (ST.c q 3) rfl (hf.g 5 3)))<|rq 1 24 rfl hQ2 (fun _ q=>(yd (aD b) 0 0 I0 K36 rfl (hf.g 2 0)))<|rq 2 25 rfl hQ2 (fun _ q=>(yz 6 K55 (ST.c q 0)))<|rq 4 27 rfl hQ2 (fun _ q=>(yd (aD b1) 0 0 K59 K0 rfl (hf.g 3 1)))<|rq 5 28 rfl hQ2 (fun _ q=>(yz 0 K1 (ST.c q 1))) ?_
 refine rq 6 29 rfl hQ2 (fun _ q=>(yd (aD b1) 0 0 K70 K0 rfl (hf.g 3 1)))<|rq 7 30 rfl hQ2 (fun _ q=>(yz 1 K1 (ST.c q 1)))<|rq 8 31 rfl hQ2 (fun _ q=>(Y_buildS (zs:=[vi 0,vi 0,vi 0]) (vs:=[(0,vi (-1)),(1,vi e.A),(2,vi e.B)]) (cs:=[vi (-1),vi e.A,vi e.B]) IN K56 rfl (mpc rfl (mpc rfl (mpc rfl mpn))) rfl)) ?_
 let V9:List Value:=[vi n.work.g.Nodes,.slice B n.work.g.Edges.length c,vi n.work.c.Qubits,.slice B1 n.work.c.Gates.length c1,.slice B12 r_1.length c12,.slice B13 r_2.length c13]
 let O1:Ob:=⟨aD b3,82,V9,6⟩
 let O3:Ob:=⟨B13,4,(r_2.flatMap encB),c13*1⟩
 let O5:Ob:=⟨B12,3,(m.flatMap encI),c12*1⟩
 refine rf_in (k:=4) (ts:=[31]) (L:=[O0,O4,O2,O1,O3,O5]) (G:=[]) [fM 9 32 39 ([(Ak.mk (-1) e.A e.B)].flatMap eN2) (1*3) 1 1,fN 12 6 109 V7 7] hS24 (flc rfl rfl rfl (fun _ _ _ _ hf_ h=>(Ys_bslice (s:=3) (len:=1) (vs:=[(0,.agg #[vi (-1),vi e.A,vi e.B])]) (cs:=[vi (-1),vi e.A,vi e.B]) (zs:=[vi 0,vi 0,vi 0]) (m:=3) h K31 K26 I9 rfl (mpc ((hf_ 31 (List.Mem.head _)).trans rfl) mpn) rfl rfl rfl (by kernel_rfl) (by kernel_rfl) rfl)) (flc rfl rfl rfl (fun _ _ _ _ hf_ h=>(yN V7 7 h K95)) fln)) (fun hJ=>?_)
 refine rf_all [3] hJ (fun Z w h=>(ST.sel (ST.noF h) [0,1,2,3,4,5] rfl rfl)) (fun Z w_18 hz hS25=>?_)
 refine rC 26 3 rfl (yc QA (Qp n.steps B4 c4 n.steps.length _ rfl (hS25.inn0 [(true,4)] rfl) hc3)) ?_ aN
 rintro _ w_19 ⟨B14,c14,rfl,hd7⟩
 have hS26:=hS25.out0 hd7
 let O6:Ob:=⟨B14,39,(r_3.flatMap eN2),c14*3⟩
 have hS27:ST w0 [] _ (O0::O4::O2::O1::O3::O5::O6::(flL [fM 9 32 39 ([(Ak.mk (-1) e.A e.B)].flatMap eN2) (1*3) 1 1,fN 12 6 109 V7 7] Z++[])) [⟨B,(n.work.g.Edges.flatMap eN1)⟩,⟨B1,(n.work.c.Gates.flatMap eN0)⟩,⟨B2,(n.work.place.flatMap encI)⟩,⟨B3,(n.work.done.flatMap encB)⟩,⟨B4,(n.steps.flatMap eN2)⟩]:=ST.rot (pre:=[O0,O4,O2,O1,O3,O5]) (G:=(flL [fM 9 32 39 ([(Ak.mk (-1) e.A e.B)].flatMap eN2) (1*3) 1 1,fN 12 6 109 V7 7] Z++[])) (xs:=[O6]) hS26
 refine rf_k (L:=[O0,O4,O2,O1,O3,O5,O6]) hz hS27 (fun Z w h=>(ST.sel (ST.noF h) [0,1,2,3,4,5] rfl rfl)) ?_
 refine rf_force hJ (fun Z w h=>(ST.sel (ST.noF h) [0,1,2,3,4,5] rfl rfl)) (fun b4=>?_)
 refine rf_all [10] (FlOK.nx hJ) (fun Z w h=>(ST.sel (ST.noF h) [0,1,2,3,4,5] rfl rfl)) (fun Z1 w_20 hz1 hS28=>?_)
 refine rS 33 10 rfl (aP 3 24 6 r_3 [(Ak.mk (-1) e.A e.B)] hS28 K31 K26 K84 K56 A5 C8 (hS28.c 7) hap) ?_ aN
 rintro _ w_21 ⟨B15,c15,rfl,hS29⟩
 refine rf_k (L:=[O0,O4,O2,O1,O3,O5,⟨B15,39,((r_3++[(Ak.mk (-1) e.A e.B)]).flatMap eN2),c15*3⟩,⟨aD b4,39,([(Ak.mk (-1) e.A e.B)].flatMap eN2),1*3⟩]) hz1 hS29 (fun Z w h=>(ST.sel (ST.noF h) [0,1,2,3,4,5] rfl rfl)) ?_
 let V10:List Value:=[vi n.work.g.Nodes,.slice B n.work.g.Edges.length c,vi n.work.c.Qubits,.slice B1 n.work.c.Gates.length c1,.slice B12 r_1.length c12,.slice B13 r_2.length c13,.slice B15 ((r_3++[(Ak.mk (-1) e.A e.B)]).length) c15]
 refine rf_q 11 34 (v:=.agg V10.toArray) rfl (fun Z w h=>(ST.sel (ST.noF h) [0,1,2,3,4,5] rfl rfl)) (fun Z _ q=>(Y_buildS (zs:=V7) (vs:=[(0,.agg V9.toArray),(1,.slice B15 ((r_3++[(Ak.mk (-1) e.A e.B)]).length) c15)]) (cs:=V10) N0 K95 rfl (mpc rfl (mpc rfl mpn)) rfl)) ?_
 refine rf_force (FlOK.nx hJ) (fun Z w h=>(ST.sel (ST.noF h) [0,1,2,3,4,5] rfl rfl)) (fun b5=>?_)
 refine rf_out (fun w_22 hS30=>?_)
 refine rA [13] ?_
 refine rZ 13 rfl (yK 8 7 0 hS30 K57) ?_ aN
 rintro _ w_23 ⟨rfl,hS31⟩
 refine ⟨(hS31.se [0,1,2,3,4,5]),?_⟩
 refine ra_done (by kernel_rfl) ?_
 refine cq (cr ?_)
 obtain ⟨⟨m1,m2⟩,hc4,hF⟩:=bI hF
 have hS32:=(hS31.sel [0,1,2,3,5,7,8,4,6] rfl rfl)
 refine sc 35 rfl rfl (yc LT (Oc (Al.mk (Ap.mk n.work.g n.work.c m r_2) (r_3++[(Ak.mk (-1) e.A e.B)])) (aD b5) B c n.work.g.Edges.length B1 c1 n.work.c.Gates.length B12 c12 r_1.length B13 c13 r_2.length B15 c15 ((r_3++[(Ak.mk (-1) e.A e.B)]).length) _ rfl rfl hq1 hl rfl rfl (hS32.inn [false,false,false,false,false,false,true,true,true] rfl [(true,0),(true,1),(false,4)] rfl) hc4)) ?_
 rintro _ w_24 ⟨B16,c16,rfl,hl1,hd8⟩
 have hS33:=hS32.out [false,false,false,false,false,false,true,true,true] rfl hd8
 refine rn (cq (cr ?_))
 refine sQ 36 (yw 0 K88 K57 (hS33.c 6)) ?_
 refine s0 (yK 2 7 0 hS33 K57 rfl (hf.g 4 2)) ?_
 rintro _ w_25 ⟨rfl,hS34⟩
 refine rn (ct_ ?_)
 obtain rfl:=sI hF
 exact ret1 Tryz.results67 (v1:=.agg #[vi m1.work.g.Nodes,.slice B n.work.g.Edges.length c,vi m1.work.c.Qubits,.slice B1 n.work.c.Gates.length c1,.slice B12 r_1.length c12,.slice B13 r_2.length c13,.slice B16 m1.steps.length c16]) (rX K88 K57 (hS34.c 2) (hf.g 4 2)) ⟨B,c,B1,c1,B12,c12,B13,c13,B16,c16,(by simp +zetaDelta [hl,hl1]),(len_le rfl hq),(len_le rfl hq1),(org_cons (org_mem (i:=0) rfl) (org_cons (org_mem (i:=1) rfl) org_nil)),((hS34.sel [4,7,8] rfl rfl).sT [0,1])⟩

theorem JR:KeyE Tryz.prog 112 AM :=
 keyAgg KN (fun a=>⟨_,rfl⟩)
  (fun a b h=>by
   obtain ⟨⟨a0_0,a0_1,a0_2,a0_3,a0_4⟩,a1⟩:=a
   obtain ⟨⟨b0_0,b0_1,b0_2,b0_3,b0_4⟩,b1⟩:=b
   unfold AM at h
   injection h with h
   have h:=congrArg Array.toList h
   simp only [List.cons.injEq,Value.int.injEq,true_and,and_true] at h
   simp only [AB.mk.injEq,Prod.mk.injEq]
   simp only [h,and_self])
  (fun a b=>⟨_,(eqr_struct (xs:=[vi a.place.1,vi a.place.2.1,vi a.place.2.2.1,vi a.place.2.2.2.1,vi a.place.2.2.2.2,.int .u64 a.done]) (ys:=[vi b.place.1,vi b.place.2.1,vi b.place.2.2.1,vi b.place.2.2.2.1,vi b.place.2.2.2.2,.int .u64 b.done]) PO Tt (pts_ag (us:=[vi a.place.1,vi a.place.2.1,vi a.place.2.2.1,vi a.place.2.2.2.1,vi a.place.2.2.2.2]) (vs:=[vi b.place.1,vi b.place.2.1,vi b.place.2.2.1,vi b.place.2.2.2.1,vi b.place.2.2.2.2]) OV Lk rfl rfl (eqr_arr (xs:=[vi a.place.1,vi a.place.2.1,vi a.place.2.2.1,vi a.place.2.2.2.1,vi a.place.2.2.2.2]) (ys:=[vi b.place.1,vi b.place.2.1,vi b.place.2.2.1,vi b.place.2.2.2.1,vi b.place.2.2.2.2]) KT K0 rfl (itm_sc K1 rfl rfl (eqr_int K29) (itm_sc K1 rfl rfl (eqr_int K29) (itm_sc K1 rfl rfl (eqr_int K29) (itm_sc K1 rfl rfl (eqr_int K29) (itm_sc K1 rfl rfl (eqr_int K29) itm_nil)))))) (pts_sc Ha rfl rfl (eqr_int JH) pts_nil))),by
   obtain ⟨⟨a0_0,a0_1,a0_2,a0_3,a0_4⟩,a1⟩:=a
   obtain ⟨⟨b0_0,b0_1,b0_2,b0_3,b0_4⟩,b1⟩:=b
   simp only [Bool.and_eq_true,beq_iff_eq,AB.mk.injEq,Prod.mk.injEq,and_true]
   try simp only [and_assoc]⟩)
  (fun a=>(chk_struct (xs:=[vi a.place.1,vi a.place.2.1,vi a.place.2.2.1,vi a.place.2.2.2.1,vi a.place.2.2.2.2,.int .u64 a.done]) PO (pck_ag (us:=[vi a.place.1,vi a.place.2.1,vi a.place.2.2.1,vi a.place.2.2.2.1,vi a.place.2.2.2.2]) OV Lk rfl (chk_arr (xs:=[vi a.place.1,vi a.place.2.1,vi a.place.2.2.1,vi a.place.2.2.2.1,vi a.place.2.2.2.2]) KT K1 K0 rfl (ick_sc rfl (chk_int K29) (ick_sc rfl (chk_int K29) (ick_sc rfl (chk_int K29) (ick_sc rfl (chk_int K29) (ick_sc rfl (chk_int K29) ick_nil)))))) (pck_sc Ha rfl (chk_int JH) pck_nil))))
  (fun a=>bits_agg (xs:=[vi a.place.1,vi a.place.2.1,vi a.place.2.2.1,vi a.place.2.2.2.1,vi a.place.2.2.2.2,.int .u64 a.done]) (fun v hv=>by
   simp only [List.mem_cons,List.not_mem_nil,or_false] at hv
   rcases hv with rfl | rfl | rfl | rfl | rfl | rfl <;> simp [Instr.sameBits]))
theorem MT (g:Ae) (c1:Ad) (start:List Int) (B:Option Addr) (c n:Nat) (B1:Option Addr) (c2 n1:Nat) (B2:Option Addr) (c3 n2:Nat) (w0:World) (hn:g.Edges.length=n) (hq:n≤c) (hn1:c1.Gates.length=n1) (hq1:n1≤c2) (hn2:start.length=n2) (hq2:n2≤c3) (hS:ST w0 [] w0 [] [⟨B,(g.Edges.flatMap eN1)⟩,⟨B1,(c1.Gates.flatMap eN0)⟩,⟨B2,(start.flatMap encI)⟩]) {r_:Am} {r_1:Bool} (hF:Dq g c1 start=some (r_,r_1)) :
  CV Tryz.prog 26 #[.agg #[vi g.Nodes,.slice B n c],.agg #[vi c1.Qubits,.slice B1 n1 c2],.slice B2 n2 c3] w0 (fun v w'=>∃ (B3:Option Addr) (c4:Nat) (B4:Option Addr) (c5:Nat),v=.tuple #[.agg #[.slice B3 r_.Start.length c4,.slice B4 r_.Steps.length c5],.bool r_1]∧r_.Steps.length≤c5∧Org w0 [] [⟨B,(g.Edges.flatMap eN1)⟩,⟨B1,(c1.Gates.flatMap eN0)⟩,⟨B2,(start.flatMap encI)⟩] [⟨B4,(r_.Steps.flatMap eN2)⟩]∧ST w0 [] w' [⟨B3,3,(r_.Start.flatMap encI),c4*1⟩] [⟨B4,(r_.Steps.flatMap eN2)⟩]):=by
 subst hn
 subst hn1
 subst hn2
 unfold Dq at hF
 refine cv_of_cw 85 Tryz.func26 rfl Tryz.ntmps26 rfl ?_
 refine cq (cr ?_)
 refine sS 3 (yV [vi g.Nodes,.slice B g.Edges.length c] 2 hS) ?_
 rintro _ w_ ⟨b,rfl,hS1⟩
 refine sS 4 (yV [vi c1.Qubits,.slice B1 c1.Gates.length c2] 2 hS1) ?_
 rintro _ w_1 ⟨b1,rfl,hS2⟩
 refine sS 6 (yN [.slice none 0 0,.slice none 0 0] 2 hS2 K61) ?_
 rintro _ w_2 ⟨b2,rfl,hS3⟩
 refine sQ 7 yu (rn (cq (cq (cr ?_))))
 refine sQ 16 (yw 0 K13 K8 (hS3.c 0))<|sQ 17 (yw 0 K10 K3 (hS3.c 1)) ?_
 obtain ⟨r_2,hc,hF⟩:=bI hF
 refine sc 18 rfl rfl (yc Nj (Pg g c1 B c g.Edges.length B1 c2 c1.Gates.length _ rfl rfl (hS3.inn0 [(true,0),(true,1)] rfl) hc)) ?_
 rintro _ w_3 ⟨rfl,hd⟩
 have hS4:=hS3.out00 hd
 refine sQ 19 yn<|sQ 20 yv ?_
 refine sgq 21 rfl rfl (uF_ 20) (fun hg=>(yw 0 K13 K8 (hS4.c 0))) ?_
 refine sgq 22 rfl rfl (uF_ 20) (fun hg1=>(yd (aD b1) 0 0 K42 K0)) ?_
 refine sgq 23 rfl rfl (uF_ 20) (fun hg2=>(yz 0 K1 (hS4.c 1) rfl (gv_of hg2))) ?_
 refine sgq 24 rfl rfl (uF_ 20) (fun hg3=>yv) ?_
 obtain ⟨r_3,hc1,hF⟩:=bI hF
 refine sgc 25 (v:=.bool r_3) (F:=hS4.fn) rfl rfl (uF_ 20) hS4 (fun hg4=>(yc Pu (CV.mono (MH g c1.Qubits start B c g.Edges.length B2 c3 start.length _ rfl rfl hq2 (hS4.inn0 [(true,0),(true,2)] rfl) (gb_inv hc1 hg4)) (by rintro _ _ ⟨rfl,h⟩; exact ⟨rfl,hS4.out00 h⟩)) rfl (mc (gv_of hg4) (mc (gv_of hg4) (mc (gv_of hg4) mn))))) ?_
 rintro w_4 hS5
 refine sgq 26 rfl rfl (uF_ 20) (fun hg5=>(yn rfl (gv_of hg5))) ?_
 refine sQ 27 yO (rn ?_)
 refine cw_cond rfl (fun hb=>?_) (fun hb=>?_)
 ·skip
  have hF1:=ct hF hb
  refine cq (cr ?_)
  refine sQ 28 (Y_buildS (zs:=[.slice none 0 0,.slice none 0 0]) (vs:=[]) (cs:=[.slice none 0 0,.slice none 0 0]) ET K61 rfl mpn rfl) ?_
  refine s0 (yK 2 2 0 hS5 K25) ?_
  rintro _ w_5 ⟨rfl,hS6⟩
  refine sQ 7 yu (rn (ct_ ?_))
  have hS7:=hS6.addNil 3
  have hS8:ST w0 [] _ [⟨aD b,25,[vi g.Nodes,.slice B g.Edges.length c],2⟩,⟨aD b1,28,[vi c1.Qubits,.slice B1 c1.Gates.length c2],2⟩,⟨aD b2,34,[.slice none 0 0,.slice none 0 0],2⟩,⟨none,3,([].flatMap encI),0*1⟩] [⟨none,([].flatMap eN2)⟩,⟨B,(g.Edges.flatMap eN1)⟩,⟨B1,(c1.Gates.flatMap eN0)⟩,⟨B2,(start.flatMap encI)⟩]:=ST.nilRo hS7
  obtain ⟨rfl,rfl⟩:=pr2 (sI hF1)
  exact ret2 Tryz.results26 (rX K46 K25 (hS8.c 2)) rT ⟨none,0,none,0,rfl,(len_le rfl (Nat.le_refl 0)),(org_cons org_none org_nil),((hS8.sel [3] rfl rfl).sT [0])⟩
 ·skip
  have hF2:=cf' hF hb
  refine cw_skip (cq (cr ?_))
  refine sQ 29 (yw 0 K13 K8 (hS5.c 0))<|sQ 30 (yw 0 K10 K3 (hS5.c 1))<|sQ 31 yv ?_
  obtain ⟨r_4,hc2,hF2⟩:=bI hF2
  refine sc 32 rfl rfl (yc Kf (Ki g c1 start B c g.Edges.length B1 c2 c1.Gates.length B2 c3 start.length _ rfl hq rfl hq1 rfl (hS5.inn0 [(true,0),(true,1),(true,2)] rfl) hc2)) ?_
  rintro _ w_6 ⟨B5,c6,B6,c7,B7,c8,B8,c9,rfl,hq3,hq4,ho,hd1⟩
  have hS9:=ST.outR0 hS5 hd1 ho (sk 0 (sk 1 (sk 2 (fun _ h=>by cases h))))
  let R11:Ro:=⟨B1,(c1.Gates.flatMap eN0)⟩
  let R12:Ro:=⟨B,(g.Edges.flatMap eN1)⟩
  let R13:Ro:=⟨B2,(start.flatMap encI)⟩
  let R14:Ro:=⟨B5,(r_4.g.Edges.flatMap eN1)⟩
  let R15:Ro:=⟨B6,(r_4.c.Gates.flatMap eN0)⟩
  have ho1:Org w0 [] [R12,R11,R13] [R14,R15]:=org_trans0 hS5 ho (org_cons (org_mem (i:=0) rfl) (org_cons (org_mem (i:=1) rfl) (org_cons (org_mem (i:=2) rfl) org_nil)))
  let O2:Ob:=⟨aD b,25,[vi g.Nodes,.slice B g.Edges.length c],2⟩
  let O4:Ob:=⟨aD b2,34,[.slice none 0 0,.slice none 0 0],2⟩
  let O5:Ob:=⟨aD b1,28,[vi c1.Qubits,.slice B1 c1.Gates.length c2],2⟩
  have hS10:ST w0 [] _ [O2,O5,O4,⟨B7,3,(r_4.place.flatMap encI),c8*1⟩,⟨B8,4,(r_4.done.flatMap encB),c9*1⟩] [R14,R15,R12,R11,R13]:=hS9
  refine sQ 33 (Y_buildS (zs:=[vi 0,.slice none 0 0,vi 0,.slice none 0 0,.slice none 0 0,.slice none 0 0,.slice none 0 0]) (vs:=[(0,.agg #[vi r_4.g.Nodes,.slice B5 r_4.g.Edges.length c6,vi r_4.c.Qubits,.slice B6 r_4.c.Gates.length c7,.slice B7 r_4.place.length c8,.slice B8 r_4.done.length c9])]) (cs:=[vi r_4.g.Nodes,.slice B5 r_4.g.Edges.length c6,vi r_4.c.Qubits,.slice B6 r_4.c.Gates.length c7,.slice B7 r_4.place.length c8,.slice B8 r_4.done.length c9,.slice none 0 0]) N0 K95 rfl (mpc rfl mpn) rfl) ?_
  refine sS 8 (yN [vi 0,.slice none 0 0,vi 0,.slice none 0 0,.slice none 0 0,.slice none 0 0,.slice none 0 0] 7 hS10 K95) ?_
  rintro _ w_7 ⟨b3,rfl,hS11⟩
  refine s0 (yK 5 7 0 hS11 K57) ?_
  rintro _ w_8 ⟨rfl,hS12⟩
  refine rn (cq (cr ?_))
  obtain ⟨⟨m,m1⟩,hc3,hF2⟩:=bI hF2
  have hS13:=hS12.addNil 39
  have hS14:=(hS13.sel [0,1,2,3,5,4,6] rfl rfl)
  refine sc 34 rfl rfl (yc LT (Oc (Al.mk r_4 []) (aD b3) B5 c6 r_4.g.Edges.length B6 c7 r_4.c.Gates.length B7 c8 r_4.place.length B8 c9 r_4.done.length none 0 0 _ rfl rfl hq4 rfl rfl rfl (hS14.inn [false,false,false,false,true,true,true] rfl [(true,0),(true,1),(false,3)] rfl) hc3)) ?_
  rintro _ w_9 ⟨B9,c10,rfl,hl,hd2⟩
  have hS15:=hS14.out [false,false,false,false,true,true,true] rfl hd2
  refine rn (cq ?_)
  obtain ⟨r_5,hc4,hF2⟩:=bI hF2
  let R16:Ro:=⟨B7,(r_4.place.flatMap encI)⟩
  have ho6:Org w0 [] [R12,R11,R13] [R16]:=ST.orgOwn hS15 (i:=3) rfl
  have hcap3:r_4.place.length≤c8:=(hS15.lencap (i:=3) rfl (fm_lenn (l:=r_4.place) encI_len rfl) rfl rfl)
  let O3:Ob:=⟨aD b3,109,[vi m.work.g.Nodes,.slice B5 r_4.g.Edges.length c6,vi m.work.c.Qubits,.slice B6 r_4.c.Gates.length c7,.slice B7 r_4.place.length c8,.slice B8 r_4.done.length c9,.slice B9 m.steps.length c10],7⟩
  have hS21:ST w0 [] _ [O2,O5,O4,O3,⟨B8,4,(m1.flatMap encB),c9*1⟩,⟨B9,39,(m.steps.flatMap eN2),c10*3⟩] [R16,R14,R15,R12,R11,R13]:=hS15.freeze (i:=3) rfl
  let R19:Ro:=⟨B8,(m1.flatMap encB)⟩
  have ho7:Org w0 [] [R12,R11,R13] [R19]:=ST.orgOwn hS21 (i:=4) rfl
  have hcap4:r_4.done.length≤c9:=(hS21.lencap (i:=4) rfl (fm_lenn (l:=m1) encB_len hl) rfl rfl)
  have hS22:ST w0 [] _ [O2,O5,O4,O3,⟨B9,39,(m.steps.flatMap eN2),c10*3⟩] [R19,R16,R14,R15,R12,R11,R13]:=hS21.freeze (i:=4) rfl
  let R17:Ro:=⟨B9,(m.steps.flatMap eN2)⟩
  have ho8:Org w0 [] [R12,R11,R13] [R17]:=ST.orgOwn hS22 (i:=4) rfl
  have hcap5:m.steps.length≤c10:=(hS22.lencap (i:=4) rfl (fm_lenn (l:=m.steps) A5 rfl) rfl rfl)
  have hS23:ST w0 [] _ [O2,O5,O4,O3] [R17,R19,R16,R14,R15,R12,R11,R13]:=hS22.freeze (i:=4) rfl
  refine ra_start (hS23.se [0,1,2,3]).fn (by kernel_rfl) ?_
  have hS24:=hS23.drew
  refine rq 1 36 rfl (hS24.se [0,1,2,3]) (fun _ q=>(yw 0 K88 K57 (ST.c q 3)))<|rq 5 39 rfl (hS24.se [0,1,2,3]) (fun _ q=>(yw 0 K88 K57 (ST.c q 3))) ?_
  refine rf_in (k:=5) (ts:=[39]) (L:=[O2,O5,O4,O3]) (G:=[]) [fP 0 35,fM 6 40 109 (([(((B5,c6),(B6,c7),(B7,c8),(B8,c9),(B9,c10)),(Al.mk (Ap.mk (Ae.mk m.work.g.Nodes r_4.g.Edges) (Ad.mk m.work.c.Qubits r_4.c.Gates) r_4.place m1) m.steps))]:List ((Hd×Hd×Hd×Hd×Hd)×Al)).flatMap AS) (1*7) 1 1] hS24 (flc rfl rfl rfl (fun _ _ _ _ hf_ h=>(Ys_mkMap (T:=114) h rfl)) (flc rfl rfl rfl (fun _ _ _ _ hf_ h=>(Ys_bslice (s:=7) (len:=1) (vs:=[(0,.agg #[vi m.work.g.Nodes,.slice B5 r_4.g.Edges.length c6,vi m.work.c.Qubits,.slice B6 r_4.c.Gates.length c7,.slice B7 r_4.place.length c8,.slice B8 m1.length c9,.slice B9 m.steps.length c10])]) (cs:=[vi m.work.g.Nodes,.slice B5 r_4.g.Edges.length c6,vi m.work.c.Qubits,.slice B6 r_4.c.Gates.length c7,.slice B7 r_4.place.length c8,.slice B8 m1.length c9,.slice B9 m.steps.length c10]) (zs:=[vi 0,.slice none 0 0,vi 0,.slice none 0 0,.slice none 0 0,.slice none 0 0,.slice none 0 0]) (m:=7) h Hr K57 PQ rfl (mpc (by rw [hl]; exact ((hf_ 39 (List.Mem.head _)).trans rfl)) mpn) rfl rfl rfl (by kernel_rfl) (by kernel_rfl) rfl)) fln)) (fun hJ=>?_)
  refine rf_all [2] hJ (fun Z w h=>(ST.sel (ST.noF h) [0,1,2,3] rfl rfl)) (fun Z w_10 hz hS25=>?_)
  refine rC 37 2 rfl (yc Jj (Ld (Al.mk (Ap.mk (Ae.mk m.work.g.Nodes r_4.g.Edges) (Ad.mk m.work.c.Qubits r_4.c.Gates) r_4.place m1) m.steps) B5 c6 r_4.g.Edges.length B6 c7 r_4.c.Gates.length B7 c8 r_4.place.length B8 c9 r_4.done.length B9 c10 m.steps.length _ rfl rfl rfl hl rfl (hS25.inn0 [(true,3),(true,4),(true,2),(true,1),(true,0)] rfl) hc4)) ?_ aN
  rintro _ w_11 ⟨rfl,hd3⟩
  have hS26:=hS25.out00 hd3
  refine rf_k (L:=[O2,O5,O4,O3]) hz hS26 (fun Z w h=>(ST.sel (ST.noF h) [0,1,2,3] rfl rfl)) ?_
  refine rf_force hJ (fun Z w h=>(ST.sel (ST.noF h) [0,1,2,3] rfl rfl)) (fun g1=>?_)
  refine rf_all [3] (FlOK.nx hJ) (fun Z w h=>(ST.sel (ST.noF h) [0,1,2,3] rfl rfl)) (fun Z1 w_12 hz1 hS27=>?_)
  refine rZ 3 rfl (Ys_mapIns (kE:=AM) (vE:=Value.bool) (l:=([]:List (AB×Bool))) (a:=r_5) (b:=true) (g:=g1) (i:=4) hS27 JR Jo rfl rfl rfl rfl rfl rfl) ?_ aN
  rintro _ w_13 ⟨rfl,hS28⟩
  refine rf_k0 (L:=[O2,O5,O4,O3,⟨(aD g1),.mp (mpE AM Value.bool (mput ([]:List (AB×Bool)) r_5 true)),[],0⟩]) hz1 hS28 (fun Z w h=>(ST.sel (ST.noF h) [0,1,2,3] rfl rfl)) ?_
  refine rf_q 4 38 (v:=.map (some g1)) rfl (fun Z w h=>(ST.sel (ST.noF h) [0,1,2,3] rfl rfl)) (fun Z _ q=>yv) ?_
  refine rf_q 7 9 (v:=.map (some g1)) rfl (fun Z w h=>(ST.sel (ST.noF h) [0,1,2,3] rfl rfl)) (fun Z _ q=>yu) ?_
  refine rf_force (FlOK.nx hJ) (fun Z w h=>(ST.sel (ST.noF h) [0,1,2,3] rfl rfl)) (fun b4=>?_)
  refine rf_out (fun w_14 hS29=>?_)
  have hm1:∀ r∈(([(((B5,c6),(B6,c7),(B7,c8),(B8,c9),(B9,c10)),(Al.mk (Ap.mk (Ae.mk m.work.g.Nodes r_4.g.Edges) (Ad.mk m.work.c.Qubits r_4.c.Gates) r_4.place m1) m.steps))]:List ((Hd×Hd×Hd×Hd×Hd)×Al)).flatMap eN7),r∈([R17,R19,R16,R14,R15,R12,R11,R13]:List Ro):=(fsub_cons (sk 3 (sk 4 (sk 2 (sk 1 (sk 0 (fun _ h=>by cases h)))))) fsub_nil)
  have ho9:Org w0 [] [R12,R11,R13] (([(((B5,c6),(B6,c7),(B7,c8),(B8,c9),(B9,c10)),(Al.mk (Ap.mk (Ae.mk m.work.g.Nodes r_4.g.Edges) (Ad.mk m.work.c.Qubits r_4.c.Gates) r_4.place m1) m.steps))]:List ((Hd×Hd×Hd×Hd×Hd)×Al)).flatMap eN7):=(forg_cons (org_cons (org_sub ho1 (sk 0 (fun _ h=>by cases h))) (org_cons (org_sub ho1 (sk 1 (fun _ h=>by cases h))) (org_cons ho6 (org_cons ho7 (org_cons ho8 org_nil))))) forg_nil)
  have hdc1:∀ p_∈([(((B5,c6),(B6,c7),(B7,c8),(B8,c9),(B9,c10)),(Al.mk (Ap.mk (Ae.mk m.work.g.Nodes r_4.g.Edges) (Ad.mk m.work.c.Qubits r_4.c.Gates) r_4.place m1) m.steps))]:List ((Hd×Hd×Hd×Hd×Hd)×Al)),BA p_:=fun p_ hp_=>by rw [List.mem_singleton.1 hp_]; exact ⟨hq3,hq4,hcap3,(len_le hl hcap4),hcap5⟩
  have hS30:ST w0 [] _ [O2,O5,O4,O3,⟨(aD g1),.mp (mpE AM Value.bool (mput ([]:List (AB×Bool)) r_5 true)),[],0⟩,⟨aD b4,109,(([(((B5,c6),(B6,c7),(B7,c8),(B8,c9),(B9,c10)),(Al.mk (Ap.mk (Ae.mk m.work.g.Nodes r_4.g.Edges) (Ad.mk m.work.c.Qubits r_4.c.Gates) r_4.place m1) m.steps))]:List ((Hd×Hd×Hd×Hd×Hd)×Al)).flatMap AS),1*7⟩] (R17::R19::R16::R14::R15::R12::R11::R13::((([(((B5,c6),(B6,c7),(B7,c8),(B8,c9),(B9,c10)),(Al.mk (Ap.mk (Ae.mk m.work.g.Nodes r_4.g.Edges) (Ad.mk m.work.c.Qubits r_4.c.Gates) r_4.place m1) m.steps))]:List ((Hd×Hd×Hd×Hd×Hd)×Al)).flatMap eN7)++[])):=ST.subR hS29 (sk 0 (sk 1 (sk 2 (sk 3 (sk 4 (sk 5 (sk 6 (sk 7 (suba hm1 (fun _ h=>by cases h))))))))))
  refine rq 8 10 rfl ((hS30.se [0,1,2,3]).sT [0,1,2,3,4,5,6,7]) (fun _ q=>yu) ?_
  refine ra_done (by kernel_rfl) ?_
  refine cq (cq (cr ?_))
  refine sQ 11 yu (rn ?_)
  obtain ⟨z,hz2,hF3⟩:=bI hF2
  refine cw_block ?_
  refine cw_loop (fun k f w=>∃ (seen:List (AB×Bool)) (queue:List Al) (at_1:Int) (B10:Option Addr) (c11:Nat) (D:List ((Hd×Hd×Hd×Hd×Hd)×Al)),FF f [(2,.slice B2 start.length c3),(3,pt (aD b) 0),(6,pt (aD b2) 0),(9,.map (some g1)),(10,.slice B10 queue.length c11),(11,vi at_1)]∧D.map Prod.snd=queue∧(∀ p_∈D,BA p_)∧Org w0 [] [R12,R11,R13] (D.flatMap eN7)∧ST w0 [] w [O2,O4,⟨(aD g1),.mp (mpE AM Value.bool seen),[],0⟩,⟨B10,109,(D.flatMap AS),c11*7⟩] (R17::R19::R16::R14::R15::R12::R11::R13::((D.flatMap eN7)++[]))∧whX (Cd start g) k (seen,queue,at_1)=some z) fuel ⟨(mput ([]:List (AB×Bool)) r_5 true),([(Al.mk (Ap.mk (Ae.mk m.work.g.Nodes r_4.g.Edges) (Ad.mk m.work.c.Qubits r_4.c.Gates) r_4.place m1) m.steps)]:List Al),0,aD b4,1,([(((B5,c6),(B6,c7),(B7,c8),(B8,c9),(B9,c10)),(Al.mk (Ap.mk (Ae.mk m.work.g.Nodes r_4.g.Edges) (Ad.mk m.work.c.Qubits r_4.c.Gates) r_4.place m1) m.steps))]:List ((Hd×Hd×Hd×Hd×Hd)×Al)),(fc rfl (fc rfl (fc rfl (fc rfl (fc rfl (fc rfl fn_)))))),(show List.map Prod.snd ([(((B5,c6),(B6,c7),(B7,c8),(B8,c9),(B9,c10)),(Al.mk (Ap.mk (Ae.mk m.work.g.Nodes r_4.g.Edges) (Ad.mk m.work.c.Qubits r_4.c.Gates) r_4.place m1) m.steps))]:List ((Hd×Hd×Hd×Hd×Hd)×Al))=([(Al.mk (Ap.mk (Ae.mk m.work.g.Nodes r_4.g.Edges) (Ad.mk m.work.c.Qubits r_4.c.Gates) r_4.place m1) m.steps)]:List Al) from rfl),hdc1,ho9,(hS30.sel [0,2,4,5] rfl rfl),hz2⟩ ?_
  rintro k_ f w ⟨seen,queue,at_1,B10,c11,D,hf,hD,hdc2,ho10,hS31,hL⟩
  obtain ⟨K2,y,rfl,hb1,hL1⟩:=whX_go hL
  unfold Cd at hb1
  refine cq (cq (cr ?_))
  refine sQ 41 (yv rfl (hf.g 11 5))<|sQ 42 (yv rfl (hf.g 10 4))<|sQ 43 (Y_len Hr rfl rfl)<|sQ 44 zL (rn ?_)
  refine cw_cond rfl (fun hb2=>?_) (fun hb2=>?_)
  ·skip
   have hF4:=ct hb1 hb2
   refine cw_skip (cq (cw_block (cq (cr ?_))))
   refine sQ 47 (yv rfl (hf.g 10 4))<|sQ 48 (yv rfl (hf.g 11 5)) ?_
   obtain ⟨x,hx,hF4⟩:=bI hF4
   obtain ⟨⟨⟨B11,c12⟩,⟨B12,c13⟩,⟨B13,c14⟩,⟨B14,c15⟩,⟨B15,c16⟩⟩,hp⟩:=getI_snd hD hx
   refine sQ 49 (yI B10 at_1 Hr K57 (gi_isSome H0 rfl (hS31.c 3) hp) (getI_nn hp) (getI_ltI hp (dl_len hD))) ?_
   let R18:Ro:=⟨B11,(x.work.g.Edges.flatMap eN1)⟩
   have hm2:(R18:Ro)∈((R17::R19::R16::R14::R15::R12::R11::R13::((D.flatMap eN7)++[])):List Ro):=app_mem (fun r_ (h:r_∈((D.flatMap eN7):List Ro))=>mOd (i:=8) (show r_∈((((D.flatMap eN7)++[])):List Ro) from mAl _ h)) (row_mem (rw_:=eN7) hp _ (mt 0))
   let O7:Ob:=⟨B10,109,(D.flatMap AS),c11*7⟩
   have hS32:ST w0 [] _ [O2,O4,⟨(aD g1),.mp (mpE AM Value.bool seen),[],0⟩,O7] (R18::R17::R19::R16::R14::R15::R12::R11::R13::((D.flatMap eN7)++[])):=ST.subR hS31 (subc hm2 (fun _ h=>h))
   let R20:Ro:=⟨B12,(x.work.c.Gates.flatMap eN0)⟩
   have hm3:(R20:Ro)∈((R18::R17::R19::R16::R14::R15::R12::R11::R13::((D.flatMap eN7)++[])):List Ro):=app_mem (fun r_ (h:r_∈((D.flatMap eN7):List Ro))=>mOd (i:=9) (show r_∈((((D.flatMap eN7)++[])):List Ro) from mAl _ h)) (row_mem (rw_:=eN7) hp _ (mt 1))
   have hS33:ST w0 [] _ [O2,O4,⟨(aD g1),.mp (mpE AM Value.bool seen),[],0⟩,O7] (R20::R18::R17::R19::R16::R14::R15::R12::R11::R13::((D.flatMap eN7)++[])):=ST.subR hS32 (subc hm3 (fun _ h=>h))
   let R21:Ro:=⟨B13,(x.work.place.flatMap encI)⟩
   have hm4:(R21:Ro)∈((R20::R18::R17::R19::R16::R14::R15::R12::R11::R13::((D.flatMap eN7)++[])):List Ro):=app_mem (fun r_ (h:r_∈((D.flatMap eN7):List Ro))=>mOd (i:=10) (show r_∈((((D.flatMap eN7)++[])):List Ro) from mAl _ h)) (row_mem (rw_:=eN7) hp _ (mt 2))
   have hS34:ST w0 [] _ [O2,O4,⟨(aD g1),.mp (mpE AM Value.bool seen),[],0⟩,O7] (R21::R20::R18::R17::R19::R16::R14::R15::R12::R11::R13::((D.flatMap eN7)++[])):=ST.subR hS33 (subc hm4 (fun _ h=>h))
   let R22:Ro:=⟨B14,(x.work.done.flatMap encB)⟩
   have hm5:(R22:Ro)∈((R21::R20::R18::R17::R19::R16::R14::R15::R12::R11::R13::((D.flatMap eN7)++[])):List Ro):=app_mem (fun r_ (h:r_∈((D.flatMap eN7):List Ro))=>mOd (i:=11) (show r_∈((((D.flatMap eN7)++[])):List Ro) from mAl _ h)) (row_mem (rw_:=eN7) hp _ (mt 3))
   have hS35:ST w0 [] _ [O2,O4,⟨(aD g1),.mp (mpE AM Value.bool seen),[],0⟩,O7] (R22::R21::R20::R18::R17::R19::R16::R14::R15::R12::R11::R13::((D.flatMap eN7)++[])):=ST.subR hS34 (subc hm5 (fun _ h=>h))
   let R23:Ro:=⟨B15,(x.steps.flatMap eN2)⟩
   have hm6:(R23:Ro)∈((R22::R21::R20::R18::R17::R19::R16::R14::R15::R12::R11::R13::((D.flatMap eN7)++[])):List Ro):=app_mem (fun r_ (h:r_∈((D.flatMap eN7):List Ro))=>mOd (i:=12) (show r_∈((((D.flatMap eN7)++[])):List Ro) from mAl _ h)) (row_mem (rw_:=eN7) hp _ (mt 4))
   have hS36:ST w0 [] _ [O2,O4,⟨(aD g1),.mp (mpE AM Value.bool seen),[],0⟩,O7] (R23::R22::R21::R20::R18::R17::R19::R16::R14::R15::R12::R11::R13::((D.flatMap eN7)++[])):=ST.subR hS35 (subc hm6 (fun _ h=>h))
   refine sQ 50 (ya B10 (at_1.toNat*7) (D.flatMap AS) [vi x.work.g.Nodes,.slice B11 x.work.g.Edges.length c12,vi x.work.c.Qubits,.slice B12 x.work.c.Gates.length c13,.slice B13 x.work.place.length c14,.slice B14 x.work.done.length c15,.slice B15 x.steps.length c16] K88 K57 (hS36.c 3) rfl rfl (H0 (((B11,c12),(B12,c13),(B13,c14),(B14,c15),(B15,c16)),x)) (gi_seg H0 hp)) ?_
   refine sS 12 (yN [vi 0,.slice none 0 0,vi 0,.slice none 0 0,.slice none 0 0,.slice none 0 0,.slice none 0 0] 7 hS36 K95) ?_
   rintro _ w_15 ⟨b5,rfl,hS37⟩
   refine s0 (yK 4 7 0 hS37 K57) ?_
   rintro _ w_16 ⟨rfl,hS38⟩
   refine rn (cq (cq (cr ?_)))
   refine sQ 51 (yd (aD b5) 0 5 K94 K24)<|sQ 52 (yd (aD b5) 0 0 K76 K41)<|sQ 53 (yz 5 K60 (hS38.c 4)) ?_
   obtain ⟨r_6,hc5,hF4⟩:=bI hF4
   refine sc 54 rfl rfl (yc LI (Ot x.work.done false B14 c15 x.work.done.length _ rfl (hS38.inn0 [(true,1)] rfl) hc5)) ?_
   rintro _ w_17 ⟨rfl,hd4⟩
   have hS39:=hS38.out00 hd4
   refine sQ 55 yn (rn ?_)
   refine cw_cond rfl (fun hb3=>?_) (fun hb3=>?_)
   ·skip
    have hF5:=ct hF4 hb3
    refine cq ?_
    obtain ⟨r_7,hc6,hF5⟩:=bI hF5
    refine ra_start (hS39.se [0,2,3,4]).fn (by kernel_rfl) ?_
    have hS41:=hS39.drew
    have hQ0:=hS41.se [0,2,3,4]
    refine rq 0 56 rfl hQ0 (fun _ q=>(yv rfl (hf.g 2 0)))<|rq 2 58 rfl hQ0 (fun _ q=>(yd (aD b5) 0 0 I0 K36))<|rq 3 59 rfl hQ0 (fun _ q=>(yz 6 K55 (ST.c q 3))) ?_
    refine rA [1] ?_
    refine rC 57 1 rfl (yc E5 (DV start B2 c3 start.length _ rfl (hS41.inn0 [(true,12)] rfl) hc6)) ?_ aN
    rintro _ w_18 ⟨B16,c17,rfl,hd5⟩
    have hS42:=hS41.out0 hd5
    refine ⟨(hS42.se [0,2,3,4]),?_⟩
    refine rq 4 60 rfl (hS42.se [0,2,3,4]) (fun _ q=>(Y_buildS (zs:=[.slice none 0 0,.slice none 0 0]) (vs:=[(0,.slice B16 r_7.length c17),(1,.slice B15 x.steps.length c16)]) (cs:=[.slice B16 r_7.length c17,.slice B15 x.steps.length c16]) ET K61 rfl (mpc rfl (mpc rfl mpn)) rfl)) ?_
    refine rA [5] ?_
    refine rZ 5 rfl (yK 1 2 0 hS42 K25 rfl (hf.g 6 2)) ?_ aN
    rintro _ w_19 ⟨rfl,hS43⟩
    refine ⟨(hS43.se [0,2,3,4]),?_⟩
    refine rq 6 7 rfl (hS43.se [0,2,3,4]) (fun _ q=>yu) ?_
    refine ra_done (by kernel_rfl) ?_
    refine ct_ ?_
    obtain rfl:=sI hF5
    obtain rfl:=sI hL1
    obtain ⟨rfl,rfl⟩:=pr2 (sI hF3)
    exact ret2 Tryz.results26 (rX K46 K25 (hS43.c 1) (hf.g 6 2)) rT ⟨B16,c17,B15,c16,rfl,(len_le rfl (Sx (hdc2 _ (List.mem_of_getElem? (getI_some hp))))),(org_cons (org_sub ho10 (subc (row_mem (rw_:=eN7) hp _ (mt 4)) (fun _ h=>by cases h))) org_nil),((hS43.sel [5] rfl rfl).sT [0])⟩
   ·skip
    have hF6:=cf' hF4 hb3
    refine cw_skip (cq (cr ?_))
    refine sQ 61 (yd (aD b) 0 0 K50 K40 rfl (hf.g 3 1))<|sQ 62 (yz 1 K69 (hS39.c 0))<|sQ 63 (Y_len K34 rfl rfl)<|sQ 64 yv (rn ?_)
    obtain ⟨hN,hF6⟩:=chk_inv hF6
    obtain ⟨z1,hz3,hF7⟩:=bI hF6
    refine cw_block ?_
    let O0:Ob:=⟨aD b5,109,[vi x.work.g.Nodes,.slice B11 x.work.g.Edges.length c12,vi x.work.c.Qubits,.slice B12 x.work.c.Gates.length c13,.slice B13 x.work.place.length c14,.slice B14 x.work.done.length c15,.slice B15 x.steps.length c16],7⟩
    refine cw_loop (fun k f w=>∃ (i1:Nat) (seen1:List (AB×Bool)) (queue1:List Al) (B17:Option Addr) (c18:Nat) (D1:List ((Hd×Hd×Hd×Hd×Hd)×Al)),FF f [(2,.slice B2 start.length c3),(3,pt (aD b) 0),(6,pt (aD b2) 0),(9,.map (some g1)),(10,.slice B17 queue1.length c18),(11,vi at_1),(12,pt (aD b5) 0),(62,.slice B g.Edges.length c),(63,vi (g.Edges.length:Int)),(64,vi (i1:Int))]∧D1.map Prod.snd=queue1∧(∀ p_∈D1,BA p_)∧Org w0 [] [R12,R11,R13] (D1.flatMap eN7)∧ST w0 [] w [O2,O4,⟨(aD g1),.mp (mpE AM Value.bool seen1),[],0⟩,⟨B17,109,(D1.flatMap AS),c18*7⟩,O0] (R23::R22::R21::R20::R18::R17::R19::R16::R14::R15::R12::R11::R13::((D1.flatMap eN7)++[]))∧i1+k=g.Edges.length∧forN (Do g x) k i1 (seen1,queue1)=some z1) g.Edges.length ⟨0,seen,queue,B10,c11,D,(hf.a 2 0 (hf.a 3 1 (hf.a 6 2 (hf.a 9 3 (hf.a 10 4 (hf.a 11 5 (fc rfl (fc rfl (fc rfl (fc rfl fn_)))))))))),hD,hdc2,ho10,(hS39.sel [0,1,2,3,4] rfl rfl),Nat.zero_add _,hz3⟩ ?_
    rintro K11 f w ⟨i1,seen1,queue1,B17,c18,D1,hf1,hD1,hdc3,ho11,hS44,hik1,hL2⟩
    refine cq (cr ?_)
    refine sQ 65 (zL rfl (hf1.g 64 9) (hf1.g 63 8)) (rn (cq ?_))
    refine cw_cond rfl (fun hlt=>?_) (fun hlt=>?_)
    ·skip
     have hlt1:i1<g.Edges.length:=by have h:=of_decide_eq_true hlt; omega
     obtain ⟨K22,rfl⟩:∃ k2,K11=k2+1:=⟨K11-1,by omega⟩
     obtain ⟨y1,hb4,hL3⟩:=forN_go hL2
     unfold Do at hb4
     refine cw_skip (cq ?_)
     obtain ⟨z2,hz4,hF8⟩:=bI hb4
     refine cw_mid (fun f w=>∃ (seen2:List (AB×Bool)) (queue2:List Al) (B18:Option Addr) (c19:Nat) (D2:List ((Hd×Hd×Hd×Hd×Hd)×Al)),(seen2,queue2)=z2∧FF f [(2,.slice B2 start.length c3),(3,pt (aD b) 0),(6,pt (aD b2) 0),(9,.map (some g1)),(10,.slice B18 queue2.length c19),(11,vi at_1),(12,pt (aD b5) 0),(62,.slice B g.Edges.length c),(63,vi (g.Edges.length:Int)),(64,vi (i1:Int))]∧D2.map Prod.snd=queue2∧(∀ p_∈D2,BA p_)∧Org w0 [] [R12,R11,R13] (D2.flatMap eN7)∧ST w0 [] w [O2,O4,⟨(aD g1),.mp (mpE AM Value.bool seen2),[],0⟩,⟨B18,109,(D2.flatMap AS),c19*7⟩,O0] (R23::R22::R21::R20::R18::R17::R19::R16::R14::R15::R12::R11::R13::((D2.flatMap eN7)++[]))) ?_ ?_
     ·skip
      refine cw_block (cq (cr ?_))
      obtain ⟨x1,hx1,hz4⟩:=bI hz4
      refine sQ 66 (yI B (i1:Int) K34 K20 (gi_isSome A6 rfl (hS44.rf (i:=10) rfl) hx1) (getI_nn hx1) (getI_ltI hx1 rfl) rfl (hf1.g 62 7) (hf1.g 64 9))<|sQ 67 (ya B ((i1:Int).toNat*2) (g.Edges.flatMap eN1) [vi x1.A,vi x1.B] K85 K20 (hS44.rf (i:=10) rfl) rfl rfl (A6 x1) (gi_seg A6 hx1)) ?_
      refine sS 14 (yN [vi 0,vi 0] 2 hS44 K51) ?_
      rintro _ w_20 ⟨b6,rfl,hS46⟩
      refine s0 (yK 5 2 0 hS46 K20) ?_
      rintro _ w_21 ⟨rfl,hS47⟩
      refine rn (cq (cr ?_))
      refine sQ 68 (yw 0 K88 K57 (hS47.c 4) rfl (hf1.g 12 6))<|sQ 69 (yw 0 K85 K20 (hS47.c 5)) ?_
      obtain ⟨r_8,hc7,hz4⟩:=bI hz4
      refine sc 70 rfl rfl (yc Vp (VI x x1 B11 c12 x.work.g.Edges.length B12 c13 x.work.c.Gates.length B13 c14 x.work.place.length B14 c15 x.work.done.length B15 c16 x.steps.length _ rfl (Qv (hdc2 _ (List.mem_of_getElem? (getI_some hp)))) rfl (Ut (hdc2 _ (List.mem_of_getElem? (getI_some hp)))) rfl rfl rfl (hS47.inn0 [(true,4),(true,3),(true,2),(true,1),(true,0)] rfl) hc7)) ?_
      rintro _ w_22 ⟨B19,c20,B20,c21,B21,c22,B22,c23,B23,c24,rfl,hq5,hq6,ho13,hd6⟩
      have hS48:=ST.outR0 hS47 hd6 ho13 (sk 4 (sk 3 (sk 2 (sk 1 (sk 0 (fun _ h=>by cases h))))))
      let R24:Ro:=⟨B19,(r_8.work.g.Edges.flatMap eN1)⟩
      let R25:Ro:=⟨B20,(r_8.work.c.Gates.flatMap eN0)⟩
      have ho14:Org w0 [] [R12,R11,R13] [R24,R25]:=org_trans0 hS47 ho13 (org_cons (org_sub ho10 (subc (row_mem (rw_:=eN7) hp _ (mt 0)) (fun _ h=>by cases h))) (org_cons (org_sub ho10 (subc (row_mem (rw_:=eN7) hp _ (mt 1)) (fun _ h=>by cases h))) (org_cons (org_sub ho10 (subc (row_mem (rw_:=eN7) hp _ (mt 2)) (fun _ h=>by cases h))) (org_cons (org_sub ho10 (subc (row_mem (rw_:=eN7) hp _ (mt 3)) (fun _ h=>by cases h))) (org_cons (org_sub ho10 (subc (row_mem (rw_:=eN7) hp _ (mt 4)) (fun _ h=>by cases h))) org_nil)))))
      let O6:Ob:=⟨B17,109,(D1.flatMap AS),c18*7⟩
      let O8:Ob:=⟨aD b6,118,[vi x1.A,vi x1.B],2⟩
      let O9:Ob:=⟨B23,39,(r_8.steps.flatMap eN2),c24*3⟩
      let O10:Ob:=⟨B22,4,(r_8.work.done.flatMap encB),c23*1⟩
      have hS49:ST w0 [] _ [O2,O4,⟨(aD g1),.mp (mpE AM Value.bool seen1),[],0⟩,O6,O0,O8,⟨B21,3,(r_8.work.place.flatMap encI),c22*1⟩,O10,O9] (R24::R25::R23::R22::R21::R20::R18::R17::R19::R16::R14::R15::R12::R11::R13::((D1.flatMap eN7)++[])):=hS48
      refine sS 15 (yN [vi 0,.slice none 0 0,vi 0,.slice none 0 0,.slice none 0 0,.slice none 0 0,.slice none 0 0] 7 hS49 K95) ?_
      rintro _ w_23 ⟨b7,rfl,hS50⟩
      refine s0 (yK 9 7 0 hS50 K57) ?_
      rintro _ w_24 ⟨rfl,hS51⟩
      refine rn (cq (cr ?_))
      refine sQ 71 (yv rfl (hf1.g 9 3))<|sQ 72 (yw 0 K88 K57 (hS51.c 9)) ?_
      obtain ⟨r_9,hc8,hz4⟩:=bI hz4
      refine sc 73 rfl rfl (yc Jj (Ld r_8 B19 c20 r_8.work.g.Edges.length B20 c21 r_8.work.c.Gates.length B21 c22 r_8.work.place.length B22 c23 r_8.work.done.length B23 c24 r_8.steps.length _ rfl rfl rfl rfl rfl (hS51.inn0 [(true,0),(true,1),(false,6),(false,7),(false,8)] rfl) hc8)) ?_
      rintro _ w_25 ⟨rfl,hd7⟩
      have hS52:=hS51.out00 hd7
      refine sQ 74 (Y_mapGet (kE:=AM) (vE:=Value.bool) (l:=seen1) (a:=r_9) (d:=false) (g:=g1) (i:=2) hS52 JR Jo GQ rfl rfl rfl rfl)<|sQ 75 yn (rn ?_)
      refine cw_cond rfl (fun hb5=>?_) (fun hb5=>?_)
      ·skip
       have hF9:=ct hz4 hb5
       refine cq (cr ?_)
       refine sQ 76 (yv rfl (hf1.g 9 3))<|sQ 77 (yw 0 K88 K57 (hS52.c 9)) ?_
       obtain ⟨r_10,hc9,hF9⟩:=bI hF9
       refine sc 78 rfl rfl (yc Jj (Ld r_8 B19 c20 r_8.work.g.Edges.length B20 c21 r_8.work.c.Gates.length B21 c22 r_8.work.place.length B22 c23 r_8.work.done.length B23 c24 r_8.steps.length _ rfl rfl rfl rfl rfl (hS52.inn0 [(true,0),(true,1),(false,6),(false,7),(false,8)] rfl) hc9)) ?_
       rintro _ w_26 ⟨rfl,hd8⟩
       have hS53:=hS52.out00 hd8
       refine s0 (Ys_mapPut (kE:=AM) (vE:=Value.bool) (l:=seen1) (a:=r_10) (b:=true) (g:=g1) (i:=2) hS53 JR Jo rfl rfl rfl rfl rfl rfl) ?_
       rintro _ w_27 ⟨rfl,hS54⟩
       refine rn (cr ?_)
       refine sQ 79 (yv rfl (hf1.g 10 4))<|sQ 80 (yw 0 K88 K57 (hS54.c 9)) ?_
       let R26:Ro:=⟨B21,(r_8.work.place.flatMap encI)⟩
       have ho15:Org w0 [] [R12,R11,R13] [R26]:=ST.orgOwn hS54 (i:=6) rfl
       have hcap6:r_8.work.place.length≤c22:=(hS54.lencap (i:=6) rfl (fm_lenn (l:=r_8.work.place) encI_len rfl) rfl rfl)
       let O1:Ob:=⟨aD b7,109,[vi r_8.work.g.Nodes,.slice B19 r_8.work.g.Edges.length c20,vi r_8.work.c.Qubits,.slice B20 r_8.work.c.Gates.length c21,.slice B21 r_8.work.place.length c22,.slice B22 r_8.work.done.length c23,.slice B23 r_8.steps.length c24],7⟩
       have hS55:ST w0 [] _ [O2,O4,⟨(aD g1),.mp (mpE AM Value.bool (mput seen1 r_10 true)),[],0⟩,O6,O0,O8,O10,O9,O1] (R26::R24::R25::R23::R22::R21::R20::R18::R17::R19::R16::R14::R15::R12::R11::R13::((D1.flatMap eN7)++[])):=hS54.freeze (i:=6) rfl
       let R27:Ro:=⟨B22,(r_8.work.done.flatMap encB)⟩
       have ho16:Org w0 [] [R12,R11,R13] [R27]:=ST.orgOwn hS55 (i:=6) rfl
       have hcap7:r_8.work.done.length≤c23:=(hS55.lencap (i:=6) rfl (fm_lenn (l:=r_8.work.done) encB_len rfl) rfl rfl)
       have hS56:ST w0 [] _ [O2,O4,⟨(aD g1),.mp (mpE AM Value.bool (mput seen1 r_10 true)),[],0⟩,O6,O0,O8,O9,O1] (R27::R26::R24::R25::R23::R22::R21::R20::R18::R17::R19::R16::R14::R15::R12::R11::R13::((D1.flatMap eN7)++[])):=hS55.freeze (i:=6) rfl
       let R28:Ro:=⟨B23,(r_8.steps.flatMap eN2)⟩
       have ho17:Org w0 [] [R12,R11,R13] [R28]:=ST.orgOwn hS56 (i:=6) rfl
       have hcap8:r_8.steps.length≤c24:=(hS56.lencap (i:=6) rfl (fm_lenn (l:=r_8.steps) A5 rfl) rfl rfl)
       have hS57:ST w0 [] _ [O2,O4,⟨(aD g1),.mp (mpE AM Value.bool (mput seen1 r_10 true)),[],0⟩,O6,O0,O8,O1] (R28::R27::R26::R24::R25::R23::R22::R21::R20::R18::R17::R19::R16::R14::R15::R12::R11::R13::((D1.flatMap eN7)++[])):=hS56.freeze (i:=6) rfl
       refine sS 81 (yF 7 1 [vi r_8.work.g.Nodes,.slice B19 r_8.work.g.Edges.length c20,vi r_8.work.c.Qubits,.slice B20 r_8.work.c.Gates.length c21,.slice B21 r_8.work.place.length c22,.slice B22 r_8.work.done.length c23,.slice B23 r_8.steps.length c24] 7 hS57 Hr K57 PQ rfl (mpc rfl mpn)) ?_
       rintro _ w_28 ⟨b8,rfl,hS58⟩
       have hm7:∀ r∈(([(((B19,c20),(B20,c21),(B21,c22),(B22,c23),(B23,c24)),r_8)]:List ((Hd×Hd×Hd×Hd×Hd)×Al)).flatMap eN7),r∈((R28::R27::R26::R24::R25::R23::R22::R21::R20::R18::R17::R19::R16::R14::R15::R12::R11::R13::((D1.flatMap eN7)++[])):List Ro):=(fsub_cons (sk 3 (sk 4 (sk 2 (sk 1 (sk 0 (fun _ h=>by cases h)))))) fsub_nil)
       have ho18:Org w0 [] [R12,R11,R13] (([(((B19,c20),(B20,c21),(B21,c22),(B22,c23),(B23,c24)),r_8)]:List ((Hd×Hd×Hd×Hd×Hd)×Al)).flatMap eN7):=(forg_cons (org_cons (org_sub ho14 (sk 0 (fun _ h=>by cases h))) (org_cons (org_sub ho14 (sk 1 (fun _ h=>by cases h))) (org_cons ho15 (org_cons ho16 (org_cons ho17 org_nil))))) forg_nil)
       have hdc5:∀ p_∈([(((B19,c20),(B20,c21),(B21,c22),(B22,c23),(B23,c24)),r_8)]:List ((Hd×Hd×Hd×Hd×Hd)×Al)),BA p_:=fun p_ hp_=>by rw [List.mem_singleton.1 hp_]; exact ⟨hq5,hq6,hcap6,hcap7,hcap8⟩
       have hS59:ST w0 [] _ [O2,O4,⟨(aD g1),.mp (mpE AM Value.bool (mput seen1 r_10 true)),[],0⟩,⟨B17,109,(D1.flatMap AS),c18*7⟩,O0,O8,O1,⟨aD b8,109,(([(((B19,c20),(B20,c21),(B21,c22),(B22,c23),(B23,c24)),r_8)]:List ((Hd×Hd×Hd×Hd×Hd)×Al)).flatMap AS),1*7⟩] (R28::R27::R26::R24::R25::R23::R22::R21::R20::R18::R17::R19::R16::R14::R15::R12::R11::R13::((([(((B19,c20),(B20,c21),(B21,c22),(B22,c23),(B23,c24)),r_8)]:List ((Hd×Hd×Hd×Hd×Hd)×Al)).flatMap eN7)++((D1.flatMap eN7)++[]))):=ST.subR hS58 (sk 0 (sk 1 (sk 2 (sk 3 (sk 4 (sk 5 (sk 6 (sk 7 (sk 8 (sk 9 (sk 10 (sk 11 (sk 12 (sk 13 (sk 14 (sk 15 (sk 16 (sk 17 (suba hm7 (suba (fun r_ (h:r_∈((D1.flatMap eN7):List Ro))=>mOd (i:=18) (show r_∈((((D1.flatMap eN7)++[])):List Ro) from mAl _ h)) (fun _ h=>by cases h)))))))))))))))))))))
       obtain ⟨hap,hF9⟩:=chk_inv hF9
       refine sS 82 (Ys_append (s:=7) (by':=136) (i:=3) (nn:=queue1.length) (c:=c18) (k:=1) (len:=(queue1++([r_8]:List Al)).length) (B:=B17) (xs:=(([(((B19,c20),(B20,c21),(B21,c22),(B22,c23),(B23,c24)),r_8)]:List ((Hd×Hd×Hd×Hd×Hd)×Al)).flatMap AS)) (cs':=((D1++([(((B19,c20),(B20,c21),(B21,c22),(B22,c23),(B23,c24)),r_8)]:List ((Hd×Hd×Hd×Hd×Hd)×Al))).flatMap AS)) hS59 Hr K57 Vj K95 rfl (by decide) rfl rfl rfl rfl (fm_lenn (l:=D1) H0 (dl_len hD1)) rfl (hS59.c 7) (fm_lenn (l:=([(((B19,c20),(B20,c21),(B21,c22),(B22,c23),(B23,c24)),r_8)]:List ((Hd×Hd×Hd×Hd×Hd)×Al))) H0 rfl) (fm_one' (enc:=AS) TD ([(((B19,c20),(B20,c21),(B21,c22),(B22,c23),(B23,c24)),r_8)]:List ((Hd×Hd×Hd×Hd×Hd)×Al))) (by have:=hap; omega) (by have:=hap; simp only [maxLen]; omega) (fm_app _ _) (dl_sum (dl_len hD1) rfl (dl_app hD1 (show List.map Prod.snd ([(((B19,c20),(B20,c21),(B21,c22),(B22,c23),(B23,c24)),r_8)]:List ((Hd×Hd×Hd×Hd×Hd)×Al))=([r_8]:List Al) from rfl)))) ?_
       rintro _ w_29 ⟨B24,c25,rfl,hS60⟩
       have ho19:Org w0 [] [R12,R11,R13] ((D1++([(((B19,c20),(B20,c21),(B21,c22),(B22,c23),(B23,c24)),r_8)]:List ((Hd×Hd×Hd×Hd×Hd)×Al))).flatMap eN7):=(forg_app ho11 ho18)
       have hdc6:∀ p_∈(D1++([(((B19,c20),(B20,c21),(B21,c22),(B22,c23),(B23,c24)),r_8)]:List ((Hd×Hd×Hd×Hd×Hd)×Al))),BA p_:=fun p_ hp_=>(List.mem_append.1 hp_).elim (fun h=>hdc3 p_ h) (fun h=>hdc5 p_ h)
       have hS61:ST w0 [] _ [O2,O4,⟨(aD g1),.mp (mpE AM Value.bool (mput seen1 r_10 true)),[],0⟩,⟨B24,109,((D1++([(((B19,c20),(B20,c21),(B21,c22),(B22,c23),(B23,c24)),r_8)]:List ((Hd×Hd×Hd×Hd×Hd)×Al))).flatMap AS),c25*7⟩,O0,O8,⟨aD b7,109,[vi r_8.work.g.Nodes,.slice B19 r_8.work.g.Edges.length c20,vi r_8.work.c.Qubits,.slice B20 r_8.work.c.Gates.length c21,.slice B21 r_8.work.place.length c22,.slice B22 r_8.work.done.length c23,.slice B23 r_8.steps.length c24],7⟩,⟨aD b8,109,(([(((B19,c20),(B20,c21),(B21,c22),(B22,c23),(B23,c24)),r_8)]:List ((Hd×Hd×Hd×Hd×Hd)×Al)).flatMap AS),1*7⟩] (⟨B23,(r_8.steps.flatMap eN2)⟩::⟨B22,(r_8.work.done.flatMap encB)⟩::⟨B21,(r_8.work.place.flatMap encI)⟩::⟨B19,(r_8.work.g.Edges.flatMap eN1)⟩::⟨B20,(r_8.work.c.Gates.flatMap eN0)⟩::R23::R22::R21::R20::R18::R17::R19::R16::R14::R15::R12::R11::R13::(((D1++([(((B19,c20),(B20,c21),(B21,c22),(B22,c23),(B23,c24)),r_8)]:List ((Hd×Hd×Hd×Hd×Hd)×Al))).flatMap eN7)++((([(((B19,c20),(B20,c21),(B21,c22),(B22,c23),(B23,c24)),r_8)]:List ((Hd×Hd×Hd×Hd×Hd)×Al)).flatMap eN7)++[]))):=ST.subR hS60 (sk 0 (sk 1 (sk 2 (sk 3 (sk 4 (sk 5 (sk 6 (sk 7 (sk 8 (sk 9 (sk 10 (sk 11 (sk 12 (sk 13 (sk 14 (sk 15 (sk 16 (sk 17 (suba (fsub_app (fun r_ (h:r_∈((D1.flatMap eN7):List Ro))=>mOd (i:=18) (show r_∈((((([(((B19,c20),(B20,c21),(B21,c22),(B22,c23),(B23,c24)),r_8)]:List ((Hd×Hd×Hd×Hd×Hd)×Al)).flatMap eN7)++((D1.flatMap eN7)++[]))):List Ro) from mAr _ (mAl _ h))) (fun r_ (h:r_∈((([(((B19,c20),(B20,c21),(B21,c22),(B22,c23),(B23,c24)),r_8)]:List ((Hd×Hd×Hd×Hd×Hd)×Al)).flatMap eN7):List Ro))=>mOd (i:=18) (show r_∈((((([(((B19,c20),(B20,c21),(B21,c22),(B22,c23),(B23,c24)),r_8)]:List ((Hd×Hd×Hd×Hd×Hd)×Al)).flatMap eN7)++((D1.flatMap eN7)++[]))):List Ro) from mAl _ h))) (suba (fun r_ (h:r_∈((([(((B19,c20),(B20,c21),(B21,c22),(B22,c23),(B23,c24)),r_8)]:List ((Hd×Hd×Hd×Hd×Hd)×Al)).flatMap eN7):List Ro))=>mOd (i:=18) (show r_∈((((([(((B19,c20),(B20,c21),(B21,c22),(B22,c23),(B23,c24)),r_8)]:List ((Hd×Hd×Hd×Hd×Hd)×Al)).flatMap eN7)++((D1.flatMap eN7)++[]))):List Ro) from mAl _ h)) (fun _ h=>by cases h)))))))))))))))))))))
       refine sQ 10 yu (rn ?_)
       have hS62:ST w0 [] _ [O2,O4,⟨(aD g1),.mp (mpE AM Value.bool (mput seen1 r_10 true)),[],0⟩,⟨B24,109,((D1++([(((B19,c20),(B20,c21),(B21,c22),(B22,c23),(B23,c24)),r_8)]:List ((Hd×Hd×Hd×Hd×Hd)×Al))).flatMap AS),c25*7⟩,O0,O8,⟨aD b7,109,[vi r_8.work.g.Nodes,.slice B19 r_8.work.g.Edges.length c20,vi r_8.work.c.Qubits,.slice B20 r_8.work.c.Gates.length c21,.slice B21 r_8.work.place.length c22,.slice B22 r_8.work.done.length c23,.slice B23 r_8.steps.length c24],7⟩,⟨aD b8,109,(([(((B19,c20),(B20,c21),(B21,c22),(B22,c23),(B23,c24)),r_8)]:List ((Hd×Hd×Hd×Hd×Hd)×Al)).flatMap AS),1*7⟩] (R23::R22::R21::R20::R18::R17::R19::R16::R14::R15::R12::R11::R13::(((D1++([(((B19,c20),(B20,c21),(B21,c22),(B22,c23),(B23,c24)),r_8)]:List ((Hd×Hd×Hd×Hd×Hd)×Al))).flatMap eN7)++[])):=ST.subR hS61 (sk 5 (sk 6 (sk 7 (sk 8 (sk 9 (sk 10 (sk 11 (sk 12 (sk 13 (sk 14 (sk 15 (sk 16 (sk 17 (suba (fun r_ (h:r_∈(((D1++([(((B19,c20),(B20,c21),(B21,c22),(B22,c23),(B23,c24)),r_8)]:List ((Hd×Hd×Hd×Hd×Hd)×Al))).flatMap eN7):List Ro))=>mOd (i:=18) (show r_∈(((((D1++([(((B19,c20),(B20,c21),(B21,c22),(B22,c23),(B23,c24)),r_8)]:List ((Hd×Hd×Hd×Hd×Hd)×Al))).flatMap eN7)++((([(((B19,c20),(B20,c21),(B21,c22),(B22,c23),(B23,c24)),r_8)]:List ((Hd×Hd×Hd×Hd×Hd)×Al)).flatMap eN7)++[]))):List Ro) from mAl _ h)) (fun _ h=>by cases h)))))))))))))))
       exact ⟨(mput seen1 r_10 true),(queue1++([r_8]:List Al)),B24,c25,(D1++([(((B19,c20),(B20,c21),(B21,c22),(B22,c23),(B23,c24)),r_8)]:List ((Hd×Hd×Hd×Hd×Hd)×Al))),(sI hF9),(hf1.a 2 0 (hf1.a 3 1 (hf1.a 6 2 (hf1.a 9 3 (fc rfl (hf1.a 11 5 (hf1.a 12 6 (hf1.a 62 7 (hf1.a 63 8 (hf1.a 64 9 fn_)))))))))),(dl_app hD1 (show List.map Prod.snd ([(((B19,c20),(B20,c21),(B21,c22),(B22,c23),(B23,c24)),r_8)]:List ((Hd×Hd×Hd×Hd×Hd)×Al))=([r_8]:List Al) from rfl)),hdc6,ho19,(hS62.sel [0,1,2,3,4] rfl rfl)⟩
      ·skip
       have hF10:=cf' hz4 hb5
       refine cw_skip ?_
       have hS63:ST w0 [] _ [O2,O4,⟨(aD g1),.mp (mpE AM Value.bool seen1),[],0⟩,O6,O0,O8,⟨B21,3,(r_8.work.place.flatMap encI),c22*1⟩,O10,O9,⟨aD b7,109,[vi r_8.work.g.Nodes,.slice B19 r_8.work.g.Edges.length c20,vi r_8.work.c.Qubits,.slice B20 r_8.work.c.Gates.length c21,.slice B21 r_8.work.place.length c22,.slice B22 r_8.work.done.length c23,.slice B23 r_8.steps.length c24],7⟩] (R23::R22::R21::R20::R18::R17::R19::R16::R14::R15::R12::R11::R13::((D1.flatMap eN7)++[])):=hS52.sR 15 [2,3,4,5,6,7,8,9,10,11,12,13,14]
       exact ⟨seen1,queue1,B17,c18,D1,(sI hF10),(hf1.a 2 0 (hf1.a 3 1 (hf1.a 6 2 (hf1.a 9 3 (hf1.a 10 4 (hf1.a 11 5 (hf1.a 12 6 (hf1.a 62 7 (hf1.a 63 8 (hf1.a 64 9 fn_)))))))))),hD1,hdc3,ho11,(hS63.sel [0,1,2,3,4] rfl rfl)⟩
     rintro f w ⟨seen2,queue2,B18,c19,D2,rfl,hf2,hD2,hdc4,ho12,hS45⟩
     refine cr ?_
     refine sQ 83 (zP rfl (hf2.g 64 9))<|sQ 64 yv (rn ?_)
     obtain rfl:=sI hF8
     exact ⟨K22,Nat.lt_succ_self _,i1+1,seen2,queue2,B18,c19,D2,(hf2.a 2 0 (hf2.a 3 1 (hf2.a 6 2 (hf2.a 9 3 (hf2.a 10 4 (hf2.a 11 5 (hf2.a 12 6 (hf2.a 62 7 (hf2.a 63 8 (fc (congrArg (Value.int .i64) (wr_succ hlt1 hN)) fn_)))))))))),hD2,hdc4,ho12,(hS45.sel [0,1,2,3,4] rfl rfl),(by omega),hL3⟩
    ·skip
     obtain rfl:K11=0:=by have h:=of_decide_eq_false hlt; omega
     refine cw_exit rfl ?_
     obtain rfl:=sI hL2
     refine cr ?_
     refine sQ 45 (yv rfl (hf1.g 11 5))<|sQ 46 zP<|sQ 11 yu (rn ?_)
     obtain rfl:=sI hF7
     have hS64:ST w0 [] _ [O2,O4,⟨(aD g1),.mp (mpE AM Value.bool seen1),[],0⟩,⟨B17,109,(D1.flatMap AS),c18*7⟩,O0] (R17::R19::R16::R14::R15::R12::R11::R13::((D1.flatMap eN7)++[])):=hS44.sR 13 [5,6,7,8,9,10,11,12]
     exact ⟨K2,Nat.lt_succ_self _,seen1,queue1,(i64.wrap (at_1+1)),B17,c18,D1,(hf1.a 2 0 (hf1.a 3 1 (hf1.a 6 2 (hf1.a 9 3 (hf1.a 10 4 (fc rfl fn_)))))),hD1,hdc3,ho11,(hS64.sel [0,1,2,3] rfl rfl),hL1⟩
  ·skip
   have hF11:=cf' hb1 hb2
   refine cw_exit rfl ?_
   obtain rfl:=sI hF11
   obtain rfl:=sI hL1
   refine cq (cr ?_)
   refine sQ 84 (Y_buildS (zs:=[.slice none 0 0,.slice none 0 0]) (vs:=[]) (cs:=[.slice none 0 0,.slice none 0 0]) ET K61 rfl mpn rfl) ?_
   refine s0 (yK 1 2 0 hS31 K25 rfl (hf.g 6 2)) ?_
   rintro _ w_30 ⟨rfl,hS65⟩
   have hS65:ST w0 [] _ [O2,O4,⟨(aD g1),.mp (mpE AM Value.bool seen),[],0⟩,⟨B10,109,(D.flatMap AS),c11*7⟩] (R17::R19::R16::R14::R15::R12::R11::R13::((D.flatMap eN7)++[])):=hS65
   refine sQ 7 yu (rn (ct_ ?_))
   have hS66:=hS65.addNil 3
   have hS67:ST w0 [] _ [O2,O4,⟨(aD g1),.mp (mpE AM Value.bool seen),[],0⟩,⟨B10,109,(D.flatMap AS),c11*7⟩,⟨none,3,([].flatMap encI),0*1⟩] (⟨none,([].flatMap eN2)⟩::R17::R19::R16::R14::R15::R12::R11::R13::((D.flatMap eN7)++[])):=ST.nilRo hS66
   obtain ⟨rfl,rfl⟩:=pr2 (sI hF3)
   exact ret2 Tryz.results26 (rX K46 K25 (hS67.c 1) (hf.g 6 2)) rT ⟨none,0,none,0,rfl,(len_le rfl (Nat.le_refl 0)),(org_cons org_none org_nil),((hS67.sel [4] rfl rfl).sT [0])⟩

theorem NO (holds:Bool)  (w0:World)  (hS:ST w0 [] w0 [] []) {r_:Int} (hF:BN holds=some r_) :
  CV Tryz.prog 68 #[.bool holds] w0 (fun v w'=>v=vi r_∧ST w0 [] w' [] []):=by
 unfold BN at hF
 refine cv_of_cw 4 Tryz.func68 rfl Tryz.ntmps68 rfl ?_
 refine cq (cr ?_)
 refine sQ 2 yu (rn (cq (cq (cr ?_))))
 refine sQ 3 yv (rn ?_)
 refine cw_cond rfl (fun hb=>?_) (fun hb=>?_)
 ·skip
  have hF1:=ct hF hb
  refine cq (cr ?_)
  refine sQ 2 yu (rn (ct_ ?_))
  obtain rfl:=sI hF1
  exact e1 Tryz.results68 (hS.sN [])
 ·skip
  have hF2:=cf' hF hb
  refine cw_skip (cq (cr ?_))
  refine sQ 2 yu (rn (ct_ ?_))
  obtain rfl:=sI hF2
  exact e1 Tryz.results68 (hS.sN [])

theorem KU (r_:Am) (B:Option Addr) (c n:Nat) (B1:Option Addr) (c1 n1:Nat) (w0:World) (hn:r_.Start.length=n) (hn1:r_.Steps.length=n1) (hS:ST w0 [] w0 [] [⟨B,(r_.Start.flatMap encI)⟩,⟨B1,(r_.Steps.flatMap eN2)⟩]) {r_1:Int} (hF:CJ r_=some r_1) :
  CV Tryz.prog 27 #[.agg #[.slice B n c,.slice B1 n1 c1]] w0 (fun v w'=>v=vi r_1∧ST w0 [] w' [] []):=by
 subst hn
 subst hn1
 unfold CJ at hF
 refine cv_of_cw 21 Tryz.func27 rfl Tryz.ntmps27 rfl ?_
 refine cq (cr ?_)
 refine sS 1 (yV [.slice B r_.Start.length c,.slice B1 r_.Steps.length c1] 2 hS) ?_
 rintro _ w_ ⟨b,rfl,hS1⟩
 refine sQ 2 yu (rn (cq (cr ?_)))
 refine sQ 3 yu (rn (cq (cq (cr ?_))))
 refine sQ 6 (yd (aD b) 0 0 K71 K36)<|sQ 7 (yz 1 K55 (hS1.c 0))<|sQ 8 (Y_len K31 rfl rfl)<|sQ 9 yv (rn ?_)
 obtain ⟨hN,hF⟩:=chk_inv hF
 obtain ⟨z,hz,hF1⟩:=bI hF
 refine cw_block ?_
 refine cw_loop (fun k f w=>∃ (i:Nat) (count:Int),FF f [(3,vi count),(7,.slice B1 r_.Steps.length c1),(8,vi (r_.Steps.length:Int)),(9,vi (i:Int))]∧ST w0 [] w [] [⟨B,(r_.Start.flatMap encI)⟩,⟨B1,(r_.Steps.flatMap eN2)⟩]∧i+k=r_.Steps.length∧forN (G5 r_) k i count=some z) r_.Steps.length ⟨0,0,(fc rfl (fc rfl (fc rfl (fc rfl fn_)))),(hS1.sel [] rfl rfl),Nat.zero_add _,hz⟩ ?_
 rintro k_ f w ⟨i,count,hf,hS2,hik,hL⟩
 refine cq (cr ?_)
 refine sQ 10 (zL rfl (hf.g 9 3) (hf.g 8 2)) (rn (cq ?_))
 refine cw_cond rfl (fun hlt=>?_) (fun hlt=>?_)
 ·skip
  have hlt1:i<r_.Steps.length:=by have h:=of_decide_eq_true hlt; omega
  obtain ⟨K2,rfl⟩:∃ k2,k_=k2+1:=⟨k_-1,by omega⟩
  obtain ⟨y,hb,hL1⟩:=forN_go hL
  unfold G5 at hb
  refine cw_skip (cq (cw_block (cq (cr ?_))))
  obtain ⟨x,hx,hb⟩:=bI hb
  refine sQ 11 (yI B1 (i:Int) K31 K26 (gi_isSome A5 rfl (hS2.rf (i:=1) rfl) hx) (getI_nn hx) (getI_ltI hx rfl) rfl (hf.g 7 1) (hf.g 9 3))<|sQ 12 (ya B1 ((i:Int).toNat*3) (r_.Steps.flatMap eN2) [vi x.Gate,vi x.A,vi x.B] K96 K26 (hS2.rf (i:=1) rfl) rfl rfl (A5 x) (gi_seg A5 hx)) ?_
  refine sS 5 (yN [vi 0,vi 0,vi 0] 3 hS2 K56) ?_
  rintro _ w_1 ⟨b1,rfl,hS3⟩
  refine s0 (yK 0 3 0 hS3 K26) ?_
  rintro _ w_2 ⟨rfl,hS4⟩
  refine rn (cr ?_)
  refine sQ 13 (yv rfl (hf.g 3 0))<|sQ 14 (yd (aD b1) 0 0 K89 K0)<|sQ 15 (yz 0 K1 (hS4.c 0))<|sQ 16 zE ?_
  obtain ⟨r_2,hc,hb⟩:=bI hb
  refine sc 17 rfl rfl (yc M0 (NO (x.Gate==(-1)) _  (hS4.inn0 [] rfl) hc)) ?_
  rintro _ w_3 ⟨rfl,hd⟩
  have hS5:=hS4.out00 hd
  refine sQ 18 zP<|sQ 3 yu (rn (cr ?_))
  refine sQ 19 (zP rfl (hf.g 9 3))<|sQ 9 yv (rn ?_)
  obtain rfl:=sI hb
  exact ⟨K2,Nat.lt_succ_self _,i+1,(i64.wrap (count+r_2)),(fc rfl (hf.a 7 1 (hf.a 8 2 (fc (congrArg (Value.int .i64) (wr_succ hlt1 hN)) fn_)))),(hS5.sel [] rfl rfl),(by omega),hL1⟩
 ·skip
  obtain rfl:k_=0:=by have h:=of_decide_eq_false hlt; omega
  refine cw_exit rfl ?_
  obtain rfl:=sI hL
  refine cq (cr ?_)
  refine sQ 20 (yv rfl (hf.g 3 0))<|sQ 2 yu (rn (ct_ ?_))
  obtain rfl:=sI hF1
  exact e1 Tryz.results27 (hS2.sN [])

theorem VM:callB Tryz.prog 25=true:=by kernel_rfl
theorem PH:callB Tryz.prog 62=true:=by kernel_rfl
theorem Sl:callB Tryz.prog 24=true:=by kernel_rfl
theorem QF:scalB Tryz.prog 61=true:=by kernel_rfl
theorem OU:scalB Tryz.prog 1=true:=by kernel_rfl
theorem WV:sizeB Tryz.prog 61 1=true:=by kernel_rfl
theorem Wa:sizeB Tryz.prog 1 1=true:=by kernel_rfl
theorem Kw:sizeB Tryz.prog 31 1=true:=by kernel_rfl
theorem NZ:sizeB Tryz.prog 4 1=true:=by kernel_rfl
theorem Th:(Tryz.prog.info? 1).map (·.zero)=some (some .nilFunc):=by kernel_rfl
theorem U7:(Tryz.prog.info? 31).map (·.zero)=some (some (.slice none 0 0)):=by kernel_rfl
theorem VE:(Tryz.prog.info? 4).map (·.zero)=some (some (.bool false)):=by kernel_rfl
/-- What the search for the best route goes by: the blocks of its variables, and what it reads. -/
structure BrP where
 b3:Nat
 b4:Nat
 b5:Nat
 b6:Nat
 b7:Nat
 bf:Nat
 bb:Nat
 bg:Nat
 bc:Nat
 n:Int
 m:Int
 g:Ae
 c:Ad
 B:Option Addr
 cE:Nat
 B1:Option Addr
 cG:Nat
 hq:g.Edges.length≤cE
 hq1:c.Gates.length≤cG
abbrev brV (p:BrP):Value:=.func (.func 25) #[] #[pt (some ⟨p.bg,0,none⟩) 0,pt (some ⟨p.bc,0,none⟩) 0,pt (some ⟨p.bf,0,none⟩) 0,pt (some ⟨p.bb,0,none⟩) 0]
abbrev brF (p:BrP):Value:=.func (.func 62) #[] #[pt (some ⟨p.b6,0,none⟩) 0,pt (some ⟨p.b4,0,none⟩) 0,pt (some ⟨p.b5,0,none⟩) 0,pt (some ⟨p.b3,0,none⟩) 0,pt (some ⟨p.b7,0,none⟩) 0]
abbrev brG (p:BrP):List Value:=[vi p.g.Nodes,.slice p.B p.g.Edges.length p.cE]
abbrev brC (p:BrP):List Value:=[vi p.c.Qubits,.slice p.B1 p.c.Gates.length p.cG]
abbrev brA (best:Am) (Bs:Option Addr) (cs:Nat) (Bt:Option Addr) (cx:Nat):List Value:=[.slice Bs best.Start.length cs,.slice Bt best.Steps.length cx]
abbrev brL (p:BrP) (l:List Int) (Bl:Option Addr) (cl:Nat) (s:Am×Bool) (Bs:Option Addr) (cs:Nat) (Bt:Option Addr) (cx:Nat):List Ob :=
 [⟨some ⟨p.b6,0,none⟩,31,[.slice Bl l.length cl],1⟩,⟨Bl,3,l.flatMap encI,cl*1⟩,⟨some ⟨p.b4,0,none⟩,3,[vi p.m],1⟩,⟨some ⟨p.b5,0,none⟩,61,[brV p],1⟩,⟨some ⟨p.b3,0,none⟩,3,[vi p.n],1⟩,⟨some ⟨p.b7,0,none⟩,1,[brF p],1⟩,⟨some ⟨p.bf,0,none⟩,4,[.bool s.2],1⟩,⟨some ⟨p.bb,0,none⟩,34,brA s.1 Bs cs Bt cx,2⟩,⟨Bs,3,s.1.Start.flatMap encI,cs*1⟩,⟨some ⟨p.bg,0,none⟩,25,brG p,2⟩,⟨some ⟨p.bc,0,none⟩,28,brC p,2⟩]
abbrev brE (p:BrP):List Ro:=[⟨p.B,p.g.Edges.flatMap eN1⟩,⟨p.B1,p.c.Gates.flatMap eN0⟩]
abbrev brR (p:BrP) (s:Am×Bool) (Bt:Option Addr):List Ro:=⟨Bt,s.1.Steps.flatMap eN2⟩::brE p
theorem ST.frz {w0 w:World} {M:List Nat} {L:List Ob} {R:List Ro} {o:Ob} (hS:ST w0 M w (L++[o]) R) (hT:∃ T,o.T=.ty T):ST w0 M w L (⟨o.B,o.cs⟩::R):=by
 have hap:=List.pairwise_append.1 hS.apart
 refine ⟨hS.os,hS.tape,hS.output,hS.size,hS.frame,fun x hx=>hS.own x (mAl _ hx),fun x hx=>hS.home x (mAl _ hx),hap.1,?_,?_⟩
 ·intro r hr
  rcases List.mem_cons.1 hr with rfl | hr
  ·exact (hS.own o (mAr _ (List.mem_singleton.2 rfl))).cf
  ·exact hS.ro r hr
 ·intro r hr hne a ha
  rcases List.mem_cons.1 hr with rfl | hr
  ·obtain ⟨T,hT⟩:=hT
   simp only at hne ha
   rcases (hS.own o (mAr _ (List.mem_singleton.2 rfl))).ty hT with ⟨_,h2,_⟩ | ⟨g,cur,h1,h2,_⟩
   ·exact absurd h2 hne
   ·rw [h1] at ha
    obtain rfl:=Option.some.inj ha
    refine ⟨?_,fun x hx e=>?_⟩
    ·simp only
     exact (Array.getElem?_eq_some_iff.1 h2).1
    ·exact hap.2.2 x hx o (List.mem_singleton.2 rfl) g e (by unfold Ob.blk; rw [h1]; rfl)
  ·exact ⟨(hS.roblk r hr hne a ha).1,fun x hx=>(hS.roblk r hr hne a ha).2 x (mAl _ hx)⟩
theorem Ud (p:BrP) (l:List Int) (Bl:Option Addr) (cl:Nat) (st:List Int) (Bst:Option Addr) (cst:Nat) (hst:st.length≤cst) (s:Am×Bool) (Bs:Option Addr) (cs:Nat) (Bt:Option Addr) (cx:Nat) (hct:s.1.Steps.length≤cx) (w0 w:World) (M:List Nat)
  (ho:Org w0 M (brE p) [⟨Bt,s.1.Steps.flatMap eN2⟩]) (hos:Org w0 M (brE p) [⟨Bst,st.flatMap encI⟩]) (hS:ST w0 M w (brL p l Bl cl s Bs cs Bt cx) (⟨Bst,st.flatMap encI⟩::brR p s Bt)) (hoe:Org w0 M (brE p) (brE p)) {s':Am×Bool} (hF:Cq p.g p.c s st=some s') :
  CV Tryz.prog 25 #[.slice Bst st.length cst,pt (some ⟨p.bg,0,none⟩) 0,pt (some ⟨p.bc,0,none⟩) 0,pt (some ⟨p.bf,0,none⟩) 0,pt (some ⟨p.bb,0,none⟩) 0] w (fun v w'=>v=.tuple #[]∧∃ (Bs1:Option Addr) (cs1:Nat) (Bt1:Option Addr) (cx1:Nat),s'.1.Steps.length≤cx1∧Org w0 M (brE p) [⟨Bt1,s'.1.Steps.flatMap eN2⟩]∧ST w0 M w' (brL p l Bl cl s' Bs1 cs1 Bt1 cx1) (brR p s' Bt1)):=by
 unfold Cq at hF
 refine cv_of_cw 28 Tryz.func25 rfl Tryz.ntmps25 rfl ?_
 refine cq (cr ?_)
 refine sQ 9 (yw 0 K13 K8 (hS.c 9))<|sQ 10 (yw 0 K10 K3 (hS.c 10))<|sQ 11 yv ?_
 obtain ⟨⟨r_,r_1⟩,hc,hF⟩:=bI hF
 refine sc 12 rfl rfl (yc PK (MT p.g p.c st p.B p.cE p.g.Edges.length p.B1 p.cG p.c.Gates.length Bst cst st.length _ rfl p.hq rfl p.hq1 rfl hst (hS.inn0 [(true,2),(true,3),(true,0)] rfl) hc)) ?_
 rintro _ w_ ⟨B9,c5,B10,c6,rfl,hq3,hor,hd⟩
 have hS1:=ST.outR0 hS hd hor (sk 2 (sk 3 (sk 0 (fun _ h=>by cases h))))
 let R0:Ro:=⟨B10,(r_.Steps.flatMap eN2)⟩
 have ho1:Org w0 M (brE p) [R0]:=org_trans0 hS hor (org_cons (org_sub hoe (fun r hr=>by rw [List.mem_singleton.1 hr]; exact .head _)) (org_cons (org_sub hoe (fun r hr=>by rw [List.mem_singleton.1 hr]; exact .tail _ (.head _))) (org_cons hos org_nil)))
 have hS2:ST w0 M _ (brL p l Bl cl s Bs cs Bt cx++[⟨B9,3,(r_.Start.flatMap encI),c5*1⟩]) (R0::⟨Bst,st.flatMap encI⟩::brR p s Bt):=hS1
 refine sQ 8 yv<|sQ 13 (ye (.agg #[.slice B9 r_.Start.length c5,.slice B10 r_.Steps.length c6]))<|sQ 14 (ye (.bool r_1)) ?_
 refine sS 6 (yN [.slice none 0 0,.slice none 0 0] 2 hS2 K61) ?_
 rintro _ w_1 ⟨b,rfl,hS3⟩
 refine s0 (yK 12 2 0 hS3 K25) ?_
 rintro _ w_2 ⟨rfl,hS4⟩
 have hS4:ST w0 M _ (brL p l Bl cl s Bs cs Bt cx++[⟨B9,3,(r_.Start.flatMap encI),c5*1⟩,⟨aD b,34,brA r_ B9 c5 B10 c6,2⟩]) (R0::⟨Bst,st.flatMap encI⟩::brR p s Bt):=hS4
 refine sQ 7 yu (rn (cq ?_))
 obtain ⟨r_2,hc1,hF⟩:=bI hF
 obtain ⟨r_3,hc2,hF⟩:=bI hF
 refine ra_start hS4.fn (by kernel_rfl) ?_
 have hS7:=hS4.drew
 refine rq 0 15 rfl hS7 (fun _ q=>yv)<|rq 1 16 rfl hS7 (fun _ q=>yv)<|rG 2 17 rfl rfl rfl (uT_ 16) hS7 (fun hg _ q=>(yz 0 K87 (ST.c q 6)))<|rG 3 18 rfl rfl rfl (uT_ 16) hS7 (fun hg1 _ q=>(yn rfl (gv_of hg1)))<|rG 4 19 rfl rfl rfl (uT_ 16) hS7 (fun hg2 _ q=>(yv rfl (gv_of hg2))) ?_
 refine rG 5 20 rfl rfl rfl (uH_ 19) hS7 (fun hg3 _ q=>(yw 0 K46 K25 (ST.c q 12)))<|rG 7 22 rfl rfl rfl (uH_ 19) hS7 (fun hg5 _ q=>(yw 0 K46 K25 (ST.c q 7))) ?_
 refine rA [6] ?_
 refine ra_gc 21 (i:=6) (B:=(r_1&&(!(!s.2)))) (v:=vi r_2) (F:=hS7.fn) rfl rfl rfl (uH_ 19) hS7 (fun hg4=>(yc Jq (CV.mono (KU r_ B9 c5 r_.Start.length B10 c6 r_.Steps.length _ rfl rfl (hS7.inn0 [(false,11),(true,0)] rfl) (gb_inv hc1 hg4)) (by rintro _ _ ⟨rfl,h⟩; exact ⟨rfl,hS7.out00 h⟩)) rfl (mc (gv_of hg4) mn))) ?_ ?_
 ·rintro w_3 hS8
  have hS8:ST _ _ w_3 _ _:=hS8
  refine ⟨hS8,?_⟩
  refine rA [8] ?_
  refine ra_gc 23 (i:=8) (B:=(r_1&&(!(!s.2)))) (v:=vi r_3) (F:=hS8.fn) rfl rfl rfl (uH_ 19) hS8 (fun hg6=>(yc Jq (CV.mono (KU s.1 Bs cs s.1.Start.length Bt cx s.1.Steps.length _ rfl rfl (hS8.inn0 [(false,8),(true,2)] rfl) (gb_inv hc2 hg6)) (by rintro _ _ ⟨rfl,h⟩; exact ⟨rfl,hS8.out00 h⟩)) rfl (mc (gv_of hg6) mn))) ?_ ?_
  ·rintro w_4 hS9
   have hS9:ST _ _ w_4 _ _:=hS9
   refine ⟨hS9,?_⟩
   refine rG 9 24 rfl rfl rfl (uH_ 19) hS9 (fun hg7 _ q=>(zL rfl (gv_of hg7) (gv_of hg7)))<|rG 10 25 rfl rfl rfl (uT_ 16) hS9 (fun hg8 _ q=>(yO rfl (gv_of hg8) rfl (gv_and hg8)))<|rq 11 26 rfl hS9 (fun _ q=>yA) ?_
   refine ra_done (by kernel_rfl) ?_
   refine cw_cond rfl (fun hb=>?_) (fun hb=>?_)
   ·skip
    have hF1:=ct hF hb
    refine cr ?_
    refine sQ 27 (yw 0 K46 K25 (hS9.c 12)) ?_
    refine s0 (yK 7 2 0 hS9 K25) ?_
    rintro _ w_5 ⟨rfl,hS10⟩
    refine s0 (yK 6 1 0 hS10 NZ) ?_
    rintro _ w_6 ⟨rfl,hS11⟩
    refine rn ?_
    obtain rfl:=sI hF1
    exact ret0 Tryz.results25 ⟨rfl,B9,c5,B10,c6,hq3,ho1,((hS11.sel [0,1,2,3,4,5,6,7,11,9,10] rfl rfl).sT [0,3,4])⟩
   ·skip
    have hF2:=cf' hF hb
    refine cw_skip ?_
    obtain rfl:=sI hF2
    exact ret0 Tryz.results25 ⟨rfl,Bs,cs,Bt,cx,hct,ho,((hS9.sel [0,1,2,3,4,5,6,7,8,9,10] rfl rfl).sT [2,3,4])⟩
  exact aN
 exact aN
theorem Ry (p:BrP) (w0:World) (M:List Nat) (hoe:Org w0 M (brE p) (brE p)):∀ (d:Nat) (l:List Int) (Bl:Option Addr) (cl:Nat) (s:Am×Bool) (Bs:Option Addr) (cs:Nat) (Bt:Option Addr) (cx:Nat) (w:World),s.1.Steps.length≤cx→Org w0 M (brE p) [⟨Bt,s.1.Steps.flatMap eN2⟩]→ST w0 M w (brL p l Bl cl s Bs cs Bt cx) (brR p s Bt)→∀ s',CZ p.g p.c p.n p.m d l s=some s' →
  CV Tryz.prog 62 #[pt (some ⟨p.b6,0,none⟩) 0,pt (some ⟨p.b4,0,none⟩) 0,pt (some ⟨p.b5,0,none⟩) 0,pt (some ⟨p.b3,0,none⟩) 0,pt (some ⟨p.b7,0,none⟩) 0] w (fun v w'=>v=.tuple #[]∧∃ (Bl1:Option Addr) (cl1:Nat) (Bs1:Option Addr) (cs1:Nat) (Bt1:Option Addr) (cx1:Nat),s'.1.Steps.length≤cx1∧Org w0 M (brE p) [⟨Bt1,s'.1.Steps.flatMap eN2⟩]∧ST w0 M w' (brL p l Bl1 cl1 s' Bs1 cs1 Bt1 cx1) (brR p s' Bt1)):=fun d=>by
 induction d with
 | zero=>intro l Bl cl s Bs cs Bt cx w hct ho hS s' hF; cases hF
 | succ d ih =>
  intro l Bl cl s Bs cs Bt cx w hct ho hS s' hF
  unfold CZ at hF
  refine cv_of_cw 34 Tryz.func62 rfl Tryz.ntmps62 rfl ?_
  refine cq (cq (cr ?_))
  refine sQ 6 (yz 0 K23 (hS.c 0))<|sQ 7 (Y_len K5 rfl rfl)<|sQ 8 (yz 0 K1 (hS.c 2))<|sQ 9 zE (rn ?_)
  refine cw_cond rfl (fun hb=>?_) (fun hb=>?_)
  ·skip
   have hF1:=ct hF hb
   obtain ⟨st,hc,hF1⟩:=bI hF1
   refine cq ?_
   have hk:∀ {w:World} {s:Am×Bool} {Bs:Option Addr} {cs:Nat} {Bt:Option Addr} {cx:Nat} {R:List Ro},ST w0 M w (brL p l Bl cl s Bs cs Bt cx) R→(∀ r∈brE p,r∈R)→ST w0 M w [⟨some ⟨p.b6,0,none⟩,31,[.slice Bl l.length cl],1⟩,⟨some ⟨p.b5,0,none⟩,61,[brV p],1⟩] (brE p):=fun h hr=>ST.subR (h.sel [0,3] rfl rfl) hr
   refine ra_start (hk hS (fun r hr=>.tail _ hr)).fn (by kernel_rfl) ?_
   have hS1:=hS.drew
   refine rq 0 10 rfl (hk hS1 (fun r hr=>.tail _ hr)) (fun _ q=>(yz 0 QF (ST.c q 1)))<|rq 1 11 rfl (hk hS1 (fun r hr=>.tail _ hr)) (fun _ q=>(yz 0 K23 (ST.c q 0))) ?_
   refine rA [2] ?_
   refine rC 12 2 rfl (yc E5 (DV l Bl cl l.length _ rfl (hS1.inn0 [(false,1)] rfl) hc)) ?_ aN
   rintro _ w_1 ⟨B9,c9,rfl,hd⟩
   have hS2:=hS1.out0 hd
   have hcap:st.length≤c9:=hS2.lencap (i:=11) rfl (fm_lenn (l:=st) encI_len rfl) rfl rfl
   have hos:Org w0 M (brE p) [⟨B9,st.flatMap encI⟩]:=hS2.orgOwn (i:=11) rfl
   have hS3:=ST.frz (L:=brL p l Bl cl s Bs cs Bt cx) hS2 ⟨_,rfl⟩
   refine ⟨hk hS3 (fun r hr=>.tail _ (.tail _ hr)),?_⟩
   refine rA [3] ?_
   refine rC 13 3 rfl (Yc_clos (g:=25) (vs:=[.slice B9 st.length c9,pt (some ⟨p.bg,0,none⟩) 0,pt (some ⟨p.bc,0,none⟩) 0,pt (some ⟨p.bf,0,none⟩) 0,pt (some ⟨p.bb,0,none⟩) 0]) VM rfl rfl (clo_args (mc rfl mn)) (Ud p l Bl cl st B9 c9 hcap s Bs cs Bt cx hct w0 _ M ho hos hS3 hoe hF1)) ?_ aN
   rintro _ w_2 ⟨rfl,Bs1,cs1,Bt1,cx1,h1,h2,hS4⟩
   refine ⟨hk hS4 (fun r hr=>.tail _ hr),?_⟩
   refine ra_done (by kernel_rfl) ?_
   refine ct_ ?_
   exact ret0 Tryz.results62 ⟨rfl,Bl,cl,Bs1,cs1,Bt1,cx1,h1,h2,hS4⟩
  ·skip
   have hF2:=cf' hF hb
   obtain ⟨hN,hF2⟩:=chk_inv hF2
   refine cw_skip (cq (cr ?_))
   refine sQ 14 (yz 0 K1 (hS.c 4))<|sQ 15 yv (rn (cw_block ?_))
   refine cw_loop (fun k f w=>∃ (i:Nat) (s1:Am×Bool) (Bl:Option Addr) (cl:Nat) (Bs:Option Addr) (cs:Nat) (Bt:Option Addr) (cx:Nat),FF f [(0,pt (some ⟨p.b6,0,none⟩) 0),(4,pt (some ⟨p.b7,0,none⟩) 0),(14,vi p.n),(15,vi (i:Int))]∧s1.1.Steps.length≤cx∧Org w0 M (brE p) [⟨Bt,s1.1.Steps.flatMap eN2⟩]∧ST w0 M w (brL p l Bl cl s1 Bs cs Bt cx) (brR p s1 Bt)∧i+k=p.n.toNat∧forN (fun i s1=>(BT l (i:Int)).bind fun r=>bif (!r) then (chk (l.length+1≤1099511627776)<|CZ p.g p.c p.n p.m d (l++[(i:Int)]) s1) else (some s1)) k i s1=some s') p.n.toNat ⟨0,s,Bl,cl,Bs,cs,Bt,cx,(fc rfl (fc rfl (fc rfl (fc rfl fn_)))),hct,ho,hS,Nat.zero_add _,hF2⟩ ?_
   rintro k_ f w ⟨i,s1,Bl,cl,Bs,cs,Bt,cx,hf,hct,ho,hS,hik,hL⟩
   refine cq (cr ?_)
   refine sQ 16 (zL rfl (hf.g 15 3) (hf.g 14 2)) (rn (cq ?_))
   refine cw_cond rfl (fun hlt=>?_) (fun hlt=>?_)
   ·skip
    have hlt1:i<p.n.toNat:=by have h:=of_decide_eq_true hlt; omega
    obtain ⟨K11,rfl⟩:∃ k2,k_=k2+1:=⟨k_-1,by omega⟩
    obtain ⟨y,hb1,hL1⟩:=forN_go hL
    obtain ⟨r,hc,hb1⟩:=bI hb1
    refine cw_skip (cq ?_)
    refine cw_mid (fun f w=>∃ (Bl:Option Addr) (cl:Nat) (Bs:Option Addr) (cs:Nat) (Bt:Option Addr) (cx:Nat),FF f [(0,pt (some ⟨p.b6,0,none⟩) 0),(4,pt (some ⟨p.b7,0,none⟩) 0),(14,vi p.n),(15,vi (i:Int))]∧y.1.Steps.length≤cx∧Org w0 M (brE p) [⟨Bt,y.1.Steps.flatMap eN2⟩]∧ST w0 M w (brL p l Bl cl y Bs cs Bt cx) (brR p y Bt)) ?_ ?_
    ·skip
     refine cw_block (cq (cr ?_))
     refine sQ 17 (yv rfl (hf.g 15 3))<|sQ 5 yu (rn (cq (cr ?_)))
     refine sQ 18 (yz 0 K23 (hS.c 0) rfl (hf.g 0 0))<|sQ 19 yv ?_
     refine sc 20 rfl rfl (yc Hv (HK l (i:Int) Bl cl l.length _ rfl (hS.inn0 [(false,1)] rfl) hc)) ?_
     rintro _ w_1 ⟨rfl,hd⟩
     have hS1:=hS.out00 hd
     refine sQ 21 yn (rn ?_)
     refine cw_cond rfl (fun hb2=>?_) (fun hb2=>?_)
     ·skip
      have hb3:=ct hb1 hb2
      obtain ⟨hap,hb3⟩:=chk_inv hb3
      refine cq (cr ?_)
      refine sQ 22 (yz 0 K23 (hS1.c 0) rfl (hf.g 0 0))<|sQ 23 yv ?_
      refine sS 24 (yF 1 1 [vi (i:Int)] 1 hS1 K5 K0 K52 rfl (mpc rfl mpn)) ?_
      rintro _ w_2 ⟨b5,rfl,hS2⟩
      have hS2:ST w0 M _ (brL p l Bl cl s1 Bs cs Bt cx++[⟨aD b5,3,([(i:Int)].flatMap encI),1*1⟩]) (brR p s1 Bt):=hS2
      refine sS 25 (aP 1 8 1 l [(i:Int)] hS2 K5 K0 K83 K75 encI_len encI_one (hS2.c 11) hap) ?_
      rintro _ w_3 ⟨B8,c8,rfl,hS3⟩
      refine s0 (yK 0 1 0 hS3 Kw rfl (hf.g 0 0)) ?_
      rintro _ w_4 ⟨rfl,hS4⟩
      have hS5:ST w0 M _ (brL p (l++[(i:Int)]) B8 c8 s1 Bs cs Bt cx) (brR p s1 Bt):=hS4.sel [0,1,2,3,4,5,6,7,8,9,10] rfl rfl
      refine rn (cq (cr ?_))
      refine sQ 26 (yz 0 OU (hS5.c 5) rfl (hf.g 4 1)) ?_
      refine sc 27 rfl rfl (Yc_clos (g:=62) (vs:=[pt (some ⟨p.b6,0,none⟩) 0,pt (some ⟨p.b4,0,none⟩) 0,pt (some ⟨p.b5,0,none⟩) 0,pt (some ⟨p.b3,0,none⟩) 0,pt (some ⟨p.b7,0,none⟩) 0]) PH rfl rfl (clo_args mn) (ih (l++[(i:Int)]) B8 c8 s1 Bs cs Bt cx _ hct ho hS5 y hb3)) ?_
      rintro _ w_5 ⟨rfl,Bl2,cl2,Bs2,cs2,Bt2,cx2,h1,h2,hS6⟩
      refine rn (cr ?_)
      have hl1:(l++[(i:Int)]).length=l.length+1:=by simp
      have hcl:(l++[(i:Int)]).length≤cl2:=hS6.lencap (i:=1) rfl (fm_lenn (l:=l++[(i:Int)]) encI_len rfl) rfl rfl
      have hw:i64.wrap (((l++[(i:Int)]).length:Int)-1)=((l.length:Nat):Int):=by rw [IntKind.wrap_i64] <;> omega
      refine sQ 28 (yz 0 K23 (hS6.c 0) rfl (hf.g 0 0))<|sQ 29 (yz 0 K23 (hS6.c 0) rfl (hf.g 0 0))<|sQ 30 (Y_len K5 rfl rfl)<|sQ 31 (show Y _ _ _ _ _ (vi ((l.length:Nat):Int)) from by rw [← hw]; exact Y_sub (k:=.i64) (a:=((l++[(i:Int)]).length:Int)) (b:=1) rfl rfl rfl)<|sQ 32 (Y_slice0 (B:=Bl2) (m:=(l++[(i:Int)]).length) (c:=cl2) (h:=l.length) (s:=1) K5 K0 rfl rfl (bnd_some rfl rfl) (by omega)) ?_
      have hS7:=hS6.cut (T:=3) (i:=1) (cs':=l.flatMap encI) rfl ⟨[(i:Int)].flatMap encI,by rw [← List.flatMap_append]⟩
      refine s0 (yK 0 1 0 hS7 Kw rfl (hf.g 0 0)) ?_
      rintro _ w_6 ⟨rfl,hS8⟩
      refine rn ?_
      exact ⟨Bl2,cl2,Bs2,cs2,Bt2,cx2,(hf.a 0 0 (hf.a 4 1 (hf.a 14 2 (hf.a 15 3 fn_)))),h1,h2,hS8⟩
     ·skip
      have hb4:=cf' hb1 hb2
      obtain rfl:=sI hb4
      refine cw_skip ?_
      exact ⟨Bl,cl,Bs,cs,Bt,cx,(hf.a 0 0 (hf.a 4 1 (hf.a 14 2 (hf.a 15 3 fn_)))),hct,ho,hS1⟩
    rintro f w ⟨Bl2,cl2,Bs2,cs2,Bt2,cx2,hf2,h1,h2,hS9⟩
    refine cr ?_
    refine sQ 33 (zP rfl (hf2.g 15 3))<|sQ 15 yv (rn ?_)
    exact ⟨K11,Nat.lt_succ_self _,i+1,y,Bl2,cl2,Bs2,cs2,Bt2,cx2,(hf2.a 0 0 (hf2.a 4 1 (hf2.a 14 2 (fc (congrArg (Value.int .i64) (wr_succ hlt1 hN)) fn_)))),h1,h2,hS9,(by omega),hL1⟩
   ·skip
    obtain rfl:k_=0:=by have h:=of_decide_eq_false hlt; omega
    refine cw_exit rfl ?_
    obtain rfl:=sI hL
    exact ret0 Tryz.results62 ⟨rfl,Bl,cl,Bs,cs,Bt,cx,hct,ho,hS⟩
theorem Tz (n m:Int) (g:Ae) (c:Ad) (bf bb bg bc:Nat) (B:Option Addr) (cE:Nat) (B1:Option Addr) (cG:Nat) (hq:g.Edges.length≤cE) (hq1:c.Gates.length≤cG) (w0 w:World) (M:List Nat)
  (hS:ST w0 M w [⟨aD bf,4,[.bool false],1⟩,⟨aD bb,34,[.slice none 0 0,.slice none 0 0],2⟩,⟨none,3,[],0⟩,⟨aD bg,25,[vi g.Nodes,.slice B g.Edges.length cE],2⟩,⟨aD bc,28,[vi c.Qubits,.slice B1 c.Gates.length cG],2⟩] [⟨B,g.Edges.flatMap eN1⟩,⟨B1,c.Gates.flatMap eN0⟩])
  {s':Am×Bool} (hF:CZ g c n m fuel [] ((Am.mk [] []),false)=some s') :
  CV Tryz.prog 24 #[vi n,vi m,.func (.func 25) #[] #[pt (aD bg) 0,pt (aD bc) 0,pt (aD bf) 0,pt (aD bb) 0]] w (fun v w'=>v=.tuple #[]∧∃ (Bs:Option Addr) (cs:Nat) (Bt:Option Addr) (cx:Nat),s'.1.Steps.length≤cx∧Org w0 M [⟨B,g.Edges.flatMap eN1⟩,⟨B1,c.Gates.flatMap eN0⟩] [⟨Bt,s'.1.Steps.flatMap eN2⟩] ∧
   ST w0 M w' [⟨aD bf,4,[.bool s'.2],1⟩,⟨aD bb,34,brA s'.1 Bs cs Bt cx,2⟩,⟨Bs,3,s'.1.Start.flatMap encI,cs*1⟩,⟨aD bg,25,[vi g.Nodes,.slice B g.Edges.length cE],2⟩,⟨aD bc,28,[vi c.Qubits,.slice B1 c.Gates.length cG],2⟩] [⟨Bt,s'.1.Steps.flatMap eN2⟩,⟨B,g.Edges.flatMap eN1⟩,⟨B1,c.Gates.flatMap eN0⟩]):=by
 refine cv_of_cw 12 Tryz.func24 rfl Tryz.ntmps24 rfl ?_
 refine cq (cr ?_)
 refine sS 3 (yB 3 (vi n) [vi n] 1 hS) ?_
 rintro _ w_ ⟨b3,rfl,hS1⟩
 refine sS 4 (yB 3 (vi m) [vi m] 1 hS1) ?_
 rintro _ w_1 ⟨b4,rfl,hS2⟩
 refine sS 5 (yB 61 (.func (.func 25) #[] #[pt (aD bg) 0,pt (aD bc) 0,pt (aD bf) 0,pt (aD bb) 0]) [.func (.func 25) #[] #[pt (aD bg) 0,pt (aD bc) 0,pt (aD bf) 0,pt (aD bb) 0]] 1 hS2) ?_
 rintro _ w_2 ⟨b5,rfl,hS3⟩
 refine rn (cq (cr ?_))
 refine sS 8 (Ys_bslice0 (s:=1) (e:=3) hS3 K5 K0 rfl) ?_
 rintro _ w_3 ⟨b8,rfl,hS4⟩
 refine sS 6 (yN [.slice none 0 0] 1 hS4 U7) ?_
 rintro _ w_4 ⟨b6,rfl,hS5⟩
 refine s0 (yK 9 1 0 hS5 Kw) ?_
 rintro _ w_5 ⟨rfl,hS6⟩
 refine rn (cq (cr ?_))
 refine sS 7 (yN [.nilFunc] 1 hS6 Th) ?_
 rintro _ w_6 ⟨b7,rfl,hS7⟩
 refine rn (cq (cr ?_))
 refine sQ 9 (Y_makeFunc (fn:=.func 62) (cs:=[pt (aD b6) 0,pt (aD b4) 0,pt (aD b5) 0,pt (aD b3) 0,pt (aD b7) 0]) rfl rfl rfl) ?_
 refine s0 (yK 10 1 0 hS7 Wa) ?_
 rintro _ w_7 ⟨rfl,hS8⟩
 have hS9:ST w0 M _ (brL (BrP.mk b3 b4 b5 b6 b7 bf bb bg bc n m g c B cE B1 cG hq hq1) [] (aD b8) 0 ((Am.mk [] []),false) none 0 none 0) (brR (BrP.mk b3 b4 b5 b6 b7 bf bb bg bc n m g c B cE B1 cG hq hq1) ((Am.mk [] []),false) none):=ST.nilRo (hS8.sel [9,8,6,7,5,10,0,1,2,3,4] rfl rfl)
 refine rn (cr ?_)
 refine sQ 10 (yz 0 OU (hS9.c 5)) ?_
 refine sc 11 rfl rfl (Yc_clos (g:=62) (vs:=[pt (aD b6) 0,pt (aD b4) 0,pt (aD b5) 0,pt (aD b3) 0,pt (aD b7) 0]) PH rfl rfl (clo_args mn) (Ry (BrP.mk b3 b4 b5 b6 b7 bf bb bg bc n m g c B cE B1 cG hq hq1) w0 M (org_cons (org_mem (i:=0) rfl) (org_cons (org_mem (i:=1) rfl) org_nil)) fuel [] (aD b8) 0 ((Am.mk [] []),false) none 0 none 0 _ (Nat.le_refl _) org_none hS9 s' hF)) ?_
 rintro _ w_8 ⟨rfl,Bl2,cl2,Bs2,cs2,Bt2,cx2,h1,h2,hS10⟩
 refine rn ?_
 exact ret0 Tryz.results24 ⟨rfl,Bs2,cs2,Bt2,cx2,h1,h2,hS10.sel [6,7,8,9,10] rfl rfl⟩
theorem Tn (g:Ae) (c1:Ad) (B:Option Addr) (c n:Nat) (B1:Option Addr) (c2 n1:Nat) (w0:World) (hn:g.Edges.length=n) (hq:n≤c) (hn1:c1.Gates.length=n1) (hq1:n1≤c2) (hS:ST w0 [] w0 [] [⟨B,(g.Edges.flatMap eN1)⟩,⟨B1,(c1.Gates.flatMap eN0)⟩]) {r_:Am} {r_1:Bool} (hF:Eh g c1=some (r_,r_1)) :
  CV Tryz.prog 5 #[.agg #[vi g.Nodes,.slice B n c],.agg #[vi c1.Qubits,.slice B1 n1 c2]] w0 (fun v w'=>∃ (B2:Option Addr) (c3:Nat) (B3:Option Addr) (c4:Nat),v=.tuple #[.agg #[.slice B2 r_.Start.length c3,.slice B3 r_.Steps.length c4],.bool r_1]∧r_.Steps.length≤c4∧Org w0 [] [⟨B,(g.Edges.flatMap eN1)⟩,⟨B1,(c1.Gates.flatMap eN0)⟩] [⟨B3,(r_.Steps.flatMap eN2)⟩]∧ST w0 [] w' [⟨B2,3,(r_.Start.flatMap encI),c3*1⟩] [⟨B3,(r_.Steps.flatMap eN2)⟩]):=by
 subst hn
 subst hn1
 unfold Eh at hF
 refine cv_of_cw 22 Tryz.func5 rfl Tryz.ntmps5 rfl ?_
 refine cq (cr ?_)
 refine sS 2 (yV [vi g.Nodes,.slice B g.Edges.length c] 2 hS) ?_
 rintro _ w_ ⟨b,rfl,hS1⟩
 refine sS 3 (yV [vi c1.Qubits,.slice B1 c1.Gates.length c2] 2 hS1) ?_
 rintro _ w_1 ⟨b1,rfl,hS2⟩
 let V1:List Value:=[.slice none 0 0,.slice none 0 0]
 refine sS 4 (yN V1 2 hS2 K61) ?_
 rintro _ w_2 ⟨b2,rfl,hS3⟩
 refine sQ 5 yu (rn (cq (cq (cr ?_))))
 refine sQ 8 (yw 0 K13 K8 (hS3.c 0))<|sQ 9 (yw 0 K10 K3 (hS3.c 1)) ?_
 obtain ⟨r_2,hc,hF⟩:=bI hF
 refine sc 10 rfl rfl (yc Nj (Pg g c1 B c g.Edges.length B1 c2 c1.Gates.length _ rfl rfl (hS3.inn0 [(true,0),(true,1)] rfl) hc)) ?_
 rintro _ w_3 ⟨rfl,hd⟩
 have hS4:=hS3.out00 hd
 refine sQ 11 yn (rn ?_)
 refine cw_cond rfl (fun hb=>?_) (fun hb=>?_)
 ·skip
  have hF1:=ct hF hb
  refine cq (cr ?_)
  refine sQ 12 (Y_buildS (zs:=V1) (vs:=[]) (cs:=V1) ET K61 rfl mpn rfl) ?_
  refine s0 (yK 2 2 0 hS4 K25) ?_
  rintro _ w_4 ⟨rfl,hS5⟩
  refine sQ 5 yu (rn (ct_ ?_))
  have hS6:=ST.nilRo (hS5.addNil 3)
  obtain ⟨rfl,rfl⟩:=pr2 (sI hF1)
  exact ret2 Tryz.results5 (rX K46 K25 (hS6.c 2)) rT ⟨none,0,none,0,rfl,(len_le rfl (Nat.le_refl 0)),(org_cons org_none org_nil),((hS6.sel [3] rfl rfl).sT [0])⟩
 ·skip
  have hF2:=cf' hF hb
  refine cw_skip (cq (cr ?_))
  refine sQ 13 (Y_buildS (zs:=V1) (vs:=[]) (cs:=V1) ET K61 rfl mpn rfl) ?_
  refine sS 6 (yN V1 2 hS4 K61) ?_
  rintro _ w_4 ⟨b3,rfl,hS5⟩
  refine sS 7 (yN [.bool false] 1 hS5 VE) ?_
  rintro _ w_5 ⟨b4,rfl,hS6⟩
  refine s0 (yK 3 2 0 hS6 K25) ?_
  rintro _ w_6 ⟨rfl,hS7⟩
  refine s0 (yK 4 1 0 hS7 NZ) ?_
  rintro _ w_7 ⟨rfl,hS8⟩
  let R0:Ro:=⟨B1,(c1.Gates.flatMap eN0)⟩
  have hS9:ST w0 [] _ [⟨aD b4,4,[.bool false],1⟩,⟨aD b3,34,V1,2⟩,⟨none,3,[],0⟩,⟨aD b,25,[vi g.Nodes,.slice B g.Edges.length c],2⟩,⟨aD b1,28,[vi c1.Qubits,.slice B1 c1.Gates.length c2],2⟩,⟨aD b2,34,V1,2⟩] [⟨B,(g.Edges.flatMap eN1)⟩,R0]:=(hS8.addNil 3).sel [4,3,5,0,1,2] rfl rfl
  refine rn (cq (cr ?_))
  refine sQ 14 (yd (aD b) 0 0 K45 K0)<|sQ 15 (yz 0 K1 (hS9.c 3))<|sQ 16 (yd (aD b1) 0 0 K42 K0)<|sQ 17 (yz 0 K1 (hS9.c 4))<|sQ 18 (Y_makeFunc (fn:=.func 25) (cs:=[pt (aD b) 0,pt (aD b1) 0,pt (aD b4) 0,pt (aD b3) 0]) rfl rfl rfl) ?_
  have hE:=hS9.inn [true,true,true,true,true,false] rfl [(true,0),(true,1)] (Rs:=[⟨B,(g.Edges.flatMap eN1)⟩,R0]) rfl
  refine sc 19 rfl rfl (yc Sl (Tz g.Nodes c1.Qubits g c1 b4 b3 b b1 B c B1 c2 hq hq1 _ _ _ hE hF2)) ?_
  rintro _ w_8 ⟨rfl,Bs,cs,Bt,cx,h1,h2,hd2⟩
  have hS10:=ST.outR hS9 [true,true,true,true,true,false] rfl hd2 (org_cons h2 (org_cons (org_mem (i:=0) rfl) (org_cons (org_mem (i:=1) rfl) org_nil))) (sk 0 (sk 1 (fun _ h=>by cases h)))
  have ho:Org w0 [] [⟨B,(g.Edges.flatMap eN1)⟩,R0] [⟨Bt,r_.Steps.flatMap eN2⟩]:=org_trans hS9 (Ms:=msk [true,true,true,true,true,false] _) (fun x hx=>(mk_sub _ _).subset hx) h2 (org_cons (org_mem (i:=0) rfl) (org_cons (org_mem (i:=1) rfl) org_nil))
  refine rn (cq ?_)
  refine ra_start (hS10.sel [1,2] rfl rfl).fn (by kernel_rfl) ?_
  have hS11:=hS10.drew
  refine rq 0 20 rfl (hS11.sel [1,2] rfl rfl) (fun _ q=>(yw 0 K46 K25 (ST.c q 1)))<|rq 1 21 rfl (hS11.sel [1,2] rfl rfl) (fun _ q=>(yz 0 K87 (ST.c q 0))) ?_
  refine rA [2] ?_
  refine rZ 2 rfl (yK 0 2 0 hS11 K25) ?_ aN
  rintro _ w_9 ⟨rfl,hS12⟩
  refine ⟨hS12.sel [1,2] rfl rfl,?_⟩
  refine rq 3 5 rfl (hS12.sel [1,2] rfl rfl) (fun _ q=>yu) ?_
  refine ra_done (by kernel_rfl) ?_
  refine ct_ ?_
  exact ret2 Tryz.results5 (rX K46 K25 (hS12.c 0)) rT ⟨Bs,cs,Bt,cx,rfl,h1,ho,((hS12.sel [3] rfl rfl).sT [0])⟩

theorem Li (g:Ac)  (w0:World)  (hS:ST w0 [] w0 [] []) {r_:Bool} (hF:DJ g=some r_) :
  CV Tryz.prog 69 #[.agg #[vi g.Kind,vi g.A,vi g.B]] w0 (fun v w'=>v=.bool r_∧ST w0 [] w' [] []):=by
 unfold DJ at hF
 refine cv_of_cw 16 Tryz.func69 rfl Tryz.ntmps69 rfl ?_
 refine cq (cr ?_)
 refine sS 1 (yV [vi g.Kind,vi g.A,vi g.B] 3 hS) ?_
 rintro _ w_ ⟨b,rfl,hS1⟩
 refine sQ 2 yu (rn (cq (cr ?_)))
 refine sQ 3 (yd (aD b) 0 0 K38 K0)<|sQ 4 (yz 0 K1 (hS1.c 0))<|sQ 5 zE<|sQ 6 yv ?_
 refine sgq 7 rfl rfl (uF_ 6) (fun hg=>(yd (aD b) 0 0 K38 K0)) ?_
 refine sgq 8 rfl rfl (uF_ 6) (fun hg1=>(yz 0 K1 (hS1.c 0) rfl (gv_of hg1))) ?_
 refine sgq 9 rfl rfl (uF_ 6) (fun hg2=>(zE rfl (gv_of hg2))) ?_
 refine sQ 10 yO<|sQ 11 yv ?_
 refine sgq 12 rfl rfl (uF_ 11) (fun hg3=>(yd (aD b) 0 0 K38 K0)) ?_
 refine sgq 13 rfl rfl (uF_ 11) (fun hg4=>(yz 0 K1 (hS1.c 0) rfl (gv_of hg4))) ?_
 refine sgq 14 rfl rfl (uF_ 11) (fun hg5=>(zE rfl (gv_of hg5))) ?_
 refine sQ 15 yO<|sQ 2 yu (rn (ct_ ?_))
 obtain rfl:=sI hF
 exact e1 Tryz.results69 (hS1.sN [])

theorem OT (g:Ae) (B:Option Addr) (c n:Nat) (w0:World) (hn:g.Edges.length=n) (hS:ST w0 [] w0 [] [⟨B,(g.Edges.flatMap eN1)⟩]) {r_:Bool} (hF:Dd g=some r_) :
  CV Tryz.prog 40 #[.agg #[vi g.Nodes,.slice B n c]] w0 (fun v w'=>v=.bool r_∧ST w0 [] w' [] []):=by
 subst hn
 unfold Dd at hF
 refine cv_of_cw 71 Tryz.func40 rfl Tryz.ntmps40 rfl ?_
 refine cq (cr ?_)
 refine sS 1 (yV [vi g.Nodes,.slice B g.Edges.length c] 2 hS) ?_
 rintro _ w_ ⟨b,rfl,hS1⟩
 refine sQ 2 yu (rn (cq (cq (cr ?_))))
 refine sQ 5 (yd (aD b) 0 0 K50 K40)<|sQ 6 (yz 1 K69 (hS1.c 0))<|sQ 7 (Y_len K34 rfl rfl)<|sQ 8 yv (rn ?_)
 obtain ⟨hN,hF⟩:=chk_inv hF
 obtain ⟨z,hz,hF1⟩:=bI hF
 refine cw_block ?_
 refine cw_loop (fun k f w=>∃ (i:Nat),FF f [(1,pt (aD b) 0),(6,.slice B g.Edges.length c),(7,vi (g.Edges.length:Int)),(8,vi (i:Int))]∧ST w0 [] w [⟨aD b,25,[vi g.Nodes,.slice B g.Edges.length c],2⟩] [⟨B,(g.Edges.flatMap eN1)⟩]∧i+k=g.Edges.length∧forX (DU g) k i ()=some z) g.Edges.length ⟨0,(fc rfl (fc rfl (fc rfl (fc rfl fn_)))),(hS1.sel [0] rfl rfl),Nat.zero_add _,hz⟩ ?_
 rintro k_ f w ⟨i,hf,hS2,hik,hL⟩
 refine cq (cr ?_)
 refine sQ 9 (zL rfl (hf.g 8 3) (hf.g 7 2)) (rn (cq ?_))
 refine cw_cond rfl (fun hlt=>?_) (fun hlt=>?_)
 ·skip
  have hlt1:i<g.Edges.length:=by have h:=of_decide_eq_true hlt; omega
  obtain ⟨K2,rfl⟩:∃ k2,k_=k2+1:=⟨k_-1,by omega⟩
  obtain ⟨y,hb,hL1⟩:=forX_go hL
  unfold DU at hb
  refine cw_skip (cq (cw_block (cq (cr ?_))))
  refine sQ 10 (yv rfl (hf.g 8 3)) ?_
  obtain ⟨x,hx,hb⟩:=bI hb
  refine sQ 11 (yI B (i:Int) K34 K20 (gi_isSome A6 rfl (hS2.rf (i:=0) rfl) hx) (getI_nn hx) (getI_ltI hx rfl) rfl (hf.g 6 1) (hf.g 8 3))<|sQ 12 (ya B ((i:Int).toNat*2) (g.Edges.flatMap eN1) [vi x.A,vi x.B] K85 K20 (hS2.rf (i:=0) rfl) rfl rfl (A6 x) (gi_seg A6 hx)) ?_
  refine sS 4 (yN [vi 0,vi 0] 2 hS2 K51) ?_
  rintro _ w_1 ⟨b1,rfl,hS3⟩
  refine sQ 3 yu ?_
  refine s0 (yK 1 2 0 hS3 K20) ?_
  rintro _ w_2 ⟨rfl,hS4⟩
  refine rn (cq (cq (cr ?_)))
  refine sQ 13 (yd (aD b1) 0 0 K59 K0)<|sQ 14 (yz 0 K1 (hS4.c 1))<|sQ 15 (yd (aD b1) 0 0 K70 K0)<|sQ 16 (yz 1 K1 (hS4.c 1))<|sQ 17 zM ?_
  obtain ⟨r_1,hc,hb⟩:=bI hb
  refine sc 18 rfl rfl (yc K68 (BO x.A 0 (i64.wrap (x.B-1)) _  (hS4.inn0 [] rfl) hc)) ?_
  rintro _ w_3 ⟨rfl,hd⟩
  have hS5:=hS4.out00 hd
  refine sQ 19 yn<|sQ 20 yv ?_
  refine sgq 21 rfl rfl (uF_ 20) (fun hg=>(yd (aD b1) 0 0 K70 K0)) ?_
  refine sgq 22 rfl rfl (uF_ 20) (fun hg1=>(yz 1 K1 (hS5.c 1) rfl (gv_of hg1))) ?_
  refine sgq 23 rfl rfl (uF_ 20) (fun hg2=>(yd (aD b) 0 0 K45 K0 rfl (hf.g 1 0))) ?_
  refine sgq 24 rfl rfl (uF_ 20) (fun hg3=>(yz 0 K1 (hS5.c 0) rfl (gv_of hg3))) ?_
  refine sgq 25 rfl rfl (uF_ 20) (fun hg4=>(zM rfl (gv_of hg4))) ?_
  obtain ⟨r_2,hc1,hb⟩:=bI hb
  refine sgc 26 (v:=.bool r_2) (F:=hS5.fn) rfl rfl (uF_ 20) hS5 (fun hg5=>(yc K68 (CV.mono (BO x.B 0 (i64.wrap (g.Nodes-1)) _  (hS5.inn0 [] rfl) (gb_inv hc1 hg5)) (by rintro _ _ ⟨rfl,h⟩; exact ⟨rfl,hS5.out00 h⟩)) rfl (mc (gv_of hg5) (mc rfl (mc (gv_of hg5) mn))))) ?_
  rintro w_4 hS6
  refine sgq 27 rfl rfl (uF_ 20) (fun hg6=>(yn rfl (gv_of hg6))) ?_
  refine sQ 28 yO (rn ?_)
  refine cw_cond rfl (fun hb1=>?_) (fun hb1=>?_)
  ·skip
   have hF2:=ct hb hb1
   refine cq (cr ?_)
   refine sQ 2 yu (rn (ct_ ?_))
   obtain rfl:=sI hF2
   obtain rfl:=sI hL1
   obtain rfl:=sI hF1
   exact e1 Tryz.results40 (hS6.sN [])
  ·skip
   have hF3:=cf' hb hb1
   refine cw_skip (cq ?_)
   obtain ⟨x1,hx1,hF3⟩:=bI hF3
   obtain ⟨x2,hx2,hF3⟩:=bI hF3
   obtain ⟨x3,hx3,hF3⟩:=bI hF3
   refine ra_start (hS6.se [0,1]).fn (by kernel_rfl) ?_
   have hS7:=hS6.drew
   have hQ0:=hS7.se [0,1]
   refine rq 0 29 rfl hQ0 (fun _ q=>yv)<|rq 1 30 rfl hQ0 (fun _ q=>(Y_gt rfl rfl rfl))<|rq 2 31 rfl hQ0 (fun _ q=>yv)<|rG 3 32 rfl rfl rfl (uT_ 31) hQ0 (fun hg7 _ q=>(yd (aD b) 0 0 K50 K40 rfl (hf.g 1 0)))<|rG 4 33 rfl rfl rfl (uT_ 31) hQ0 (fun hg8 _ q=>(yz 1 K69 (ST.c q 0) rfl (gv_of hg8))) ?_
   refine rG 5 34 rfl rfl rfl (uT_ 31) hQ0 (fun hg9 _ q=>yv)<|rG 6 35 rfl rfl rfl (uT_ 31) hQ0 (fun hg10 _ q=>(zM rfl (gv_of hg10)))<|rG 7 36 rfl rfl rfl (uT_ 31) hQ0 (fun hg11 _ q=>(yI B (i64.wrap ((i:Int)-1)) K34 K20 (gi_isSome A6 rfl (ST.rf q (i:=0) rfl) (gb_inv hx1 hg11)) (getI_nn (gb_inv hx1 hg11)) (getI_ltI (gb_inv hx1 hg11) rfl) rfl (gv_of hg11) (gv_of hg11)))<|rG 8 37 rfl rfl rfl (uT_ 31) hQ0 (fun hg12 _ q=>(yd B ((i64.wrap ((i:Int)-1)).toNat*2) 0 K59 K0 rfl (gv_of hg12)))<|rG 9 38 rfl rfl rfl (uT_ 31) hQ0 (fun hg13 _ q=>(yz ((i64.wrap ((i:Int)-1)).toNat*2+0) K1 (ST.rf q (i:=0) rfl) rfl (gv_of hg13) (gi_at A6 (gb_inv hx1 hg13) rfl))) ?_
   refine rG 10 39 rfl rfl rfl (uT_ 31) hQ0 (fun hg14 _ q=>(yd (aD b1) 0 0 K59 K0))<|rG 11 40 rfl rfl rfl (uT_ 31) hQ0 (fun hg15 _ q=>(yz 0 K1 (ST.c q 1) rfl (gv_of hg15)))<|rG 12 41 rfl rfl rfl (uT_ 31) hQ0 (fun hg16 _ q=>(Y_gt rfl (gv_of hg16) (gv_of hg16)))<|rG 13 42 rfl rfl rfl (uT_ 31) hQ0 (fun hg17 _ q=>(yv rfl (gv_of hg17)))<|rG 14 43 rfl rfl rfl (uH_ 42) hQ0 (fun hg18 _ q=>(yd (aD b) 0 0 K50 K40 rfl (hf.g 1 0))) ?_
   refine rG 15 44 rfl rfl rfl (uH_ 42) hQ0 (fun hg19 _ q=>(yz 1 K69 (ST.c q 0) rfl (gv_of hg19)))<|rG 16 45 rfl rfl rfl (uH_ 42) hQ0 (fun hg20 _ q=>yv)<|rG 17 46 rfl rfl rfl (uH_ 42) hQ0 (fun hg21 _ q=>(zM rfl (gv_of hg21)))<|rG 18 47 rfl rfl rfl (uH_ 42) hQ0 (fun hg22 _ q=>(yI B (i64.wrap ((i:Int)-1)) K34 K20 (gi_isSome A6 rfl (ST.rf q (i:=0) rfl) (gb_inv hx2 hg22)) (getI_nn (gb_inv hx2 hg22)) (getI_ltI (gb_inv hx2 hg22) rfl) rfl (gv_of hg22) (gv_of hg22)))<|rG 19 48 rfl rfl rfl (uH_ 42) hQ0 (fun hg23 _ q=>(yd B ((i64.wrap ((i:Int)-1)).toNat*2) 0 K59 K0 rfl (gv_of hg23))) ?_
   refine rG 20 49 rfl rfl rfl (uH_ 42) hQ0 (fun hg24 _ q=>(yz ((i64.wrap ((i:Int)-1)).toNat*2+0) K1 (ST.rf q (i:=0) rfl) rfl (gv_of hg24) (gi_at A6 (gb_inv hx2 hg24) rfl)))<|rG 21 50 rfl rfl rfl (uH_ 42) hQ0 (fun hg25 _ q=>(yd (aD b1) 0 0 K59 K0))<|rG 22 51 rfl rfl rfl (uH_ 42) hQ0 (fun hg26 _ q=>(yz 0 K1 (ST.c q 1) rfl (gv_of hg26)))<|rG 23 52 rfl rfl rfl (uH_ 42) hQ0 (fun hg27 _ q=>(zE rfl (gv_of hg27) (gv_of hg27)))<|rG 24 53 rfl rfl rfl (uH_ 42) hQ0 (fun hg28 _ q=>(yv rfl (gv_of hg28))) ?_
   refine rG 25 54 rfl rfl rfl (uG_ 53) hQ0 (fun hg29 _ q=>(yd (aD b) 0 0 K50 K40 rfl (hf.g 1 0)))<|rG 26 55 rfl rfl rfl (uG_ 53) hQ0 (fun hg30 _ q=>(yz 1 K69 (ST.c q 0) rfl (gv_of hg30)))<|rG 27 56 rfl rfl rfl (uG_ 53) hQ0 (fun hg31 _ q=>yv)<|rG 28 57 rfl rfl rfl (uG_ 53) hQ0 (fun hg32 _ q=>(zM rfl (gv_of hg32)))<|rG 29 58 rfl rfl rfl (uG_ 53) hQ0 (fun hg33 _ q=>(yI B (i64.wrap ((i:Int)-1)) K34 K20 (gi_isSome A6 rfl (ST.rf q (i:=0) rfl) (gb_inv hx3 hg33)) (getI_nn (gb_inv hx3 hg33)) (getI_ltI (gb_inv hx3 hg33) rfl) rfl (gv_of hg33) (gv_of hg33))) ?_
   refine rG 30 59 rfl rfl rfl (uG_ 53) hQ0 (fun hg34 _ q=>(yd B ((i64.wrap ((i:Int)-1)).toNat*2) 0 K70 K0 rfl (gv_of hg34)))<|rG 31 60 rfl rfl rfl (uG_ 53) hQ0 (fun hg35 _ q=>(yz ((i64.wrap ((i:Int)-1)).toNat*2+1) K1 (ST.rf q (i:=0) rfl) rfl (gv_of hg35) (gi_at A6 (gb_inv hx3 hg35) rfl)))<|rG 32 61 rfl rfl rfl (uG_ 53) hQ0 (fun hg36 _ q=>(yd (aD b1) 0 0 K70 K0))<|rG 33 62 rfl rfl rfl (uG_ 53) hQ0 (fun hg37 _ q=>(yz 1 K1 (ST.c q 1) rfl (gv_of hg37)))<|rG 34 63 rfl rfl rfl (uG_ 53) hQ0 (fun hg38 _ q=>(Y_ge rfl (gv_of hg38) (gv_of hg38))) ?_
   refine rG 35 64 rfl rfl rfl (uH_ 42) hQ0 (fun hg39 _ q=>(yA rfl (gv_of hg39) (gv_and hg39)))<|rG 36 65 rfl rfl rfl (uT_ 31) hQ0 (fun hg40 _ q=>(yO rfl (gv_of hg40) rfl (gv_and hg40)))<|rq 37 66 rfl hQ0 (fun _ q=>yA) ?_
   refine ra_done (by kernel_rfl) ?_
   refine cw_cond rfl (fun hb2=>?_) (fun hb2=>?_)
   ·skip
    have hF4:=ct hF3 hb2
    refine cq (cr ?_)
    refine sQ 2 yu (rn (ct_ ?_))
    obtain rfl:=sI hF4
    obtain rfl:=sI hL1
    obtain rfl:=sI hF1
    exact e1 Tryz.results40 (hS7.sN [])
   ·skip
    have hF5:=cf' hF3 hb2
    refine cw_skip (cr ?_)
    refine sQ 67 (zP rfl (hf.g 8 3))<|sQ 8 yv (rn ?_)
    obtain rfl:=sI hF5
    exact ⟨K2,Nat.lt_succ_self _,i+1,(hf.a 1 0 (hf.a 6 1 (hf.a 7 2 (fc (congrArg (Value.int .i64) (wr_succ hlt1 hN)) fn_)))),(hS7.sel [0] rfl rfl),(by omega),hL1⟩
 ·skip
  obtain rfl:k_=0:=by have h:=of_decide_eq_false hlt; omega
  refine cw_exit rfl ?_
  obtain rfl:=sI hL
  refine cq (cr ?_)
  refine sQ 68 (yd (aD b) 0 0 K45 K0 rfl (hf.g 1 0))<|sQ 69 (yz 0 K1 (hS2.c 0)) ?_
  obtain ⟨r_3,hc2,hF1⟩:=bI hF1
  refine sc 70 rfl rfl (yc K68 (BO g.Nodes 1 8 _  (hS2.inn0 [] rfl) hc2)) ?_
  rintro _ w_5 ⟨rfl,hd1⟩
  have hS8:=hS2.out00 hd1
  refine sQ 2 yu (rn (ct_ ?_))
  obtain rfl:=sI hF1
  exact e1 Tryz.results40 (hS8.sN [])

theorem Ra (n:Int) (g:Ac)  (w0:World)  (hS:ST w0 [] w0 [] []) {r_:Bool} (hF:FR n g=some r_) :
  CV Tryz.prog 121 #[vi n,.agg #[vi g.Kind,vi g.A,vi g.B]] w0 (fun v w'=>v=.bool r_∧ST w0 [] w' [] []):=by
 unfold FR at hF
 refine cv_of_cw 55 Tryz.func121 rfl Tryz.ntmps121 rfl ?_
 refine cq (cr ?_)
 refine sS 3 (yV [vi g.Kind,vi g.A,vi g.B] 3 hS) ?_
 rintro _ w_ ⟨b,rfl,hS1⟩
 refine sQ 4 yu (rn (cq (cw_block (cq (cr ?_)))))
 refine sQ 6 (yd (aD b) 0 0 K38 K0)<|sQ 7 (yz 0 K1 (hS1.c 0)) ?_
 obtain ⟨r_1,hc,hF⟩:=bI hF
 refine sc 8 rfl rfl (yc K68 (BO g.Kind 1 8 _  (hS1.inn0 [] rfl) hc)) ?_
 rintro _ w_1 ⟨rfl,hd⟩
 have hS2:=hS1.out00 hd
 refine sQ 5 yu (rn ?_)
 refine cw_cond rfl (fun hb=>?_) (fun hb=>?_)
 ·skip
  have hF1:=ct hF hb
  refine cq (cr ?_)
  refine sQ 9 (yd (aD b) 0 0 K39 K0)<|sQ 10 (yz 1 K1 (hS2.c 0))<|sQ 11 yv<|sQ 12 zM ?_
  obtain ⟨r_2,hc1,hF1⟩:=bI hF1
  refine sc 13 rfl rfl (yc K68 (BO g.A 0 (i64.wrap (n-1)) _  (hS2.inn0 [] rfl) hc1)) ?_
  rintro _ w_2 ⟨rfl,hd1⟩
  have hS3:=hS2.out00 hd1
  refine sQ 14 yv ?_
  refine sgq 15 rfl rfl (uT_ 14) (fun hg=>(yd (aD b) 0 0 K43 K0)) ?_
  refine sgq 16 rfl rfl (uT_ 14) (fun hg1=>(yz 2 K1 (hS3.c 0) rfl (gv_of hg1))) ?_
  refine sgq 17 rfl rfl (uT_ 14) (fun hg2=>(zE rfl (gv_of hg2))) ?_
  refine sQ 18 yA<|sQ 4 yu (rn (ct_ ?_))
  obtain rfl:=sI hF1
  exact e1 Tryz.results121 (hS3.sN [])
 ·skip
  have hF2:=cf' hF hb
  refine cq (cr ?_)
  refine sQ 20 (yd (aD b) 0 0 K38 K0)<|sQ 21 (yz 0 K1 (hS2.c 0)) ?_
  obtain ⟨r_3,hc2,hF2⟩:=bI hF2
  refine sc 22 rfl rfl (yc K68 (BO g.Kind 9 11 _  (hS2.inn0 [] rfl) hc2)) ?_
  rintro _ w_3 ⟨rfl,hd2⟩
  have hS4:=hS2.out00 hd2
  refine sQ 19 yu (rn ?_)
  refine cw_cond rfl (fun hb1=>?_) (fun hb1=>?_)
  ·skip
   have hF3:=ct hF2 hb1
   refine cq (cr ?_)
   refine sQ 23 (yd (aD b) 0 0 K39 K0)<|sQ 24 (yz 1 K1 (hS4.c 0))<|sQ 25 yv<|sQ 26 zM ?_
   obtain ⟨r_4,hc3,hF3⟩:=bI hF3
   refine sc 27 rfl rfl (yc K68 (BO g.A 0 (i64.wrap (n-1)) _  (hS4.inn0 [] rfl) hc3)) ?_
   rintro _ w_4 ⟨rfl,hd3⟩
   have hS5:=hS4.out00 hd3
   refine sQ 28 yv ?_
   refine sgq 29 rfl rfl (uT_ 28) (fun hg3=>(yd (aD b) 0 0 K43 K0)) ?_
   refine sgq 30 rfl rfl (uT_ 28) (fun hg4=>(yz 2 K1 (hS5.c 0) rfl (gv_of hg4))) ?_
   refine sgq 31 rfl rfl (uT_ 28) (fun hg5=>yv) ?_
   refine sgq 32 rfl rfl (uT_ 28) (fun hg6=>(zM rfl (gv_of hg6))) ?_
   obtain ⟨r_5,hc4,hF3⟩:=bI hF3
   refine sgc 33 (v:=.bool r_5) (F:=hS5.fn) rfl rfl (uT_ 28) hS5 (fun hg7=>(yc K68 (CV.mono (BO g.B 0 (i64.wrap (n-1)) _  (hS5.inn0 [] rfl) (gb_inv hc4 hg7)) (by rintro _ _ ⟨rfl,h⟩; exact ⟨rfl,hS5.out00 h⟩)) rfl (mc (gv_of hg7) (mc rfl (mc (gv_of hg7) mn))))) ?_
   rintro w_5 hS6
   refine sQ 34 yA<|sQ 35 yv ?_
   refine sgq 36 rfl rfl (uT_ 35) (fun hg8=>(yd (aD b) 0 0 K39 K0)) ?_
   refine sgq 37 rfl rfl (uT_ 35) (fun hg9=>(yz 1 K1 (hS6.c 0) rfl (gv_of hg9))) ?_
   refine sgq 38 rfl rfl (uT_ 35) (fun hg10=>(yd (aD b) 0 0 K43 K0)) ?_
   refine sgq 39 rfl rfl (uT_ 35) (fun hg11=>(yz 2 K1 (hS6.c 0) rfl (gv_of hg11))) ?_
   refine sgq 40 rfl rfl (uT_ 35) (fun hg12=>(Y_ne rfl (gv_of hg12) (gv_of hg12))) ?_
   refine sQ 41 yA<|sQ 4 yu (rn (ct_ ?_))
   obtain rfl:=sI hF3
   exact e1 Tryz.results121 (hS6.sN [])
  ·skip
   have hF4:=cf' hF2 hb1
   refine cw_skip (cq (cr ?_))
   refine sQ 42 (yd (aD b) 0 0 K38 K0)<|sQ 43 (yz 0 K1 (hS4.c 0))<|sQ 44 zE<|sQ 45 yv ?_
   refine sgq 46 rfl rfl (uT_ 45) (fun hg13=>(yd (aD b) 0 0 K39 K0)) ?_
   refine sgq 47 rfl rfl (uT_ 45) (fun hg14=>(yz 1 K1 (hS4.c 0) rfl (gv_of hg14))) ?_
   refine sgq 48 rfl rfl (uT_ 45) (fun hg15=>(zE rfl (gv_of hg15))) ?_
   refine sQ 49 yA<|sQ 50 yv ?_
   refine sgq 51 rfl rfl (uT_ 50) (fun hg16=>(yd (aD b) 0 0 K43 K0)) ?_
   refine sgq 52 rfl rfl (uT_ 50) (fun hg17=>(yz 2 K1 (hS4.c 0) rfl (gv_of hg17))) ?_
   refine sgq 53 rfl rfl (uT_ 50) (fun hg18=>(zE rfl (gv_of hg18))) ?_
   refine sQ 54 yA<|sQ 4 yu (rn (ct_ ?_))
   obtain rfl:=sI hF4
   exact e1 Tryz.results121 (hS4.sN [])

theorem Uu (c:Ad) (B:Option Addr) (c1 n:Nat) (w0:World) (hn:c.Gates.length=n) (hS:ST w0 [] w0 [] [⟨B,(c.Gates.flatMap eN0)⟩]) {r_:Bool} (hF:ES c=some r_) :
  CV Tryz.prog 100 #[.agg #[vi c.Qubits,.slice B n c1]] w0 (fun v w'=>v=.bool r_∧ST w0 [] w' [] []):=by
 subst hn
 unfold ES at hF
 refine cv_of_cw 28 Tryz.func100 rfl Tryz.ntmps100 rfl ?_
 refine cq (cr ?_)
 refine sS 1 (yV [vi c.Qubits,.slice B c.Gates.length c1] 2 hS) ?_
 rintro _ w_ ⟨b,rfl,hS1⟩
 refine sQ 2 yu (rn (cq (cq (cr ?_))))
 refine sQ 5 (yd (aD b) 0 0 K42 K0)<|sQ 6 (yz 0 K1 (hS1.c 0)) ?_
 obtain ⟨r_1,hc,hF⟩:=bI hF
 refine sc 7 rfl rfl (yc K68 (BO c.Qubits 1 5 _  (hS1.inn0 [] rfl) hc)) ?_
 rintro _ w_1 ⟨rfl,hd⟩
 have hS2:=hS1.out00 hd
 refine sQ 8 yn<|sQ 9 yv ?_
 refine sgq 10 rfl rfl (uF_ 9) (fun hg=>(yd (aD b) 0 0 K19 K15)) ?_
 refine sgq 11 rfl rfl (uF_ 9) (fun hg1=>(yz 1 K21 (hS2.c 0) rfl (gv_of hg1))) ?_
 refine sgq 12 rfl rfl (uF_ 9) (fun hg2=>(Y_len K12 rfl (gv_of hg2))) ?_
 refine sgq 13 rfl rfl (uF_ 9) (fun hg3=>(Y_gt rfl (gv_of hg3) rfl)) ?_
 refine sQ 14 yO (rn ?_)
 refine cw_cond rfl (fun hb=>?_) (fun hb=>?_)
 ·skip
  have hF1:=ct hF hb
  refine cq (cr ?_)
  refine sQ 2 yu (rn (ct_ ?_))
  obtain rfl:=sI hF1
  exact e1 Tryz.results100 (hS2.sN [])
 ·skip
  have hF2:=cf' hF hb
  refine cw_skip (cq (cq (cr ?_)))
  refine sQ 15 (yd (aD b) 0 0 K19 K15)<|sQ 16 (yz 1 K21 (hS2.c 0))<|sQ 17 (Y_len K12 rfl rfl)<|sQ 18 yv (rn ?_)
  obtain ⟨hN,hF2⟩:=chk_inv hF2
  obtain ⟨z,hz,hF3⟩:=bI hF2
  refine cw_block ?_
  refine cw_loop (fun k f w=>∃ (i:Nat),FF f [(1,pt (aD b) 0),(16,.slice B c.Gates.length c1),(17,vi (c.Gates.length:Int)),(18,vi (i:Int))]∧ST w0 [] w [⟨aD b,28,[vi c.Qubits,.slice B c.Gates.length c1],2⟩] [⟨B,(c.Gates.flatMap eN0)⟩]∧i+k=c.Gates.length∧forX (GI c) k i ()=some z) c.Gates.length ⟨0,(fc rfl (fc rfl (fc rfl (fc rfl fn_)))),(hS2.sel [0] rfl rfl),Nat.zero_add _,hz⟩ ?_
  rintro k_ f w ⟨i,hf,hS3,hik,hL⟩
  refine cq (cr ?_)
  refine sQ 19 (zL rfl (hf.g 18 3) (hf.g 17 2)) (rn (cq ?_))
  refine cw_cond rfl (fun hlt=>?_) (fun hlt=>?_)
  ·skip
   have hlt1:i<c.Gates.length:=by have h:=of_decide_eq_true hlt; omega
   obtain ⟨K2,rfl⟩:∃ k2,k_=k2+1:=⟨k_-1,by omega⟩
   obtain ⟨y,hb1,hL1⟩:=forX_go hL
   unfold GI at hb1
   refine cw_skip (cq (cw_block (cq (cr ?_))))
   obtain ⟨x,hx,hb1⟩:=bI hb1
   refine sQ 20 (yI B (i:Int) K12 K7 (gi_isSome eN8 rfl (hS3.rf (i:=0) rfl) hx) (getI_nn hx) (getI_ltI hx rfl) rfl (hf.g 16 1) (hf.g 18 3))<|sQ 21 (ya B ((i:Int).toNat*3) (c.Gates.flatMap eN0) [vi x.Kind,vi x.A,vi x.B] K35 K7 (hS3.rf (i:=0) rfl) rfl rfl (eN8 x) (gi_seg eN8 hx)) ?_
   refine sS 4 (yN [vi 0,vi 0,vi 0] 3 hS3 K28) ?_
   rintro _ w_2 ⟨b1,rfl,hS4⟩
   refine s0 (yK 1 3 0 hS4 K7) ?_
   rintro _ w_3 ⟨rfl,hS5⟩
   refine rn (cq (cr ?_))
   refine sQ 22 (yd (aD b) 0 0 K42 K0 rfl (hf.g 1 0))<|sQ 23 (yz 0 K1 (hS5.c 0))<|sQ 24 (yw 0 K35 K7 (hS5.c 1)) ?_
   obtain ⟨r_2,hc1,hb1⟩:=bI hb1
   refine sc 25 rfl rfl (yc VF (Ra c.Qubits x _  (hS5.inn0 [] rfl) hc1)) ?_
   rintro _ w_4 ⟨rfl,hd1⟩
   have hS6:=hS5.out00 hd1
   refine sQ 26 yn (rn ?_)
   refine cw_cond rfl (fun hb2=>?_) (fun hb2=>?_)
   ·skip
    have hF4:=ct hb1 hb2
    refine cq (cr ?_)
    refine sQ 2 yu (rn (ct_ ?_))
    obtain rfl:=sI hF4
    obtain rfl:=sI hL1
    obtain rfl:=sI hF3
    exact e1 Tryz.results100 (hS6.sN [])
   ·skip
    have hF5:=cf' hb1 hb2
    refine cw_skip (cr ?_)
    refine sQ 27 (zP rfl (hf.g 18 3))<|sQ 18 yv (rn ?_)
    obtain rfl:=sI hF5
    exact ⟨K2,Nat.lt_succ_self _,i+1,(hf.a 1 0 (hf.a 16 1 (hf.a 17 2 (fc (congrArg (Value.int .i64) (wr_succ hlt1 hN)) fn_)))),(hS6.sel [0] rfl rfl),(by omega),hL1⟩
  ·skip
   obtain rfl:k_=0:=by have h:=of_decide_eq_false hlt; omega
   refine cw_exit rfl ?_
   obtain rfl:=sI hL
   refine cq (cr ?_)
   refine sQ 2 yu (rn (ct_ ?_))
   obtain rfl:=sI hF3
   exact e1 Tryz.results100 (hS3.sN [])

theorem VH (g:Ae) (c1:Ad) (B:Option Addr) (c n:Nat) (B1:Option Addr) (c2 n1:Nat) (w0:World) (hn:g.Edges.length=n) (hn1:c1.Gates.length=n1) (hS:ST w0 [] w0 [] [⟨B,(g.Edges.flatMap eN1)⟩,⟨B1,(c1.Gates.flatMap eN0)⟩]) {r_:Bool} (hF:Fe g c1=some r_) :
  CV Tryz.prog 70 #[.agg #[vi g.Nodes,.slice B n c],.agg #[vi c1.Qubits,.slice B1 n1 c2]] w0 (fun v w'=>v=.bool r_∧ST w0 [] w' [] []):=by
 subst hn
 subst hn1
 unfold Fe at hF
 refine cv_of_cw 18 Tryz.func70 rfl Tryz.ntmps70 rfl ?_
 refine cq (cr ?_)
 refine sS 2 (yV [vi g.Nodes,.slice B g.Edges.length c] 2 hS) ?_
 rintro _ w_ ⟨b,rfl,hS1⟩
 refine sS 3 (yV [vi c1.Qubits,.slice B1 c1.Gates.length c2] 2 hS1) ?_
 rintro _ w_1 ⟨b1,rfl,hS2⟩
 refine sQ 4 yu (rn (cq (cr ?_)))
 refine sQ 5 (yw 0 K13 K8 (hS2.c 0)) ?_
 obtain ⟨r_1,hc,hF⟩:=bI hF
 refine sc 6 rfl rfl (yc Lx (OT g B c g.Edges.length _ rfl (hS2.inn0 [(true,0)] rfl) hc)) ?_
 rintro _ w_2 ⟨rfl,hd⟩
 have hS3:=hS2.out00 hd
 refine sQ 7 yv ?_
 refine sgq 8 rfl rfl (uT_ 7) (fun hg=>(yw 0 K10 K3 (hS3.c 1))) ?_
 obtain ⟨r_2,hc1,hF⟩:=bI hF
 refine sgc 9 (v:=.bool r_2) (F:=hS3.fn) rfl rfl (uT_ 7) hS3 (fun hg1=>(yc Q5 (CV.mono (Uu c1 B1 c2 c1.Gates.length _ rfl (hS3.inn0 [(true,1)] rfl) (gb_inv hc1 hg1)) (by rintro _ _ ⟨rfl,h⟩; exact ⟨rfl,hS3.out00 h⟩)) rfl (mc (gv_of hg1) mn))) ?_
 rintro w_3 hS4
 refine sQ 10 yA<|sQ 11 yv ?_
 refine sgq 12 rfl rfl (uT_ 11) (fun hg2=>(yd (aD b1) 0 0 K42 K0)) ?_
 refine sgq 13 rfl rfl (uT_ 11) (fun hg3=>(yz 0 K1 (hS4.c 1) rfl (gv_of hg3))) ?_
 refine sgq 14 rfl rfl (uT_ 11) (fun hg4=>(yd (aD b) 0 0 K45 K0)) ?_
 refine sgq 15 rfl rfl (uT_ 11) (fun hg5=>(yz 0 K1 (hS4.c 0) rfl (gv_of hg5))) ?_
 refine sgq 16 rfl rfl (uT_ 11) (fun hg6=>(Y_le rfl (gv_of hg6) (gv_of hg6))) ?_
 refine sQ 17 yA<|sQ 4 yu (rn (ct_ ?_))
 obtain rfl:=sI hF
 exact e1 Tryz.results70 (hS4.sN [])

theorem QL (g:Ae) (c1:Ad) (B:Option Addr) (c n:Nat) (B1:Option Addr) (c2 n1:Nat) (w0:World) (hn:g.Edges.length=n) (hn1:c1.Gates.length=n1) (hS:ST w0 [] w0 [] [⟨B,(g.Edges.flatMap eN1)⟩,⟨B1,(c1.Gates.flatMap eN0)⟩]) {r_:Bool} (hF:DH g c1=some r_) :
  CV Tryz.prog 28 #[.agg #[vi g.Nodes,.slice B n c],.agg #[vi c1.Qubits,.slice B1 n1 c2]] w0 (fun v w'=>v=.bool r_∧ST w0 [] w' [] []):=by
 subst hn
 subst hn1
 unfold DH at hF
 refine cv_of_cw 38 Tryz.func28 rfl Tryz.ntmps28 rfl ?_
 refine cq (cr ?_)
 let V1:List Value:=[vi g.Nodes,.slice B g.Edges.length c]
 refine sS 2 (yV V1 2 hS) ?_
 rintro _ w_ ⟨b,rfl,hS1⟩
 refine sS 3 (yV [vi c1.Qubits,.slice B1 c1.Gates.length c2] 2 hS1) ?_
 rintro _ w_1 ⟨b1,rfl,hS2⟩
 refine sQ 4 yu (rn (cq (cr ?_)))
 refine sQ 5 yu (rn (cq (cq (cr ?_))))
 refine sQ 8 (yd (aD b1) 0 0 K19 K15)<|sQ 9 (yz 1 K21 (hS2.c 1))<|sQ 10 (Y_len K12 rfl rfl)<|sQ 11 yv (rn ?_)
 obtain ⟨hN,hF⟩:=chk_inv hF
 obtain ⟨z,hz,hF1⟩:=bI hF
 refine cw_block ?_
 let O0:Ob:=⟨aD b1,28,[vi c1.Qubits,.slice B1 c1.Gates.length c2],2⟩
 refine cw_loop (fun k f w=>∃ (i:Nat) (two:Int),FF f [(2,pt (aD b) 0),(3,pt (aD b1) 0),(5,vi two),(9,.slice B1 c1.Gates.length c2),(10,vi (c1.Gates.length:Int)),(11,vi (i:Int))]∧ST w0 [] w [⟨aD b,25,V1,2⟩,O0] [⟨B,(g.Edges.flatMap eN1)⟩,⟨B1,(c1.Gates.flatMap eN0)⟩]∧i+k=c1.Gates.length∧forN (Hj c1) k i two=some z) c1.Gates.length ⟨0,0,(fc rfl (fc rfl (fc rfl (fc rfl (fc rfl (fc rfl fn_)))))),(hS2.sel [0,1] rfl rfl),Nat.zero_add _,hz⟩ ?_
 rintro k_ f w ⟨i,two,hf,hS3,hik,hL⟩
 refine cq (cr ?_)
 refine sQ 12 (zL rfl (hf.g 11 5) (hf.g 10 4)) (rn (cq ?_))
 refine cw_cond rfl (fun hlt=>?_) (fun hlt=>?_)
 ·skip
  have hlt1:i<c1.Gates.length:=by have h:=of_decide_eq_true hlt; omega
  obtain ⟨K2,rfl⟩:∃ k2,k_=k2+1:=⟨k_-1,by omega⟩
  obtain ⟨y,hb,hL1⟩:=forN_go hL
  unfold Hj at hb
  refine cw_skip (cq ?_)
  obtain ⟨z1,hz1,hF2⟩:=bI hb
  refine cw_mid (fun f w=>∃ (two1:Int),two1=z1∧FF f [(2,pt (aD b) 0),(3,pt (aD b1) 0),(5,vi two1),(9,.slice B1 c1.Gates.length c2),(10,vi (c1.Gates.length:Int)),(11,vi (i:Int))]∧ST w0 [] w [⟨aD b,25,V1,2⟩,O0] [⟨B,(g.Edges.flatMap eN1)⟩,⟨B1,(c1.Gates.flatMap eN0)⟩]) ?_ ?_
  ·skip
   refine cw_block (cq (cr ?_))
   obtain ⟨x,hx,hz1⟩:=bI hz1
   refine sQ 13 (yI B1 (i:Int) K12 K7 (gi_isSome eN8 rfl (hS3.rf (i:=1) rfl) hx) (getI_nn hx) (getI_ltI hx rfl) rfl (hf.g 9 3) (hf.g 11 5))<|sQ 14 (ya B1 ((i:Int).toNat*3) (c1.Gates.flatMap eN0) [vi x.Kind,vi x.A,vi x.B] K35 K7 (hS3.rf (i:=1) rfl) rfl rfl (eN8 x) (gi_seg eN8 hx)) ?_
   refine sS 7 (yN [vi 0,vi 0,vi 0] 3 hS3 K28) ?_
   rintro _ w_2 ⟨b2,rfl,hS5⟩
   refine s0 (yK 2 3 0 hS5 K7) ?_
   rintro _ w_3 ⟨rfl,hS6⟩
   refine rn (cq (cr ?_))
   refine sQ 15 (yw 0 K35 K7 (hS6.c 2)) ?_
   obtain ⟨r_1,hc,hz1⟩:=bI hz1
   refine sc 16 rfl rfl (yc Kn (Li x _  (hS6.inn0 [] rfl) hc)) ?_
   rintro _ w_4 ⟨rfl,hd⟩
   have hS7:=hS6.out00 hd
   refine rn ?_
   refine cw_cond rfl (fun hb1=>?_) (fun hb1=>?_)
   ·skip
    have hF3:=ct hz1 hb1
    refine cr ?_
    refine sQ 17 (yv rfl (hf.g 5 2))<|sQ 18 zP<|sQ 5 yu (rn ?_)
    exact ⟨(i64.wrap (two+1)),(sI hF3),(hf.a 2 0 (hf.a 3 1 (fc rfl (hf.a 9 3 (hf.a 10 4 (hf.a 11 5 fn_)))))),(hS7.sel [0,1] rfl rfl)⟩
   ·skip
    have hF4:=cf' hz1 hb1
    refine cw_skip ?_
    exact ⟨two,(sI hF4),(hf.a 2 0 (hf.a 3 1 (hf.a 5 2 (hf.a 9 3 (hf.a 10 4 (hf.a 11 5 fn_)))))),(hS7.sel [0,1] rfl rfl)⟩
  rintro f w ⟨two1,rfl,hf1,hS4⟩
  refine cr ?_
  refine sQ 19 (zP rfl (hf1.g 11 5))<|sQ 11 yv (rn ?_)
  obtain rfl:=sI hF2
  exact ⟨K2,Nat.lt_succ_self _,i+1,two1,(hf1.a 2 0 (hf1.a 3 1 (hf1.a 5 2 (hf1.a 9 3 (hf1.a 10 4 (fc (congrArg (Value.int .i64) (wr_succ hlt1 hN)) fn_)))))),(hS4.sel [0,1] rfl rfl),(by omega),hL1⟩
 ·skip
  obtain rfl:k_=0:=by have h:=of_decide_eq_false hlt; omega
  refine cw_exit rfl ?_
  obtain rfl:=sI hL
  refine cq (cr ?_)
  refine sQ 20 (yw 0 K13 K8 (hS3.c 0) rfl (hf.g 2 0))<|sQ 21 (yw 0 K10 K3 (hS3.c 1) rfl (hf.g 3 1)) ?_
  obtain ⟨r_2,hc1,hF1⟩:=bI hF1
  refine sc 22 rfl rfl (yc UX (VH g c1 B c g.Edges.length B1 c2 c1.Gates.length _ rfl rfl (hS3.inn0 [(true,0),(true,1)] rfl) hc1)) ?_
  rintro _ w_5 ⟨rfl,hd1⟩
  have hS8:=hS3.out00 hd1
  refine sQ 23 yv ?_
  refine sgq 24 rfl rfl (uT_ 23) (fun hg=>(yd (aD b) 0 0 K45 K0 rfl (hf.g 2 0))) ?_
  refine sgq 25 rfl rfl (uT_ 23) (fun hg1=>(yz 0 K1 (hS8.c 0) rfl (gv_of hg1))) ?_
  refine sgq 26 rfl rfl (uT_ 23) (fun hg2=>(Y_le rfl (gv_of hg2) rfl)) ?_
  refine sQ 27 yA<|sQ 28 yv ?_
  refine sgq 29 rfl rfl (uT_ 28) (fun hg3=>(yd (aD b1) 0 0 K19 K15 rfl (hf.g 3 1))) ?_
  refine sgq 30 rfl rfl (uT_ 28) (fun hg4=>(yz 1 K21 (hS8.c 1) rfl (gv_of hg4))) ?_
  refine sgq 31 rfl rfl (uT_ 28) (fun hg5=>(Y_len K12 rfl (gv_of hg5))) ?_
  refine sgq 32 rfl rfl (uT_ 28) (fun hg6=>(Y_le rfl (gv_of hg6) rfl)) ?_
  refine sQ 33 yA<|sQ 34 yv ?_
  refine sgq 35 rfl rfl (uT_ 34) (fun hg7=>(yv rfl (hf.g 5 2))) ?_
  refine sgq 36 rfl rfl (uT_ 34) (fun hg8=>(Y_le rfl (gv_of hg8) rfl)) ?_
  refine sQ 37 yA<|sQ 4 yu (rn (ct_ ?_))
  obtain rfl:=sI hF1
  exact e1 Tryz.results28 (hS8.sN [])

theorem HC (l:List Int) (B:Option Addr) (c n:Nat) (w0:World) (hn:l.length=n) (hS:ST w0 [] w0 [] [⟨B,(l.flatMap encI)⟩]) {r_:List Int} (hF:BJ l=some r_) :
  CV Tryz.prog 36 #[.slice B n c] w0 (fun v w'=>∃ (B1:Option Addr) (c1:Nat),v=.slice B1 r_.length c1∧ST w0 [] w' [⟨B1,3,(r_.flatMap encI),c1*1⟩] []):=by
 subst hn
 unfold BJ at hF
 refine cv_of_cw 6 Tryz.func36 rfl Tryz.ntmps36 rfl ?_
 refine cq (cr ?_)
 refine sQ 2 yu (rn (cq (cr ?_)))
 refine sS 3 (Ys_bslice0 (s:=1) (e:=3) hS K5 K0 rfl) ?_
 rintro _ w_ ⟨b,rfl,hS1⟩
 refine sQ 4 yv ?_
 obtain ⟨hap,hF⟩:=chk_inv hF
 refine sS 5 (Ys_append (s:=1) (by':=8) (i:=0) (nn:=0) (c:=0) (k:=l.length) (len:=l.length) (B:=aD b) (xs:=(l.flatMap encI)) (cs':=(l.flatMap encI)) hS1 K5 K0 K83 K75 rfl (by decide) rfl rfl rfl rfl (fm_lenn (l:=[]) encI_len rfl) rfl (hS1.rf (i:=0) rfl) (fm_lenn (l:=l) encI_len rfl) (fm_one' (enc:=encI) encI_one l) (by have:=hap; omega) (by have:=hap; simp only [maxLen]; omega) rfl (app_len0 (l:=l) rfl)) ?_
 rintro _ w_1 ⟨B2,c2,rfl,hS2⟩
 refine sQ 2 yu (rn (ct_ ?_))
 obtain rfl:=sI hF
 exact ret1 Tryz.results36 rT ⟨B2,c2,rfl,(hS2.sN [0])⟩

theorem OF (place:List Int) (a:Int) (b:Int) (B:Option Addr) (c n:Nat) (w0:World) (hn:place.length=n) (hS:ST w0 [] w0 [] [⟨B,(place.flatMap encI)⟩]) {r_:List Int} (hF:Cg place a b=some r_) :
  CV Tryz.prog 37 #[.slice B n c,vi a,vi b] w0 (fun v w'=>∃ (B1:Option Addr) (c1:Nat),v=.slice B1 r_.length c1∧ST w0 [] w' [⟨B1,3,(r_.flatMap encI),c1*1⟩] []):=by
 subst hn
 unfold Cg at hF
 refine cv_of_cw 36 Tryz.func37 rfl Tryz.ntmps37 rfl ?_
 refine cq (cr ?_)
 refine sQ 6 yu (rn (cq (cr ?_)))
 refine sQ 10 yv ?_
 obtain ⟨r_1,hc,hF⟩:=bI hF
 refine sc 11 rfl rfl (yc GR (HC place B c place.length _ rfl (hS.inn0 [(true,0)] rfl) hc)) ?_
 rintro _ w_ ⟨B2,c2,rfl,hd⟩
 have hS1:=hS.out0 hd
 refine sQ 7 yu (rn (cq (cq (cr ?_))))
 refine sQ 12 yv<|sQ 13 (Y_len K5 rfl rfl)<|sQ 14 yv (rn ?_)
 obtain ⟨hN,hF⟩:=chk_inv hF
 obtain ⟨z,hz,hF1⟩:=bI hF
 refine cw_block ?_
 refine cw_loop (fun k f w=>∃ (i:Nat) (out:List Int),FF f [(1,vi a),(2,vi b),(7,.slice B2 r_1.length c2),(12,.slice B place.length c),(13,vi (place.length:Int)),(14,vi (i:Int))]∧out.length=r_1.length∧ST w0 [] w [⟨B2,3,(out.flatMap encI),c2*1⟩] [⟨B,(place.flatMap encI)⟩]∧i+k=place.length∧forN (GF place a b) k i out=some z) place.length ⟨0,r_1,(fc rfl (fc rfl (fc rfl (fc rfl (fc rfl (fc rfl fn_)))))),rfl,(hS1.sel [0] rfl rfl),Nat.zero_add _,hz⟩ ?_
 rintro k_ f w ⟨i,out,hf,hl,hS2,hik,hL⟩
 refine cq (cr ?_)
 refine sQ 15 (zL rfl (hf.g 14 5) (hf.g 13 4)) (rn (cq ?_))
 refine cw_cond rfl (fun hlt=>?_) (fun hlt=>?_)
 ·skip
  have hlt1:i<place.length:=by have h:=of_decide_eq_true hlt; omega
  obtain ⟨K2,rfl⟩:∃ k2,k_=k2+1:=⟨k_-1,by omega⟩
  obtain ⟨y,hb,hL1⟩:=forN_go hL
  unfold GF at hb
  refine cw_skip (cq ?_)
  obtain ⟨z1,hz1,hF2⟩:=bI hb
  refine cw_mid (fun f w=>∃ (out1:List Int),out1=z1∧FF f [(1,vi a),(2,vi b),(7,.slice B2 r_1.length c2),(12,.slice B place.length c),(13,vi (place.length:Int)),(14,vi (i:Int))]∧out1.length=r_1.length∧ST w0 [] w [⟨B2,3,(out1.flatMap encI),c2*1⟩] [⟨B,(place.flatMap encI)⟩]) ?_ ?_
  ·skip
   refine cw_block (cq (cr ?_))
   refine sQ 16 (yv rfl (hf.g 14 5)) ?_
   obtain ⟨x,hx,hz1⟩:=bI hz1
   refine sQ 17 (yI B (i:Int) K5 K0 (gi_isSome encI_len rfl (hS2.rf (i:=0) rfl) hx) (getI_nn hx) (getI_ltI hx rfl) rfl (hf.g 12 3) (hf.g 14 5))<|sQ 18 (yz ((i:Int).toNat*1) K1 (hS2.rf (i:=0) rfl) rfl rfl (gi_at0 encI_len hx rfl))<|sQ 8 yu<|sQ 9 yu (rn (cq (cr ?_)))
   refine sQ 19 yv (rn (cw_block (cq (cr ?_))))
   refine sQ 21 (yv rfl (hf.g 1 0))<|sQ 22 zE<|sQ 20 yu (rn ?_)
   refine cw_cond rfl (fun hb1=>?_) (fun hb1=>?_)
   ·skip
    have hF3:=ct hz1 hb1
    refine cr ?_
    refine sQ 23 (yv rfl (hf.g 7 2))<|sQ 24 yv<|sQ 25 (yv rfl (hf.g 2 1)) ?_
    obtain ⟨x1,hx1,hF3⟩:=bI hF3
    refine sQ 26 (yI B2 (i:Int) K5 K0 (gi_isSome encI_len rfl (hS2.c 0) hx1) (getI_nn hx1) (getI_ltI hx1 hl)) ?_
    refine s0 (yS 0 1 B2 3 (vi b) [vi b] ((i:Int).toNat*1) ((out.set (i:Int).toNat b).flatMap encI) hS2 K0 rfl rfl rfl rfl rfl rfl rfl (gi_fit0 encI_len hx1) (gi_set encI_len hx1 b rfl)) ?_
    rintro _ w_1 ⟨rfl,hS4⟩
    refine rn ?_
    exact ⟨(out.set (i:Int).toNat b),(sI hF3),(hf.a 1 0 (hf.a 2 1 (hf.a 7 2 (hf.a 12 3 (hf.a 13 4 (hf.a 14 5 fn_)))))),(set_len _ _ _ hl),(hS4.sel [0] rfl rfl)⟩
   ·skip
    have hF4:=cf' hz1 hb1
    refine cq (cr ?_)
    refine sQ 28 (yv rfl (hf.g 2 1))<|sQ 29 zE<|sQ 27 yu (rn ?_)
    refine cw_cond rfl (fun hb2=>?_) (fun hb2=>?_)
    ·skip
     have hF5:=ct hF4 hb2
     refine cr ?_
     refine sQ 30 (yv rfl (hf.g 7 2))<|sQ 31 yv<|sQ 32 (yv rfl (hf.g 1 0)) ?_
     obtain ⟨x2,hx2,hF5⟩:=bI hF5
     refine sQ 33 (yI B2 (i:Int) K5 K0 (gi_isSome encI_len rfl (hS2.c 0) hx2) (getI_nn hx2) (getI_ltI hx2 hl)) ?_
     refine s0 (yS 0 1 B2 3 (vi a) [vi a] ((i:Int).toNat*1) ((out.set (i:Int).toNat a).flatMap encI) hS2 K0 rfl rfl rfl rfl rfl rfl rfl (gi_fit0 encI_len hx2) (gi_set encI_len hx2 a rfl)) ?_
     rintro _ w_2 ⟨rfl,hS5⟩
     refine rn ?_
     exact ⟨(out.set (i:Int).toNat a),(sI hF5),(hf.a 1 0 (hf.a 2 1 (hf.a 7 2 (hf.a 12 3 (hf.a 13 4 (hf.a 14 5 fn_)))))),(set_len _ _ _ hl),(hS5.sel [0] rfl rfl)⟩
    ·skip
     have hF6:=cf' hF4 hb2
     refine cw_skip ?_
     exact ⟨out,(sI hF6),(hf.a 1 0 (hf.a 2 1 (hf.a 7 2 (hf.a 12 3 (hf.a 13 4 (hf.a 14 5 fn_)))))),hl,(hS2.sel [0] rfl rfl)⟩
  rintro f w ⟨out1,rfl,hf1,hl1,hS3⟩
  refine cr ?_
  refine sQ 34 (zP rfl (hf1.g 14 5))<|sQ 14 yv (rn ?_)
  obtain rfl:=sI hF2
  exact ⟨K2,Nat.lt_succ_self _,i+1,out1,(hf1.a 1 0 (hf1.a 2 1 (hf1.a 7 2 (hf1.a 12 3 (hf1.a 13 4 (fc (congrArg (Value.int .i64) (wr_succ hlt1 hN)) fn_)))))),hl1,(hS3.sel [0] rfl rfl),(by omega),hL1⟩
 ·skip
  obtain rfl:k_=0:=by have h:=of_decide_eq_false hlt; omega
  refine cw_exit rfl ?_
  obtain rfl:=sI hL
  refine cq (cr ?_)
  refine sQ 35 (yv rfl (hf.g 7 2))<|sQ 6 yu (rn (ct_ ?_))
  obtain rfl:=sI hF1
  exact ret1 Tryz.results37 rT ⟨B2,c2,(sl_eqv hl),(hS2.sN [0])⟩

theorem Pz (x:Ac)  (w0:World)  (hS:ST w0 [] w0 [] []) {r_:List Int} (hF:Eu x=some r_) :
  CV Tryz.prog 122 #[.agg #[vi x.Kind,vi x.A,vi x.B]] w0 (fun v w'=>∃ (B:Option Addr) (c:Nat),v=.slice B r_.length c∧ST w0 [] w' [⟨B,3,(r_.flatMap encI),c*1⟩] []):=by
 unfold Eu at hF
 refine cv_of_cw 18 Tryz.func122 rfl Tryz.ntmps122 rfl ?_
 refine cq (cr ?_)
 refine sS 1 (yV [vi x.Kind,vi x.A,vi x.B] 3 hS) ?_
 rintro _ w_ ⟨b,rfl,hS1⟩
 refine sQ 2 yu (rn (cq (cw_block (cq (cr ?_)))))
 refine sQ 4 (yd (aD b) 0 0 K38 K0)<|sQ 5 (yz 0 K1 (hS1.c 0))<|sQ 6 zE<|sQ 3 yu (rn ?_)
 refine cw_cond rfl (fun hb=>?_) (fun hb=>?_)
 ·skip
  have hF1:=ct hF hb
  refine cq (cr ?_)
  refine sQ 2 yu (rn (ct_ ?_))
  have hS2:=hS1.addNil 3
  obtain rfl:=sI hF1
  exact ret1 Tryz.results122 rT ⟨none,0,rfl,(hS2.sN [1])⟩
 ·skip
  have hF2:=cf' hF hb
  refine cq (cr ?_)
  refine sQ 8 (yw 0 K35 K7 (hS1.c 0)) ?_
  obtain ⟨r_1,hc,hF2⟩:=bI hF2
  refine sc 9 rfl rfl (yc Kn (Li x _  (hS1.inn0 [] rfl) hc)) ?_
  rintro _ w_1 ⟨rfl,hd⟩
  have hS3:=hS1.out00 hd
  refine sQ 7 yu (rn ?_)
  refine cw_cond rfl (fun hb1=>?_) (fun hb1=>?_)
  ·skip
   have hF3:=ct hF2 hb1
   refine cq (cr ?_)
   refine sQ 10 (yd (aD b) 0 0 K39 K0)<|sQ 11 (yz 1 K1 (hS3.c 0))<|sQ 12 (yd (aD b) 0 0 K43 K0)<|sQ 13 (yz 2 K1 (hS3.c 0)) ?_
   refine sS 14 (yF 1 2 [vi x.A,vi x.B] 2 hS3 K5 K0 K52 rfl (mpc rfl (mpc rfl mpn))) ?_
   rintro _ w_2 ⟨b1,rfl,hS4⟩
   refine sQ 2 yu (rn (ct_ ?_))
   obtain rfl:=sI hF3
   exact ret1 Tryz.results122 rT ⟨aD b1,2,rfl,(hS4.sN [1])⟩
  ·skip
   have hF4:=cf' hF2 hb1
   refine cw_skip (cq (cr ?_))
   refine sQ 15 (yd (aD b) 0 0 K39 K0)<|sQ 16 (yz 1 K1 (hS3.c 0)) ?_
   refine sS 17 (yF 1 1 [vi x.A] 1 hS3 K5 K0 K52 rfl (mpc rfl mpn)) ?_
   rintro _ w_3 ⟨b2,rfl,hS5⟩
   refine sQ 2 yu (rn (ct_ ?_))
   obtain rfl:=sI hF4
   exact ret1 Tryz.results122 rT ⟨aD b2,1,rfl,(hS5.sN [1])⟩

theorem Uo (c:Ad) (done:List Bool) (k_:Int) (B:Option Addr) (c1 n:Nat) (B1:Option Addr) (c2 n1:Nat) (w0:World) (hn:c.Gates.length=n) (hn1:done.length=n1) (hS:ST w0 [] w0 [] [⟨B,(c.Gates.flatMap eN0)⟩,⟨B1,(done.flatMap encB)⟩]) {r_:Bool} (hF:F6 c done k_=some r_) :
  CV Tryz.prog 101 #[.agg #[vi c.Qubits,.slice B n c1],.slice B1 n1 c2,vi k_] w0 (fun v w'=>v=.bool r_∧ST w0 [] w' [] []):=by
 subst hn
 subst hn1
 unfold F6 at hF
 refine cv_of_cw 57 Tryz.func101 rfl Tryz.ntmps101 rfl ?_
 refine cq (cr ?_)
 let V0:List Value:=[vi c.Qubits,.slice B c.Gates.length c1]
 refine sS 3 (yV V0 2 hS) ?_
 rintro _ w_ ⟨b,rfl,hS1⟩
 refine sQ 6 yu (rn (cq (cq (cr ?_))))
 refine sQ 11 yv<|sQ 12 (yd (aD b) 0 0 K19 K15)<|sQ 13 (yz 1 K21 (hS1.c 0))<|sQ 14 (Y_len K12 rfl rfl)<|sQ 15 zM ?_
 obtain ⟨r_1,hc,hF⟩:=bI hF
 refine sc 16 rfl rfl (yc K68 (BO k_ 0 (i64.wrap ((c.Gates.length:Int)-1)) _  (hS1.inn0 [] rfl) hc)) ?_
 rintro _ w_1 ⟨rfl,hd⟩
 have hS2:=hS1.out00 hd
 refine sQ 17 yn<|sQ 18 yv ?_
 refine sgq 19 rfl rfl (uF_ 18) (fun hg=>yv) ?_
 refine sgq 20 rfl rfl (uF_ 18) (fun hg1=>yv) ?_
 obtain ⟨x,hx,hF⟩:=bI hF
 refine sgq 21 rfl rfl (uF_ 18) (fun hg2=>(yI B1 k_ K47 K49 (gi_isSome encB_len rfl (hS2.rf (i:=1) rfl) (gb_inv hx hg2)) (getI_nn (gb_inv hx hg2)) (getI_ltI (gb_inv hx hg2) rfl) rfl (gv_of hg2) (gv_of hg2))) ?_
 refine sgq 22 rfl rfl (uF_ 18) (fun hg3=>(yz (k_.toNat*1) K87 (hS2.rf (i:=1) rfl) rfl (gv_of hg3) (gi_at0 encB_len (gb_inv hx hg3) rfl))) ?_
 refine sQ 23 yO (rn ?_)
 refine cw_cond rfl (fun hb=>?_) (fun hb=>?_)
 ·skip
  have hF1:=ct hF hb
  refine cq (cr ?_)
  refine sQ 6 yu (rn (ct_ ?_))
  obtain rfl:=sI hF1
  exact e1 Tryz.results101 (hS2.sN [])
 ·skip
  have hF2:=cf' hF hb
  refine cw_skip (cq (cr ?_))
  refine sQ 24 (yd (aD b) 0 0 K19 K15)<|sQ 25 (yz 1 K21 (hS2.c 0))<|sQ 26 yv ?_
  obtain ⟨x1,hx1,hF2⟩:=bI hF2
  refine sQ 27 (yI B k_ K12 K7 (gi_isSome eN8 rfl (hS2.rf (i:=0) rfl) hx1) (getI_nn hx1) (getI_ltI hx1 rfl))<|sQ 28 (ya B (k_.toNat*3) (c.Gates.flatMap eN0) [vi x1.Kind,vi x1.A,vi x1.B] K35 K7 (hS2.rf (i:=0) rfl) rfl rfl (eN8 x1) (gi_seg eN8 hx1)) ?_
  obtain ⟨r_2,hc1,hF2⟩:=bI hF2
  refine sc 29 rfl rfl (yc Ol (Pz x1 _  (hS2.inn0 [] rfl) hc1)) ?_
  rintro _ w_2 ⟨B2,c3,rfl,hd1⟩
  have hS3:=hS2.out0 hd1
  refine sQ 7 yu (rn (cq (cq (cr ?_))))
  refine sQ 8 yu (rn ?_)
  obtain ⟨hN,hF2⟩:=chk_inv hF2
  obtain ⟨z,hz,hF3⟩:=bI hF2
  refine cw_block ?_
  refine cw_loop (fun k f w=>∃ (i1:Nat),FF f [(1,.slice B1 done.length c2),(2,vi k_),(3,pt (aD b) 0),(7,.slice B2 r_2.length c3),(8,vi (i1:Int))]∧ST w0 [] w [⟨aD b,28,V0,2⟩,⟨B2,3,(r_2.flatMap encI),c3*1⟩] [⟨B,(c.Gates.flatMap eN0)⟩,⟨B1,(done.flatMap encB)⟩]∧i1+k=k_.toNat∧forX (I1 c done r_2) k i1 ()=some z) k_.toNat ⟨0,(fc rfl (fc rfl (fc rfl (fc rfl (fc rfl fn_))))),(hS3.sel [0,1] rfl rfl),Nat.zero_add _,hz⟩ ?_
  rintro K2 f w ⟨i1,hf,hS4,hik,hL⟩
  refine cq (cq (cr ?_))
  refine sQ 30 (yv rfl (hf.g 8 4))<|sQ 31 (yv rfl (hf.g 2 1))<|sQ 32 zL (rn ?_)
  refine cw_cond rfl (fun hlt=>?_) (fun hlt=>?_)
  ·skip
   have hlt1:i1<k_.toNat:=by have h:=of_decide_eq_true hlt; omega
   obtain ⟨K11,rfl⟩:∃ k2,K2=k2+1:=⟨K2-1,by omega⟩
   obtain ⟨y,hb1,hL1⟩:=forX_go hL
   unfold I1 at hb1
   refine cw_skip (cq (cw_block (cq (cr ?_))))
   refine sQ 35 (yd (aD b) 0 0 K19 K15 rfl (hf.g 3 2))<|sQ 36 (yz 1 K21 (hS4.c 0))<|sQ 37 (yv rfl (hf.g 8 4)) ?_
   obtain ⟨x2,hx2,hb1⟩:=bI hb1
   refine sQ 38 (yI B (i1:Int) K12 K7 (gi_isSome eN8 rfl (hS4.rf (i:=0) rfl) hx2) (getI_nn hx2) (getI_ltI hx2 rfl))<|sQ 39 (ya B ((i1:Int).toNat*3) (c.Gates.flatMap eN0) [vi x2.Kind,vi x2.A,vi x2.B] K35 K7 (hS4.rf (i:=0) rfl) rfl rfl (eN8 x2) (gi_seg eN8 hx2)) ?_
   obtain ⟨r_3,hc2,hb1⟩:=bI hb1
   refine sc 40 rfl rfl (yc Ol (Pz x2 _  (hS4.inn0 [] rfl) hc2)) ?_
   rintro _ w_3 ⟨B3,c4,rfl,hd2⟩
   have hS5:=hS4.out0 hd2
   refine sQ 41 (Y_len K5 rfl rfl)<|sQ 42 yv (rn ?_)
   obtain ⟨hN1,hb1⟩:=chk_inv hb1
   obtain ⟨z1,hz1,hF4⟩:=bI hb1
   refine cw_block ?_
   refine cw_loop (fun k f w=>∃ (i2:Nat),FF f [(1,.slice B1 done.length c2),(2,vi k_),(3,pt (aD b) 0),(7,.slice B2 r_2.length c3),(8,vi (i1:Int)),(40,.slice B3 r_3.length c4),(41,vi (r_3.length:Int)),(42,vi (i2:Int))]∧ST w0 [] w [⟨aD b,28,V0,2⟩,⟨B2,3,(r_2.flatMap encI),c3*1⟩,⟨B3,3,(r_3.flatMap encI),c4*1⟩] [⟨B,(c.Gates.flatMap eN0)⟩,⟨B1,(done.flatMap encB)⟩]∧i2+k=r_3.length∧forX (G0 r_3 done i1 r_2) k i2 ()=some z1) r_3.length ⟨0,(hf.a 1 0 (hf.a 2 1 (hf.a 3 2 (hf.a 7 3 (hf.a 8 4 (fc rfl (fc rfl (fc rfl fn_)))))))),(hS5.sel [0,1,2] rfl rfl),Nat.zero_add _,hz1⟩ ?_
   rintro K22 f w ⟨i2,hf1,hS6,hik1,hL2⟩
   refine cq (cr ?_)
   refine sQ 43 (zL rfl (hf1.g 42 7) (hf1.g 41 6)) (rn (cq ?_))
   refine cw_cond rfl (fun hlt2=>?_) (fun hlt2=>?_)
   ·skip
    have hlt3:i2<r_3.length:=by have h:=of_decide_eq_true hlt2; omega
    obtain ⟨K4,rfl⟩:∃ k2,K22=k2+1:=⟨K22-1,by omega⟩
    obtain ⟨y1,hb2,hL3⟩:=forX_go hL2
    unfold G0 at hb2
    refine cw_skip (cq (cw_block (cq (cr ?_))))
    obtain ⟨x3,hx3,hb2⟩:=bI hb2
    refine sQ 44 (yI B3 (i2:Int) K5 K0 (gi_isSome encI_len rfl (hS6.c 2) hx3) (getI_nn hx3) (getI_ltI hx3 rfl) rfl (hf1.g 40 5) (hf1.g 42 7))<|sQ 45 (yz ((i2:Int).toNat*1) K1 (hS6.c 2) rfl rfl (gi_at0 encI_len hx3 rfl))<|sQ 10 yu (rn (cq (cr ?_)))
    refine sQ 46 (yv rfl (hf1.g 1 0))<|sQ 47 (yv rfl (hf1.g 8 4)) ?_
    obtain ⟨x4,hx4,hb2⟩:=bI hb2
    refine sQ 48 (yI B1 (i1:Int) K47 K49 (gi_isSome encB_len rfl (hS6.rf (i:=1) rfl) hx4) (getI_nn hx4) (getI_ltI hx4 rfl))<|sQ 49 (yz ((i1:Int).toNat*1) K87 (hS6.rf (i:=1) rfl) rfl rfl (gi_at0 encB_len hx4 rfl))<|sQ 50 yn<|sQ 51 yv ?_
    refine sgq 52 rfl rfl (uT_ 51) (fun hg4=>(yv rfl (hf1.g 7 3))) ?_
    refine sgq 53 rfl rfl (uT_ 51) (fun hg5=>yv) ?_
    obtain ⟨r_4,hc3,hb2⟩:=bI hb2
    refine sgc 54 (v:=.bool r_4) (F:=hS6.fn) rfl rfl (uT_ 51) hS6 (fun hg6=>(yc GG (CV.mono (Hh r_2 x3 B2 c3 r_2.length _ rfl (hS6.inn0 [(false,1)] rfl) (gb_inv hc3 hg6)) (by rintro _ _ ⟨rfl,h⟩; exact ⟨rfl,hS6.out00 h⟩)) rfl (mc (gv_of hg6) (mc (gv_of hg6) mn)))) ?_
    rintro w_4 hS7
    refine sQ 55 yA (rn ?_)
    refine cw_cond rfl (fun hb3=>?_) (fun hb3=>?_)
    ·skip
     have hF5:=ct hb2 hb3
     refine cq (cr ?_)
     refine sQ 6 yu (rn (ct_ ?_))
     obtain rfl:=sI hF5
     obtain rfl:=sI hL3
     obtain rfl:=sI hF4
     obtain rfl:=sI hL1
     obtain rfl:=sI hF3
     exact e1 Tryz.results101 (hS7.sN [])
    ·skip
     have hF6:=cf' hb2 hb3
     refine cw_skip (cr ?_)
     refine sQ 56 (zP rfl (hf1.g 42 7))<|sQ 42 yv (rn ?_)
     obtain rfl:=sI hF6
     exact ⟨K4,Nat.lt_succ_self _,i2+1,(hf1.a 1 0 (hf1.a 2 1 (hf1.a 3 2 (hf1.a 7 3 (hf1.a 8 4 (hf1.a 40 5 (hf1.a 41 6 (fc (congrArg (Value.int .i64) (wr_succ hlt3 hN1)) fn_)))))))),(hS7.sel [0,1,2] rfl rfl),(by omega),hL3⟩
   ·skip
    obtain rfl:K22=0:=by have h:=of_decide_eq_false hlt2; omega
    refine cw_exit rfl ?_
    obtain rfl:=sI hL2
    refine cr ?_
    refine sQ 33 (yv rfl (hf1.g 8 4))<|sQ 34 zP<|sQ 8 yu (rn ?_)
    obtain rfl:=sI hF4
    exact ⟨K11,Nat.lt_succ_self _,i1+1,(hf1.a 1 0 (hf1.a 2 1 (hf1.a 3 2 (hf1.a 7 3 (fc (congrArg (Value.int .i64) (wr_succ hlt1 hN)) fn_))))),(hS6.sel [0,1] rfl rfl),(by omega),hL1⟩
  ·skip
   obtain rfl:K2=0:=by have h:=of_decide_eq_false hlt; omega
   refine cw_exit rfl ?_
   obtain rfl:=sI hL
   refine cq (cr ?_)
   refine sQ 6 yu (rn (ct_ ?_))
   obtain rfl:=sI hF3
   exact e1 Tryz.results101 (hS4.sN [])

theorem SU (g:Ae) (a:Int) (b:Int) (B:Option Addr) (c n:Nat) (w0:World) (hn:g.Edges.length=n) (hS:ST w0 [] w0 [] [⟨B,(g.Edges.flatMap eN1)⟩]) {r_:Bool} (hF:Gl g a b=some r_) :
  CV Tryz.prog 123 #[.agg #[vi g.Nodes,.slice B n c],vi a,vi b] w0 (fun v w'=>v=.bool r_∧ST w0 [] w' [] []):=by
 subst hn
 unfold Gl at hF
 refine cv_of_cw 39 Tryz.func123 rfl Tryz.ntmps123 rfl ?_
 refine cq (cr ?_)
 refine sS 3 (yV [vi g.Nodes,.slice B g.Edges.length c] 2 hS) ?_
 rintro _ w_ ⟨b1,rfl,hS1⟩
 refine sQ 6 yu (rn (cq (cq (cr ?_))))
 refine sQ 9 (yd (aD b1) 0 0 K50 K40)<|sQ 10 (yz 1 K69 (hS1.c 0))<|sQ 11 (Y_len K34 rfl rfl)<|sQ 12 yv (rn ?_)
 obtain ⟨hN,hF⟩:=chk_inv hF
 obtain ⟨z,hz,hF1⟩:=bI hF
 refine cw_block ?_
 refine cw_loop (fun k f w=>∃ (i:Nat),FF f [(1,vi a),(2,vi b),(10,.slice B g.Edges.length c),(11,vi (g.Edges.length:Int)),(12,vi (i:Int))]∧ST w0 [] w [] [⟨B,(g.Edges.flatMap eN1)⟩]∧i+k=g.Edges.length∧forX (Hf g a b) k i ()=some z) g.Edges.length ⟨0,(fc rfl (fc rfl (fc rfl (fc rfl (fc rfl fn_))))),(hS1.sel [] rfl rfl),Nat.zero_add _,hz⟩ ?_
 rintro k_ f w ⟨i,hf,hS2,hik,hL⟩
 refine cq (cr ?_)
 refine sQ 13 (zL rfl (hf.g 12 4) (hf.g 11 3)) (rn (cq ?_))
 refine cw_cond rfl (fun hlt=>?_) (fun hlt=>?_)
 ·skip
  have hlt1:i<g.Edges.length:=by have h:=of_decide_eq_true hlt; omega
  obtain ⟨K2,rfl⟩:∃ k2,k_=k2+1:=⟨k_-1,by omega⟩
  obtain ⟨y,hb,hL1⟩:=forX_go hL
  unfold Hf at hb
  refine cw_skip (cq (cw_block (cq (cr ?_))))
  obtain ⟨x,hx,hb⟩:=bI hb
  refine sQ 14 (yI B (i:Int) K34 K20 (gi_isSome A6 rfl (hS2.rf (i:=0) rfl) hx) (getI_nn hx) (getI_ltI hx rfl) rfl (hf.g 10 2) (hf.g 12 4))<|sQ 15 (ya B ((i:Int).toNat*2) (g.Edges.flatMap eN1) [vi x.A,vi x.B] K85 K20 (hS2.rf (i:=0) rfl) rfl rfl (A6 x) (gi_seg A6 hx)) ?_
  refine sS 8 (yN [vi 0,vi 0] 2 hS2 K51) ?_
  rintro _ w_1 ⟨b2,rfl,hS3⟩
  refine s0 (yK 0 2 0 hS3 K20) ?_
  rintro _ w_2 ⟨rfl,hS4⟩
  refine rn (cq (cr ?_))
  refine sQ 16 (yd (aD b2) 0 0 K59 K0)<|sQ 17 (yz 0 K1 (hS4.c 0))<|sQ 18 (yv rfl (hf.g 1 0))<|sQ 19 zE<|sQ 20 yv ?_
  refine sgq 21 rfl rfl (uT_ 20) (fun hg=>(yd (aD b2) 0 0 K70 K0)) ?_
  refine sgq 22 rfl rfl (uT_ 20) (fun hg1=>(yz 1 K1 (hS4.c 0) rfl (gv_of hg1))) ?_
  refine sgq 23 rfl rfl (uT_ 20) (fun hg2=>(yv rfl (hf.g 2 1))) ?_
  refine sgq 24 rfl rfl (uT_ 20) (fun hg3=>(zE rfl (gv_of hg3) (gv_of hg3))) ?_
  refine sQ 25 yA<|sQ 26 yv ?_
  refine sgq 27 rfl rfl (uF_ 26) (fun hg4=>(yd (aD b2) 0 0 K59 K0)) ?_
  refine sgq 28 rfl rfl (uF_ 26) (fun hg5=>(yz 0 K1 (hS4.c 0) rfl (gv_of hg5))) ?_
  refine sgq 29 rfl rfl (uF_ 26) (fun hg6=>(yv rfl (hf.g 2 1))) ?_
  refine sgq 30 rfl rfl (uF_ 26) (fun hg7=>(zE rfl (gv_of hg7) (gv_of hg7))) ?_
  refine sgq 31 rfl rfl (uF_ 26) (fun hg8=>(yv rfl (gv_of hg8))) ?_
  refine sgq 32 rfl rfl (uG_ 31) (fun hg9=>(yd (aD b2) 0 0 K70 K0)) ?_
  refine sgq 33 rfl rfl (uG_ 31) (fun hg10=>(yz 1 K1 (hS4.c 0) rfl (gv_of hg10))) ?_
  refine sgq 34 rfl rfl (uG_ 31) (fun hg11=>(yv rfl (hf.g 1 0))) ?_
  refine sgq 35 rfl rfl (uG_ 31) (fun hg12=>(zE rfl (gv_of hg12) (gv_of hg12))) ?_
  refine sgq 36 rfl rfl (uF_ 26) (fun hg13=>(yA rfl (gv_of hg13) (gv_and hg13))) ?_
  refine sQ 37 yO (rn ?_)
  refine cw_cond rfl (fun hb1=>?_) (fun hb1=>?_)
  ·skip
   have hF2:=ct hb hb1
   refine cq (cr ?_)
   refine sQ 6 yu (rn (ct_ ?_))
   obtain rfl:=sI hF2
   obtain rfl:=sI hL1
   obtain rfl:=sI hF1
   exact e1 Tryz.results123 (hS4.sN [])
  ·skip
   have hF3:=cf' hb hb1
   refine cw_skip (cr ?_)
   refine sQ 38 (zP rfl (hf.g 12 4))<|sQ 12 yv (rn ?_)
   obtain rfl:=sI hF3
   exact ⟨K2,Nat.lt_succ_self _,i+1,(hf.a 1 0 (hf.a 2 1 (hf.a 10 2 (hf.a 11 3 (fc (congrArg (Value.int .i64) (wr_succ hlt1 hN)) fn_))))),(hS4.sel [] rfl rfl),(by omega),hL1⟩
 ·skip
  obtain rfl:k_=0:=by have h:=of_decide_eq_false hlt; omega
  refine cw_exit rfl ?_
  obtain rfl:=sI hL
  refine cq (cr ?_)
  refine sQ 6 yu (rn (ct_ ?_))
  obtain rfl:=sI hF1
  exact e1 Tryz.results123 (hS2.sN [])

theorem UQ (g:Ae) (place:List Int) (x:Ac) (B:Option Addr) (c n:Nat) (B1:Option Addr) (c1 n1:Nat) (w0:World) (hn:g.Edges.length=n) (hn1:place.length=n1) (hS:ST w0 [] w0 [] [⟨B,(g.Edges.flatMap eN1)⟩,⟨B1,(place.flatMap encI)⟩]) {r_:Bool} (hF:F0 g place x=some r_) :
  CV Tryz.prog 102 #[.agg #[vi g.Nodes,.slice B n c],.slice B1 n1 c1,.agg #[vi x.Kind,vi x.A,vi x.B]] w0 (fun v w'=>v=.bool r_∧ST w0 [] w' [] []):=by
 subst hn
 subst hn1
 unfold F0 at hF
 refine cv_of_cw 24 Tryz.func102 rfl Tryz.ntmps102 rfl ?_
 refine cq (cr ?_)
 refine sS 3 (yV [vi g.Nodes,.slice B g.Edges.length c] 2 hS) ?_
 rintro _ w_ ⟨b,rfl,hS1⟩
 refine sS 5 (yV [vi x.Kind,vi x.A,vi x.B] 3 hS1) ?_
 rintro _ w_1 ⟨b1,rfl,hS2⟩
 refine sQ 6 yu (rn (cq ?_))
 obtain ⟨r_1,hc,hF⟩:=bI hF
 obtain ⟨x1,hx,hF⟩:=bI hF
 obtain ⟨x2,hx1,hF⟩:=bI hF
 obtain ⟨r_2,hc1,hF⟩:=bI hF
 refine ra_start (hS2.se [0,1]).fn (by kernel_rfl) ?_
 have hS5:=hS2.drew
 refine rq 0 7 rfl (hS5.se [0,1]) (fun _ q=>(yw 0 K35 K7 (ST.c q 1))) ?_
 refine rA [1] ?_
 refine rC 8 1 rfl (yc Kn (Li x _  (hS5.inn0 [] rfl) hc)) ?_ aN
 rintro _ w_2 ⟨rfl,hd⟩
 have hS6:=hS5.out00 hd
 have hQ0:=hS6.se [0,1]
 refine ⟨hQ0,?_⟩
 refine rq 2 9 rfl hQ0 (fun _ q=>yn)<|rq 3 10 rfl hQ0 (fun _ q=>yv)<|rG 4 11 rfl rfl rfl (uF_ 10) hQ0 (fun hg _ q=>(yw 0 K13 K8 (ST.c q 0)))<|rG 5 12 rfl rfl rfl (uF_ 10) hQ0 (fun hg1 _ q=>yv)<|rG 6 13 rfl rfl rfl (uF_ 10) hQ0 (fun hg2 _ q=>(yd (aD b1) 0 0 K39 K0)) ?_
 refine rG 7 14 rfl rfl rfl (uF_ 10) hQ0 (fun hg3 _ q=>(yz 1 K1 (ST.c q 1) rfl (gv_of hg3)))<|rG 8 15 rfl rfl rfl (uF_ 10) hQ0 (fun hg4 _ q=>(yI B1 x.A K5 K0 (gi_isSome encI_len rfl (ST.rf q (i:=1) rfl) (gb_inv hx hg4)) (getI_nn (gb_inv hx hg4)) (getI_ltI (gb_inv hx hg4) rfl) rfl (gv_of hg4) (gv_of hg4)))<|rG 9 16 rfl rfl rfl (uF_ 10) hQ0 (fun hg5 _ q=>(yz (x.A.toNat*1) K1 (ST.rf q (i:=1) rfl) rfl (gv_of hg5) (gi_at0 encI_len (gb_inv hx hg5) rfl)))<|rG 10 17 rfl rfl rfl (uF_ 10) hQ0 (fun hg6 _ q=>yv)<|rG 11 18 rfl rfl rfl (uF_ 10) hQ0 (fun hg7 _ q=>(yd (aD b1) 0 0 K43 K0)) ?_
 refine rG 12 19 rfl rfl rfl (uF_ 10) hQ0 (fun hg8 _ q=>(yz 2 K1 (ST.c q 1) rfl (gv_of hg8)))<|rG 13 20 rfl rfl rfl (uF_ 10) hQ0 (fun hg9 _ q=>(yI B1 x.B K5 K0 (gi_isSome encI_len rfl (ST.rf q (i:=1) rfl) (gb_inv hx1 hg9)) (getI_nn (gb_inv hx1 hg9)) (getI_ltI (gb_inv hx1 hg9) rfl) rfl (gv_of hg9) (gv_of hg9)))<|rG 14 21 rfl rfl rfl (uF_ 10) hQ0 (fun hg10 _ q=>(yz (x.B.toNat*1) K1 (ST.rf q (i:=1) rfl) rfl (gv_of hg10) (gi_at0 encI_len (gb_inv hx1 hg10) rfl))) ?_
 refine rA [15] ?_
 refine ra_gc 22 (i:=15) (B:=(!(!r_1))) (v:=.bool r_2) (F:=hS6.fn) rfl rfl rfl (uF_ 10) hS6 (fun hg11=>(yc WJ (CV.mono (SU g x1 x2 B c g.Edges.length _ rfl (hS6.inn0 [(true,0)] rfl) (gb_inv hc1 hg11)) (by rintro _ _ ⟨rfl,h⟩; exact ⟨rfl,hS6.out00 h⟩)) rfl (mc (gv_of hg11) (mc (gv_of hg11) (mc (gv_of hg11) mn))))) ?_ ?_
 ·rintro w_3 hS7
  have hQ1:=hS7.se [0,1]
  refine ⟨hQ1,?_⟩
  refine rq 16 23 rfl hQ1 (fun _ q=>yO)<|rq 17 6 rfl hQ1 (fun _ q=>yu) ?_
  refine ra_done (by kernel_rfl) ?_
  refine ct_ ?_
  obtain rfl:=sI hF
  exact e1 Tryz.results102 (hS7.sN [])
 exact aN

theorem ML (g:Ae) (c1:Ad) (x:Ai) (B:Option Addr) (c n:Nat) (B1:Option Addr) (c2 n1:Nat) (B2:Option Addr) (c3 n2:Nat) (B3:Option Addr) (c4 n3:Nat) (B4:Option Addr) (c5 n4:Nat) (w0:World) (hn:g.Edges.length=n) (hn1:c1.Gates.length=n1) (hn2:x.place.length=n2) (hq:n2≤c3) (hn3:x.done.length=n3) (hn4:x.steps.length=n4) (hS:ST w0 (bl [⟨B4,39,(x.steps.flatMap eN2),c5*3⟩]) w0 [⟨B4,39,(x.steps.flatMap eN2),c5*3⟩] [⟨B,(g.Edges.flatMap eN1)⟩,⟨B1,(c1.Gates.flatMap eN0)⟩,⟨B2,(x.place.flatMap encI)⟩,⟨B3,(x.done.flatMap encB)⟩]) {r_:Ai} (hF:CA g c1 x=some r_) :
  CV Tryz.prog 71 #[.agg #[vi g.Nodes,.slice B n c],.agg #[vi c1.Qubits,.slice B1 n1 c2],.agg #[.slice B2 n2 c3,.slice B3 n3 c4,vi x.from_,.slice B4 n4 c5]] w0 (fun v w'=>∃ (B5:Option Addr) (c6:Nat) (B6:Option Addr) (c7:Nat) (B7:Option Addr) (c8:Nat),v=.agg #[.slice B5 r_.place.length c6,.slice B6 r_.done.length c7,vi r_.from_,.slice B7 r_.steps.length c8]∧r_.place.length≤c6∧Org w0 (bl [⟨B4,39,(x.steps.flatMap eN2),c5*3⟩]) [⟨B,(g.Edges.flatMap eN1)⟩,⟨B1,(c1.Gates.flatMap eN0)⟩,⟨B2,(x.place.flatMap encI)⟩,⟨B3,(x.done.flatMap encB)⟩] [⟨B5,(r_.place.flatMap encI)⟩]∧ST w0 (bl [⟨B4,39,(x.steps.flatMap eN2),c5*3⟩]) w' [⟨B6,4,(r_.done.flatMap encB),c7*1⟩,⟨B7,39,(r_.steps.flatMap eN2),c8*3⟩] [⟨B5,(r_.place.flatMap encI)⟩]):=by
 subst hn
 subst hn1
 subst hn2
 subst hn3
 subst hn4
 unfold CA at hF
 refine cv_of_cw 48 Tryz.func71 rfl Tryz.ntmps71 rfl ?_
 refine cq (cr ?_)
 let V2:List Value:=[vi g.Nodes,.slice B g.Edges.length c]
 refine sS 3 (yV V2 2 hS) ?_
 rintro _ w_ ⟨b,rfl,hS1⟩
 refine sS 4 (yV [vi c1.Qubits,.slice B1 c1.Gates.length c2] 2 hS1) ?_
 rintro _ w_1 ⟨b1,rfl,hS2⟩
 refine sS 5 (yV [.slice B2 x.place.length c3,.slice B3 x.done.length c4,vi x.from_,.slice B4 x.steps.length c5] 4 hS2) ?_
 rintro _ w_2 ⟨b2,rfl,hS3⟩
 refine sS 6 (yN [.slice none 0 0,.slice none 0 0,vi 0,.slice none 0 0] 4 hS3 EC) ?_
 rintro _ w_3 ⟨b3,rfl,hS4⟩
 refine rn (cq (cr ?_))
 refine sS 8 (Ys_bslice0 (s:=1) (e:=4) hS4 K47 K49 rfl) ?_
 rintro _ w_4 ⟨b4,rfl,hS5⟩
 refine sQ 9 (yd (aD b2) 0 0 K97 K41)<|sQ 10 (yz 1 K60 (hS5.c 3)) ?_
 obtain ⟨hap,hF⟩:=chk_inv hF
 refine sS 11 (Ys_append (s:=1) (by':=1) (i:=5) (nn:=0) (c:=0) (k:=x.done.length) (len:=x.done.length) (B:=aD b4) (xs:=(x.done.flatMap encB)) (cs':=(x.done.flatMap encB)) hS5 K47 K49 Iz GQ rfl (by decide) rfl rfl rfl rfl (fm_lenn (l:=[]) encB_len rfl) rfl (hS5.rf (i:=3) rfl) (fm_lenn (l:=x.done) encB_len rfl) (fm_one' (enc:=encB) encB_one x.done) (by have:=hap; omega) (by have:=hap; simp only [maxLen]; omega) rfl (app_len0 (l:=x.done) rfl)) ?_
 rintro _ w_5 ⟨B8,c9,rfl,hS6⟩
 refine sQ 12 (yd (aD b2) 0 0 K97 K41) ?_
 refine s0 (yS 3 1 (aD b2) 123 (.slice B8 x.done.length c9) [.slice B8 x.done.length c9] 1 [.slice B2 x.place.length c3,.slice B8 x.done.length c9,vi x.from_,.slice B4 x.steps.length c5] hS6 K41) ?_
 rintro _ w_6 ⟨rfl,hS7⟩
 refine rn (cq (cq (cr ?_)))
 refine sQ 7 yu (rn ?_)
 obtain ⟨z,hz,hF1⟩:=bI hF
 refine cw_block ?_
 let O0:Ob:=⟨aD b3,123,[.slice none 0 0,.slice none 0 0,vi 0,.slice none 0 0],4⟩
 let O1:Ob:=⟨aD b1,28,[vi c1.Qubits,.slice B1 c1.Gates.length c2],2⟩
 refine cw_loop (fun k f w=>∃ (done:List Bool) (steps:List Ak) (k_:Int) (B9:Option Addr) (c10:Nat),FF f [(3,pt (aD b) 0),(4,pt (aD b1) 0),(5,pt (aD b2) 0),(6,pt (aD b3) 0),(7,vi k_)]∧done.length=x.done.length∧ST w0 (bl [⟨B4,39,(x.steps.flatMap eN2),c5*3⟩]) w [⟨aD b,25,V2,2⟩,O1,⟨aD b2,123,[.slice B2 x.place.length c3,.slice B8 x.done.length c9,vi x.from_,.slice B9 steps.length c10],4⟩,⟨B8,4,(done.flatMap encB),c9*1⟩,⟨B9,39,(steps.flatMap eN2),c10*3⟩,O0] [⟨B,(g.Edges.flatMap eN1)⟩,⟨B1,(c1.Gates.flatMap eN0)⟩,⟨B2,(x.place.flatMap encI)⟩,⟨B3,(x.done.flatMap encB)⟩]∧whX (DW c1 g x) k (done,steps,k_)=some z) fuel ⟨x.done,x.steps,0,B4,c5,(fc rfl (fc rfl (fc rfl (fc rfl (fc rfl fn_))))),rfl,(hS7.sel [1,2,3,5,0,4] rfl rfl),hz⟩ ?_
 rintro K2 f w ⟨done,steps,k_,B9,c10,hf,hl,hS8,hL⟩
 obtain ⟨K11,y,rfl,hb,hL1⟩:=whX_go hL
 unfold DW at hb
 refine cq (cq (cr ?_))
 refine sQ 13 (yv rfl (hf.g 7 4))<|sQ 14 (yd (aD b1) 0 0 K19 K15 rfl (hf.g 4 1))<|sQ 15 (yz 1 K21 (hS8.c 1))<|sQ 16 (Y_len K12 rfl rfl)<|sQ 17 zL (rn ?_)
 refine cw_cond rfl (fun hb1=>?_) (fun hb1=>?_)
 ·skip
  have hF2:=ct hb hb1
  refine cw_skip (cq ?_)
  obtain ⟨z1,hz1,hF3⟩:=bI hF2
  refine cw_mid (fun f w=>∃ (done1:List Bool) (steps1:List Ak) (K22:Int) (B10:Option Addr) (c11:Nat),(done1,steps1,K22)=z1∧FF f [(3,pt (aD b) 0),(4,pt (aD b1) 0),(5,pt (aD b2) 0),(6,pt (aD b3) 0),(7,vi K22)]∧done1.length=x.done.length∧ST w0 (bl [⟨B4,39,(x.steps.flatMap eN2),c5*3⟩]) w [⟨aD b,25,V2,2⟩,O1,⟨aD b2,123,[.slice B2 x.place.length c3,.slice B8 x.done.length c9,vi x.from_,.slice B10 steps1.length c11],4⟩,⟨B8,4,(done1.flatMap encB),c9*1⟩,⟨B10,39,(steps1.flatMap eN2),c11*3⟩,O0] [⟨B,(g.Edges.flatMap eN1)⟩,⟨B1,(c1.Gates.flatMap eN0)⟩,⟨B2,(x.place.flatMap encI)⟩,⟨B3,(x.done.flatMap encB)⟩]) ?_ ?_
  ·skip
   refine cw_block (cq ?_)
   obtain ⟨r_1,hc,hz1⟩:=bI hz1
   obtain ⟨x1,hx,hz1⟩:=bI hz1
   obtain ⟨r_2,hc1,hz1⟩:=bI hz1
   refine ra_start (hS8.se [0,1,2,3,4,5]).fn (by kernel_rfl) ?_
   have hS12:=hS8.drew
   have hQ0:=hS12.se [0,1,2,3,4,5]
   refine rq 0 20 rfl hQ0 (fun _ q=>(yw 0 K10 K3 (ST.c q 1) rfl (hf.g 4 1)))<|rq 1 21 rfl hQ0 (fun _ q=>(yd (aD b2) 0 0 K97 K41 rfl (hf.g 5 2)))<|rq 2 22 rfl hQ0 (fun _ q=>(yz 1 K60 (ST.c q 2)))<|rq 3 23 rfl hQ0 (fun _ q=>(yv rfl (hf.g 7 4))) ?_
   refine rA [4] ?_
   refine rC 24 4 rfl (yc VU (Uo c1 done k_ B1 c2 c1.Gates.length B8 c9 x.done.length _ rfl hl (hS12.inn0 [(true,1),(false,3)] rfl) hc)) ?_ aN
   rintro _ w_7 ⟨rfl,hd⟩
   have hS13:=hS12.out00 hd
   have hQ1:=hS13.se [0,1,2,3,4,5]
   refine ⟨hQ1,?_⟩
   refine rq 5 25 rfl hQ1 (fun _ q=>yv)<|rG 6 26 rfl rfl rfl (uT_ 25) hQ1 (fun hg _ q=>(yw 0 K13 K8 (ST.c q 0) rfl (hf.g 3 0)))<|rG 7 27 rfl rfl rfl (uT_ 25) hQ1 (fun hg1 _ q=>(yd (aD b2) 0 0 Fx K16 rfl (hf.g 5 2)))<|rG 8 28 rfl rfl rfl (uT_ 25) hQ1 (fun hg2 _ q=>(yz 0 K23 (ST.c q 2) rfl (gv_of hg2)))<|rG 9 29 rfl rfl rfl (uT_ 25) hQ1 (fun hg3 _ q=>(yd (aD b1) 0 0 K19 K15 rfl (hf.g 4 1))) ?_
   refine rG 10 30 rfl rfl rfl (uT_ 25) hQ1 (fun hg4 _ q=>(yz 1 K21 (ST.c q 1) rfl (gv_of hg4)))<|rG 11 31 rfl rfl rfl (uT_ 25) hQ1 (fun hg5 _ q=>(yv rfl (hf.g 7 4)))<|rG 12 32 rfl rfl rfl (uT_ 25) hQ1 (fun hg6 _ q=>(yI B1 k_ K12 K7 (gi_isSome eN8 rfl (ST.rf q (i:=1) rfl) (gb_inv hx hg6)) (getI_nn (gb_inv hx hg6)) (getI_ltI (gb_inv hx hg6) rfl) rfl (gv_of hg6) (gv_of hg6)))<|rG 13 33 rfl rfl rfl (uT_ 25) hQ1 (fun hg7 _ q=>(ya B1 (k_.toNat*3) (c1.Gates.flatMap eN0) [vi x1.Kind,vi x1.A,vi x1.B] K35 K7 (ST.rf q (i:=1) rfl) rfl (gv_of hg7) (eN8 x1) (gi_seg eN8 (gb_inv hx hg7)))) ?_
   refine rA [14] ?_
   refine ra_gc 34 (i:=14) (B:=r_1) (v:=.bool r_2) (F:=hS13.fn) rfl rfl rfl (uT_ 25) hS13 (fun hg8=>(yc WA (CV.mono (UQ g x.place x1 B c g.Edges.length B2 c3 x.place.length _ rfl rfl (hS13.inn0 [(true,0),(true,2)] rfl) (gb_inv hc1 hg8)) (by rintro _ _ ⟨rfl,h⟩; exact ⟨rfl,hS13.out00 h⟩)) rfl (mc (gv_of hg8) (mc (gv_of hg8) (mc (gv_of hg8) mn))))) ?_ ?_
   ·rintro w_8 hS14
    refine ⟨(hS14.se [0,1,2,3,4,5]),?_⟩
    refine rq 15 35 rfl (hS14.se [0,1,2,3,4,5]) (fun _ q=>yA) ?_
    refine ra_done (by kernel_rfl) ?_
    refine cw_cond rfl (fun hb2=>?_) (fun hb2=>?_)
    ·skip
     have hF4:=ct hz1 hb2
     refine cq (cr ?_)
     refine sQ 36 (yd (aD b2) 0 0 K97 K41 rfl (hf.g 5 2))<|sQ 37 (yz 1 K60 (hS14.c 2))<|sQ 38 (yv rfl (hf.g 7 4)) ?_
     obtain ⟨x2,hx1,hF4⟩:=bI hF4
     refine sQ 39 (yI B8 k_ K47 K49 (gi_isSome encB_len rfl (hS14.c 3) hx1) (getI_nn hx1) (getI_ltI hx1 hl)) ?_
     refine s0 (yS 3 1 B8 4 (.bool true) [.bool true] (k_.toNat*1) ((done.set k_.toNat true).flatMap encB) hS14 K49 rfl rfl rfl rfl rfl rfl rfl (gi_fit0 encB_len hx1) (gi_set encB_len hx1 true rfl)) ?_
     rintro _ w_9 ⟨rfl,hS15⟩
     refine rn (cq (cr ?_))
     refine sQ 40 (yd (aD b2) 0 0 JZ K36 rfl (hf.g 5 2))<|sQ 41 (yz 3 K55 (hS15.c 2))<|sQ 42 (yv rfl (hf.g 7 4))<|sQ 43 (Y_buildS (zs:=[vi 0,vi 0,vi 0]) (vs:=[(0,vi k_)]) (cs:=[vi k_,vi 0,vi 0]) IN K56 rfl (mpc rfl mpn) rfl) ?_
     refine sS 44 (yF 3 1 [vi k_,vi 0,vi 0] 3 hS15 K31 K26 I9 rfl (mpc rfl mpn)) ?_
     rintro _ w_10 ⟨b5,rfl,hS16⟩
     obtain ⟨hap1,hF4⟩:=chk_inv hF4
     refine sS 45 (aP 3 24 4 steps [(Ak.mk k_ 0 0)] hS16 K31 K26 K84 K56 A5 C8 (hS16.c 6) hap1) ?_
     rintro _ w_11 ⟨B11,c12,rfl,hS17⟩
     refine sQ 46 (yd (aD b2) 0 0 JZ K36 rfl (hf.g 5 2)) ?_
     refine s0 (yS 2 1 (aD b2) 123 (.slice B11 ((steps++[(Ak.mk k_ 0 0)]).length) c12) [.slice B11 ((steps++[(Ak.mk k_ 0 0)]).length) c12] 3 [.slice B2 x.place.length c3,.slice B8 x.done.length c9,vi x.from_,.slice B11 ((steps++[(Ak.mk k_ 0 0)]).length) c12] hS17 K36) ?_
     rintro _ w_12 ⟨rfl,hS18⟩
     refine rn (cr ?_)
     refine sQ 7 yu (rn ?_)
     exact ⟨(done.set k_.toNat true),(steps++[(Ak.mk k_ 0 0)]),(-1),B11,c12,(sI hF4),(hf.a 3 0 (hf.a 4 1 (hf.a 5 2 (hf.a 6 3 (fc rfl fn_))))),(set_len _ _ _ hl),(hS18.sel [0,1,2,3,4,5] rfl rfl)⟩
    ·skip
     have hF5:=cf' hz1 hb2
     refine cw_skip ?_
     exact ⟨done,steps,k_,B9,c10,(sI hF5),(hf.a 3 0 (hf.a 4 1 (hf.a 5 2 (hf.a 6 3 (hf.a 7 4 fn_))))),hl,(hS14.sel [0,1,2,3,4,5] rfl rfl)⟩
   exact aN
  rintro f w ⟨done1,steps1,K22,B10,c11,rfl,hf1,hl1,hS9⟩
  refine cr ?_
  refine sQ 18 (yv rfl (hf1.g 7 4))<|sQ 19 zP<|sQ 7 yu (rn ?_)
  obtain rfl:=sI hF3
  exact ⟨K11,Nat.lt_succ_self _,done1,steps1,(i64.wrap (K22+1)),B10,c11,(hf1.a 3 0 (hf1.a 4 1 (hf1.a 5 2 (hf1.a 6 3 (fc rfl fn_))))),hl1,(hS9.sel [0,1,2,3,4,5] rfl rfl),hL1⟩
 ·skip
  have hF6:=cf' hb hb1
  refine cw_exit rfl ?_
  obtain rfl:=sI hF6
  obtain rfl:=sI hL1
  refine cq (cr ?_)
  refine sQ 47 (yw 0 IF K62 (hS8.c 2) rfl (hf.g 5 2)) ?_
  refine s0 (yK 5 4 0 hS8 K62 rfl (hf.g 6 3)) ?_
  rintro _ w_13 ⟨rfl,hS19⟩
  refine rn (ct_ ?_)
  obtain rfl:=sI hF1
  exact ret1 Tryz.results71 (v1:=.agg #[.slice B2 x.place.length c3,.slice B8 x.done.length c9,vi x.from_,.slice B9 steps.length c10]) (rX IF K62 (hS19.c 5) (hf.g 6 3)) ⟨B2,c3,B8,c9,B9,c10,(by simp +zetaDelta [hl]),(len_le rfl hq),(org_cons (org_mem (i:=2) rfl) org_nil),((hS19.sel [3,4] rfl rfl).sT [2])⟩

theorem Lb (place:List Int) (B:Option Addr) (c n:Nat) (w0:World) (hn:place.length=n) (hS:ST w0 [] w0 [] [⟨B,(place.flatMap encI)⟩]) {r_:Int} (hF:DL place=some r_) :
  CV Tryz.prog 72 #[.slice B n c] w0 (fun v w'=>v=vi r_∧ST w0 [] w' [] []):=by
 subst hn
 unfold DL at hF
 refine cv_of_cw 18 Tryz.func72 rfl Tryz.ntmps72 rfl ?_
 refine cq (cr ?_)
 refine sQ 2 yu (rn (cq (cr ?_)))
 refine sQ 3 yu (rn (cq (cq (cr ?_))))
 refine sQ 6 yv<|sQ 7 (Y_len K5 rfl rfl)<|sQ 8 yv (rn ?_)
 obtain ⟨hN,hF⟩:=chk_inv hF
 obtain ⟨z,hz,hF1⟩:=bI hF
 refine cw_block ?_
 refine cw_loop (fun k f w=>∃ (i:Nat) (n1:Int),FF f [(3,vi n1),(6,.slice B place.length c),(7,vi (place.length:Int)),(8,vi (i:Int))]∧ST w0 [] w [] [⟨B,(place.flatMap encI)⟩]∧i+k=place.length∧forN (HP place) k i n1=some z) place.length ⟨0,0,(fc rfl (fc rfl (fc rfl (fc rfl fn_)))),(hS.sel [] rfl rfl),Nat.zero_add _,hz⟩ ?_
 rintro k_ f w ⟨i,n1,hf,hS1,hik,hL⟩
 refine cq (cr ?_)
 refine sQ 9 (zL rfl (hf.g 8 3) (hf.g 7 2)) (rn (cq ?_))
 refine cw_cond rfl (fun hlt=>?_) (fun hlt=>?_)
 ·skip
  have hlt1:i<place.length:=by have h:=of_decide_eq_true hlt; omega
  obtain ⟨K2,rfl⟩:∃ k2,k_=k2+1:=⟨k_-1,by omega⟩
  obtain ⟨y,hb,hL1⟩:=forN_go hL
  unfold HP at hb
  refine cw_skip (cq (cw_block (cq (cr ?_))))
  obtain ⟨x,hx,hb⟩:=bI hb
  refine sQ 10 (yI B (i:Int) K5 K0 (gi_isSome encI_len rfl (hS1.rf (i:=0) rfl) hx) (getI_nn hx) (getI_ltI hx rfl) rfl (hf.g 6 1) (hf.g 8 3))<|sQ 11 (yz ((i:Int).toNat*1) K1 (hS1.rf (i:=0) rfl) rfl rfl (gi_at0 encI_len hx rfl))<|sQ 5 yu (rn (cr ?_))
  refine sQ 12 (yv rfl (hf.g 3 0))<|sQ 13 zX<|sQ 14 yv<|sQ 15 zP<|sQ 3 yu (rn (cr ?_))
  refine sQ 16 (zP rfl (hf.g 8 3))<|sQ 8 yv (rn ?_)
  obtain rfl:=sI hb
  exact ⟨K2,Nat.lt_succ_self _,i+1,(i64.wrap ((i64.wrap (n1*5))+x)),(fc rfl (hf.a 6 1 (hf.a 7 2 (fc (congrArg (Value.int .i64) (wr_succ hlt1 hN)) fn_)))),(hS1.sel [] rfl rfl),(by omega),hL1⟩
 ·skip
  obtain rfl:k_=0:=by have h:=of_decide_eq_false hlt; omega
  refine cw_exit rfl ?_
  obtain rfl:=sI hL
  refine cq (cr ?_)
  refine sQ 17 (yv rfl (hf.g 3 0))<|sQ 2 yu (rn (ct_ ?_))
  obtain rfl:=sI hF1
  exact e1 Tryz.results72 (hS1.sN [])

theorem IE (done:List Bool) (B:Option Addr) (c n:Nat) (w0:World) (hn:done.length=n) (hS:ST w0 [] w0 [] [⟨B,(done.flatMap encB)⟩]) {r_:Int} (hF:Cm done=some r_) :
  CV Tryz.prog 73 #[.slice B n c] w0 (fun v w'=>v=vi r_∧ST w0 [] w' [] []):=by
 subst hn
 unfold Cm at hF
 refine cv_of_cw 21 Tryz.func73 rfl Tryz.ntmps73 rfl ?_
 refine cq (cr ?_)
 refine sQ 2 yu (rn (cq (cr ?_)))
 refine sQ 3 yu (rn (cq (cq (cr ?_))))
 refine sQ 6 yv<|sQ 7 (Y_len K47 rfl rfl)<|sQ 8 yv (rn ?_)
 obtain ⟨hN,hF⟩:=chk_inv hF
 obtain ⟨z,hz,hF1⟩:=bI hF
 refine cw_block ?_
 refine cw_loop (fun k f w=>∃ (i:Nat) (set_:Int),FF f [(3,vi set_),(6,.slice B done.length c),(7,vi (done.length:Int)),(8,vi (i:Int))]∧ST w0 [] w [] [⟨B,(done.flatMap encB)⟩]∧i+k=done.length∧forN (G8 done) k i set_=some z) done.length ⟨0,0,(fc rfl (fc rfl (fc rfl (fc rfl fn_)))),(hS.sel [] rfl rfl),Nat.zero_add _,hz⟩ ?_
 rintro k_ f w ⟨i,set_,hf,hS1,hik,hL⟩
 refine cq (cr ?_)
 refine sQ 9 (zL rfl (hf.g 8 3) (hf.g 7 2)) (rn (cq ?_))
 refine cw_cond rfl (fun hlt=>?_) (fun hlt=>?_)
 ·skip
  have hlt1:i<done.length:=by have h:=of_decide_eq_true hlt; omega
  obtain ⟨K2,rfl⟩:∃ k2,k_=k2+1:=⟨k_-1,by omega⟩
  obtain ⟨y,hb,hL1⟩:=forN_go hL
  unfold G8 at hb
  refine cw_skip (cq ?_)
  obtain ⟨z1,hz1,hF2⟩:=bI hb
  refine cw_mid (fun f w=>∃ (set_1:Int),set_1=z1∧FF f [(3,vi set_1),(6,.slice B done.length c),(7,vi (done.length:Int)),(8,vi (i:Int))]∧ST w0 [] w [] [⟨B,(done.flatMap encB)⟩]) ?_ ?_
  ·skip
   refine cw_block (cq (cr ?_))
   refine sQ 10 (yv rfl (hf.g 8 3)) ?_
   obtain ⟨x,hx,hz1⟩:=bI hz1
   refine sQ 11 (yI B (i:Int) K47 K49 (gi_isSome encB_len rfl (hS1.rf (i:=0) rfl) hx) (getI_nn hx) (getI_ltI hx rfl) rfl (hf.g 6 1) (hf.g 8 3))<|sQ 12 (yz ((i:Int).toNat*1) K87 (hS1.rf (i:=0) rfl) rfl rfl (gi_at0 encB_len hx rfl))<|sQ 4 yu<|sQ 5 yu (rn (cq (cr ?_)))
   refine sQ 13 yv (rn ?_)
   refine cw_cond rfl (fun hb1=>?_) (fun hb1=>?_)
   ·skip
    have hF3:=ct hz1 hb1
    refine cr ?_
    refine sQ 14 (yv rfl (hf.g 3 0))<|sQ 15 yv<|sQ 16 (Y_conv (k:=.i64) (a:=(i:Int)) (T:=3) (T':=127) Kx PC rfl rfl) ?_
    obtain ⟨hsh,hF3⟩:=chk_inv hF3
    refine sQ 17 (Y_shl (k:=.i64) (a:=1) (k':=.u64) (b:=(IntKind.u64.wrap (i:Int))) rfl rfl rfl hsh)<|sQ 18 (Y_bor (k:=.i64) (a:=set_) (b:=(shlK .i64 1 (IntKind.u64.wrap (i:Int)))) rfl rfl rfl)<|sQ 3 yu (rn ?_)
    exact ⟨(bits .or .i64 set_ (shlK .i64 1 (IntKind.u64.wrap (i:Int)))),(sI hF3),(fc rfl (hf.a 6 1 (hf.a 7 2 (hf.a 8 3 fn_)))),(hS1.sel [] rfl rfl)⟩
   ·skip
    have hF4:=cf' hz1 hb1
    refine cw_skip ?_
    exact ⟨set_,(sI hF4),(hf.a 3 0 (hf.a 6 1 (hf.a 7 2 (hf.a 8 3 fn_)))),(hS1.sel [] rfl rfl)⟩
  rintro f w ⟨set_1,rfl,hf1,hS2⟩
  refine cr ?_
  refine sQ 19 (zP rfl (hf1.g 8 3))<|sQ 8 yv (rn ?_)
  obtain rfl:=sI hF2
  exact ⟨K2,Nat.lt_succ_self _,i+1,set_1,(hf1.a 3 0 (hf1.a 6 1 (hf1.a 7 2 (fc (congrArg (Value.int .i64) (wr_succ hlt1 hN)) fn_)))),(hS2.sel [] rfl rfl),(by omega),hL1⟩
 ·skip
  obtain rfl:k_=0:=by have h:=of_decide_eq_false hlt; omega
  refine cw_exit rfl ?_
  obtain rfl:=sI hL
  refine cq (cr ?_)
  refine sQ 20 (yv rfl (hf.g 3 0))<|sQ 2 yu (rn (ct_ ?_))
  obtain rfl:=sI hF1
  exact e1 Tryz.results73 (hS1.sN [])
end Go.VK
