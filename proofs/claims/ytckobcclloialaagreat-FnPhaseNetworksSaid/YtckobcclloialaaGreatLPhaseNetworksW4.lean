/- Walks: each Go function returns what its Lean function says. By program. -/
import Derived.Test.YtckobcclloialaaGreatLPhaseNetworksFa
import Derived.Test.YtckobcclloialaaGreatLPhaseNetworksShelf
import Derived.Test.YtckobcclloialaaGreatLibQ
import Derived.Test.YtckobcclloialaaGreatLibU
import Derived.Test.YtckobcclloialaaGreatLibZ
import Derived.Test.YtckobcclloialaaGreatLibY
import Derived.Test.YtckobcclloialaaGreatLPhaseNetworksW3
set_option linter.unusedVariables false
set_option maxRecDepth 100000
set_option maxHeartbeats 4000000
namespace Go.VK
open Go.RowKit
open Go.Proofs
open Go.IntKind
attribute [local irreducible] CW RW RA CV Y Yw Yc Ys RetOf
attribute [local irreducible] Am BT BG AQ AA A9 Bl Dd Cb AD BJ AW Bu Cd BV BH Ay BB BX Cl Ch BU Dl Ew D0 DK D7 Di De DU Cg Ec Ef DG EM Do AU Dx Dm BA Da CL EY Dq C7 Dz En CU Ep DI EG CO ER CH EO
theorem M8 (c:Ac) (B:Option Addr) (B1:Option Addr) (c1 n:Nat) (w0:World) (hn:c.code.length=n) (hS:ST w0 (bl [⟨B,74,[.slice B1 n c1,vi c.at_,.int .u64 c.seed],3⟩]) w0 [⟨B,74,[.slice B1 n c1,vi c.at_,.int .u64 c.seed],3⟩] [⟨B1,(c.code.flatMap enc_u8)⟩]) {r_:Ae} {m:Ac} (hF:Ew c=some (r_,m)) :
  CV Tryz.prog 87 #[pt B 0] w0 (fun v w'=>∃ (B2:Option Addr) (c2:Nat),v=.agg #[vi r_.Qubits,.slice B2 r_.Gates.length c2]∧ST w0 (bl [⟨B,74,[.slice B1 n c1,vi c.at_,.int .u64 c.seed],3⟩]) w' [⟨B,74,[.slice B1 n c1,vi m.at_,.int .u64 m.seed],3⟩,⟨B2,59,(r_.Gates.flatMap eN0),c2*3⟩] []):=by
 subst hn
 unfold Ew at hF
 refine cv_of_cw 31 Tryz.func87 rfl Tryz.ntmps87 rfl ?_
 refine cq (cr ?_)
 refine sS 2 (yN [vi 0,.slice none 0 0] 2 hS K21) ?_
 rintro _ w_ ⟨b,rfl,hS1⟩
 refine rn (cq (cr ?_))
 refine sQ 4 (ym (pt B 0)) ?_
 obtain ⟨⟨r_1,m1⟩,hc,hF⟩:=bI hF
 refine sc 5 rfl rfl (yC [pt B 0] Ld (ON c B B1 c1 c.code.length _ rfl (hS1.inn [true,false] rfl [(true,0)] rfl) hc)) ?_
 rintro _ w_1 ⟨B3,c3,rfl,hd⟩
 have hS2:=hS1.out [true,false] rfl hd
 refine sS 3 (yN [vi 0,.slice none 0 0] 2 hS2 K21) ?_
 rintro _ w_2 ⟨b1,rfl,hS3⟩
 let V7:List Value:=[vi r_1.Qubits,.slice B3 r_1.Gates.length c3]
 refine s0 (yT 3 2 (aD b1) 32 (.agg V7.toArray) V7 0 hS3 K7) ?_
 rintro _ w_3 ⟨rfl,hS4⟩
 refine rn (cq ?_)
 obtain ⟨z,hz,hF1⟩:=bI hF
 let O0:Ob:=⟨B,74,[.slice B1 c.code.length c1,vi c.at_,.int .u64 c.seed],3⟩
 let O2:Ob:=⟨aD b,32,[vi 0,.slice none 0 0],2⟩
 let R3:Ro:=⟨B1,(c.code.flatMap enc_u8)⟩
 refine cw_mid (fun f w=>∃ (at_:Int) (seed:Int) (Qubits:Int) (Gates:List Aa) (B4:Option Addr) (c4:Nat),(at_,seed,Qubits,Gates)=z∧FF f [(2,pt (aD b) 0),(3,pt (aD b1) 0)]∧ST w0 (bl [O0]) w [⟨B,74,[.slice B1 c.code.length c1,vi at_,.int .u64 seed],3⟩,O2,⟨aD b1,32,[vi Qubits,.slice B4 Gates.length c4],2⟩,⟨B4,59,(Gates.flatMap eN0),c4*3⟩] [R3]) ?_ ?_
 ·skip
  refine cq (cr ?_)
  refine sQ 6 (ym (pt B 0)) ?_
  obtain ⟨⟨r_2,m2⟩,hc1,hz⟩:=bI hz
  refine sc 7 rfl rfl (yC [pt B 0,vi 14] K20 (Ak (Ac.mk c.code m1.at_ m1.seed) 14 B B1 c1 c.code.length _ rfl (hS4.inn [false,true,false,false] rfl [(true,0)] rfl) hc1)) ?_
  rintro _ w_4 ⟨rfl,hd1⟩
  have hS6:=hS4.out [false,true,false,false] rfl hd1
  refine rn (cw_block (cq (cr ?_)))
  refine sQ 9 (yE r_2 0)<|sQ 8 (yg (.bool (r_2==0))) (rn ?_)
  refine cw_cond (b:=(r_2==0)) rfl (fun hb=>?_) (fun hb=>?_)
  ·skip
   have hF2:=ct hz hb
   refine cr ?_
   refine sQ 10 (ym (pt B 0)) ?_
   refine sS 11 (Ys_bslice (s:=1) (len:=4) (vs:=[(0,vi 0),(1,vi 1),(2,vi 5),(3,vi 6)]) (cs:=[vi 0,vi 1,vi 5,vi 6]) (zs:=[vi 0,vi 0,vi 0,vi 0]) (m:=4) hS6 K2 K0 K24 rfl (mpc rfl (mpc rfl (mpc rfl (mpc rfl mpn)))) rfl rfl rfl (by kernel_rfl) (by kernel_rfl) rfl) ?_
   rintro _ w_5 ⟨b2,rfl,hS7⟩
   have hS7:ST w0 (bl [O0]) _ [O2,⟨B3,59,(r_1.Gates.flatMap eN0),c3*3⟩,⟨aD b1,32,V7,2⟩,⟨B,74,[.slice B1 c.code.length c1,vi m2.at_,.int .u64 m2.seed],3⟩,⟨aD b2,3,([0,1,5,6].flatMap encI),4*1⟩] [R3]:=hS7
   obtain ⟨⟨r_3,m3⟩,hc2,hF2⟩:=bI hF2
   refine sc 12 rfl rfl (yC [pt B 0,.slice (aD b2) 4 4] K91 (FR (Ac.mk c.code m2.at_ m2.seed) [0,1,5,6] B B1 c1 c.code.length (aD b2) 4 4 _ rfl rfl (hS7.inn [false,false,false,true,false] rfl [(true,0),(false,3)] rfl) hc2)) ?_
   rintro _ w_6 ⟨rfl,hd2⟩
   have hS8:=hS7.out [false,false,false,true,false] rfl hd2
   refine sQ 13 (yd (aD b1) 0 0 K36 K0) ?_
   refine s0 (yS 2 1 (aD b1) 32 (vi r_3) [vi r_3] 0 [vi r_3,.slice B3 r_1.Gates.length c3] hS8 K0) ?_
   rintro _ w_7 ⟨rfl,hS9⟩
   refine rn ?_
   exact ⟨m3.at_,m3.seed,r_3,r_1.Gates,B3,c3,(sI hF2),(fc rfl (fc rfl fn_)),(hS9.sel [4,0,2,1] rfl rfl)⟩
  ·skip
   have hF3:=cf' hz hb
   refine cq (cr ?_)
   refine sQ 15 (yE r_2 1)<|sQ 14 (yg (.bool (r_2==1))) (rn ?_)
   refine cw_cond (b:=(r_2==1)) rfl (fun hb1=>?_) (fun hb1=>?_)
   ·skip
    have hF4:=ct hF3 hb1
    obtain ⟨⟨r_4,m4⟩,hc3,hF4⟩:=bI hF4
    obtain ⟨⟨r_5,m5⟩,hc4,hF4⟩:=bI hF4
    obtain ⟨⟨r_6,m6⟩,hc5,hF4⟩:=bI hF4
    obtain ⟨hap,hF4⟩:=chk_inv hF4
    let O1:Ob:=⟨B,74,[.slice B1 c.code.length c1,vi m6.at_,.int .u64 m6.seed],3⟩
    refine cw_mid (fun f w=>∃ (B6:Option Addr) (c6:Nat),FF f [(2,pt (aD b) 0),(3,pt (aD b1) 0)]∧ST w0 (bl [O0]) w [O1,O2,⟨aD b1,32,[vi r_1.Qubits,.slice B6 ((r_1.Gates++[(Aa.mk r_4 (i64.wrap (r_5-1)) (i64.wrap (r_6-1)))]).length) c6],2⟩,⟨B6,59,((r_1.Gates++[(Aa.mk r_4 (i64.wrap (r_5-1)) (i64.wrap (r_6-1)))]).flatMap eN0),c6*3⟩] [R3]) ?_ ?_
    ·skip
     refine ra_start (hS6.se [0]).fn (by kernel_rfl) ?_
     have hS14:=hS6.drew
     have hQ0:=hS14.se [0]
     refine rq 0 16 (v:=pt (aD b1) 1) rfl hQ0 (fun w' hw'=>(yd (aD b1) 0 0 K17 K11))<|rq 2 18 rfl hQ0 (fun w' hw'=>(ym (pt B 0)))<|rq 4 20 rfl hQ0 (fun w' hw'=>(ym (pt B 0)))<|rq 7 23 rfl hQ0 (fun w' hw'=>(ym (pt B 0))) ?_
     refine rA [1,3] ?_
     refine ry 17 1 rfl (yl (aD b1) 1 V7 (.slice B3 r_1.Gates.length c3) K18 (hS14.c 2)) hQ0 ?_ ?_
     ·skip
      refine rA [3] ?_
      refine rC 19 3 rfl (yC [pt B 0,vi 14] K20 (Ak (Ac.mk c.code m2.at_ m2.seed) 14 B B1 c1 c.code.length _ rfl (hS14.inn [false,false,false,true] rfl [(true,0)] rfl) hc3)) ?_ aN
      rintro _ w_8 ⟨rfl,hd3⟩
      have hS15:=hS14.out [false,false,false,true] rfl hd3
      refine ⟨(hS15.se [0]),?_⟩
      refine rA [5] ?_
      refine rC 21 5 rfl (yC [pt B 0,vi 4] K20 (Ak (Ac.mk c.code m4.at_ m4.seed) 4 B B1 c1 c.code.length _ rfl (hS15.inn [false,false,false,true] rfl [(true,0)] rfl) hc4)) ?_ aN
      rintro _ w_9 ⟨rfl,hd4⟩
      have hS16:=hS15.out [false,false,false,true] rfl hd4
      refine ⟨(hS16.se [0]),?_⟩
      refine rq 6 22 rfl (hS16.se [0]) (fun w' hw'=>(yM r_5 1)) ?_
      refine rA [8] ?_
      refine rC 24 8 rfl (yC [pt B 0,vi 4] K20 (Ak (Ac.mk c.code m5.at_ m5.seed) 4 B B1 c1 c.code.length _ rfl (hS16.inn [false,false,false,true] rfl [(true,0)] rfl) hc5)) ?_ aN
      rintro _ w_10 ⟨rfl,hd5⟩
      have hS17:=hS16.out [false,false,false,true] rfl hd5
      have hQ1:=hS17.se [0]
      refine ⟨hQ1,?_⟩
      let V4:List Value:=[vi r_4,vi (i64.wrap (r_5-1)),vi (i64.wrap (r_6-1))]
      refine rq 9 25 rfl hQ1 (fun w' hw'=>(yM r_6 1))<|rq 10 26 (v:=.agg V4.toArray) rfl hQ1 (fun w' hw'=>(Y_buildS (zs:=[vi 0,vi 0,vi 0]) (vs:=[(0,vi r_4),(1,vi (i64.wrap (r_5-1))),(2,vi (i64.wrap (r_6-1)))]) (cs:=V4) K33 K10 rfl (mpc rfl (mpc rfl (mpc rfl mpn))) rfl)) ?_
      refine rA [11] ?_
      refine rS 27 11 rfl (Ys_bslice (s:=3) (len:=1) (vs:=[(0,.agg V4.toArray)]) (cs:=V4) (zs:=[vi 0,vi 0,vi 0]) (m:=3) hS17 K4 K3 K26 rfl (mpc rfl mpn) rfl rfl rfl (by kernel_rfl) (by kernel_rfl) rfl) ?_ aN
      rintro _ w_11 ⟨b3,rfl,hS18⟩
      have hS18:ST w0 (bl [O0]) _ [O2,⟨B3,59,(r_1.Gates.flatMap eN0),c3*3⟩,⟨aD b1,32,V7,2⟩,O1,⟨aD b3,59,([(Aa.mk r_4 (i64.wrap (r_5-1)) (i64.wrap (r_6-1)))].flatMap eN0),1*3⟩] [R3]:=hS18
      refine ⟨(hS18.se [0]),?_⟩
      refine rA [12] ?_
      refine rS 28 12 rfl (Ys_append (s:=3) (by':=24) (i:=1) (nn:=r_1.Gates.length) (c:=c3) (k:=1) (len:=(r_1.Gates++[(Aa.mk r_4 (i64.wrap (r_5-1)) (i64.wrap (r_6-1)))]).length) (B:=B3) (xs:=([(Aa.mk r_4 (i64.wrap (r_5-1)) (i64.wrap (r_6-1)))].flatMap eN0)) (cs':=((r_1.Gates++[(Aa.mk r_4 (i64.wrap (r_5-1)) (i64.wrap (r_6-1)))]).flatMap eN0)) hS18 K4 K3 K23 K10 rfl (by decide) rfl rfl rfl rfl (fm_lenn (l:=r_1.Gates) eN2 rfl) rfl (hS18.c 4) (fm_lenn (l:=[(Aa.mk r_4 (i64.wrap (r_5-1)) (i64.wrap (r_6-1)))]) eN2 rfl) (fm_one' (enc:=eN0) Al [(Aa.mk r_4 (i64.wrap (r_5-1)) (i64.wrap (r_6-1)))]) (by have:=hap; omega) (by have:=hap; simp only [maxLen]; omega) (fm_app _ _) (app_len (l:=r_1.Gates) (l':=[(Aa.mk r_4 (i64.wrap (r_5-1)) (i64.wrap (r_6-1)))]) rfl rfl)) ?_ aN
      rintro _ w_12 ⟨B5,c5,rfl,hS19⟩
      refine ⟨(hS19.se [0]),?_⟩
      refine rq 13 29 (v:=pt (aD b1) 1) rfl (hS19.se [0]) (fun w' hw'=>(yd (aD b1) 0 0 K17 K11)) ?_
      refine rA [14] ?_
      refine rZ 14 rfl (yS 2 1 (aD b1) 32 (.slice B5 ((r_1.Gates++[(Aa.mk r_4 (i64.wrap (r_5-1)) (i64.wrap (r_6-1)))]).length) c5) [.slice B5 ((r_1.Gates++[(Aa.mk r_4 (i64.wrap (r_5-1)) (i64.wrap (r_6-1)))]).length) c5] 1 [vi r_1.Qubits,.slice B5 ((r_1.Gates++[(Aa.mk r_4 (i64.wrap (r_5-1)) (i64.wrap (r_6-1)))]).length) c5] hS19 K11) ?_ aN
      rintro _ w_13 ⟨rfl,hS20⟩
      refine ⟨(hS20.se [0]),?_⟩
      refine ra_done (by kernel_rfl) ?_
      exact ⟨B5,c5,(fc rfl (fc rfl fn_)),(hS20.sel [3,0,2,1] rfl rfl)⟩
     refine rC 19 3 rfl (yC [pt B 0,vi 14] K20 (Ak (Ac.mk c.code m2.at_ m2.seed) 14 B B1 c1 c.code.length _ rfl (hS14.inn [false,false,false,true] rfl [(true,0)] rfl) hc3)) ?_ aN
     rintro _ w_14 ⟨rfl,hd6⟩
     have hS21:=hS14.out [false,false,false,true] rfl hd6
     refine ⟨(hS21.se [0]),?_⟩
     refine rA [1,5] ?_
     refine ry 17 1 rfl (yl (aD b1) 1 V7 (.slice B3 r_1.Gates.length c3) K18 (hS21.c 2)) (hS21.se [0]) ?_ ?_
     ·skip
      refine rA [5] ?_
      refine rC 21 5 rfl (yC [pt B 0,vi 4] K20 (Ak (Ac.mk c.code m4.at_ m4.seed) 4 B B1 c1 c.code.length _ rfl (hS21.inn [false,false,false,true] rfl [(true,0)] rfl) hc4)) ?_ aN
      rintro _ w_15 ⟨rfl,hd7⟩
      have hS22:=hS21.out [false,false,false,true] rfl hd7
      refine ⟨(hS22.se [0]),?_⟩
      refine rq 6 22 rfl (hS22.se [0]) (fun w' hw'=>(yM r_5 1)) ?_
      refine rA [8] ?_
      refine rC 24 8 rfl (yC [pt B 0,vi 4] K20 (Ak (Ac.mk c.code m5.at_ m5.seed) 4 B B1 c1 c.code.length _ rfl (hS22.inn [false,false,false,true] rfl [(true,0)] rfl) hc5)) ?_ aN
      rintro _ w_16 ⟨rfl,hd8⟩
      have hS23:=hS22.out [false,false,false,true] rfl hd8
      have hQ2:=hS23.se [0]
      refine ⟨hQ2,?_⟩
      let V5:List Value:=[vi r_4,vi (i64.wrap (r_5-1)),vi (i64.wrap (r_6-1))]
      refine rq 9 25 rfl hQ2 (fun w' hw'=>(yM r_6 1))<|rq 10 26 (v:=.agg V5.toArray) rfl hQ2 (fun w' hw'=>(Y_buildS (zs:=[vi 0,vi 0,vi 0]) (vs:=[(0,vi r_4),(1,vi (i64.wrap (r_5-1))),(2,vi (i64.wrap (r_6-1)))]) (cs:=V5) K33 K10 rfl (mpc rfl (mpc rfl (mpc rfl mpn))) rfl)) ?_
      refine rA [11] ?_
      refine rS 27 11 rfl (Ys_bslice (s:=3) (len:=1) (vs:=[(0,.agg V5.toArray)]) (cs:=V5) (zs:=[vi 0,vi 0,vi 0]) (m:=3) hS23 K4 K3 K26 rfl (mpc rfl mpn) rfl rfl rfl (by kernel_rfl) (by kernel_rfl) rfl) ?_ aN
      rintro _ w_17 ⟨b3,rfl,hS24⟩
      have hS24:ST w0 (bl [O0]) _ [O2,⟨B3,59,(r_1.Gates.flatMap eN0),c3*3⟩,⟨aD b1,32,V7,2⟩,O1,⟨aD b3,59,([(Aa.mk r_4 (i64.wrap (r_5-1)) (i64.wrap (r_6-1)))].flatMap eN0),1*3⟩] [R3]:=hS24
      refine ⟨(hS24.se [0]),?_⟩
      refine rA [12] ?_
      refine rS 28 12 rfl (Ys_append (s:=3) (by':=24) (i:=1) (nn:=r_1.Gates.length) (c:=c3) (k:=1) (len:=(r_1.Gates++[(Aa.mk r_4 (i64.wrap (r_5-1)) (i64.wrap (r_6-1)))]).length) (B:=B3) (xs:=([(Aa.mk r_4 (i64.wrap (r_5-1)) (i64.wrap (r_6-1)))].flatMap eN0)) (cs':=((r_1.Gates++[(Aa.mk r_4 (i64.wrap (r_5-1)) (i64.wrap (r_6-1)))]).flatMap eN0)) hS24 K4 K3 K23 K10 rfl (by decide) rfl rfl rfl rfl (fm_lenn (l:=r_1.Gates) eN2 rfl) rfl (hS24.c 4) (fm_lenn (l:=[(Aa.mk r_4 (i64.wrap (r_5-1)) (i64.wrap (r_6-1)))]) eN2 rfl) (fm_one' (enc:=eN0) Al [(Aa.mk r_4 (i64.wrap (r_5-1)) (i64.wrap (r_6-1)))]) (by have:=hap; omega) (by have:=hap; simp only [maxLen]; omega) (fm_app _ _) (app_len (l:=r_1.Gates) (l':=[(Aa.mk r_4 (i64.wrap (r_5-1)) (i64.wrap (r_6-1)))]) rfl rfl)) ?_ aN
      rintro _ w_18 ⟨B5,c5,rfl,hS25⟩
      refine ⟨(hS25.se [0]),?_⟩
      refine rq 13 29 (v:=pt (aD b1) 1) rfl (hS25.se [0]) (fun w' hw'=>(yd (aD b1) 0 0 K17 K11)) ?_
      refine rA [14] ?_
      refine rZ 14 rfl (yS 2 1 (aD b1) 32 (.slice B5 ((r_1.Gates++[(Aa.mk r_4 (i64.wrap (r_5-1)) (i64.wrap (r_6-1)))]).length) c5) [.slice B5 ((r_1.Gates++[(Aa.mk r_4 (i64.wrap (r_5-1)) (i64.wrap (r_6-1)))]).length) c5] 1 [vi r_1.Qubits,.slice B5 ((r_1.Gates++[(Aa.mk r_4 (i64.wrap (r_5-1)) (i64.wrap (r_6-1)))]).length) c5] hS25 K11) ?_ aN
      rintro _ w_19 ⟨rfl,hS26⟩
      refine ⟨(hS26.se [0]),?_⟩
      refine ra_done (by kernel_rfl) ?_
      exact ⟨B5,c5,(fc rfl (fc rfl fn_)),(hS26.sel [3,0,2,1] rfl rfl)⟩
     refine rC 21 5 rfl (yC [pt B 0,vi 4] K20 (Ak (Ac.mk c.code m4.at_ m4.seed) 4 B B1 c1 c.code.length _ rfl (hS21.inn [false,false,false,true] rfl [(true,0)] rfl) hc4)) ?_ aN
     rintro _ w_20 ⟨rfl,hd9⟩
     have hS27:=hS21.out [false,false,false,true] rfl hd9
     have hQ3:=hS27.se [0]
     refine ⟨hQ3,?_⟩
     refine rq 6 22 rfl hQ3 (fun w' hw'=>(yM r_5 1)) ?_
     refine rA [1,8] ?_
     refine ry 17 1 rfl (yl (aD b1) 1 V7 (.slice B3 r_1.Gates.length c3) K18 (hS27.c 2)) hQ3 ?_ ?_
     ·skip
      refine rA [8] ?_
      refine rC 24 8 rfl (yC [pt B 0,vi 4] K20 (Ak (Ac.mk c.code m5.at_ m5.seed) 4 B B1 c1 c.code.length _ rfl (hS27.inn [false,false,false,true] rfl [(true,0)] rfl) hc5)) ?_ aN
      rintro _ w_21 ⟨rfl,hd10⟩
      have hS28:=hS27.out [false,false,false,true] rfl hd10
      have hQ4:=hS28.se [0]
      refine ⟨hQ4,?_⟩
      let V6:List Value:=[vi r_4,vi (i64.wrap (r_5-1)),vi (i64.wrap (r_6-1))]
      refine rq 9 25 rfl hQ4 (fun w' hw'=>(yM r_6 1))<|rq 10 26 (v:=.agg V6.toArray) rfl hQ4 (fun w' hw'=>(Y_buildS (zs:=[vi 0,vi 0,vi 0]) (vs:=[(0,vi r_4),(1,vi (i64.wrap (r_5-1))),(2,vi (i64.wrap (r_6-1)))]) (cs:=V6) K33 K10 rfl (mpc rfl (mpc rfl (mpc rfl mpn))) rfl)) ?_
      refine rA [11] ?_
      refine rS 27 11 rfl (Ys_bslice (s:=3) (len:=1) (vs:=[(0,.agg V6.toArray)]) (cs:=V6) (zs:=[vi 0,vi 0,vi 0]) (m:=3) hS28 K4 K3 K26 rfl (mpc rfl mpn) rfl rfl rfl (by kernel_rfl) (by kernel_rfl) rfl) ?_ aN
      rintro _ w_22 ⟨b3,rfl,hS29⟩
      refine ⟨(hS29.se [0]),?_⟩
      refine rA [12] ?_
      refine rS 28 12 rfl (Ys_append (s:=3) (by':=24) (i:=1) (nn:=r_1.Gates.length) (c:=c3) (k:=1) (len:=(r_1.Gates++[(Aa.mk r_4 (i64.wrap (r_5-1)) (i64.wrap (r_6-1)))]).length) (B:=B3) (xs:=([(Aa.mk r_4 (i64.wrap (r_5-1)) (i64.wrap (r_6-1)))].flatMap eN0)) (cs':=((r_1.Gates++[(Aa.mk r_4 (i64.wrap (r_5-1)) (i64.wrap (r_6-1)))]).flatMap eN0)) hS29 K4 K3 K23 K10 rfl (by decide) rfl rfl rfl rfl (fm_lenn (l:=r_1.Gates) eN2 rfl) rfl (hS29.c 4) (fm_lenn (l:=[(Aa.mk r_4 (i64.wrap (r_5-1)) (i64.wrap (r_6-1)))]) eN2 rfl) (fm_one' (enc:=eN0) Al [(Aa.mk r_4 (i64.wrap (r_5-1)) (i64.wrap (r_6-1)))]) (by have:=hap; omega) (by have:=hap; simp only [maxLen]; omega) (fm_app _ _) (app_len (l:=r_1.Gates) (l':=[(Aa.mk r_4 (i64.wrap (r_5-1)) (i64.wrap (r_6-1)))]) rfl rfl)) ?_ aN
      rintro _ w_23 ⟨B5,c5,rfl,hS30⟩
      have hS30:ST w0 (bl [O0]) _ [O2,⟨B5,59,((r_1.Gates++[(Aa.mk r_4 (i64.wrap (r_5-1)) (i64.wrap (r_6-1)))]).flatMap eN0),c5*3⟩,⟨aD b1,32,V7,2⟩,O1,⟨aD b3,59,([(Aa.mk r_4 (i64.wrap (r_5-1)) (i64.wrap (r_6-1)))].flatMap eN0),1*3⟩] [R3]:=hS30
      refine ⟨(hS30.se [0]),?_⟩
      refine rq 13 29 (v:=pt (aD b1) 1) rfl (hS30.se [0]) (fun w' hw'=>(yd (aD b1) 0 0 K17 K11)) ?_
      refine rA [14] ?_
      refine rZ 14 rfl (yS 2 1 (aD b1) 32 (.slice B5 ((r_1.Gates++[(Aa.mk r_4 (i64.wrap (r_5-1)) (i64.wrap (r_6-1)))]).length) c5) [.slice B5 ((r_1.Gates++[(Aa.mk r_4 (i64.wrap (r_5-1)) (i64.wrap (r_6-1)))]).length) c5] 1 [vi r_1.Qubits,.slice B5 ((r_1.Gates++[(Aa.mk r_4 (i64.wrap (r_5-1)) (i64.wrap (r_6-1)))]).length) c5] hS30 K11) ?_ aN
      rintro _ w_24 ⟨rfl,hS31⟩
      refine ⟨(hS31.se [0]),?_⟩
      refine ra_done (by kernel_rfl) ?_
      exact ⟨B5,c5,(fc rfl (fc rfl fn_)),(hS31.sel [3,0,2,1] rfl rfl)⟩
     refine rC 24 8 rfl (yC [pt B 0,vi 4] K20 (Ak (Ac.mk c.code m5.at_ m5.seed) 4 B B1 c1 c.code.length _ rfl (hS27.inn [false,false,false,true] rfl [(true,0)] rfl) hc5)) ?_ aN
     rintro _ w_25 ⟨rfl,hd11⟩
     have hS32:=hS27.out [false,false,false,true] rfl hd11
     have hQ5:=hS32.se [0]
     refine ⟨hQ5,?_⟩
     let V8:List Value:=[vi r_4,vi (i64.wrap (r_5-1)),vi (i64.wrap (r_6-1))]
     refine rq 9 25 rfl hQ5 (fun w' hw'=>(yM r_6 1))<|rq 10 26 (v:=.agg V8.toArray) rfl hQ5 (fun w' hw'=>(Y_buildS (zs:=[vi 0,vi 0,vi 0]) (vs:=[(0,vi r_4),(1,vi (i64.wrap (r_5-1))),(2,vi (i64.wrap (r_6-1)))]) (cs:=V8) K33 K10 rfl (mpc rfl (mpc rfl (mpc rfl mpn))) rfl)) ?_
     refine rA [1,11] ?_
     refine ry 17 1 rfl (yl (aD b1) 1 V7 (.slice B3 r_1.Gates.length c3) K18 (hS32.c 2)) hQ5 ?_ ?_
     ·skip
      refine rA [11] ?_
      refine rS 27 11 rfl (Ys_bslice (s:=3) (len:=1) (vs:=[(0,.agg V8.toArray)]) (cs:=V8) (zs:=[vi 0,vi 0,vi 0]) (m:=3) hS32 K4 K3 K26 rfl (mpc rfl mpn) rfl rfl rfl (by kernel_rfl) (by kernel_rfl) rfl) ?_ aN
      rintro _ w_26 ⟨b3,rfl,hS33⟩
      refine ⟨(hS33.se [0]),?_⟩
      refine rA [12] ?_
      refine rS 28 12 rfl (Ys_append (s:=3) (by':=24) (i:=1) (nn:=r_1.Gates.length) (c:=c3) (k:=1) (len:=(r_1.Gates++[(Aa.mk r_4 (i64.wrap (r_5-1)) (i64.wrap (r_6-1)))]).length) (B:=B3) (xs:=([(Aa.mk r_4 (i64.wrap (r_5-1)) (i64.wrap (r_6-1)))].flatMap eN0)) (cs':=((r_1.Gates++[(Aa.mk r_4 (i64.wrap (r_5-1)) (i64.wrap (r_6-1)))]).flatMap eN0)) hS33 K4 K3 K23 K10 rfl (by decide) rfl rfl rfl rfl (fm_lenn (l:=r_1.Gates) eN2 rfl) rfl (hS33.c 4) (fm_lenn (l:=[(Aa.mk r_4 (i64.wrap (r_5-1)) (i64.wrap (r_6-1)))]) eN2 rfl) (fm_one' (enc:=eN0) Al [(Aa.mk r_4 (i64.wrap (r_5-1)) (i64.wrap (r_6-1)))]) (by have:=hap; omega) (by have:=hap; simp only [maxLen]; omega) (fm_app _ _) (app_len (l:=r_1.Gates) (l':=[(Aa.mk r_4 (i64.wrap (r_5-1)) (i64.wrap (r_6-1)))]) rfl rfl)) ?_ aN
      rintro _ w_27 ⟨B5,c5,rfl,hS34⟩
      refine ⟨(hS34.se [0]),?_⟩
      refine rq 13 29 (v:=pt (aD b1) 1) rfl (hS34.se [0]) (fun w' hw'=>(yd (aD b1) 0 0 K17 K11)) ?_
      refine rA [14] ?_
      refine rZ 14 rfl (yS 2 1 (aD b1) 32 (.slice B5 ((r_1.Gates++[(Aa.mk r_4 (i64.wrap (r_5-1)) (i64.wrap (r_6-1)))]).length) c5) [.slice B5 ((r_1.Gates++[(Aa.mk r_4 (i64.wrap (r_5-1)) (i64.wrap (r_6-1)))]).length) c5] 1 [vi r_1.Qubits,.slice B5 ((r_1.Gates++[(Aa.mk r_4 (i64.wrap (r_5-1)) (i64.wrap (r_6-1)))]).length) c5] hS34 K11) ?_ aN
      rintro _ w_28 ⟨rfl,hS35⟩
      refine ⟨(hS35.se [0]),?_⟩
      refine ra_done (by kernel_rfl) ?_
      exact ⟨B5,c5,(fc rfl (fc rfl fn_)),(hS35.sel [3,0,2,1] rfl rfl)⟩
     refine rS 27 11 rfl (Ys_bslice (s:=3) (len:=1) (vs:=[(0,.agg V8.toArray)]) (cs:=V8) (zs:=[vi 0,vi 0,vi 0]) (m:=3) hS32 K4 K3 K26 rfl (mpc rfl mpn) rfl rfl rfl (by kernel_rfl) (by kernel_rfl) rfl) ?_ aN
     rintro _ w_29 ⟨b3,rfl,hS36⟩
     have hS36:ST w0 (bl [O0]) _ [O2,⟨B3,59,(r_1.Gates.flatMap eN0),c3*3⟩,⟨aD b1,32,V7,2⟩,O1,⟨aD b3,59,([(Aa.mk r_4 (i64.wrap (r_5-1)) (i64.wrap (r_6-1)))].flatMap eN0),1*3⟩] [R3]:=hS36
     refine ⟨(hS36.se [0]),?_⟩
     refine r1 17 1 rfl (yl (aD b1) 1 V7 (.slice B3 r_1.Gates.length c3) K18 (hS36.c 2)) (hS36.se [0]) ?_
     refine rA [12] ?_
     refine rS 28 12 rfl (Ys_append (s:=3) (by':=24) (i:=1) (nn:=r_1.Gates.length) (c:=c3) (k:=1) (len:=(r_1.Gates++[(Aa.mk r_4 (i64.wrap (r_5-1)) (i64.wrap (r_6-1)))]).length) (B:=B3) (xs:=([(Aa.mk r_4 (i64.wrap (r_5-1)) (i64.wrap (r_6-1)))].flatMap eN0)) (cs':=((r_1.Gates++[(Aa.mk r_4 (i64.wrap (r_5-1)) (i64.wrap (r_6-1)))]).flatMap eN0)) hS36 K4 K3 K23 K10 rfl (by decide) rfl rfl rfl rfl (fm_lenn (l:=r_1.Gates) eN2 rfl) rfl (hS36.c 4) (fm_lenn (l:=[(Aa.mk r_4 (i64.wrap (r_5-1)) (i64.wrap (r_6-1)))]) eN2 rfl) (fm_one' (enc:=eN0) Al [(Aa.mk r_4 (i64.wrap (r_5-1)) (i64.wrap (r_6-1)))]) (by have:=hap; omega) (by have:=hap; simp only [maxLen]; omega) (fm_app _ _) (app_len (l:=r_1.Gates) (l':=[(Aa.mk r_4 (i64.wrap (r_5-1)) (i64.wrap (r_6-1)))]) rfl rfl)) ?_ aN
     rintro _ w_30 ⟨B5,c5,rfl,hS37⟩
     refine ⟨(hS37.se [0]),?_⟩
     refine rq 13 29 (v:=pt (aD b1) 1) rfl (hS37.se [0]) (fun w' hw'=>(yd (aD b1) 0 0 K17 K11)) ?_
     refine rA [14] ?_
     refine rZ 14 rfl (yS 2 1 (aD b1) 32 (.slice B5 ((r_1.Gates++[(Aa.mk r_4 (i64.wrap (r_5-1)) (i64.wrap (r_6-1)))]).length) c5) [.slice B5 ((r_1.Gates++[(Aa.mk r_4 (i64.wrap (r_5-1)) (i64.wrap (r_6-1)))]).length) c5] 1 [vi r_1.Qubits,.slice B5 ((r_1.Gates++[(Aa.mk r_4 (i64.wrap (r_5-1)) (i64.wrap (r_6-1)))]).length) c5] hS37 K11) ?_ aN
     rintro _ w_31 ⟨rfl,hS38⟩
     refine ⟨(hS38.se [0]),?_⟩
     refine ra_done (by kernel_rfl) ?_
     exact ⟨B5,c5,(fc rfl (fc rfl fn_)),(hS38.sel [3,0,2,1] rfl rfl)⟩
    rintro f w ⟨B6,c6,hf1,hS13⟩
    exact ⟨m6.at_,m6.seed,r_1.Qubits,(r_1.Gates++[(Aa.mk r_4 (i64.wrap (r_5-1)) (i64.wrap (r_6-1)))]),B6,c6,(sI hF4),(hf1.a 2 0 (hf1.a 3 1 fn_)),(hS13.sel [0,1,2,3] rfl rfl)⟩
   ·skip
    have hF5:=cf' hF3 hb1
    refine cw_skip ?_
    exact ⟨m2.at_,m2.seed,r_1.Qubits,r_1.Gates,B3,c3,(sI hF5),(fc rfl (fc rfl fn_)),(hS6.sel [3,0,2,1] rfl rfl)⟩
 rintro f w ⟨at_,seed,Qubits,Gates,B4,c4,rfl,hf,hS5⟩
 refine cq (cr ?_)
 let V9:List Value:=[vi Qubits,.slice B4 Gates.length c4]
 refine sQ 30 (yb (aD b1) 0 V9 K12 K7 (hS5.c 2) rfl (hf.g 3 1)) ?_
 refine s0 (yT 1 2 (aD b) 32 (.agg V9.toArray) V9 0 hS5 K7 rfl (hf.g 2 0)) ?_
 rintro _ w_32 ⟨rfl,hS39⟩
 refine rn (ct_ ?_)
 obtain ⟨rfl,rfl⟩:=pr2 (sI hF1)
 exact ret1 Tryz.results87 (v1:=.agg V9.toArray) (resAt_cellA (B:=aD b) (i:=0) (cs:=V9) (vs:=V9) (hf.g 2 0) K12 K7 (hS39.c 1) rfl rfl) ⟨B4,c4,rfl,(hS39.sN [0,3])⟩

theorem L8 (c:Ac) (n1:Int) (B:Option Addr) (B1:Option Addr) (c1 n:Nat) (w0:World) (hn:c.code.length=n) (hS:ST w0 (bl [⟨B,74,[.slice B1 n c1,vi c.at_,.int .u64 c.seed],3⟩]) w0 [⟨B,74,[.slice B1 n c1,vi c.at_,.int .u64 c.seed],3⟩] [⟨B1,(c.code.flatMap enc_u8)⟩]) {r_:Ae} {m:Ac} (hF:D0 c n1=some (r_,m)) :
  CV Tryz.prog 88 #[pt B 0,vi n1] w0 (fun v w'=>∃ (B2:Option Addr) (c2:Nat),v=.agg #[vi r_.Qubits,.slice B2 r_.Gates.length c2]∧ST w0 (bl [⟨B,74,[.slice B1 n c1,vi c.at_,.int .u64 c.seed],3⟩]) w' [⟨B,74,[.slice B1 n c1,vi m.at_,.int .u64 m.seed],3⟩,⟨B2,59,(r_.Gates.flatMap eN0),c2*3⟩] []):=by
 subst hn
 unfold D0 at hF
 refine cv_of_cw 40 Tryz.func88 rfl Tryz.ntmps88 rfl ?_
 refine cq (cr ?_)
 let V4:List Value:=[vi 0,.slice none 0 0]
 refine sS 4 (yN V4 2 hS K21) ?_
 rintro _ w_ ⟨b,rfl,hS1⟩
 refine rn (cq (cr ?_))
 refine sQ 8 (ym (vi n1))<|sQ 9 (Y_buildS (zs:=V4) (vs:=[(0,vi n1)]) (cs:=[vi n1,.slice none 0 0]) K46 K21 rfl (mpc rfl mpn) rfl) ?_
 refine sS 5 (yN V4 2 hS1 K21) ?_
 rintro _ w_1 ⟨b1,rfl,hS2⟩
 refine s0 (yT 2 2 (aD b1) 32 (.agg #[vi n1,.slice none 0 0]) [vi n1,.slice none 0 0] 0 hS2 K7) ?_
 rintro _ w_2 ⟨rfl,hS3⟩
 refine rn (cq (cq (cr ?_)))
 refine sQ 10 (ym (pt B 0)) ?_
 obtain ⟨⟨r_1,m1⟩,hc,hF⟩:=bI hF
 refine sc 11 rfl rfl (yC [pt B 0,vi 9] K20 (Ak c 9 B B1 c1 c.code.length _ rfl (hS3.inn [true,false,false] rfl [(true,0)] rfl) hc)) ?_
 rintro _ w_3 ⟨rfl,hd⟩
 have hS4:=hS3.out [true,false,false] rfl hd
 refine sQ 6 (yg (vi r_1)) (rn ?_)
 obtain ⟨z,hz,hF1⟩:=bI hF
 have hS6:=hS4.addNil 59
 refine cw_block ?_
 let O0:Ob:=⟨B,74,[.slice B1 c.code.length c1,vi c.at_,.int .u64 c.seed],3⟩
 refine cw_loop (fun k f w=>∃ (at_:Int) (seed:Int) (Gates:List Aa) (k_:Int) (B3:Option Addr) (c3:Nat),FF f [(0,pt B 0),(1,vi n1),(4,pt (aD b) 0),(5,pt (aD b1) 0),(6,vi k_)]∧ST w0 (bl [O0]) w [⟨B,74,[.slice B1 c.code.length c1,vi at_,.int .u64 seed],3⟩,⟨aD b,32,V4,2⟩,⟨aD b1,32,[vi n1,.slice B3 Gates.length c3],2⟩,⟨B3,59,(Gates.flatMap eN0),c3*3⟩] [⟨B1,(c.code.flatMap enc_u8)⟩]∧whX (Fa n1 c) k (at_,seed,Gates,k_)=some z) fuel ⟨m1.at_,m1.seed,[],r_1,none,0,(fc rfl (fc rfl (fc rfl (fc rfl (fc rfl fn_))))),(hS6.sel [2,0,1,3] rfl rfl),hz⟩ ?_
 rintro K5 f w ⟨at_,seed,Gates,k_,B3,c3,hf,hS5,hL⟩
 obtain ⟨K19,y,rfl,hb,hL1⟩:=whX_go hL
 unfold Fa at hb
 refine cq (cq (cr ?_))
 refine sQ 12 (ym (vi k_) rfl (hf.g 6 4))<|sQ 13 (Y_gt (k:=.i64) (a:=k_) (b:=0) rfl rfl rfl)<|sQ 14 (ym (.bool (decide (0<k_)))) ?_
 refine sgq 15 (B:=(decide (0<k_))) rfl rfl (uT_ 14) (fun hg=>(ym (vi n1) rfl (hf.g 1 1))) ?_
 refine sgq 16 (B:=(decide (0<k_))) rfl rfl (uT_ 14) (fun hg1=>(Y_gt (k:=.i64) (a:=n1) (b:=1) rfl (gv_of (v:=vi n1) hg1) rfl)) ?_
 refine sQ 17 (Y_and (b:=(decide (0<k_))) (z:=(decide (1<n1))) rfl rfl rfl rfl) (rn ?_)
 refine cw_cond (b:=((decide (0<k_))&&(decide (1<n1)))) rfl (fun hb1=>?_) (fun hb1=>?_)
 ·skip
  have hF2:=ct hb hb1
  refine cw_skip (cq (cw_block (cq (cr ?_))))
  refine sQ 20 (ym (pt B 0) rfl (hf.g 0 0))<|sQ 21 (ym (vi n1) rfl (hf.g 1 1)) ?_
  obtain ⟨⟨r_2,m2⟩,hc1,hF2⟩:=bI hF2
  refine sc 22 rfl rfl (yC [pt B 0,vi n1] K20 (Ak (Ac.mk c.code at_ seed) n1 B B1 c1 c.code.length _ rfl (hS5.inn [true,false,false,false] rfl [(true,0)] rfl) hc1)) ?_
  rintro _ w_4 ⟨rfl,hd1⟩
  have hS7:=hS5.out [true,false,false,false] rfl hd1
  refine sQ 7 (yg (vi r_2)) (rn ?_)
  obtain ⟨⟨r_3,m3⟩,hc2,hF2⟩:=bI hF2
  obtain ⟨hne,hF2⟩:=chk_inv hF2
  obtain ⟨hap,hF2⟩:=chk_inv hF2
  refine cw_mid (fun f w=>∃ (B5:Option Addr) (c5:Nat),FF f [(0,pt B 0),(1,vi n1),(4,pt (aD b) 0),(5,pt (aD b1) 0),(6,vi k_)]∧ST w0 (bl [O0]) w [⟨B,74,[.slice B1 c.code.length c1,vi m3.at_,.int .u64 m3.seed],3⟩,⟨aD b,32,V4,2⟩,⟨aD b1,32,[vi n1,.slice B5 ((Gates++[(Aa.mk 9 r_2 (Int.tmod (i64.wrap ((i64.wrap (r_2+1))+r_3)) n1))]).length) c5],2⟩,⟨B5,59,((Gates++[(Aa.mk 9 r_2 (Int.tmod (i64.wrap ((i64.wrap (r_2+1))+r_3)) n1))]).flatMap eN0),c5*3⟩] [⟨B1,(c.code.flatMap enc_u8)⟩]) ?_ ?_
  ·skip
   refine ra_start (hS7.se [0]).fn (by kernel_rfl) ?_
   have hS10:=hS7.drew
   have hQ0:=hS10.se [0]
   refine rq 0 23 (v:=pt (aD b1) 1) rfl hQ0 (fun w' hw'=>(yd (aD b1) 0 0 K17 K11 rfl (hf.g 5 3)))<|rq 2 25 rfl hQ0 (fun w' hw'=>(ym (vi r_2)))<|rq 3 26 rfl hQ0 (fun w' hw'=>(ym (vi r_2)))<|rq 4 27 rfl hQ0 (fun w' hw'=>(yP r_2 1))<|rq 5 28 rfl hQ0 (fun w' hw'=>(ym (pt B 0) rfl (hf.g 0 0))) ?_
   refine rq 6 29 rfl hQ0 (fun w' hw'=>(ym (vi n1) rfl (hf.g 1 1)))<|rq 7 30 rfl hQ0 (fun w' hw'=>(yM n1 1))<|rq 10 33 rfl hQ0 (fun w' hw'=>(ym (vi n1) rfl (hf.g 1 1))) ?_
   refine rA [1,8] ?_
   refine ry 24 1 rfl (yl (aD b1) 1 [vi n1,.slice B3 Gates.length c3] (.slice B3 Gates.length c3) K18 (hS10.c 1)) hQ0 ?_ ?_
   ·skip
    refine rA [8] ?_
    refine rC 31 8 rfl (yC [pt B 0,vi (i64.wrap (n1-1))] K20 (Ak (Ac.mk c.code m2.at_ m2.seed) (i64.wrap (n1-1)) B B1 c1 c.code.length _ rfl (hS10.inn [false,false,false,true] rfl [(true,0)] rfl) hc2)) ?_ aN
    rintro _ w_5 ⟨rfl,hd2⟩
    have hS11:=hS10.out [false,false,false,true] rfl hd2
    have hQ1:=hS11.se [0]
    refine ⟨hQ1,?_⟩
    let V1:List Value:=[vi 9,vi r_2,vi (Int.tmod (i64.wrap ((i64.wrap (r_2+1))+r_3)) n1)]
    refine rq 9 32 rfl hQ1 (fun w' hw'=>(yP (i64.wrap (r_2+1)) r_3))<|rq 11 34 (v:=vi (Int.tmod (i64.wrap ((i64.wrap (r_2+1))+r_3)) n1)) rfl hQ1 (fun w' hw'=>(Y_rem (k:=.i64) (a:=(i64.wrap ((i64.wrap (r_2+1))+r_3))) (b:=n1) rfl rfl rfl hne))<|rq 12 35 (v:=.agg V1.toArray) rfl hQ1 (fun w' hw'=>(Y_buildS (zs:=[vi 0,vi 0,vi 0]) (vs:=[(0,vi 9),(1,vi r_2),(2,vi (Int.tmod (i64.wrap ((i64.wrap (r_2+1))+r_3)) n1))]) (cs:=V1) K33 K10 rfl (mpc rfl (mpc rfl (mpc rfl mpn))) rfl)) ?_
    refine rA [13] ?_
    refine rS 36 13 rfl (Ys_bslice (s:=3) (len:=1) (vs:=[(0,.agg V1.toArray)]) (cs:=V1) (zs:=[vi 0,vi 0,vi 0]) (m:=3) hS11 K4 K3 K26 rfl (mpc rfl mpn) rfl rfl rfl (by kernel_rfl) (by kernel_rfl) rfl) ?_ aN
    rintro _ w_6 ⟨b2,rfl,hS12⟩
    refine ⟨(hS12.se [0]),?_⟩
    refine rA [14] ?_
    refine rS 37 14 rfl (Ys_append (s:=3) (by':=24) (i:=2) (nn:=Gates.length) (c:=c3) (k:=1) (len:=(Gates++[(Aa.mk 9 r_2 (Int.tmod (i64.wrap ((i64.wrap (r_2+1))+r_3)) n1))]).length) (B:=B3) (xs:=([(Aa.mk 9 r_2 (Int.tmod (i64.wrap ((i64.wrap (r_2+1))+r_3)) n1))].flatMap eN0)) (cs':=((Gates++[(Aa.mk 9 r_2 (Int.tmod (i64.wrap ((i64.wrap (r_2+1))+r_3)) n1))]).flatMap eN0)) hS12 K4 K3 K23 K10 rfl (by decide) rfl rfl rfl rfl (fm_lenn (l:=Gates) eN2 rfl) rfl (hS12.c 4) (fm_lenn (l:=[(Aa.mk 9 r_2 (Int.tmod (i64.wrap ((i64.wrap (r_2+1))+r_3)) n1))]) eN2 rfl) (fm_one' (enc:=eN0) Al [(Aa.mk 9 r_2 (Int.tmod (i64.wrap ((i64.wrap (r_2+1))+r_3)) n1))]) (by have:=hap; omega) (by have:=hap; simp only [maxLen]; omega) (fm_app _ _) (app_len (l:=Gates) (l':=[(Aa.mk 9 r_2 (Int.tmod (i64.wrap ((i64.wrap (r_2+1))+r_3)) n1))]) rfl rfl)) ?_ aN
    rintro _ w_7 ⟨B4,c4,rfl,hS13⟩
    refine ⟨(hS13.se [0]),?_⟩
    refine rq 15 38 (v:=pt (aD b1) 1) rfl (hS13.se [0]) (fun w' hw'=>(yd (aD b1) 0 0 K17 K11 rfl (hf.g 5 3))) ?_
    refine rA [16] ?_
    refine rZ 16 rfl (yS 1 1 (aD b1) 32 (.slice B4 ((Gates++[(Aa.mk 9 r_2 (Int.tmod (i64.wrap ((i64.wrap (r_2+1))+r_3)) n1))]).length) c4) [.slice B4 ((Gates++[(Aa.mk 9 r_2 (Int.tmod (i64.wrap ((i64.wrap (r_2+1))+r_3)) n1))]).length) c4] 1 [vi n1,.slice B4 ((Gates++[(Aa.mk 9 r_2 (Int.tmod (i64.wrap ((i64.wrap (r_2+1))+r_3)) n1))]).length) c4] hS13 K11) ?_ aN
    rintro _ w_8 ⟨rfl,hS14⟩
    refine ⟨(hS14.se [0]),?_⟩
    refine ra_done (by kernel_rfl) ?_
    exact ⟨B4,c4,(hf.a 0 0 (hf.a 1 1 (hf.a 4 2 (hf.a 5 3 (hf.a 6 4 fn_))))),(hS14.sel [3,0,1,2] rfl rfl)⟩
   refine rC 31 8 rfl (yC [pt B 0,vi (i64.wrap (n1-1))] K20 (Ak (Ac.mk c.code m2.at_ m2.seed) (i64.wrap (n1-1)) B B1 c1 c.code.length _ rfl (hS10.inn [false,false,false,true] rfl [(true,0)] rfl) hc2)) ?_ aN
   rintro _ w_9 ⟨rfl,hd3⟩
   have hS15:=hS10.out [false,false,false,true] rfl hd3
   have hQ2:=hS15.se [0]
   refine ⟨hQ2,?_⟩
   let V2:List Value:=[vi 9,vi r_2,vi (Int.tmod (i64.wrap ((i64.wrap (r_2+1))+r_3)) n1)]
   refine rq 9 32 rfl hQ2 (fun w' hw'=>(yP (i64.wrap (r_2+1)) r_3))<|rq 11 34 (v:=vi (Int.tmod (i64.wrap ((i64.wrap (r_2+1))+r_3)) n1)) rfl hQ2 (fun w' hw'=>(Y_rem (k:=.i64) (a:=(i64.wrap ((i64.wrap (r_2+1))+r_3))) (b:=n1) rfl rfl rfl hne))<|rq 12 35 (v:=.agg V2.toArray) rfl hQ2 (fun w' hw'=>(Y_buildS (zs:=[vi 0,vi 0,vi 0]) (vs:=[(0,vi 9),(1,vi r_2),(2,vi (Int.tmod (i64.wrap ((i64.wrap (r_2+1))+r_3)) n1))]) (cs:=V2) K33 K10 rfl (mpc rfl (mpc rfl (mpc rfl mpn))) rfl)) ?_
   refine rA [1,13] ?_
   refine ry 24 1 rfl (yl (aD b1) 1 [vi n1,.slice B3 Gates.length c3] (.slice B3 Gates.length c3) K18 (hS15.c 1)) hQ2 ?_ ?_
   ·skip
    refine rA [13] ?_
    refine rS 36 13 rfl (Ys_bslice (s:=3) (len:=1) (vs:=[(0,.agg V2.toArray)]) (cs:=V2) (zs:=[vi 0,vi 0,vi 0]) (m:=3) hS15 K4 K3 K26 rfl (mpc rfl mpn) rfl rfl rfl (by kernel_rfl) (by kernel_rfl) rfl) ?_ aN
    rintro _ w_10 ⟨b2,rfl,hS16⟩
    refine ⟨(hS16.se [0]),?_⟩
    refine rA [14] ?_
    refine rS 37 14 rfl (Ys_append (s:=3) (by':=24) (i:=2) (nn:=Gates.length) (c:=c3) (k:=1) (len:=(Gates++[(Aa.mk 9 r_2 (Int.tmod (i64.wrap ((i64.wrap (r_2+1))+r_3)) n1))]).length) (B:=B3) (xs:=([(Aa.mk 9 r_2 (Int.tmod (i64.wrap ((i64.wrap (r_2+1))+r_3)) n1))].flatMap eN0)) (cs':=((Gates++[(Aa.mk 9 r_2 (Int.tmod (i64.wrap ((i64.wrap (r_2+1))+r_3)) n1))]).flatMap eN0)) hS16 K4 K3 K23 K10 rfl (by decide) rfl rfl rfl rfl (fm_lenn (l:=Gates) eN2 rfl) rfl (hS16.c 4) (fm_lenn (l:=[(Aa.mk 9 r_2 (Int.tmod (i64.wrap ((i64.wrap (r_2+1))+r_3)) n1))]) eN2 rfl) (fm_one' (enc:=eN0) Al [(Aa.mk 9 r_2 (Int.tmod (i64.wrap ((i64.wrap (r_2+1))+r_3)) n1))]) (by have:=hap; omega) (by have:=hap; simp only [maxLen]; omega) (fm_app _ _) (app_len (l:=Gates) (l':=[(Aa.mk 9 r_2 (Int.tmod (i64.wrap ((i64.wrap (r_2+1))+r_3)) n1))]) rfl rfl)) ?_ aN
    rintro _ w_11 ⟨B4,c4,rfl,hS17⟩
    refine ⟨(hS17.se [0]),?_⟩
    refine rq 15 38 (v:=pt (aD b1) 1) rfl (hS17.se [0]) (fun w' hw'=>(yd (aD b1) 0 0 K17 K11 rfl (hf.g 5 3))) ?_
    refine rA [16] ?_
    refine rZ 16 rfl (yS 1 1 (aD b1) 32 (.slice B4 ((Gates++[(Aa.mk 9 r_2 (Int.tmod (i64.wrap ((i64.wrap (r_2+1))+r_3)) n1))]).length) c4) [.slice B4 ((Gates++[(Aa.mk 9 r_2 (Int.tmod (i64.wrap ((i64.wrap (r_2+1))+r_3)) n1))]).length) c4] 1 [vi n1,.slice B4 ((Gates++[(Aa.mk 9 r_2 (Int.tmod (i64.wrap ((i64.wrap (r_2+1))+r_3)) n1))]).length) c4] hS17 K11) ?_ aN
    rintro _ w_12 ⟨rfl,hS18⟩
    refine ⟨(hS18.se [0]),?_⟩
    refine ra_done (by kernel_rfl) ?_
    exact ⟨B4,c4,(hf.a 0 0 (hf.a 1 1 (hf.a 4 2 (hf.a 5 3 (hf.a 6 4 fn_))))),(hS18.sel [3,0,1,2] rfl rfl)⟩
   refine rS 36 13 rfl (Ys_bslice (s:=3) (len:=1) (vs:=[(0,.agg V2.toArray)]) (cs:=V2) (zs:=[vi 0,vi 0,vi 0]) (m:=3) hS15 K4 K3 K26 rfl (mpc rfl mpn) rfl rfl rfl (by kernel_rfl) (by kernel_rfl) rfl) ?_ aN
   rintro _ w_13 ⟨b2,rfl,hS19⟩
   refine ⟨(hS19.se [0]),?_⟩
   refine r1 24 1 rfl (yl (aD b1) 1 [vi n1,.slice B3 Gates.length c3] (.slice B3 Gates.length c3) K18 (hS19.c 1)) (hS19.se [0]) ?_
   refine rA [14] ?_
   refine rS 37 14 rfl (Ys_append (s:=3) (by':=24) (i:=2) (nn:=Gates.length) (c:=c3) (k:=1) (len:=(Gates++[(Aa.mk 9 r_2 (Int.tmod (i64.wrap ((i64.wrap (r_2+1))+r_3)) n1))]).length) (B:=B3) (xs:=([(Aa.mk 9 r_2 (Int.tmod (i64.wrap ((i64.wrap (r_2+1))+r_3)) n1))].flatMap eN0)) (cs':=((Gates++[(Aa.mk 9 r_2 (Int.tmod (i64.wrap ((i64.wrap (r_2+1))+r_3)) n1))]).flatMap eN0)) hS19 K4 K3 K23 K10 rfl (by decide) rfl rfl rfl rfl (fm_lenn (l:=Gates) eN2 rfl) rfl (hS19.c 4) (fm_lenn (l:=[(Aa.mk 9 r_2 (Int.tmod (i64.wrap ((i64.wrap (r_2+1))+r_3)) n1))]) eN2 rfl) (fm_one' (enc:=eN0) Al [(Aa.mk 9 r_2 (Int.tmod (i64.wrap ((i64.wrap (r_2+1))+r_3)) n1))]) (by have:=hap; omega) (by have:=hap; simp only [maxLen]; omega) (fm_app _ _) (app_len (l:=Gates) (l':=[(Aa.mk 9 r_2 (Int.tmod (i64.wrap ((i64.wrap (r_2+1))+r_3)) n1))]) rfl rfl)) ?_ aN
   rintro _ w_14 ⟨B4,c4,rfl,hS20⟩
   refine ⟨(hS20.se [0]),?_⟩
   refine rq 15 38 (v:=pt (aD b1) 1) rfl (hS20.se [0]) (fun w' hw'=>(yd (aD b1) 0 0 K17 K11 rfl (hf.g 5 3))) ?_
   refine rA [16] ?_
   refine rZ 16 rfl (yS 1 1 (aD b1) 32 (.slice B4 ((Gates++[(Aa.mk 9 r_2 (Int.tmod (i64.wrap ((i64.wrap (r_2+1))+r_3)) n1))]).length) c4) [.slice B4 ((Gates++[(Aa.mk 9 r_2 (Int.tmod (i64.wrap ((i64.wrap (r_2+1))+r_3)) n1))]).length) c4] 1 [vi n1,.slice B4 ((Gates++[(Aa.mk 9 r_2 (Int.tmod (i64.wrap ((i64.wrap (r_2+1))+r_3)) n1))]).length) c4] hS20 K11) ?_ aN
   rintro _ w_15 ⟨rfl,hS21⟩
   refine ⟨(hS21.se [0]),?_⟩
   refine ra_done (by kernel_rfl) ?_
   exact ⟨B4,c4,(hf.a 0 0 (hf.a 1 1 (hf.a 4 2 (hf.a 5 3 (hf.a 6 4 fn_))))),(hS21.sel [3,0,1,2] rfl rfl)⟩
  rintro f w ⟨B5,c5,hf1,hS9⟩
  refine cr ?_
  refine sQ 18 (ym (vi k_) rfl (hf1.g 6 4))<|sQ 19 (yM k_ 1)<|sQ 6 (yg (vi (i64.wrap (k_-1)))) (rn ?_)
  obtain rfl:=sI hF2
  exact ⟨K19,Nat.lt_succ_self _,m3.at_,m3.seed,(Gates++[(Aa.mk 9 r_2 (Int.tmod (i64.wrap ((i64.wrap (r_2+1))+r_3)) n1))]),(i64.wrap (k_-1)),B5,c5,(hf1.a 0 0 (hf1.a 1 1 (hf1.a 4 2 (hf1.a 5 3 (fc rfl fn_))))),(hS9.sel [0,1,2,3] rfl rfl),hL1⟩
 ·skip
  have hF3:=cf' hb hb1
  refine cw_exit rfl ?_
  obtain rfl:=sI hF3
  obtain rfl:=sI hL1
  refine cq (cr ?_)
  let V3:List Value:=[vi n1,.slice B3 Gates.length c3]
  refine sQ 39 (yb (aD b1) 0 V3 K12 K7 (hS5.c 2) rfl (hf.g 5 3)) ?_
  refine s0 (yT 1 2 (aD b) 32 (.agg V3.toArray) V3 0 hS5 K7 rfl (hf.g 4 2)) ?_
  rintro _ w_16 ⟨rfl,hS22⟩
  refine rn (ct_ ?_)
  obtain ⟨rfl,rfl⟩:=pr2 (sI hF1)
  exact ret1 Tryz.results88 (v1:=.agg V3.toArray) (resAt_cellA (B:=aD b) (i:=0) (cs:=V3) (vs:=V3) (hf.g 4 2) K12 K7 (hS22.c 1) rfl rfl) ⟨B3,c3,rfl,(hS22.sN [0,3])⟩

theorem LO (c:Ac) (B:Option Addr) (B1:Option Addr) (c1 n:Nat) (w0:World) (hn:c.code.length=n) (hS:ST w0 (bl [⟨B,74,[.slice B1 n c1,vi c.at_,.int .u64 c.seed],3⟩]) w0 [⟨B,74,[.slice B1 n c1,vi c.at_,.int .u64 c.seed],3⟩] [⟨B1,(c.code.flatMap enc_u8)⟩]) {r_:Ae} {m:Ac} (hF:DK c=some (r_,m)) :
  CV Tryz.prog 35 #[pt B 0] w0 (fun v w'=>∃ (B2:Option Addr) (c2:Nat),v=.agg #[vi r_.Qubits,.slice B2 r_.Gates.length c2]∧ST w0 (bl [⟨B,74,[.slice B1 n c1,vi c.at_,.int .u64 c.seed],3⟩]) w' [⟨B,74,[.slice B1 n c1,vi m.at_,.int .u64 m.seed],3⟩,⟨B2,59,(r_.Gates.flatMap eN0),c2*3⟩] []):=by
 subst hn
 unfold DK at hF
 refine cv_of_cw 12 Tryz.func35 rfl Tryz.ntmps35 rfl ?_
 refine cq (cr ?_)
 refine sS 2 (yN [vi 0,.slice none 0 0] 2 hS K21) ?_
 rintro _ w_ ⟨b,rfl,hS1⟩
 refine rn (cq (cq (cr ?_)))
 refine sQ 3 (ym (pt B 0)) ?_
 obtain ⟨⟨r_1,m1⟩,hc,hF⟩:=bI hF
 refine sc 4 rfl rfl (yC [pt B 0,vi 10] Hc (GN c 10 B B1 c1 c.code.length _ rfl (hS1.inn [true,false] rfl [(true,0)] rfl) hc)) ?_
 rintro _ w_1 ⟨rfl,hd⟩
 have hS2:=hS1.out [true,false] rfl hd
 refine rn ?_
 refine cw_cond (b:=r_1) rfl (fun hb=>?_) (fun hb=>?_)
 ·skip
  have hF1:=ct hF hb
  refine cq (cr ?_)
  refine sQ 5 (ym (pt B 0)) ?_
  obtain ⟨⟨r_2,m2⟩,hc1,hF1⟩:=bI hF1
  refine sc 6 rfl rfl (yC [pt B 0] OU (M8 (Ac.mk c.code m1.at_ m1.seed) B B1 c1 c.code.length _ rfl (hS2.inn [false,true] rfl [(true,0)] rfl) hc1)) ?_
  rintro _ w_2 ⟨B3,c3,rfl,hd1⟩
  have hS3:=hS2.out [false,true] rfl hd1
  let V0:List Value:=[vi r_2.Qubits,.slice B3 r_2.Gates.length c3]
  refine s0 (yT 0 2 (aD b) 32 (.agg V0.toArray) V0 0 hS3 K7) ?_
  rintro _ w_3 ⟨rfl,hS4⟩
  refine rn (ct_ ?_)
  obtain ⟨rfl,rfl⟩:=pr2 (sI hF1)
  exact ret1 Tryz.results35 (v1:=.agg V0.toArray) (resAt_cellA (B:=aD b) (i:=0) (cs:=V0) (vs:=V0) rfl K12 K7 (hS4.c 0) rfl rfl) ⟨B3,c3,rfl,(hS4.sN [1,2])⟩
 ·skip
  have hF2:=cf' hF hb
  refine cw_skip (cq (cr ?_))
  refine sQ 7 (ym (pt B 0))<|sQ 8 (ym (pt B 0)) ?_
  obtain ⟨⟨r_3,m3⟩,hc2,hF2⟩:=bI hF2
  refine sc 9 rfl rfl (yC [pt B 0,vi 5] K20 (Ak (Ac.mk c.code m1.at_ m1.seed) 5 B B1 c1 c.code.length _ rfl (hS2.inn [false,true] rfl [(true,0)] rfl) hc2)) ?_
  rintro _ w_4 ⟨rfl,hd2⟩
  have hS5:=hS2.out [false,true] rfl hd2
  refine sQ 10 (yP 1 r_3) ?_
  obtain ⟨⟨r_4,m4⟩,hc3,hF2⟩:=bI hF2
  refine sc 11 rfl rfl (yC [pt B 0,vi (i64.wrap (1+r_3))] M1 (L8 (Ac.mk c.code m3.at_ m3.seed) (i64.wrap (1+r_3)) B B1 c1 c.code.length _ rfl (hS5.inn [false,true] rfl [(true,0)] rfl) hc3)) ?_
  rintro _ w_5 ⟨B4,c4,rfl,hd3⟩
  have hS6:=hS5.out [false,true] rfl hd3
  let V1:List Value:=[vi r_4.Qubits,.slice B4 r_4.Gates.length c4]
  refine s0 (yT 0 2 (aD b) 32 (.agg V1.toArray) V1 0 hS6 K7) ?_
  rintro _ w_6 ⟨rfl,hS7⟩
  refine rn (ct_ ?_)
  obtain ⟨rfl,rfl⟩:=pr2 (sI hF2)
  exact ret1 Tryz.results35 (v1:=.agg V1.toArray) (resAt_cellA (B:=aD b) (i:=0) (cs:=V1) (vs:=V1) rfl K12 K7 (hS7.c 0) rfl rfl) ⟨B4,c4,rfl,(hS7.sN [1,2])⟩

theorem Nf (c:Ae) (lo:Int) (hi:Int) (B:Option Addr) (c1 n:Nat) (w0:World) (hn:c.Gates.length=n) (hS:ST w0 [] w0 [] [⟨B,(c.Gates.flatMap eN0)⟩]) {r_:Int} (hF:D7 c lo hi=some r_) :
  CV Tryz.prog 90 #[.agg #[vi c.Qubits,.slice B n c1],vi lo,vi hi] w0 (fun v w'=>v=vi r_∧ST w0 [] w' [] []):=by
 subst hn
 unfold D7 at hF
 refine cv_of_cw 26 Tryz.func90 rfl Tryz.ntmps90 rfl ?_
 refine cq (cr ?_)
 let V0:List Value:=[vi c.Qubits,.slice B c.Gates.length c1]
 refine sS 3 (yB 32 (.agg V0.toArray) V0 2 hS) ?_
 rintro _ w_ ⟨b,rfl,hS1⟩
 refine sQ 6 (yg (vi 0)) (rn (cq (cr ?_)))
 refine sQ 7 (yg (vi 0)) (rn (cq (cq (cr ?_))))
 refine sQ 10 (yd (aD b) 0 0 K17 K11)<|sQ 11 (yl (aD b) 1 V0 (.slice B c.Gates.length c1) K18 (hS1.c 0))<|sQ 12 (Y_len (B:=B) (m:=c.Gates.length) (c:=c1) K4 rfl rfl)<|sQ 13 (ym (vi 0)) (rn ?_)
 obtain ⟨hN,hF⟩:=chk_inv hF
 obtain ⟨z,hz,hF1⟩:=bI hF
 refine cw_block ?_
 refine cw_loop (fun k f w=>∃ (i:Nat) (n1:Int),FF f [(1,vi lo),(2,vi hi),(7,vi n1),(11,.slice B c.Gates.length c1),(12,vi (c.Gates.length:Int)),(13,vi (i:Int))]∧ST w0 [] w [] [⟨B,(c.Gates.flatMap eN0)⟩]∧i+k=c.Gates.length∧forN (Fe c lo hi) k i n1=some z) c.Gates.length ⟨0,0,(fc rfl (fc rfl (fc rfl (fc rfl (fc rfl (fc rfl fn_)))))),(hS1.sel [] rfl rfl),Nat.zero_add _,hz⟩ ?_
 rintro k_ f w ⟨i,n1,hf,hS2,hik,hL⟩
 refine cq (cr ?_)
 refine sQ 14 (yL (i:Int) (c.Gates.length:Int) rfl (hf.g 13 5) (hf.g 12 4)) (rn (cq ?_))
 refine cw_cond (b:=(decide ((i:Int)<(c.Gates.length:Int)))) rfl (fun hlt=>?_) (fun hlt=>?_)
 ·skip
  have hlt1:i<c.Gates.length:=by have h:=of_decide_eq_true hlt; omega
  obtain ⟨K5,rfl⟩:∃ k2,k_=k2+1:=⟨k_-1,by omega⟩
  obtain ⟨y,hb,hL1⟩:=forN_go hL
  unfold Fe at hb
  refine cw_skip (cq ?_)
  obtain ⟨z1,hz1,hF2⟩:=bI hb
  refine cw_mid (fun f w=>∃ (n2:Int),n2=z1∧FF f [(1,vi lo),(2,vi hi),(7,vi n2),(11,.slice B c.Gates.length c1),(12,vi (c.Gates.length:Int)),(13,vi (i:Int))]∧ST w0 [] w [] [⟨B,(c.Gates.flatMap eN0)⟩]) ?_ ?_
  ·skip
   refine cw_block (cq (cr ?_))
   obtain ⟨x,hx,hz1⟩:=bI hz1
   let V1:List Value:=[vi x.Kind,vi x.A,vi x.B]
   refine sQ 15 (yI B (i:Int) K4 K3 (gi_isSome eN2 rfl (hS2.rf (i:=0) rfl) hx) (getI_nn hx) (getI_ltI hx rfl) rfl (hf.g 11 3) (hf.g 13 5))<|sQ 16 (ya B ((i:Int).toNat*3) (c.Gates.flatMap eN0) V1 K30 K3 (hS2.rf (i:=0) rfl) rfl rfl (eN2 x) (gi_seg eN2 hx)) ?_
   refine sS 9 (yN [vi 0,vi 0,vi 0] 3 hS2 K10) ?_
   rintro _ w_1 ⟨b1,rfl,hS4⟩
   refine s0 (yT 0 3 (aD b1) 59 (.agg V1.toArray) V1 0 hS4 K3) ?_
   rintro _ w_2 ⟨rfl,hS5⟩
   refine rn (cq (cr ?_))
   refine sQ 17 (yd (aD b1) 0 0 K45 K0)<|sQ 18 (yl (aD b1) 0 V1 (vi x.Kind) K1 (hS5.c 0))<|sQ 19 (ym (vi lo) rfl (hf.g 1 0))<|sQ 20 (ym (vi hi) rfl (hf.g 2 1)) ?_
   obtain ⟨r_1,hc,hz1⟩:=bI hz1
   refine sc 21 rfl rfl (yC [vi x.Kind,vi lo,vi hi] K48 (AM x.Kind lo hi _  (hS5.inn0 [] rfl) hc)) ?_
   rintro _ w_3 ⟨rfl,hd⟩
   have hS6:=hS5.out00 hd
   refine rn ?_
   refine cw_cond (b:=r_1) rfl (fun hb1=>?_) (fun hb1=>?_)
   ·skip
    have hF3:=ct hz1 hb1
    refine cr ?_
    refine sQ 22 (ym (vi n1) rfl (hf.g 7 2))<|sQ 23 (yP n1 1)<|sQ 7 (yg (vi (i64.wrap (n1+1)))) (rn ?_)
    exact ⟨(i64.wrap (n1+1)),(sI hF3),(hf.a 1 0 (hf.a 2 1 (fc rfl (hf.a 11 3 (hf.a 12 4 (hf.a 13 5 fn_)))))),(hS6.sel [] rfl rfl)⟩
   ·skip
    have hF4:=cf' hz1 hb1
    refine cw_skip ?_
    exact ⟨n1,(sI hF4),(hf.a 1 0 (hf.a 2 1 (hf.a 7 2 (hf.a 11 3 (hf.a 12 4 (hf.a 13 5 fn_)))))),(hS6.sel [] rfl rfl)⟩
  rintro f w ⟨n2,rfl,hf1,hS3⟩
  refine cr ?_
  refine sQ 24 (yP (i:Int) 1 rfl (hf1.g 13 5))<|sQ 13 (ym (vi (i64.wrap ((i:Int)+1)))) (rn ?_)
  obtain rfl:=sI hF2
  exact ⟨K5,Nat.lt_succ_self _,i+1,n2,(hf1.a 1 0 (hf1.a 2 1 (hf1.a 7 2 (hf1.a 11 3 (hf1.a 12 4 (fc (congrArg (Value.int .i64) (wr_succ hlt1 hN)) fn_)))))),(hS3.sel [] rfl rfl),(by omega),hL1⟩
 ·skip
  obtain rfl:k_=0:=by have h:=of_decide_eq_false hlt; omega
  refine cw_exit rfl ?_
  obtain rfl:=sI hL
  refine cq (cr ?_)
  refine sQ 25 (ym (vi n1) rfl (hf.g 7 2))<|sQ 6 (yg (vi n1)) (rn (ct_ ?_))
  obtain rfl:=sI hF1
  exact ret1 Tryz.results90 (v1:=vi n1) (resAt_tmp rfl) ⟨rfl,(hS2.sN [])⟩

theorem GZ (c:Ae) (B:Option Addr) (c1 n:Nat) (w0:World) (hn:c.Gates.length=n) (hS:ST w0 [] w0 [] [⟨B,(c.Gates.flatMap eN0)⟩]) {r_:Bool} (hF:Di c=some r_) :
  CV Tryz.prog 36 #[.agg #[vi c.Qubits,.slice B n c1]] w0 (fun v w'=>v=.bool r_∧ST w0 [] w' [] []):=by
 subst hn
 unfold Di at hF
 refine cv_of_cw 13 Tryz.func36 rfl Tryz.ntmps36 rfl ?_
 refine cq (cr ?_)
 let V0:List Value:=[vi c.Qubits,.slice B c.Gates.length c1]
 refine sS 1 (yB 32 (.agg V0.toArray) V0 2 hS) ?_
 rintro _ w_ ⟨b,rfl,hS1⟩
 refine sQ 2 (yg (.bool false)) (rn (cq ?_))
 obtain ⟨r_1,hc,hF⟩:=bI hF
 obtain ⟨r_2,hc1,hF⟩:=bI hF
 refine ra_start (hS1.se [0]).fn (by kernel_rfl) ?_
 have hS4:=hS1.drew
 refine rq 0 3 (v:=.agg V0.toArray) rfl (hS4.se [0]) (fun w' hw'=>(yb (aD b) 0 V0 K12 K7 (ST.cf hw' (i:=0) rfl))) ?_
 refine rA [1] ?_
 refine rC 4 1 rfl (yC [.agg V0.toArray] J4 (HD c B c1 c.Gates.length _ rfl (hS4.inn0 [(true,0)] rfl) hc)) ?_ aN
 rintro _ w_1 ⟨rfl,hd⟩
 have hS5:=hS4.out00 hd
 have hQ0:=hS5.se [0]
 refine ⟨hQ0,?_⟩
 refine rq 2 5 rfl hQ0 (fun w' hw'=>(ym (.bool r_1)))<|rG 3 6 (B:=r_1) (v:=.agg V0.toArray) rfl rfl rfl (uT_ 5) hQ0 (fun hg w' hw'=>(yb (aD b) 0 V0 K12 K7 (ST.cf hw' (i:=0) rfl)))<|rG 5 8 (B:=r_1) (v:=pt (aD b) 1) rfl rfl rfl (uT_ 5) hQ0 (fun hg2 w' hw'=>(yd (aD b) 0 0 K17 K11))<|rG 6 9 (B:=r_1) rfl rfl rfl (uT_ 5) hQ0 (fun hg3 w' hw'=>(yl (aD b) 1 V0 (.slice B c.Gates.length c1) K18 (ST.cf hw' (i:=0) rfl) rfl (gv_of (v:=pt (aD b) 1) hg3)))<|rG 7 10 (B:=r_1) (v:=vi (c.Gates.length:Int)) rfl rfl rfl (uT_ 5) hQ0 (fun hg4 w' hw'=>(Y_len (B:=B) (m:=c.Gates.length) (c:=c1) K4 rfl (gv_of (v:=.slice B c.Gates.length c1) hg4))) ?_
 refine rA [4] ?_
 refine ra_gc 7 (i:=4) (B:=r_1) (v:=vi r_2) (F:=hS5.fn) rfl rfl rfl (uT_ 5) hS5 (fun hg1=>(yC [.agg V0.toArray,vi 9,vi 9] Ni (CV.mono (Nf c 9 9 B c1 c.Gates.length _ rfl (hS5.inn0 [(true,0)] rfl) (gb_inv hc1 hg1)) (by rintro _ _ ⟨rfl,h⟩; exact ⟨rfl,hS5.out00 h⟩)) rfl (mc (gv_of (v:=.agg V0.toArray) hg1) (mc rfl (mc rfl mn))))) ?_ ?_
 ·rintro w_2 hS6
  have hQ1:=hS6.se [0]
  refine ⟨hQ1,?_⟩
  refine rG 8 11 (B:=r_1) rfl rfl rfl (uT_ 5) hQ1 (fun hg5 w' hw'=>(yE r_2 (c.Gates.length:Int) rfl (gv_of (v:=vi r_2) hg5) (gv_of (v:=vi (c.Gates.length:Int)) hg5)))<|rq 9 12 (v:=.bool (r_1&&(r_2==(c.Gates.length:Int)))) rfl hQ1 (fun w' hw'=>(Y_and (b:=r_1) (z:=(r_2==(c.Gates.length:Int))) rfl rfl rfl rfl))<|rq 10 2 rfl hQ1 (fun w' hw'=>(yg (.bool (r_1&&(r_2==(c.Gates.length:Int)))))) ?_
  refine ra_done (by kernel_rfl) ?_
  refine ct_ ?_
  obtain rfl:=sI hF
  exact ret1 Tryz.results36 (v1:=.bool (r_1&&(r_2==(c.Gates.length:Int)))) (resAt_tmp rfl) ⟨rfl,(hS6.sN [])⟩
 exact aN

theorem L3 (c:Ae) (B:Option Addr) (c1 n:Nat) (w0:World) (hn:c.Gates.length=n) (hS:ST w0 [] w0 [] [⟨B,(c.Gates.flatMap eN0)⟩]) {r_:List Int} (hF:De c=some r_) :
  CV Tryz.prog 37 #[.agg #[vi c.Qubits,.slice B n c1]] w0 (fun v w'=>∃ (B1:Option Addr) (c2:Nat),v=.slice B1 r_.length c2∧ST w0 [] w' [⟨B1,3,(r_.flatMap encI),c2*1⟩] []):=by
 subst hn
 unfold De at hF
 refine cv_of_cw 46 Tryz.func37 rfl Tryz.ntmps37 rfl ?_
 refine cq (cr ?_)
 let V1:List Value:=[vi c.Qubits,.slice B c.Gates.length c1]
 refine sS 1 (yB 32 (.agg V1.toArray) V1 2 hS) ?_
 rintro _ w_ ⟨b,rfl,hS1⟩
 refine sQ 2 (yg (.slice none 0 0)) (rn (cq (cr ?_)))
 refine sQ 7 (yd (aD b) 0 0 K36 K0)<|sQ 8 (yl (aD b) 0 V1 (vi c.Qubits) K1 (hS1.c 0)) ?_
 obtain ⟨r_1,hc,hF⟩:=bI hF
 refine sc 9 rfl rfl (yC [vi c.Qubits] K76 (DM c.Qubits _  (hS1.inn0 [] rfl) hc)) ?_
 rintro _ w_1 ⟨B2,c3,rfl,hd⟩
 have hS2:=hS1.out0 hd
 refine sS 3 (yN [.slice none 0 0] 1 hS2 K22) ?_
 rintro _ w_2 ⟨b1,rfl,hS3⟩
 let V2:List Value:=[.slice B2 r_1.Rows.length c3]
 refine s0 (yT 2 1 (aD b1) 26 (.agg V2.toArray) V2 0 hS3 K6) ?_
 rintro _ w_3 ⟨rfl,hS4⟩
 refine rn (cq (cr ?_))
 refine sQ 10 (yd (aD b1) 0 0 K13 K8)<|sQ 11 (yl (aD b1) 0 V2 (.slice B2 r_1.Rows.length c3) K9 (hS4.c 2)) ?_
 obtain ⟨r_2,hc1,hF⟩:=bI hF
 refine sc 12 rfl rfl (yC V2 K75 (EB r_1.Rows B2 c3 r_1.Rows.length _ rfl (hS4.inn0 [(false,1)] rfl) hc1)) ?_
 rintro _ w_4 ⟨B3,c4,rfl,hd1⟩
 have hS5:=hS4.out0 hd1
 refine sQ 4 (yg (.slice B3 r_2.length c4)) (rn (cq (cq (cr ?_))))
 refine sQ 13 (yd (aD b) 0 0 K17 K11)<|sQ 14 (yl (aD b) 1 V1 (.slice B c.Gates.length c1) K18 (hS5.c 0))<|sQ 15 (Y_len (B:=B) (m:=c.Gates.length) (c:=c1) K4 rfl rfl)<|sQ 16 (ym (vi 0)) (rn ?_)
 obtain ⟨hN,hF⟩:=chk_inv hF
 obtain ⟨z,hz,hF1⟩:=bI hF
 refine cw_block ?_
 refine cw_loop (fun k f w=>∃ (i:Nat) (Rows:List Int) (out:List Int) (B4:Option Addr) (c5:Nat) (B5:Option Addr) (c6:Nat),FF f [(3,pt (aD b1) 0),(4,.slice B5 out.length c6),(14,.slice B c.Gates.length c1),(15,vi (c.Gates.length:Int)),(16,vi (i:Int))]∧ST w0 [] w [⟨aD b1,26,[.slice B4 Rows.length c5],1⟩,⟨B4,3,(Rows.flatMap encI),c5*1⟩,⟨B5,3,(out.flatMap encI),c6*1⟩] [⟨B,(c.Gates.flatMap eN0)⟩]∧i+k=c.Gates.length∧forN (F3 c) k i (Rows,out)=some z) c.Gates.length ⟨0,r_1.Rows,r_2,B2,c3,B3,c4,(fc rfl (fc rfl (fc rfl (fc rfl (fc rfl fn_))))),(hS5.sel [2,1,3] rfl rfl),Nat.zero_add _,hz⟩ ?_
 rintro k_ f w ⟨i,Rows,out,B4,c5,B5,c6,hf,hS6,hik,hL⟩
 refine cq (cr ?_)
 refine sQ 17 (yL (i:Int) (c.Gates.length:Int) rfl (hf.g 16 4) (hf.g 15 3)) (rn (cq ?_))
 refine cw_cond (b:=(decide ((i:Int)<(c.Gates.length:Int)))) rfl (fun hlt=>?_) (fun hlt=>?_)
 ·skip
  have hlt1:i<c.Gates.length:=by have h:=of_decide_eq_true hlt; omega
  obtain ⟨K5,rfl⟩:∃ k2,k_=k2+1:=⟨k_-1,by omega⟩
  obtain ⟨y,hb,hL1⟩:=forN_go hL
  unfold F3 at hb
  refine cw_skip (cq ?_)
  obtain ⟨z1,hz1,hF2⟩:=bI hb
  refine cw_mid (fun f w=>∃ (Rows1:List Int) (out1:List Int) (B6:Option Addr) (c7:Nat) (B7:Option Addr) (c8:Nat),(Rows1,out1)=z1∧FF f [(3,pt (aD b1) 0),(4,.slice B7 out1.length c8),(14,.slice B c.Gates.length c1),(15,vi (c.Gates.length:Int)),(16,vi (i:Int))]∧ST w0 [] w [⟨aD b1,26,[.slice B6 Rows1.length c7],1⟩,⟨B6,3,(Rows1.flatMap encI),c7*1⟩,⟨B7,3,(out1.flatMap encI),c8*1⟩] [⟨B,(c.Gates.flatMap eN0)⟩]) ?_ ?_
  ·skip
   refine cw_block (cq (cr ?_))
   obtain ⟨x,hx,hz1⟩:=bI hz1
   let V0:List Value:=[vi x.Kind,vi x.A,vi x.B]
   refine sQ 18 (yI B (i:Int) K4 K3 (gi_isSome eN2 rfl (hS6.rf (i:=0) rfl) hx) (getI_nn hx) (getI_ltI hx rfl) rfl (hf.g 14 2) (hf.g 16 4))<|sQ 19 (ya B ((i:Int).toNat*3) (c.Gates.flatMap eN0) V0 K30 K3 (hS6.rf (i:=0) rfl) rfl rfl (eN2 x) (gi_seg eN2 hx)) ?_
   refine sS 6 (yN [vi 0,vi 0,vi 0] 3 hS6 K10) ?_
   rintro _ w_5 ⟨b2,rfl,hS8⟩
   refine s0 (yT 3 3 (aD b2) 59 (.agg V0.toArray) V0 0 hS8 K3) ?_
   rintro _ w_6 ⟨rfl,hS9⟩
   refine rn (cq (cr ?_))
   refine sQ 20 (yb (aD b1) 0 [.slice B4 Rows.length c5] K16 K6 (hS9.c 0) rfl (hf.g 3 0))<|sQ 21 (yd (aD b2) 0 0 K29 K0)<|sQ 22 (yl (aD b2) 1 V0 (vi x.A) K1 (hS9.c 3))<|sQ 23 (yd (aD b2) 0 0 K27 K0)<|sQ 24 (yl (aD b2) 2 V0 (vi x.B) K1 (hS9.c 3)) ?_
   obtain ⟨r_3,hc2,hz1⟩:=bI hz1
   refine sc 25 rfl rfl (yC [.agg #[.slice B4 Rows.length c5],vi x.A,vi x.B] K56 (Bk (Ad.mk Rows) x.A x.B B4 c5 Rows.length _ rfl (hS9.inn0 [(false,1)] rfl) hc2)) ?_
   rintro _ w_7 ⟨B8,c9,rfl,hd2⟩
   have hS10:=hS9.out0 hd2
   let V3:List Value:=[.slice B8 r_3.Rows.length c9]
   refine s0 (yT 0 1 (aD b1) 26 (.agg V3.toArray) V3 0 hS10 K6 rfl (hf.g 3 0)) ?_
   rintro _ w_8 ⟨rfl,hS11⟩
   refine rn (cq (cr ?_))
   refine sQ 26 (ym (.slice B5 out.length c6) rfl (hf.g 4 1))<|sQ 27 (yd (aD b1) 0 0 K13 K8 rfl (hf.g 3 0))<|sQ 28 (yl (aD b1) 0 V3 (.slice B8 r_3.Rows.length c9) K9 (hS11.c 0))<|sQ 29 (yd (aD b2) 0 0 K27 K0)<|sQ 30 (yl (aD b2) 2 V0 (vi x.B) K1 (hS11.c 3)) ?_
   obtain ⟨x1,hx1,hz1⟩:=bI hz1
   refine sQ 31 (yI B8 x.B K2 K0 (gi_isSome encI_len rfl (hS11.c 4) hx1) (getI_nn hx1) (getI_ltI hx1 rfl))<|sQ 32 (yl B8 (x.B.toNat*1) (r_3.Rows.flatMap encI) (vi x1) K1 (hS11.c 4) rfl rfl (gi_at0 encI_len hx1 rfl)) ?_
   obtain ⟨r_4,hc3,hz1⟩:=bI hz1
   refine sc 33 rfl rfl (yC [.slice B5 out.length c6,vi x1] Ip (Jz out x1 B5 c6 out.length _ rfl (hS11.inn0 [(false,2)] rfl) hc3)) ?_
   rintro _ w_9 ⟨rfl,hd3⟩
   have hS12:=hS11.out00 hd3
   refine sQ 34 (Y_not (p:=r_4) rfl rfl) (rn ?_)
   refine cw_cond (b:=(!r_4)) rfl (fun hb1=>?_) (fun hb1=>?_)
   ·skip
    have hF3:=ct hz1 hb1
    refine cr ?_
    refine sQ 35 (ym (.slice B5 out.length c6) rfl (hf.g 4 1))<|sQ 36 (yd (aD b1) 0 0 K13 K8 rfl (hf.g 3 0))<|sQ 37 (yl (aD b1) 0 V3 (.slice B8 r_3.Rows.length c9) K9 (hS12.c 0))<|sQ 38 (yd (aD b2) 0 0 K27 K0)<|sQ 39 (yl (aD b2) 2 V0 (vi x.B) K1 (hS12.c 3))<|sQ 40 (yI B8 x.B K2 K0 (gi_isSome encI_len rfl (hS12.c 4) hx1) (getI_nn hx1) (getI_ltI hx1 rfl)) ?_
    refine sQ 41 (yl B8 (x.B.toNat*1) (r_3.Rows.flatMap encI) (vi x1) K1 (hS12.c 4) rfl rfl (gi_at0 encI_len hx1 rfl)) ?_
    refine sS 42 (Ys_bslice (s:=1) (len:=1) (vs:=[(0,vi x1)]) (cs:=[vi x1]) (zs:=[vi 0]) (m:=1) hS12 K2 K0 K24 rfl (mpc rfl mpn) rfl rfl rfl (by kernel_rfl) (by kernel_rfl) rfl) ?_
    rintro _ w_10 ⟨b3,rfl,hS13⟩
    obtain ⟨hap,hF3⟩:=chk_inv hF3
    refine sS 43 (Ys_append (s:=1) (by':=8) (i:=2) (nn:=out.length) (c:=c6) (k:=1) (len:=(out++[x1]).length) (B:=B5) (xs:=([x1].flatMap encI)) (cs':=((out++[x1]).flatMap encI)) hS13 K2 K0 K31 K28 rfl (by decide) rfl rfl rfl rfl (fm_lenn (l:=out) encI_len rfl) rfl (hS13.c 5) (fm_lenn (l:=[x1]) encI_len rfl) (fm_one' (enc:=encI) encI_one [x1]) (by have:=hap; omega) (by have:=hap; simp only [maxLen]; omega) (fm_app _ _) (app_len (l:=out) (l':=[x1]) rfl rfl)) ?_
    rintro _ w_11 ⟨B9,c10,rfl,hS14⟩
    refine sQ 4 (yg (.slice B9 ((out++[x1]).length) c10)) (rn ?_)
    exact ⟨r_3.Rows,(out++[x1]),B8,c9,B9,c10,(sI hF3),(hf.a 3 0 (fc rfl (hf.a 14 2 (hf.a 15 3 (hf.a 16 4 fn_))))),(hS14.sel [0,4,2] rfl rfl)⟩
   ·skip
    have hF4:=cf' hz1 hb1
    refine cw_skip ?_
    exact ⟨r_3.Rows,out,B8,c9,B5,c6,(sI hF4),(hf.a 3 0 (hf.a 4 1 (hf.a 14 2 (hf.a 15 3 (hf.a 16 4 fn_))))),(hS12.sel [0,4,2] rfl rfl)⟩
  rintro f w ⟨Rows1,out1,B6,c7,B7,c8,rfl,hf1,hS7⟩
  refine cr ?_
  refine sQ 44 (yP (i:Int) 1 rfl (hf1.g 16 4))<|sQ 16 (ym (vi (i64.wrap ((i:Int)+1)))) (rn ?_)
  obtain rfl:=sI hF2
  exact ⟨K5,Nat.lt_succ_self _,i+1,Rows1,out1,B6,c7,B7,c8,(hf1.a 3 0 (hf1.a 4 1 (hf1.a 14 2 (hf1.a 15 3 (fc (congrArg (Value.int .i64) (wr_succ hlt1 hN)) fn_))))),(hS7.sel [0,1,2] rfl rfl),(by omega),hL1⟩
 ·skip
  obtain rfl:k_=0:=by have h:=of_decide_eq_false hlt; omega
  refine cw_exit rfl ?_
  obtain rfl:=sI hL
  refine cq (cr ?_)
  refine sQ 45 (ym (.slice B5 out.length c6) rfl (hf.g 4 1))<|sQ 2 (yg (.slice B5 out.length c6)) (rn (ct_ ?_))
  obtain rfl:=sI hF1
  exact ret1 Tryz.results37 (v1:=.slice B5 out.length c6) (resAt_tmp rfl) ⟨B5,c6,rfl,(hS6.sN [2])⟩

theorem Lo (code:List Int) (B:Option Addr) (c n:Nat) (w0:World) (hn:code.length=n) (hS:ST w0 [] w0 [] [⟨B,(code.flatMap enc_u8)⟩]) {r_:Ae} {r_1:List Ab} (hF:DU code=some (r_,r_1)) :
  CV Tryz.prog 7 #[.slice B n c] w0 (fun v w'=>∃ (B1:Option Addr) (c1:Nat) (B2:Option Addr) (c2:Nat),v=.tuple #[.agg #[vi r_.Qubits,.slice B1 r_.Gates.length c1],.slice B2 r_1.length c2]∧ST w0 [] w' [⟨B1,59,(r_.Gates.flatMap eN0),c1*3⟩,⟨B2,64,(r_1.flatMap eN1),c2*2⟩] []):=by
 subst hn
 unfold DU at hF
 refine cv_of_cw 49 Tryz.func7 rfl Tryz.ntmps7 rfl ?_
 refine cq (cr ?_)
 refine sS 2 (yN [vi 0,.slice none 0 0] 2 hS K21) ?_
 rintro _ w_ ⟨b,rfl,hS1⟩
 refine sQ 3 (yg (.slice none 0 0)) (rn (cq (cr ?_)))
 let V4:List Value:=[.slice B code.length c,vi 0,.int .u64 0]
 refine sQ 10 (ym (.slice B code.length c))<|sQ 11 (Y_buildS (zs:=[.slice none 0 0,vi 0,.int .u64 0]) (vs:=[(0,.slice B code.length c)]) (cs:=V4) JW J6 rfl (mpc rfl mpn) rfl) ?_
 refine sS 12 (yB 74 (.agg V4.toArray) V4 3 hS1) ?_
 rintro _ w_1 ⟨b1,rfl,hS2⟩
 refine sQ 4 (yg (pt (aD b1) 0)) (rn (cq (cr ?_)))
 refine sQ 13 (ym (pt (aD b1) 0)) ?_
 obtain ⟨⟨r_2,m⟩,hc,hF⟩:=bI hF
 refine sc 14 rfl rfl (yC [pt (aD b1) 0] OK (LO (Ac.mk code 0 0) (aD b1) B c code.length _ rfl (hS2.inn [false,true] rfl [(true,0)] rfl) hc)) ?_
 rintro _ w_2 ⟨B3,c3,rfl,hd⟩
 have hS3:=hS2.out [false,true] rfl hd
 refine sS 5 (yN [vi 0,.slice none 0 0] 2 hS3 K21) ?_
 rintro _ w_3 ⟨b2,rfl,hS4⟩
 let V3:List Value:=[vi r_2.Qubits,.slice B3 r_2.Gates.length c3]
 refine s0 (yT 3 2 (aD b2) 32 (.agg V3.toArray) V3 0 hS4 K7) ?_
 rintro _ w_4 ⟨rfl,hS5⟩
 refine rn (cq (cr ?_))
 refine sQ 6 (yg (.slice none 0 0)) (rn (cq ?_))
 obtain ⟨z,hz,hF1⟩:=bI hF
 let O0:Ob:=⟨aD b2,32,V3,2⟩
 let O1:Ob:=⟨B3,59,(r_2.Gates.flatMap eN0),c3*3⟩
 let O2:Ob:=⟨aD b,32,[vi 0,.slice none 0 0],2⟩
 refine cw_mid (fun f w=>∃ (at_:Int) (seed:Int) (l:List Ab) (B4:Option Addr) (c4:Nat),(at_,seed,l)=z∧FF f [(2,pt (aD b) 0),(4,pt (aD b1) 0),(5,pt (aD b2) 0),(6,.slice B4 l.length c4)]∧ST w0 [] w [O2,⟨aD b1,74,[.slice B code.length c,vi at_,.int .u64 seed],3⟩,O0,O1,⟨B4,64,(l.flatMap eN1),c4*2⟩] [⟨B,(code.flatMap enc_u8)⟩]) ?_ ?_
 ·skip
  refine cq (cr ?_)
  refine sQ 15 (yb (aD b2) 0 V3 K12 K7 (hS5.c 3)) ?_
  obtain ⟨r_3,hc1,hz⟩:=bI hz
  refine sc 16 rfl rfl (yC [.agg V3.toArray] G3 (GZ r_2 B3 c3 r_2.Gates.length _ rfl (hS5.inn0 [(false,2)] rfl) hc1)) ?_
  rintro _ w_5 ⟨rfl,hd1⟩
  have hS7:=hS5.out00 hd1
  refine rn ?_
  refine cw_cond (b:=r_3) rfl (fun hb=>?_) (fun hb=>?_)
  ·skip
   have hF2:=ct hz hb
   refine cq (cr ?_)
   refine sQ 17 (yd (aD b2) 0 0 K36 K0)<|sQ 18 (yl (aD b2) 0 V3 (vi r_2.Qubits) K1 (hS7.c 3))<|sQ 19 (Y_conv (k:=.i64) (a:=r_2.Qubits) (T:=3) (T':=77) K40 K41 rfl rfl) ?_
   obtain ⟨hsh,hF2⟩:=chk_inv hF2
   refine sQ 20 (Y_shl (k:=.i64) (a:=1) (k':=.u64) (b:=(IntKind.u64.wrap r_2.Qubits)) rfl rfl rfl hsh) ?_
   obtain ⟨hmk,hF2⟩:=chk_inv hF2
   refine sS 21 (Ys_make (s:=1) (by':=8) (nn:=(shlK .i64 1 (IntKind.u64.wrap r_2.Qubits)).toNat) (a:=(shlK .i64 1 (IntKind.u64.wrap r_2.Qubits))) (b:=(shlK .i64 1 (IntKind.u64.wrap r_2.Qubits))) (cs:=((List.replicate ((shlK .i64 1 (IntKind.u64.wrap r_2.Qubits)).toNat) 0).flatMap encI)) hS7 K2 K0 K31 K28 rfl rfl rfl rfl hmk.1 rfl (by have:=hmk; omega) (by have:=hmk; omega) (by omega) (fm_rep (enc:=encI) (d:=0) rfl _)) ?_
   rintro _ w_6 ⟨b3,rfl,hS8⟩
   refine sQ 7 (yg (.slice (aD b3) ((shlK .i64 1 (IntKind.u64.wrap r_2.Qubits)).toNat) ((shlK .i64 1 (IntKind.u64.wrap r_2.Qubits)).toNat))) (rn (cq (cq (cr ?_))))
   refine sQ 22 (yb (aD b2) 0 V3 K12 K7 (hS8.c 3)) ?_
   obtain ⟨r_4,hc2,hF2⟩:=bI hF2
   refine sc 23 rfl rfl (yC [.agg V3.toArray] Oq (L3 r_2 B3 c3 r_2.Gates.length _ rfl (hS8.inn0 [(false,2)] rfl) hc2)) ?_
   rintro _ w_7 ⟨B5,c5,rfl,hd2⟩
   have hS9:=hS8.out0 hd2
   refine sQ 24 (Y_len (B:=B5) (m:=r_4.length) (c:=c5) K2 rfl rfl)<|sQ 25 (ym (vi 0)) (rn ?_)
   obtain ⟨hN,hF2⟩:=chk_inv hF2
   obtain ⟨z1,hz1,hF3⟩:=bI hF2
   refine cw_block ?_
   refine cw_loop (fun k f w=>∃ (i:Nat) (at_1:Int) (seed1:Int) (by_:List Int),FF f [(2,pt (aD b) 0),(4,pt (aD b1) 0),(5,pt (aD b2) 0),(7,.slice (aD b3) ((shlK .i64 1 (IntKind.u64.wrap r_2.Qubits)).toNat) ((shlK .i64 1 (IntKind.u64.wrap r_2.Qubits)).toNat)),(23,.slice B5 r_4.length c5),(24,vi (r_4.length:Int)),(25,vi (i:Int))]∧by_.length=(shlK .i64 1 (IntKind.u64.wrap r_2.Qubits)).toNat∧ST w0 [] w [O2,⟨aD b1,74,[.slice B code.length c,vi at_1,.int .u64 seed1],3⟩,O0,O1,⟨aD b3,3,(by_.flatMap encI),((shlK .i64 1 (IntKind.u64.wrap r_2.Qubits)).toNat)*1⟩,⟨B5,3,(r_4.flatMap encI),c5*1⟩] [⟨B,(code.flatMap enc_u8)⟩]∧i+k=r_4.length∧forN (DF r_4 code) k i (at_1,seed1,by_)=some z1) r_4.length ⟨0,m.at_,m.seed,(List.replicate ((shlK .i64 1 (IntKind.u64.wrap r_2.Qubits)).toNat) 0),(fc rfl (fc rfl (fc rfl (fc rfl (fc rfl (fc rfl (fc rfl fn_))))))),List.length_replicate,(hS9.sel [0,1,3,2,4,5] rfl rfl),Nat.zero_add _,hz1⟩ ?_
   rintro k_ f w ⟨i,at_1,seed1,by_,hf1,hl,hS10,hik,hL⟩
   refine cq (cr ?_)
   refine sQ 26 (yL (i:Int) (r_4.length:Int) rfl (hf1.g 25 6) (hf1.g 24 5)) (rn (cq ?_))
   refine cw_cond (b:=(decide ((i:Int)<(r_4.length:Int)))) rfl (fun hlt=>?_) (fun hlt=>?_)
   ·skip
    have hlt1:i<r_4.length:=by have h:=of_decide_eq_true hlt; omega
    obtain ⟨K5,rfl⟩:∃ k2,k_=k2+1:=⟨k_-1,by omega⟩
    obtain ⟨y,hb1,hL1⟩:=forN_go hL
    unfold DF at hb1
    refine cw_skip (cq (cw_block (cq (cr ?_))))
    obtain ⟨x,hx,hb1⟩:=bI hb1
    refine sQ 27 (yI B5 (i:Int) K2 K0 (gi_isSome encI_len rfl (hS10.c 5) hx) (getI_nn hx) (getI_ltI hx rfl) rfl (hf1.g 23 4) (hf1.g 25 6))<|sQ 28 (yl B5 ((i:Int).toNat*1) (r_4.flatMap encI) (vi x) K1 (hS10.c 5) rfl rfl (gi_at0 encI_len hx rfl))<|sQ 9 (yg (vi x)) (rn (cr ?_))
    refine sQ 29 (ym (.slice (aD b3) ((shlK .i64 1 (IntKind.u64.wrap r_2.Qubits)).toNat) ((shlK .i64 1 (IntKind.u64.wrap r_2.Qubits)).toNat)) rfl (hf1.g 7 3))<|sQ 30 (ym (vi x))<|sQ 31 (ym (pt (aD b1) 0) rfl (hf1.g 4 1)) ?_
    obtain ⟨⟨r_5,m1⟩,hc3,hb1⟩:=bI hb1
    refine sc 32 rfl rfl (yC [pt (aD b1) 0,vi 8] K20 (Ak (Ac.mk code at_1 seed1) 8 (aD b1) B c code.length _ rfl (hS10.inn [false,true,false,false,false,false] rfl [(true,0)] rfl) hc3)) ?_
    rintro _ w_8 ⟨rfl,hd3⟩
    have hS11:=hS10.out [false,true,false,false,false,false] rfl hd3
    obtain ⟨x1,hx1,hb1⟩:=bI hb1
    refine sQ 33 (yI (aD b3) x K2 K0 (gi_isSome encI_len rfl (hS11.c 3) hx1) (getI_nn hx1) (getI_ltI hx1 hl)) ?_
    refine s0 (yS 3 1 (aD b3) 3 (vi r_5) [vi r_5] (x.toNat*1) ((by_.set x.toNat r_5).flatMap encI) hS11 K0 rfl rfl rfl rfl rfl rfl rfl (gi_fit0 encI_len hx1) (gi_set encI_len hx1 r_5 rfl)) ?_
    rintro _ w_9 ⟨rfl,hS12⟩
    refine rn (cr ?_)
    refine sQ 34 (yP (i:Int) 1 rfl (hf1.g 25 6))<|sQ 25 (ym (vi (i64.wrap ((i:Int)+1)))) (rn ?_)
    obtain rfl:=sI hb1
    exact ⟨K5,Nat.lt_succ_self _,i+1,m1.at_,m1.seed,(by_.set x.toNat r_5),(hf1.a 2 0 (hf1.a 4 1 (hf1.a 5 2 (hf1.a 7 3 (hf1.a 23 4 (hf1.a 24 5 (fc (congrArg (Value.int .i64) (wr_succ hlt1 hN)) fn_))))))),(set_len _ _ _ hl),(hS12.sel [0,5,1,2,3,4] rfl rfl),(by omega),hL1⟩
   ·skip
    obtain rfl:k_=0:=by have h:=of_decide_eq_false hlt; omega
    refine cw_exit rfl ?_
    obtain rfl:=sI hL
    refine cr ?_
    refine sQ 35 (ym (.slice (aD b3) ((shlK .i64 1 (IntKind.u64.wrap r_2.Qubits)).toNat) ((shlK .i64 1 (IntKind.u64.wrap r_2.Qubits)).toNat)) rfl (hf1.g 7 3)) ?_
    obtain ⟨r_6,hc4,hF3⟩:=bI hF3
    refine sc 36 rfl rfl (yC [.slice (aD b3) ((shlK .i64 1 (IntKind.u64.wrap r_2.Qubits)).toNat) ((shlK .i64 1 (IntKind.u64.wrap r_2.Qubits)).toNat)] Ju (J8 by_ (aD b3) ((shlK .i64 1 (IntKind.u64.wrap r_2.Qubits)).toNat) ((shlK .i64 1 (IntKind.u64.wrap r_2.Qubits)).toNat) _ hl (hS10.inn0 [(false,4)] rfl) hc4)) ?_
    rintro _ w_10 ⟨B6,c6,rfl,hd4⟩
    have hS13:=hS10.out0 hd4
    refine sQ 6 (yg (.slice B6 r_6.length c6)) (rn ?_)
    exact ⟨at_1,seed1,r_6,B6,c6,(sI hF3),(hf1.a 2 0 (hf1.a 4 1 (hf1.a 5 2 (fc rfl fn_)))),(hS13.sel [0,1,2,3,6] rfl rfl)⟩
  ·skip
   have hF4:=cf' hz hb
   refine cw_skip ?_
   have hS14:=hS7.addNil 64
   exact ⟨m.at_,m.seed,[],none,0,(sI hF4),(fc rfl (fc rfl (fc rfl (fc rfl fn_)))),(hS14.sel [0,1,3,2,4] rfl rfl)⟩
 rintro f w ⟨at_,seed,l,B4,c4,rfl,hf,hS6⟩
 refine cq ?_
 obtain ⟨z2,hz2,hF5⟩:=bI hF1
 refine cw_mid (fun f w=>∃ (l1:List Ab) (B7:Option Addr) (c7:Nat),l1=z2∧FF f [(2,pt (aD b) 0),(5,pt (aD b2) 0),(6,.slice B7 l1.length c7)]∧ST w0 [] w [O2,O0,O1,⟨B7,64,(l1.flatMap eN1),c7*2⟩] [⟨B,(code.flatMap enc_u8)⟩]) ?_ ?_
 ·skip
  refine cq (cr ?_)
  refine sQ 37 (ym (pt (aD b1) 0) rfl (hf.g 4 1)) ?_
  obtain ⟨⟨r_7,m2⟩,hc5,hz2⟩:=bI hz2
  refine sc 38 rfl rfl (yC [pt (aD b1) 0,vi 8] Hc (GN (Ac.mk code at_ seed) 8 (aD b1) B c code.length _ rfl (hS6.inn [false,true,false,false,false] rfl [(true,0)] rfl) hc5)) ?_
  rintro _ w_11 ⟨rfl,hd5⟩
  have hS16:=hS6.out [false,true,false,false,false] rfl hd5
  refine rn ?_
  refine cw_cond (b:=r_7) rfl (fun hb2=>?_) (fun hb2=>?_)
  ·skip
   have hF6:=ct hz2 hb2
   refine cr ?_
   refine sQ 39 (ym (.slice B4 l.length c4) rfl (hf.g 6 3))<|sQ 40 (ym (pt (aD b1) 0) rfl (hf.g 4 1)) ?_
   obtain ⟨⟨r_8,m3⟩,hc6,hF6⟩:=bI hF6
   refine sc 41 rfl rfl (yC [pt (aD b1) 0,vi 33] K20 (Ak (Ac.mk code m2.at_ m2.seed) 33 (aD b1) B c code.length _ rfl (hS16.inn [false,false,false,false,true] rfl [(true,0)] rfl) hc6)) ?_
   rintro _ w_12 ⟨rfl,hd6⟩
   have hS17:=hS16.out [false,false,false,false,true] rfl hd6
   refine sQ 42 (ym (pt (aD b1) 0) rfl (hf.g 4 1)) ?_
   obtain ⟨⟨r_9,m4⟩,hc7,hF6⟩:=bI hF6
   refine sc 43 rfl rfl (yC [pt (aD b1) 0,vi 9] K20 (Ak (Ac.mk code m3.at_ m3.seed) 9 (aD b1) B c code.length _ rfl (hS17.inn [false,false,false,false,true] rfl [(true,0)] rfl) hc7)) ?_
   rintro _ w_13 ⟨rfl,hd7⟩
   have hS18:=hS17.out [false,false,false,false,true] rfl hd7
   refine sQ 44 (Y_buildS (zs:=[vi 0,vi 0]) (vs:=[(0,vi r_8),(1,vi r_9)]) (cs:=[vi r_8,vi r_9]) K74 K37 rfl (mpc rfl (mpc rfl mpn)) rfl) ?_
   refine sS 45 (Ys_bslice (s:=2) (len:=1) (vs:=[(0,.agg #[vi r_8,vi r_9])]) (cs:=[vi r_8,vi r_9]) (zs:=[vi 0,vi 0]) (m:=2) hS18 K14 K15 K70 rfl (mpc rfl mpn) rfl rfl rfl (by kernel_rfl) (by kernel_rfl) rfl) ?_
   rintro _ w_14 ⟨b4,rfl,hS19⟩
   obtain ⟨hap,hF6⟩:=chk_inv hF6
   refine sS 46 (Ys_append (s:=2) (by':=16) (i:=3) (nn:=l.length) (c:=c4) (k:=1) (len:=(l++[(Ab.mk r_8 r_9)]).length) (B:=B4) (xs:=([(Ab.mk r_8 r_9)].flatMap eN1)) (cs':=((l++[(Ab.mk r_8 r_9)]).flatMap eN1)) hS19 K14 K15 K67 K37 rfl (by decide) rfl rfl rfl rfl (fm_lenn (l:=l) eN3 rfl) rfl (hS19.c 5) (fm_lenn (l:=[(Ab.mk r_8 r_9)]) eN3 rfl) (fm_one' (enc:=eN1) BN [(Ab.mk r_8 r_9)]) (by have:=hap; omega) (by have:=hap; simp only [maxLen]; omega) (fm_app _ _) (app_len (l:=l) (l':=[(Ab.mk r_8 r_9)]) rfl rfl)) ?_
   rintro _ w_15 ⟨B8,c8,rfl,hS20⟩
   refine sQ 6 (yg (.slice B8 ((l++[(Ab.mk r_8 r_9)]).length) c8)) (rn ?_)
   exact ⟨(l++[(Ab.mk r_8 r_9)]),B8,c8,(sI hF6),(hf.a 2 0 (hf.a 5 2 (fc rfl fn_))),(hS20.sel [0,1,2,3] rfl rfl)⟩
  ·skip
   have hF7:=cf' hz2 hb2
   refine cw_skip ?_
   exact ⟨l,B4,c4,(sI hF7),(hf.a 2 0 (hf.a 5 2 (hf.a 6 3 fn_))),(hS16.sel [0,1,2,3] rfl rfl)⟩
 rintro f w ⟨l1,B7,c7,rfl,hf2,hS15⟩
 refine cq (cr ?_)
 refine sQ 47 (yb (aD b2) 0 V3 K12 K7 (hS15.c 1) rfl (hf2.g 5 1))<|sQ 48 (ym (.slice B7 l1.length c7) rfl (hf2.g 6 2)) ?_
 refine s0 (yT 0 2 (aD b) 32 (.agg V3.toArray) V3 0 hS15 K7 rfl (hf2.g 2 0)) ?_
 rintro _ w_16 ⟨rfl,hS21⟩
 refine sQ 3 (yg (.slice B7 l1.length c7)) (rn (ct_ ?_))
 obtain ⟨rfl,rfl⟩:=pr2 (sI hF5)
 exact ret2 Tryz.results7 (v1:=.agg V3.toArray) (resAt_cellA (B:=aD b) (i:=0) (cs:=V3) (vs:=V3) (hf2.g 2 0) K12 K7 (hS21.c 0) rfl rfl) (v2:=.slice B7 l1.length c7) (resAt_tmp rfl) ⟨B3,c3,B7,c7,rfl,(hS21.sN [2,3])⟩

theorem LY (g:Aa)  (w0:World)  (hS:ST w0 [] w0 [] []) {r_:Bool} (hF:Cg g=some r_) :
  CV Tryz.prog 93 #[.agg #[vi g.Kind,vi g.A,vi g.B]] w0 (fun v w'=>v=.bool r_∧ST w0 [] w' [] []):=by
 unfold Cg at hF
 refine cv_of_cw 6 Tryz.func93 rfl Tryz.ntmps93 rfl ?_
 refine cq (cr ?_)
 refine sS 1 (yB 59 (.agg #[vi g.Kind,vi g.A,vi g.B]) [vi g.Kind,vi g.A,vi g.B] 3 hS) ?_
 rintro _ w_ ⟨b,rfl,hS1⟩
 refine sQ 2 (yg (.bool false)) (rn (cq (cr ?_)))
 refine sQ 3 (yd (aD b) 0 0 K45 K0)<|sQ 4 (yl (aD b) 0 [vi g.Kind,vi g.A,vi g.B] (vi g.Kind) K1 (hS1.c 0))<|sQ 5 (Y_ne (k:=.i64) (a:=g.Kind) (b:=9) rfl rfl rfl)<|sQ 2 (yg (.bool (g.Kind != 9))) (rn (ct_ ?_))
 obtain rfl:=sI hF
 exact ret1 Tryz.results93 (v1:=.bool (g.Kind != 9)) (resAt_tmp rfl) ⟨rfl,(hS1.sN [])⟩

theorem LL (c:Ae) (B:Option Addr) (c1 n:Nat) (w0:World) (hn:c.Gates.length=n) (hS:ST w0 [] w0 [] [⟨B,(c.Gates.flatMap eN0)⟩]) {r_:Bool} (hF:Ec c=some r_) :
  CV Tryz.prog 41 #[.agg #[vi c.Qubits,.slice B n c1]] w0 (fun v w'=>v=.bool r_∧ST w0 [] w' [] []):=by
 subst hn
 unfold Ec at hF
 refine cv_of_cw 11 Tryz.func41 rfl Tryz.ntmps41 rfl ?_
 refine cq (cr ?_)
 let V0:List Value:=[vi c.Qubits,.slice B c.Gates.length c1]
 refine sS 1 (yB 32 (.agg V0.toArray) V0 2 hS) ?_
 rintro _ w_ ⟨b,rfl,hS1⟩
 refine sQ 2 (yg (.bool false)) (rn (cq (cr ?_)))
 refine sQ 3 (yb (aD b) 0 V0 K12 K7 (hS1.c 0)) ?_
 obtain ⟨r_1,hc,hF⟩:=bI hF
 refine sc 4 rfl rfl (yC [.agg V0.toArray] K85 (EX c B c1 c.Gates.length _ rfl (hS1.inn0 [(true,0)] rfl) hc)) ?_
 rintro _ w_1 ⟨rfl,hd⟩
 have hS2:=hS1.out00 hd
 refine sQ 5 (ym (.bool r_1)) ?_
 refine sgq 6 (B:=r_1) (v:=pt (aD b) 1) rfl rfl (uT_ 5) (fun hg=>(yd (aD b) 0 0 K17 K11)) ?_
 refine sgq 7 (B:=r_1) rfl rfl (uT_ 5) (fun hg1=>(yl (aD b) 1 V0 (.slice B c.Gates.length c1) K18 (hS2.c 0) rfl (gv_of (v:=pt (aD b) 1) hg1))) ?_
 obtain ⟨r_2,hc1,hF⟩:=bI hF
 refine sgc 8 (B:=r_1) (v:=.bool r_2) (F:=hS2.fn) rfl rfl (uT_ 5) hS2 (fun hg2=>(yC [.slice B c.Gates.length c1,.func (.func 93) #[] #[]] I4 (CV.mono (IC c.Gates Cg B c1 c.Gates.length 93 (#[]) [] _ rfl Lk (fun w hw x_0 y_0 h_=>LY x_0  w  hw h_) (hS2.inn0 [(true,0)] rfl) (gb_inv hc1 hg2)) (by rintro _ _ ⟨rfl,h⟩; exact ⟨rfl,hS2.out00 h⟩)) rfl (mc (gv_of (v:=.slice B c.Gates.length c1) hg2) (mc rfl mn)))) ?_
 rintro w_2 hS3
 refine sgq 9 (B:=r_1) (v:=.bool (!r_2)) rfl rfl (uT_ 5) (fun hg3=>(Y_not (p:=r_2) rfl (gv_of (v:=.bool r_2) hg3))) ?_
 refine sQ 10 (Y_and (b:=r_1) (z:=(!r_2)) rfl rfl rfl rfl)<|sQ 2 (yg (.bool (r_1&&(!r_2)))) (rn (ct_ ?_))
 obtain rfl:=sI hF
 exact ret1 Tryz.results41 (v1:=.bool (r_1&&(!r_2))) (resAt_tmp rfl) ⟨rfl,(hS3.sN [])⟩

theorem Li (c:Ae) (terms:List Ab) (B:Option Addr) (c1 n:Nat) (B1:Option Addr) (c2 n1:Nat) (w0:World) (hn:c.Gates.length=n) (hn1:terms.length=n1) (hS:ST w0 [] w0 [] [⟨B,(c.Gates.flatMap eN0)⟩,⟨B1,(terms.flatMap eN1)⟩]) {r_:Ae} {r_1:Bool} (hF:Ef c terms=some (r_,r_1)) :
  CV Tryz.prog 8 #[.agg #[vi c.Qubits,.slice B n c1],.slice B1 n1 c2] w0 (fun v w'=>∃ (B2:Option Addr) (c3:Nat),v=.tuple #[.agg #[vi r_.Qubits,.slice B2 r_.Gates.length c3],.bool r_1]∧ST w0 [] w' [⟨B2,59,(r_.Gates.flatMap eN0),c3*3⟩] []):=by
 subst hn
 subst hn1
 unfold Ef at hF
 refine cv_of_cw 37 Tryz.func8 rfl Tryz.ntmps8 rfl ?_
 refine cq (cr ?_)
 let V1:List Value:=[vi c.Qubits,.slice B c.Gates.length c1]
 refine sS 2 (yB 32 (.agg V1.toArray) V1 2 hS) ?_
 rintro _ w_ ⟨b,rfl,hS1⟩
 let V0:List Value:=[vi 0,.slice none 0 0]
 refine sS 4 (yN V0 2 hS1 K21) ?_
 rintro _ w_1 ⟨b1,rfl,hS2⟩
 refine sQ 5 (yg (.bool false)) (rn (cq (cq (cr ?_))))
 refine sQ 8 (yb (aD b) 0 V1 K12 K7 (hS2.c 0)) ?_
 obtain ⟨r_2,hc,hF⟩:=bI hF
 refine sc 9 rfl rfl (yC [.agg V1.toArray] KZ (LL c B c1 c.Gates.length _ rfl (hS2.inn0 [(true,0)] rfl) hc)) ?_
 rintro _ w_2 ⟨rfl,hd⟩
 have hS3:=hS2.out00 hd
 refine sQ 10 (Y_not (p:=r_2) rfl rfl)<|sQ 11 (ym (.bool (!r_2))) ?_
 refine sgq 12 (B:=(!(!r_2))) (v:=pt (aD b) 0) rfl rfl (uF_ 11) (fun hg=>(yd (aD b) 0 0 K36 K0)) ?_
 refine sgq 13 (B:=(!(!r_2))) rfl rfl (uF_ 11) (fun hg1=>(yl (aD b) 0 V1 (vi c.Qubits) K1 (hS3.c 0) rfl (gv_of (v:=pt (aD b) 0) hg1))) ?_
 refine sgq 14 (B:=(!(!r_2))) rfl rfl (uF_ 11) (fun hg2=>(ym (.slice B1 terms.length c2))) ?_
 obtain ⟨r_3,hc1,hF⟩:=bI hF
 refine sgc 15 (B:=(!(!r_2))) (v:=.bool r_3) (F:=hS3.fn) rfl rfl (uF_ 11) hS3 (fun hg3=>(yC [vi c.Qubits,.slice B1 terms.length c2] Ii (CV.mono (JD c.Qubits terms B1 c2 terms.length _ rfl (hS3.inn0 [(true,1)] rfl) (gb_inv hc1 hg3)) (by rintro _ _ ⟨rfl,h⟩; exact ⟨rfl,hS3.out00 h⟩)) rfl (mc (gv_of (v:=vi c.Qubits) hg3) (mc (gv_of (v:=.slice B1 terms.length c2) hg3) mn)))) ?_
 rintro w_3 hS4
 refine sgq 16 (B:=(!(!r_2))) (v:=.bool (!r_3)) rfl rfl (uF_ 11) (fun hg4=>(Y_not (p:=r_3) rfl (gv_of (v:=.bool r_3) hg4))) ?_
 refine sQ 17 (Y_or (b:=(!r_2)) (z:=(!r_3)) rfl rfl rfl rfl) (rn ?_)
 refine cw_cond (b:=((!r_2)||(!r_3))) rfl (fun hb=>?_) (fun hb=>?_)
 ·skip
  have hF1:=ct hF hb
  refine cq (cr ?_)
  refine sQ 18 (Y_buildS (zs:=V0) (vs:=[]) (cs:=V0) K46 K21 rfl mpn rfl) ?_
  refine s0 (yT 1 2 (aD b1) 32 (.agg V0.toArray) V0 0 hS4 K7) ?_
  rintro _ w_4 ⟨rfl,hS5⟩
  refine sQ 5 (yg (.bool false)) (rn (ct_ ?_))
  have hS6:=hS5.addNil 59
  obtain ⟨rfl,rfl⟩:=pr2 (sI hF1)
  exact ret2 Tryz.results8 (v1:=.agg V0.toArray) (resAt_cellA (B:=aD b1) (i:=0) (cs:=V0) (vs:=V0) rfl K12 K7 (hS6.c 1) rfl rfl) (v2:=.bool false) (resAt_tmp rfl) ⟨none,0,rfl,(hS6.sN [2])⟩
 ·skip
  have hF2:=cf' hF hb
  refine cw_skip (cq (cr ?_))
  refine sQ 20 (yd (aD b) 0 0 K36 K0)<|sQ 21 (yl (aD b) 0 V1 (vi c.Qubits) K1 (hS4.c 0))<|sQ 22 (yd (aD b) 0 0 K17 K11)<|sQ 23 (yl (aD b) 1 V1 (.slice B c.Gates.length c1) K18 (hS4.c 0))<|sQ 24 (ym (.slice B1 terms.length c2)) ?_
  obtain ⟨⟨r_4,r_5⟩,hc2,hF2⟩:=bI hF2
  refine sc 25 rfl rfl (yC [vi c.Qubits,.slice B c.Gates.length c1,.slice B1 terms.length c2] Km (KC c.Qubits c.Gates terms B c1 c.Gates.length B1 c2 terms.length _ rfl rfl (hS4.inn0 [(true,0),(true,1)] rfl) hc2)) ?_
  rintro _ w_5 ⟨B3,c4,rfl,hd1⟩
  have hS7:=hS4.out0 hd1
  refine sQ 19 (ym (.tuple #[.slice B3 r_4.length c4,.bool r_5]))<|sQ 26 (ye (.slice B3 r_4.length c4))<|sQ 27 (ye (.bool r_5))<|sQ 6 (yg (.slice B3 r_4.length c4))<|sQ 7 (yg (.bool r_5)) (rn (cq (cq (cr ?_))))
  refine sQ 28 (ym (.bool r_5))<|sQ 29 (Y_not (p:=r_5) rfl rfl) (rn ?_)
  refine cw_cond (b:=(!r_5)) rfl (fun hb1=>?_) (fun hb1=>?_)
  ·skip
   have hF3:=ct hF2 hb1
   refine cq (cr ?_)
   refine sQ 30 (Y_buildS (zs:=V0) (vs:=[]) (cs:=V0) K46 K21 rfl mpn rfl) ?_
   refine s0 (yT 1 2 (aD b1) 32 (.agg V0.toArray) V0 0 hS7 K7) ?_
   rintro _ w_6 ⟨rfl,hS8⟩
   refine sQ 5 (yg (.bool false)) (rn (ct_ ?_))
   have hS9:=hS8.addNil 59
   obtain ⟨rfl,rfl⟩:=pr2 (sI hF3)
   exact ret2 Tryz.results8 (v1:=.agg V0.toArray) (resAt_cellA (B:=aD b1) (i:=0) (cs:=V0) (vs:=V0) rfl K12 K7 (hS9.c 1) rfl rfl) (v2:=.bool false) (resAt_tmp rfl) ⟨none,0,rfl,(hS9.sN [3])⟩
  ·skip
   have hF4:=cf' hF2 hb1
   refine cw_skip (cq (cr ?_))
   refine sQ 31 (yd (aD b) 0 0 K36 K0)<|sQ 32 (yl (aD b) 0 V1 (vi c.Qubits) K1 (hS7.c 0))<|sQ 33 (ym (.slice B3 r_4.length c4)) ?_
   obtain ⟨⟨r_6,r_7⟩,hc3,hF4⟩:=bI hF4
   refine sc 34 rfl rfl (yC [vi c.Qubits,.slice B3 r_4.length c4] Ir (Ij c.Qubits r_4 B3 c4 r_4.length _ rfl (hS7.inn0 [(false,2)] rfl) hc3)) ?_
   rintro _ w_7 ⟨B4,c5,rfl,hd2⟩
   have hS10:=hS7.out0 hd2
   let V2:List Value:=[vi r_6.Qubits,.slice B4 r_6.Gates.length c5]
   refine sQ 35 (ye (.agg V2.toArray))<|sQ 36 (ye (.bool r_7)) ?_
   refine s0 (yT 1 2 (aD b1) 32 (.agg V2.toArray) V2 0 hS10 K7) ?_
   rintro _ w_8 ⟨rfl,hS11⟩
   refine sQ 5 (yg (.bool r_7)) (rn (ct_ ?_))
   obtain ⟨rfl,rfl⟩:=pr2 (sI hF4)
   exact ret2 Tryz.results8 (v1:=.agg V2.toArray) (resAt_cellA (B:=aD b1) (i:=0) (cs:=V2) (vs:=V2) rfl K12 K7 (hS11.c 1) rfl rfl) (v2:=.bool r_7) (resAt_tmp rfl) ⟨B4,c5,rfl,(hS11.sN [3])⟩

theorem NU (c:Ae) (terms:List Ab) (B:Option Addr) (c1 n:Nat) (B1:Option Addr) (c2 n1:Nat) (w0:World) (hn:c.Gates.length=n) (hn1:terms.length=n1) (hS:ST w0 [] w0 [] [⟨B,(c.Gates.flatMap eN0)⟩,⟨B1,(terms.flatMap eN1)⟩]) {r_:Ae} {r_1:Bool} (hF:DG c terms=some (r_,r_1)) :
  CV Tryz.prog 9 #[.agg #[vi c.Qubits,.slice B n c1],.slice B1 n1 c2] w0 (fun v w'=>∃ (B2:Option Addr) (c3:Nat),v=.tuple #[.agg #[vi r_.Qubits,.slice B2 r_.Gates.length c3],.bool r_1]∧ST w0 [] w' [⟨B2,59,(r_.Gates.flatMap eN0),c3*3⟩] []):=by
 subst hn
 subst hn1
 unfold DG at hF
 refine cv_of_cw 41 Tryz.func9 rfl Tryz.ntmps9 rfl ?_
 refine cq (cr ?_)
 let V0:List Value:=[vi c.Qubits,.slice B c.Gates.length c1]
 refine sS 2 (yB 32 (.agg V0.toArray) V0 2 hS) ?_
 rintro _ w_ ⟨b,rfl,hS1⟩
 let V1:List Value:=[vi 0,.slice none 0 0]
 refine sS 4 (yN V1 2 hS1 K21) ?_
 rintro _ w_1 ⟨b1,rfl,hS2⟩
 refine sQ 5 (yg (.bool false)) (rn (cq (cq ?_)))
 obtain ⟨r_2,hc,hF⟩:=bI hF
 refine cw_split (B:=(!(!r_2))) (fun hb=>?_) (fun hb=>?_)
 ·skip
  have hF1:=ct hF hb
  obtain ⟨r_3,hc1,hF1⟩:=bI hF1
  obtain ⟨r_4,hc2,hF1⟩:=bI hF1
  refine ra_start (hS2.se [0,1]).fn (by kernel_rfl) ?_
  have hS6:=hS2.drew
  refine rq 0 8 (v:=.agg V0.toArray) rfl (hS6.se [0,1]) (fun w' hw'=>(yb (aD b) 0 V0 K12 K7 (ST.cf hw' (i:=0) rfl))) ?_
  refine rA [1] ?_
  refine rC 9 1 rfl (yC [.agg V0.toArray] G3 (GZ c B c1 c.Gates.length _ rfl (hS6.inn0 [(true,0)] rfl) hc)) ?_ aN
  rintro _ w_2 ⟨rfl,hd⟩
  have hS7:=hS6.out00 hd
  have hQ0:=hS7.se [0,1]
  refine ⟨hQ0,?_⟩
  refine rq 2 10 (v:=.bool (!r_2)) rfl hQ0 (fun w' hw'=>(Y_not (p:=r_2) rfl rfl))<|rq 3 11 rfl hQ0 (fun w' hw'=>(ym (.bool (!r_2))))<|rG 4 12 (B:=(!(!r_2))) (v:=pt (aD b) 0) rfl rfl rfl (uF_ 11) hQ0 (fun hg w' hw'=>(yd (aD b) 0 0 K36 K0))<|rG 5 13 (B:=(!(!r_2))) rfl rfl rfl (uF_ 11) hQ0 (fun hg1 w' hw'=>(yl (aD b) 0 V0 (vi c.Qubits) K1 (ST.cf hw' (i:=0) rfl) rfl (gv_of (v:=pt (aD b) 0) hg1)))<|rG 6 14 (B:=(!(!r_2))) rfl rfl rfl (uF_ 11) hQ0 (fun hg2 w' hw'=>(ym (.slice B1 terms.length c2))) ?_
  refine rG 7 15 (B:=(!(!r_2))) (v:=pt (aD b) 0) rfl rfl rfl (uF_ 11) hQ0 (fun hg3 w' hw'=>(yd (aD b) 0 0 K36 K0))<|rG 8 16 (B:=(!(!r_2))) rfl rfl rfl (uF_ 11) hQ0 (fun hg4 w' hw'=>(yl (aD b) 0 V0 (vi c.Qubits) K1 (ST.cf hw' (i:=0) rfl) rfl (gv_of (v:=pt (aD b) 0) hg4))) ?_
  refine rA [9] ?_
  refine ra_cg 17 (i:=9) rfl rfl rfl (uF_ 11) hb (yC [vi c.Qubits] K76 (DM c.Qubits _  (hS7.inn0 [] rfl) hc1) rfl (mc (gv_of (v:=vi c.Qubits) hb) mn)) ?_ ?_
  ·rintro _ w_3 ⟨B3,c4,rfl,hd1⟩
   have hS8:=hS7.out0 hd1
   refine ⟨(hS8.se [0,1]),?_⟩
   let V3:List Value:=[vi c.Qubits,vi 0,.slice B1 terms.length c2,.slice B3 r_3.Rows.length c4]
   refine ra_qg 10 18 (B:=(!(!r_2))) (v:=.agg V3.toArray) rfl rfl rfl (uF_ 11) hb (by kernel_rfl) (by kernel_rfl) (by kernel_rfl) (hS8.se [0,1]) (fun w' hw'=>(Y_buildS (zs:=[vi 0,vi 0,.slice none 0 0,.slice none 0 0]) (vs:=[(0,vi c.Qubits),(2,.slice B1 terms.length c2),(3,.agg #[.slice B3 r_3.Rows.length c4])]) (cs:=V3) K62 K34 rfl (mpc (gv_of (v:=vi c.Qubits) hb) (mpc (gv_of (v:=.slice B1 terms.length c2) hb) (mpc rfl mpn))) rfl)) ?_
   refine rA [11] ?_
   refine ra_cg 19 (i:=11) rfl rfl rfl (uF_ 11) hb (yC [.agg V3.toArray] J0 (I3 (Ah.mk c.Qubits 0 terms r_3) B1 c2 terms.length B3 c4 r_3.Rows.length _ rfl rfl (hS8.inn0 [(true,1),(false,2)] rfl) hc2)) ?_ ?_
   ·rintro _ w_4 ⟨rfl,hd2⟩
    have hS9:=hS8.out00 hd2
    have hQ1:=hS9.se [0,1]
    refine ⟨hQ1,?_⟩
    refine ra_qg 12 20 (B:=(!(!r_2))) (v:=.bool (!r_4)) rfl rfl rfl (uF_ 11) hb (by kernel_rfl) (by kernel_rfl) (by kernel_rfl) hQ1 (fun w' hw'=>(Y_not (p:=r_4) rfl rfl)) ?_
    refine rq 13 21 (v:=.bool (!r_4)) rfl hQ1 (fun w' hw'=>(Y_pickF (b:=(!r_2)) (v:=.bool (!r_4)) rfl rfl (nt hb) rfl)) ?_
    refine ra_done (by kernel_rfl) ?_
    refine cw_cond (b:=(!r_4)) rfl (fun hb1=>?_) (fun hb1=>?_)
    ·skip
     have hF2:=ct hF1 hb1
     refine cq (cr ?_)
     refine sQ 22 (Y_buildS (zs:=V1) (vs:=[]) (cs:=V1) K46 K21 rfl mpn rfl) ?_
     refine s0 (yT 1 2 (aD b1) 32 (.agg V1.toArray) V1 0 hS9 K7) ?_
     rintro _ w_5 ⟨rfl,hS10⟩
     refine sQ 5 (yg (.bool false)) (rn (ct_ ?_))
     have hS11:=hS10.addNil 59
     obtain ⟨rfl,rfl⟩:=pr2 (sI hF2)
     exact ret2 Tryz.results9 (v1:=.agg V1.toArray) (resAt_cellA (B:=aD b1) (i:=0) (cs:=V1) (vs:=V1) rfl K12 K7 (hS11.c 1) rfl rfl) (v2:=.bool false) (resAt_tmp rfl) ⟨none,0,rfl,(hS11.sN [3])⟩
    ·skip
     have hF3:=cf' hF1 hb1
     refine cw_skip (cq (cr ?_))
     refine sQ 24 (yb (aD b) 0 V0 K12 K7 (hS9.c 0))<|sQ 25 (ym (.slice B1 terms.length c2)) ?_
     obtain ⟨⟨r_5,r_6⟩,hc3,hF3⟩:=bI hF3
     refine sc 26 rfl rfl (yC [.agg V0.toArray,.slice B1 terms.length c2] JS (Ji c terms B c1 c.Gates.length B1 c2 terms.length _ rfl rfl (hS9.inn0 [(true,0),(true,1)] rfl) hc3)) ?_
     rintro _ w_6 ⟨B4,c5,rfl,hd3⟩
     have hS12:=hS9.out0 hd3
     let V2:List Value:=[vi r_5.Qubits,.slice B4 r_5.Gates.length c5]
     refine sQ 23 (ym (.tuple #[.agg V2.toArray,vi r_6]))<|sQ 27 (ye (.agg V2.toArray))<|sQ 28 (ye (vi r_6)) ?_
     refine sS 6 (yN V1 2 hS12 K21) ?_
     rintro _ w_7 ⟨b2,rfl,hS13⟩
     refine s0 (yT 4 2 (aD b2) 32 (.agg V2.toArray) V2 0 hS13 K7) ?_
     rintro _ w_8 ⟨rfl,hS14⟩
     refine sQ 7 (yg (vi r_6)) (rn (cq (cq (cr ?_))))
     refine sQ 29 (ym (vi r_6))<|sQ 30 (ym (.slice B1 terms.length c2))<|sQ 31 (Y_len (B:=B1) (m:=terms.length) (c:=c2) K14 rfl rfl)<|sQ 32 (yL r_6 (terms.length:Int))<|sQ 33 (ym (.bool (decide (r_6<(terms.length:Int))))) ?_
     refine sgq 34 (B:=(!(decide (r_6<(terms.length:Int))))) (v:=pt (aD b2) 1) rfl rfl (uF_ 33) (fun hg5=>(yd (aD b2) 0 0 K17 K11)) ?_
     refine sgq 35 (B:=(!(decide (r_6<(terms.length:Int))))) rfl rfl (uF_ 33) (fun hg6=>(yl (aD b2) 1 V2 (.slice B4 r_5.Gates.length c5) K18 (hS14.c 4) rfl (gv_of (v:=pt (aD b2) 1) hg6))) ?_
     refine sgq 36 (B:=(!(decide (r_6<(terms.length:Int))))) (v:=vi (r_5.Gates.length:Int)) rfl rfl (uF_ 33) (fun hg7=>(Y_len (B:=B4) (m:=r_5.Gates.length) (c:=c5) K4 rfl (gv_of (v:=.slice B4 r_5.Gates.length c5) hg7))) ?_
     refine sgq 37 (B:=(!(decide (r_6<(terms.length:Int))))) rfl rfl (uF_ 33) (fun hg8=>(Y_gt (k:=.i64) (a:=(r_5.Gates.length:Int)) (b:=400) rfl (gv_of (v:=vi (r_5.Gates.length:Int)) hg8) rfl)) ?_
     refine sQ 38 (Y_or (b:=(decide (r_6<(terms.length:Int)))) (z:=(decide (400<(r_5.Gates.length:Int)))) rfl rfl rfl rfl) (rn ?_)
     refine cw_cond (b:=((decide (r_6<(terms.length:Int)))||(decide (400<(r_5.Gates.length:Int))))) rfl (fun hb2=>?_) (fun hb2=>?_)
     ·skip
      have hF4:=ct hF3 hb2
      refine cq (cr ?_)
      refine sQ 39 (Y_buildS (zs:=V1) (vs:=[]) (cs:=V1) K46 K21 rfl mpn rfl) ?_
      refine s0 (yT 1 2 (aD b1) 32 (.agg V1.toArray) V1 0 hS14 K7) ?_
      rintro _ w_9 ⟨rfl,hS15⟩
      refine sQ 5 (yg (.bool false)) (rn (ct_ ?_))
      have hS16:=hS15.addNil 59
      obtain ⟨rfl,rfl⟩:=pr2 (sI hF4)
      exact ret2 Tryz.results9 (v1:=.agg V1.toArray) (resAt_cellA (B:=aD b1) (i:=0) (cs:=V1) (vs:=V1) rfl K12 K7 (hS16.c 1) rfl rfl) (v2:=.bool false) (resAt_tmp rfl) ⟨none,0,rfl,(hS16.sN [5])⟩
     ·skip
      have hF5:=cf' hF3 hb2
      refine cw_skip (cq (cr ?_))
      refine sQ 40 (yb (aD b2) 0 V2 K12 K7 (hS14.c 4)) ?_
      refine s0 (yT 1 2 (aD b1) 32 (.agg V2.toArray) V2 0 hS14 K7) ?_
      rintro _ w_10 ⟨rfl,hS17⟩
      refine sQ 5 (yg (.bool true)) (rn (ct_ ?_))
      obtain ⟨rfl,rfl⟩:=pr2 (sI hF5)
      exact ret2 Tryz.results9 (v1:=.agg V2.toArray) (resAt_cellA (B:=aD b1) (i:=0) (cs:=V2) (vs:=V2) rfl K12 K7 (hS17.c 1) rfl rfl) (v2:=.bool true) (resAt_tmp rfl) ⟨B4,c5,rfl,(hS17.sN [3])⟩
   exact aN
  exact aN
 ·skip
  have hF6:=cf' hF hb
  refine ra_start (hS2.se [0,1]).fn (by kernel_rfl) ?_
  have hS18:=hS2.drew
  refine rq 0 8 (v:=.agg V0.toArray) rfl (hS18.se [0,1]) (fun w' hw'=>(yb (aD b) 0 V0 K12 K7 (ST.cf hw' (i:=0) rfl))) ?_
  refine rA [1] ?_
  refine rC 9 1 rfl (yC [.agg V0.toArray] G3 (GZ c B c1 c.Gates.length _ rfl (hS18.inn0 [(true,0)] rfl) hc)) ?_ aN
  rintro _ w_11 ⟨rfl,hd4⟩
  have hS19:=hS18.out00 hd4
  have hQ2:=hS19.se [0,1]
  refine ⟨hQ2,?_⟩
  refine rq 2 10 (v:=.bool (!r_2)) rfl hQ2 (fun w' hw'=>(Y_not (p:=r_2) rfl rfl))<|rq 3 11 rfl hQ2 (fun w' hw'=>(ym (.bool (!r_2))))<|rG 4 12 (B:=(!(!r_2))) (v:=pt (aD b) 0) rfl rfl rfl (uF_ 11) hQ2 (fun hg w' hw'=>(yd (aD b) 0 0 K36 K0))<|rG 5 13 (B:=(!(!r_2))) rfl rfl rfl (uF_ 11) hQ2 (fun hg1 w' hw'=>(yl (aD b) 0 V0 (vi c.Qubits) K1 (ST.cf hw' (i:=0) rfl) rfl (gv_of (v:=pt (aD b) 0) hg1)))<|rG 6 14 (B:=(!(!r_2))) rfl rfl rfl (uF_ 11) hQ2 (fun hg2 w' hw'=>(ym (.slice B1 terms.length c2))) ?_
  refine rG 7 15 (B:=(!(!r_2))) (v:=pt (aD b) 0) rfl rfl rfl (uF_ 11) hQ2 (fun hg3 w' hw'=>(yd (aD b) 0 0 K36 K0))<|rG 8 16 (B:=(!(!r_2))) rfl rfl rfl (uF_ 11) hQ2 (fun hg4 w' hw'=>(yl (aD b) 0 V0 (vi c.Qubits) K1 (ST.cf hw' (i:=0) rfl) rfl (gv_of (v:=pt (aD b) 0) hg4)))<|rG 9 17 (B:=(!(!r_2))) (v:=undef) rfl rfl rfl (uF_ 11) hQ2 (fun hg _ _=>nomatch (hg.symm.trans hb))<|rG 10 18 (B:=(!(!r_2))) (v:=undef) rfl rfl rfl (uF_ 11) hQ2 (fun hg _ _=>nomatch (hg.symm.trans hb))<|rG 11 19 (B:=(!(!r_2))) (v:=undef) rfl rfl rfl (uF_ 11) hQ2 (fun hg _ _=>nomatch (hg.symm.trans hb)) ?_
  refine rG 12 20 (B:=(!(!r_2))) (v:=undef) rfl rfl rfl (uF_ 11) hQ2 (fun hg _ _=>nomatch (hg.symm.trans hb))<|rq 13 21 (v:=.bool true) rfl hQ2 (fun w' hw'=>(Y_pickT (b:=(!r_2)) (v:=.bool true) rfl rfl (nf hb) rfl)) ?_
  refine ra_done (by kernel_rfl) ?_
  refine cw_cond (b:=true) rfl (fun _=>?_) (fun h=>by cases h)
  refine cq (cr ?_)
  refine sQ 22 (Y_buildS (zs:=V1) (vs:=[]) (cs:=V1) K46 K21 rfl mpn rfl) ?_
  refine s0 (yT 1 2 (aD b1) 32 (.agg V1.toArray) V1 0 hS19 K7) ?_
  rintro _ w_12 ⟨rfl,hS20⟩
  refine sQ 5 (yg (.bool false)) (rn (ct_ ?_))
  have hS21:=hS20.addNil 59
  obtain ⟨rfl,rfl⟩:=pr2 (sI hF6)
  exact ret2 Tryz.results9 (v1:=.agg V1.toArray) (resAt_cellA (B:=aD b1) (i:=0) (cs:=V1) (vs:=V1) rfl K12 K7 (hS21.c 1) rfl rfl) (v2:=.bool false) (resAt_tmp rfl) ⟨none,0,rfl,(hS21.sN [2])⟩

theorem LZ (s1:List Aa) (s2:List Aa) (B:Option Addr) (c n:Nat) (B1:Option Addr) (c1 n1:Nat) (w0:World) (hn:s1.length=n) (hn1:s2.length=n1) (hS:ST w0 [] w0 [] [⟨B,(s1.flatMap eN0)⟩,⟨B1,(s2.flatMap eN0)⟩]) {r_:Bool} (hF:EM s1 s2=some r_) :
  CV Tryz.prog 44 #[.slice B n c,.slice B1 n1 c1] w0 (fun v w'=>v=.bool r_∧ST w0 [] w' [] []):=by
 subst hn
 subst hn1
 unfold EM at hF
 refine cv_of_cw 26 Tryz.func44 rfl Tryz.ntmps44 rfl ?_
 refine cq (cr ?_)
 refine sQ 4 (yg (.bool false)) (rn (cq (cq (cr ?_))))
 refine sQ 6 (ym (.slice B s1.length c))<|sQ 7 (Y_len (B:=B) (m:=s1.length) (c:=c) K4 rfl rfl)<|sQ 8 (ym (.slice B1 s2.length c1))<|sQ 9 (Y_len (B:=B1) (m:=s2.length) (c:=c1) K4 rfl rfl)<|sQ 10 (Y_ne (k:=.i64) (a:=(s1.length:Int)) (b:=(s2.length:Int)) rfl rfl rfl) (rn ?_)
 refine cw_cond (b:=((s1.length:Int) != (s2.length:Int))) rfl (fun hb=>?_) (fun hb=>?_)
 ·skip
  have hF1:=ct hF hb
  refine cq (cr ?_)
  refine sQ 4 (yg (.bool false)) (rn (ct_ ?_))
  obtain rfl:=sI hF1
  exact ret1 Tryz.results44 (v1:=.bool false) (resAt_tmp rfl) ⟨rfl,(hS.sN [])⟩
 ·skip
  have hF2:=cf' hF hb
  refine cw_skip (cq (cq (cr ?_)))
  refine sQ 11 (ym (.slice B s1.length c))<|sQ 12 (Y_len (B:=B) (m:=s1.length) (c:=c) K4 rfl rfl)<|sQ 13 (ym (vi 0)) (rn ?_)
  obtain ⟨hN,hF2⟩:=chk_inv hF2
  obtain ⟨z,hz,hF3⟩:=bI hF2
  refine cw_block ?_
  refine cw_loop (fun k f w=>∃ (i:Nat),FF f [(0,.slice B s1.length c),(1,.slice B1 s2.length c1),(12,vi (s1.length:Int)),(13,vi (i:Int))]∧ST w0 [] w [] [⟨B,(s1.flatMap eN0)⟩,⟨B1,(s2.flatMap eN0)⟩]∧i+k=s1.length∧forX (Fd s1 s2) k i ()=some z) s1.length ⟨0,(fc rfl (fc rfl (fc rfl (fc rfl fn_)))),(hS.sel [] rfl rfl),Nat.zero_add _,hz⟩ ?_
  rintro k_ f w ⟨i,hf,hS1,hik,hL⟩
  refine cq (cr ?_)
  refine sQ 14 (yL (i:Int) (s1.length:Int) rfl (hf.g 13 3) (hf.g 12 2)) (rn (cq ?_))
  refine cw_cond (b:=(decide ((i:Int)<(s1.length:Int)))) rfl (fun hlt=>?_) (fun hlt=>?_)
  ·skip
   have hlt1:i<s1.length:=by have h:=of_decide_eq_true hlt; omega
   obtain ⟨K5,rfl⟩:∃ k2,k_=k2+1:=⟨k_-1,by omega⟩
   obtain ⟨y,hb1,hL1⟩:=forX_go hL
   unfold Fd at hb1
   refine cw_skip (cq (cw_block (cq (cr ?_))))
   refine sQ 15 (ym (vi (i:Int)) rfl (hf.g 13 3))<|sQ 5 (yg (vi (i:Int))) (rn (cq ?_))
   obtain ⟨x,hx,hb1⟩:=bI hb1
   obtain ⟨x1,hx1,hb1⟩:=bI hb1
   refine ra_start (hS1.se []).fn (by kernel_rfl) ?_
   have hS2:=hS1.drew
   have hQ0:=hS2.se []
   let V1:List Value:=[vi x.Kind,vi x.A,vi x.B]
   refine rq 0 16 rfl hQ0 (fun w' hw'=>(ym (.slice B s1.length c) rfl (hf.g 0 0)))<|rq 1 17 rfl hQ0 (fun w' hw'=>(ym (vi (i:Int))))<|rq 2 18 (v:=pt B ((i:Int).toNat*3)) rfl hQ0 (fun w' hw'=>(yI B (i:Int) K4 K3 (gi_isSome eN2 rfl (ST.rf hw' (i:=0) rfl) hx) (getI_nn hx) (getI_ltI hx rfl)))<|rq 3 19 (v:=.agg V1.toArray) rfl hQ0 (fun w' hw'=>(ya B ((i:Int).toNat*3) (s1.flatMap eN0) V1 K30 K3 (ST.rf hw' (i:=0) rfl) rfl rfl (eN2 x) (gi_seg eN2 hx)))<|rq 4 20 rfl hQ0 (fun w' hw'=>(ym (.slice B1 s2.length c1) rfl (hf.g 1 1))) ?_
   let V0:List Value:=[vi x1.Kind,vi x1.A,vi x1.B]
   refine rq 5 21 rfl hQ0 (fun w' hw'=>(ym (vi (i:Int))))<|rq 6 22 (v:=pt B1 ((i:Int).toNat*3)) rfl hQ0 (fun w' hw'=>(yI B1 (i:Int) K4 K3 (gi_isSome eN2 rfl (ST.rf hw' (i:=1) rfl) hx1) (getI_nn hx1) (getI_ltI hx1 rfl)))<|rq 7 23 (v:=.agg V0.toArray) rfl hQ0 (fun w' hw'=>(ya B1 ((i:Int).toNat*3) (s2.flatMap eN0) V0 K30 K3 (ST.rf hw' (i:=1) rfl) rfl rfl (eN2 x1) (gi_seg eN2 hx1)))<|rq 8 24 (v:=.bool (!((x.Kind==x1.Kind)&&((x.A==x1.A)&&((x.B==x1.B)&&true))))) rfl hQ0 (fun w' hw'=>(Y_neA (xs:=V1.toArray) (ys:=V0.toArray) (b:=((x.Kind==x1.Kind)&&((x.A==x1.A)&&((x.B==x1.B)&&true)))) L0 rfl rfl rfl (eqr_struct (xs:=V1) (ys:=V0) Ny Oy (pts_sc K1 rfl rfl (eqr_int K54) (pts_sc K1 rfl rfl (eqr_int K54) (pts_sc K1 rfl rfl (eqr_int K54) pts_nil)))))) ?_
   refine ra_done (by kernel_rfl) ?_
   refine cw_cond (b:=(!((x.Kind==x1.Kind)&&((x.A==x1.A)&&((x.B==x1.B)&&true))))) rfl (fun hb2=>?_) (fun hb2=>?_)
   ·skip
    have hF4:=ct hb1 hb2
    refine cq (cr ?_)
    refine sQ 4 (yg (.bool false)) (rn (ct_ ?_))
    obtain rfl:=sI hF4
    obtain rfl:=sI hL1
    obtain rfl:=sI hF3
    exact ret1 Tryz.results44 (v1:=.bool false) (resAt_tmp rfl) ⟨rfl,(hS2.sN [])⟩
   ·skip
    have hF5:=cf' hb1 hb2
    refine cw_skip (cr ?_)
    refine sQ 25 (yP (i:Int) 1 rfl (hf.g 13 3))<|sQ 13 (ym (vi (i64.wrap ((i:Int)+1)))) (rn ?_)
    obtain rfl:=sI hF5
    exact ⟨K5,Nat.lt_succ_self _,i+1,(hf.a 0 0 (hf.a 1 1 (hf.a 12 2 (fc (congrArg (Value.int .i64) (wr_succ hlt1 hN)) fn_)))),(hS2.sel [] rfl rfl),(by omega),hL1⟩
  ·skip
   obtain rfl:k_=0:=by have h:=of_decide_eq_false hlt; omega
   refine cw_exit rfl ?_
   obtain rfl:=sI hL
   refine cq (cr ?_)
   refine sQ 4 (yg (.bool true)) (rn (ct_ ?_))
   obtain rfl:=sI hF3
   exact ret1 Tryz.results44 (v1:=.bool true) (resAt_tmp rfl) ⟨rfl,(hS1.sN [])⟩

theorem JB (a:Ae) (b:Ae) (B:Option Addr) (c n:Nat) (B1:Option Addr) (c1 n1:Nat) (w0:World) (hn:a.Gates.length=n) (hn1:b.Gates.length=n1) (hS:ST w0 [] w0 [] [⟨B,(a.Gates.flatMap eN0)⟩,⟨B1,(b.Gates.flatMap eN0)⟩]) {r_:Bool} (hF:Do a b=some r_) :
  CV Tryz.prog 10 #[.agg #[vi a.Qubits,.slice B n c],.agg #[vi b.Qubits,.slice B1 n1 c1]] w0 (fun v w'=>v=.bool r_∧ST w0 [] w' [] []):=by
 subst hn
 subst hn1
 unfold Do at hF
 refine cv_of_cw 17 Tryz.func10 rfl Tryz.ntmps10 rfl ?_
 refine cq (cr ?_)
 let V1:List Value:=[vi a.Qubits,.slice B a.Gates.length c]
 refine sS 2 (yB 32 (.agg V1.toArray) V1 2 hS) ?_
 rintro _ w_ ⟨b1,rfl,hS1⟩
 let V0:List Value:=[vi b.Qubits,.slice B1 b.Gates.length c1]
 refine sS 3 (yB 32 (.agg V0.toArray) V0 2 hS1) ?_
 rintro _ w_1 ⟨b2,rfl,hS2⟩
 refine sQ 4 (yg (.bool false)) (rn (cq (cr ?_)))
 refine sQ 5 (yd (aD b1) 0 0 K36 K0)<|sQ 6 (yl (aD b1) 0 V1 (vi a.Qubits) K1 (hS2.c 0))<|sQ 7 (yd (aD b2) 0 0 K36 K0)<|sQ 8 (yl (aD b2) 0 V0 (vi b.Qubits) K1 (hS2.c 1))<|sQ 9 (yE a.Qubits b.Qubits)<|sQ 10 (ym (.bool (a.Qubits==b.Qubits))) ?_
 refine sgq 11 (B:=(a.Qubits==b.Qubits)) (v:=pt (aD b1) 1) rfl rfl (uT_ 10) (fun hg=>(yd (aD b1) 0 0 K17 K11)) ?_
 refine sgq 12 (B:=(a.Qubits==b.Qubits)) rfl rfl (uT_ 10) (fun hg1=>(yl (aD b1) 1 V1 (.slice B a.Gates.length c) K18 (hS2.c 0) rfl (gv_of (v:=pt (aD b1) 1) hg1))) ?_
 refine sgq 13 (B:=(a.Qubits==b.Qubits)) (v:=pt (aD b2) 1) rfl rfl (uT_ 10) (fun hg2=>(yd (aD b2) 0 0 K17 K11)) ?_
 refine sgq 14 (B:=(a.Qubits==b.Qubits)) rfl rfl (uT_ 10) (fun hg3=>(yl (aD b2) 1 V0 (.slice B1 b.Gates.length c1) K18 (hS2.c 1) rfl (gv_of (v:=pt (aD b2) 1) hg3))) ?_
 obtain ⟨r_1,hc,hF⟩:=bI hF
 refine sgc 15 (B:=(a.Qubits==b.Qubits)) (v:=.bool r_1) (F:=hS2.fn) rfl rfl (uT_ 10) hS2 (fun hg4=>(yC [.slice B a.Gates.length c,.slice B1 b.Gates.length c1] Mq (CV.mono (LZ a.Gates b.Gates B c a.Gates.length B1 c1 b.Gates.length _ rfl rfl (hS2.inn0 [(true,0),(true,1)] rfl) (gb_inv hc hg4)) (by rintro _ _ ⟨rfl,h⟩; exact ⟨rfl,hS2.out00 h⟩)) rfl (mc (gv_of (v:=.slice B a.Gates.length c) hg4) (mc (gv_of (v:=.slice B1 b.Gates.length c1) hg4) mn)))) ?_
 rintro w_2 hS3
 refine sQ 16 (Y_and (b:=(a.Qubits==b.Qubits)) (z:=r_1) rfl rfl rfl rfl)<|sQ 4 (yg (.bool ((a.Qubits==b.Qubits)&&r_1))) (rn (ct_ ?_))
 obtain rfl:=sI hF
 exact ret1 Tryz.results10 (v1:=.bool ((a.Qubits==b.Qubits)&&r_1)) (resAt_tmp rfl) ⟨rfl,(hS3.sN [])⟩

theorem F5 (c:List Int) (mask:Int) (coef:Int) (B:Option Addr) (w0:World) (hlen:c.length=32) (hS:ST w0 (bl [⟨B,86,(c.flatMap encI),32⟩]) w0 [⟨B,86,(c.flatMap encI),32⟩] []) {m:List Int} (hF:AU c mask coef=some m) :
  CV Tryz.prog 47 #[pt B 0,vi mask,vi coef] w0 (fun v w'=>v=.tuple #[]∧m.length=32∧ST w0 (bl [⟨B,86,(c.flatMap encI),32⟩]) w' [⟨B,86,(m.flatMap encI),32⟩] []):=by
 unfold AU at hF
 refine cv_of_cw 20 Tryz.func47 rfl Tryz.ntmps47 rfl ?_
 obtain ⟨x,hx,hF⟩:=bI hF
 refine ra_start (hS.se []).fn (by kernel_rfl) ?_
 have hS1:=hS.drew
 have hQ0:=hS1.se []
 refine rq 0 6 rfl hQ0 (fun w' hw'=>(ym (pt B 0)))<|rq 1 7 rfl hQ0 (fun w' hw'=>(ym (vi mask)))<|rq 2 8 rfl hQ0 (fun w' hw'=>(ym (pt B 0)))<|rq 3 9 rfl hQ0 (fun w' hw'=>(ym (vi mask)))<|rq 4 10 (v:=pt B 0) rfl hQ0 (fun w' hw'=>(Y_nilCheck (B:=B) (i:=0) rfl rfl)) ?_
 refine rq 5 11 (v:=pt B (mask.toNat*1)) rfl hQ0 (fun w' hw'=>(Y_indexArr0 (B:=B) (k:=.i64) (i:=mask) K88 K0 rfl rfl rfl (getI_nn hx) (getI_ltI hx hlen)))<|rq 7 13 rfl hQ0 (fun w' hw'=>(ym (vi coef)))<|rq 12 18 (v:=pt B 0) rfl hQ0 (fun w' hw'=>(Y_nilCheck (B:=B) (i:=0) rfl rfl))<|r1 12 6 rfl (yl B (mask.toNat*1) (c.flatMap encI) (vi x) K1 (hS1.c 0) rfl rfl (gi_at0 encI_len hx rfl)) hQ0<|rq 8 14 rfl hQ0 (fun w' hw'=>(yP x coef)) ?_
 refine rq 9 15 (v:=vi (Int.tmod (i64.wrap (x+coef)) 8)) rfl hQ0 (fun w' hw'=>(Y_rem (k:=.i64) (a:=(i64.wrap (x+coef))) (b:=8) rfl rfl rfl (by decide)))<|rq 10 16 rfl hQ0 (fun w' hw'=>(yP (Int.tmod (i64.wrap (x+coef)) 8) 8))<|rq 11 17 (v:=vi (Int.tmod (i64.wrap ((Int.tmod (i64.wrap (x+coef)) 8)+8)) 8)) rfl hQ0 (fun w' hw'=>(Y_rem (k:=.i64) (a:=(i64.wrap ((Int.tmod (i64.wrap (x+coef)) 8)+8))) (b:=8) rfl rfl rfl (by decide)))<|rq 13 19 (v:=pt B (mask.toNat*1)) rfl hQ0 (fun w' hw'=>(Y_indexArr0 (B:=B) (k:=.i64) (i:=mask) K88 K0 rfl rfl rfl (getI_nn hx) (getI_ltI hx hlen))) ?_
 refine rA [14] ?_
 refine rZ 14 rfl (yS 0 1 B 86 (vi (Int.tmod (i64.wrap ((Int.tmod (i64.wrap (x+coef)) 8)+8)) 8)) [vi (Int.tmod (i64.wrap ((Int.tmod (i64.wrap (x+coef)) 8)+8)) 8)] (mask.toNat*1) ((c.set mask.toNat (Int.tmod (i64.wrap ((Int.tmod (i64.wrap (x+coef)) 8)+8)) 8)).flatMap encI) hS1 K0 rfl rfl rfl rfl rfl rfl rfl (gi_fit0 encI_len hx) (gi_set encI_len hx (Int.tmod (i64.wrap ((Int.tmod (i64.wrap (x+coef)) 8)+8)) 8) rfl)) ?_ aN
 rintro _ w_ ⟨rfl,hS2⟩
 refine ⟨(hS2.se []),?_⟩
 refine ra_done (by kernel_rfl) ?_
 obtain rfl:=sI hF
 exact ret0 Tryz.results47  ⟨rfl,(set_len _ _ _ hlen),(hS2.sN [0])⟩

theorem Ls (kind:Int)  (w0:World)  (hS:ST w0 [] w0 [] []) {r_:Int} (hF:Dx kind=some r_) :
  CV Tryz.prog 48 #[vi kind] w0 (fun v w'=>v=vi r_∧ST w0 [] w' [] []):=by
 unfold Dx at hF
 refine cv_of_cw 14 Tryz.func48 rfl Tryz.ntmps48 rfl ?_
 refine cq (cr ?_)
 refine sQ 2 (yg (vi 0)) (rn (cq (cq (cr ?_))))
 refine sQ 3 (ym (vi kind)) (rn (cw_block (cq (cr ?_))))
 refine sQ 5 (yE kind 4)<|sQ 4 (yg (.bool (kind==4))) (rn ?_)
 refine cw_cond (b:=(kind==4)) rfl (fun hb=>?_) (fun hb=>?_)
 ·skip
  have hF1:=ct hF hb
  refine cq (cr ?_)
  refine sQ 2 (yg (vi 4)) (rn (ct_ ?_))
  obtain rfl:=sI hF1
  exact ret1 Tryz.results48 (v1:=vi 4) (resAt_tmp rfl) ⟨rfl,(hS.sN [])⟩
 ·skip
  have hF2:=cf' hF hb
  refine cq (cr ?_)
  refine sQ 7 (yE kind 5)<|sQ 6 (yg (.bool (kind==5))) (rn ?_)
  refine cw_cond (b:=(kind==5)) rfl (fun hb1=>?_) (fun hb1=>?_)
  ·skip
   have hF3:=ct hF2 hb1
   refine cq (cr ?_)
   refine sQ 2 (yg (vi 2)) (rn (ct_ ?_))
   obtain rfl:=sI hF3
   exact ret1 Tryz.results48 (v1:=vi 2) (resAt_tmp rfl) ⟨rfl,(hS.sN [])⟩
  ·skip
   have hF4:=cf' hF2 hb1
   refine cq (cr ?_)
   refine sQ 9 (yE kind 6)<|sQ 8 (yg (.bool (kind==6))) (rn ?_)
   refine cw_cond (b:=(kind==6)) rfl (fun hb2=>?_) (fun hb2=>?_)
   ·skip
    have hF5:=ct hF4 hb2
    refine cq (cr ?_)
    refine sQ 2 (yg (vi 6)) (rn (ct_ ?_))
    obtain rfl:=sI hF5
    exact ret1 Tryz.results48 (v1:=vi 6) (resAt_tmp rfl) ⟨rfl,(hS.sN [])⟩
   ·skip
    have hF6:=cf' hF4 hb2
    refine cq (cr ?_)
    refine sQ 11 (yE kind 7)<|sQ 10 (yg (.bool (kind==7))) (rn ?_)
    refine cw_cond (b:=(kind==7)) rfl (fun hb3=>?_) (fun hb3=>?_)
    ·skip
     have hF7:=ct hF6 hb3
     refine cq (cr ?_)
     refine sQ 2 (yg (vi 1)) (rn (ct_ ?_))
     obtain rfl:=sI hF7
     exact ret1 Tryz.results48 (v1:=vi 1) (resAt_tmp rfl) ⟨rfl,(hS.sN [])⟩
    ·skip
     have hF8:=cf' hF6 hb3
     refine cq (cr ?_)
     refine sQ 13 (yE kind 8)<|sQ 12 (yg (.bool (kind==8))) (rn ?_)
     refine cw_cond (b:=(kind==8)) rfl (fun hb4=>?_) (fun hb4=>?_)
     ·skip
      have hF9:=ct hF8 hb4
      refine cq (cr ?_)
      refine sQ 2 (yg (vi 7)) (rn (ct_ ?_))
      obtain rfl:=sI hF9
      exact ret1 Tryz.results48 (v1:=vi 7) (resAt_tmp rfl) ⟨rfl,(hS.sN [])⟩
     ·skip
      have hF10:=cf' hF8 hb4
      refine cw_skip (cq (cr ?_))
      refine sQ 2 (yg (vi 0)) (rn (ct_ ?_))
      obtain rfl:=sI hF10
      exact ret1 Tryz.results48 (v1:=vi 0) (resAt_tmp rfl) ⟨rfl,(hS.sN [])⟩

theorem Kz (c:List Int)  (w0:World) (hlen:c.length=32) (hS:ST w0 [] w0 [] []) {r_:List Ab} (hF:Dm c=some r_) :
  CV Tryz.prog 49 #[.agg (c.flatMap encI).toArray] w0 (fun v w'=>∃ (B:Option Addr) (c1:Nat),v=.slice B r_.length c1∧ST w0 [] w' [⟨B,64,(r_.flatMap eN1),c1*2⟩] []):=by
 unfold Dm at hF
 refine cv_of_cw 26 Tryz.func49 rfl Tryz.ntmps49 rfl ?_
 refine cq (cr ?_)
 refine sS 1 (yB 86 (.agg (c.flatMap encI).toArray) (c.flatMap encI) 32 hS rfl rfl rfl (fm_lenn2 encI_len hlen rfl)) ?_
 rintro _ w_ ⟨b,rfl,hS1⟩
 refine sQ 2 (yg (.slice none 0 0)) (rn (cq (cr ?_)))
 refine sS 6 (Ys_bslice0 (s:=2) (e:=64) hS1 K14 K15 rfl) ?_
 rintro _ w_1 ⟨b1,rfl,hS2⟩
 refine sQ 3 (yg (.slice (aD b1) 0 0)) (rn (cq (cq (cr ?_))))
 refine sQ 7 (yb (aD b) 0 (c.flatMap encI) GL K61 (hS2.c 0) rfl rfl (fm_lenn2 encI_len hlen rfl) (fm_whole encI_len hlen rfl))<|sQ 8 (ym (vi 0)) (rn ?_)
 obtain ⟨z,hz,hF1⟩:=bI hF
 refine cw_block ?_
 refine cw_loop (fun k f w=>∃ (i:Nat) (out:List Ab) (B1:Option Addr) (c2:Nat),FF f [(3,.slice B1 out.length c2),(7,.agg (c.flatMap encI).toArray),(8,vi (i:Int))]∧ST w0 [] w [⟨B1,64,(out.flatMap eN1),c2*2⟩] []∧i+k=32∧forN (Fo c) k i out=some z) 32 ⟨0,[],aD b1,0,(fc rfl (fc rfl (fc rfl fn_))),(hS2.sel [1] rfl rfl),Nat.zero_add _,hz⟩ ?_
 rintro k_ f w ⟨i,out,B1,c2,hf,hS3,hik,hL⟩
 refine cq (cr ?_)
 refine sQ 9 (yL (i:Int) 32 rfl (hf.g 8 2)) (rn (cq ?_))
 refine cw_cond (b:=(decide ((i:Int)<32))) rfl (fun hlt=>?_) (fun hlt=>?_)
 ·skip
  have hlt1:i<32:=by have h:=of_decide_eq_true hlt; omega
  obtain ⟨K5,rfl⟩:∃ k2,k_=k2+1:=⟨k_-1,by omega⟩
  obtain ⟨y,hb,hL1⟩:=forN_go hL
  unfold Fo at hb
  refine cw_skip (cq ?_)
  obtain ⟨z1,hz1,hF2⟩:=bI hb
  refine cw_mid (fun f w=>∃ (out1:List Ab) (B2:Option Addr) (c3:Nat),out1=z1∧FF f [(3,.slice B2 out1.length c3),(7,.agg (c.flatMap encI).toArray),(8,vi (i:Int))]∧ST w0 [] w [⟨B2,64,(out1.flatMap eN1),c3*2⟩] []) ?_ ?_
  ·skip
   refine cw_block (cq (cr ?_))
   refine sQ 10 (ym (vi (i:Int)) rfl (hf.g 8 2)) ?_
   obtain ⟨x,hx,hz1⟩:=bI hz1
   refine sQ 11 (Y_idx1 (cl:=(c.flatMap encI)) (k:=.i64) (i:=(i:Int)) (v:=vi x) K88 K0 K1 rfl (hf.g 7 1) (hf.g 8 2) (getI_nn hx) (getI_ltI hx hlen) (gi_at0 encI_len hx rfl))<|sQ 4 (yg (vi (i:Int)))<|sQ 5 (yg (vi x)) (rn (cq (cr ?_)))
   refine sQ 12 (ym (vi (i:Int)))<|sQ 13 (Y_gt (k:=.i64) (a:=(i:Int)) (b:=0) rfl rfl rfl)<|sQ 14 (ym (.bool (decide (0<(i:Int))))) ?_
   refine sgq 15 (B:=(decide (0<(i:Int)))) rfl rfl (uT_ 14) (fun hg=>(ym (vi x))) ?_
   refine sgq 16 (B:=(decide (0<(i:Int)))) rfl rfl (uT_ 14) (fun hg1=>(Y_gt (k:=.i64) (a:=x) (b:=0) rfl (gv_of (v:=vi x) hg1) rfl)) ?_
   refine sQ 17 (Y_and (b:=(decide (0<(i:Int)))) (z:=(decide (0<x))) rfl rfl rfl rfl) (rn ?_)
   refine cw_cond (b:=((decide (0<(i:Int)))&&(decide (0<x)))) rfl (fun hb1=>?_) (fun hb1=>?_)
   ·skip
    have hF3:=ct hz1 hb1
    refine cr ?_
    refine sQ 18 (ym (.slice B1 out.length c2) rfl (hf.g 3 0))<|sQ 19 (ym (vi (i:Int)))<|sQ 20 (ym (vi x))<|sQ 21 (Y_buildS (zs:=[vi 0,vi 0]) (vs:=[(0,vi (i:Int)),(1,vi x)]) (cs:=[vi (i:Int),vi x]) K74 K37 rfl (mpc rfl (mpc rfl mpn)) rfl) ?_
    refine sS 22 (Ys_bslice (s:=2) (len:=1) (vs:=[(0,.agg #[vi (i:Int),vi x])]) (cs:=[vi (i:Int),vi x]) (zs:=[vi 0,vi 0]) (m:=2) hS3 K14 K15 K70 rfl (mpc rfl mpn) rfl rfl rfl (by kernel_rfl) (by kernel_rfl) rfl) ?_
    rintro _ w_2 ⟨b2,rfl,hS5⟩
    obtain ⟨hap,hF3⟩:=chk_inv hF3
    refine sS 23 (Ys_append (s:=2) (by':=16) (i:=0) (nn:=out.length) (c:=c2) (k:=1) (len:=(out++[(Ab.mk (i:Int) x)]).length) (B:=B1) (xs:=([(Ab.mk (i:Int) x)].flatMap eN1)) (cs':=((out++[(Ab.mk (i:Int) x)]).flatMap eN1)) hS5 K14 K15 K67 K37 rfl (by decide) rfl rfl rfl rfl (fm_lenn (l:=out) eN3 rfl) rfl (hS5.c 1) (fm_lenn (l:=[(Ab.mk (i:Int) x)]) eN3 rfl) (fm_one' (enc:=eN1) BN [(Ab.mk (i:Int) x)]) (by have:=hap; omega) (by have:=hap; simp only [maxLen]; omega) (fm_app _ _) (app_len (l:=out) (l':=[(Ab.mk (i:Int) x)]) rfl rfl)) ?_
    rintro _ w_3 ⟨B3,c4,rfl,hS6⟩
    refine sQ 3 (yg (.slice B3 ((out++[(Ab.mk (i:Int) x)]).length) c4)) (rn ?_)
    exact ⟨(out++[(Ab.mk (i:Int) x)]),B3,c4,(sI hF3),(fc rfl (hf.a 7 1 (hf.a 8 2 fn_))),(hS6.sel [0] rfl rfl)⟩
   ·skip
    have hF4:=cf' hz1 hb1
    refine cw_skip ?_
    exact ⟨out,B1,c2,(sI hF4),(hf.a 3 0 (hf.a 7 1 (hf.a 8 2 fn_))),(hS3.sel [0] rfl rfl)⟩
  rintro f w ⟨out1,B2,c3,rfl,hf1,hS4⟩
  refine cr ?_
  refine sQ 24 (yP (i:Int) 1 rfl (hf1.g 8 2))<|sQ 8 (ym (vi (i64.wrap ((i:Int)+1)))) (rn ?_)
  obtain rfl:=sI hF2
  exact ⟨K5,Nat.lt_succ_self _,i+1,out1,B2,c3,(hf1.a 3 0 (hf1.a 7 1 (fc (congrArg (Value.int .i64) (wr_succ hlt1 (show 32≤9223372036854775807 by decide))) fn_))),(hS4.sel [0] rfl rfl),(by omega),hL1⟩
 ·skip
  obtain rfl:k_=0:=by have h:=of_decide_eq_false hlt; omega
  refine cw_exit rfl ?_
  obtain rfl:=sI hL
  refine cq (cr ?_)
  refine sQ 25 (ym (.slice B1 out.length c2) rfl (hf.g 3 0))<|sQ 2 (yg (.slice B1 out.length c2)) (rn (ct_ ?_))
  obtain rfl:=sI hF1
  exact ret1 Tryz.results49 (v1:=.slice B1 out.length c2) (resAt_tmp rfl) ⟨B1,c2,rfl,(hS3.sN [0])⟩

theorem HC (c:Ae) (B:Option Addr) (c1 n:Nat) (w0:World) (hn:c.Gates.length=n) (hS:ST w0 [] w0 [] [⟨B,(c.Gates.flatMap eN0)⟩]) {r_:Ah} {r_1:Bool} (hF:BA c=some (r_,r_1)) :
  CV Tryz.prog 11 #[.agg #[vi c.Qubits,.slice B n c1]] w0 (fun v w'=>∃ (B1:Option Addr) (c2:Nat) (B2:Option Addr) (c3:Nat),v=.tuple #[.agg #[vi r_.Qubits,vi r_.Phase,.slice B1 r_.Terms.length c2,.slice B2 r_.Out.Rows.length c3],.bool r_1]∧ST w0 [] w' [⟨B1,64,(r_.Terms.flatMap eN1),c2*2⟩,⟨B2,3,(r_.Out.Rows.flatMap encI),c3*1⟩] []):=by
 subst hn
 unfold BA at hF
 refine cv_of_cw 118 Tryz.func11 rfl Tryz.ntmps11 rfl ?_
 refine cq (cr ?_)
 let V11:List Value:=[vi c.Qubits,.slice B c.Gates.length c1]
 refine sS 1 (yB 32 (.agg V11.toArray) V11 2 hS) ?_
 rintro _ w_ ⟨b,rfl,hS1⟩
 let V3:List Value:=[vi 0,vi 0,.slice none 0 0,.slice none 0 0]
 refine sS 2 (yN V3 4 hS1 K34) ?_
 rintro _ w_1 ⟨b1,rfl,hS2⟩
 refine sQ 3 (yg (.bool false)) (rn (cq (cq (cr ?_))))
 refine sQ 10 (yb (aD b) 0 V11 K12 K7 (hS2.c 0)) ?_
 obtain ⟨r_2,hc,hF⟩:=bI hF
 refine sc 11 rfl rfl (yC [.agg V11.toArray] K85 (EX c B c1 c.Gates.length _ rfl (hS2.inn0 [(true,0)] rfl) hc)) ?_
 rintro _ w_2 ⟨rfl,hd⟩
 have hS3:=hS2.out00 hd
 refine sQ 12 (Y_not (p:=r_2) rfl rfl) (rn ?_)
 refine cw_cond (b:=(!r_2)) rfl (fun hb=>?_) (fun hb=>?_)
 ·skip
  have hF1:=ct hF hb
  refine cq (cr ?_)
  refine sQ 13 (Y_buildS (zs:=V3) (vs:=[]) (cs:=V3) K62 K34 rfl mpn rfl) ?_
  refine s0 (yT 1 4 (aD b1) 28 (.agg V3.toArray) V3 0 hS3 K25) ?_
  rintro _ w_3 ⟨rfl,hS4⟩
  refine sQ 3 (yg (.bool false)) (rn (ct_ ?_))
  have hS5:=hS4.addNil 64
  have hS6:=hS5.addNil 3
  obtain ⟨rfl,rfl⟩:=pr2 (sI hF1)
  exact ret2 Tryz.results11 (v1:=.agg V3.toArray) (resAt_cellA (B:=aD b1) (i:=0) (cs:=V3) (vs:=V3) rfl K39 K25 (hS6.c 1) rfl rfl) (v2:=.bool false) (resAt_tmp rfl) ⟨none,0,none,0,rfl,(hS6.sN [2,3])⟩
 ·skip
  have hF2:=cf' hF hb
  refine cw_skip (cq ?_)
  obtain ⟨r_3,hc1,hF2⟩:=bI hF2
  let O0:Ob:=⟨aD b1,28,V3,4⟩
  let R1:Ro:=⟨B,(c.Gates.flatMap eN0)⟩
  refine cw_mid (fun f w=>∃ (B4:Option Addr) (B5:Option Addr) (c5:Nat) (B6:Option Addr),FF f [(1,pt (aD b) 0),(2,pt (aD b1) 0),(4,pt B4 0),(5,pt B6 0)]∧ST w0 [] w [⟨aD b,32,V11,2⟩,O0,⟨B4,28,[vi c.Qubits,vi 0,.slice none 0 0,.slice B5 r_3.Rows.length c5],4⟩,⟨B5,3,(r_3.Rows.flatMap encI),c5*1⟩,⟨B6,86,((List.replicate 32 0).flatMap encI),32⟩] [R1]) ?_ ?_
  ·skip
   refine ra_start (hS3.se [0,1]).fn (by kernel_rfl) ?_
   have hS9:=hS3.drew
   have hQ0:=hS9.se [0,1]
   let V10:List Value:=[vi 0,vi 0,vi 0,vi 0,vi 0,vi 0,vi 0,vi 0,vi 0,vi 0,vi 0,vi 0,vi 0,vi 0,vi 0,vi 0,vi 0,vi 0,vi 0,vi 0,vi 0,vi 0,vi 0,vi 0,vi 0,vi 0,vi 0,vi 0,vi 0,vi 0,vi 0,vi 0]
   refine rq 0 14 (v:=pt (aD b) 0) rfl hQ0 (fun w' hw'=>(yd (aD b) 0 0 K36 K0))<|rq 1 15 rfl hQ0 (fun w' hw'=>(yl (aD b) 0 V11 (vi c.Qubits) K1 (ST.cf hw' (i:=0) rfl)))<|rq 2 16 (v:=pt (aD b) 0) rfl hQ0 (fun w' hw'=>(yd (aD b) 0 0 K36 K0))<|rq 3 17 rfl hQ0 (fun w' hw'=>(yl (aD b) 0 V11 (vi c.Qubits) K1 (ST.cf hw' (i:=0) rfl)))<|rq 6 20 (v:=.agg ((List.replicate 32 0).flatMap encI).toArray) rfl hQ0 (fun w' hw'=>(show Y _ _ _ _ _ (.agg ((List.replicate 32 0).flatMap encI).toArray) from Y_buildA (zs:=V10) (vs:=[]) (cs:=V10) K88 K0 K69 rfl rfl rfl)) ?_
   refine rA [4,7,8] ?_
   refine rC 18 4 rfl (yC [vi c.Qubits] K68 (Cu c.Qubits _  (hS9.inn0 [] rfl) hc1)) ?_ ?_
   ·rintro _ w_4 ⟨B3,c4,rfl,hd1⟩
    have hS10:=hS9.out0 hd1
    refine ⟨(hS10.se [0,1]),?_⟩
    let V2:List Value:=[vi c.Qubits,vi 0,.slice none 0 0,.slice B3 r_3.Rows.length c4]
    refine rq 5 19 (v:=.agg V2.toArray) rfl (hS10.se [0,1]) (fun w' hw'=>(Y_buildS (zs:=V3) (vs:=[(0,vi c.Qubits),(3,.agg #[.slice B3 r_3.Rows.length c4])]) (cs:=V2) K62 K34 rfl (mpc rfl (mpc rfl mpn)) rfl)) ?_
    refine rA [7,8] ?_
    refine rS 4 7 rfl (yN V3 4 hS10 K34) ?_ ?_
    ·rintro _ w_5 ⟨b2,rfl,hS11⟩
     refine ⟨(hS11.se [0,1]),?_⟩
     refine rA [8] ?_
     refine rS 5 8 rfl (yN ((List.replicate 32 0).flatMap encI) 32 hS11 K69) ?_ aN
     rintro _ w_6 ⟨b3,rfl,hS12⟩
     refine ⟨(hS12.se [0,1]),?_⟩
     refine rA [9] ?_
     refine rZ 9 rfl (yT 3 4 (aD b2) 28 (.agg V2.toArray) V2 0 hS12 K25) ?_ aN
     rintro _ w_7 ⟨rfl,hS13⟩
     refine ⟨(hS13.se [0,1]),?_⟩
     refine rA [10] ?_
     refine rZ 10 rfl (yT 4 32 (aD b3) 86 (.agg ((List.replicate 32 0).flatMap encI).toArray) ((List.replicate 32 0).flatMap encI) 0 hS13 K61 rfl rfl rfl rfl (fm_lenn2 encI_len (List.length_replicate (n:=32)) rfl) (fm_one' encI_one _) rfl (fm_fit encI_len (List.length_replicate (n:=32)) rfl) (fm_spl encI_len (List.length_replicate (n:=32)) (List.length_replicate (n:=32)))) ?_ aN
     rintro _ w_8 ⟨rfl,hS14⟩
     refine ⟨(hS14.se [0,1]),?_⟩
     refine ra_done (by kernel_rfl) ?_
     exact ⟨aD b2,B3,c4,aD b3,(fc rfl (fc rfl (fc rfl (fc rfl fn_)))),(hS14.sel [0,1,3,2,4] rfl rfl)⟩
    refine rS 5 8 rfl (yN ((List.replicate 32 0).flatMap encI) 32 hS10 K69) ?_ aN
    rintro _ w_9 ⟨b3,rfl,hS15⟩
    refine ⟨(hS15.se [0,1]),?_⟩
    refine rA [7] ?_
    refine rS 4 7 rfl (yN V3 4 hS15 K34) ?_ aN
    rintro _ w_10 ⟨b2,rfl,hS16⟩
    refine ⟨(hS16.se [0,1]),?_⟩
    refine rA [9] ?_
    refine rZ 9 rfl (yT 4 4 (aD b2) 28 (.agg V2.toArray) V2 0 hS16 K25) ?_ aN
    rintro _ w_11 ⟨rfl,hS17⟩
    refine ⟨(hS17.se [0,1]),?_⟩
    refine rA [10] ?_
    refine rZ 10 rfl (yT 3 32 (aD b3) 86 (.agg ((List.replicate 32 0).flatMap encI).toArray) ((List.replicate 32 0).flatMap encI) 0 hS17 K61 rfl rfl rfl rfl (fm_lenn2 encI_len (List.length_replicate (n:=32)) rfl) (fm_one' encI_one _) rfl (fm_fit encI_len (List.length_replicate (n:=32)) rfl) (fm_spl encI_len (List.length_replicate (n:=32)) (List.length_replicate (n:=32)))) ?_ aN
    rintro _ w_12 ⟨rfl,hS18⟩
    refine ⟨(hS18.se [0,1]),?_⟩
    refine ra_done (by kernel_rfl) ?_
    exact ⟨aD b2,B3,c4,aD b3,(fc rfl (fc rfl (fc rfl (fc rfl fn_)))),(hS18.sel [0,1,4,2,3] rfl rfl)⟩
   refine rS 4 7 rfl (yN V3 4 hS9 K34) ?_ ?_
   ·rintro _ w_13 ⟨b2,rfl,hS19⟩
    refine ⟨(hS19.se [0,1]),?_⟩
    refine rA [4,8] ?_
    refine rC 18 4 rfl (yC [vi c.Qubits] K68 (Cu c.Qubits _  (hS19.inn0 [] rfl) hc1)) ?_ ?_
    ·rintro _ w_14 ⟨B3,c4,rfl,hd2⟩
     have hS20:=hS19.out0 hd2
     refine ⟨(hS20.se [0,1]),?_⟩
     let V4:List Value:=[vi c.Qubits,vi 0,.slice none 0 0,.slice B3 r_3.Rows.length c4]
     refine rq 5 19 (v:=.agg V4.toArray) rfl (hS20.se [0,1]) (fun w' hw'=>(Y_buildS (zs:=V3) (vs:=[(0,vi c.Qubits),(3,.agg #[.slice B3 r_3.Rows.length c4])]) (cs:=V4) K62 K34 rfl (mpc rfl (mpc rfl mpn)) rfl)) ?_
     refine rA [8] ?_
     refine rS 5 8 rfl (yN ((List.replicate 32 0).flatMap encI) 32 hS20 K69) ?_ aN
     rintro _ w_15 ⟨b3,rfl,hS21⟩
     refine ⟨(hS21.se [0,1]),?_⟩
     refine rA [9] ?_
     refine rZ 9 rfl (yT 2 4 (aD b2) 28 (.agg V4.toArray) V4 0 hS21 K25) ?_ aN
     rintro _ w_16 ⟨rfl,hS22⟩
     refine ⟨(hS22.se [0,1]),?_⟩
     refine rA [10] ?_
     refine rZ 10 rfl (yT 4 32 (aD b3) 86 (.agg ((List.replicate 32 0).flatMap encI).toArray) ((List.replicate 32 0).flatMap encI) 0 hS22 K61 rfl rfl rfl rfl (fm_lenn2 encI_len (List.length_replicate (n:=32)) rfl) (fm_one' encI_one _) rfl (fm_fit encI_len (List.length_replicate (n:=32)) rfl) (fm_spl encI_len (List.length_replicate (n:=32)) (List.length_replicate (n:=32)))) ?_ aN
     rintro _ w_17 ⟨rfl,hS23⟩
     refine ⟨(hS23.se [0,1]),?_⟩
     refine ra_done (by kernel_rfl) ?_
     exact ⟨aD b2,B3,c4,aD b3,(fc rfl (fc rfl (fc rfl (fc rfl fn_)))),(hS23.sel [0,1,2,3,4] rfl rfl)⟩
    refine rS 5 8 rfl (yN ((List.replicate 32 0).flatMap encI) 32 hS19 K69) ?_ aN
    rintro _ w_18 ⟨b3,rfl,hS24⟩
    refine ⟨(hS24.se [0,1]),?_⟩
    refine rA [4] ?_
    refine rC 18 4 rfl (yC [vi c.Qubits] K68 (Cu c.Qubits _  (hS24.inn0 [] rfl) hc1)) ?_ aN
    rintro _ w_19 ⟨B3,c4,rfl,hd3⟩
    have hS25:=hS24.out0 hd3
    refine ⟨(hS25.se [0,1]),?_⟩
    let V5:List Value:=[vi c.Qubits,vi 0,.slice none 0 0,.slice B3 r_3.Rows.length c4]
    refine rq 5 19 (v:=.agg V5.toArray) rfl (hS25.se [0,1]) (fun w' hw'=>(Y_buildS (zs:=V3) (vs:=[(0,vi c.Qubits),(3,.agg #[.slice B3 r_3.Rows.length c4])]) (cs:=V5) K62 K34 rfl (mpc rfl (mpc rfl mpn)) rfl)) ?_
    refine rA [9] ?_
    refine rZ 9 rfl (yT 2 4 (aD b2) 28 (.agg V5.toArray) V5 0 hS25 K25) ?_ aN
    rintro _ w_20 ⟨rfl,hS26⟩
    refine ⟨(hS26.se [0,1]),?_⟩
    refine rA [10] ?_
    refine rZ 10 rfl (yT 3 32 (aD b3) 86 (.agg ((List.replicate 32 0).flatMap encI).toArray) ((List.replicate 32 0).flatMap encI) 0 hS26 K61 rfl rfl rfl rfl (fm_lenn2 encI_len (List.length_replicate (n:=32)) rfl) (fm_one' encI_one _) rfl (fm_fit encI_len (List.length_replicate (n:=32)) rfl) (fm_spl encI_len (List.length_replicate (n:=32)) (List.length_replicate (n:=32)))) ?_ aN
    rintro _ w_21 ⟨rfl,hS27⟩
    refine ⟨(hS27.se [0,1]),?_⟩
    refine ra_done (by kernel_rfl) ?_
    exact ⟨aD b2,B3,c4,aD b3,(fc rfl (fc rfl (fc rfl (fc rfl fn_)))),(hS27.sel [0,1,2,4,3] rfl rfl)⟩
   refine rS 5 8 rfl (yN ((List.replicate 32 0).flatMap encI) 32 hS9 K69) ?_ aN
   rintro _ w_22 ⟨b3,rfl,hS28⟩
   refine ⟨(hS28.se [0,1]),?_⟩
   refine rA [4,7] ?_
   refine rC 18 4 rfl (yC [vi c.Qubits] K68 (Cu c.Qubits _  (hS28.inn0 [] rfl) hc1)) ?_ ?_
   ·rintro _ w_23 ⟨B3,c4,rfl,hd4⟩
    have hS29:=hS28.out0 hd4
    refine ⟨(hS29.se [0,1]),?_⟩
    let V6:List Value:=[vi c.Qubits,vi 0,.slice none 0 0,.slice B3 r_3.Rows.length c4]
    refine rq 5 19 (v:=.agg V6.toArray) rfl (hS29.se [0,1]) (fun w' hw'=>(Y_buildS (zs:=V3) (vs:=[(0,vi c.Qubits),(3,.agg #[.slice B3 r_3.Rows.length c4])]) (cs:=V6) K62 K34 rfl (mpc rfl (mpc rfl mpn)) rfl)) ?_
    refine rA [7] ?_
    refine rS 4 7 rfl (yN V3 4 hS29 K34) ?_ aN
    rintro _ w_24 ⟨b2,rfl,hS30⟩
    refine ⟨(hS30.se [0,1]),?_⟩
    refine rA [9] ?_
    refine rZ 9 rfl (yT 4 4 (aD b2) 28 (.agg V6.toArray) V6 0 hS30 K25) ?_ aN
    rintro _ w_25 ⟨rfl,hS31⟩
    refine ⟨(hS31.se [0,1]),?_⟩
    refine rA [10] ?_
    refine rZ 10 rfl (yT 2 32 (aD b3) 86 (.agg ((List.replicate 32 0).flatMap encI).toArray) ((List.replicate 32 0).flatMap encI) 0 hS31 K61 rfl rfl rfl rfl (fm_lenn2 encI_len (List.length_replicate (n:=32)) rfl) (fm_one' encI_one _) rfl (fm_fit encI_len (List.length_replicate (n:=32)) rfl) (fm_spl encI_len (List.length_replicate (n:=32)) (List.length_replicate (n:=32)))) ?_ aN
    rintro _ w_26 ⟨rfl,hS32⟩
    refine ⟨(hS32.se [0,1]),?_⟩
    refine ra_done (by kernel_rfl) ?_
    exact ⟨aD b2,B3,c4,aD b3,(fc rfl (fc rfl (fc rfl (fc rfl fn_)))),(hS32.sel [0,1,4,3,2] rfl rfl)⟩
   refine rS 4 7 rfl (yN V3 4 hS28 K34) ?_ aN
   rintro _ w_27 ⟨b2,rfl,hS33⟩
   refine ⟨(hS33.se [0,1]),?_⟩
   refine rA [4] ?_
   refine rC 18 4 rfl (yC [vi c.Qubits] K68 (Cu c.Qubits _  (hS33.inn0 [] rfl) hc1)) ?_ aN
   rintro _ w_28 ⟨B3,c4,rfl,hd5⟩
   have hS34:=hS33.out0 hd5
   refine ⟨(hS34.se [0,1]),?_⟩
   let V7:List Value:=[vi c.Qubits,vi 0,.slice none 0 0,.slice B3 r_3.Rows.length c4]
   refine rq 5 19 (v:=.agg V7.toArray) rfl (hS34.se [0,1]) (fun w' hw'=>(Y_buildS (zs:=V3) (vs:=[(0,vi c.Qubits),(3,.agg #[.slice B3 r_3.Rows.length c4])]) (cs:=V7) K62 K34 rfl (mpc rfl (mpc rfl mpn)) rfl)) ?_
   refine rA [9] ?_
   refine rZ 9 rfl (yT 3 4 (aD b2) 28 (.agg V7.toArray) V7 0 hS34 K25) ?_ aN
   rintro _ w_29 ⟨rfl,hS35⟩
   refine ⟨(hS35.se [0,1]),?_⟩
   refine rA [10] ?_
   refine rZ 10 rfl (yT 2 32 (aD b3) 86 (.agg ((List.replicate 32 0).flatMap encI).toArray) ((List.replicate 32 0).flatMap encI) 0 hS35 K61 rfl rfl rfl rfl (fm_lenn2 encI_len (List.length_replicate (n:=32)) rfl) (fm_one' encI_one _) rfl (fm_fit encI_len (List.length_replicate (n:=32)) rfl) (fm_spl encI_len (List.length_replicate (n:=32)) (List.length_replicate (n:=32)))) ?_ aN
   rintro _ w_30 ⟨rfl,hS36⟩
   have hS36:ST w0 [] _ [⟨aD b,32,V11,2⟩,O0,⟨aD b3,86,((List.replicate 32 0).flatMap encI),32⟩,⟨aD b2,28,V7,4⟩,⟨B3,3,(r_3.Rows.flatMap encI),c4*1⟩] [R1]:=hS36
   refine ⟨(hS36.se [0,1]),?_⟩
   refine ra_done (by kernel_rfl) ?_
   exact ⟨aD b2,B3,c4,aD b3,(fc rfl (fc rfl (fc rfl (fc rfl fn_)))),(hS36.sel [0,1,3,4,2] rfl rfl)⟩
  rintro f w ⟨B4,B5,c5,B6,hf,hS8⟩
  refine cq (cr ?_)
  refine sQ 21 (yd B4 0 0 K59 K6 rfl (hf.g 4 2))<|sQ 22 (yd B4 3 0 K13 K8)<|sQ 23 (yl B4 3 [vi c.Qubits,vi 0,.slice none 0 0,.slice B5 r_3.Rows.length c5] (.slice B5 r_3.Rows.length c5) K9 (hS8.c 2))<|sQ 6 (yg (.slice B5 r_3.Rows.length c5)) (rn (cq (cq (cr ?_))))
  refine sQ 24 (yd (aD b) 0 0 K17 K11 rfl (hf.g 1 0))<|sQ 25 (yl (aD b) 1 V11 (.slice B c.Gates.length c1) K18 (hS8.c 0))<|sQ 26 (Y_len (B:=B) (m:=c.Gates.length) (c:=c1) K4 rfl rfl)<|sQ 27 (ym (vi 0)) (rn ?_)
  obtain ⟨hN,hF2⟩:=chk_inv hF2
  obtain ⟨z,hz,hF3⟩:=bI hF2
  refine cw_block ?_
  refine cw_loop (fun k f w=>∃ (i:Nat) (Phase:Int) (Out:List Int) (sums:List Int),FF f [(2,pt (aD b1) 0),(4,pt B4 0),(5,pt B6 0),(6,.slice B5 r_3.Rows.length c5),(25,.slice B c.Gates.length c1),(26,vi (c.Gates.length:Int)),(27,vi (i:Int))]∧Out.length=r_3.Rows.length∧sums.length=32∧ST w0 [] w [O0,⟨B4,28,[vi c.Qubits,vi Phase,.slice none 0 0,.slice B5 r_3.Rows.length c5],4⟩,⟨B5,3,(Out.flatMap encI),c5*1⟩,⟨B6,86,(sums.flatMap encI),32⟩] [R1]∧i+k=c.Gates.length∧forX (Bj c) k i (Phase,Out,sums)=some z) c.Gates.length ⟨0,0,r_3.Rows,(List.replicate 32 0),(hf.a 2 1 (hf.a 4 2 (hf.a 5 3 (fc rfl (fc rfl (fc rfl (fc rfl fn_))))))),rfl,(List.length_replicate (n:=32)),(hS8.sel [1,2,3,4] rfl rfl),Nat.zero_add _,hz⟩ ?_
  rintro k_ f w ⟨i,Phase,Out,sums,hf1,hl,hl1,hS37,hik,hL⟩
  refine cq (cr ?_)
  refine sQ 28 (yL (i:Int) (c.Gates.length:Int) rfl (hf1.g 27 6) (hf1.g 26 5)) (rn (cq ?_))
  refine cw_cond (b:=(decide ((i:Int)<(c.Gates.length:Int)))) rfl (fun hlt=>?_) (fun hlt=>?_)
  ·skip
   have hlt1:i<c.Gates.length:=by have h:=of_decide_eq_true hlt; omega
   obtain ⟨K5,rfl⟩:∃ k2,k_=k2+1:=⟨k_-1,by omega⟩
   obtain ⟨y,hb1,hL1⟩:=forX_go hL
   unfold Bj at hb1
   refine cw_skip (cq ?_)
   obtain ⟨z1,hz1,hF4⟩:=bI hb1
   refine cw_mid (fun f w=>∃ (Phase1:Int) (Out1:List Int) (sums1:List Int),.inl (Phase1,Out1,sums1)=z1∧FF f [(2,pt (aD b1) 0),(4,pt B4 0),(5,pt B6 0),(6,.slice B5 r_3.Rows.length c5),(25,.slice B c.Gates.length c1),(26,vi (c.Gates.length:Int)),(27,vi (i:Int))]∧Out1.length=r_3.Rows.length∧sums1.length=32∧ST w0 [] w [O0,⟨B4,28,[vi c.Qubits,vi Phase1,.slice none 0 0,.slice B5 r_3.Rows.length c5],4⟩,⟨B5,3,(Out1.flatMap encI),c5*1⟩,⟨B6,86,(sums1.flatMap encI),32⟩] [R1]) ?_ ?_
   ·skip
    refine cw_block (cq (cr ?_))
    obtain ⟨x,hx,hz1⟩:=bI hz1
    let V9:List Value:=[vi x.Kind,vi x.A,vi x.B]
    refine sQ 29 (yI B (i:Int) K4 K3 (gi_isSome eN2 rfl (hS37.rf (i:=0) rfl) hx) (getI_nn hx) (getI_ltI hx rfl) rfl (hf1.g 25 4) (hf1.g 27 6))<|sQ 30 (ya B ((i:Int).toNat*3) (c.Gates.flatMap eN0) V9 K30 K3 (hS37.rf (i:=0) rfl) rfl rfl (eN2 x) (gi_seg eN2 hx)) ?_
    refine sS 8 (yN [vi 0,vi 0,vi 0] 3 hS37 K10) ?_
    rintro _ w_31 ⟨b4,rfl,hS39⟩
    refine s0 (yT 4 3 (aD b4) 59 (.agg V9.toArray) V9 0 hS39 K3) ?_
    rintro _ w_32 ⟨rfl,hS40⟩
    refine rn (cq (cr ?_))
    refine sQ 31 (yd (aD b4) 0 0 K45 K0)<|sQ 32 (yl (aD b4) 0 V9 (vi x.Kind) K1 (hS40.c 4)) (rn (cw_block (cq (cr ?_))))
    refine sQ 47 (yE x.Kind 9)<|sQ 46 (yg (.bool (x.Kind==9))) (rn ?_)
    refine cw_cond (b:=(x.Kind==9)) rfl (fun hb2=>?_) (fun hb2=>?_)
    ·skip
     have hF5:=ct hz1 hb2
     obtain ⟨x1,hx1,hF5⟩:=bI hF5
     obtain ⟨x2,hx2,hF5⟩:=bI hF5
     refine ra_start (hS40.se [0,1,3,4]).fn (by kernel_rfl) ?_
     have hS41:=hS40.drew
     have hQ1:=hS41.se [0,1,3,4]
     refine rq 0 48 rfl hQ1 (fun w' hw'=>(ym (.slice B5 r_3.Rows.length c5) rfl (hf1.g 6 3)))<|rq 1 49 (v:=pt (aD b4) 2) rfl hQ1 (fun w' hw'=>(yd (aD b4) 0 0 K27 K0))<|rq 2 50 rfl hQ1 (fun w' hw'=>(yl (aD b4) 2 V9 (vi x.B) K1 (ST.cf hw' (i:=3) rfl)))<|rq 3 51 (v:=pt B5 (x.B.toNat*1)) rfl hQ1 (fun w' hw'=>(yI B5 x.B K2 K0 (gi_isSome encI_len rfl (hS41.c 2) hx1) (getI_nn hx1) (getI_ltI hx1 hl)))<|rq 5 53 rfl hQ1 (fun w' hw'=>(ym (.slice B5 r_3.Rows.length c5) rfl (hf1.g 6 3))) ?_
     refine rq 6 54 (v:=pt (aD b4) 1) rfl hQ1 (fun w' hw'=>(yd (aD b4) 0 0 K29 K0))<|rq 7 55 rfl hQ1 (fun w' hw'=>(yl (aD b4) 1 V9 (vi x.A) K1 (ST.cf hw' (i:=3) rfl)))<|rq 8 56 (v:=pt B5 (x.A.toNat*1)) rfl hQ1 (fun w' hw'=>(yI B5 x.A K2 K0 (gi_isSome encI_len rfl (hS41.c 2) hx2) (getI_nn hx2) (getI_ltI hx2 hl)))<|ra_now 4 52 [10,11,12] rfl hQ1 (yl B5 (x.B.toNat*1) (Out.flatMap encI) (vi x1) K1 (hS41.c 2) rfl rfl (gi_at0 encI_len hx1 rfl))<|r1 57 9 rfl (yl B5 (x.A.toNat*1) (Out.flatMap encI) (vi x2) K1 (hS41.c 2) rfl rfl (gi_at0 encI_len hx2 rfl)) hQ1 ?_
     refine rq 10 58 (v:=vi (bits .xor .i64 x1 x2)) rfl hQ1 (fun w' hw'=>(Y_bxor (k:=.i64) (a:=x1) (b:=x2) rfl rfl rfl))<|rq 11 59 (v:=pt B5 (x.B.toNat*1)) rfl hQ1 (fun w' hw'=>(yI B5 x.B K2 K0 (gi_isSome encI_len rfl (hS41.c 2) hx1) (getI_nn hx1) (getI_ltI hx1 hl))) ?_
     refine rA [12] ?_
     refine rZ 12 rfl (yS 2 1 B5 3 (vi (bits .xor .i64 x1 x2)) [vi (bits .xor .i64 x1 x2)] (x.B.toNat*1) ((Out.set x.B.toNat (bits .xor .i64 x1 x2)).flatMap encI) hS41 K0 rfl rfl rfl rfl rfl rfl rfl (gi_fit0 encI_len hx1) (gi_set encI_len hx1 (bits .xor .i64 x1 x2) rfl)) ?_ aN
     rintro _ w_33 ⟨rfl,hS42⟩
     refine ⟨(hS42.se [0,1,3,4]),?_⟩
     refine ra_done (by kernel_rfl) ?_
     exact ⟨Phase,(Out.set x.B.toNat (bits .xor .i64 x1 x2)),sums,(sI hF5),(hf1.a 2 0 (hf1.a 4 1 (hf1.a 5 2 (hf1.a 6 3 (hf1.a 25 4 (hf1.a 26 5 (hf1.a 27 6 fn_))))))),(set_len _ _ _ hl),hl1,(hS42.sel [0,1,2,3] rfl rfl)⟩
    ·skip
     have hF6:=cf' hz1 hb2
     refine cq (cr ?_)
     refine sQ 61 (yE x.Kind 11)<|sQ 60 (yg (.bool (x.Kind==11))) (rn ?_)
     refine cw_cond (b:=(x.Kind==11)) rfl (fun hb3=>?_) (fun hb3=>?_)
     ·skip
      have hF7:=ct hF6 hb3
      obtain ⟨x3,hx3,hF7⟩:=bI hF7
      obtain ⟨x4,hx4,hF7⟩:=bI hF7
      obtain ⟨x5,hx5,hF7⟩:=bI hF7
      refine ra_start (hS40.se [0,1,3,4]).fn (by kernel_rfl) ?_
      have hS43:=hS40.drew
      have hQ2:=hS43.se [0,1,3,4]
      refine rq 0 62 rfl hQ2 (fun w' hw'=>(ym (.slice B5 r_3.Rows.length c5) rfl (hf1.g 6 3)))<|rq 1 63 (v:=pt (aD b4) 1) rfl hQ2 (fun w' hw'=>(yd (aD b4) 0 0 K29 K0))<|rq 2 64 rfl hQ2 (fun w' hw'=>(yl (aD b4) 1 V9 (vi x.A) K1 (ST.cf hw' (i:=3) rfl)))<|rq 3 65 rfl hQ2 (fun w' hw'=>(ym (.slice B5 r_3.Rows.length c5) rfl (hf1.g 6 3)))<|rq 4 66 (v:=pt (aD b4) 2) rfl hQ2 (fun w' hw'=>(yd (aD b4) 0 0 K27 K0)) ?_
      refine rq 5 67 rfl hQ2 (fun w' hw'=>(yl (aD b4) 2 V9 (vi x.B) K1 (ST.cf hw' (i:=3) rfl)))<|rq 6 68 rfl hQ2 (fun w' hw'=>(ym (.slice B5 r_3.Rows.length c5) rfl (hf1.g 6 3)))<|rq 7 69 (v:=pt (aD b4) 2) rfl hQ2 (fun w' hw'=>(yd (aD b4) 0 0 K27 K0))<|rq 8 70 rfl hQ2 (fun w' hw'=>(yl (aD b4) 2 V9 (vi x.B) K1 (ST.cf hw' (i:=3) rfl)))<|rq 9 71 (v:=pt B5 (x.B.toNat*1)) rfl hQ2 (fun w' hw'=>(yI B5 x.B K2 K0 (gi_isSome encI_len rfl (hS43.c 2) hx3) (getI_nn hx3) (getI_ltI hx3 hl))) ?_
      refine rq 11 73 rfl hQ2 (fun w' hw'=>(ym (.slice B5 r_3.Rows.length c5) rfl (hf1.g 6 3)))<|rq 12 74 (v:=pt (aD b4) 1) rfl hQ2 (fun w' hw'=>(yd (aD b4) 0 0 K29 K0))<|rq 13 75 rfl hQ2 (fun w' hw'=>(yl (aD b4) 1 V9 (vi x.A) K1 (ST.cf hw' (i:=3) rfl)))<|rq 14 76 (v:=pt B5 (x.A.toNat*1)) rfl hQ2 (fun w' hw'=>(yI B5 x.A K2 K0 (gi_isSome encI_len rfl (hS43.c 2) hx4) (getI_nn hx4) (getI_ltI hx4 hl)))<|ra_now 10 72 [16,17,18,19] rfl hQ2 (yl B5 (x.B.toNat*1) (Out.flatMap encI) (vi x3) K1 (hS43.c 2) rfl rfl (gi_at0 encI_len hx3 rfl)) ?_
      refine r1 77 15 rfl (yl B5 (x.A.toNat*1) (Out.flatMap encI) (vi x4) K1 (hS43.c 2) rfl rfl (gi_at0 encI_len hx4 rfl)) hQ2<|rq 16 78 (v:=pt B5 (x.A.toNat*1)) rfl hQ2 (fun w' hw'=>(yI B5 x.A K2 K0 (gi_isSome encI_len rfl (hS43.c 2) hx4) (getI_nn hx4) (getI_ltI hx4 hl))) ?_
      refine rA [17] ?_
      refine rZ 17 rfl (yS 2 1 B5 3 (vi x3) [vi x3] (x.A.toNat*1) ((Out.set x.A.toNat x3).flatMap encI) hS43 K0 rfl rfl rfl rfl rfl rfl rfl (gi_fit0 encI_len hx4) (gi_set encI_len hx4 x3 rfl)) ?_ aN
      rintro _ w_34 ⟨rfl,hS44⟩
      refine ⟨(hS44.se [0,1,3,4]),?_⟩
      refine rq 18 79 (v:=pt B5 (x.B.toNat*1)) rfl (hS44.se [0,1,3,4]) (fun w' hw'=>(yI B5 x.B K2 K0 (gi_isSome encI_len rfl (hS44.c 2) hx5) (getI_nn hx5) (getI_ltI hx5 (set_len _ _ _ hl)))) ?_
      refine rA [19] ?_
      refine rZ 19 rfl (yS 2 1 B5 3 (vi x4) [vi x4] (x.B.toNat*1) (((Out.set x.A.toNat x3).set x.B.toNat x4).flatMap encI) hS44 K0 rfl rfl rfl rfl rfl rfl rfl (gi_fit0 encI_len hx5) (gi_set encI_len hx5 x4 rfl)) ?_ aN
      rintro _ w_35 ⟨rfl,hS45⟩
      refine ⟨(hS45.se [0,1,3,4]),?_⟩
      refine ra_done (by kernel_rfl) ?_
      exact ⟨Phase,((Out.set x.A.toNat x3).set x.B.toNat x4),sums,(sI hF7),(hf1.a 2 0 (hf1.a 4 1 (hf1.a 5 2 (hf1.a 6 3 (hf1.a 25 4 (hf1.a 26 5 (hf1.a 27 6 fn_))))))),(set_len _ _ _ (set_len _ _ _ hl)),hl1,(hS45.sel [0,1,2,3] rfl rfl)⟩
     ·skip
      have hF8:=cf' hF6 hb3
      refine cq (cr ?_)
      refine sQ 81 (yE x.Kind 10)<|sQ 80 (yg (.bool (x.Kind==10))) (rn ?_)
      refine cw_cond (b:=(x.Kind==10)) rfl (fun hb4=>?_) (fun hb4=>?_)
      ·skip
       have hF9:=ct hF8 hb4
       refine cq (cr ?_)
       refine sQ 82 (ym (.slice B5 r_3.Rows.length c5) rfl (hf1.g 6 3))<|sQ 83 (yd (aD b4) 0 0 K29 K0)<|sQ 84 (yl (aD b4) 1 V9 (vi x.A) K1 (hS40.c 4)) ?_
       obtain ⟨x6,hx6,hF9⟩:=bI hF9
       refine sQ 85 (yI B5 x.A K2 K0 (gi_isSome encI_len rfl (hS40.c 2) hx6) (getI_nn hx6) (getI_ltI hx6 hl))<|sQ 86 (yl B5 (x.A.toNat*1) (Out.flatMap encI) (vi x6) K1 (hS40.c 2) rfl rfl (gi_at0 encI_len hx6 rfl)) ?_
       obtain ⟨m,hc2,hF9⟩:=bI hF9
       refine sc 87 rfl rfl (yC [pt B6 0,vi x6,vi 2] K89 (F5 sums x6 2 B6 _ hl1 (hS40.inn [false,false,false,true,false] rfl [] rfl) hc2) rfl (mc (hf1.g 5 2) (mc rfl (mc rfl mn)))) ?_
       rintro _ w_36 ⟨rfl,hl4,hd6⟩
       have hS46:=hS40.out [false,false,false,true,false] rfl hd6
       refine rn (cq (cr ?_))
       refine sQ 88 (ym (.slice B5 r_3.Rows.length c5) rfl (hf1.g 6 3))<|sQ 89 (yd (aD b4) 0 0 K27 K0)<|sQ 90 (yl (aD b4) 2 V9 (vi x.B) K1 (hS46.c 3)) ?_
       obtain ⟨x7,hx7,hF9⟩:=bI hF9
       refine sQ 91 (yI B5 x.B K2 K0 (gi_isSome encI_len rfl (hS46.c 2) hx7) (getI_nn hx7) (getI_ltI hx7 hl))<|sQ 92 (yl B5 (x.B.toNat*1) (Out.flatMap encI) (vi x7) K1 (hS46.c 2) rfl rfl (gi_at0 encI_len hx7 rfl)) ?_
       obtain ⟨m1,hc3,hF9⟩:=bI hF9
       refine sc 93 rfl rfl (yC [pt B6 0,vi x7,vi 2] K89 (F5 m x7 2 B6 _ hl4 (hS46.inn [false,false,false,false,true] rfl [] rfl) hc3) rfl (mc (hf1.g 5 2) (mc rfl (mc rfl mn)))) ?_
       rintro _ w_37 ⟨rfl,hl5,hd7⟩
       have hS47:=hS46.out [false,false,false,false,true] rfl hd7
       refine rn ?_
       obtain ⟨m2,hc4,hF9⟩:=bI hF9
       refine ra_start (hS47.se [0,1,2,3]).fn (by kernel_rfl) ?_
       have hS49:=hS47.drew
       have hQ3:=hS49.se [0,1,2,3]
       refine rq 0 94 rfl hQ3 (fun w' hw'=>(ym (.slice B5 r_3.Rows.length c5) rfl (hf1.g 6 3)))<|rq 1 95 (v:=pt (aD b4) 1) rfl hQ3 (fun w' hw'=>(yd (aD b4) 0 0 K29 K0))<|rq 2 96 rfl hQ3 (fun w' hw'=>(yl (aD b4) 1 V9 (vi x.A) K1 (ST.cf hw' (i:=3) rfl)))<|rq 3 97 (v:=pt B5 (x.A.toNat*1)) rfl hQ3 (fun w' hw'=>(yI B5 x.A K2 K0 (gi_isSome encI_len rfl (ST.cf hw' (i:=2) rfl) hx6) (getI_nn hx6) (getI_ltI hx6 hl)))<|rq 4 98 rfl hQ3 (fun w' hw'=>(yl B5 (x.A.toNat*1) (Out.flatMap encI) (vi x6) K1 (ST.cf hw' (i:=2) rfl) rfl rfl (gi_at0 encI_len hx6 rfl))) ?_
       refine rq 5 99 rfl hQ3 (fun w' hw'=>(ym (.slice B5 r_3.Rows.length c5) rfl (hf1.g 6 3)))<|rq 6 100 (v:=pt (aD b4) 2) rfl hQ3 (fun w' hw'=>(yd (aD b4) 0 0 K27 K0))<|rq 7 101 rfl hQ3 (fun w' hw'=>(yl (aD b4) 2 V9 (vi x.B) K1 (ST.cf hw' (i:=3) rfl)))<|rq 8 102 (v:=pt B5 (x.B.toNat*1)) rfl hQ3 (fun w' hw'=>(yI B5 x.B K2 K0 (gi_isSome encI_len rfl (ST.cf hw' (i:=2) rfl) hx7) (getI_nn hx7) (getI_ltI hx7 hl)))<|rq 9 103 rfl hQ3 (fun w' hw'=>(yl B5 (x.B.toNat*1) (Out.flatMap encI) (vi x7) K1 (ST.cf hw' (i:=2) rfl) rfl rfl (gi_at0 encI_len hx7 rfl))) ?_
       refine rq 10 104 (v:=vi (bits .xor .i64 x6 x7)) rfl hQ3 (fun w' hw'=>(Y_bxor (k:=.i64) (a:=x6) (b:=x7) rfl rfl rfl)) ?_
       refine rA [11] ?_
       refine rC 105 11 rfl (yC [pt B6 0,vi (bits .xor .i64 x6 x7),vi 6] K89 (F5 m1 (bits .xor .i64 x6 x7) 6 B6 _ hl5 (hS49.inn [false,false,false,false,true] rfl [] rfl) hc4) rfl (mc (hf1.g 5 2) (mc rfl (mc rfl mn)))) ?_ aN
       rintro _ w_38 ⟨rfl,hl6,hd8⟩
       have hS50:=hS49.out [false,false,false,false,true] rfl hd8
       refine ⟨(hS50.se [0,1,2,3]),?_⟩
       refine ra_done (by kernel_rfl) ?_
       exact ⟨Phase,Out,m2,(sI hF9),(hf1.a 2 0 (hf1.a 4 1 (hf1.a 5 2 (hf1.a 6 3 (hf1.a 25 4 (hf1.a 26 5 (hf1.a 27 6 fn_))))))),hl,hl6,(hS50.sel [0,1,2,4] rfl rfl)⟩
      ·skip
       have hF10:=cf' hF8 hb4
       refine cq (cr ?_)
       refine sQ 107 (yE x.Kind 12)<|sQ 106 (yg (.bool (x.Kind==12))) (rn ?_)
       refine cw_cond (b:=(x.Kind==12)) rfl (fun hb5=>?_) (fun hb5=>?_)
       ·skip
        have hF11:=ct hF10 hb5
        refine cr ?_
        refine sQ 108 (yd B4 0 0 K63 K0 rfl (hf1.g 4 1))<|sQ 109 (yl B4 1 [vi c.Qubits,vi Phase,.slice none 0 0,.slice B5 r_3.Rows.length c5] (vi Phase) K1 (hS40.c 1))<|sQ 110 (yP Phase 1)<|sQ 111 (Y_rem (k:=.i64) (a:=(i64.wrap (Phase+1))) (b:=8) rfl rfl rfl (by decide))<|sQ 112 (yd B4 0 0 K63 K0 rfl (hf1.g 4 1)) ?_
        refine s0 (yS 1 1 B4 28 (vi (Int.tmod (i64.wrap (Phase+1)) 8)) [vi (Int.tmod (i64.wrap (Phase+1)) 8)] 1 [vi c.Qubits,vi (Int.tmod (i64.wrap (Phase+1)) 8),.slice none 0 0,.slice B5 r_3.Rows.length c5] hS40 K0) ?_
        rintro _ w_39 ⟨rfl,hS51⟩
        refine rn ?_
        exact ⟨(Int.tmod (i64.wrap (Phase+1)) 8),Out,sums,(sI hF11),(hf1.a 2 0 (hf1.a 4 1 (hf1.a 5 2 (hf1.a 6 3 (hf1.a 25 4 (hf1.a 26 5 (hf1.a 27 6 fn_))))))),hl,hl1,(hS51.sel [0,1,2,3] rfl rfl)⟩
       ·skip
        have hF12:=cf' hF10 hb5
        refine cq (cr ?_)
        refine sQ 33 (yd (aD b4) 0 0 K45 K0)<|sQ 34 (yl (aD b4) 0 V9 (vi x.Kind) K1 (hS40.c 4)) ?_
        obtain ⟨r_4,hc5,hF12⟩:=bI hF12
        refine sc 35 rfl rfl (yC [vi x.Kind] Pf (Ls x.Kind _  (hS40.inn0 [] rfl) hc5)) ?_
        rintro _ w_40 ⟨rfl,hd9⟩
        have hS52:=hS40.out00 hd9
        refine sQ 9 (yg (vi r_4)) (rn (cq (cq (cr ?_))))
        refine sQ 36 (ym (vi r_4))<|sQ 37 (yE r_4 0) (rn ?_)
        refine cw_cond (b:=(r_4==0)) rfl (fun hb6=>?_) (fun hb6=>?_)
        ·skip
         have hF13:=ct hF12 hb6
         refine cq (cr ?_)
         refine sQ 38 (Y_buildS (zs:=V3) (vs:=[]) (cs:=V3) K62 K34 rfl mpn rfl) ?_
         refine s0 (yT 0 4 (aD b1) 28 (.agg V3.toArray) V3 0 hS52 K25 rfl (hf1.g 2 0)) ?_
         rintro _ w_41 ⟨rfl,hS53⟩
         refine sQ 3 (yg (.bool false)) (rn (ct_ ?_))
         have hS54:=hS53.addNil 64
         have hS55:=hS54.addNil 3
         obtain rfl:=sI hF13
         obtain rfl:=sI hF4
         obtain rfl:=sI hL1
         obtain ⟨rfl,rfl⟩:=pr2 (sI hF3)
         exact ret2 Tryz.results11 (v1:=.agg V3.toArray) (resAt_cellA (B:=aD b1) (i:=0) (cs:=V3) (vs:=V3) (hf1.g 2 0) K39 K25 (hS55.c 0) rfl rfl) (v2:=.bool false) (resAt_tmp rfl) ⟨none,0,none,0,rfl,(hS55.sN [5,6])⟩
        ·skip
         have hF14:=cf' hF12 hb6
         refine cw_skip (cr ?_)
         refine sQ 39 (ym (.slice B5 r_3.Rows.length c5) rfl (hf1.g 6 3))<|sQ 40 (yd (aD b4) 0 0 K29 K0)<|sQ 41 (yl (aD b4) 1 V9 (vi x.A) K1 (hS52.c 4)) ?_
         obtain ⟨x8,hx8,hF14⟩:=bI hF14
         refine sQ 42 (yI B5 x.A K2 K0 (gi_isSome encI_len rfl (hS52.c 2) hx8) (getI_nn hx8) (getI_ltI hx8 hl))<|sQ 43 (yl B5 (x.A.toNat*1) (Out.flatMap encI) (vi x8) K1 (hS52.c 2) rfl rfl (gi_at0 encI_len hx8 rfl))<|sQ 44 (ym (vi r_4)) ?_
         obtain ⟨m3,hc6,hF14⟩:=bI hF14
         refine sc 45 rfl rfl (yC [pt B6 0,vi x8,vi r_4] K89 (F5 sums x8 r_4 B6 _ hl1 (hS52.inn [false,false,false,true,false] rfl [] rfl) hc6) rfl (mc (hf1.g 5 2) (mc rfl (mc rfl mn)))) ?_
         rintro _ w_42 ⟨rfl,hl7,hd10⟩
         have hS56:=hS52.out [false,false,false,true,false] rfl hd10
         refine rn ?_
         exact ⟨Phase,Out,m3,(sI hF14),(hf1.a 2 0 (hf1.a 4 1 (hf1.a 5 2 (hf1.a 6 3 (hf1.a 25 4 (hf1.a 26 5 (hf1.a 27 6 fn_))))))),hl,hl7,(hS56.sel [0,1,2,4] rfl rfl)⟩
   rintro f w ⟨Phase1,Out1,sums1,rfl,hf2,hl2,hl3,hS38⟩
   refine cr ?_
   refine sQ 113 (yP (i:Int) 1 rfl (hf2.g 27 6))<|sQ 27 (ym (vi (i64.wrap ((i:Int)+1)))) (rn ?_)
   obtain rfl:=sI hF4
   exact ⟨K5,Nat.lt_succ_self _,i+1,Phase1,Out1,sums1,(hf2.a 2 0 (hf2.a 4 1 (hf2.a 5 2 (hf2.a 6 3 (hf2.a 25 4 (hf2.a 26 5 (fc (congrArg (Value.int .i64) (wr_succ hlt1 hN)) fn_))))))),hl2,hl3,(hS38.sel [0,1,2,3] rfl rfl),(by omega),hL1⟩
  ·skip
   obtain rfl:k_=0:=by have h:=of_decide_eq_false hlt; omega
   refine cw_exit rfl ?_
   obtain rfl:=sI hL
   refine cq (cr ?_)
   refine sQ 114 (yb B6 0 (sums.flatMap encI) GL K61 (hS37.c 3) rfl (hf1.g 5 2) (fm_lenn2 encI_len hl1 rfl) (fm_whole encI_len hl1 rfl)) ?_
   obtain ⟨r_5,hc7,hF3⟩:=bI hF3
   refine sc 115 rfl rfl (yC [.agg (sums.flatMap encI).toArray] Jv (Kz sums _ hl1 (hS37.inn0 [] rfl) hc7)) ?_
   rintro _ w_43 ⟨B7,c6,rfl,hd11⟩
   have hS57:=hS37.out0 hd11
   refine sQ 116 (yd B4 0 0 K43 K35 rfl (hf1.g 4 1)) ?_
   let V8:List Value:=[vi c.Qubits,vi Phase,.slice B7 r_5.length c6,.slice B5 r_3.Rows.length c5]
   refine s0 (yS 1 1 B4 28 (.slice B7 r_5.length c6) [.slice B7 r_5.length c6] 2 V8 hS57 K35) ?_
   rintro _ w_44 ⟨rfl,hS58⟩
   refine rn (cq (cr ?_))
   refine sQ 117 (yb B4 0 V8 K39 K25 (hS58.c 1) rfl (hf1.g 4 1)) ?_
   refine s0 (yT 0 4 (aD b1) 28 (.agg V8.toArray) V8 0 hS58 K25 rfl (hf1.g 2 0)) ?_
   rintro _ w_45 ⟨rfl,hS59⟩
   refine sQ 3 (yg (.bool true)) (rn (ct_ ?_))
   obtain ⟨rfl,rfl⟩:=pr2 (sI hF3)
   exact ret2 Tryz.results11 (v1:=.agg V8.toArray) (resAt_cellA (B:=aD b1) (i:=0) (cs:=V8) (vs:=V8) (hf1.g 2 0) K39 K25 (hS59.c 0) rfl rfl) (v2:=.bool true) (resAt_tmp rfl) ⟨B7,c6,B5,c5,(by simp +zetaDelta [hl]),(hS59.sN [4,2])⟩

theorem MH (a:List Ab) (b:List Ab) (B:Option Addr) (c n:Nat) (B1:Option Addr) (c1 n1:Nat) (w0:World) (hn:a.length=n) (hn1:b.length=n1) (hS:ST w0 [] w0 [] [⟨B,(a.flatMap eN1)⟩,⟨B1,(b.flatMap eN1)⟩]) {r_:Bool} (hF:Da a b=some r_) :
  CV Tryz.prog 12 #[.slice B n c,.slice B1 n1 c1] w0 (fun v w'=>v=.bool r_∧ST w0 [] w' [] []):=by
 subst hn
 subst hn1
 unfold Da at hF
 refine cv_of_cw 26 Tryz.func12 rfl Tryz.ntmps12 rfl ?_
 refine cq (cr ?_)
 refine sQ 4 (yg (.bool false)) (rn (cq (cq (cr ?_))))
 refine sQ 6 (ym (.slice B a.length c))<|sQ 7 (Y_len (B:=B) (m:=a.length) (c:=c) K14 rfl rfl)<|sQ 8 (ym (.slice B1 b.length c1))<|sQ 9 (Y_len (B:=B1) (m:=b.length) (c:=c1) K14 rfl rfl)<|sQ 10 (Y_ne (k:=.i64) (a:=(a.length:Int)) (b:=(b.length:Int)) rfl rfl rfl) (rn ?_)
 refine cw_cond (b:=((a.length:Int) != (b.length:Int))) rfl (fun hb=>?_) (fun hb=>?_)
 ·skip
  have hF1:=ct hF hb
  refine cq (cr ?_)
  refine sQ 4 (yg (.bool false)) (rn (ct_ ?_))
  obtain rfl:=sI hF1
  exact ret1 Tryz.results12 (v1:=.bool false) (resAt_tmp rfl) ⟨rfl,(hS.sN [])⟩
 ·skip
  have hF2:=cf' hF hb
  refine cw_skip (cq (cq (cr ?_)))
  refine sQ 11 (ym (.slice B a.length c))<|sQ 12 (Y_len (B:=B) (m:=a.length) (c:=c) K14 rfl rfl)<|sQ 13 (ym (vi 0)) (rn ?_)
  obtain ⟨hN,hF2⟩:=chk_inv hF2
  obtain ⟨z,hz,hF3⟩:=bI hF2
  refine cw_block ?_
  refine cw_loop (fun k f w=>∃ (i:Nat),FF f [(0,.slice B a.length c),(1,.slice B1 b.length c1),(12,vi (a.length:Int)),(13,vi (i:Int))]∧ST w0 [] w [] [⟨B,(a.flatMap eN1)⟩,⟨B1,(b.flatMap eN1)⟩]∧i+k=a.length∧forX (Fk a b) k i ()=some z) a.length ⟨0,(fc rfl (fc rfl (fc rfl (fc rfl fn_)))),(hS.sel [] rfl rfl),Nat.zero_add _,hz⟩ ?_
  rintro k_ f w ⟨i,hf,hS1,hik,hL⟩
  refine cq (cr ?_)
  refine sQ 14 (yL (i:Int) (a.length:Int) rfl (hf.g 13 3) (hf.g 12 2)) (rn (cq ?_))
  refine cw_cond (b:=(decide ((i:Int)<(a.length:Int)))) rfl (fun hlt=>?_) (fun hlt=>?_)
  ·skip
   have hlt1:i<a.length:=by have h:=of_decide_eq_true hlt; omega
   obtain ⟨K5,rfl⟩:∃ k2,k_=k2+1:=⟨k_-1,by omega⟩
   obtain ⟨y,hb1,hL1⟩:=forX_go hL
   unfold Fk at hb1
   refine cw_skip (cq (cw_block (cq (cr ?_))))
   refine sQ 15 (ym (vi (i:Int)) rfl (hf.g 13 3))<|sQ 5 (yg (vi (i:Int))) (rn (cq ?_))
   obtain ⟨x,hx,hb1⟩:=bI hb1
   obtain ⟨x1,hx1,hb1⟩:=bI hb1
   refine ra_start (hS1.se []).fn (by kernel_rfl) ?_
   have hS2:=hS1.drew
   have hQ0:=hS2.se []
   refine rq 0 16 rfl hQ0 (fun w' hw'=>(ym (.slice B a.length c) rfl (hf.g 0 0)))<|rq 1 17 rfl hQ0 (fun w' hw'=>(ym (vi (i:Int))))<|rq 2 18 (v:=pt B ((i:Int).toNat*2)) rfl hQ0 (fun w' hw'=>(yI B (i:Int) K14 K15 (gi_isSome eN3 rfl (ST.rf hw' (i:=0) rfl) hx) (getI_nn hx) (getI_ltI hx rfl)))<|rq 3 19 (v:=.agg #[vi x.Mask,vi x.Coef]) rfl hQ0 (fun w' hw'=>(ya B ((i:Int).toNat*2) (a.flatMap eN1) [vi x.Mask,vi x.Coef] K51 K15 (ST.rf hw' (i:=0) rfl) rfl rfl (eN3 x) (gi_seg eN3 hx)))<|rq 4 20 rfl hQ0 (fun w' hw'=>(ym (.slice B1 b.length c1) rfl (hf.g 1 1))) ?_
   refine rq 5 21 rfl hQ0 (fun w' hw'=>(ym (vi (i:Int))))<|rq 6 22 (v:=pt B1 ((i:Int).toNat*2)) rfl hQ0 (fun w' hw'=>(yI B1 (i:Int) K14 K15 (gi_isSome eN3 rfl (ST.rf hw' (i:=1) rfl) hx1) (getI_nn hx1) (getI_ltI hx1 rfl)))<|rq 7 23 (v:=.agg #[vi x1.Mask,vi x1.Coef]) rfl hQ0 (fun w' hw'=>(ya B1 ((i:Int).toNat*2) (b.flatMap eN1) [vi x1.Mask,vi x1.Coef] K51 K15 (ST.rf hw' (i:=1) rfl) rfl rfl (eN3 x1) (gi_seg eN3 hx1)))<|rq 8 24 (v:=.bool (!((x.Mask==x1.Mask)&&((x.Coef==x1.Coef)&&true)))) rfl hQ0 (fun w' hw'=>(Y_neA (xs:=#[vi x.Mask,vi x.Coef]) (ys:=#[vi x1.Mask,vi x1.Coef]) (b:=((x.Mask==x1.Mask)&&((x.Coef==x1.Coef)&&true))) IT rfl rfl rfl (eqr_struct (xs:=[vi x.Mask,vi x.Coef]) (ys:=[vi x1.Mask,vi x1.Coef]) Ih Jd (pts_sc K1 rfl rfl (eqr_int K54) (pts_sc K1 rfl rfl (eqr_int K54) pts_nil))))) ?_
   refine ra_done (by kernel_rfl) ?_
   refine cw_cond (b:=(!((x.Mask==x1.Mask)&&((x.Coef==x1.Coef)&&true)))) rfl (fun hb2=>?_) (fun hb2=>?_)
   ·skip
    have hF4:=ct hb1 hb2
    refine cq (cr ?_)
    refine sQ 4 (yg (.bool false)) (rn (ct_ ?_))
    obtain rfl:=sI hF4
    obtain rfl:=sI hL1
    obtain rfl:=sI hF3
    exact ret1 Tryz.results12 (v1:=.bool false) (resAt_tmp rfl) ⟨rfl,(hS2.sN [])⟩
   ·skip
    have hF5:=cf' hb1 hb2
    refine cw_skip (cr ?_)
    refine sQ 25 (yP (i:Int) 1 rfl (hf.g 13 3))<|sQ 13 (ym (vi (i64.wrap ((i:Int)+1)))) (rn ?_)
    obtain rfl:=sI hF5
    exact ⟨K5,Nat.lt_succ_self _,i+1,(hf.a 0 0 (hf.a 1 1 (hf.a 12 2 (fc (congrArg (Value.int .i64) (wr_succ hlt1 hN)) fn_)))),(hS2.sel [] rfl rfl),(by omega),hL1⟩
  ·skip
   obtain rfl:k_=0:=by have h:=of_decide_eq_false hlt; omega
   refine cw_exit rfl ?_
   obtain rfl:=sI hL
   refine cq (cr ?_)
   refine sQ 4 (yg (.bool true)) (rn (ct_ ?_))
   obtain rfl:=sI hF3
   exact ret1 Tryz.results12 (v1:=.bool true) (resAt_tmp rfl) ⟨rfl,(hS1.sN [])⟩

theorem Nh (x:Int)  (w0:World)  (hS:ST w0 [] w0 [] []) {r_:Int} (hF:CL x=some r_) :
  CV Tryz.prog 123 #[.int .u64 x] w0 (fun v w'=>v=vi r_∧ST w0 [] w' [] []):=by
 unfold CL at hF
 refine cv_of_cw 35 Tryz.func123 rfl Tryz.ntmps123 rfl ?_
 refine cq (cr ?_)
 refine sQ 2 (yg (vi 0)) (rn (cq (cr ?_)))
 refine sQ 3 (ym (.int .u64 x))<|sQ 4 (Y_shr (k:=.u64) (a:=x) (k':=.u64) (b:=1) rfl rfl rfl (by decide))<|sQ 5 (Y_band (k:=.u64) (a:=(shrK .u64 x 1)) (b:=6148914691236517205) rfl rfl rfl)<|sQ 6 (ym (.int .u64 x))<|sQ 7 (Y_band (k:=.u64) (a:=x) (b:=6148914691236517205) rfl rfl rfl)<|sQ 8 (Y_add (k:=.u64) (b:=(bits .and .u64 x 6148914691236517205)) rfl rfl rfl) ?_
 refine sQ 0 (yg _) (rn (cq (cr ?_)))
 refine sQ 9 (ym _)<|sQ 10 (Y_shr (k:=.u64) (k':=.u64) (b:=2) rfl rfl rfl (by decide))<|sQ 11 (Y_band (k:=.u64) (b:=3689348814741910323) rfl rfl rfl)<|sQ 12 (ym _)<|sQ 13 (Y_band (k:=.u64) (b:=3689348814741910323) rfl rfl rfl)<|sQ 14 (Y_add (k:=.u64) rfl rfl rfl) ?_
 refine sQ 0 (yg _) (rn (cq (cr ?_)))
 refine sQ 15 (ym _)<|sQ 16 (Y_shr (k:=.u64) (k':=.u64) (b:=4) rfl rfl rfl (by decide))<|sQ 17 (ym _)<|sQ 18 (Y_add (k:=.u64) rfl rfl rfl)<|sQ 19 (Y_band (k:=.u64) (b:=1085102592571150095) rfl rfl rfl)<|sQ 0 (yg _) (rn (cq (cr ?_)))
 refine sQ 20 (ym _)<|sQ 21 (ym _)<|sQ 22 (Y_shr (k:=.u64) (k':=.u64) (b:=8) rfl rfl rfl (by decide))<|sQ 23 (Y_add (k:=.u64) rfl rfl rfl)<|sQ 0 (yg _) (rn (cq (cr ?_)))
 refine sQ 24 (ym _)<|sQ 25 (ym _)<|sQ 26 (Y_shr (k:=.u64) (k':=.u64) (b:=16) rfl rfl rfl (by decide))<|sQ 27 (Y_add (k:=.u64) rfl rfl rfl)<|sQ 0 (yg _) (rn (cq (cr ?_)))
 refine sQ 28 (ym _)<|sQ 29 (ym _)<|sQ 30 (Y_shr (k:=.u64) (k':=.u64) (b:=32) rfl rfl rfl (by decide))<|sQ 31 (Y_add (k:=.u64) rfl rfl rfl)<|sQ 0 (yg _) (rn (cq (cr ?_)))
 refine sQ 32 (ym _)<|sQ 33 (Y_conv (k:=.u64) (T:=72) (T':=3) IN K54 rfl rfl)<|sQ 34 (Y_band (k:=.i64) (b:=127) rfl rfl rfl)<|sQ 2 (yg _) (rn (ct_ ?_))
 obtain rfl:=sI hF
 exact ret1 Tryz.results123 (v1:=vi (bits .and .i64 (i64.wrap (IntKind.u64.wrap ((IntKind.u64.wrap ((IntKind.u64.wrap ((bits .and .u64 (IntKind.u64.wrap ((shrK .u64 (IntKind.u64.wrap ((bits .and .u64 (shrK .u64 (IntKind.u64.wrap ((bits .and .u64 (shrK .u64 x 1) 6148914691236517205)+(bits .and .u64 x 6148914691236517205))) 2) 3689348814741910323)+(bits .and .u64 (IntKind.u64.wrap ((bits .and .u64 (shrK .u64 x 1) 6148914691236517205)+(bits .and .u64 x 6148914691236517205))) 3689348814741910323))) 4)+(IntKind.u64.wrap ((bits .and .u64 (shrK .u64 (IntKind.u64.wrap ((bits .and .u64 (shrK .u64 x 1) 6148914691236517205)+(bits .and .u64 x 6148914691236517205))) 2) 3689348814741910323)+(bits .and .u64 (IntKind.u64.wrap ((bits .and .u64 (shrK .u64 x 1) 6148914691236517205)+(bits .and .u64 x 6148914691236517205))) 3689348814741910323))))) 1085102592571150095)+(shrK .u64 (bits .and .u64 (IntKind.u64.wrap ((shrK .u64 (IntKind.u64.wrap ((bits .and .u64 (shrK .u64 (IntKind.u64.wrap ((bits .and .u64 (shrK .u64 x 1) 6148914691236517205)+(bits .and .u64 x 6148914691236517205))) 2) 3689348814741910323)+(bits .and .u64 (IntKind.u64.wrap ((bits .and .u64 (shrK .u64 x 1) 6148914691236517205)+(bits .and .u64 x 6148914691236517205))) 3689348814741910323))) 4)+(IntKind.u64.wrap ((bits .and .u64 (shrK .u64 (IntKind.u64.wrap ((bits .and .u64 (shrK .u64 x 1) 6148914691236517205)+(bits .and .u64 x 6148914691236517205))) 2) 3689348814741910323)+(bits .and .u64 (IntKind.u64.wrap ((bits .and .u64 (shrK .u64 x 1) 6148914691236517205)+(bits .and .u64 x 6148914691236517205))) 3689348814741910323))))) 1085102592571150095) 8)))+(shrK .u64 (IntKind.u64.wrap ((bits .and .u64 (IntKind.u64.wrap ((shrK .u64 (IntKind.u64.wrap ((bits .and .u64 (shrK .u64 (IntKind.u64.wrap ((bits .and .u64 (shrK .u64 x 1) 6148914691236517205)+(bits .and .u64 x 6148914691236517205))) 2) 3689348814741910323)+(bits .and .u64 (IntKind.u64.wrap ((bits .and .u64 (shrK .u64 x 1) 6148914691236517205)+(bits .and .u64 x 6148914691236517205))) 3689348814741910323))) 4)+(IntKind.u64.wrap ((bits .and .u64 (shrK .u64 (IntKind.u64.wrap ((bits .and .u64 (shrK .u64 x 1) 6148914691236517205)+(bits .and .u64 x 6148914691236517205))) 2) 3689348814741910323)+(bits .and .u64 (IntKind.u64.wrap ((bits .and .u64 (shrK .u64 x 1) 6148914691236517205)+(bits .and .u64 x 6148914691236517205))) 3689348814741910323))))) 1085102592571150095)+(shrK .u64 (bits .and .u64 (IntKind.u64.wrap ((shrK .u64 (IntKind.u64.wrap ((bits .and .u64 (shrK .u64 (IntKind.u64.wrap ((bits .and .u64 (shrK .u64 x 1) 6148914691236517205)+(bits .and .u64 x 6148914691236517205))) 2) 3689348814741910323)+(bits .and .u64 (IntKind.u64.wrap ((bits .and .u64 (shrK .u64 x 1) 6148914691236517205)+(bits .and .u64 x 6148914691236517205))) 3689348814741910323))) 4)+(IntKind.u64.wrap ((bits .and .u64 (shrK .u64 (IntKind.u64.wrap ((bits .and .u64 (shrK .u64 x 1) 6148914691236517205)+(bits .and .u64 x 6148914691236517205))) 2) 3689348814741910323)+(bits .and .u64 (IntKind.u64.wrap ((bits .and .u64 (shrK .u64 x 1) 6148914691236517205)+(bits .and .u64 x 6148914691236517205))) 3689348814741910323))))) 1085102592571150095) 8))) 16)))+(shrK .u64 (IntKind.u64.wrap ((IntKind.u64.wrap ((bits .and .u64 (IntKind.u64.wrap ((shrK .u64 (IntKind.u64.wrap ((bits .and .u64 (shrK .u64 (IntKind.u64.wrap ((bits .and .u64 (shrK .u64 x 1) 6148914691236517205)+(bits .and .u64 x 6148914691236517205))) 2) 3689348814741910323)+(bits .and .u64 (IntKind.u64.wrap ((bits .and .u64 (shrK .u64 x 1) 6148914691236517205)+(bits .and .u64 x 6148914691236517205))) 3689348814741910323))) 4)+(IntKind.u64.wrap ((bits .and .u64 (shrK .u64 (IntKind.u64.wrap ((bits .and .u64 (shrK .u64 x 1) 6148914691236517205)+(bits .and .u64 x 6148914691236517205))) 2) 3689348814741910323)+(bits .and .u64 (IntKind.u64.wrap ((bits .and .u64 (shrK .u64 x 1) 6148914691236517205)+(bits .and .u64 x 6148914691236517205))) 3689348814741910323))))) 1085102592571150095)+(shrK .u64 (bits .and .u64 (IntKind.u64.wrap ((shrK .u64 (IntKind.u64.wrap ((bits .and .u64 (shrK .u64 (IntKind.u64.wrap ((bits .and .u64 (shrK .u64 x 1) 6148914691236517205)+(bits .and .u64 x 6148914691236517205))) 2) 3689348814741910323)+(bits .and .u64 (IntKind.u64.wrap ((bits .and .u64 (shrK .u64 x 1) 6148914691236517205)+(bits .and .u64 x 6148914691236517205))) 3689348814741910323))) 4)+(IntKind.u64.wrap ((bits .and .u64 (shrK .u64 (IntKind.u64.wrap ((bits .and .u64 (shrK .u64 x 1) 6148914691236517205)+(bits .and .u64 x 6148914691236517205))) 2) 3689348814741910323)+(bits .and .u64 (IntKind.u64.wrap ((bits .and .u64 (shrK .u64 x 1) 6148914691236517205)+(bits .and .u64 x 6148914691236517205))) 3689348814741910323))))) 1085102592571150095) 8)))+(shrK .u64 (IntKind.u64.wrap ((bits .and .u64 (IntKind.u64.wrap ((shrK .u64 (IntKind.u64.wrap ((bits .and .u64 (shrK .u64 (IntKind.u64.wrap ((bits .and .u64 (shrK .u64 x 1) 6148914691236517205)+(bits .and .u64 x 6148914691236517205))) 2) 3689348814741910323)+(bits .and .u64 (IntKind.u64.wrap ((bits .and .u64 (shrK .u64 x 1) 6148914691236517205)+(bits .and .u64 x 6148914691236517205))) 3689348814741910323))) 4)+(IntKind.u64.wrap ((bits .and .u64 (shrK .u64 (IntKind.u64.wrap ((bits .and .u64 (shrK .u64 x 1) 6148914691236517205)+(bits .and .u64 x 6148914691236517205))) 2) 3689348814741910323)+(bits .and .u64 (IntKind.u64.wrap ((bits .and .u64 (shrK .u64 x 1) 6148914691236517205)+(bits .and .u64 x 6148914691236517205))) 3689348814741910323))))) 1085102592571150095)+(shrK .u64 (bits .and .u64 (IntKind.u64.wrap ((shrK .u64 (IntKind.u64.wrap ((bits .and .u64 (shrK .u64 (IntKind.u64.wrap ((bits .and .u64 (shrK .u64 x 1) 6148914691236517205)+(bits .and .u64 x 6148914691236517205))) 2) 3689348814741910323)+(bits .and .u64 (IntKind.u64.wrap ((bits .and .u64 (shrK .u64 x 1) 6148914691236517205)+(bits .and .u64 x 6148914691236517205))) 3689348814741910323))) 4)+(IntKind.u64.wrap ((bits .and .u64 (shrK .u64 (IntKind.u64.wrap ((bits .and .u64 (shrK .u64 x 1) 6148914691236517205)+(bits .and .u64 x 6148914691236517205))) 2) 3689348814741910323)+(bits .and .u64 (IntKind.u64.wrap ((bits .and .u64 (shrK .u64 x 1) 6148914691236517205)+(bits .and .u64 x 6148914691236517205))) 3689348814741910323))))) 1085102592571150095) 8))) 16))) 32)))) 127)) (resAt_tmp rfl) ⟨rfl,(hS.sN [])⟩

theorem KL (x:Int)  (w0:World)  (hS:ST w0 [] w0 [] []) {r_:Int} (hF:EY x=some r_) :
  CV Tryz.prog 114 #[.int .u64 x] w0 (fun v w'=>v=vi r_∧ST w0 [] w' [] []):=by
 unfold EY at hF
 refine cv_of_cw 8 Tryz.func114 rfl Tryz.ntmps114 rfl ?_
 refine cq (cr ?_)
 refine sQ 2 (yg (vi 0)) (rn (cq ?_))
 refine cw_cond (b:=false) rfl (fun h=>by cases h) (fun _=>?_)
 refine cw_skip (cq (cr ?_))
 refine sQ 6 (ym (.int .u64 x)) ?_
 obtain ⟨r_1,hc,hF⟩:=bI hF
 refine sc 7 rfl rfl (yC [.int .u64 x] OL (Nh x _  (hS.inn0 [] rfl) hc)) ?_
 rintro _ w_ ⟨rfl,hd⟩
 have hS1:=hS.out00 hd
 refine sQ 2 (yg (vi r_1)) (rn (ct_ ?_))
 obtain rfl:=sI hF
 exact ret1 Tryz.results114 (v1:=vi r_1) (resAt_tmp rfl) ⟨rfl,(hS1.sN [])⟩

theorem Ht (mask:Int)  (w0:World)  (hS:ST w0 [] w0 [] []) {r_:Int} (hF:Dq mask=some r_) :
  CV Tryz.prog 96 #[vi mask] w0 (fun v w'=>v=vi r_∧ST w0 [] w' [] []):=by
 unfold Dq at hF
 refine cv_of_cw 6 Tryz.func96 rfl Tryz.ntmps96 rfl ?_
 refine cq (cr ?_)
 refine sQ 2 (yg (vi 0)) (rn (cq (cr ?_)))
 refine sQ 3 (ym (vi mask))<|sQ 4 (Y_conv (k:=.i64) (a:=mask) (T:=3) (T':=77) K40 K41 rfl rfl) ?_
 obtain ⟨r_1,hc,hF⟩:=bI hF
 refine sc 5 rfl rfl (yC [.int .u64 (IntKind.u64.wrap mask)] MI (KL (IntKind.u64.wrap mask) _  (hS.inn0 [] rfl) hc)) ?_
 rintro _ w_ ⟨rfl,hd⟩
 have hS1:=hS.out00 hd
 refine sQ 2 (yg (vi r_1)) (rn (ct_ ?_))
 obtain rfl:=sI hF
 exact ret1 Tryz.results96 (v1:=vi r_1) (resAt_tmp rfl) ⟨rfl,(hS1.sN [])⟩

theorem JR (p:Ah) (B:Option Addr) (c n:Nat) (B1:Option Addr) (c1 n1:Nat) (w0:World) (hn:p.Terms.length=n) (hn1:p.Out.Rows.length=n1) (hS:ST w0 [] w0 [] [⟨B,(p.Terms.flatMap eN1)⟩,⟨B1,(p.Out.Rows.flatMap encI)⟩]) {r_:List Ab} {r_1:Bool} (hF:C7 p=some (r_,r_1)) :
  CV Tryz.prog 50 #[.agg #[vi p.Qubits,vi p.Phase,.slice B n c,.slice B1 n1 c1]] w0 (fun v w'=>∃ (B2:Option Addr) (c2:Nat),v=.tuple #[.slice B2 r_.length c2,.bool r_1]∧ST w0 [] w' [⟨B2,64,(r_.flatMap eN1),c2*2⟩] []):=by
 subst hn
 subst hn1
 unfold C7 at hF
 refine cv_of_cw 49 Tryz.func50 rfl Tryz.ntmps50 rfl ?_
 refine cq (cr ?_)
 let V3:List Value:=[vi p.Qubits,vi p.Phase,.slice B p.Terms.length c,.slice B1 p.Out.Rows.length c1]
 refine sS 1 (yB 28 (.agg V3.toArray) V3 4 hS) ?_
 rintro _ w_ ⟨b,rfl,hS1⟩
 refine sQ 2 (yg (.slice none 0 0))<|sQ 3 (yg (.bool false)) (rn (cq (cq (cr ?_))))
 refine sQ 9 (yb (aD b) 0 V3 K39 K25 (hS1.c 0)) ?_
 obtain ⟨r_2,hc,hF⟩:=bI hF
 refine sc 10 rfl rfl (yC [.agg V3.toArray] K87 (EF p B c p.Terms.length B1 c1 p.Out.Rows.length _ rfl rfl (hS1.inn0 [(true,0),(true,1)] rfl) hc)) ?_
 rintro _ w_1 ⟨rfl,hd⟩
 have hS2:=hS1.out00 hd
 refine sQ 11 (Y_not (p:=r_2) rfl rfl) (rn ?_)
 refine cw_cond (b:=(!r_2)) rfl (fun hb=>?_) (fun hb=>?_)
 ·skip
  have hF1:=ct hF hb
  refine cq (cr ?_)
  refine sQ 2 (yg (.slice none 0 0))<|sQ 3 (yg (.bool false)) (rn (ct_ ?_))
  have hS3:=hS2.addNil 64
  obtain ⟨rfl,rfl⟩:=pr2 (sI hF1)
  exact ret2 Tryz.results50 (v1:=.slice none 0 0) (resAt_tmp rfl) (v2:=.bool false) (resAt_tmp rfl) ⟨none,0,rfl,(hS3.sN [1])⟩
 ·skip
  have hF2:=cf' hF hb
  refine cw_skip (cq (cr ?_))
  let V4:List Value:=[vi 0,vi 0,vi 0,vi 0,vi 0,vi 0,vi 0,vi 0,vi 0,vi 0,vi 0,vi 0,vi 0,vi 0,vi 0,vi 0,vi 0,vi 0,vi 0,vi 0,vi 0,vi 0,vi 0,vi 0,vi 0,vi 0,vi 0,vi 0,vi 0,vi 0,vi 0,vi 0]
  refine sQ 12 (show Y _ _ _ _ _ (.agg ((List.replicate 32 0).flatMap encI).toArray) from Y_buildA (zs:=V4) (vs:=[]) (cs:=V4) K88 K0 K69 rfl rfl rfl) ?_
  refine sS 4 (yN ((List.replicate 32 0).flatMap encI) 32 hS2 K69) ?_
  rintro _ w_2 ⟨b1,rfl,hS4⟩
  refine s0 (yT 1 32 (aD b1) 86 (.agg ((List.replicate 32 0).flatMap encI).toArray) ((List.replicate 32 0).flatMap encI) 0 hS4 K61 rfl rfl rfl rfl (fm_lenn2 encI_len (List.length_replicate (n:=32)) rfl) (fm_one' encI_one _) rfl (fm_fit encI_len (List.length_replicate (n:=32)) rfl) (fm_spl encI_len (List.length_replicate (n:=32)) (List.length_replicate (n:=32)))) ?_
  rintro _ w_3 ⟨rfl,hS5⟩
  refine rn (cq (cq (cr ?_)))
  refine sQ 5 (yg (vi 1)) (rn ?_)
  obtain ⟨z,hz,hF3⟩:=bI hF2
  refine cw_block ?_
  let O0:Ob:=⟨aD b,28,V3,4⟩
  let R1:Ro:=⟨B1,(p.Out.Rows.flatMap encI)⟩
  let R2:Ro:=⟨B,(p.Terms.flatMap eN1)⟩
  refine cw_loop (fun k f w=>∃ (sums:List Int) (mask:Int),FF f [(1,pt (aD b) 0),(4,pt (aD b1) 0),(5,vi mask)]∧sums.length=32∧ST w0 [] w [O0,⟨aD b1,86,(sums.flatMap encI),32⟩] [R2,R1]∧whX (Fy p) k (sums,mask)=some z) fuel ⟨(List.replicate 32 0),1,(fc rfl (fc rfl (fc rfl fn_))),(List.length_replicate (n:=32)),(hS5.sel [0,1] rfl rfl),hz⟩ ?_
  rintro k_ f w ⟨sums,mask,hf,hl,hS6,hL⟩
  obtain ⟨K5,y,rfl,hb1,hL1⟩:=whX_go hL
  unfold Fy at hb1
  refine cq (cq (cr ?_))
  refine sQ 13 (ym (vi mask) rfl (hf.g 5 2))<|sQ 14 (yd (aD b) 0 0 K44 K0 rfl (hf.g 1 0))<|sQ 15 (yl (aD b) 0 V3 (vi p.Qubits) K1 (hS6.c 0)) ?_
  obtain ⟨hsh,hb1⟩:=chk_inv hb1
  refine sQ 16 (Y_shl (k:=.i64) (a:=1) (k':=.i64) (b:=p.Qubits) rfl rfl rfl hsh)<|sQ 17 (yL mask (shlK .i64 1 p.Qubits)) (rn ?_)
  refine cw_cond (b:=(decide (mask<(shlK .i64 1 p.Qubits)))) rfl (fun hb2=>?_) (fun hb2=>?_)
  ·skip
   have hF4:=ct hb1 hb2
   refine cw_skip (cq ?_)
   obtain ⟨z1,hz1,hF5⟩:=bI hF4
   refine cw_mid (fun f w=>∃ (sums1:List Int),sums1=z1∧FF f [(1,pt (aD b) 0),(4,pt (aD b1) 0),(5,vi mask)]∧sums1.length=32∧ST w0 [] w [O0,⟨aD b1,86,(sums1.flatMap encI),32⟩] [R2,R1]) ?_ ?_
   ·skip
    refine cw_block (cq (cq (cr ?_)))
    refine sQ 20 (ym (vi mask) rfl (hf.g 5 2)) ?_
    obtain ⟨r_3,hc1,hz1⟩:=bI hz1
    refine sc 21 rfl rfl (yC [vi mask] IF (Ht mask _  (hS6.inn0 [] rfl) hc1)) ?_
    rintro _ w_4 ⟨rfl,hd1⟩
    have hS8:=hS6.out00 hd1
    refine sQ 22 (Y_gt (k:=.i64) (a:=r_3) (b:=3) rfl rfl rfl) (rn ?_)
    refine cw_cond (b:=(decide (3<r_3))) rfl (fun hb3=>?_) (fun hb3=>?_)
    ·skip
     have hF6:=ct hz1 hb3
     refine cw_exit rfl ?_
     exact ⟨sums,(sI hF6),(hf.a 1 0 (hf.a 4 1 (hf.a 5 2 fn_))),hl,(hS8.sel [0,1] rfl rfl)⟩
    ·skip
     have hF7:=cf' hz1 hb3
     refine cw_skip (cq (cr ?_))
     refine sQ 23 (show Y _ _ _ _ _ (.agg (([0,1,(-2),4]:List Int).flatMap encI).toArray) from Y_buildA (zs:=[vi 0,vi 0,vi 0,vi 0]) (vs:=[(0,vi 0),(1,vi 1),(2,vi (-2)),(3,vi 4)]) (cs:=[vi 0,vi 1,vi (-2),vi 4]) JL K0 NP rfl (mpc rfl (mpc rfl (mpc rfl (mpc rfl mpn)))) (by kernel_rfl))<|sQ 24 (ym (vi mask) rfl (hf.g 5 2)) ?_
     obtain ⟨r_4,hc2,hF7⟩:=bI hF7
     refine sc 25 rfl rfl (yC [vi mask] IF (Ht mask _  (hS8.inn0 [] rfl) hc2)) ?_
     rintro _ w_5 ⟨rfl,hd2⟩
     have hS9:=hS8.out00 hd2
     obtain ⟨x,hx,hF7⟩:=bI hF7
     refine sQ 26 (Y_idx1 (cl:=(([0,1,(-2),4]:List Int).flatMap encI)) (k:=.i64) (i:=r_4) (v:=vi x) JL K0 K1 rfl rfl rfl (getI_nn hx) (getI_ltI hx rfl) (gi_at0 encI_len hx rfl))<|sQ 6 (yg (vi x)) (rn (cq (cr ?_)))
     refine sQ 27 (yd (aD b) 0 0 K43 K35 rfl (hf.g 1 0))<|sQ 28 (yl (aD b) 2 V3 (.slice B p.Terms.length c) K42 (hS9.c 0))<|sQ 29 (Y_len (B:=B) (m:=p.Terms.length) (c:=c) K14 rfl rfl)<|sQ 30 (ym (vi 0)) (rn ?_)
     obtain ⟨hN,hF7⟩:=chk_inv hF7
     obtain ⟨z2,hz2,hF8⟩:=bI hF7
     refine cw_block ?_
     refine cw_loop (fun k f w=>∃ (i:Nat) (sums2:List Int),FF f [(1,pt (aD b) 0),(4,pt (aD b1) 0),(5,vi mask),(6,vi x),(28,.slice B p.Terms.length c),(29,vi (p.Terms.length:Int)),(30,vi (i:Int))]∧sums2.length=32∧ST w0 [] w [O0,⟨aD b1,86,(sums2.flatMap encI),32⟩] [R2,R1]∧i+k=p.Terms.length∧forN (Dw p mask x) k i sums2=some z2) p.Terms.length ⟨0,sums,(hf.a 1 0 (hf.a 4 1 (hf.a 5 2 (fc rfl (fc rfl (fc rfl (fc rfl fn_))))))),hl,(hS9.sel [0,1] rfl rfl),Nat.zero_add _,hz2⟩ ?_
     rintro K19 f w ⟨i,sums2,hf2,hl2,hS10,hik1,hL2⟩
     refine cq (cr ?_)
     refine sQ 31 (yL (i:Int) (p.Terms.length:Int) rfl (hf2.g 30 6) (hf2.g 29 5)) (rn (cq ?_))
     refine cw_cond (b:=(decide ((i:Int)<(p.Terms.length:Int)))) rfl (fun hlt=>?_) (fun hlt=>?_)
     ·skip
      have hlt1:i<p.Terms.length:=by have h:=of_decide_eq_true hlt; omega
      obtain ⟨K32,rfl⟩:∃ k2,K19=k2+1:=⟨K19-1,by omega⟩
      obtain ⟨y1,hb4,hL3⟩:=forN_go hL2
      unfold Dw at hb4
      refine cw_skip (cq ?_)
      obtain ⟨z3,hz3,hF9⟩:=bI hb4
      refine cw_mid (fun f w=>∃ (sums3:List Int),sums3=z3∧FF f [(1,pt (aD b) 0),(4,pt (aD b1) 0),(5,vi mask),(6,vi x),(28,.slice B p.Terms.length c),(29,vi (p.Terms.length:Int)),(30,vi (i:Int))]∧sums3.length=32∧ST w0 [] w [O0,⟨aD b1,86,(sums3.flatMap encI),32⟩] [R2,R1]) ?_ ?_
      ·skip
       refine cw_block (cq (cr ?_))
       obtain ⟨x1,hx1,hz3⟩:=bI hz3
       let V5:List Value:=[vi x1.Mask,vi x1.Coef]
       refine sQ 32 (yI B (i:Int) K14 K15 (gi_isSome eN3 rfl (hS10.rf (i:=0) rfl) hx1) (getI_nn hx1) (getI_ltI hx1 rfl) rfl (hf2.g 28 4) (hf2.g 30 6))<|sQ 33 (ya B ((i:Int).toNat*2) (p.Terms.flatMap eN1) V5 K51 K15 (hS10.rf (i:=0) rfl) rfl rfl (eN3 x1) (gi_seg eN3 hx1)) ?_
       refine sS 8 (yN [vi 0,vi 0] 2 hS10 K37) ?_
       rintro _ w_6 ⟨b2,rfl,hS12⟩
       refine s0 (yT 2 2 (aD b2) 64 (.agg V5.toArray) V5 0 hS12 K15) ?_
       rintro _ w_7 ⟨rfl,hS13⟩
       refine rn (cq (cr ?_))
       refine sQ 34 (yd (aD b2) 0 0 K49 K0)<|sQ 35 (yl (aD b2) 0 V5 (vi x1.Mask) K1 (hS13.c 2))<|sQ 36 (ym (vi mask) rfl (hf2.g 5 2))<|sQ 37 (Y_band (k:=.i64) (a:=x1.Mask) (b:=mask) rfl rfl rfl)<|sQ 38 (ym (vi mask) rfl (hf2.g 5 2))<|sQ 39 (yE (bits .and .i64 x1.Mask mask) mask) (rn ?_)
       refine cw_cond (b:=((bits .and .i64 x1.Mask mask)==mask)) rfl (fun hb5=>?_) (fun hb5=>?_)
       ·skip
        have hF10:=ct hz3 hb5
        refine cr ?_
        refine sQ 40 (ym (vi mask) rfl (hf2.g 5 2))<|sQ 41 (ym (vi x) rfl (hf2.g 6 3))<|sQ 42 (yd (aD b2) 0 0 K77 K0)<|sQ 43 (yl (aD b2) 1 V5 (vi x1.Coef) K1 (hS13.c 2))<|sQ 44 (yX x x1.Coef) ?_
        obtain ⟨m,hc3,hF10⟩:=bI hF10
        refine sc 45 rfl rfl (yC [pt (aD b1) 0,vi mask,vi (i64.wrap (x*x1.Coef))] K89 (F5 sums2 mask (i64.wrap (x*x1.Coef)) (aD b1) _ hl2 (hS13.inn [false,true,false] rfl [] rfl) hc3) rfl (mc (hf2.g 4 1) (mc rfl (mc rfl mn)))) ?_
        rintro _ w_8 ⟨rfl,hl4,hd3⟩
        have hS14:=hS13.out [false,true,false] rfl hd3
        refine rn ?_
        exact ⟨m,(sI hF10),(hf2.a 1 0 (hf2.a 4 1 (hf2.a 5 2 (hf2.a 6 3 (hf2.a 28 4 (hf2.a 29 5 (hf2.a 30 6 fn_))))))),hl4,(hS14.sel [0,2] rfl rfl)⟩
       ·skip
        have hF11:=cf' hz3 hb5
        refine cw_skip ?_
        exact ⟨sums2,(sI hF11),(hf2.a 1 0 (hf2.a 4 1 (hf2.a 5 2 (hf2.a 6 3 (hf2.a 28 4 (hf2.a 29 5 (hf2.a 30 6 fn_))))))),hl2,(hS13.sel [0,1] rfl rfl)⟩
      rintro f w ⟨sums3,rfl,hf3,hl3,hS11⟩
      refine cr ?_
      refine sQ 46 (yP (i:Int) 1 rfl (hf3.g 30 6))<|sQ 30 (ym (vi (i64.wrap ((i:Int)+1)))) (rn ?_)
      obtain rfl:=sI hF9
      exact ⟨K32,Nat.lt_succ_self _,i+1,sums3,(hf3.a 1 0 (hf3.a 4 1 (hf3.a 5 2 (hf3.a 6 3 (hf3.a 28 4 (hf3.a 29 5 (fc (congrArg (Value.int .i64) (wr_succ hlt1 hN)) fn_))))))),hl3,(hS11.sel [0,1] rfl rfl),(by omega),hL3⟩
     ·skip
      obtain rfl:K19=0:=by have h:=of_decide_eq_false hlt; omega
      refine cw_exit rfl ?_
      obtain rfl:=sI hL2
      exact ⟨sums2,(sI hF8),(hf2.a 1 0 (hf2.a 4 1 (hf2.a 5 2 fn_))),hl2,(hS10.sel [0,1] rfl rfl)⟩
   rintro f w ⟨sums1,rfl,hf1,hl1,hS7⟩
   refine cr ?_
   refine sQ 18 (ym (vi mask) rfl (hf1.g 5 2))<|sQ 19 (yP mask 1)<|sQ 5 (yg (vi (i64.wrap (mask+1)))) (rn ?_)
   obtain rfl:=sI hF5
   exact ⟨K5,Nat.lt_succ_self _,sums1,(i64.wrap (mask+1)),(hf1.a 1 0 (hf1.a 4 1 (fc rfl fn_))),hl1,(hS7.sel [0,1] rfl rfl),hL1⟩
  ·skip
   have hF12:=cf' hb1 hb2
   refine cw_exit rfl ?_
   obtain rfl:=sI hF12
   obtain rfl:=sI hL1
   refine cq (cr ?_)
   refine sQ 47 (yb (aD b1) 0 (sums.flatMap encI) GL K61 (hS6.c 1) rfl (hf.g 4 1) (fm_lenn2 encI_len hl rfl) (fm_whole encI_len hl rfl)) ?_
   obtain ⟨r_5,hc4,hF3⟩:=bI hF3
   refine sc 48 rfl rfl (yC [.agg (sums.flatMap encI).toArray] Jv (Kz sums _ hl (hS6.inn0 [] rfl) hc4)) ?_
   rintro _ w_9 ⟨B3,c3,rfl,hd4⟩
   have hS15:=hS6.out0 hd4
   refine sQ 2 (yg (.slice B3 r_5.length c3))<|sQ 3 (yg (.bool true)) (rn (ct_ ?_))
   obtain ⟨rfl,rfl⟩:=pr2 (sI hF3)
   exact ret2 Tryz.results50 (v1:=.slice B3 r_5.length c3) (resAt_tmp rfl) (v2:=.bool true) (resAt_tmp rfl) ⟨B3,c3,rfl,(hS15.sN [2])⟩

theorem KS (s1:List Int) (s2:List Int) (B:Option Addr) (c n:Nat) (B1:Option Addr) (c1 n1:Nat) (w0:World) (hn:s1.length=n) (hn1:s2.length=n1) (hS:ST w0 [] w0 [] [⟨B,(s1.flatMap encI)⟩,⟨B1,(s2.flatMap encI)⟩]) {r_:Bool} (hF:Dz s1 s2=some r_) :
  CV Tryz.prog 51 #[.slice B n c,.slice B1 n1 c1] w0 (fun v w'=>v=.bool r_∧ST w0 [] w' [] []):=by
 subst hn
 subst hn1
 unfold Dz at hF
 refine cv_of_cw 26 Tryz.func51 rfl Tryz.ntmps51 rfl ?_
 refine cq (cr ?_)
 refine sQ 4 (yg (.bool false)) (rn (cq (cq (cr ?_))))
 refine sQ 6 (ym (.slice B s1.length c))<|sQ 7 (Y_len (B:=B) (m:=s1.length) (c:=c) K2 rfl rfl)<|sQ 8 (ym (.slice B1 s2.length c1))<|sQ 9 (Y_len (B:=B1) (m:=s2.length) (c:=c1) K2 rfl rfl)<|sQ 10 (Y_ne (k:=.i64) (a:=(s1.length:Int)) (b:=(s2.length:Int)) rfl rfl rfl) (rn ?_)
 refine cw_cond (b:=((s1.length:Int) != (s2.length:Int))) rfl (fun hb=>?_) (fun hb=>?_)
 ·skip
  have hF1:=ct hF hb
  refine cq (cr ?_)
  refine sQ 4 (yg (.bool false)) (rn (ct_ ?_))
  obtain rfl:=sI hF1
  exact ret1 Tryz.results51 (v1:=.bool false) (resAt_tmp rfl) ⟨rfl,(hS.sN [])⟩
 ·skip
  have hF2:=cf' hF hb
  refine cw_skip (cq (cq (cr ?_)))
  refine sQ 11 (ym (.slice B s1.length c))<|sQ 12 (Y_len (B:=B) (m:=s1.length) (c:=c) K2 rfl rfl)<|sQ 13 (ym (vi 0)) (rn ?_)
  obtain ⟨hN,hF2⟩:=chk_inv hF2
  obtain ⟨z,hz,hF3⟩:=bI hF2
  refine cw_block ?_
  refine cw_loop (fun k f w=>∃ (i:Nat),FF f [(0,.slice B s1.length c),(1,.slice B1 s2.length c1),(12,vi (s1.length:Int)),(13,vi (i:Int))]∧ST w0 [] w [] [⟨B,(s1.flatMap encI)⟩,⟨B1,(s2.flatMap encI)⟩]∧i+k=s1.length∧forX (EN s1 s2) k i ()=some z) s1.length ⟨0,(fc rfl (fc rfl (fc rfl (fc rfl fn_)))),(hS.sel [] rfl rfl),Nat.zero_add _,hz⟩ ?_
  rintro k_ f w ⟨i,hf,hS1,hik,hL⟩
  refine cq (cr ?_)
  refine sQ 14 (yL (i:Int) (s1.length:Int) rfl (hf.g 13 3) (hf.g 12 2)) (rn (cq ?_))
  refine cw_cond (b:=(decide ((i:Int)<(s1.length:Int)))) rfl (fun hlt=>?_) (fun hlt=>?_)
  ·skip
   have hlt1:i<s1.length:=by have h:=of_decide_eq_true hlt; omega
   obtain ⟨K5,rfl⟩:∃ k2,k_=k2+1:=⟨k_-1,by omega⟩
   obtain ⟨y,hb1,hL1⟩:=forX_go hL
   unfold EN at hb1
   refine cw_skip (cq (cw_block (cq (cr ?_))))
   refine sQ 15 (ym (vi (i:Int)) rfl (hf.g 13 3))<|sQ 5 (yg (vi (i:Int))) (rn (cq ?_))
   obtain ⟨x,hx,hb1⟩:=bI hb1
   obtain ⟨x1,hx1,hb1⟩:=bI hb1
   refine ra_start (hS1.se []).fn (by kernel_rfl) ?_
   have hS2:=hS1.drew
   have hQ0:=hS2.se []
   refine rq 0 16 rfl hQ0 (fun w' hw'=>(ym (.slice B s1.length c) rfl (hf.g 0 0)))<|rq 1 17 rfl hQ0 (fun w' hw'=>(ym (vi (i:Int))))<|rq 2 18 (v:=pt B ((i:Int).toNat*1)) rfl hQ0 (fun w' hw'=>(yI B (i:Int) K2 K0 (gi_isSome encI_len rfl (ST.rf hw' (i:=0) rfl) hx) (getI_nn hx) (getI_ltI hx rfl)))<|rq 3 19 rfl hQ0 (fun w' hw'=>(yl B ((i:Int).toNat*1) (s1.flatMap encI) (vi x) K1 (ST.rf hw' (i:=0) rfl) rfl rfl (gi_at0 encI_len hx rfl)))<|rq 4 20 rfl hQ0 (fun w' hw'=>(ym (.slice B1 s2.length c1) rfl (hf.g 1 1))) ?_
   refine rq 5 21 rfl hQ0 (fun w' hw'=>(ym (vi (i:Int))))<|rq 6 22 (v:=pt B1 ((i:Int).toNat*1)) rfl hQ0 (fun w' hw'=>(yI B1 (i:Int) K2 K0 (gi_isSome encI_len rfl (ST.rf hw' (i:=1) rfl) hx1) (getI_nn hx1) (getI_ltI hx1 rfl)))<|rq 7 23 rfl hQ0 (fun w' hw'=>(yl B1 ((i:Int).toNat*1) (s2.flatMap encI) (vi x1) K1 (ST.rf hw' (i:=1) rfl) rfl rfl (gi_at0 encI_len hx1 rfl)))<|rq 8 24 rfl hQ0 (fun w' hw'=>(Y_ne (k:=.i64) (a:=x) (b:=x1) rfl rfl rfl)) ?_
   refine ra_done (by kernel_rfl) ?_
   refine cw_cond (b:=(x != x1)) rfl (fun hb2=>?_) (fun hb2=>?_)
   ·skip
    have hF4:=ct hb1 hb2
    refine cq (cr ?_)
    refine sQ 4 (yg (.bool false)) (rn (ct_ ?_))
    obtain rfl:=sI hF4
    obtain rfl:=sI hL1
    obtain rfl:=sI hF3
    exact ret1 Tryz.results51 (v1:=.bool false) (resAt_tmp rfl) ⟨rfl,(hS2.sN [])⟩
   ·skip
    have hF5:=cf' hb1 hb2
    refine cw_skip (cr ?_)
    refine sQ 25 (yP (i:Int) 1 rfl (hf.g 13 3))<|sQ 13 (ym (vi (i64.wrap ((i:Int)+1)))) (rn ?_)
    obtain rfl:=sI hF5
    exact ⟨K5,Nat.lt_succ_self _,i+1,(hf.a 0 0 (hf.a 1 1 (hf.a 12 2 (fc (congrArg (Value.int .i64) (wr_succ hlt1 hN)) fn_)))),(hS2.sel [] rfl rfl),(by omega),hL1⟩
  ·skip
   obtain rfl:k_=0:=by have h:=of_decide_eq_false hlt; omega
   refine cw_exit rfl ?_
   obtain rfl:=sI hL
   refine cq (cr ?_)
   refine sQ 4 (yg (.bool true)) (rn (ct_ ?_))
   obtain rfl:=sI hF3
   exact ret1 Tryz.results51 (v1:=.bool true) (resAt_tmp rfl) ⟨rfl,(hS1.sN [])⟩

theorem PO (s1:List Ab) (s2:List Ab) (B:Option Addr) (c n:Nat) (B1:Option Addr) (c1 n1:Nat) (w0:World) (hn:s1.length=n) (hn1:s2.length=n1) (hS:ST w0 [] w0 [] [⟨B,(s1.flatMap eN1)⟩,⟨B1,(s2.flatMap eN1)⟩]) {r_:Bool} (hF:En s1 s2=some r_) :
  CV Tryz.prog 52 #[.slice B n c,.slice B1 n1 c1] w0 (fun v w'=>v=.bool r_∧ST w0 [] w' [] []):=by
 subst hn
 subst hn1
 unfold En at hF
 refine cv_of_cw 26 Tryz.func52 rfl Tryz.ntmps52 rfl ?_
 refine cq (cr ?_)
 refine sQ 4 (yg (.bool false)) (rn (cq (cq (cr ?_))))
 refine sQ 6 (ym (.slice B s1.length c))<|sQ 7 (Y_len (B:=B) (m:=s1.length) (c:=c) K14 rfl rfl)<|sQ 8 (ym (.slice B1 s2.length c1))<|sQ 9 (Y_len (B:=B1) (m:=s2.length) (c:=c1) K14 rfl rfl)<|sQ 10 (Y_ne (k:=.i64) (a:=(s1.length:Int)) (b:=(s2.length:Int)) rfl rfl rfl) (rn ?_)
 refine cw_cond (b:=((s1.length:Int) != (s2.length:Int))) rfl (fun hb=>?_) (fun hb=>?_)
 ·skip
  have hF1:=ct hF hb
  refine cq (cr ?_)
  refine sQ 4 (yg (.bool false)) (rn (ct_ ?_))
  obtain rfl:=sI hF1
  exact ret1 Tryz.results52 (v1:=.bool false) (resAt_tmp rfl) ⟨rfl,(hS.sN [])⟩
 ·skip
  have hF2:=cf' hF hb
  refine cw_skip (cq (cq (cr ?_)))
  refine sQ 11 (ym (.slice B s1.length c))<|sQ 12 (Y_len (B:=B) (m:=s1.length) (c:=c) K14 rfl rfl)<|sQ 13 (ym (vi 0)) (rn ?_)
  obtain ⟨hN,hF2⟩:=chk_inv hF2
  obtain ⟨z,hz,hF3⟩:=bI hF2
  refine cw_block ?_
  refine cw_loop (fun k f w=>∃ (i:Nat),FF f [(0,.slice B s1.length c),(1,.slice B1 s2.length c1),(12,vi (s1.length:Int)),(13,vi (i:Int))]∧ST w0 [] w [] [⟨B,(s1.flatMap eN1)⟩,⟨B1,(s2.flatMap eN1)⟩]∧i+k=s1.length∧forX (EU s1 s2) k i ()=some z) s1.length ⟨0,(fc rfl (fc rfl (fc rfl (fc rfl fn_)))),(hS.sel [] rfl rfl),Nat.zero_add _,hz⟩ ?_
  rintro k_ f w ⟨i,hf,hS1,hik,hL⟩
  refine cq (cr ?_)
  refine sQ 14 (yL (i:Int) (s1.length:Int) rfl (hf.g 13 3) (hf.g 12 2)) (rn (cq ?_))
  refine cw_cond (b:=(decide ((i:Int)<(s1.length:Int)))) rfl (fun hlt=>?_) (fun hlt=>?_)
  ·skip
   have hlt1:i<s1.length:=by have h:=of_decide_eq_true hlt; omega
   obtain ⟨K5,rfl⟩:∃ k2,k_=k2+1:=⟨k_-1,by omega⟩
   obtain ⟨y,hb1,hL1⟩:=forX_go hL
   unfold EU at hb1
   refine cw_skip (cq (cw_block (cq (cr ?_))))
   refine sQ 15 (ym (vi (i:Int)) rfl (hf.g 13 3))<|sQ 5 (yg (vi (i:Int))) (rn (cq ?_))
   obtain ⟨x,hx,hb1⟩:=bI hb1
   obtain ⟨x1,hx1,hb1⟩:=bI hb1
   refine ra_start (hS1.se []).fn (by kernel_rfl) ?_
   have hS2:=hS1.drew
   have hQ0:=hS2.se []
   refine rq 0 16 rfl hQ0 (fun w' hw'=>(ym (.slice B s1.length c) rfl (hf.g 0 0)))<|rq 1 17 rfl hQ0 (fun w' hw'=>(ym (vi (i:Int))))<|rq 2 18 (v:=pt B ((i:Int).toNat*2)) rfl hQ0 (fun w' hw'=>(yI B (i:Int) K14 K15 (gi_isSome eN3 rfl (ST.rf hw' (i:=0) rfl) hx) (getI_nn hx) (getI_ltI hx rfl)))<|rq 3 19 (v:=.agg #[vi x.Mask,vi x.Coef]) rfl hQ0 (fun w' hw'=>(ya B ((i:Int).toNat*2) (s1.flatMap eN1) [vi x.Mask,vi x.Coef] K51 K15 (ST.rf hw' (i:=0) rfl) rfl rfl (eN3 x) (gi_seg eN3 hx)))<|rq 4 20 rfl hQ0 (fun w' hw'=>(ym (.slice B1 s2.length c1) rfl (hf.g 1 1))) ?_
   refine rq 5 21 rfl hQ0 (fun w' hw'=>(ym (vi (i:Int))))<|rq 6 22 (v:=pt B1 ((i:Int).toNat*2)) rfl hQ0 (fun w' hw'=>(yI B1 (i:Int) K14 K15 (gi_isSome eN3 rfl (ST.rf hw' (i:=1) rfl) hx1) (getI_nn hx1) (getI_ltI hx1 rfl)))<|rq 7 23 (v:=.agg #[vi x1.Mask,vi x1.Coef]) rfl hQ0 (fun w' hw'=>(ya B1 ((i:Int).toNat*2) (s2.flatMap eN1) [vi x1.Mask,vi x1.Coef] K51 K15 (ST.rf hw' (i:=1) rfl) rfl rfl (eN3 x1) (gi_seg eN3 hx1)))<|rq 8 24 (v:=.bool (!((x.Mask==x1.Mask)&&((x.Coef==x1.Coef)&&true)))) rfl hQ0 (fun w' hw'=>(Y_neA (xs:=#[vi x.Mask,vi x.Coef]) (ys:=#[vi x1.Mask,vi x1.Coef]) (b:=((x.Mask==x1.Mask)&&((x.Coef==x1.Coef)&&true))) IT rfl rfl rfl (eqr_struct (xs:=[vi x.Mask,vi x.Coef]) (ys:=[vi x1.Mask,vi x1.Coef]) Ih Jd (pts_sc K1 rfl rfl (eqr_int K54) (pts_sc K1 rfl rfl (eqr_int K54) pts_nil))))) ?_
   refine ra_done (by kernel_rfl) ?_
   refine cw_cond (b:=(!((x.Mask==x1.Mask)&&((x.Coef==x1.Coef)&&true)))) rfl (fun hb2=>?_) (fun hb2=>?_)
   ·skip
    have hF4:=ct hb1 hb2
    refine cq (cr ?_)
    refine sQ 4 (yg (.bool false)) (rn (ct_ ?_))
    obtain rfl:=sI hF4
    obtain rfl:=sI hL1
    obtain rfl:=sI hF3
    exact ret1 Tryz.results52 (v1:=.bool false) (resAt_tmp rfl) ⟨rfl,(hS2.sN [])⟩
   ·skip
    have hF5:=cf' hb1 hb2
    refine cw_skip (cr ?_)
    refine sQ 25 (yP (i:Int) 1 rfl (hf.g 13 3))<|sQ 13 (ym (vi (i64.wrap ((i:Int)+1)))) (rn ?_)
    obtain rfl:=sI hF5
    exact ⟨K5,Nat.lt_succ_self _,i+1,(hf.a 0 0 (hf.a 1 1 (hf.a 12 2 (fc (congrArg (Value.int .i64) (wr_succ hlt1 hN)) fn_)))),(hS2.sel [] rfl rfl),(by omega),hL1⟩
  ·skip
   obtain rfl:k_=0:=by have h:=of_decide_eq_false hlt; omega
   refine cw_exit rfl ?_
   obtain rfl:=sI hL
   refine cq (cr ?_)
   refine sQ 4 (yg (.bool true)) (rn (ct_ ?_))
   obtain rfl:=sI hF3
   exact ret1 Tryz.results52 (v1:=.bool true) (resAt_tmp rfl) ⟨rfl,(hS1.sN [])⟩

theorem L6 (p:Ah) (q:Ah) (B:Option Addr) (c n:Nat) (B1:Option Addr) (c1 n1:Nat) (B2:Option Addr) (c2 n2:Nat) (B3:Option Addr) (c3 n3:Nat) (w0:World) (hn:p.Terms.length=n) (hn1:p.Out.Rows.length=n1) (hn2:q.Terms.length=n2) (hn3:q.Out.Rows.length=n3) (hS:ST w0 [] w0 [] [⟨B,(p.Terms.flatMap eN1)⟩,⟨B1,(p.Out.Rows.flatMap encI)⟩,⟨B2,(q.Terms.flatMap eN1)⟩,⟨B3,(q.Out.Rows.flatMap encI)⟩]) {r_:Bool} {r_1:Bool} (hF:CU p q=some (r_,r_1)) :
  CV Tryz.prog 13 #[.agg #[vi p.Qubits,vi p.Phase,.slice B n c,.slice B1 n1 c1],.agg #[vi q.Qubits,vi q.Phase,.slice B2 n2 c2,.slice B3 n3 c3]] w0 (fun v w'=>v=.tuple #[.bool r_,.bool r_1]∧ST w0 [] w' [] []):=by
 subst hn
 subst hn1
 subst hn2
 subst hn3
 unfold CU at hF
 refine cv_of_cw 54 Tryz.func13 rfl Tryz.ntmps13 rfl ?_
 refine cq (cr ?_)
 let V1:List Value:=[vi p.Qubits,vi p.Phase,.slice B p.Terms.length c,.slice B1 p.Out.Rows.length c1]
 refine sS 2 (yB 28 (.agg V1.toArray) V1 4 hS) ?_
 rintro _ w_ ⟨b,rfl,hS1⟩
 let V0:List Value:=[vi q.Qubits,vi q.Phase,.slice B2 q.Terms.length c2,.slice B3 q.Out.Rows.length c3]
 refine sS 3 (yB 28 (.agg V0.toArray) V0 4 hS1) ?_
 rintro _ w_1 ⟨b1,rfl,hS2⟩
 refine sQ 4 (yg (.bool false))<|sQ 5 (yg (.bool false)) (rn (cq (cq (cr ?_))))
 refine sQ 10 (yb (aD b) 0 V1 K39 K25 (hS2.c 0)) ?_
 obtain ⟨r_2,hc,hF⟩:=bI hF
 refine sc 11 rfl rfl (yC [.agg V1.toArray] K87 (EF p B c p.Terms.length B1 c1 p.Out.Rows.length _ rfl rfl (hS2.inn0 [(true,0),(true,1)] rfl) hc)) ?_
 rintro _ w_2 ⟨rfl,hd⟩
 have hS3:=hS2.out00 hd
 refine sQ 12 (Y_not (p:=r_2) rfl rfl)<|sQ 13 (ym (.bool (!r_2))) ?_
 refine sgq 14 (B:=(!(!r_2))) (v:=.agg V0.toArray) rfl rfl (uF_ 13) (fun hg=>(yb (aD b1) 0 V0 K39 K25 (hS3.c 1))) ?_
 obtain ⟨r_3,hc1,hF⟩:=bI hF
 refine sgc 15 (B:=(!(!r_2))) (v:=.bool r_3) (F:=hS3.fn) rfl rfl (uF_ 13) hS3 (fun hg1=>(yC [.agg V0.toArray] K87 (CV.mono (EF q B2 c2 q.Terms.length B3 c3 q.Out.Rows.length _ rfl rfl (hS3.inn0 [(true,2),(true,3)] rfl) (gb_inv hc1 hg1)) (by rintro _ _ ⟨rfl,h⟩; exact ⟨rfl,hS3.out00 h⟩)) rfl (mc (gv_of (v:=.agg V0.toArray) hg1) mn))) ?_
 rintro w_3 hS4
 refine sgq 16 (B:=(!(!r_2))) (v:=.bool (!r_3)) rfl rfl (uF_ 13) (fun hg2=>(Y_not (p:=r_3) rfl (gv_of (v:=.bool r_3) hg2))) ?_
 refine sQ 17 (Y_or (b:=(!r_2)) (z:=(!r_3)) rfl rfl rfl rfl)<|sQ 18 (ym (.bool ((!r_2)||(!r_3)))) ?_
 refine sgq 19 (B:=(!((!r_2)||(!r_3)))) (v:=pt (aD b) 0) rfl rfl (uF_ 18) (fun hg3=>(yd (aD b) 0 0 K44 K0)) ?_
 refine sgq 20 (B:=(!((!r_2)||(!r_3)))) rfl rfl (uF_ 18) (fun hg4=>(yl (aD b) 0 V1 (vi p.Qubits) K1 (hS4.c 0) rfl (gv_of (v:=pt (aD b) 0) hg4))) ?_
 refine sgq 21 (B:=(!((!r_2)||(!r_3)))) (v:=pt (aD b1) 0) rfl rfl (uF_ 18) (fun hg5=>(yd (aD b1) 0 0 K44 K0)) ?_
 refine sgq 22 (B:=(!((!r_2)||(!r_3)))) rfl rfl (uF_ 18) (fun hg6=>(yl (aD b1) 0 V0 (vi q.Qubits) K1 (hS4.c 1) rfl (gv_of (v:=pt (aD b1) 0) hg6))) ?_
 refine sgq 23 (B:=(!((!r_2)||(!r_3)))) rfl rfl (uF_ 18) (fun hg7=>(Y_ne (k:=.i64) (a:=p.Qubits) (b:=q.Qubits) rfl (gv_of (v:=vi p.Qubits) hg7) (gv_of (v:=vi q.Qubits) hg7))) ?_
 refine sQ 24 (Y_or (b:=((!r_2)||(!r_3))) (z:=(p.Qubits != q.Qubits)) rfl rfl rfl rfl) (rn ?_)
 refine cw_cond (b:=(((!r_2)||(!r_3))||(p.Qubits != q.Qubits))) rfl (fun hb=>?_) (fun hb=>?_)
 ·skip
  have hF1:=ct hF hb
  refine cq (cr ?_)
  refine sQ 4 (yg (.bool false))<|sQ 5 (yg (.bool false)) (rn (ct_ ?_))
  obtain ⟨rfl,rfl⟩:=pr2 (sI hF1)
  exact ret2 Tryz.results13 (v1:=.bool false) (resAt_tmp rfl) (v2:=.bool false) (resAt_tmp rfl) ⟨rfl,(hS4.sN [])⟩
 ·skip
  have hF2:=cf' hF hb
  refine cw_skip (cq (cr ?_))
  refine sQ 26 (yb (aD b) 0 V1 K39 K25 (hS4.c 0)) ?_
  obtain ⟨⟨r_4,r_5⟩,hc2,hF2⟩:=bI hF2
  refine sc 27 rfl rfl (yC [.agg V1.toArray] Kl (JR p B c p.Terms.length B1 c1 p.Out.Rows.length _ rfl rfl (hS4.inn0 [(true,0),(true,1)] rfl) hc2)) ?_
  rintro _ w_4 ⟨B4,c4,rfl,hd1⟩
  have hS5:=hS4.out0 hd1
  refine sQ 25 (ym (.tuple #[.slice B4 r_4.length c4,.bool r_5]))<|sQ 28 (ye (.slice B4 r_4.length c4))<|sQ 29 (ye (.bool r_5))<|sQ 6 (yg (.slice B4 r_4.length c4))<|sQ 7 (yg (.bool r_5)) (rn (cq (cr ?_)))
  refine sQ 31 (yb (aD b1) 0 V0 K39 K25 (hS5.c 1)) ?_
  obtain ⟨⟨r_6,r_7⟩,hc3,hF2⟩:=bI hF2
  refine sc 32 rfl rfl (yC [.agg V0.toArray] Kl (JR q B2 c2 q.Terms.length B3 c3 q.Out.Rows.length _ rfl rfl (hS5.inn0 [(true,2),(true,3)] rfl) hc3)) ?_
  rintro _ w_5 ⟨B5,c5,rfl,hd2⟩
  have hS6:=hS5.out0 hd2
  refine sQ 30 (ym (.tuple #[.slice B5 r_6.length c5,.bool r_7]))<|sQ 33 (ye (.slice B5 r_6.length c5))<|sQ 34 (ye (.bool r_7))<|sQ 8 (yg (.slice B5 r_6.length c5))<|sQ 9 (yg (.bool r_7)) (rn (cq (cr ?_)))
  refine sQ 35 (yd (aD b) 0 0 K63 K0)<|sQ 36 (yl (aD b) 1 V1 (vi p.Phase) K1 (hS6.c 0))<|sQ 37 (yd (aD b1) 0 0 K63 K0)<|sQ 38 (yl (aD b1) 1 V0 (vi q.Phase) K1 (hS6.c 1))<|sQ 39 (yE p.Phase q.Phase)<|sQ 40 (ym (.bool (p.Phase==q.Phase))) ?_
  refine sgq 41 (B:=(p.Phase==q.Phase)) (v:=pt (aD b) 3) rfl rfl (uT_ 40) (fun hg8=>(yd (aD b) 0 0 K59 K6)) ?_
  refine sgq 42 (B:=(p.Phase==q.Phase)) (v:=pt (aD b) 3) rfl rfl (uT_ 40) (fun hg9=>(yd (aD b) 3 0 K13 K8 rfl (gv_of (v:=pt (aD b) 3) hg9))) ?_
  refine sgq 43 (B:=(p.Phase==q.Phase)) rfl rfl (uT_ 40) (fun hg10=>(yl (aD b) 3 V1 (.slice B1 p.Out.Rows.length c1) K9 (hS6.c 0) rfl (gv_of (v:=pt (aD b) 3) hg10))) ?_
  refine sgq 44 (B:=(p.Phase==q.Phase)) (v:=pt (aD b1) 3) rfl rfl (uT_ 40) (fun hg11=>(yd (aD b1) 0 0 K59 K6)) ?_
  refine sgq 45 (B:=(p.Phase==q.Phase)) (v:=pt (aD b1) 3) rfl rfl (uT_ 40) (fun hg12=>(yd (aD b1) 3 0 K13 K8 rfl (gv_of (v:=pt (aD b1) 3) hg12))) ?_
  refine sgq 46 (B:=(p.Phase==q.Phase)) rfl rfl (uT_ 40) (fun hg13=>(yl (aD b1) 3 V0 (.slice B3 q.Out.Rows.length c3) K9 (hS6.c 1) rfl (gv_of (v:=pt (aD b1) 3) hg13))) ?_
  obtain ⟨r_8,hc4,hF2⟩:=bI hF2
  refine sgc 47 (B:=(p.Phase==q.Phase)) (v:=.bool r_8) (F:=hS6.fn) rfl rfl (uT_ 40) hS6 (fun hg14=>(yC [.slice B1 p.Out.Rows.length c1,.slice B3 q.Out.Rows.length c3] MS (CV.mono (KS p.Out.Rows q.Out.Rows B1 c1 p.Out.Rows.length B3 c3 q.Out.Rows.length _ rfl rfl (hS6.inn0 [(true,1),(true,3)] rfl) (gb_inv hc4 hg14)) (by rintro _ _ ⟨rfl,h⟩; exact ⟨rfl,hS6.out00 h⟩)) rfl (mc (gv_of (v:=.slice B1 p.Out.Rows.length c1) hg14) (mc (gv_of (v:=.slice B3 q.Out.Rows.length c3) hg14) mn)))) ?_
  rintro w_6 hS7
  refine sQ 48 (Y_and (b:=(p.Phase==q.Phase)) (z:=r_8) rfl rfl rfl rfl)<|sQ 49 (ym (.bool ((p.Phase==q.Phase)&&r_8))) ?_
  refine sgq 50 (B:=((p.Phase==q.Phase)&&r_8)) rfl rfl (uT_ 49) (fun hg15=>(ym (.slice B4 r_4.length c4))) ?_
  refine sgq 51 (B:=((p.Phase==q.Phase)&&r_8)) rfl rfl (uT_ 49) (fun hg16=>(ym (.slice B5 r_6.length c5))) ?_
  obtain ⟨r_9,hc5,hF2⟩:=bI hF2
  refine sgc 52 (B:=((p.Phase==q.Phase)&&r_8)) (v:=.bool r_9) (F:=hS7.fn) rfl rfl (uT_ 49) hS7 (fun hg17=>(yC [.slice B4 r_4.length c4,.slice B5 r_6.length c5] Mw (CV.mono (PO r_4 r_6 B4 c4 r_4.length B5 c5 r_6.length _ rfl rfl (hS7.inn0 [(false,2),(false,3)] rfl) (gb_inv hc5 hg17)) (by rintro _ _ ⟨rfl,h⟩; exact ⟨rfl,hS7.out00 h⟩)) rfl (mc (gv_of (v:=.slice B4 r_4.length c4) hg17) (mc (gv_of (v:=.slice B5 r_6.length c5) hg17) mn)))) ?_
  rintro w_7 hS8
  refine sQ 53 (Y_and (b:=((p.Phase==q.Phase)&&r_8)) (z:=r_9) rfl rfl rfl rfl)<|sQ 4 (yg (.bool (((p.Phase==q.Phase)&&r_8)&&r_9)))<|sQ 5 (yg (.bool true)) (rn (ct_ ?_))
  obtain ⟨rfl,rfl⟩:=pr2 (sI hF2)
  exact ret2 Tryz.results13 (v1:=.bool (((p.Phase==q.Phase)&&r_8)&&r_9)) (resAt_tmp rfl) (v2:=.bool true) (resAt_tmp rfl) ⟨rfl,(hS8.sN [])⟩

theorem PB (terms:List Ab) (B:Option Addr) (c n:Nat) (w0:World) (hn:terms.length=n) (hS:ST w0 [] w0 [] [⟨B,(terms.flatMap eN1)⟩]) {r_:Int} (hF:Ep terms=some r_) :
  CV Tryz.prog 53 #[.slice B n c] w0 (fun v w'=>v=vi r_∧ST w0 [] w' [] []):=by
 subst hn
 unfold Ep at hF
 refine cv_of_cw 19 Tryz.func53 rfl Tryz.ntmps53 rfl ?_
 refine cq (cr ?_)
 refine sQ 2 (yg (vi 0)) (rn (cq (cr ?_)))
 refine sQ 3 (yg (vi 0)) (rn (cq (cq (cr ?_))))
 refine sQ 6 (ym (.slice B terms.length c))<|sQ 7 (Y_len (B:=B) (m:=terms.length) (c:=c) K14 rfl rfl)<|sQ 8 (ym (vi 0)) (rn ?_)
 obtain ⟨hN,hF⟩:=chk_inv hF
 obtain ⟨z,hz,hF1⟩:=bI hF
 refine cw_block ?_
 refine cw_loop (fun k f w=>∃ (i:Nat) (count:Int),FF f [(3,vi count),(6,.slice B terms.length c),(7,vi (terms.length:Int)),(8,vi (i:Int))]∧ST w0 [] w [] [⟨B,(terms.flatMap eN1)⟩]∧i+k=terms.length∧forN (EJ terms) k i count=some z) terms.length ⟨0,0,(fc rfl (fc rfl (fc rfl (fc rfl fn_)))),(hS.sel [] rfl rfl),Nat.zero_add _,hz⟩ ?_
 rintro k_ f w ⟨i,count,hf,hS1,hik,hL⟩
 refine cq (cr ?_)
 refine sQ 9 (yL (i:Int) (terms.length:Int) rfl (hf.g 8 3) (hf.g 7 2)) (rn (cq ?_))
 refine cw_cond (b:=(decide ((i:Int)<(terms.length:Int)))) rfl (fun hlt=>?_) (fun hlt=>?_)
 ·skip
  have hlt1:i<terms.length:=by have h:=of_decide_eq_true hlt; omega
  obtain ⟨K5,rfl⟩:∃ k2,k_=k2+1:=⟨k_-1,by omega⟩
  obtain ⟨y,hb,hL1⟩:=forN_go hL
  unfold EJ at hb
  refine cw_skip (cq (cw_block (cq (cr ?_))))
  obtain ⟨x,hx,hb⟩:=bI hb
  refine sQ 10 (yI B (i:Int) K14 K15 (gi_isSome eN3 rfl (hS1.rf (i:=0) rfl) hx) (getI_nn hx) (getI_ltI hx rfl) rfl (hf.g 6 1) (hf.g 8 3))<|sQ 11 (ya B ((i:Int).toNat*2) (terms.flatMap eN1) [vi x.Mask,vi x.Coef] K51 K15 (hS1.rf (i:=0) rfl) rfl rfl (eN3 x) (gi_seg eN3 hx)) ?_
  refine sS 5 (yN [vi 0,vi 0] 2 hS1 K37) ?_
  rintro _ w_ ⟨b,rfl,hS2⟩
  refine s0 (yT 0 2 (aD b) 64 (.agg #[vi x.Mask,vi x.Coef]) [vi x.Mask,vi x.Coef] 0 hS2 K15) ?_
  rintro _ w_1 ⟨rfl,hS3⟩
  refine rn (cr ?_)
  refine sQ 12 (ym (vi count) rfl (hf.g 3 0))<|sQ 13 (yd (aD b) 0 0 K77 K0)<|sQ 14 (yl (aD b) 1 [vi x.Mask,vi x.Coef] (vi x.Coef) K1 (hS3.c 0))<|sQ 15 (Y_rem (k:=.i64) (a:=x.Coef) (b:=2) rfl rfl rfl (by decide))<|sQ 16 (yP count (Int.tmod x.Coef 2))<|sQ 3 (yg (vi (i64.wrap (count+(Int.tmod x.Coef 2))))) (rn (cr ?_))
  refine sQ 17 (yP (i:Int) 1 rfl (hf.g 8 3))<|sQ 8 (ym (vi (i64.wrap ((i:Int)+1)))) (rn ?_)
  obtain rfl:=sI hb
  exact ⟨K5,Nat.lt_succ_self _,i+1,(i64.wrap (count+(Int.tmod x.Coef 2))),(fc rfl (hf.a 6 1 (hf.a 7 2 (fc (congrArg (Value.int .i64) (wr_succ hlt1 hN)) fn_)))),(hS3.sel [] rfl rfl),(by omega),hL1⟩
 ·skip
  obtain rfl:k_=0:=by have h:=of_decide_eq_false hlt; omega
  refine cw_exit rfl ?_
  obtain rfl:=sI hL
  refine cq (cr ?_)
  refine sQ 18 (ym (vi count) rfl (hf.g 3 0))<|sQ 2 (yg (vi count)) (rn (ct_ ?_))
  obtain rfl:=sI hF1
  exact ret1 Tryz.results53 (v1:=vi count) (resAt_tmp rfl) ⟨rfl,(hS1.sN [])⟩

theorem L7 (p:Ah) (B:Option Addr) (c n:Nat) (B1:Option Addr) (c1 n1:Nat) (w0:World) (hn:p.Terms.length=n) (hn1:p.Out.Rows.length=n1) (hS:ST w0 [] w0 [] [⟨B,(p.Terms.flatMap eN1)⟩,⟨B1,(p.Out.Rows.flatMap encI)⟩]) {r_:Int} {r_1:Bool} (hF:DI p=some (r_,r_1)) :
  CV Tryz.prog 14 #[.agg #[vi p.Qubits,vi p.Phase,.slice B n c,.slice B1 n1 c1]] w0 (fun v w'=>v=.tuple #[vi r_,.bool r_1]∧ST w0 [] w' [] []):=by
 subst hn
 subst hn1
 unfold DI at hF
 refine cv_of_cw 10 Tryz.func14 rfl Tryz.ntmps14 rfl ?_
 refine cq (cr ?_)
 let V0:List Value:=[vi p.Qubits,vi p.Phase,.slice B p.Terms.length c,.slice B1 p.Out.Rows.length c1]
 refine sS 1 (yB 28 (.agg V0.toArray) V0 4 hS) ?_
 rintro _ w_ ⟨b,rfl,hS1⟩
 refine sQ 2 (yg (vi 0))<|sQ 3 (yg (.bool false)) (rn (cq (cq (cr ?_))))
 refine sQ 4 (yb (aD b) 0 V0 K39 K25 (hS1.c 0)) ?_
 obtain ⟨r_2,hc,hF⟩:=bI hF
 refine sc 5 rfl rfl (yC [.agg V0.toArray] K87 (EF p B c p.Terms.length B1 c1 p.Out.Rows.length _ rfl rfl (hS1.inn0 [(true,0),(true,1)] rfl) hc)) ?_
 rintro _ w_1 ⟨rfl,hd⟩
 have hS2:=hS1.out00 hd
 refine sQ 6 (Y_not (p:=r_2) rfl rfl) (rn ?_)
 refine cw_cond (b:=(!r_2)) rfl (fun hb=>?_) (fun hb=>?_)
 ·skip
  have hF1:=ct hF hb
  refine cq (cr ?_)
  refine sQ 2 (yg (vi 0))<|sQ 3 (yg (.bool false)) (rn (ct_ ?_))
  obtain ⟨rfl,rfl⟩:=pr2 (sI hF1)
  exact ret2 Tryz.results14 (v1:=vi 0) (resAt_tmp rfl) (v2:=.bool false) (resAt_tmp rfl) ⟨rfl,(hS2.sN [])⟩
 ·skip
  have hF2:=cf' hF hb
  refine cw_skip (cq (cr ?_))
  refine sQ 7 (yd (aD b) 0 0 K43 K35)<|sQ 8 (yl (aD b) 2 V0 (.slice B p.Terms.length c) K42 (hS2.c 0)) ?_
  obtain ⟨r_3,hc1,hF2⟩:=bI hF2
  refine sc 9 rfl rfl (yC [.slice B p.Terms.length c] Nu (PB p.Terms B c p.Terms.length _ rfl (hS2.inn0 [(true,0)] rfl) hc1)) ?_
  rintro _ w_2 ⟨rfl,hd1⟩
  have hS3:=hS2.out00 hd1
  refine sQ 2 (yg (vi r_3))<|sQ 3 (yg (.bool true)) (rn (ct_ ?_))
  obtain ⟨rfl,rfl⟩:=pr2 (sI hF2)
  exact ret2 Tryz.results14 (v1:=vi r_3) (resAt_tmp rfl) (v2:=.bool true) (resAt_tmp rfl) ⟨rfl,(hS3.sN [])⟩

theorem Nl (c:Ae) (is_:Int→Option (Bool)) (B:Option Addr) (c1 n:Nat) (kf:Nat) (caps:Array Value) (Rf:List Ro) (w0:World) (hn:c.Gates.length=n) (hk:callB Tryz.prog kf=true) (hp:∀ (w:World),ST w [] w [] Rf→∀ (x:Int) (y:Bool),is_ x=some y→CV Tryz.prog kf ((vi x)::caps.toList).toArray w (fun v w'=>v=.bool y∧ST w [] w' [] [])) (hS:ST w0 [] w0 [] (⟨B,(c.Gates.flatMap eN0)⟩::Rf)) {r_:Int} {r_1:Bool} (hF:EG c is_=some (r_,r_1)) :
  CV Tryz.prog 97 #[.agg #[vi c.Qubits,.slice B n c1],.func (.func kf) #[] caps] w0 (fun v w'=>v=.tuple #[vi r_,.bool r_1]∧ST w0 [] w' [] []):=by
 subst hn
 unfold EG at hF
 refine cv_of_cw 27 Tryz.func97 rfl Tryz.ntmps97 rfl ?_
 refine cq (cr ?_)
 let V0:List Value:=[vi c.Qubits,.slice B c.Gates.length c1]
 refine sS 2 (yB 32 (.agg V0.toArray) V0 2 hS) ?_
 rintro _ w_ ⟨b,rfl,hS1⟩
 refine sQ 4 (yg (vi 0))<|sQ 5 (yg (.bool false)) (rn (cq (cq (cr ?_))))
 refine sQ 9 (yb (aD b) 0 V0 K12 K7 (hS1.c 0)) ?_
 obtain ⟨r_2,hc,hF⟩:=bI hF
 refine sc 10 rfl rfl (yC [.agg V0.toArray] K85 (EX c B c1 c.Gates.length _ rfl (hS1.inn0 [(true,0)] rfl) hc)) ?_
 rintro _ w_1 ⟨rfl,hd⟩
 have hS2:=hS1.out00 hd
 refine sQ 11 (Y_not (p:=r_2) rfl rfl) (rn ?_)
 refine cw_cond (b:=(!r_2)) rfl (fun hb=>?_) (fun hb=>?_)
 ·skip
  have hF1:=ct hF hb
  refine cq (cr ?_)
  refine sQ 4 (yg (vi 0))<|sQ 5 (yg (.bool false)) (rn (ct_ ?_))
  obtain ⟨rfl,rfl⟩:=pr2 (sI hF1)
  exact ret2 Tryz.results97 (v1:=vi 0) (resAt_tmp rfl) (v2:=.bool false) (resAt_tmp rfl) ⟨rfl,(hS2.sN [])⟩
 ·skip
  have hF2:=cf' hF hb
  refine cw_skip (cq (cr ?_))
  refine sQ 6 (yg (vi 0)) (rn (cq (cq (cr ?_))))
  refine sQ 12 (yd (aD b) 0 0 K17 K11)<|sQ 13 (yl (aD b) 1 V0 (.slice B c.Gates.length c1) K18 (hS2.c 0))<|sQ 14 (Y_len (B:=B) (m:=c.Gates.length) (c:=c1) K4 rfl rfl)<|sQ 15 (ym (vi 0)) (rn ?_)
  obtain ⟨hN,hF2⟩:=chk_inv hF2
  obtain ⟨z,hz,hF3⟩:=bI hF2
  refine cw_block ?_
  refine cw_loop (fun k f w=>∃ (i:Nat) (count:Int),FF f [(1,.func (.func kf) #[] caps),(6,vi count),(13,.slice B c.Gates.length c1),(14,vi (c.Gates.length:Int)),(15,vi (i:Int))]∧ST w0 [] w [] (⟨B,(c.Gates.flatMap eN0)⟩::Rf)∧i+k=c.Gates.length∧forN (ET c is_) k i count=some z) c.Gates.length ⟨0,0,(fc rfl (fc rfl (fc rfl (fc rfl (fc rfl fn_))))),(hS2.sel [] rfl rfl),Nat.zero_add _,hz⟩ ?_
  rintro k_ f w ⟨i,count,hf,hS3,hik,hL⟩
  refine cq (cr ?_)
  refine sQ 16 (yL (i:Int) (c.Gates.length:Int) rfl (hf.g 15 4) (hf.g 14 3)) (rn (cq ?_))
  refine cw_cond (b:=(decide ((i:Int)<(c.Gates.length:Int)))) rfl (fun hlt=>?_) (fun hlt=>?_)
  ·skip
   have hlt1:i<c.Gates.length:=by have h:=of_decide_eq_true hlt; omega
   obtain ⟨K5,rfl⟩:∃ k2,k_=k2+1:=⟨k_-1,by omega⟩
   obtain ⟨y1,hb1,hL1⟩:=forN_go hL
   unfold ET at hb1
   refine cw_skip (cq ?_)
   obtain ⟨z1,hz1,hF4⟩:=bI hb1
   refine cw_mid (fun f w=>∃ (count1:Int),count1=z1∧FF f [(1,.func (.func kf) #[] caps),(6,vi count1),(13,.slice B c.Gates.length c1),(14,vi (c.Gates.length:Int)),(15,vi (i:Int))]∧ST w0 [] w [] (⟨B,(c.Gates.flatMap eN0)⟩::Rf)) ?_ ?_
   ·skip
    refine cw_block (cq (cr ?_))
    obtain ⟨x1,hx,hz1⟩:=bI hz1
    let V1:List Value:=[vi x1.Kind,vi x1.A,vi x1.B]
    refine sQ 17 (yI B (i:Int) K4 K3 (gi_isSome eN2 rfl (hS3.rf (i:=0) rfl) hx) (getI_nn hx) (getI_ltI hx rfl) rfl (hf.g 13 2) (hf.g 15 4))<|sQ 18 (ya B ((i:Int).toNat*3) (c.Gates.flatMap eN0) V1 K30 K3 (hS3.rf (i:=0) rfl) rfl rfl (eN2 x1) (gi_seg eN2 hx)) ?_
    refine sS 8 (yN [vi 0,vi 0,vi 0] 3 hS3 K10) ?_
    rintro _ w_2 ⟨b1,rfl,hS5⟩
    refine s0 (yT 0 3 (aD b1) 59 (.agg V1.toArray) V1 0 hS5 K3) ?_
    rintro _ w_3 ⟨rfl,hS6⟩
    refine rn (cq (cr ?_))
    refine sQ 19 (ym (.func (.func kf) #[] caps) rfl (hf.g 1 0))<|sQ 20 (yd (aD b1) 0 0 K45 K0)<|sQ 21 (yl (aD b1) 0 V1 (vi x1.Kind) K1 (hS6.c 0)) ?_
    obtain ⟨r_3,hc1,hz1⟩:=bI hz1
    refine sc 22 rfl rfl (Yc_clos (g:=kf) (vs:=(vi x1.Kind)::caps.toList) hk rfl rfl (clo_args (mc rfl mn)) (hp _ (hS6.innS (fun _ h=>mOd (i:=1) h)) x1.Kind r_3 hc1)) ?_
    rintro _ w_4 ⟨rfl,hd1⟩
    have hS7:=hS6.out00 hd1
    refine rn ?_
    refine cw_cond (b:=r_3) rfl (fun hb2=>?_) (fun hb2=>?_)
    ·skip
     have hF5:=ct hz1 hb2
     refine cr ?_
     refine sQ 23 (ym (vi count) rfl (hf.g 6 1))<|sQ 24 (yP count 1)<|sQ 6 (yg (vi (i64.wrap (count+1)))) (rn ?_)
     exact ⟨(i64.wrap (count+1)),(sI hF5),(hf.a 1 0 (fc rfl (hf.a 13 2 (hf.a 14 3 (hf.a 15 4 fn_))))),(hS7.sel [] rfl rfl)⟩
    ·skip
     have hF6:=cf' hz1 hb2
     refine cw_skip ?_
     exact ⟨count,(sI hF6),(hf.a 1 0 (hf.a 6 1 (hf.a 13 2 (hf.a 14 3 (hf.a 15 4 fn_))))),(hS7.sel [] rfl rfl)⟩
   rintro f w ⟨count1,rfl,hf1,hS4⟩
   refine cr ?_
   refine sQ 25 (yP (i:Int) 1 rfl (hf1.g 15 4))<|sQ 15 (ym (vi (i64.wrap ((i:Int)+1)))) (rn ?_)
   obtain rfl:=sI hF4
   exact ⟨K5,Nat.lt_succ_self _,i+1,count1,(hf1.a 1 0 (hf1.a 6 1 (hf1.a 13 2 (hf1.a 14 3 (fc (congrArg (Value.int .i64) (wr_succ hlt1 hN)) fn_))))),(hS4.sel [] rfl rfl),(by omega),hL1⟩
  ·skip
   obtain rfl:k_=0:=by have h:=of_decide_eq_false hlt; omega
   refine cw_exit rfl ?_
   obtain rfl:=sI hL
   refine cq (cr ?_)
   refine sQ 26 (ym (vi count) rfl (hf.g 6 1))<|sQ 4 (yg (vi count))<|sQ 5 (yg (.bool true)) (rn (ct_ ?_))
   obtain ⟨rfl,rfl⟩:=pr2 (sI hF3)
   exact ret2 Tryz.results97 (v1:=vi count) (resAt_tmp rfl) (v2:=.bool true) (resAt_tmp rfl) ⟨rfl,(hS3.sN [])⟩

theorem KV (kind:Int)  (w0:World)  (hS:ST w0 [] w0 [] []) {r_:Bool} (hF:CO kind=some r_) :
  CV Tryz.prog 98 #[vi kind] w0 (fun v w'=>v=.bool r_∧ST w0 [] w' [] []):=by
 unfold CO at hF
 refine cv_of_cw 9 Tryz.func98 rfl Tryz.ntmps98 rfl ?_
 refine cq (cr ?_)
 refine sQ 2 (yg (.bool false)) (rn (cq (cr ?_)))
 refine sQ 3 (ym (vi kind))<|sQ 4 (yE kind 7)<|sQ 5 (ym (.bool (kind==7))) ?_
 refine sgq 6 (B:=(!(kind==7))) rfl rfl (uF_ 5) (fun hg=>(ym (vi kind))) ?_
 refine sgq 7 (B:=(!(kind==7))) rfl rfl (uF_ 5) (fun hg1=>(yE kind 8 rfl (gv_of (v:=vi kind) hg1))) ?_
 refine sQ 8 (Y_or (b:=(kind==7)) (z:=(kind==8)) rfl rfl rfl rfl)<|sQ 2 (yg (.bool ((kind==7)||(kind==8)))) (rn (ct_ ?_))
 obtain rfl:=sI hF
 exact ret1 Tryz.results98 (v1:=.bool ((kind==7)||(kind==8))) (resAt_tmp rfl) ⟨rfl,(hS.sN [])⟩

theorem PA (c:Ae) (B:Option Addr) (c1 n:Nat) (w0:World) (hn:c.Gates.length=n) (hS:ST w0 [] w0 [] [⟨B,(c.Gates.flatMap eN0)⟩]) {r_:Int} {r_1:Bool} (hF:ER c=some (r_,r_1)) :
  CV Tryz.prog 54 #[.agg #[vi c.Qubits,.slice B n c1]] w0 (fun v w'=>v=.tuple #[vi r_,.bool r_1]∧ST w0 [] w' [] []):=by
 subst hn
 unfold ER at hF
 refine cv_of_cw 8 Tryz.func54 rfl Tryz.ntmps54 rfl ?_
 refine cq (cr ?_)
 let V0:List Value:=[vi c.Qubits,.slice B c.Gates.length c1]
 refine sS 1 (yB 32 (.agg V0.toArray) V0 2 hS) ?_
 rintro _ w_ ⟨b,rfl,hS1⟩
 refine sQ 2 (yg (vi 0))<|sQ 3 (yg (.bool false)) (rn (cq (cr ?_)))
 refine sQ 4 (yb (aD b) 0 V0 K12 K7 (hS1.c 0)) ?_
 obtain ⟨⟨r_2,r_3⟩,hc,hF⟩:=bI hF
 refine sc 5 rfl rfl (yC [.agg V0.toArray,.func (.func 98) #[] #[]] Lg (Nl c CO B c1 c.Gates.length 98 (#[]) [] _ rfl OB (fun w hw x_0 y_0 h_=>KV x_0  w  hw h_) (hS1.inn0 [(true,0)] rfl) hc)) ?_
 rintro _ w_1 ⟨rfl,hd⟩
 have hS2:=hS1.out00 hd
 refine sQ 6 (ye (vi r_2))<|sQ 7 (ye (.bool r_3))<|sQ 2 (yg (vi r_2))<|sQ 3 (yg (.bool r_3)) (rn (ct_ ?_))
 obtain ⟨rfl,rfl⟩:=pr2 (sI hF)
 exact ret2 Tryz.results54 (v1:=vi r_2) (resAt_tmp rfl) (v2:=.bool r_3) (resAt_tmp rfl) ⟨rfl,(hS2.sN [])⟩

theorem Me (c:Ae) (B:Option Addr) (c1 n:Nat) (w0:World) (hn:c.Gates.length=n) (hS:ST w0 [] w0 [] [⟨B,(c.Gates.flatMap eN0)⟩]) {r_:Int} (hF:CH c=some r_) :
  CV Tryz.prog 15 #[.agg #[vi c.Qubits,.slice B n c1]] w0 (fun v w'=>v=vi r_∧ST w0 [] w' [] []):=by
 subst hn
 unfold CH at hF
 refine cv_of_cw 11 Tryz.func15 rfl Tryz.ntmps15 rfl ?_
 refine cq (cr ?_)
 let V0:List Value:=[vi c.Qubits,.slice B c.Gates.length c1]
 refine sS 1 (yB 32 (.agg V0.toArray) V0 2 hS) ?_
 rintro _ w_ ⟨b,rfl,hS1⟩
 refine sQ 2 (yg (vi 0)) (rn (cq (cr ?_)))
 refine sQ 6 (yb (aD b) 0 V0 K12 K7 (hS1.c 0)) ?_
 obtain ⟨⟨r_1,r_2⟩,hc,hF⟩:=bI hF
 refine sc 7 rfl rfl (yC [.agg V0.toArray] PW (PA c B c1 c.Gates.length _ rfl (hS1.inn0 [(true,0)] rfl) hc)) ?_
 rintro _ w_1 ⟨rfl,hd⟩
 have hS2:=hS1.out00 hd
 refine sQ 5 (ym (.tuple #[vi r_1,.bool r_2]))<|sQ 8 (ye (vi r_1))<|sQ 9 (ye (.bool r_2))<|sQ 3 (yg (vi r_1))<|sQ 4 (yg (.bool r_2)) (rn (cq (cr ?_)))
 refine sQ 10 (ym (vi r_1))<|sQ 2 (yg (vi r_1)) (rn (ct_ ?_))
 obtain rfl:=sI hF
 exact ret1 Tryz.results15 (v1:=vi r_1) (resAt_tmp rfl) ⟨rfl,(hS2.sN [])⟩

theorem Lv (code:List Int) (more:List Int) (B:Option Addr) (c n:Nat) (B1:Option Addr) (c1 n1:Nat) (w0:World) (hn:code.length=n) (hn1:more.length=n1) (hS:ST w0 [] w0 [] [⟨B,(code.flatMap enc_u8)⟩,⟨B1,(more.flatMap enc_u8)⟩]) {r_:Bool} (hF:EO code more=some r_) :
  CV Tryz.prog 3 #[.slice B n c,.slice B1 n1 c1] w0 (fun v w'=>v=.bool r_∧ST w0 [] w' [] []):=by
 subst hn
 subst hn1
 unfold EO at hF
 refine cv_of_cw 128 Tryz.func3 rfl Tryz.ntmps3 rfl ?_
 refine cq (cr ?_)
 refine sQ 4 (yg (.bool false)) (rn (cq (cq (cr ?_))))
 refine sQ 24 (ym (.slice B code.length c))<|sQ 25 (Y_len (B:=B) (m:=code.length) (c:=c) K81 rfl rfl)<|sQ 26 (ym (.slice B1 more.length c1))<|sQ 27 (Y_len (B:=B1) (m:=more.length) (c:=c1) K81 rfl rfl)<|sQ 28 (yP (code.length:Int) (more.length:Int))<|sQ 29 (Y_gt (k:=.i64) (a:=(i64.wrap ((code.length:Int)+(more.length:Int)))) (b:=1048576) rfl rfl rfl) (rn ?_)
 refine cw_cond (b:=(decide (1048576<(i64.wrap ((code.length:Int)+(more.length:Int)))))) rfl (fun hb=>?_) (fun hb=>?_)
 ·skip
  have hF1:=ct hF hb
  refine cq (cr ?_)
  refine sQ 4 (yg (.bool true)) (rn (ct_ ?_))
  obtain rfl:=sI hF1
  exact ret1 Tryz.results3 (v1:=.bool true) (resAt_tmp rfl) ⟨rfl,(hS.sN [])⟩
 ·skip
  have hF2:=cf' hF hb
  refine cw_skip (cq (cr ?_))
  refine sQ 30 (ym (.slice B code.length c)) ?_
  obtain ⟨r_1,hc,hF2⟩:=bI hF2
  refine sc 31 rfl rfl (yC [.slice B code.length c] M0 (Mp code B c code.length _ rfl (hS.inn0 [(true,0)] rfl) hc)) ?_
  rintro _ w_ ⟨B2,c2,B3,c3,rfl,hq,ho,hd⟩
  have hS1:=ST.outR0 hS hd ho (sk 0 (fun _ h=>by cases h))
  let R11:Ro:=⟨B3,(r_1.Out.Rows.flatMap encI)⟩
  let R12:Ro:=⟨B1,(more.flatMap enc_u8)⟩
  let R13:Ro:=⟨B,(code.flatMap enc_u8)⟩
  have ho1:Org w0 [] [R13,R12] [R11]:=org_trans0 hS ho (org_cons (org_mem (i:=0) rfl) org_nil)
  let O2:Ob:=⟨B2,64,(r_1.Terms.flatMap eN1),c2*2⟩
  have hS2:ST w0 [] _ [O2] [R11,R13,R12]:=hS1
  let V23:List Value:=[vi 0,vi 0,.slice none 0 0,.slice none 0 0]
  refine sS 5 (yN V23 4 hS2 K34) ?_
  rintro _ w_1 ⟨b,rfl,hS3⟩
  let V14:List Value:=[vi r_1.Qubits,vi r_1.Phase,.slice B2 r_1.Terms.length c2,.slice B3 r_1.Out.Rows.length c3]
  refine s0 (yT 1 4 (aD b) 28 (.agg V14.toArray) V14 0 hS3 K25) ?_
  rintro _ w_2 ⟨rfl,hS4⟩
  refine rn (cq (cr ?_))
  refine sQ 33 (yb (aD b) 0 V14 K39 K25 (hS4.c 1)) ?_
  obtain ⟨⟨r_2,r_3⟩,hc1,hF2⟩:=bI hF2
  refine sc 34 rfl rfl (yC [.agg V14.toArray] MF (Nd r_1 B2 c2 r_1.Terms.length B3 c3 r_1.Out.Rows.length _ rfl rfl (hS4.inn0 [(false,0),(true,0)] rfl) hc1)) ?_
  rintro _ w_3 ⟨B4,c4,rfl,hd1⟩
  have hS5:=hS4.out0 hd1
  let V16:List Value:=[vi r_2.Qubits,.slice B4 r_2.Gates.length c4]
  refine sQ 32 (ym (.tuple #[.agg V16.toArray,.bool r_3]))<|sQ 35 (ye (.agg V16.toArray))<|sQ 36 (ye (.bool r_3)) ?_
  let V22:List Value:=[vi 0,.slice none 0 0]
  refine sS 6 (yN V22 2 hS5 K21) ?_
  rintro _ w_4 ⟨b1,rfl,hS6⟩
  let O0:Ob:=⟨aD b,28,V14,4⟩
  let O3:Ob:=⟨B4,59,(r_2.Gates.flatMap eN0),c4*3⟩
  have hS6:ST w0 [] _ [O2,O0,O3,⟨aD b1,32,V22,2⟩] [R11,R13,R12]:=hS6
  refine s0 (yT 3 2 (aD b1) 32 (.agg V16.toArray) V16 0 hS6 K7) ?_
  rintro _ w_5 ⟨rfl,hS7⟩
  refine sQ 7 (yg (.bool r_3)) (rn (cq (cr ?_)))
  refine sQ 38 (yb (aD b) 0 V14 K39 K25 (hS7.c 1)) ?_
  obtain ⟨⟨r_4,r_5⟩,hc2,hF2⟩:=bI hF2
  refine sc 39 rfl rfl (yC [.agg V14.toArray] PI (La r_1 B2 c2 r_1.Terms.length B3 c3 r_1.Out.Rows.length _ rfl rfl (hS7.inn0 [(false,0),(true,0)] rfl) hc2)) ?_
  rintro _ w_6 ⟨B5,c5,rfl,hd2⟩
  have hS8:=hS7.out0 hd2
  let V20:List Value:=[vi r_4.Qubits,.slice B5 r_4.Gates.length c5]
  refine sQ 37 (ym (.tuple #[.agg V20.toArray,.bool r_5]))<|sQ 40 (ye (.agg V20.toArray))<|sQ 41 (ye (.bool r_5)) ?_
  refine sS 8 (yN V22 2 hS8 K21) ?_
  rintro _ w_7 ⟨b2,rfl,hS9⟩
  refine s0 (yT 5 2 (aD b2) 32 (.agg V20.toArray) V20 0 hS9 K7) ?_
  rintro _ w_8 ⟨rfl,hS10⟩
  let O1:Ob:=⟨aD b1,32,V16,2⟩
  let O4:Ob:=⟨aD b2,32,V20,2⟩
  let O6:Ob:=⟨B5,59,(r_4.Gates.flatMap eN0),c5*3⟩
  have hS10:ST w0 [] _ [O2,O0,O3,O1,O6,O4] [R11,R13,R12]:=hS10
  refine sQ 9 (yg (.bool r_5)) (rn (cq (cr ?_)))
  refine sQ 43 (ym (.slice B1 more.length c1)) ?_
  obtain ⟨⟨r_6,r_7⟩,hc3,hF2⟩:=bI hF2
  refine sc 44 rfl rfl (yC [.slice B1 more.length c1] L9 (Lo more B1 c1 more.length _ rfl (hS10.inn0 [(true,2)] rfl) hc3)) ?_
  rintro _ w_9 ⟨B6,c6,B7,c7,rfl,hd3⟩
  have hS11:=hS10.out0 hd3
  let V21:List Value:=[vi r_6.Qubits,.slice B6 r_6.Gates.length c6]
  let V24:List Value:=[.agg V21.toArray,.slice B7 r_7.length c7]
  refine sQ 42 (ym (.tuple V24.toArray))<|sQ 45 (ye (.agg V21.toArray))<|sQ 46 (ye (.slice B7 r_7.length c7)) ?_
  refine sS 10 (yN V22 2 hS11 K21) ?_
  rintro _ w_10 ⟨b3,rfl,hS12⟩
  refine s0 (yT 8 2 (aD b3) 32 (.agg V21.toArray) V21 0 hS12 K7) ?_
  rintro _ w_11 ⟨rfl,hS13⟩
  refine sQ 11 (yg (.slice B7 r_7.length c7)) (rn (cq (cr ?_)))
  refine sQ 48 (yb (aD b3) 0 V21 K12 K7 (hS13.c 8))<|sQ 49 (ym (.slice B7 r_7.length c7)) ?_
  obtain ⟨⟨r_8,r_9⟩,hc4,hF2⟩:=bI hF2
  refine sc 50 rfl rfl (yC V24 Nb (Li r_6 r_7 B6 c6 r_6.Gates.length B7 c7 r_7.length _ rfl rfl (hS13.inn0 [(false,6),(false,7)] rfl) hc4)) ?_
  rintro _ w_12 ⟨B8,c8,rfl,hd4⟩
  have hS14:=hS13.out0 hd4
  let O5:Ob:=⟨aD b3,32,V21,2⟩
  let O7:Ob:=⟨B6,59,(r_6.Gates.flatMap eN0),c6*3⟩
  let O8:Ob:=⟨B8,59,(r_8.Gates.flatMap eN0),c8*3⟩
  let O10:Ob:=⟨B7,64,(r_7.flatMap eN1),c7*2⟩
  have hS14:ST w0 [] _ [O2,O0,O3,O1,O6,O4,O7,O10,O5,O8] [R11,R13,R12]:=hS14
  let V18:List Value:=[vi r_8.Qubits,.slice B8 r_8.Gates.length c8]
  refine sQ 47 (ym (.tuple #[.agg V18.toArray,.bool r_9]))<|sQ 51 (ye (.agg V18.toArray))<|sQ 52 (ye (.bool r_9)) ?_
  refine sS 12 (yN V22 2 hS14 K21) ?_
  rintro _ w_13 ⟨b4,rfl,hS15⟩
  refine s0 (yT 10 2 (aD b4) 32 (.agg V18.toArray) V18 0 hS15 K7) ?_
  rintro _ w_14 ⟨rfl,hS16⟩
  refine sQ 13 (yg (.bool r_9)) (rn (cq (cr ?_)))
  refine sQ 54 (yb (aD b3) 0 V21 K12 K7 (hS16.c 8))<|sQ 55 (ym (.slice B7 r_7.length c7)) ?_
  obtain ⟨⟨r_10,r_11⟩,hc5,hF2⟩:=bI hF2
  refine sc 56 rfl rfl (yC V24 KF (NU r_6 r_7 B6 c6 r_6.Gates.length B7 c7 r_7.length _ rfl rfl (hS16.inn0 [(false,6),(false,7)] rfl) hc5)) ?_
  rintro _ w_15 ⟨B9,c9,rfl,hd5⟩
  have hS17:=hS16.out0 hd5
  let V19:List Value:=[vi r_10.Qubits,.slice B9 r_10.Gates.length c9]
  refine sQ 53 (ym (.tuple #[.agg V19.toArray,.bool r_11]))<|sQ 57 (ye (.agg V19.toArray))<|sQ 58 (ye (.bool r_11)) ?_
  refine sS 14 (yN V22 2 hS17 K21) ?_
  rintro _ w_16 ⟨b5,rfl,hS18⟩
  let O9:Ob:=⟨aD b4,32,V18,2⟩
  have hS18:ST w0 [] _ [O2,O0,O3,O1,O6,O4,O7,O10,O5,O8,O9,⟨B9,59,(r_10.Gates.flatMap eN0),c9*3⟩,⟨aD b5,32,V22,2⟩] [R11,R13,R12]:=hS18
  refine s0 (yT 12 2 (aD b5) 32 (.agg V19.toArray) V19 0 hS18 K7) ?_
  rintro _ w_17 ⟨rfl,hS19⟩
  refine sQ 15 (yg (.bool r_11)) (rn (cq (cq (cr ?_))))
  refine sQ 59 (ym (.bool r_3))<|sQ 60 (ym (.bool r_5))<|sQ 61 (Y_bne (p:=r_3) (q:=r_5) Jr rfl rfl rfl)<|sQ 62 (ym (.bool (!(r_3==r_5)))) ?_
  refine sgq 63 (B:=(!(!(r_3==r_5)))) (v:=.agg V16.toArray) rfl rfl (uF_ 62) (fun hg=>(yb (aD b1) 0 V16 K12 K7 (hS19.c 3))) ?_
  refine sgq 64 (B:=(!(!(r_3==r_5)))) (v:=.agg V20.toArray) rfl rfl (uF_ 62) (fun hg1=>(yb (aD b2) 0 V20 K12 K7 (hS19.c 5))) ?_
  obtain ⟨r_12,hc6,hF2⟩:=bI hF2
  refine sgc 65 (B:=(!(!(r_3==r_5)))) (v:=.bool r_12) (F:=hS19.fn) rfl rfl (uF_ 62) hS19 (fun hg2=>(yC [.agg V16.toArray,.agg V20.toArray] JO (CV.mono (JB r_2 r_4 B4 c4 r_2.Gates.length B5 c5 r_4.Gates.length _ rfl rfl (hS19.inn0 [(false,2),(false,4)] rfl) (gb_inv hc6 hg2)) (by rintro _ _ ⟨rfl,h⟩; exact ⟨rfl,hS19.out00 h⟩)) rfl (mc (gv_of (v:=.agg V16.toArray) hg2) (mc (gv_of (v:=.agg V20.toArray) hg2) mn)))) ?_
  rintro w_18 hS20
  refine sgq 66 (B:=(!(!(r_3==r_5)))) (v:=.bool (!r_12)) rfl rfl (uF_ 62) (fun hg3=>(Y_not (p:=r_12) rfl (gv_of (v:=.bool r_12) hg3))) ?_
  refine sQ 67 (Y_or (b:=(!(r_3==r_5))) (z:=(!r_12)) rfl rfl rfl rfl)<|sQ 68 (ym (.bool ((!(r_3==r_5))||(!r_12)))) ?_
  refine sgq 69 (B:=(!((!(r_3==r_5))||(!r_12)))) rfl rfl (uF_ 68) (fun hg4=>(ym (.bool r_9))) ?_
  refine sgq 70 (B:=(!((!(r_3==r_5))||(!r_12)))) rfl rfl (uF_ 68) (fun hg5=>(ym (.bool r_11))) ?_
  refine sgq 71 (B:=(!((!(r_3==r_5))||(!r_12)))) (v:=.bool (!(r_9==r_11))) rfl rfl (uF_ 68) (fun hg6=>(Y_bne (p:=r_9) (q:=r_11) Jr rfl (gv_of (v:=.bool r_9) hg6) (gv_of (v:=.bool r_11) hg6))) ?_
  refine sQ 72 (Y_or (b:=((!(r_3==r_5))||(!r_12))) (z:=(!(r_9==r_11))) rfl rfl rfl rfl)<|sQ 73 (ym (.bool (((!(r_3==r_5))||(!r_12))||(!(r_9==r_11))))) ?_
  refine sgq 74 (B:=(!(((!(r_3==r_5))||(!r_12))||(!(r_9==r_11))))) (v:=.agg V18.toArray) rfl rfl (uF_ 73) (fun hg7=>(yb (aD b4) 0 V18 K12 K7 (hS20.c 10))) ?_
  refine sgq 75 (B:=(!(((!(r_3==r_5))||(!r_12))||(!(r_9==r_11))))) (v:=.agg V19.toArray) rfl rfl (uF_ 73) (fun hg8=>(yb (aD b5) 0 V19 K12 K7 (hS20.c 12))) ?_
  obtain ⟨r_13,hc7,hF2⟩:=bI hF2
  refine sgc 76 (B:=(!(((!(r_3==r_5))||(!r_12))||(!(r_9==r_11))))) (v:=.bool r_13) (F:=hS20.fn) rfl rfl (uF_ 73) hS20 (fun hg9=>(yC [.agg V18.toArray,.agg V19.toArray] JO (CV.mono (JB r_8 r_10 B8 c8 r_8.Gates.length B9 c9 r_10.Gates.length _ rfl rfl (hS20.inn0 [(false,9),(false,11)] rfl) (gb_inv hc7 hg9)) (by rintro _ _ ⟨rfl,h⟩; exact ⟨rfl,hS20.out00 h⟩)) rfl (mc (gv_of (v:=.agg V18.toArray) hg9) (mc (gv_of (v:=.agg V19.toArray) hg9) mn)))) ?_
  rintro w_19 hS21
  refine sgq 77 (B:=(!(((!(r_3==r_5))||(!r_12))||(!(r_9==r_11))))) (v:=.bool (!r_13)) rfl rfl (uF_ 73) (fun hg10=>(Y_not (p:=r_13) rfl (gv_of (v:=.bool r_13) hg10))) ?_
  refine sQ 78 (Y_or (b:=(((!(r_3==r_5))||(!r_12))||(!(r_9==r_11)))) (z:=(!r_13)) rfl rfl rfl rfl) (rn ?_)
  refine cw_cond (b:=((((!(r_3==r_5))||(!r_12))||(!(r_9==r_11)))||(!r_13))) rfl (fun hb1=>?_) (fun hb1=>?_)
  ·skip
   have hF3:=ct hF2 hb1
   refine cq (cr ?_)
   refine sQ 4 (yg (.bool false)) (rn (ct_ ?_))
   obtain rfl:=sI hF3
   exact ret1 Tryz.results3 (v1:=.bool false) (resAt_tmp rfl) ⟨rfl,(hS21.sN [])⟩
  ·skip
   have hF4:=cf' hF2 hb1
   refine cw_skip (cq ?_)
   obtain ⟨z,hz,hF5⟩:=bI hF4
   refine cw_mid (fun f w=>.inl ()=z∧FF f [(5,pt (aD b) 0),(6,pt (aD b1) 0),(7,.bool r_3)]∧ST w0 [] w [O0,O2,O1,O3] [R11,R13,R12]) ?_ ?_
   ·skip
    refine cq (cr ?_)
    refine sQ 79 (ym (.bool r_9)) (rn ?_)
    refine cw_cond (b:=r_9) rfl (fun hb2=>?_) (fun hb2=>?_)
    ·skip
     have hF6:=ct hz hb2
     refine cq (cr ?_)
     refine sQ 81 (yb (aD b4) 0 V18 K12 K7 (hS21.c 10)) ?_
     obtain ⟨⟨r_14,r_15⟩,hc8,hF6⟩:=bI hF6
     refine sc 82 rfl rfl (yC [.agg V18.toArray] I5 (HC r_8 B8 c8 r_8.Gates.length _ rfl (hS21.inn0 [(false,9)] rfl) hc8)) ?_
     rintro _ w_20 ⟨B10,c10,B11,c11,rfl,hd6⟩
     have hS23:=hS21.out0 hd6
     have hS23:ST w0 [] _ [O2,O0,O3,O1,O6,O4,O7,O10,O5,O8,O9,⟨B9,59,(r_10.Gates.flatMap eN0),c9*3⟩,⟨aD b5,32,V19,2⟩,⟨B10,64,(r_14.Terms.flatMap eN1),c10*2⟩,⟨B11,3,(r_14.Out.Rows.flatMap encI),c11*1⟩] [R11,R13,R12]:=hS23
     let V17:List Value:=[vi r_14.Qubits,vi r_14.Phase,.slice B10 r_14.Terms.length c10,.slice B11 r_14.Out.Rows.length c11]
     refine sQ 80 (ym (.tuple #[.agg V17.toArray,.bool r_15]))<|sQ 83 (ye (.agg V17.toArray))<|sQ 84 (ye (.bool r_15)) ?_
     refine sS 16 (yN V23 4 hS23 K34) ?_
     rintro _ w_21 ⟨b6,rfl,hS24⟩
     refine s0 (yT 15 4 (aD b6) 28 (.agg V17.toArray) V17 0 hS24 K25) ?_
     rintro _ w_22 ⟨rfl,hS25⟩
     refine sQ 17 (yg (.bool r_15)) (rn (cq (cr ?_)))
     refine sQ 85 (ym (.bool r_15))<|sQ 86 (Y_not (p:=r_15) rfl rfl)<|sQ 87 (ym (.bool (!r_15))) ?_
     refine sgq 88 (B:=(!(!r_15))) (v:=pt (aD b6) 2) rfl rfl (uF_ 87) (fun hg11=>(yd (aD b6) 0 0 K43 K35)) ?_
     refine sgq 89 (B:=(!(!r_15))) rfl rfl (uF_ 87) (fun hg12=>(yl (aD b6) 2 V17 (.slice B10 r_14.Terms.length c10) K42 (hS25.c 15) rfl (gv_of (v:=pt (aD b6) 2) hg12))) ?_
     refine sgq 90 (B:=(!(!r_15))) rfl rfl (uF_ 87) (fun hg13=>(ym (.slice B7 r_7.length c7))) ?_
     obtain ⟨r_16,hc9,hF6⟩:=bI hF6
     refine sgc 91 (B:=(!(!r_15))) (v:=.bool r_16) (F:=hS25.fn) rfl rfl (uF_ 87) hS25 (fun hg14=>(yC [.slice B10 r_14.Terms.length c10,.slice B7 r_7.length c7] LI (CV.mono (MH r_14.Terms r_7 B10 c10 r_14.Terms.length B7 c7 r_7.length _ rfl rfl (hS25.inn0 [(false,13),(false,7)] rfl) (gb_inv hc9 hg14)) (by rintro _ _ ⟨rfl,h⟩; exact ⟨rfl,hS25.out00 h⟩)) rfl (mc (gv_of (v:=.slice B10 r_14.Terms.length c10) hg14) (mc (gv_of (v:=.slice B7 r_7.length c7) hg14) mn)))) ?_
     rintro w_23 hS26
     refine sgq 92 (B:=(!(!r_15))) (v:=.bool (!r_16)) rfl rfl (uF_ 87) (fun hg15=>(Y_not (p:=r_16) rfl (gv_of (v:=.bool r_16) hg15))) ?_
     refine sQ 93 (Y_or (b:=(!r_15)) (z:=(!r_16)) rfl rfl rfl rfl) (rn ?_)
     refine cw_cond (b:=((!r_15)||(!r_16))) rfl (fun hb3=>?_) (fun hb3=>?_)
     ·skip
      have hF7:=ct hF6 hb3
      refine cq (cr ?_)
      refine sQ 4 (yg (.bool false)) (rn (ct_ ?_))
      obtain rfl:=sI hF7
      obtain rfl:=sI hF5
      exact ret1 Tryz.results3 (v1:=.bool false) (resAt_tmp rfl) ⟨rfl,(hS26.sN [])⟩
     ·skip
      have hF8:=cf' hF6 hb3
      refine cw_skip ?_
      exact ⟨(sI hF8),(fc rfl (fc rfl (fc rfl fn_))),(hS26.sel [1,0,3,2] rfl rfl)⟩
    ·skip
     have hF9:=cf' hz hb2
     refine cw_skip ?_
     exact ⟨(sI hF9),(fc rfl (fc rfl (fc rfl fn_))),(hS21.sel [1,0,3,2] rfl rfl)⟩
   rintro f w ⟨rfl,hf,hS22⟩
   refine cq (cq (cr ?_))
   refine sQ 94 (ym (.bool r_3) rfl (hf.g 7 2))<|sQ 95 (Y_not (p:=r_3) rfl rfl) (rn ?_)
   refine cw_cond (b:=(!r_3)) rfl (fun hb4=>?_) (fun hb4=>?_)
   ·skip
    have hF10:=ct hF5 hb4
    refine cq (cr ?_)
    refine sQ 4 (yg (.bool true)) (rn (ct_ ?_))
    obtain rfl:=sI hF10
    exact ret1 Tryz.results3 (v1:=.bool true) (resAt_tmp rfl) ⟨rfl,(hS22.sN [])⟩
   ·skip
    have hF11:=cf' hF5 hb4
    refine cw_skip (cq (cr ?_))
    refine sQ 97 (yb (aD b1) 0 V16 K12 K7 (hS22.c 2) rfl (hf.g 6 1)) ?_
    obtain ⟨⟨r_17,r_18⟩,hc10,hF11⟩:=bI hF11
    refine sc 98 rfl rfl (yC [.agg V16.toArray] I5 (HC r_2 B4 c4 r_2.Gates.length _ rfl (hS22.inn0 [(false,3)] rfl) hc10)) ?_
    rintro _ w_24 ⟨B12,c12,B13,c13,rfl,hd7⟩
    have hS27:=hS22.out0 hd7
    have hS27:ST w0 [] _ [O0,O2,O1,O3,⟨B12,64,(r_17.Terms.flatMap eN1),c12*2⟩,⟨B13,3,(r_17.Out.Rows.flatMap encI),c13*1⟩] [R11,R13,R12]:=hS27
    let V15:List Value:=[vi r_17.Qubits,vi r_17.Phase,.slice B12 r_17.Terms.length c12,.slice B13 r_17.Out.Rows.length c13]
    refine sQ 96 (ym (.tuple #[.agg V15.toArray,.bool r_18]))<|sQ 99 (ye (.agg V15.toArray))<|sQ 100 (ye (.bool r_18)) ?_
    refine sS 18 (yN V23 4 hS27 K34) ?_
    rintro _ w_25 ⟨b7,rfl,hS28⟩
    refine s0 (yT 6 4 (aD b7) 28 (.agg V15.toArray) V15 0 hS28 K25) ?_
    rintro _ w_26 ⟨rfl,hS29⟩
    refine sQ 19 (yg (.bool r_18)) (rn (cq (cr ?_)))
    refine sQ 102 (yb (aD b) 0 V14 K39 K25 (hS29.c 0) rfl (hf.g 5 0))<|sQ 103 (yb (aD b7) 0 V15 K39 K25 (hS29.c 6)) ?_
    obtain ⟨⟨r_19,r_20⟩,hc11,hF11⟩:=bI hF11
    refine sc 104 rfl rfl (yC [.agg V14.toArray,.agg V15.toArray] N1 (L6 r_1 r_17 B2 c2 r_1.Terms.length B3 c3 r_1.Out.Rows.length B12 c12 r_17.Terms.length B13 c13 r_17.Out.Rows.length _ rfl rfl rfl rfl (hS29.inn0 [(false,1),(true,0),(false,4),(false,5)] rfl) hc11)) ?_
    rintro _ w_27 ⟨rfl,hd8⟩
    have hS30:=hS29.out00 hd8
    refine sQ 101 (ym (.tuple #[.bool r_19,.bool r_20]))<|sQ 105 (ye (.bool r_19))<|sQ 106 (ye (.bool r_20))<|sQ 20 (yg (.bool r_19))<|sQ 21 (yg (.bool r_20)) (rn (cq (cr ?_)))
    refine sQ 108 (yb (aD b) 0 V14 K39 K25 (hS30.c 0) rfl (hf.g 5 0)) ?_
    obtain ⟨⟨r_21,r_22⟩,hc12,hF11⟩:=bI hF11
    refine sc 109 rfl rfl (yC [.agg V14.toArray] N2 (L7 r_1 B2 c2 r_1.Terms.length B3 c3 r_1.Out.Rows.length _ rfl rfl (hS30.inn0 [(false,1),(true,0)] rfl) hc12)) ?_
    rintro _ w_28 ⟨rfl,hd9⟩
    have hS31:=hS30.out00 hd9
    have hS31:ST w0 [] _ [O0,O2,O1,O3,⟨B12,64,(r_17.Terms.flatMap eN1),c12*2⟩,⟨B13,3,(r_17.Out.Rows.flatMap encI),c13*1⟩,⟨aD b7,28,V15,4⟩] [R11,R13,R12]:=hS31
    refine sQ 107 (ym (.tuple #[vi r_21,.bool r_22]))<|sQ 110 (ye (vi r_21))<|sQ 111 (ye (.bool r_22))<|sQ 22 (yg (vi r_21))<|sQ 23 (yg (.bool r_22)) (rn (cq (cr ?_)))
    refine sQ 112 (ym (.bool r_18))<|sQ 113 (ym (.bool r_18)) ?_
    refine sgq 114 (B:=r_18) rfl rfl (uT_ 113) (fun hg16=>(ym (.bool r_20))) ?_
    refine sQ 115 (Y_and (b:=r_18) (z:=r_20) rfl rfl rfl rfl)<|sQ 116 (ym (.bool (r_18&&r_20))) ?_
    refine sgq 117 (B:=(r_18&&r_20)) rfl rfl (uT_ 116) (fun hg17=>(ym (.bool r_22))) ?_
    refine sQ 118 (Y_and (b:=(r_18&&r_20)) (z:=r_22) rfl rfl rfl rfl)<|sQ 119 (ym (.bool ((r_18&&r_20)&&r_22))) ?_
    refine sgq 120 (B:=((r_18&&r_20)&&r_22)) rfl rfl (uT_ 119) (fun hg18=>(ym (.bool r_19))) ?_
    refine sQ 121 (Y_and (b:=((r_18&&r_20)&&r_22)) (z:=r_19) rfl rfl rfl rfl)<|sQ 122 (ym (.bool (((r_18&&r_20)&&r_22)&&r_19))) ?_
    refine sgq 123 (B:=(((r_18&&r_20)&&r_22)&&r_19)) (v:=.agg V16.toArray) rfl rfl (uT_ 122) (fun hg19=>(yb (aD b1) 0 V16 K12 K7 (hS31.c 2) rfl (hf.g 6 1))) ?_
    obtain ⟨r_23,hc13,hF11⟩:=bI hF11
    refine sgc 124 (B:=(((r_18&&r_20)&&r_22)&&r_19)) (v:=vi r_23) (F:=hS31.fn) rfl rfl (uT_ 122) hS31 (fun hg20=>(yC [.agg V16.toArray] Pd (CV.mono (Me r_2 B4 c4 r_2.Gates.length _ rfl (hS31.inn0 [(false,3)] rfl) (gb_inv hc13 hg20)) (by rintro _ _ ⟨rfl,h⟩; exact ⟨rfl,hS31.out00 h⟩)) rfl (mc (gv_of (v:=.agg V16.toArray) hg20) mn))) ?_
    rintro w_29 hS32
    refine sgq 125 (B:=(((r_18&&r_20)&&r_22)&&r_19)) rfl rfl (uT_ 122) (fun hg21=>(ym (vi r_21))) ?_
    refine sgq 126 (B:=(((r_18&&r_20)&&r_22)&&r_19)) rfl rfl (uT_ 122) (fun hg22=>(yE r_23 r_21 rfl (gv_of (v:=vi r_23) hg22) (gv_of (v:=vi r_21) hg22))) ?_
    refine sQ 127 (Y_and (b:=(((r_18&&r_20)&&r_22)&&r_19)) (z:=(r_23==r_21)) rfl rfl rfl rfl)<|sQ 4 (yg (.bool ((((r_18&&r_20)&&r_22)&&r_19)&&(r_23==r_21)))) (rn (ct_ ?_))
    obtain rfl:=sI hF11
    exact ret1 Tryz.results3 (v1:=.bool ((((r_18&&r_20)&&r_22)&&r_19)&&(r_23==r_21))) (resAt_tmp rfl) ⟨rfl,(hS32.sN [])⟩
end Go.VK
