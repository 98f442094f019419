/- Walks: each Go function returns what its Lean function says. By program. -/
import Derived.Test.YtjjhmbpannlkaaaGreatLCliffordsFa
import Derived.Test.YtjjhmbpannlkaaaGreatLCliffordsShelf
import Derived.Test.YtjjhmbpannlkaaaGreatLibQ
import Derived.Test.YtjjhmbpannlkaaaGreatLibU
import Derived.Test.YtjjhmbpannlkaaaGreatLibZ
import Derived.Test.YtjjhmbpannlkaaaGreatLibW
import Derived.Test.YtjjhmbpannlkaaaGreatLCliffordsW2
set_option linter.unusedVariables false
set_option maxRecDepth 100000
set_option maxHeartbeats 4000000
namespace Go.VK
open Go.RowKit
open Go.Proofs
open Go.IntKind
attribute [local irreducible] CW RW RA CV Y Yw Yc Ys RetOf
attribute [local irreducible] AI AG Cl CM AO Co BQ A0 Cd Cq C0 Bb Bh AX Es Ax Ez El EG E2 EA EP FB Ec FL CD Gj Bi Eo CN E3 Fc Ef FJ G2 Df Ff Ed C9 Ck FE Gq F6 Dm Cc H7 AR BX CP FU Cb EO C2 Ds FG F8 DI BU Fj BW BF
theorem L1 (t:Ae) (B:Option Addr) (c n:Nat) (B1:Option Addr) (c1 n1:Nat) (O:World) (hn:t.XImages.length=n) (hq:n≤c) (os:t.ZImages.length=n1) (ot:n1≤c1) (hS:ST O [] O [] [⟨B,(t.XImages.flatMap eN0)⟩,⟨B1,(t.ZImages.flatMap eN0)⟩]) {r_:Aj} (hF:Ez t=some r_) :
  CV Tryz.prog 25 #[.agg #[vi t.Qubits,.slice B n c,.slice B1 n1 c1]] O (fun v w'=>∃ (B2:Option Addr) (c2:Nat),v=.agg #[vi r_.Qubits,.slice B2 r_.Gates.length c2]∧ST O [] w' [⟨B2,57,(r_.Gates.flatMap eN1),c2*3⟩] []):=by
 subst hn
 subst os
 unfold Ez at hF
 refine cv_of_cw 73 Tryz.func25 rfl Tryz.ntmps25 rfl ?_
 refine cq (cr ?_)
 let jr:List Value:=[vi t.Qubits,.slice B t.XImages.length c,.slice B1 t.ZImages.length c1]
 refine sS 1 (yV jr 3 hS) ?_
 rintro _ w_ ⟨b,rfl,ou⟩
 refine sS 2 (yN [vi 0,.slice none 0 0] 2 ou K34) ?_
 rintro _ qt ⟨b1,rfl,kL⟩
 refine rn (cq (cr ?_))
 let js:List Value:=[vi t.Qubits,.slice B t.XImages.length c,.slice B1 t.ZImages.length c1,.slice none 0 0]
 refine sQ 7 (yw 0 K11 K3 (kL.c 0))<|sQ 8 (Y_buildS (zs:=[vi 0,.slice none 0 0,.slice none 0 0,.slice none 0 0]) (vs:=[(0,.agg jr.toArray)]) (cs:=js) OE Ow rfl (mpc rfl mpn) rfl) ?_
 refine sS 9 (yV js 4 kL) ?_
 rintro _ qu ⟨D,rfl,ov⟩
 refine sQ 3 yu (rn (cq (cq (cr ?_))))
 refine sQ 4 yu (rn ?_)
 obtain ⟨z,hz,ow⟩:=bI hF
 have ox:=ov.addNil 57
 let O0:Ob:=⟨aD b,25,jr,3⟩
 let O1:Ob:=⟨aD b1,29,[vi 0,.slice none 0 0],2⟩
 let o:Ro:=⟨B1,(t.ZImages.flatMap eN0)⟩
 let u:Ro:=⟨B,(t.XImages.flatMap eN0)⟩
 have oy:ST O [] _ [O0,O1,⟨aD D,98,js,4⟩,⟨none,57,([].flatMap eN1),0*3⟩] [o,u,u,o]:=ox.sT [1,0,0,1]
 refine cw_block ?_
 refine cw_loop (fun k f w=>∃ (Qubits:Int) (XImages:List Aa) (ZImages:List Aa) (out:List Ab) (q1:Int) (B3:Option Addr) (c3:Nat) (B4:Option Addr) (c4:Nat) (B5:Option Addr) (c5:Nat),FF f [(1,pt (aD b) 0),(2,pt (aD b1) 0),(3,pt (aD D) 0),(4,vi q1)]∧Org O [] [u,o] [⟨B3,(XImages.flatMap eN0)⟩]∧XImages.length≤c3∧Org O [] [u,o] [⟨B4,(ZImages.flatMap eN0)⟩]∧ZImages.length≤c4∧ST O [] w [O0,O1,⟨aD D,98,[vi Qubits,.slice B3 XImages.length c3,.slice B4 ZImages.length c4,.slice B5 out.length c5],4⟩,⟨B5,57,(out.flatMap eN1),c5*3⟩] [⟨B4,(ZImages.flatMap eN0)⟩,⟨B3,(XImages.flatMap eN0)⟩,u,o]∧whX (Do t) k (Qubits,XImages,ZImages,out,q1)=some z) fuel ⟨t.Qubits,t.XImages,t.ZImages,[],0,B,c,B1,c1,none,0,(fc rfl (fc rfl (fc rfl (fc rfl fn_)))),(org_mem (i:=0) rfl),(len_le rfl hq),(org_mem (i:=1) rfl),(len_le rfl ot),(oy.sel [0,1,2,3] rfl rfl),hz⟩ ?_
 rintro k_ f w ⟨Qubits,XImages,ZImages,out,q1,B3,c3,B4,c4,B5,c5,hf,ho,oz,oA,oB,iA,hL⟩
 obtain ⟨K13,y,rfl,hb,kM⟩:=whX_go hL
 unfold Do at hb
 refine cq (cq (cr ?_))
 refine sQ 10 (yv rfl (hf.g 4 3))<|sQ 11 (yd (aD b) 0 0 K22 K1 rfl (hf.g 1 0))<|sQ 12 (yz 0 K0 (iA.c 0))<|sQ 13 zL (rn ?_)
 refine cw_cond rfl (fun jt=>?_) (fun jt=>?_)
 ·skip
  have ju:=ct hb jt
  refine cw_skip (cq (cw_block (cr ?_)))
  refine sQ 16 (yv rfl (hf.g 3 2))<|sQ 17 (yv rfl (hf.g 4 3)) ?_
  obtain ⟨⟨c9,aR,aT,dP⟩,gU,ju⟩:=bI ju
  let H:Ro:=⟨B3,(XImages.flatMap eN0)⟩
  let J:Ro:=⟨B4,(ZImages.flatMap eN0)⟩
  refine sc 18 rfl rfl (Yc_func (g:=61) (vs:=[pt (aD D) 0,vi q1]) (R:=fun v w'=>∃ (B6:Option Addr) (c6:Nat) (B7:Option Addr) (c7:Nat) (B8:Option Addr) (c8:Nat),v=.tuple #[]∧Org O [] [u,o] [⟨B6,(aR.flatMap eN0)⟩]∧aR.length≤c6∧Org O [] [u,o] [⟨B7,(aT.flatMap eN0)⟩]∧aT.length≤c7∧ST O [] w' [O0,O1,⟨aD D,98,[vi c9,.slice B6 aR.length c6,.slice B7 aT.length c7,.slice B8 dP.length c8],4⟩,⟨B8,57,(dP.flatMap eN1),c8*3⟩] [⟨B7,(aT.flatMap eN0)⟩,⟨B6,(aR.flatMap eN0)⟩,J,H,u,o]) Rm rfl (mc rfl (mc rfl mn)) ?cv) ?_
  case cv =>
   show CV Tryz.prog 61 #[pt (aD D) 0,vi q1] _ _
   refine cv_of_cw 115 Tryz.func61 rfl Tryz.ntmps61 rfl ?_
   refine cq (cr ?_)
   refine sQ 6 yv<|sQ 7 yv<|sQ 8 yv ?_
   obtain ⟨⟨bQ,W,an,b7⟩,kP,gU⟩:=bI gU
   refine sc 9 rfl rfl (Yc_func (g:=89) (vs:=[pt (aD D) 0,.bool true,vi q1,vi q1]) (R:=fun v w'=>∃ (bX:Option Addr) (dQ:Nat) (cx:Option Addr) (dS:Nat) (da:Option Addr) (db:Nat),v=.tuple #[]∧Org O [] [u,o] [⟨bX,(W.flatMap eN0)⟩]∧W.length≤dQ∧Org O [] [u,o] [⟨cx,(an.flatMap eN0)⟩]∧an.length≤dS∧ST O [] w' [O0,O1,⟨aD D,98,[vi bQ,.slice bX W.length dQ,.slice cx an.length dS,.slice da b7.length db],4⟩,⟨da,57,(b7.flatMap eN1),db*3⟩] [⟨cx,(an.flatMap eN0)⟩,⟨bX,(W.flatMap eN0)⟩,J,H,u,o]) MR rfl (mc rfl (mc rfl (mc rfl (mc rfl mn)))) ?cv) ?_
   case cv =>
    show CV Tryz.prog 89 #[pt (aD D) 0,.bool true,vi q1,vi q1] _ _
    refine cv_of_cw 39 Tryz.func89 rfl Tryz.ntmps89 rfl ?_
    refine cq (cr ?_)
    refine sQ 9 yv<|sQ 8 yu (rn ?_)
    obtain ⟨oC,kQ,kR⟩:=bI kP
    have jx:ST O [] _ [O0,O1,⟨aD D,98,[vi Qubits,.slice B3 XImages.length c3,.slice B4 ZImages.length c4,.slice B5 out.length c5],4⟩,⟨B5,57,(out.flatMap eN1),c5*3⟩] [J,H,J,H,u,o]:=iA.sT [0,1,0,1,2,3]
    refine cw_block ?_
    refine cw_loop (fun k f w=>∃ (a7:Int) (P:List Aa) (aa:List Aa) (bv:List Ab) (s5:Int) (bM:Option Addr) (dc:Nat) (ce:Option Addr) (dd:Nat) (cy:Option Addr) (cz:Nat),FF f [(0,pt (aD D) 0),(1,.bool true),(2,vi q1),(8,vi s5)]∧Org O [] [u,o] [⟨bM,(P.flatMap eN0)⟩]∧P.length≤dc∧Org O [] [u,o] [⟨ce,(aa.flatMap eN0)⟩]∧aa.length≤dd∧ST O [] w [⟨aD D,98,[vi a7,.slice bM P.length dc,.slice ce aa.length dd,.slice cy bv.length cz],4⟩,⟨cy,57,(bv.flatMap eN1),cz*3⟩,O0,O1] [⟨ce,(aa.flatMap eN0)⟩,⟨bM,(P.flatMap eN0)⟩,J,H,u,o]∧whX (E5 q1) k (a7,P,aa,bv,s5)=some oC) fuel ⟨Qubits,XImages,ZImages,out,q1,B3,c3,B4,c4,B5,c5,(fc rfl (fc rfl (fc rfl (fc rfl fn_)))),ho,(len_le rfl oz),oA,(len_le rfl oB),(jx.sel [2,3,0,1] rfl rfl),kQ⟩ ?_
    rintro pK f w ⟨a7,P,aa,bv,s5,bM,dc,ce,dd,cy,cz,a3,ja,jb,jc,jd,eQ,kS⟩
    obtain ⟨K114,y7,rfl,gV,je⟩:=whX_go kS
    unfold E5 at gV
    refine cq (cq (cr ?_))
    refine sQ 10 (yv rfl (a3.g 8 3))<|sQ 11 (yv rfl (a3.g 0 0))<|sQ 12 (Y_nilCheck (B:=aD D) (i:=0) rfl rfl)<|sQ 13 (yd (aD D) 0 2 K50 K3)<|sQ 14 (yd (aD D) 0 0 K22 K1)<|sQ 15 (yz 0 K0 (eQ.c 0)) ?_
    refine sQ 16 zL (rn ?_)
    refine cw_cond rfl (fun gW=>?_) (fun gW=>?_)
    ·skip
     have kT:=ct gV gW
     refine cw_skip (cq ?_)
     obtain ⟨oD,kU,kV⟩:=bI kT
     let ck:Ro:=⟨bM,(P.flatMap eN0)⟩
     let cl:Ro:=⟨ce,(aa.flatMap eN0)⟩
     refine cw_mid (fun f w=>∃ (bp:Int) (ao:List Aa) (ap:List Aa) (b8:List Ab) (de:Option Addr) (ez:Nat) (df:Option Addr) (eA:Nat) (dU:Option Addr) (dV:Nat),(bp,ao,ap,b8)=oD∧FF f [(0,pt (aD D) 0),(1,.bool true),(2,vi q1),(8,vi s5)]∧Org O [] [u,o] [⟨de,(ao.flatMap eN0)⟩]∧ao.length≤ez∧Org O [] [u,o] [⟨df,(ap.flatMap eN0)⟩]∧ap.length≤eA∧ST O [] w [⟨aD D,98,[vi bp,.slice de ao.length ez,.slice df ap.length eA,.slice dU b8.length dV],4⟩,⟨dU,57,(b8.flatMap eN1),dV*3⟩,O0,O1] [⟨df,(ap.flatMap eN0)⟩,⟨de,(ao.flatMap eN0)⟩,cl,ck,J,H,u,o]) ?_ ?_
     ·skip
      refine cw_block (cq ?_)
      obtain ⟨oE,dW,dX⟩:=bI kU
      refine cw_mid (fun f w=>∃ (a8:Int) (Q:List Aa) (ab:List Aa) (bo:List Ab) (bY:Option Addr) (dY:Nat) (cA:Option Addr) (dZ:Nat) (cC:Option Addr) (cD:Nat),(a8,Q,ab,bo)=oE∧FF f [(0,pt (aD D) 0),(1,.bool true),(2,vi q1),(8,vi s5)]∧Org O [] [u,o] [⟨bY,(Q.flatMap eN0)⟩]∧Q.length≤dY∧Org O [] [u,o] [⟨cA,(ab.flatMap eN0)⟩]∧ab.length≤dZ∧ST O [] w [⟨aD D,98,[vi a8,.slice bY Q.length dY,.slice cA ab.length dZ,.slice cC bo.length cD],4⟩,⟨cC,57,(bo.flatMap eN1),cD*3⟩,O0,O1] [⟨cA,(ab.flatMap eN0)⟩,⟨bY,(Q.flatMap eN0)⟩,cl,ck,J,H,u,o]) ?_ ?_
      ·skip
       refine cq (cr ?_)
       refine sQ 19 (yv rfl (a3.g 0 0))<|sQ 20 (yv rfl (a3.g 1 1))<|sQ 21 (yv rfl (a3.g 2 2)) ?_
       obtain ⟨⟨kW,kX,kY⟩,gX,dW⟩:=bI dW
       let O4:Ob:=⟨aD D,98,[vi a7,.slice bM P.length dc,.slice ce aa.length dd,.slice cy bv.length cz],4⟩
       let jy:Ob:=⟨cy,57,(bv.flatMap eN1),cz*3⟩
       refine sc 22 rfl rfl (Yc_func (g:=117) (vs:=[pt (aD D) 0,.bool true,vi q1]) (R:=fun v w'=>v=.agg #[vi kW,vi kX,vi kY]∧ST O [] w' [O0,O1,O4,jy] [cl,ck,J,H,u,o]) K93 rfl (mc rfl (mc rfl (mc rfl mn))) ?cv) ?_
       case cv =>
        show CV Tryz.prog 117 #[pt (aD D) 0,.bool true,vi q1] _ _
        refine cv_of_cw 24 Tryz.func117 rfl Tryz.ntmps117 rfl ?_
        refine cq (cr ?_)
        refine sS 6 (yN [vi 0,vi 0,vi 0] 3 eQ K14) ?_
        rintro _ pL ⟨qy,rfl,eo⟩
        refine rn (cq (cq (cr ?_)))
        refine sQ 7 yv (rn ?_)
        refine cw_cond rfl (fun _=>?_) (fun h=>by cases h)
        refine cq (cr ?_)
        refine sQ 8 yv<|sQ 9 (Y_nilCheck (B:=aD D) (i:=0) rfl rfl)<|sQ 10 (yd (aD D) 0 2 K50 K3)<|sQ 11 (yd (aD D) 0 0 K18 K4)<|sQ 12 (yz 1 K7 (eo.c 0))<|sQ 13 yv ?_
        obtain ⟨iB,fB,gX⟩:=bI gX
        refine sQ 14 (yI bM q1 K5 K2 (gi_isSome eN2 rfl (eo.rf (i:=1) rfl) fB) (getI_nn fB) (getI_ltI fB rfl))<|sQ 15 (ya bM (q1.toNat*3) (P.flatMap eN0) [vi iB.Phase,vi iB.X,vi iB.Z] K6 K2 (eo.rf (i:=1) rfl) rfl rfl (eN2 iB) (gi_seg eN2 fB)) ?_
        refine s0 (yK 4 3 0 eo K2) ?_
        rintro _ pM ⟨rfl,gY⟩
        refine rn (ct_ ?_)
        obtain ⟨rfl,rfl,rfl⟩:=pr3 (sI gX)
        exact ret1 Tryz.results117 (rX K6 K2 (gY.c 4)) ⟨rfl,(gY.sel [2,3,0,1] rfl rfl)⟩
       rintro _ pN ⟨rfl,fC⟩
       have fC:ST O [] _ [O0,O1,O4,jy] [cl,ck,J,H,u,o]:=fC
       refine sQ 23 (yv rfl (a3.g 8 3)) ?_
       obtain ⟨pO,kZ,dW⟩:=bI dW
       refine sc 24 rfl rfl (yc K65 (Cf (Aa.mk kW kX kY) s5 _  (fC.inn0 [] rfl) kZ)) ?_
       rintro _ pP ⟨rfl,k0⟩
       have eR:=fC.out00 k0
       refine sQ 25 zE (rn ?_)
       refine cw_cond rfl (fun gZ=>?_) (fun gZ=>?_)
       ·skip
        have g0:=ct dW gZ
        refine cr ?_
        refine sQ 26 (yv rfl (a3.g 0 0))<|sQ 27 (yv rfl (a3.g 8 3)) ?_
        obtain ⟨bF,k1,g0⟩:=bI g0
        refine sc 28 rfl rfl (yc K57 (Bx (Aq.mk (Ae.mk a7 P aa) bv) 1 s5 0 (aD D) bM dc P.length ce dd aa.length cy cz bv.length _ rfl rfl rfl (eR.inn [false,false,true,true] rfl [(true,1),(true,0)] rfl) k1)) ?_
        rintro _ pQ ⟨g1,g2,eB,fD,fE,fF,rfl,k2⟩
        have eS:=eR.out [false,false,true,true] rfl k2
        refine rn ?_
        let jz:Ro:=⟨g1,(bF.t.XImages.flatMap eN0)⟩
        have k3:Org O [] [u,o] [jz]:=ST.orgOwn eS (i:=3) rfl
        have iC:bF.t.XImages.length≤g2:=(eS.lencap (i:=3) rfl (fm_lenn (l:=bF.t.XImages) eN2 rfl) rfl rfl)
        let k4:Ob:=⟨aD D,98,[vi bF.t.Qubits,.slice g1 bF.t.XImages.length g2,.slice eB bF.t.ZImages.length fD,.slice fE bF.out.length fF],4⟩
        have eT:ST O [] _ [O0,O1,k4,⟨eB,64,(bF.t.ZImages.flatMap eN0),fD*3⟩,⟨fE,57,(bF.out.flatMap eN1),fF*3⟩] [jz,cl,ck,J,H,u,o]:=eS.freeze (i:=3) rfl
        have k5:Org O [] [u,o] [⟨eB,(bF.t.ZImages.flatMap eN0)⟩]:=ST.orgOwn eT (i:=3) rfl
        have iD:bF.t.ZImages.length≤fD:=(eT.lencap (i:=3) rfl (fm_lenn (l:=bF.t.ZImages) eN2 rfl) rfl rfl)
        have jA:ST O [] _ [O0,O1,k4,⟨fE,57,(bF.out.flatMap eN1),fF*3⟩] [⟨eB,(bF.t.ZImages.flatMap eN0)⟩,jz,cl,ck,J,H,u,o]:=eT.freeze (i:=3) rfl
        exact ⟨bF.t.Qubits,bF.t.XImages,bF.t.ZImages,bF.out,g1,g2,eB,fD,fE,fF,(sI g0),(a3.a 0 0 (a3.a 1 1 (a3.a 2 2 (a3.a 8 3 fn_)))),k3,(len_le rfl iC),k5,(len_le rfl iD),(jA.sel [2,3,0,1] rfl rfl)⟩
       ·skip
        have k6:=cf' dW gZ
        refine cw_skip ?_
        have jB:ST O [] _ [O0,O1,O4,jy] [cl,ck,cl,ck,J,H,u,o]:=eR.sT [0,1,0,1,2,3,4,5]
        exact ⟨a7,P,aa,bv,bM,dc,ce,dd,cy,cz,(sI k6),(a3.a 0 0 (a3.a 1 1 (a3.a 2 2 (a3.a 8 3 fn_)))),ja,(len_le rfl jb),jc,(len_le rfl jd),(jB.sel [2,3,0,1] rfl rfl)⟩
      rintro f w ⟨a8,Q,ab,bo,bY,dY,cA,dZ,cC,cD,rfl,bm,k7,k8,k9,la,jC⟩
      refine cq (cr ?_)
      refine sQ 29 (yv rfl (bm.g 0 0))<|sQ 30 (yv rfl (bm.g 1 1))<|sQ 31 (yv rfl (bm.g 2 2)) ?_
      obtain ⟨⟨lb,ld,lf⟩,g3,dX⟩:=bI dX
      let O8:Ob:=⟨aD D,98,[vi a8,.slice bY Q.length dY,.slice cA ab.length dZ,.slice cC bo.length cD],4⟩
      let iE:Ro:=⟨bY,(Q.flatMap eN0)⟩
      let iF:Ro:=⟨cA,(ab.flatMap eN0)⟩
      refine sc 32 rfl rfl (Yc_func (g:=117) (vs:=[pt (aD D) 0,.bool true,vi q1]) (R:=fun v w'=>v=.agg #[vi lb,vi ld,vi lf]∧ST O [] w' [O0,O1,O8,⟨cC,57,(bo.flatMap eN1),cD*3⟩] [iF,iE,cl,ck,J,H,u,o]) K93 rfl (mc rfl (mc rfl (mc rfl mn))) ?cv) ?_
      case cv =>
       show CV Tryz.prog 117 #[pt (aD D) 0,.bool true,vi q1] _ _
       refine cv_of_cw 24 Tryz.func117 rfl Tryz.ntmps117 rfl ?_
       refine cq (cr ?_)
       refine sS 6 (yN [vi 0,vi 0,vi 0] 3 jC K14) ?_
       rintro _ pS ⟨qz,rfl,ep⟩
       refine rn (cq (cq (cr ?_)))
       refine sQ 7 yv (rn ?_)
       refine cw_cond rfl (fun _=>?_) (fun h=>by cases h)
       refine cq (cr ?_)
       refine sQ 8 yv<|sQ 9 (Y_nilCheck (B:=aD D) (i:=0) rfl rfl)<|sQ 10 (yd (aD D) 0 2 K50 K3)<|sQ 11 (yd (aD D) 0 0 K18 K4)<|sQ 12 (yz 1 K7 (ep.c 0))<|sQ 13 yv ?_
       obtain ⟨iG,fG,g3⟩:=bI g3
       refine sQ 14 (yI bY q1 K5 K2 (gi_isSome eN2 rfl (ep.rf (i:=1) rfl) fG) (getI_nn fG) (getI_ltI fG rfl))<|sQ 15 (ya bY (q1.toNat*3) (Q.flatMap eN0) [vi iG.Phase,vi iG.X,vi iG.Z] K6 K2 (ep.rf (i:=1) rfl) rfl rfl (eN2 iG) (gi_seg eN2 fG)) ?_
       refine s0 (yK 4 3 0 ep K2) ?_
       rintro _ pT ⟨rfl,g4⟩
       refine rn (ct_ ?_)
       obtain ⟨rfl,rfl,rfl⟩:=pr3 (sI g3)
       exact ret1 Tryz.results117 (rX K6 K2 (g4.c 4)) ⟨rfl,(g4.sel [2,3,0,1] rfl rfl)⟩
      rintro _ pU ⟨rfl,fH⟩
      have fH:ST O [] _ [O0,O1,O8,⟨cC,57,(bo.flatMap eN1),cD*3⟩] [iF,iE,cl,ck,J,H,u,o]:=fH
      refine sQ 33 (yv rfl (bm.g 8 3)) ?_
      obtain ⟨pV,lg,dX⟩:=bI dX
      refine sc 34 rfl rfl (yc K65 (Cf (Aa.mk lb ld lf) s5 _  (fH.inn0 [] rfl) lg)) ?_
      rintro _ pW ⟨rfl,lh⟩
      have eU:=fH.out00 lh
      refine sQ 35 zE (rn ?_)
      refine cw_cond rfl (fun g5=>?_) (fun g5=>?_)
      ·skip
       have g6:=ct dX g5
       refine cr ?_
       refine sQ 36 (yv rfl (bm.g 0 0))<|sQ 37 (yv rfl (bm.g 8 3)) ?_
       obtain ⟨bW,li,g6⟩:=bI g6
       refine sc 38 rfl rfl (yc K57 (Bx (Aq.mk (Ae.mk a8 Q ab) bo) 5 s5 0 (aD D) bY dY Q.length cA dZ ab.length cC cD bo.length _ rfl rfl rfl (eU.inn [false,false,true,true] rfl [(true,1),(true,0)] rfl) li)) ?_
       rintro _ pX ⟨g7,g8,fI,fJ,g9,he,rfl,lj⟩
       have eW:=eU.out [false,false,true,true] rfl lj
       refine rn ?_
       let iH:Ro:=⟨g7,(bW.t.XImages.flatMap eN0)⟩
       have lk:Org O [] [u,o] [iH]:=ST.orgOwn eW (i:=3) rfl
       have iI:bW.t.XImages.length≤g8:=(eW.lencap (i:=3) rfl (fm_lenn (l:=bW.t.XImages) eN2 rfl) rfl rfl)
       let O6:Ob:=⟨aD D,98,[vi bW.t.Qubits,.slice g7 bW.t.XImages.length g8,.slice fI bW.t.ZImages.length fJ,.slice g9 bW.out.length he],4⟩
       let jD:Ob:=⟨g9,57,(bW.out.flatMap eN1),he*3⟩
       have eX:ST O [] _ [O0,O1,O6,⟨fI,64,(bW.t.ZImages.flatMap eN0),fJ*3⟩,jD] [iH,iF,iE,cl,ck,J,H,u,o]:=eW.freeze (i:=3) rfl
       let jE:Ro:=⟨fI,(bW.t.ZImages.flatMap eN0)⟩
       have ll:Org O [] [u,o] [jE]:=ST.orgOwn eX (i:=3) rfl
       have iJ:bW.t.ZImages.length≤fJ:=(eX.lencap (i:=3) rfl (fm_lenn (l:=bW.t.ZImages) eN2 rfl) rfl rfl)
       have jF:ST O [] _ [O0,O1,O6,jD] [jE,iH,iF,iE,cl,ck,J,H,u,o]:=eX.freeze (i:=3) rfl
       have jG:ST O [] _ [O0,O1,O6,jD] [jE,iH,cl,ck,J,H,u,o]:=jF.sT [0,1,4,5,6,7,8,9]
       exact ⟨bW.t.Qubits,bW.t.XImages,bW.t.ZImages,bW.out,g7,g8,fI,fJ,g9,he,(sI g6),(bm.a 0 0 (bm.a 1 1 (bm.a 2 2 (bm.a 8 3 fn_)))),lk,(len_le rfl iI),ll,(len_le rfl iJ),(jG.sel [2,3,0,1] rfl rfl)⟩
      ·skip
       have lm:=cf' dX g5
       refine cw_skip ?_
       exact ⟨a8,Q,ab,bo,bY,dY,cA,dZ,cC,cD,(sI lm),(bm.a 0 0 (bm.a 1 1 (bm.a 2 2 (bm.a 8 3 fn_)))),k7,(len_le rfl k8),k9,(len_le rfl la),(eU.sel [2,3,0,1] rfl rfl)⟩
     rintro f w ⟨bp,ao,ap,b8,de,ez,df,eA,dU,dV,rfl,fK,ln,lp,lq,lr,jH⟩
     refine cr ?_
     refine sQ 17 (yv rfl (fK.g 8 3))<|sQ 18 zP<|sQ 8 yu (rn ?_)
     obtain rfl:=sI kV
     have jI:ST O [] _ [⟨aD D,98,[vi bp,.slice de ao.length ez,.slice df ap.length eA,.slice dU b8.length dV],4⟩,⟨dU,57,(b8.flatMap eN1),dV*3⟩,O0,O1] [⟨df,(ap.flatMap eN0)⟩,⟨de,(ao.flatMap eN0)⟩,J,H,u,o]:=jH.sT [0,1,4,5,6,7]
     exact ⟨K114,Nat.lt_succ_self _,bp,ao,ap,b8,(i64.wrap (s5+1)),de,ez,df,eA,dU,dV,(fK.a 0 0 (fK.a 1 1 (fK.a 2 2 (fc rfl fn_)))),ln,(len_le rfl lp),lq,(len_le rfl lr),(jI.sel [0,1,2,3] rfl rfl),je⟩
    ·skip
     have ls:=cf' gV gW
     refine cw_exit rfl ?_
     obtain rfl:=sI ls
     obtain rfl:=sI je
     obtain ⟨rfl,rfl,rfl,rfl⟩:=pr4 (sI kR)
     exact ret0 Tryz.results89  ⟨bM,dc,ce,dd,cy,cz,rfl,ja,(len_le rfl jb),jc,(len_le rfl jd),(eQ.sel [2,3,0,1] rfl rfl)⟩
   rintro _ pY ⟨bX,dQ,cx,dS,da,db,rfl,lu,lv,lw,lx,hg⟩
   let O3:Ob:=⟨aD D,98,[vi bQ,.slice bX W.length dQ,.slice cx an.length dS,.slice da b7.length db],4⟩
   let jJ:Ob:=⟨da,57,(b7.flatMap eN1),db*3⟩
   let ah:Ro:=⟨bX,(W.flatMap eN0)⟩
   let ai:Ro:=⟨cx,(an.flatMap eN0)⟩
   have hg:ST O [] _ [O0,O1,O3,jJ] [ai,ah,J,H,u,o]:=hg
   refine rn (cq (cr ?_))
   refine sQ 10 yv<|sQ 4 yu (rn (cq ?_))
   obtain ⟨oI,ly,lz⟩:=bI gU
   refine cw_block ?_
   refine cw_loop (fun k f w=>∃ (cE:Int),FF f [(0,pt (aD D) 0),(1,vi q1),(4,vi cE)]∧ST O [] w [O3,jJ,O0,O1] [ai,ah,J,H,u,o]∧whX (CR W q1) k cE=some oI) fuel ⟨q1,(fc rfl (fc rfl (fc rfl fn_))),(hg.sel [2,3,0,1] rfl rfl),ly⟩ ?_
   rintro pZ f w ⟨cE,aL,dg,lA⟩
   obtain ⟨lC,y8,rfl,dh,jf⟩:=whX_go lA
   unfold CR at dh
   refine cq (cq (cr ?_))
   refine sQ 11 (yv rfl (aL.g 0 0))<|sQ 12 (Y_nilCheck (B:=aD D) (i:=0) rfl rfl)<|sQ 13 (yd (aD D) 0 2 K50 K3)<|sQ 14 (yd (aD D) 0 0 K18 K4)<|sQ 15 (yz 1 K7 (dg.c 0))<|sQ 16 (yv rfl (aL.g 1 1)) ?_
   obtain ⟨hh,fL,dh⟩:=bI dh
   refine sQ 17 (yI bX q1 K5 K2 (gi_isSome eN2 rfl (dg.rf (i:=1) rfl) fL) (getI_nn fL) (getI_ltI fL rfl))<|sQ 18 (ya bX (q1.toNat*3) (W.flatMap eN0) [vi hh.Phase,vi hh.X,vi hh.Z] K6 K2 (dg.rf (i:=1) rfl) rfl rfl (eN2 hh) (gi_seg eN2 fL))<|sQ 19 (yv rfl (aL.g 4 2)) ?_
   obtain ⟨p0,lD,dh⟩:=bI dh
   refine sc 20 rfl rfl (yc K65 (Cf hh cE _  (dg.inn0 [] rfl) lD)) ?_
   rintro _ p1 ⟨rfl,lE⟩
   have er:=dg.out00 lE
   refine sQ 21 (Y_ne rfl rfl rfl) (rn ?_)
   refine cw_cond rfl (fun hj=>?_) (fun hj=>?_)
   ·skip
    have lF:=ct dh hj
    refine cw_skip (cw_block (cr ?_))
    refine sQ 22 (yv rfl (aL.g 4 2))<|sQ 23 zP<|sQ 4 yu (rn ?_)
    obtain rfl:=sI lF
    exact ⟨lC,Nat.lt_succ_self _,(i64.wrap (cE+1)),(aL.a 0 0 (aL.a 1 1 (fc rfl fn_))),(er.sel [0,1,2,3] rfl rfl),jf⟩
   ·skip
    have lG:=cf' dh hj
    refine cw_exit rfl ?_
    obtain rfl:=sI lG
    obtain rfl:=sI jf
    refine cq ?_
    obtain ⟨oJ,jg,hl⟩:=bI lz
    refine cw_mid (fun f w=>∃ (bq:Int) (aq:List Aa) (ar:List Aa) (b9:List Ab) (di:Option Addr) (eC:Nat) (dj:Option Addr) (eD:Nat) (d0:Option Addr) (d1:Nat),(bq,aq,ar,b9)=oJ∧FF f [(0,pt (aD D) 0),(1,vi q1)]∧Org O [] [u,o] [⟨di,(aq.flatMap eN0)⟩]∧aq.length≤eC∧Org O [] [u,o] [⟨dj,(ar.flatMap eN0)⟩]∧ar.length≤eD∧ST O [] w [⟨aD D,98,[vi bq,.slice di aq.length eC,.slice dj ar.length eD,.slice d0 b9.length d1],4⟩,⟨d0,57,(b9.flatMap eN1),d1*3⟩,O0,O1] [⟨dj,(ar.flatMap eN0)⟩,⟨di,(aq.flatMap eN0)⟩,ai,ah,J,H,u,o]) ?_ ?_
    ·skip
     refine cq (cr ?_)
     refine sQ 24 (yv rfl (aL.g 4 2))<|sQ 25 (yv rfl (aL.g 1 1))<|sQ 26 (Y_ne rfl rfl rfl) (rn ?_)
     refine cw_cond rfl (fun hm=>?_) (fun hm=>?_)
     ·skip
      have dk:=ct jg hm
      refine cq (cr ?_)
      refine sQ 27 (yv rfl (aL.g 0 0))<|sQ 28 (yv rfl (aL.g 4 2))<|sQ 29 (yv rfl (aL.g 1 1)) ?_
      obtain ⟨eE,lI,dk⟩:=bI dk
      refine sc 30 rfl rfl (yc K57 (Bx (Aq.mk (Ae.mk bQ W an) b7) 9 cE q1 (aD D) bX dQ W.length cx dS an.length da db b7.length _ rfl rfl rfl (er.inn [true,true,false,false] rfl [(true,1),(true,0)] rfl) lI)) ?_
      rintro _ p2 ⟨hp,hr,hs,ht,lJ,lK,rfl,lL⟩
      have hu:=er.out [true,true,false,false] rfl lL
      refine rn (cq (cr ?_))
      refine sQ 31 (yv rfl (aL.g 0 0))<|sQ 32 (yv rfl (aL.g 1 1))<|sQ 33 (yv rfl (aL.g 4 2)) ?_
      obtain ⟨eF,lM,dk⟩:=bI dk
      refine sc 34 rfl rfl (yc K57 (Bx eE 9 q1 cE (aD D) hp hr eE.t.XImages.length hs ht eE.t.ZImages.length lJ lK eE.out.length _ rfl rfl rfl (hu.inn [false,false,true,false,false,true] rfl [(false,2),(false,3)] rfl) lM)) ?_
      rintro _ p3 ⟨hw,hx,hy,hA,lN,lO,rfl,lP⟩
      have hB:=hu.out [false,false,true,false,false,true] rfl lP
      refine rn (cr ?_)
      refine sQ 35 (yv rfl (aL.g 0 0))<|sQ 36 (yv rfl (aL.g 4 2))<|sQ 37 (yv rfl (aL.g 1 1)) ?_
      obtain ⟨bH,lQ,dk⟩:=bI dk
      refine sc 38 rfl rfl (yc K57 (Bx eF 9 cE q1 (aD D) hw hx eF.t.XImages.length hy hA eF.t.ZImages.length lN lO eF.out.length _ rfl rfl rfl (hB.inn [false,false,false,false,true,false,false,true] rfl [(false,4),(false,5)] rfl) lQ)) ?_
      rintro _ p4 ⟨hC,hD,eG,fO,fP,fS,rfl,lR⟩
      have eY:=hB.out [false,false,false,false,true,false,false,true] rfl lR
      refine rn ?_
      let jK:Ro:=⟨hC,(bH.t.XImages.flatMap eN0)⟩
      have lS:Org O [] [u,o] [jK]:=ST.orgOwn eY (i:=7) rfl
      have iK:bH.t.XImages.length≤hD:=(eY.lencap (i:=7) rfl (fm_lenn (l:=bH.t.XImages) eN2 rfl) rfl rfl)
      let lT:Ob:=⟨aD D,98,[vi bH.t.Qubits,.slice hC bH.t.XImages.length hD,.slice eG bH.t.ZImages.length fO,.slice fP bH.out.length fS],4⟩
      have eZ:ST O [] _ [O0,O1,⟨hp,64,(eE.t.XImages.flatMap eN0),hr*3⟩,⟨hs,64,(eE.t.ZImages.flatMap eN0),ht*3⟩,⟨hw,64,(eF.t.XImages.flatMap eN0),hx*3⟩,⟨hy,64,(eF.t.ZImages.flatMap eN0),hA*3⟩,lT,⟨eG,64,(bH.t.ZImages.flatMap eN0),fO*3⟩,⟨fP,57,(bH.out.flatMap eN1),fS*3⟩] [jK,ai,ah,J,H,u,o]:=eY.freeze (i:=7) rfl
      have lU:Org O [] [u,o] [⟨eG,(bH.t.ZImages.flatMap eN0)⟩]:=ST.orgOwn eZ (i:=7) rfl
      have iL:bH.t.ZImages.length≤fO:=(eZ.lencap (i:=7) rfl (fm_lenn (l:=bH.t.ZImages) eN2 rfl) rfl rfl)
      have jL:ST O [] _ [O0,O1,⟨hp,64,(eE.t.XImages.flatMap eN0),hr*3⟩,⟨hs,64,(eE.t.ZImages.flatMap eN0),ht*3⟩,⟨hw,64,(eF.t.XImages.flatMap eN0),hx*3⟩,⟨hy,64,(eF.t.ZImages.flatMap eN0),hA*3⟩,lT,⟨fP,57,(bH.out.flatMap eN1),fS*3⟩] [⟨eG,(bH.t.ZImages.flatMap eN0)⟩,jK,ai,ah,J,H,u,o]:=eZ.freeze (i:=7) rfl
      exact ⟨bH.t.Qubits,bH.t.XImages,bH.t.ZImages,bH.out,hC,hD,eG,fO,fP,fS,(sI dk),(aL.a 0 0 (aL.a 1 1 fn_)),lS,(len_le rfl iK),lU,(len_le rfl iL),(jL.sel [6,7,0,1] rfl rfl)⟩
     ·skip
      have lV:=cf' jg hm
      refine cw_skip ?_
      have jM:ST O [] _ [O3,jJ,O0,O1] [ai,ah,ai,ah,J,H,u,o]:=er.sT [0,1,0,1,2,3,4,5]
      exact ⟨bQ,W,an,b7,bX,dQ,cx,dS,da,db,(sI lV),(aL.a 0 0 (aL.a 1 1 fn_)),lu,(len_le rfl lv),lw,(len_le rfl lx),(jM.sel [0,1,2,3] rfl rfl)⟩
    rintro f w ⟨bq,aq,ar,b9,di,eC,dj,eD,d0,d1,rfl,aM,lW,lX,lY,lZ,jN⟩
    refine cq (cr ?_)
    refine sQ 39 (yv rfl (aM.g 0 0))<|sQ 40 (yv rfl (aM.g 1 1)) ?_
    obtain ⟨⟨bR,au,aj,bN⟩,l0,hl⟩:=bI hl
    let av:Ro:=⟨di,(aq.flatMap eN0)⟩
    let aw:Ro:=⟨dj,(ar.flatMap eN0)⟩
    refine sc 41 rfl rfl (Yc_func (g:=92) (vs:=[pt (aD D) 0,.bool true,vi q1]) (R:=fun v w'=>∃ (cF:Option Addr) (d2:Nat) (bZ:Option Addr) (d3:Nat) (cG:Option Addr) (cH:Nat),v=.tuple #[]∧Org O [] [u,o] [⟨cF,(au.flatMap eN0)⟩]∧au.length≤d2∧Org O [] [u,o] [⟨bZ,(aj.flatMap eN0)⟩]∧aj.length≤d3∧ST O [] w' [O0,O1,⟨aD D,98,[vi bR,.slice cF au.length d2,.slice bZ aj.length d3,.slice cG bN.length cH],4⟩,⟨cG,57,(bN.flatMap eN1),cH*3⟩] [⟨bZ,(aj.flatMap eN0)⟩,⟨cF,(au.flatMap eN0)⟩,aw,av,ai,ah,J,H,u,o]) L6 rfl (mc rfl (mc rfl (mc rfl mn))) ?cv) ?_
    case cv =>
     show CV Tryz.prog 92 #[pt (aD D) 0,.bool true,vi q1] _ _
     refine cv_of_cw 29 Tryz.func92 rfl Tryz.ntmps92 rfl ?_
     refine cq (cr ?_)
     refine sQ 7 yv<|sQ 8 zP<|sQ 6 yu (rn ?_)
     obtain ⟨oK,l1,l2⟩:=bI l0
     have jO:ST O [] _ [⟨aD D,98,[vi bq,.slice di aq.length eC,.slice dj ar.length eD,.slice d0 b9.length d1],4⟩,⟨d0,57,(b9.flatMap eN1),d1*3⟩,O0,O1] [aw,av,aw,av,ai,ah,J,H,u,o]:=jN.sT [0,1,0,1,2,3,4,5,6,7]
     refine cw_block ?_
     refine cw_loop (fun k f w=>∃ (a9:Int) (S:List Aa) (ac:List Aa) (bw:List Ab) (s7:Int) (bO:Option Addr) (dl:Nat) (cg:Option Addr) (dm:Nat) (cI:Option Addr) (cJ:Nat),FF f [(0,pt (aD D) 0),(1,.bool true),(2,vi q1),(6,vi s7)]∧Org O [] [u,o] [⟨bO,(S.flatMap eN0)⟩]∧S.length≤dl∧Org O [] [u,o] [⟨cg,(ac.flatMap eN0)⟩]∧ac.length≤dm∧ST O [] w [⟨aD D,98,[vi a9,.slice bO S.length dl,.slice cg ac.length dm,.slice cI bw.length cJ],4⟩,⟨cI,57,(bw.flatMap eN1),cJ*3⟩,O0,O1] [⟨cg,(ac.flatMap eN0)⟩,⟨bO,(S.flatMap eN0)⟩,aw,av,ai,ah,J,H,u,o]∧whX (Eg q1) k (a9,S,ac,bw,s7)=some oK) fuel ⟨bq,aq,ar,b9,(i64.wrap (q1+1)),di,eC,dj,eD,d0,d1,(fc rfl (fc rfl (fc rfl (fc rfl fn_)))),lW,(len_le rfl lX),lY,(len_le rfl lZ),(jO.sel [0,1,2,3] rfl rfl),l1⟩ ?_
     rintro p5 f w ⟨a9,S,ac,bw,s7,bO,dl,cg,dm,cI,cJ,a1,jh,ji,jj,jk,e0,l3⟩
     obtain ⟨K115,qA,rfl,hE,jl⟩:=whX_go l3
     unfold Eg at hE
     refine cq (cq (cr ?_))
     refine sQ 9 (yv rfl (a1.g 6 3))<|sQ 10 (yv rfl (a1.g 0 0))<|sQ 11 (Y_nilCheck (B:=aD D) (i:=0) rfl rfl)<|sQ 12 (yd (aD D) 0 2 K50 K3)<|sQ 13 (yd (aD D) 0 0 K22 K1)<|sQ 14 (yz 0 K0 (e0.c 0)) ?_
     refine sQ 15 zL (rn ?_)
     refine cw_cond rfl (fun hG=>?_) (fun hG=>?_)
     ·skip
      have l4:=ct hE hG
      refine cw_skip (cq ?_)
      obtain ⟨oL,d4,l5⟩:=bI l4
      let e4:Ro:=⟨bO,(S.flatMap eN0)⟩
      let e5:Ro:=⟨cg,(ac.flatMap eN0)⟩
      refine cw_mid (fun f w=>∃ (bt:Int) (ay:List Aa) (aA:List Aa) (ca:List Ab) (dn:Option Addr) (eH:Nat) (dp:Option Addr) (eI:Nat) (d5:Option Addr) (d6:Nat),(bt,ay,aA,ca)=oL∧FF f [(0,pt (aD D) 0),(1,.bool true),(2,vi q1),(6,vi s7)]∧Org O [] [u,o] [⟨dn,(ay.flatMap eN0)⟩]∧ay.length≤eH∧Org O [] [u,o] [⟨dp,(aA.flatMap eN0)⟩]∧aA.length≤eI∧ST O [] w [⟨aD D,98,[vi bt,.slice dn ay.length eH,.slice dp aA.length eI,.slice d5 ca.length d6],4⟩,⟨d5,57,(ca.flatMap eN1),d6*3⟩,O0,O1] [⟨dp,(aA.flatMap eN0)⟩,⟨dn,(ay.flatMap eN0)⟩,e5,e4,aw,av,ai,ah,J,H,u,o]) ?_ ?_
      ·skip
       refine cw_block (cq (cr ?_))
       refine sQ 18 (yv rfl (a1.g 0 0))<|sQ 19 (yv rfl (a1.g 1 1))<|sQ 20 (yv rfl (a1.g 2 2)) ?_
       obtain ⟨⟨l6,l7,l8⟩,hH,d4⟩:=bI d4
       let O5:Ob:=⟨aD D,98,[vi a9,.slice bO S.length dl,.slice cg ac.length dm,.slice cI bw.length cJ],4⟩
       let jQ:Ob:=⟨cI,57,(bw.flatMap eN1),cJ*3⟩
       refine sc 21 rfl rfl (Yc_func (g:=117) (vs:=[pt (aD D) 0,.bool true,vi q1]) (R:=fun v w'=>v=.agg #[vi l6,vi l7,vi l8]∧ST O [] w' [O0,O1,O5,jQ] [e5,e4,aw,av,ai,ah,J,H,u,o]) K93 rfl (mc rfl (mc rfl (mc rfl mn))) ?cv) ?_
       case cv =>
        show CV Tryz.prog 117 #[pt (aD D) 0,.bool true,vi q1] _ _
        refine cv_of_cw 24 Tryz.func117 rfl Tryz.ntmps117 rfl ?_
        refine cq (cr ?_)
        refine sS 6 (yN [vi 0,vi 0,vi 0] 3 e0 K14) ?_
        rintro _ p6 ⟨qB,rfl,es⟩
        refine rn (cq (cq (cr ?_)))
        refine sQ 7 yv (rn ?_)
        refine cw_cond rfl (fun _=>?_) (fun h=>by cases h)
        refine cq (cr ?_)
        refine sQ 8 yv<|sQ 9 (Y_nilCheck (B:=aD D) (i:=0) rfl rfl)<|sQ 10 (yd (aD D) 0 2 K50 K3)<|sQ 11 (yd (aD D) 0 0 K18 K4)<|sQ 12 (yz 1 K7 (es.c 0))<|sQ 13 yv ?_
        obtain ⟨iM,fT,hH⟩:=bI hH
        refine sQ 14 (yI bO q1 K5 K2 (gi_isSome eN2 rfl (es.rf (i:=1) rfl) fT) (getI_nn fT) (getI_ltI fT rfl))<|sQ 15 (ya bO (q1.toNat*3) (S.flatMap eN0) [vi iM.Phase,vi iM.X,vi iM.Z] K6 K2 (es.rf (i:=1) rfl) rfl rfl (eN2 iM) (gi_seg eN2 fT)) ?_
        refine s0 (yK 4 3 0 es K2) ?_
        rintro _ p7 ⟨rfl,hI⟩
        refine rn (ct_ ?_)
        obtain ⟨rfl,rfl,rfl⟩:=pr3 (sI hH)
        exact ret1 Tryz.results117 (rX K6 K2 (hI.c 4)) ⟨rfl,(hI.sel [2,3,0,1] rfl rfl)⟩
       rintro _ p8 ⟨rfl,fU⟩
       have fU:ST O [] _ [O0,O1,O5,jQ] [e5,e4,aw,av,ai,ah,J,H,u,o]:=fU
       refine sQ 22 (yv rfl (a1.g 6 3)) ?_
       obtain ⟨p9,l9,d4⟩:=bI d4
       refine sc 23 rfl rfl (yc K65 (Cf (Aa.mk l6 l7 l8) s7 _  (fU.inn0 [] rfl) l9)) ?_
       rintro _ qa ⟨rfl,ma⟩
       have e6:=fU.out00 ma
       refine sQ 24 zE (rn ?_)
       refine cw_cond rfl (fun hK=>?_) (fun hK=>?_)
       ·skip
        have hM:=ct d4 hK
        refine cr ?_
        refine sQ 25 (yv rfl (a1.g 0 0))<|sQ 26 (yv rfl (a1.g 2 2))<|sQ 27 (yv rfl (a1.g 6 3)) ?_
        obtain ⟨bJ,mb,hM⟩:=bI hM
        refine sc 28 rfl rfl (yc K57 (Bx (Aq.mk (Ae.mk a9 S ac) bw) 9 q1 s7 (aD D) bO dl S.length cg dm ac.length cI cJ bw.length _ rfl rfl rfl (e6.inn [false,false,true,true] rfl [(true,1),(true,0)] rfl) mb)) ?_
        rintro _ qb ⟨hN,hO,eJ,fV,fW,fX,rfl,md⟩
        have e7:=e6.out [false,false,true,true] rfl md
        refine rn ?_
        let jR:Ro:=⟨hN,(bJ.t.XImages.flatMap eN0)⟩
        have me:Org O [] [u,o] [jR]:=ST.orgOwn e7 (i:=3) rfl
        have iN:bJ.t.XImages.length≤hO:=(e7.lencap (i:=3) rfl (fm_lenn (l:=bJ.t.XImages) eN2 rfl) rfl rfl)
        let mf:Ob:=⟨aD D,98,[vi bJ.t.Qubits,.slice hN bJ.t.XImages.length hO,.slice eJ bJ.t.ZImages.length fV,.slice fW bJ.out.length fX],4⟩
        have e8:ST O [] _ [O0,O1,mf,⟨eJ,64,(bJ.t.ZImages.flatMap eN0),fV*3⟩,⟨fW,57,(bJ.out.flatMap eN1),fX*3⟩] [jR,e5,e4,aw,av,ai,ah,J,H,u,o]:=e7.freeze (i:=3) rfl
        have mg:Org O [] [u,o] [⟨eJ,(bJ.t.ZImages.flatMap eN0)⟩]:=ST.orgOwn e8 (i:=3) rfl
        have iO:bJ.t.ZImages.length≤fV:=(e8.lencap (i:=3) rfl (fm_lenn (l:=bJ.t.ZImages) eN2 rfl) rfl rfl)
        have jS:ST O [] _ [O0,O1,mf,⟨fW,57,(bJ.out.flatMap eN1),fX*3⟩] [⟨eJ,(bJ.t.ZImages.flatMap eN0)⟩,jR,e5,e4,aw,av,ai,ah,J,H,u,o]:=e8.freeze (i:=3) rfl
        exact ⟨bJ.t.Qubits,bJ.t.XImages,bJ.t.ZImages,bJ.out,hN,hO,eJ,fV,fW,fX,(sI hM),(a1.a 0 0 (a1.a 1 1 (a1.a 2 2 (a1.a 6 3 fn_)))),me,(len_le rfl iN),mg,(len_le rfl iO),(jS.sel [2,3,0,1] rfl rfl)⟩
       ·skip
        have mh:=cf' d4 hK
        refine cw_skip ?_
        have jT:ST O [] _ [O0,O1,O5,jQ] [e5,e4,e5,e4,aw,av,ai,ah,J,H,u,o]:=e6.sT [0,1,0,1,2,3,4,5,6,7,8,9]
        exact ⟨a9,S,ac,bw,bO,dl,cg,dm,cI,cJ,(sI mh),(a1.a 0 0 (a1.a 1 1 (a1.a 2 2 (a1.a 6 3 fn_)))),jh,(len_le rfl ji),jj,(len_le rfl jk),(jT.sel [2,3,0,1] rfl rfl)⟩
      rintro f w ⟨bt,ay,aA,ca,dn,eH,dp,eI,d5,d6,rfl,fY,mi,mj,ml,mm,jU⟩
      refine cr ?_
      refine sQ 16 (yv rfl (fY.g 6 3))<|sQ 17 zP<|sQ 6 yu (rn ?_)
      obtain rfl:=sI l5
      have jV:ST O [] _ [⟨aD D,98,[vi bt,.slice dn ay.length eH,.slice dp aA.length eI,.slice d5 ca.length d6],4⟩,⟨d5,57,(ca.flatMap eN1),d6*3⟩,O0,O1] [⟨dp,(aA.flatMap eN0)⟩,⟨dn,(ay.flatMap eN0)⟩,aw,av,ai,ah,J,H,u,o]:=jU.sT [0,1,4,5,6,7,8,9,10,11]
      exact ⟨K115,Nat.lt_succ_self _,bt,ay,aA,ca,(i64.wrap (s7+1)),dn,eH,dp,eI,d5,d6,(fY.a 0 0 (fY.a 1 1 (fY.a 2 2 (fc rfl fn_)))),mi,(len_le rfl mj),ml,(len_le rfl mm),(jV.sel [0,1,2,3] rfl rfl),jl⟩
     ·skip
      have mo:=cf' hE hG
      refine cw_exit rfl ?_
      obtain rfl:=sI mo
      obtain rfl:=sI jl
      obtain ⟨rfl,rfl,rfl,rfl⟩:=pr4 (sI l2)
      exact ret0 Tryz.results92  ⟨bO,dl,cg,dm,cI,cJ,rfl,jh,(len_le rfl ji),jj,(len_le rfl jk),(e0.sel [2,3,0,1] rfl rfl)⟩
    rintro _ qc ⟨cF,d2,bZ,d3,cG,cH,rfl,mp,mq,mr,ms,d7⟩
    let O9:Ob:=⟨aD D,98,[vi bR,.slice cF au.length d2,.slice bZ aj.length d3,.slice cG bN.length cH],4⟩
    let aU:Ro:=⟨cF,(au.flatMap eN0)⟩
    let aV:Ro:=⟨bZ,(aj.flatMap eN0)⟩
    have d7:ST O [] _ [O0,O1,O9,⟨cG,57,(bN.flatMap eN1),cH*3⟩] [aV,aU,aw,av,ai,ah,J,H,u,o]:=d7
    refine rn (cq ?_)
    obtain ⟨oN,d8,mu⟩:=bI hl
    refine cw_mid (fun f w=>∃ (ba:Int) (ae:List Aa) (af:List Aa) (bA:List Ab) (b0:Option Addr) (d9:Nat) (cL:Option Addr) (ea:Nat) (dq:Option Addr) (dr:Nat),(ba,ae,af,bA)=oN∧FF f [(0,pt (aD D) 0),(1,vi q1)]∧Org O [] [u,o] [⟨b0,(ae.flatMap eN0)⟩]∧ae.length≤d9∧Org O [] [u,o] [⟨cL,(af.flatMap eN0)⟩]∧af.length≤ea∧ST O [] w [⟨aD D,98,[vi ba,.slice b0 ae.length d9,.slice cL af.length ea,.slice dq bA.length dr],4⟩,⟨dq,57,(bA.flatMap eN1),dr*3⟩,O0,O1] [⟨cL,(af.flatMap eN0)⟩,⟨b0,(ae.flatMap eN0)⟩,aV,aU,aw,av,ai,ah,J,H,u,o]) ?_ ?_
    ·skip
     refine cq (cr ?_)
     refine sQ 42 (yv rfl (aM.g 0 0))<|sQ 43 (Y_nilCheck (B:=aD D) (i:=0) rfl rfl)<|sQ 44 (yd (aD D) 0 2 K50 K3)<|sQ 45 (yd (aD D) 0 0 K20 K4)<|sQ 46 (yz 2 K7 (d7.cf (i:=2) rfl))<|sQ 47 (yv rfl (aM.g 1 1)) ?_
     obtain ⟨e9,fZ,d8⟩:=bI d8
     refine sQ 48 (yI bZ q1 K5 K2 (gi_isSome eN2 rfl (d7.rf (i:=0) rfl) fZ) (getI_nn fZ) (getI_ltI fZ rfl))<|sQ 49 (ya bZ (q1.toNat*3) (aj.flatMap eN0) [vi e9.Phase,vi e9.X,vi e9.Z] K6 K2 (d7.rf (i:=0) rfl) rfl rfl (eN2 e9) (gi_seg eN2 fZ)) ?_
     refine sS 5 (yN [vi 0,vi 0,vi 0] 3 d7 K14) ?_
     rintro _ qe ⟨jW,rfl,jX⟩
     refine s0 (yK 4 3 0 jX K2) ?_
     rintro _ qf ⟨rfl,ds⟩
     refine rn (cq (cr ?_))
     refine sQ 50 (yd (aD jW) 0 0 K47 K1)<|sQ 51 (yz 1 K0 (ds.c 4))<|sQ 52 (Y_ne rfl rfl rfl)<|sQ 53 yv ?_
     refine sgq 54 rfl rfl (uF_ 53) (fun qC=>(yd (aD jW) 0 0 K48 K1)) ?_
     refine sgq 55 rfl rfl (uF_ 53) (fun oO=>(yz 2 K0 (ds.c 4) rfl (gv_of oO))) ?_
     refine sgq 56 rfl rfl (uF_ 53) (fun qD=>(yv rfl (aM.g 1 1))) ?_
     refine sgq 57 rfl rfl (uF_ 53) (fun oP=>(Y_conv (k:=.i64) (a:=q1) (T:=3) (T':=103) K41 K43 rfl (gv_of oP))) ?_
     obtain ⟨mv,d8⟩:=chk_inv d8
     refine sgq 58 rfl rfl (uF_ 53) (fun jm=>(Y_shl (k:=.i64) (a:=1) (k':=.u64) (b:=(IntKind.u64.wrap q1)) rfl rfl (gv_of jm) (mv jm))) ?_
     refine sgq 59 rfl rfl (uF_ 53) (fun jn=>(Y_ne rfl (gv_of jn) (gv_of jn))) ?_
     refine sQ 60 yO (rn ?_)
     refine cw_cond rfl (fun hP=>?_) (fun hP=>?_)
     ·skip
      have eK:=ct d8 hP
      refine cq (cr ?_)
      refine sQ 61 (yv rfl (aM.g 0 0))<|sQ 62 (yv rfl (aM.g 1 1)) ?_
      obtain ⟨iP,mw,eK⟩:=bI eK
      refine sc 63 rfl rfl (yc K57 (Bx (Aq.mk (Ae.mk bR au aj) bN) 1 q1 0 (aD D) cF d2 au.length bZ d3 aj.length cG cH bN.length _ rfl rfl rfl (ds.inn [false,false,true,true,false] rfl [(true,1),(true,0)] rfl) mw)) ?_
      rintro _ qg ⟨mx,my,mz,mA,mB,mC,rfl,mD⟩
      have jY:=ds.out [false,false,true,true,false] rfl mD
      refine rn (cq (cr ?_))
      refine sQ 64 (yv rfl (aM.g 0 0))<|sQ 65 (yv rfl (aM.g 1 1))<|sQ 66 (yv rfl (aM.g 1 1))<|sQ 67 zP ?_
      obtain ⟨⟨bS,aQ,aJ,cb⟩,mE,eK⟩:=bI eK
      refine sc 68 rfl rfl (Yc_func (g:=89) (vs:=[pt (aD D) 0,.bool false,vi q1,vi (i64.wrap (q1+1))]) (R:=fun v w'=>∃ (dt:Option Addr) (du:Nat) (ch:Option Addr) (dv:Nat) (dw:Option Addr) (dx:Nat),v=.tuple #[]∧ST O [] w' [O0,O1,⟨aD D,98,[vi bS,.slice dt aQ.length du,.slice ch aJ.length dv,.slice dw cb.length dx],4⟩,⟨dt,64,(aQ.flatMap eN0),du*3⟩,⟨ch,64,(aJ.flatMap eN0),dv*3⟩,⟨dw,57,(cb.flatMap eN1),dx*3⟩] [aV,aU,aw,av,ai,ah,J,H,u,o]) MR rfl (mc rfl (mc rfl (mc rfl (mc rfl mn)))) ?cv) ?_
      case cv =>
       show CV Tryz.prog 89 #[pt (aD D) 0,.bool false,vi q1,vi (i64.wrap (q1+1))] _ _
       refine cv_of_cw 39 Tryz.func89 rfl Tryz.ntmps89 rfl ?_
       refine cq (cr ?_)
       refine sQ 9 yv<|sQ 8 yu (rn ?_)
       obtain ⟨oQ,mF,mG⟩:=bI mE
       refine cw_block ?_
       refine cw_loop (fun k f w=>∃ (bb:Int) (aB:List Aa) (ak:List Aa) (bB:List Ab) (s9:Int) (cM:Option Addr) (cN:Nat) (b3:Option Addr) (cO:Nat) (cP:Option Addr) (cQ:Nat),FF f [(0,pt (aD D) 0),(1,.bool false),(2,vi q1),(8,vi s9)]∧ST O [] w [⟨aD D,98,[vi bb,.slice cM aB.length cN,.slice b3 ak.length cO,.slice cP bB.length cQ],4⟩,⟨cM,64,(aB.flatMap eN0),cN*3⟩,⟨b3,64,(ak.flatMap eN0),cO*3⟩,⟨cP,57,(bB.flatMap eN1),cQ*3⟩,O0,O1] [aV,aU,aw,av,ai,ah,J,H,u,o]∧whX (Dq q1) k (bb,aB,ak,bB,s9)=some oQ) fuel ⟨iP.t.Qubits,iP.t.XImages,iP.t.ZImages,iP.out,(i64.wrap (q1+1)),mx,my,mz,mA,mB,mC,(fc rfl (fc rfl (fc rfl (fc rfl fn_)))),(jY.sel [3,4,5,6,0,1] rfl rfl),mF⟩ ?_
       rintro qh f w ⟨bb,aB,ak,bB,s9,cM,cN,b3,cO,cP,cQ,a5,fa,mH⟩
       obtain ⟨K116,qE,rfl,hQ,jo⟩:=whX_go mH
       unfold Dq at hQ
       refine cq (cq (cr ?_))
       refine sQ 10 (yv rfl (a5.g 8 3))<|sQ 11 (yv rfl (a5.g 0 0))<|sQ 12 (Y_nilCheck (B:=aD D) (i:=0) rfl rfl)<|sQ 13 (yd (aD D) 0 2 K50 K3)<|sQ 14 (yd (aD D) 0 0 K22 K1)<|sQ 15 (yz 0 K0 (fa.c 0)) ?_
       refine sQ 16 zL (rn ?_)
       refine cw_cond rfl (fun hR=>?_) (fun hR=>?_)
       ·skip
        have mI:=ct hQ hR
        refine cw_skip (cq ?_)
        obtain ⟨oR,mJ,mK⟩:=bI mI
        refine cw_mid (fun f w=>∃ (bT:Int) (be:List Aa) (bf:List Aa) (dy:List Ab) (f1:Option Addr) (f2:Nat) (f3:Option Addr) (f4:Nat) (f5:Option Addr) (f6:Nat),(bT,be,bf,dy)=oR∧FF f [(0,pt (aD D) 0),(1,.bool false),(2,vi q1),(8,vi s9)]∧ST O [] w [⟨aD D,98,[vi bT,.slice f1 be.length f2,.slice f3 bf.length f4,.slice f5 dy.length f6],4⟩,⟨f1,64,(be.flatMap eN0),f2*3⟩,⟨f3,64,(bf.flatMap eN0),f4*3⟩,⟨f5,57,(dy.flatMap eN1),f6*3⟩,O0,O1] [aV,aU,aw,av,ai,ah,J,H,u,o]) ?_ ?_
        ·skip
         refine cw_block (cq ?_)
         obtain ⟨oS,eb,cm⟩:=bI mJ
         refine cw_mid (fun f w=>∃ (bc:Int) (aE:List Aa) (al:List Aa) (bC:List Ab) (dz:Option Addr) (dA:Nat) (ci:Option Addr) (dC:Nat) (dD:Option Addr) (dE:Nat),(bc,aE,al,bC)=oS∧FF f [(0,pt (aD D) 0),(1,.bool false),(2,vi q1),(8,vi s9)]∧ST O [] w [⟨aD D,98,[vi bc,.slice dz aE.length dA,.slice ci al.length dC,.slice dD bC.length dE],4⟩,⟨dz,64,(aE.flatMap eN0),dA*3⟩,⟨ci,64,(al.flatMap eN0),dC*3⟩,⟨dD,57,(bC.flatMap eN1),dE*3⟩,O0,O1] [aV,aU,aw,av,ai,ah,J,H,u,o]) ?_ ?_
         ·skip
          refine cq (cr ?_)
          refine sQ 19 (yv rfl (a5.g 0 0))<|sQ 20 (yv rfl (a5.g 1 1))<|sQ 21 (yv rfl (a5.g 2 2)) ?_
          obtain ⟨⟨mL,mM,mN⟩,hT,eb⟩:=bI eb
          let oT:Ob:=⟨aD D,98,[vi bb,.slice cM aB.length cN,.slice b3 ak.length cO,.slice cP bB.length cQ],4⟩
          let mO:List Ob:=[O0,O1,oT,⟨cM,64,(aB.flatMap eN0),cN*3⟩,⟨b3,64,(ak.flatMap eN0),cO*3⟩,⟨cP,57,(bB.flatMap eN1),cQ*3⟩]
          refine sc 22 rfl rfl (Yc_func (g:=117) (vs:=[pt (aD D) 0,.bool false,vi q1]) (R:=fun v w'=>v=.agg #[vi mL,vi mM,vi mN]∧ST O [] w' mO [aV,aU,aw,av,ai,ah,J,H,u,o]) K93 rfl (mc rfl (mc rfl (mc rfl mn))) ?cv) ?_
          case cv =>
           show CV Tryz.prog 117 #[pt (aD D) 0,.bool false,vi q1] _ _
           refine cv_of_cw 24 Tryz.func117 rfl Tryz.ntmps117 rfl ?_
           refine cq (cr ?_)
           refine sS 6 (yN [vi 0,vi 0,vi 0] 3 fa K14) ?_
           rintro _ oU ⟨qF,rfl,et⟩
           refine rn (cq (cq (cr ?_)))
           refine sQ 7 yv (rn ?_)
           refine cw_cond rfl (fun h=>by cases h) (fun _=>?_)
           refine cw_skip (cq (cr ?_))
           refine sQ 16 yv<|sQ 17 (Y_nilCheck (B:=aD D) (i:=0) rfl rfl)<|sQ 18 (yd (aD D) 0 2 K50 K3)<|sQ 19 (yd (aD D) 0 0 K20 K4)<|sQ 20 (yz 2 K7 (et.c 0))<|sQ 21 yv ?_
           obtain ⟨iQ,f7,hT⟩:=bI hT
           refine sQ 22 (yI b3 q1 K5 K2 (gi_isSome eN2 rfl (et.c 2) f7) (getI_nn f7) (getI_ltI f7 rfl))<|sQ 23 (ya b3 (q1.toNat*3) (ak.flatMap eN0) [vi iQ.Phase,vi iQ.X,vi iQ.Z] K6 K2 (et.c 2) rfl rfl (eN2 iQ) (gi_seg eN2 f7)) ?_
           refine s0 (yK 6 3 0 et K2) ?_
           rintro _ oV ⟨rfl,hU⟩
           refine rn (ct_ ?_)
           obtain ⟨rfl,rfl,rfl⟩:=pr3 (sI hT)
           exact ret1 Tryz.results117 (rX K6 K2 (hU.c 6)) ⟨rfl,(hU.sel [4,5,0,1,2,3] rfl rfl)⟩
          rintro _ oW ⟨rfl,f8⟩
          have f8:ST O [] _ mO [aV,aU,aw,av,ai,ah,J,H,u,o]:=f8
          refine sQ 23 (yv rfl (a5.g 8 3)) ?_
          obtain ⟨qi,mP,eb⟩:=bI eb
          refine sc 24 rfl rfl (yc K65 (Cf (Aa.mk mL mM mN) s9 _  (f8.inn0 [] rfl) mP)) ?_
          rintro _ oX ⟨rfl,mQ⟩
          have fb:=f8.out00 mQ
          refine sQ 25 zE (rn ?_)
          refine cw_cond rfl (fun hV=>?_) (fun hV=>?_)
          ·skip
           have fd:=ct eb hV
           refine cr ?_
           refine sQ 26 (yv rfl (a5.g 0 0))<|sQ 27 (yv rfl (a5.g 8 3)) ?_
           obtain ⟨iR,mS,fd⟩:=bI fd
           refine sc 28 rfl rfl (yc K57 (Bx (Aq.mk (Ae.mk bb aB ak) bB) 1 s9 0 (aD D) cM cN aB.length b3 cO ak.length cP cQ bB.length _ rfl rfl rfl (fb.inn [false,false,true,false,false,true] rfl [(false,2),(false,3)] rfl) mS)) ?_
           rintro _ oY ⟨mT,mU,mV,mW,mX,mY,rfl,mZ⟩
           have jZ:=fb.out [false,false,true,false,false,true] rfl mZ
           refine rn ?_
           exact ⟨iR.t.Qubits,iR.t.XImages,iR.t.ZImages,iR.out,mT,mU,mV,mW,mX,mY,(sI fd),(a5.a 0 0 (a5.a 1 1 (a5.a 2 2 (a5.a 8 3 fn_)))),(jZ.sel [4,5,6,7,0,1] rfl rfl)⟩
          ·skip
           have j0:=cf' eb hV
           refine cw_skip ?_
           exact ⟨bb,aB,ak,bB,cM,cN,b3,cO,cP,cQ,(sI j0),(a5.a 0 0 (a5.a 1 1 (a5.a 2 2 (a5.a 8 3 fn_)))),(fb.sel [2,3,4,5,0,1] rfl rfl)⟩
         rintro f w ⟨bc,aE,al,bC,dz,dA,ci,dC,dD,dE,rfl,bn,j1⟩
         refine cq (cr ?_)
         refine sQ 29 (yv rfl (bn.g 0 0))<|sQ 30 (yv rfl (bn.g 1 1))<|sQ 31 (yv rfl (bn.g 2 2)) ?_
         obtain ⟨⟨m0,m1,m2⟩,hW,cm⟩:=bI cm
         let oZ:Ob:=⟨aD D,98,[vi bc,.slice dz aE.length dA,.slice ci al.length dC,.slice dD bC.length dE],4⟩
         let m3:List Ob:=[O0,O1,oZ,⟨dz,64,(aE.flatMap eN0),dA*3⟩,⟨ci,64,(al.flatMap eN0),dC*3⟩,⟨dD,57,(bC.flatMap eN1),dE*3⟩]
         refine sc 32 rfl rfl (Yc_func (g:=117) (vs:=[pt (aD D) 0,.bool false,vi q1]) (R:=fun v w'=>v=.agg #[vi m0,vi m1,vi m2]∧ST O [] w' m3 [aV,aU,aw,av,ai,ah,J,H,u,o]) K93 rfl (mc rfl (mc rfl (mc rfl mn))) ?cv) ?_
         case cv =>
          show CV Tryz.prog 117 #[pt (aD D) 0,.bool false,vi q1] _ _
          refine cv_of_cw 24 Tryz.func117 rfl Tryz.ntmps117 rfl ?_
          refine cq (cr ?_)
          refine sS 6 (yN [vi 0,vi 0,vi 0] 3 j1 K14) ?_
          rintro _ o0 ⟨qG,rfl,eu⟩
          refine rn (cq (cq (cr ?_)))
          refine sQ 7 yv (rn ?_)
          refine cw_cond rfl (fun h=>by cases h) (fun _=>?_)
          refine cw_skip (cq (cr ?_))
          refine sQ 16 yv<|sQ 17 (Y_nilCheck (B:=aD D) (i:=0) rfl rfl)<|sQ 18 (yd (aD D) 0 2 K50 K3)<|sQ 19 (yd (aD D) 0 0 K20 K4)<|sQ 20 (yz 2 K7 (eu.c 0))<|sQ 21 yv ?_
          obtain ⟨iS,f9,hW⟩:=bI hW
          refine sQ 22 (yI ci q1 K5 K2 (gi_isSome eN2 rfl (eu.c 2) f9) (getI_nn f9) (getI_ltI f9 rfl))<|sQ 23 (ya ci (q1.toNat*3) (al.flatMap eN0) [vi iS.Phase,vi iS.X,vi iS.Z] K6 K2 (eu.c 2) rfl rfl (eN2 iS) (gi_seg eN2 f9)) ?_
          refine s0 (yK 6 3 0 eu K2) ?_
          rintro _ o1 ⟨rfl,hX⟩
          refine rn (ct_ ?_)
          obtain ⟨rfl,rfl,rfl⟩:=pr3 (sI hW)
          exact ret1 Tryz.results117 (rX K6 K2 (hX.c 6)) ⟨rfl,(hX.sel [4,5,0,1,2,3] rfl rfl)⟩
         rintro _ o2 ⟨rfl,ga⟩
         have ga:ST O [] _ m3 [aV,aU,aw,av,ai,ah,J,H,u,o]:=ga
         refine sQ 33 (yv rfl (bn.g 8 3)) ?_
         obtain ⟨qj,m4,cm⟩:=bI cm
         refine sc 34 rfl rfl (yc K65 (Cf (Aa.mk m0 m1 m2) s9 _  (ga.inn0 [] rfl) m4)) ?_
         rintro _ o3 ⟨rfl,m5⟩
         have fe:=ga.out00 m5
         refine sQ 35 zE (rn ?_)
         refine cw_cond rfl (fun hY=>?_) (fun hY=>?_)
         ·skip
          have ff:=ct cm hY
          refine cr ?_
          refine sQ 36 (yv rfl (bn.g 0 0))<|sQ 37 (yv rfl (bn.g 8 3)) ?_
          obtain ⟨iU,m6,ff⟩:=bI ff
          refine sc 38 rfl rfl (yc K57 (Bx (Aq.mk (Ae.mk bc aE al) bC) 5 s9 0 (aD D) dz dA aE.length ci dC al.length dD dE bC.length _ rfl rfl rfl (fe.inn [false,false,true,false,false,true] rfl [(false,2),(false,3)] rfl) m6)) ?_
          rintro _ o4 ⟨m7,m8,m9,nb,nc,nd,rfl,nf⟩
          have j2:=fe.out [false,false,true,false,false,true] rfl nf
          refine rn ?_
          exact ⟨iU.t.Qubits,iU.t.XImages,iU.t.ZImages,iU.out,m7,m8,m9,nb,nc,nd,(sI ff),(bn.a 0 0 (bn.a 1 1 (bn.a 2 2 (bn.a 8 3 fn_)))),(j2.sel [4,5,6,7,0,1] rfl rfl)⟩
         ·skip
          have j3:=cf' cm hY
          refine cw_skip ?_
          exact ⟨bc,aE,al,bC,dz,dA,ci,dC,dD,dE,(sI j3),(bn.a 0 0 (bn.a 1 1 (bn.a 2 2 (bn.a 8 3 fn_)))),(fe.sel [2,3,4,5,0,1] rfl rfl)⟩
        rintro f w ⟨bT,be,bf,dy,f1,f2,f3,f4,f5,f6,rfl,gc,j4⟩
        refine cr ?_
        refine sQ 17 (yv rfl (gc.g 8 3))<|sQ 18 zP<|sQ 8 yu (rn ?_)
        obtain rfl:=sI mK
        exact ⟨K116,Nat.lt_succ_self _,bT,be,bf,dy,(i64.wrap (s9+1)),f1,f2,f3,f4,f5,f6,(gc.a 0 0 (gc.a 1 1 (gc.a 2 2 (fc rfl fn_)))),(j4.sel [0,1,2,3,4,5] rfl rfl),jo⟩
       ·skip
        have j5:=cf' hQ hR
        refine cw_exit rfl ?_
        obtain rfl:=sI j5
        obtain rfl:=sI jo
        obtain ⟨rfl,rfl,rfl,rfl⟩:=pr4 (sI mG)
        exact ret0 Tryz.results89  ⟨cM,cN,b3,cO,cP,cQ,rfl,(fa.sel [4,5,0,1,2,3] rfl rfl)⟩
      rintro _ o5 ⟨dt,du,ch,dv,dw,dx,rfl,dF⟩
      let o6:Ob:=⟨aD D,98,[vi bS,.slice dt aQ.length du,.slice ch aJ.length dv,.slice dw cb.length dx],4⟩
      let ng:List Ob:=[O0,O1,o6,⟨dt,64,(aQ.flatMap eN0),du*3⟩,⟨ch,64,(aJ.flatMap eN0),dv*3⟩,⟨dw,57,(cb.flatMap eN1),dx*3⟩]
      have dF:ST O [] _ ng [aV,aU,aw,av,ai,ah,J,H,u,o]:=dF
      refine rn (cq ?_)
      obtain ⟨o7,ec,dH⟩:=bI eK
      refine cw_mid (fun f w=>∃ (bU:Int) (bg:List Aa) (bh:List Aa) (dI:List Ab) (gf:Option Addr) (gg:Nat) (gh:Option Addr) (gi:Nat) (gj:Option Addr) (gk:Nat),(bU,bg,bh,dI)=o7∧FF f [(0,pt (aD D) 0),(1,vi q1)]∧ST O [] w [⟨aD D,98,[vi bU,.slice gf bg.length gg,.slice gh bh.length gi,.slice gj dI.length gk],4⟩,⟨gf,64,(bg.flatMap eN0),gg*3⟩,⟨gh,64,(bh.flatMap eN0),gi*3⟩,⟨gj,57,(dI.flatMap eN1),gk*3⟩,O0,O1] [aV,aU,aw,av,ai,ah,J,H,u,o]) ?_ ?_
      ·skip
       refine cq (cr ?_)
       refine sQ 69 (yv rfl (aM.g 0 0))<|sQ 70 (Y_nilCheck (B:=aD D) (i:=0) rfl rfl)<|sQ 71 (yd (aD D) 0 2 K50 K3)<|sQ 72 (yd (aD D) 0 0 K20 K4)<|sQ 73 (yz 2 K7 (dF.cf (i:=2) rfl))<|sQ 74 (yv rfl (aM.g 1 1)) ?_
       obtain ⟨hZ,gl,ec⟩:=bI ec
       refine sQ 75 (yI ch q1 K5 K2 (gi_isSome eN2 rfl (dF.cf (i:=4) rfl) gl) (getI_nn gl) (getI_ltI gl rfl))<|sQ 76 (ya ch (q1.toNat*3) (aJ.flatMap eN0) [vi hZ.Phase,vi hZ.X,vi hZ.Z] K6 K2 (dF.cf (i:=4) rfl) rfl rfl (eN2 hZ) (gi_seg eN2 gl))<|sQ 77 (yv rfl (aM.g 1 1)) ?_
       obtain ⟨qk,nh,ec⟩:=bI ec
       refine sc 78 rfl rfl (yc K65 (Cf hZ q1 _  (dF.inn0 [] rfl) nh)) ?_
       rintro _ o8 ⟨rfl,ni⟩
       have dJ:=dF.out00 ni
       have dJ:ST O [] _ ng [aV,aU,aw,av,ai,ah,J,H,u,o]:=dJ
       refine sQ 79 zE (rn ?_)
       refine cw_cond rfl (fun h0=>?_) (fun h0=>?_)
       ·skip
        have fg:=ct ec h0
        refine cr ?_
        refine sQ 80 (yv rfl (aM.g 0 0))<|sQ 81 (yv rfl (aM.g 1 1)) ?_
        obtain ⟨iV,nj,fg⟩:=bI fg
        refine sc 82 rfl rfl (yc K57 (Bx (Aq.mk (Ae.mk bS aQ aJ) cb) 5 q1 0 (aD D) dt du aQ.length ch dv aJ.length dw dx cb.length _ rfl rfl rfl (dJ.inn [false,false,true,false,false,true] rfl [(false,2),(false,3)] rfl) nj)) ?_
        rintro _ o9 ⟨nk,nl,nm,np,nq,nr,rfl,ns⟩
        have j6:=dJ.out [false,false,true,false,false,true] rfl ns
        refine rn ?_
        exact ⟨iV.t.Qubits,iV.t.XImages,iV.t.ZImages,iV.out,nk,nl,nm,np,nq,nr,(sI fg),(aM.a 0 0 (aM.a 1 1 fn_)),(j6.sel [4,5,6,7,0,1] rfl rfl)⟩
       ·skip
        have j7:=cf' ec h0
        refine cw_skip ?_
        exact ⟨bS,aQ,aJ,cb,dt,du,ch,dv,dw,dx,(sI j7),(aM.a 0 0 (aM.a 1 1 fn_)),(dJ.sel [2,3,4,5,0,1] rfl rfl)⟩
      rintro f w ⟨bU,bg,bh,dI,gf,gg,gh,gi,gj,gk,rfl,ed,j8⟩
      refine cq (cr ?_)
      refine sQ 83 (yv rfl (ed.g 0 0))<|sQ 84 (yv rfl (ed.g 1 1)) ?_
      obtain ⟨⟨cn,aY,a0,co⟩,nu,dH⟩:=bI dH
      refine sc 85 rfl rfl (Yc_func (g:=92) (vs:=[pt (aD D) 0,.bool false,vi q1]) (R:=fun v w'=>∃ (ee:Option Addr) (ef:Nat) (eg:Option Addr) (eh:Nat) (ei:Option Addr) (ej:Nat),v=.tuple #[]∧ST O [] w' [O0,O1,⟨aD D,98,[vi cn,.slice ee aY.length ef,.slice eg a0.length eh,.slice ei co.length ej],4⟩,⟨ee,64,(aY.flatMap eN0),ef*3⟩,⟨eg,64,(a0.flatMap eN0),eh*3⟩,⟨ei,57,(co.flatMap eN1),ej*3⟩] [aV,aU,aw,av,ai,ah,J,H,u,o]) L6 rfl (mc rfl (mc rfl (mc rfl mn))) ?cv) ?_
      case cv =>
       show CV Tryz.prog 92 #[pt (aD D) 0,.bool false,vi q1] _ _
       refine cv_of_cw 29 Tryz.func92 rfl Tryz.ntmps92 rfl ?_
       refine cq (cr ?_)
       refine sQ 7 yv<|sQ 8 zP<|sQ 6 yu (rn ?_)
       obtain ⟨pa,nv,j9⟩:=bI nu
       refine cw_block ?_
       refine cw_loop (fun k f w=>∃ (bd:Int) (aF:List Aa) (am:List Aa) (bD:List Ab) (fh:Int) (cR:Option Addr) (cS:Nat) (b5:Option Addr) (cT:Nat) (cU:Option Addr) (cV:Nat),FF f [(0,pt (aD D) 0),(1,.bool false),(2,vi q1),(6,vi fh)]∧ST O [] w [⟨aD D,98,[vi bd,.slice cR aF.length cS,.slice b5 am.length cT,.slice cU bD.length cV],4⟩,⟨cR,64,(aF.flatMap eN0),cS*3⟩,⟨b5,64,(am.flatMap eN0),cT*3⟩,⟨cU,57,(bD.flatMap eN1),cV*3⟩,O0,O1] [aV,aU,aw,av,ai,ah,J,H,u,o]∧whX (DG q1) k (bd,aF,am,bD,fh)=some pa) fuel ⟨bU,bg,bh,dI,(i64.wrap (q1+1)),gf,gg,gh,gi,gj,gk,(fc rfl (fc rfl (fc rfl (fc rfl fn_)))),(j8.sel [0,1,2,3,4,5] rfl rfl),nv⟩ ?_
       rintro ql f w ⟨bd,aF,am,bD,fh,cR,cS,b5,cT,cU,cV,a2,fi,nw⟩
       obtain ⟨ny,qH,rfl,h1,jp⟩:=whX_go nw
       unfold DG at h1
       refine cq (cq (cr ?_))
       refine sQ 9 (yv rfl (a2.g 6 3))<|sQ 10 (yv rfl (a2.g 0 0))<|sQ 11 (Y_nilCheck (B:=aD D) (i:=0) rfl rfl)<|sQ 12 (yd (aD D) 0 2 K50 K3)<|sQ 13 (yd (aD D) 0 0 K22 K1)<|sQ 14 (yz 0 K0 (fi.c 0)) ?_
       refine sQ 15 zL (rn ?_)
       refine cw_cond rfl (fun h2=>?_) (fun h2=>?_)
       ·skip
        have ka:=ct h1 h2
        refine cw_skip (cq ?_)
        obtain ⟨pb,ek,kb⟩:=bI ka
        refine cw_mid (fun f w=>∃ (bV:Int) (bj:List Aa) (bk:List Aa) (dK:List Ab) (gm:Option Addr) (gn:Nat) (gp:Option Addr) (gq:Nat) (gr:Option Addr) (gs:Nat),(bV,bj,bk,dK)=pb∧FF f [(0,pt (aD D) 0),(1,.bool false),(2,vi q1),(6,vi fh)]∧ST O [] w [⟨aD D,98,[vi bV,.slice gm bj.length gn,.slice gp bk.length gq,.slice gr dK.length gs],4⟩,⟨gm,64,(bj.flatMap eN0),gn*3⟩,⟨gp,64,(bk.flatMap eN0),gq*3⟩,⟨gr,57,(dK.flatMap eN1),gs*3⟩,O0,O1] [aV,aU,aw,av,ai,ah,J,H,u,o]) ?_ ?_
        ·skip
         refine cw_block (cq (cr ?_))
         refine sQ 18 (yv rfl (a2.g 0 0))<|sQ 19 (yv rfl (a2.g 1 1))<|sQ 20 (yv rfl (a2.g 2 2)) ?_
         obtain ⟨⟨nz,nA,nB⟩,h3,ek⟩:=bI ek
         let pd:Ob:=⟨aD D,98,[vi bd,.slice cR aF.length cS,.slice b5 am.length cT,.slice cU bD.length cV],4⟩
         let nC:List Ob:=[O0,O1,pd,⟨cR,64,(aF.flatMap eN0),cS*3⟩,⟨b5,64,(am.flatMap eN0),cT*3⟩,⟨cU,57,(bD.flatMap eN1),cV*3⟩]
         refine sc 21 rfl rfl (Yc_func (g:=117) (vs:=[pt (aD D) 0,.bool false,vi q1]) (R:=fun v w'=>v=.agg #[vi nz,vi nA,vi nB]∧ST O [] w' nC [aV,aU,aw,av,ai,ah,J,H,u,o]) K93 rfl (mc rfl (mc rfl (mc rfl mn))) ?cv) ?_
         case cv =>
          show CV Tryz.prog 117 #[pt (aD D) 0,.bool false,vi q1] _ _
          refine cv_of_cw 24 Tryz.func117 rfl Tryz.ntmps117 rfl ?_
          refine cq (cr ?_)
          refine sS 6 (yN [vi 0,vi 0,vi 0] 3 fi K14) ?_
          rintro _ pe ⟨qI,rfl,ew⟩
          refine rn (cq (cq (cr ?_)))
          refine sQ 7 yv (rn ?_)
          refine cw_cond rfl (fun h=>by cases h) (fun _=>?_)
          refine cw_skip (cq (cr ?_))
          refine sQ 16 yv<|sQ 17 (Y_nilCheck (B:=aD D) (i:=0) rfl rfl)<|sQ 18 (yd (aD D) 0 2 K50 K3)<|sQ 19 (yd (aD D) 0 0 K20 K4)<|sQ 20 (yz 2 K7 (ew.c 0))<|sQ 21 yv ?_
          obtain ⟨iW,gu,h3⟩:=bI h3
          refine sQ 22 (yI b5 q1 K5 K2 (gi_isSome eN2 rfl (ew.c 2) gu) (getI_nn gu) (getI_ltI gu rfl))<|sQ 23 (ya b5 (q1.toNat*3) (am.flatMap eN0) [vi iW.Phase,vi iW.X,vi iW.Z] K6 K2 (ew.c 2) rfl rfl (eN2 iW) (gi_seg eN2 gu)) ?_
          refine s0 (yK 6 3 0 ew K2) ?_
          rintro _ pf ⟨rfl,h4⟩
          refine rn (ct_ ?_)
          obtain ⟨rfl,rfl,rfl⟩:=pr3 (sI h3)
          exact ret1 Tryz.results117 (rX K6 K2 (h4.c 6)) ⟨rfl,(h4.sel [4,5,0,1,2,3] rfl rfl)⟩
         rintro _ pg ⟨rfl,gw⟩
         have gw:ST O [] _ nC [aV,aU,aw,av,ai,ah,J,H,u,o]:=gw
         refine sQ 22 (yv rfl (a2.g 6 3)) ?_
         obtain ⟨qm,nD,ek⟩:=bI ek
         refine sc 23 rfl rfl (yc K65 (Cf (Aa.mk nz nA nB) fh _  (gw.inn0 [] rfl) nD)) ?_
         rintro _ ph ⟨rfl,nE⟩
         have fj:=gw.out00 nE
         refine sQ 24 zE (rn ?_)
         refine cw_cond rfl (fun h5=>?_) (fun h5=>?_)
         ·skip
          have fk:=ct ek h5
          refine cr ?_
          refine sQ 25 (yv rfl (a2.g 0 0))<|sQ 26 (yv rfl (a2.g 2 2))<|sQ 27 (yv rfl (a2.g 6 3)) ?_
          obtain ⟨iX,nF,fk⟩:=bI fk
          refine sc 28 rfl rfl (yc K57 (Bx (Aq.mk (Ae.mk bd aF am) bD) 9 q1 fh (aD D) cR cS aF.length b5 cT am.length cU cV bD.length _ rfl rfl rfl (fj.inn [false,false,true,false,false,true] rfl [(false,2),(false,3)] rfl) nF)) ?_
          rintro _ pi ⟨nG,nI,nJ,nK,nL,nM,rfl,nN⟩
          have kc:=fj.out [false,false,true,false,false,true] rfl nN
          refine rn ?_
          exact ⟨iX.t.Qubits,iX.t.XImages,iX.t.ZImages,iX.out,nG,nI,nJ,nK,nL,nM,(sI fk),(a2.a 0 0 (a2.a 1 1 (a2.a 2 2 (a2.a 6 3 fn_)))),(kc.sel [4,5,6,7,0,1] rfl rfl)⟩
         ·skip
          have kd:=cf' ek h5
          refine cw_skip ?_
          exact ⟨bd,aF,am,bD,cR,cS,b5,cT,cU,cV,(sI kd),(a2.a 0 0 (a2.a 1 1 (a2.a 2 2 (a2.a 6 3 fn_)))),(fj.sel [2,3,4,5,0,1] rfl rfl)⟩
        rintro f w ⟨bV,bj,bk,dK,gm,gn,gp,gq,gr,gs,rfl,gx,ke⟩
        refine cr ?_
        refine sQ 16 (yv rfl (gx.g 6 3))<|sQ 17 zP<|sQ 6 yu (rn ?_)
        obtain rfl:=sI kb
        exact ⟨ny,Nat.lt_succ_self _,bV,bj,bk,dK,(i64.wrap (fh+1)),gm,gn,gp,gq,gr,gs,(gx.a 0 0 (gx.a 1 1 (gx.a 2 2 (fc rfl fn_)))),(ke.sel [0,1,2,3,4,5] rfl rfl),jp⟩
       ·skip
        have kf:=cf' h1 h2
        refine cw_exit rfl ?_
        obtain rfl:=sI kf
        obtain rfl:=sI jp
        obtain ⟨rfl,rfl,rfl,rfl⟩:=pr4 (sI j9)
        exact ret0 Tryz.results92  ⟨cR,cS,b5,cT,cU,cV,rfl,(fi.sel [4,5,0,1,2,3] rfl rfl)⟩
      rintro _ pj ⟨ee,ef,eg,eh,ei,ej,rfl,gy⟩
      let kg:Ob:=⟨ee,64,(aY.flatMap eN0),ef*3⟩
      let kh:Ob:=⟨eg,64,(a0.flatMap eN0),eh*3⟩
      have gy:ST O [] _ [O0,O1,⟨aD D,98,[vi cn,.slice ee aY.length ef,.slice eg a0.length eh,.slice ei co.length ej],4⟩,kg,kh,⟨ei,57,(co.flatMap eN1),ej*3⟩] [aV,aU,aw,av,ai,ah,J,H,u,o]:=gy
      refine rn (cr ?_)
      refine sQ 86 (yv rfl (ed.g 0 0))<|sQ 87 (yv rfl (ed.g 1 1)) ?_
      obtain ⟨bK,nO,dH⟩:=bI dH
      refine sc 88 rfl rfl (yc K57 (Bx (Aq.mk (Ae.mk cn aY a0) co) 1 q1 0 (aD D) ee ef aY.length eg eh a0.length ei ej co.length _ rfl rfl rfl (gy.inn [false,false,true,false,false,true] rfl [(false,2),(false,3)] rfl) nO)) ?_
      rintro _ pk ⟨h6,h7,eL,gz,gA,gB,rfl,nP⟩
      have fm:=gy.out [false,false,true,false,false,true] rfl nP
      refine rn ?_
      let ki:Ro:=⟨h6,(bK.t.XImages.flatMap eN0)⟩
      have nQ:Org O [] [u,o] [ki]:=ST.orgOwn fm (i:=5) rfl
      have iY:bK.t.XImages.length≤h7:=(fm.lencap (i:=5) rfl (fm_lenn (l:=bK.t.XImages) eN2 rfl) rfl rfl)
      let nS:Ob:=⟨aD D,98,[vi bK.t.Qubits,.slice h6 bK.t.XImages.length h7,.slice eL bK.t.ZImages.length gz,.slice gA bK.out.length gB],4⟩
      have fo:ST O [] _ [O0,O1,kg,kh,nS,⟨eL,64,(bK.t.ZImages.flatMap eN0),gz*3⟩,⟨gA,57,(bK.out.flatMap eN1),gB*3⟩] [ki,aV,aU,aw,av,ai,ah,J,H,u,o]:=fm.freeze (i:=5) rfl
      have nT:Org O [] [u,o] [⟨eL,(bK.t.ZImages.flatMap eN0)⟩]:=ST.orgOwn fo (i:=5) rfl
      have iZ:bK.t.ZImages.length≤gz:=(fo.lencap (i:=5) rfl (fm_lenn (l:=bK.t.ZImages) eN2 rfl) rfl rfl)
      have kj:ST O [] _ [O0,O1,kg,kh,nS,⟨gA,57,(bK.out.flatMap eN1),gB*3⟩] [⟨eL,(bK.t.ZImages.flatMap eN0)⟩,ki,aV,aU,aw,av,ai,ah,J,H,u,o]:=fo.freeze (i:=5) rfl
      exact ⟨bK.t.Qubits,bK.t.XImages,bK.t.ZImages,bK.out,h6,h7,eL,gz,gA,gB,(sI dH),(ed.a 0 0 (ed.a 1 1 fn_)),nQ,(len_le rfl iY),nT,(len_le rfl iZ),(kj.sel [4,5,0,1] rfl rfl)⟩
     ·skip
      have kk:=cf' d8 hP
      refine cw_skip ?_
      have kl:ST O [] _ [O0,O1,O9,⟨cG,57,(bN.flatMap eN1),cH*3⟩,⟨aD jW,64,[vi e9.Phase,vi e9.X,vi e9.Z],3⟩] [aV,aU,aV,aU,aw,av,ai,ah,J,H,u,o]:=ds.sT [0,1,0,1,2,3,4,5,6,7,8,9]
      exact ⟨bR,au,aj,bN,cF,d2,bZ,d3,cG,cH,(sI kk),(aM.a 0 0 (aM.a 1 1 fn_)),mp,(len_le rfl mq),mr,(len_le rfl ms),(kl.sel [2,3,0,1] rfl rfl)⟩
    rintro f w ⟨ba,ae,af,bA,b0,d9,cL,ea,dq,dr,rfl,cW,nU,nV,nW,nX,cp⟩
    refine cq ?_
    obtain ⟨pl,gC,ex⟩:=bI mu
    let fp:Ro:=⟨b0,(ae.flatMap eN0)⟩
    let fq:Ro:=⟨cL,(af.flatMap eN0)⟩
    refine cw_mid (fun f w=>∃ (bu:Int) (U:List Aa) (V:List Aa) (bP:List Ab) (b6:Option Addr) (el:Nat) (bE:Option Addr) (em:Nat) (dL:Option Addr) (dM:Nat),(bu,U,V,bP)=pl∧FF f [(0,pt (aD D) 0),(1,vi q1)]∧Org O [] [u,o] [⟨b6,(U.flatMap eN0)⟩]∧U.length≤el∧Org O [] [u,o] [⟨bE,(V.flatMap eN0)⟩]∧V.length≤em∧ST O [] w [⟨aD D,98,[vi bu,.slice b6 U.length el,.slice bE V.length em,.slice dL bP.length dM],4⟩,⟨dL,57,(bP.flatMap eN1),dM*3⟩,O0,O1] [⟨bE,(V.flatMap eN0)⟩,⟨b6,(U.flatMap eN0)⟩,fq,fp,aV,aU,aw,av,ai,ah,J,H,u,o]) ?_ ?_
    ·skip
     refine cq (cr ?_)
     refine sQ 89 (yv rfl (cW.g 0 0))<|sQ 90 (Y_nilCheck (B:=aD D) (i:=0) rfl rfl)<|sQ 91 (yd (aD D) 0 2 K50 K3)<|sQ 92 (yd (aD D) 0 0 K18 K4)<|sQ 93 (yz 1 K7 (cp.c 0))<|sQ 94 (yv rfl (cW.g 1 1)) ?_
     obtain ⟨x32,gD,gC⟩:=bI gC
     refine sQ 95 (yI b0 q1 K5 K2 (gi_isSome eN2 rfl (cp.rf (i:=1) rfl) gD) (getI_nn gD) (getI_ltI gD rfl))<|sQ 96 (yd b0 (q1.toNat*3) 0 K30 K1)<|sQ 97 (yz (q1.toNat*3+0) K0 (cp.rf (i:=1) rfl) rfl rfl (gi_at eN2 gD rfl))<|sQ 98 zE (rn ?_)
     refine cw_cond rfl (fun h8=>?_) (fun h8=>?_)
     ·skip
      have fr:=ct gC h8
      refine cr ?_
      refine sQ 99 (yv rfl (cW.g 0 0))<|sQ 100 (yv rfl (cW.g 1 1)) ?_
      obtain ⟨bL,nY,fr⟩:=bI fr
      refine sc 101 rfl rfl (yc K57 (Bx (Aq.mk (Ae.mk ba ae af) bA) 4 q1 0 (aD D) b0 d9 ae.length cL ea af.length dq dr bA.length _ rfl rfl rfl (cp.inn [true,true,false,false] rfl [(true,1),(true,0)] rfl) nY)) ?_
      rintro _ pm ⟨h9,ia,eM,gE,gF,gG,rfl,nZ⟩
      have fs:=cp.out [true,true,false,false] rfl nZ
      refine rn ?_
      let km:Ro:=⟨h9,(bL.t.XImages.flatMap eN0)⟩
      have n0:Org O [] [u,o] [km]:=ST.orgOwn fs (i:=3) rfl
      have i0:bL.t.XImages.length≤ia:=(fs.lencap (i:=3) rfl (fm_lenn (l:=bL.t.XImages) eN2 rfl) rfl rfl)
      let n2:Ob:=⟨aD D,98,[vi bL.t.Qubits,.slice h9 bL.t.XImages.length ia,.slice eM bL.t.ZImages.length gE,.slice gF bL.out.length gG],4⟩
      have ft:ST O [] _ [O0,O1,n2,⟨eM,64,(bL.t.ZImages.flatMap eN0),gE*3⟩,⟨gF,57,(bL.out.flatMap eN1),gG*3⟩] [km,fq,fp,aV,aU,aw,av,ai,ah,J,H,u,o]:=fs.freeze (i:=3) rfl
      have n3:Org O [] [u,o] [⟨eM,(bL.t.ZImages.flatMap eN0)⟩]:=ST.orgOwn ft (i:=3) rfl
      have i1:bL.t.ZImages.length≤gE:=(ft.lencap (i:=3) rfl (fm_lenn (l:=bL.t.ZImages) eN2 rfl) rfl rfl)
      have kn:ST O [] _ [O0,O1,n2,⟨gF,57,(bL.out.flatMap eN1),gG*3⟩] [⟨eM,(bL.t.ZImages.flatMap eN0)⟩,km,fq,fp,aV,aU,aw,av,ai,ah,J,H,u,o]:=ft.freeze (i:=3) rfl
      exact ⟨bL.t.Qubits,bL.t.XImages,bL.t.ZImages,bL.out,h9,ia,eM,gE,gF,gG,(sI fr),(cW.a 0 0 (cW.a 1 1 fn_)),n0,(len_le rfl i0),n3,(len_le rfl i1),(kn.sel [2,3,0,1] rfl rfl)⟩
     ·skip
      have ko:=cf' gC h8
      refine cw_skip ?_
      have kp:ST O [] _ [⟨aD D,98,[vi ba,.slice b0 ae.length d9,.slice cL af.length ea,.slice dq bA.length dr],4⟩,⟨dq,57,(bA.flatMap eN1),dr*3⟩,O0,O1] [fq,fp,fq,fp,aV,aU,aw,av,ai,ah,J,H,u,o]:=cp.sT [0,1,0,1,2,3,4,5,6,7,8,9,10,11]
      exact ⟨ba,ae,af,bA,b0,d9,cL,ea,dq,dr,(sI ko),(cW.a 0 0 (cW.a 1 1 fn_)),nU,(len_le rfl nV),nW,(len_le rfl nX),(kp.sel [0,1,2,3] rfl rfl)⟩
    rintro f w ⟨bu,U,V,bP,b6,el,bE,em,dL,dM,rfl,gH,n4,n5,n6,n7,cu⟩
    refine cq (cr ?_)
    refine sQ 102 (yv rfl (gH.g 0 0))<|sQ 103 (Y_nilCheck (B:=aD D) (i:=0) rfl rfl)<|sQ 104 (yd (aD D) 0 2 K50 K3)<|sQ 105 (yd (aD D) 0 0 K20 K4)<|sQ 106 (yz 2 K7 (cu.c 0))<|sQ 107 (yv rfl (gH.g 1 1)) ?_
    obtain ⟨qJ,gJ,ex⟩:=bI ex
    refine sQ 108 (yI bE q1 K5 K2 (gi_isSome eN2 rfl (cu.rf (i:=0) rfl) gJ) (getI_nn gJ) (getI_ltI gJ rfl))<|sQ 109 (yd bE (q1.toNat*3) 0 K30 K1)<|sQ 110 (yz (q1.toNat*3+0) K0 (cu.rf (i:=0) rfl) rfl rfl (gi_at eN2 gJ rfl))<|sQ 111 zE (rn ?_)
    refine cw_cond rfl (fun ib=>?_) (fun ib=>?_)
    ·skip
     have fu:=ct ex ib
     refine cr ?_
     refine sQ 112 (yv rfl (gH.g 0 0))<|sQ 113 (yv rfl (gH.g 1 1)) ?_
     obtain ⟨cZ,n8,fu⟩:=bI fu
     refine sc 114 rfl rfl (yc K57 (Bx (Aq.mk (Ae.mk bu U V) bP) 2 q1 0 (aD D) b6 el U.length bE em V.length dL dM bP.length _ rfl rfl rfl (cu.inn [true,true,false,false] rfl [(true,1),(true,0)] rfl) n8)) ?_
     rintro _ pn ⟨ic,ie,gM,gN,ig,ih,rfl,n9⟩
     have fv:=cu.out [true,true,false,false] rfl n9
     refine rn ?_
     let i3:Ro:=⟨ic,(cZ.t.XImages.flatMap eN0)⟩
     have oa:Org O [] [u,o] [i3]:=ST.orgOwn fv (i:=3) rfl
     have i4:cZ.t.XImages.length≤ie:=(fv.lencap (i:=3) rfl (fm_lenn (l:=cZ.t.XImages) eN2 rfl) rfl rfl)
     let O7:Ob:=⟨aD D,98,[vi cZ.t.Qubits,.slice ic cZ.t.XImages.length ie,.slice gM cZ.t.ZImages.length gN,.slice ig cZ.out.length ih],4⟩
     let kq:Ob:=⟨ig,57,(cZ.out.flatMap eN1),ih*3⟩
     have fw:ST O [] _ [O0,O1,O7,⟨gM,64,(cZ.t.ZImages.flatMap eN0),gN*3⟩,kq] [i3,⟨bE,(V.flatMap eN0)⟩,⟨b6,(U.flatMap eN0)⟩,fq,fp,aV,aU,aw,av,ai,ah,J,H,u,o]:=fv.freeze (i:=3) rfl
     let kr:Ro:=⟨gM,(cZ.t.ZImages.flatMap eN0)⟩
     have ob:Org O [] [u,o] [kr]:=ST.orgOwn fw (i:=3) rfl
     have i5:cZ.t.ZImages.length≤gN:=(fw.lencap (i:=3) rfl (fm_lenn (l:=cZ.t.ZImages) eN2 rfl) rfl rfl)
     have ks:ST O [] _ [O0,O1,O7,kq] [kr,i3,⟨bE,(V.flatMap eN0)⟩,⟨b6,(U.flatMap eN0)⟩,fq,fp,aV,aU,aw,av,ai,ah,J,H,u,o]:=fw.freeze (i:=3) rfl
     have kt:ST O [] _ [O0,O1,O7,kq] [kr,i3,J,H,u,o]:=ks.sT [0,1,12,13,14,15]
     obtain ⟨rfl,rfl,rfl,rfl⟩:=pr4 (sI fu)
     exact ret0 Tryz.results61  ⟨ic,ie,gM,gN,ig,ih,rfl,oa,(len_le rfl i4),ob,(len_le rfl i5),(kt.sel [0,1,2,3] rfl rfl)⟩
    ·skip
     have ku:=cf' ex ib
     refine cw_skip ?_
     have kv:ST O [] _ [⟨aD D,98,[vi bu,.slice b6 U.length el,.slice bE V.length em,.slice dL bP.length dM],4⟩,⟨dL,57,(bP.flatMap eN1),dM*3⟩,O0,O1] [⟨bE,(V.flatMap eN0)⟩,⟨b6,(U.flatMap eN0)⟩,J,H,u,o]:=cu.sT [0,1,10,11,12,13]
     obtain ⟨rfl,rfl,rfl,rfl⟩:=pr4 (sI ku)
     exact ret0 Tryz.results61  ⟨b6,el,bE,em,dL,dM,rfl,n4,(len_le rfl n5),n6,(len_le rfl n7),(kv.sel [2,3,0,1] rfl rfl)⟩
  rintro _ qn ⟨B6,c6,B7,c7,B8,c8,rfl,pp,pq,pr,ps,ii⟩
  let oc:Ob:=⟨aD D,98,[vi c9,.slice B6 aR.length c6,.slice B7 aT.length c7,.slice B8 dP.length c8],4⟩
  have ii:ST O [] _ [O0,O1,oc,⟨B8,57,(dP.flatMap eN1),c8*3⟩] [⟨B7,(aT.flatMap eN0)⟩,⟨B6,(aR.flatMap eN0)⟩,J,H,u,o]:=ii
  refine rn (cr ?_)
  refine sQ 14 (yv rfl (hf.g 4 3))<|sQ 15 zP<|sQ 4 yu (rn ?_)
  obtain rfl:=sI ju
  have kw:ST O [] _ [O0,O1,oc,⟨B8,57,(dP.flatMap eN1),c8*3⟩] [⟨B7,(aT.flatMap eN0)⟩,⟨B6,(aR.flatMap eN0)⟩,u,o]:=ii.sT [0,1,4,5]
  exact ⟨K13,Nat.lt_succ_self _,c9,aR,aT,dP,(i64.wrap (q1+1)),B6,c6,B7,c7,B8,c8,(hf.a 1 0 (hf.a 2 1 (hf.a 3 2 (fc rfl fn_)))),pp,(len_le rfl pq),pr,(len_le rfl ps),(kw.sel [0,1,2,3] rfl rfl),kM⟩
 ·skip
  have kx:=cf' hb jt
  refine cw_exit rfl ?_
  obtain rfl:=sI kx
  obtain rfl:=sI kM
  refine cq (cr ?_)
  refine sQ 19 (yd (aD b) 0 0 K22 K1 rfl (hf.g 1 0))<|sQ 20 (yz 0 K0 (iA.c 0))<|sQ 21 (Y_buildS (zs:=[vi 0,.slice none 0 0]) (vs:=[(0,vi t.Qubits)]) (cs:=[vi t.Qubits,.slice none 0 0]) K72 K34 rfl (mpc rfl mpn) rfl) ?_
  refine sS 5 (yN [vi 0,.slice none 0 0] 2 iA K34) ?_
  rintro _ pu ⟨cw,rfl,ky⟩
  refine s0 (yK 4 2 0 ky K9) ?_
  rintro _ pv ⟨rfl,ij⟩
  refine rn (cq (cq (cr ?_)))
  refine sQ 22 (yv rfl (hf.g 3 2))<|sQ 23 (Y_nilCheck (B:=aD D) (i:=0) rfl rfl)<|sQ 24 (yd (aD D) 0 0 K83 K23)<|sQ 25 (yz 3 K29 (ij.c 2))<|sQ 26 (Y_len K15 rfl rfl)<|sQ 27 zM ?_
  refine sQ 6 yu (rn ?_)
  obtain ⟨pw,od,kz⟩:=bI ow
  have kA:=ij.addNil 57
  refine cw_block ?_
  let O2:Ob:=⟨aD D,98,[vi Qubits,.slice B3 XImages.length c3,.slice B4 ZImages.length c4,.slice B5 out.length c5],4⟩
  let i6:Ob:=⟨B5,57,(out.flatMap eN1),c5*3⟩
  refine cw_loop (fun k f w=>∃ (Gates:List Ab) (K31:Int) (cX:Option Addr) (cY:Nat),FF f [(2,pt (aD b1) 0),(3,pt (aD D) 0),(5,pt (aD cw) 0),(6,vi K31)]∧ST O [] w [O1,O2,i6,⟨aD cw,29,[vi t.Qubits,.slice cX Gates.length cY],2⟩,⟨cX,57,(Gates.flatMap eN1),cY*3⟩] [⟨B4,(ZImages.flatMap eN0)⟩,⟨B3,(XImages.flatMap eN0)⟩,u,o]∧whX (Ew out) k (Gates,K31)=some pw) fuel ⟨[],(i64.wrap ((out.length:Int)-1)),none,0,(hf.a 2 1 (hf.a 3 2 (fc rfl (fc rfl fn_)))),(kA.sel [1,2,3,4,5] rfl rfl),od⟩ ?_
  rintro qo f w ⟨Gates,K31,cX,cY,aI,ey,oe⟩
  obtain ⟨og,qK,rfl,ik,jq⟩:=whX_go oe
  unfold Ew at ik
  refine cq (cq (cr ?_))
  refine sQ 28 (yv rfl (aI.g 6 3))<|sQ 29 (Y_ge rfl rfl rfl) (rn ?_)
  refine cw_cond rfl (fun il=>?_) (fun il=>?_)
  ·skip
   have kB:=ct ik il
   refine cw_skip (cq ?_)
   obtain ⟨px,en,kC⟩:=bI kB
   refine cw_mid (fun f w=>∃ (cj:List Ab) (gO:Option Addr) (gP:Nat),cj=px∧FF f [(2,pt (aD b1) 0),(3,pt (aD D) 0),(5,pt (aD cw) 0),(6,vi K31)]∧ST O [] w [O1,O2,i6,⟨aD cw,29,[vi t.Qubits,.slice gO cj.length gP],2⟩,⟨gO,57,(cj.flatMap eN1),gP*3⟩] [⟨B4,(ZImages.flatMap eN0)⟩,⟨B3,(XImages.flatMap eN0)⟩,u,o]) ?_ ?_
   ·skip
    refine cw_block (cq ?_)
    obtain ⟨aG,a6,en⟩:=bI en
    obtain ⟨py,en⟩:=chk_inv en
    refine ra_start (ey.se [0,1,2]).fn (by kernel_rfl) ?_
    have im:=ey.drew
    have eN:=im.se [0,1,2]
    refine rq 0 32 rfl eN (fun _ q=>(yd (aD cw) 0 0 K40 K23 rfl (aI.g 5 2)))<|rq 2 34 rfl eN (fun _ q=>(yv rfl (aI.g 3 1)))<|rq 3 35 rfl eN (fun _ q=>(Y_nilCheck (B:=aD D) (i:=0) rfl rfl))<|rq 4 36 rfl eN (fun _ q=>(yd (aD D) 0 0 K83 K23))<|rq 5 37 rfl eN (fun _ q=>(yz 3 K29 (ST.c q 1))) ?_
    let fx:List Value:=[vi aG.Kind,vi aG.A,vi aG.B]
    refine rq 6 38 rfl eN (fun _ q=>(yv rfl (aI.g 6 3)))<|rq 7 39 rfl eN (fun _ q=>(yI B5 K31 K15 K8 (gi_isSome eN4 rfl (ST.c q 2) a6) (getI_nn a6) (getI_ltI a6 rfl)))<|rq 8 40 rfl eN (fun _ q=>(ya B5 (K31.toNat*3) (out.flatMap eN1) fx K27 K8 (ST.c q 2) rfl rfl (eN4 aG) (gi_seg eN4 a6))) ?_
    refine rf_in (k:=3) (ts:=[32,40]) (L:=[O1,O2,i6,⟨aD cw,29,[vi t.Qubits,.slice cX Gates.length cY],2⟩,⟨cX,57,(Gates.flatMap eN1),cY*3⟩]) (G:=[]) [fQ 1 33 (.slice cX Gates.length cY) ⟨aD cw,29,[vi t.Qubits,.slice cX Gates.length cY],2⟩,fM 9 41 57 ([aG].flatMap eN1) (1*3) 1 1] im (flc rfl rfl rfl (fun _ _ _ _ eO h kD=>(yfl (yz 1 K29 (ST.cfm h kD.1) rfl ((eO 32 (List.Mem.head _)).trans rfl)) h)) (flc rfl rfl rfl (fun _ _ _ _ eO h _=>(Ys_bslice (s:=3) (len:=1) (vs:=[(0,.agg fx.toArray)]) (cs:=fx) (zs:=[vi 0,vi 0,vi 0]) (m:=3) h K15 K8 K64 rfl (mpc ((eO 40 (List.Mem.tail _ (List.Mem.head _))).trans rfl) mpn) rfl rfl rfl (by kernel_rfl) (by kernel_rfl) rfl)) fln)) (fun hJ=>?_)
    refine rf_force hJ (fun Z w h=>(ST.sel (ST.noF h) [0,1,2] rfl rfl)) (fun _=>?_)
    refine rf_force (FlOK.nx hJ) (fun Z w h=>(ST.sel (ST.noF h) [0,1,2] rfl rfl)) (fun pz=>?_)
    refine rf_out (fun pA io=>?_)
    refine rA [10] ?_
    refine rS 42 10 rfl (aP 3 24 4 Gates [aG] io K15 K8 K59 K28 eN4 BK (io.c 5) py) ?_ aN
    rintro _ pB ⟨dN,dO,rfl,fy⟩
    refine ⟨(fy.se [0,1,2]),?_⟩
    refine rq 11 43 rfl (fy.se [0,1,2]) (fun _ q=>(yd (aD cw) 0 0 K40 K23 rfl (aI.g 5 2))) ?_
    refine rA [12] ?_
    refine rZ 12 rfl (yS 3 1 (aD cw) 29 (.slice dN ((Gates++[aG]).length) dO) [.slice dN ((Gates++[aG]).length) dO] 1 [vi t.Qubits,.slice dN ((Gates++[aG]).length) dO] fy K23) ?_ aN
    rintro _ pC ⟨rfl,cc⟩
    refine ⟨(cc.se [0,1,2]),?_⟩
    refine ra_done (by kernel_rfl) ?_
    refine cq (cr ?_)
    refine sQ 44 (yv rfl (aI.g 3 1))<|sQ 45 (Y_nilCheck (B:=aD D) (i:=0) rfl rfl)<|sQ 46 (yd (aD D) 0 0 K83 K23)<|sQ 47 (yz 3 K29 (cc.c 1))<|sQ 48 (yv rfl (aI.g 6 3))<|sQ 49 (yI B5 K31 K15 K8 (gi_isSome eN4 rfl (cc.c 2) a6) (getI_nn a6) (getI_ltI a6 rfl)) ?_
    refine sQ 50 (yd B5 (K31.toNat*3) 0 K42 K1)<|sQ 51 (yz (K31.toNat*3+0) K0 (cc.c 2) rfl rfl (gi_at eN4 a6 rfl))<|sQ 52 zE (rn ?_)
    refine cw_cond rfl (fun ip=>?_) (fun ip=>?_)
    ·skip
     have fz:=ct en ip
     obtain ⟨oh,fz⟩:=chk_inv fz
     refine ra_start (cc.se [0,1,2,5]).fn (by kernel_rfl) ?_
     have iq:=cc.drew
     have cd:=iq.se [0,1,2,5]
     refine rq 0 53 rfl cd (fun _ q=>(yd (aD cw) 0 0 K40 K23 rfl (aI.g 5 2)))<|rq 2 55 rfl cd (fun _ q=>(yv rfl (aI.g 3 1)))<|rq 3 56 rfl cd (fun _ q=>(Y_nilCheck (B:=aD D) (i:=0) rfl rfl))<|rq 4 57 rfl cd (fun _ q=>(yd (aD D) 0 0 K83 K23))<|rq 5 58 rfl cd (fun _ q=>(yz 3 K29 (ST.c q 1))) ?_
     refine rq 6 59 rfl cd (fun _ q=>(yv rfl (aI.g 6 3)))<|rq 7 60 rfl cd (fun _ q=>(yI B5 K31 K15 K8 (gi_isSome eN4 rfl (ST.c q 2) a6) (getI_nn a6) (getI_ltI a6 rfl)))<|rq 8 61 rfl cd (fun _ q=>(ya B5 (K31.toNat*3) (out.flatMap eN1) fx K27 K8 (ST.c q 2) rfl rfl (eN4 aG) (gi_seg eN4 a6)))<|rq 9 62 rfl cd (fun _ q=>(yv rfl (aI.g 3 1)))<|rq 10 63 rfl cd (fun _ q=>(Y_nilCheck (B:=aD D) (i:=0) rfl rfl)) ?_
     refine rq 11 64 rfl cd (fun _ q=>(yd (aD D) 0 0 K83 K23))<|rq 12 65 rfl cd (fun _ q=>(yz 3 K29 (ST.c q 1)))<|rq 13 66 rfl cd (fun _ q=>(yv rfl (aI.g 6 3)))<|rq 14 67 rfl cd (fun _ q=>(yI B5 K31 K15 K8 (gi_isSome eN4 rfl (ST.c q 2) a6) (getI_nn a6) (getI_ltI a6 rfl)))<|rq 15 68 rfl cd (fun _ q=>(ya B5 (K31.toNat*3) (out.flatMap eN1) fx K27 K8 (ST.c q 2) rfl rfl (eN4 aG) (gi_seg eN4 a6))) ?_
     let oi:Ob:=⟨aD cw,29,[vi t.Qubits,.slice dN ((Gates++[aG]).length) dO],2⟩
     refine rf_in (k:=3) (ts:=[53,61,68]) (L:=[O1,O2,i6,oi,⟨dN,57,((Gates++[aG]).flatMap eN1),dO*3⟩,⟨aD pz,57,([aG].flatMap eN1),1*3⟩]) (G:=[]) [fQ 1 54 (.slice dN ((Gates++[aG]).length) dO) oi,fM 16 69 57 ([aG,aG].flatMap eN1) (2*3) 2 2] iq (flc rfl rfl rfl (fun _ _ _ _ eO h kD=>(yfl (yz 1 K29 (ST.cfm h kD.1) rfl ((eO 53 (List.Mem.head _)).trans rfl)) h)) (flc rfl rfl rfl (fun _ _ _ _ eO h _=>(Ys_bslice (s:=3) (len:=2) (vs:=[(0,.agg fx.toArray),(1,.agg fx.toArray)]) (cs:=[vi aG.Kind,vi aG.A,vi aG.B,vi aG.Kind,vi aG.A,vi aG.B]) (zs:=[vi 0,vi 0,vi 0,vi 0,vi 0,vi 0]) (m:=6) h K15 K8 K64 rfl (mpc ((eO 61 (List.Mem.tail _ (List.Mem.head _))).trans rfl) (mpc ((eO 68 (List.Mem.tail _ (List.Mem.tail _ (List.Mem.head _)))).trans rfl) mpn)) rfl rfl rfl (by kernel_rfl) (by kernel_rfl) rfl)) fln)) (fun oj=>?_)
     refine rf_force oj (fun Z w h=>(ST.sel (ST.noF h) [0,1,2,5] rfl rfl)) (fun _=>?_)
     refine rf_force (FlOK.nx oj) (fun Z w h=>(ST.sel (ST.noF h) [0,1,2,5] rfl rfl)) (fun qL=>?_)
     refine rf_out (fun pD ir=>?_)
     refine rA [17] ?_
     refine rS 70 17 rfl (aP 3 24 4 (Gates++[aG]) [aG,aG] ir K15 K8 K59 K28 eN4 BK (ir.c 6) oh) ?_ aN
     rintro _ pE ⟨gQ,gR,rfl,fA⟩
     refine ⟨(fA.se [0,1,2,5]),?_⟩
     refine rq 18 71 rfl (fA.se [0,1,2,5]) (fun _ q=>(yd (aD cw) 0 0 K40 K23 rfl (aI.g 5 2))) ?_
     refine rA [19] ?_
     refine rZ 19 rfl (yS 3 1 (aD cw) 29 (.slice gQ (((Gates++[aG])++[aG,aG]).length) gR) [.slice gQ (((Gates++[aG])++[aG,aG]).length) gR] 1 [vi t.Qubits,.slice gQ (((Gates++[aG])++[aG,aG]).length) gR] fA K23) ?_ aN
     rintro _ pF ⟨rfl,it⟩
     refine ⟨(it.se [0,1,2,5]),?_⟩
     refine ra_done (by kernel_rfl) ?_
     exact ⟨((Gates++[aG])++[aG,aG]),gQ,gR,(sI fz),(aI.a 2 0 (aI.a 3 1 (aI.a 5 2 (aI.a 6 3 fn_)))),(it.sel [0,1,2,3,4] rfl rfl)⟩
    ·skip
     have kF:=cf' en ip
     refine cw_skip ?_
     exact ⟨(Gates++[aG]),dN,dO,(sI kF),(aI.a 2 0 (aI.a 3 1 (aI.a 5 2 (aI.a 6 3 fn_)))),(cc.sel [0,1,2,3,4] rfl rfl)⟩
   rintro f w ⟨cj,gO,gP,rfl,gS,kG⟩
   refine cr ?_
   refine sQ 30 (yv rfl (gS.g 6 3))<|sQ 31 zM<|sQ 6 yu (rn ?_)
   obtain rfl:=sI kC
   exact ⟨og,Nat.lt_succ_self _,cj,(i64.wrap (K31-1)),gO,gP,(gS.a 2 0 (gS.a 3 1 (gS.a 5 2 (fc rfl fn_)))),(kG.sel [0,1,2,3,4] rfl rfl),jq⟩
  ·skip
   have kH:=cf' ik il
   refine cw_exit rfl ?_
   obtain rfl:=sI kH
   obtain rfl:=sI jq
   refine cq (cr ?_)
   refine sQ 72 (yw 0 K17 K9 (ey.c 3) rfl (aI.g 5 2)) ?_
   refine s0 (yK 0 2 0 ey K9 rfl (aI.g 2 0)) ?_
   rintro _ pG ⟨rfl,iu⟩
   refine rn (ct_ ?_)
   obtain rfl:=sI kz
   exact ret1 Tryz.results25 (rX K17 K9 (iu.c 0) (aI.g 2 0)) ⟨cX,cY,rfl,(iu.sN [4])⟩

theorem Rq (t:Ae) (B:Option Addr) (c n:Nat) (H:Option Addr) (J W:Nat) (U:World) (hn:t.XImages.length=n) (hq:n≤c) (Z:t.ZImages.length=W) (aa:W≤J) (hS:ST U [] U [] [⟨B,(t.XImages.flatMap eN0)⟩,⟨H,(t.ZImages.flatMap eN0)⟩]) {V:Aj} {O:Bool} (P:El t=some (V,O)) :
  CV Tryz.prog 6 #[.agg #[vi t.Qubits,.slice B n c,.slice H W J]] U (fun v w'=>∃ (B2:Option Addr) (c2:Nat),v=.tuple #[.agg #[vi V.Qubits,.slice B2 V.Gates.length c2],.bool O]∧ST U [] w' [⟨B2,57,(V.Gates.flatMap eN1),c2*3⟩] []):=by
 subst hn
 subst Z
 unfold El at P
 refine cv_of_cw 10 Tryz.func6 rfl Tryz.ntmps6 rfl ?_
 refine cq (cr ?_)
 refine sS 1 (yV [vi t.Qubits,.slice B t.XImages.length c,.slice H t.ZImages.length J] 3 hS) ?_
 rintro _ w_ ⟨b,rfl,ab⟩
 refine sS 2 (yN [vi 0,.slice none 0 0] 2 ab K34) ?_
 rintro _ ao ⟨b1,rfl,u⟩
 refine sQ 3 yu (rn (cq (cq (cr ?_))))
 refine sQ 4 (yw 0 K11 K3 (u.c 0)) ?_
 obtain ⟨ap,hc,P⟩:=bI P
 refine sc 5 rfl rfl (yc Sn (SZ t B c t.XImages.length H J t.ZImages.length _ rfl rfl (u.inn0 [(true,0),(true,1)] rfl) hc)) ?_
 rintro _ aq ⟨rfl,hd⟩
 have o:=u.out00 hd
 refine sQ 6 yn (rn ?_)
 refine cw_cond rfl (fun hb=>?_) (fun hb=>?_)
 ·skip
  have ac:=ct P hb
  refine cq (cr ?_)
  refine sQ 7 (Y_buildS (zs:=[vi 0,.slice none 0 0]) (vs:=[]) (cs:=[vi 0,.slice none 0 0]) K72 K34 rfl mpn rfl) ?_
  refine s0 (yK 1 2 0 o K9) ?_
  rintro _ ar ⟨rfl,ae⟩
  refine sQ 3 yu (rn (ct_ ?_))
  have Q:=ae.addNil 57
  obtain ⟨rfl,rfl⟩:=pr2 (sI ac)
  exact ret2 Tryz.results6 (rX K17 K9 (Q.c 1)) rT ⟨none,0,rfl,(Q.sN [2])⟩
 ·skip
  have D:=cf' P hb
  refine cw_skip (cq (cr ?_))
  refine sQ 8 (yw 0 K11 K3 (o.c 0)) ?_
  obtain ⟨au,af,D⟩:=bI D
  refine sc 9 rfl rfl (yc Kc (L1 t B c t.XImages.length H J t.ZImages.length _ rfl hq rfl aa (o.inn0 [(true,0),(true,1)] rfl) af)) ?_
  rintro _ av ⟨B3,c3,rfl,ag⟩
  have ah:=o.out0 ag
  refine s0 (yK 1 2 0 ah K9) ?_
  rintro _ aA ⟨rfl,S⟩
  refine sQ 3 yu (rn (ct_ ?_))
  obtain ⟨rfl,rfl⟩:=pr2 (sI D)
  exact ret2 Tryz.results6 (rX K17 K9 (S.c 1)) rT ⟨B3,c3,rfl,(S.sN [2])⟩

theorem Px (H:List Ab) (s2:List Ab) (B:Option Addr) (c n:Nat) (W:Option Addr) (c1 n1:Nat) (Z:World) (hn:H.length=n) (af:s2.length=n1) (hS:ST Z [] Z [] [⟨B,(H.flatMap eN1)⟩,⟨W,(s2.flatMap eN1)⟩]) {r_:Bool} (hF:EG H s2=some r_) :
  CV Tryz.prog 26 #[.slice B n c,.slice W n1 c1] Z (fun v w'=>v=.bool r_∧ST Z [] w' [] []):=by
 subst hn
 subst af
 unfold EG at hF
 refine cv_of_cw 26 Tryz.func26 rfl Tryz.ntmps26 rfl ?_
 refine cq (cr ?_)
 refine sQ 4 yu (rn (cq (cq (cr ?_))))
 refine sQ 6 yv<|sQ 7 (Y_len K15 rfl rfl)<|sQ 8 yv<|sQ 9 (Y_len K15 rfl rfl)<|sQ 10 (Y_ne rfl rfl rfl) (rn ?_)
 refine cw_cond rfl (fun hb=>?_) (fun hb=>?_)
 ·skip
  have ah:=ct hF hb
  refine cq (cr ?_)
  refine sQ 4 yu (rn (ct_ ?_))
  obtain rfl:=sI ah
  exact e1 Tryz.results26 (hS.sN [])
 ·skip
  have P:=cf' hF hb
  refine cw_skip (cq (cq (cr ?_)))
  refine sQ 11 yv<|sQ 12 (Y_len K15 rfl rfl)<|sQ 13 yv (rn ?_)
  obtain ⟨hN,P⟩:=chk_inv P
  obtain ⟨z,hz,aa⟩:=bI P
  refine cw_block ?_
  refine cw_loop (fun k f w=>∃ (i:Nat),FF f [(0,.slice B H.length c),(1,.slice W s2.length c1),(12,vi (H.length:Int)),(13,vi (i:Int))]∧ST Z [] w [] [⟨B,(H.flatMap eN1)⟩,⟨W,(s2.flatMap eN1)⟩]∧i+k=H.length∧forX (GJ H s2) k i ()=some z) H.length ⟨0,(fc rfl (fc rfl (fc rfl (fc rfl fn_)))),(hS.sel [] rfl rfl),Nat.zero_add _,hz⟩ ?_
  rintro k_ f w ⟨i,J,Q,aw,hL⟩
  refine cq (cr ?_)
  refine sQ 14 (zL rfl (J.g 13 3) (J.g 12 2)) (rn (cq ?_))
  refine cw_cond rfl (fun S=>?_) (fun S=>?_)
  ·skip
   have ab:i<H.length:=by have h:=of_decide_eq_true S; omega
   obtain ⟨K13,rfl⟩:∃ k2,k_=k2+1:=⟨k_-1,by omega⟩
   obtain ⟨y,u,ac⟩:=forX_go hL
   unfold GJ at u
   refine cw_skip (cq (cw_block (cq (cr ?_))))
   refine sQ 15 (yv rfl (J.g 13 3))<|sQ 5 yu (rn (cq ?_))
   obtain ⟨x,hx,u⟩:=bI u
   obtain ⟨D,O,u⟩:=bI u
   refine ra_start (Q.se []).fn (by kernel_rfl) ?_
   have U:=Q.drew
   have o:=U.se []
   refine rq 0 16 rfl o (fun _ q=>(yv rfl (J.g 0 0)))<|rq 1 17 rfl o (fun _ q=>yv)<|rq 2 18 rfl o (fun _ q=>(yI B (i:Int) K15 K8 (gi_isSome eN4 rfl (ST.rf q (i:=0) rfl) hx) (getI_nn hx) (getI_ltI hx rfl)))<|rq 3 19 rfl o (fun _ q=>(ya B ((i:Int).toNat*3) (H.flatMap eN1) [vi x.Kind,vi x.A,vi x.B] K27 K8 (ST.rf q (i:=0) rfl) rfl rfl (eN4 x) (gi_seg eN4 hx)))<|rq 4 20 rfl o (fun _ q=>(yv rfl (J.g 1 1))) ?_
   refine rq 5 21 rfl o (fun _ q=>yv)<|rq 6 22 rfl o (fun _ q=>(yI W (i:Int) K15 K8 (gi_isSome eN4 rfl (ST.rf q (i:=1) rfl) O) (getI_nn O) (getI_ltI O rfl)))<|rq 7 23 rfl o (fun _ q=>(ya W ((i:Int).toNat*3) (s2.flatMap eN1) [vi D.Kind,vi D.A,vi D.B] K27 K8 (ST.rf q (i:=1) rfl) rfl rfl (eN4 D) (gi_seg eN4 O)))<|rq 8 24 rfl o (fun _ q=>(Y_neA (xs:=#[vi x.Kind,vi x.A,vi x.B]) (ys:=#[vi D.Kind,vi D.A,vi D.B]) (b:=((x.Kind==D.Kind)&&((x.A==D.A)&&((x.B==D.B)&&true)))) TD rfl rfl rfl (eqr_struct (xs:=[vi x.Kind,vi x.A,vi x.B]) (ys:=[vi D.Kind,vi D.A,vi D.B]) Qn TE (pts_sc K0 rfl rfl (eqr_int K16) (pts_sc K0 rfl rfl (eqr_int K16) (pts_sc K0 rfl rfl (eqr_int K16) pts_nil)))))) ?_
   refine ra_done (by kernel_rfl) ?_
   refine cw_cond rfl (fun V=>?_) (fun V=>?_)
   ·skip
    have aj:=ct u V
    refine cq (cr ?_)
    refine sQ 4 yu (rn (ct_ ?_))
    obtain rfl:=sI aj
    obtain rfl:=sI ac
    obtain rfl:=sI aa
    exact e1 Tryz.results26 (U.sN [])
   ·skip
    have ak:=cf' u V
    refine cw_skip (cr ?_)
    refine sQ 25 (zP rfl (J.g 13 3))<|sQ 13 yv (rn ?_)
    obtain rfl:=sI ak
    exact ⟨K13,Nat.lt_succ_self _,i+1,(J.a 0 0 (J.a 1 1 (J.a 12 2 (fc (congrArg (Value.int .i64) (wr_succ ab hN)) fn_)))),(U.sel [] rfl rfl),(by omega),ac⟩
  ·skip
   obtain rfl:k_=0:=by have h:=of_decide_eq_false S; omega
   refine cw_exit rfl ?_
   obtain rfl:=sI hL
   refine cq (cr ?_)
   refine sQ 4 yu (rn (ct_ ?_))
   obtain rfl:=sI aa
   exact e1 Tryz.results26 (Q.sN [])

theorem Pd (a:Aj) (b:Aj) (B:Option Addr) (c n:Nat) (D:Option Addr) (O Z:Nat) (H:World) (hn:a.Gates.length=n) (P:b.Gates.length=Z) (hS:ST H [] H [] [⟨B,(a.Gates.flatMap eN1)⟩,⟨D,(b.Gates.flatMap eN1)⟩]) {r_:Bool} (J:E2 a b=some r_) :
  CV Tryz.prog 7 #[.agg #[vi a.Qubits,.slice B n c],.agg #[vi b.Qubits,.slice D Z O]] H (fun v w'=>v=.bool r_∧ST H [] w' [] []):=by
 subst hn
 subst P
 unfold E2 at J
 refine cv_of_cw 17 Tryz.func7 rfl Tryz.ntmps7 rfl ?_
 refine cq (cr ?_)
 refine sS 2 (yV [vi a.Qubits,.slice B a.Gates.length c] 2 hS) ?_
 rintro _ w_ ⟨b1,rfl,Q⟩
 refine sS 3 (yV [vi b.Qubits,.slice D b.Gates.length O] 2 Q) ?_
 rintro _ ah ⟨b2,rfl,o⟩
 refine sQ 4 yu (rn (cq (cr ?_)))
 refine sQ 5 (yd (aD b1) 0 0 K44 K1)<|sQ 6 (yz 0 K0 (o.c 0))<|sQ 7 (yd (aD b2) 0 0 K44 K1)<|sQ 8 (yz 0 K0 (o.c 1))<|sQ 9 zE<|sQ 10 yv ?_
 refine sgq 11 rfl rfl (uT_ 10) (fun hg=>(yd (aD b1) 0 0 K40 K23)) ?_
 refine sgq 12 rfl rfl (uT_ 10) (fun S=>(yz 1 K29 (o.c 0) rfl (gv_of S))) ?_
 refine sgq 13 rfl rfl (uT_ 10) (fun ai=>(yd (aD b2) 0 0 K40 K23)) ?_
 refine sgq 14 rfl rfl (uT_ 10) (fun U=>(yz 1 K29 (o.c 1) rfl (gv_of U))) ?_
 obtain ⟨V,hc,J⟩:=bI J
 refine sgc 15 (v:=.bool V) (F:=o.fn) rfl rfl (uT_ 10) o (fun u=>(yc Ou (CV.mono (Px a.Gates b.Gates B c a.Gates.length D O b.Gates.length _ rfl rfl (o.inn0 [(true,0),(true,1)] rfl) (gb_inv hc u)) (by rintro _ _ ⟨rfl,h⟩; exact ⟨rfl,o.out00 h⟩)) rfl (mc (gv_of u) (mc (gv_of u) mn)))) ?_
 rintro aj W
 refine sQ 16 yA<|sQ 4 yu (rn (ct_ ?_))
 obtain rfl:=sI J
 exact e1 Tryz.results7 (W.sN [])

theorem LT (c:Ah) (J:Int) (B:Option Addr) (o:Option Addr) (u n:Nat) (D:World) (S:c.code.length=n) (P:ST D (bl [⟨B,49,[.slice o n u,vi c.at_,.int .u64 c.seed],3⟩]) D [⟨B,49,[.slice o n u,vi c.at_,.int .u64 c.seed],3⟩] [⟨o,(c.code.flatMap enc_u8)⟩]) {Q:Bool} {m:Ah} (H:EA c J=some (Q,m)) :
  CV Tryz.prog 34 #[pt B 0,vi J] D (fun v U=>v=.bool Q∧ST D (bl [⟨B,49,[.slice o n u,vi c.at_,.int .u64 c.seed],3⟩]) U [⟨B,49,[.slice o n u,vi m.at_,.int .u64 m.seed],3⟩] []):=by
 subst S
 unfold EA at H
 refine cv_of_cw 9 Tryz.func34 rfl Tryz.ntmps34 rfl ?_
 refine cq (cr ?_)
 refine sQ 4 yu (rn (cq (cr ?_)))
 refine sQ 5 yv<|sQ 6 yv ?_
 obtain ⟨⟨V,W⟩,hc,H⟩:=bI H
 refine sc 7 rfl rfl (yc K46 (AQ c J B o u c.code.length _ rfl (P.inn [true] rfl [(true,0)] rfl) hc)) ?_
 rintro _ Z ⟨rfl,hd⟩
 have O:=P.out [true] rfl hd
 refine sQ 8 zE<|sQ 4 yu (rn (ct_ ?_))
 obtain ⟨rfl,rfl⟩:=pr2 (sI H)
 exact e1 Tryz.results34 (O.sN [0])

theorem Oz (c:Ah) (B:Option Addr) (o:Option Addr) (u n:Nat) (P:World) (hn:c.code.length=n) (hS:ST P (bl [⟨B,49,[.slice o n u,vi c.at_,.int .u64 c.seed],3⟩]) P [⟨B,49,[.slice o n u,vi c.at_,.int .u64 c.seed],3⟩] [⟨o,(c.code.flatMap enc_u8)⟩]) {Q:Aj} {m:Ah} (D:EP c=some (Q,m)) :
  CV Tryz.prog 70 #[pt B 0] P (fun v w'=>∃ (B2:Option Addr) (c2:Nat),v=.agg #[vi Q.Qubits,.slice B2 Q.Gates.length c2]∧ST P (bl [⟨B,49,[.slice o n u,vi c.at_,.int .u64 c.seed],3⟩]) w' [⟨B,49,[.slice o n u,vi m.at_,.int .u64 m.seed],3⟩,⟨B2,57,(Q.Gates.flatMap eN1),c2*3⟩] []):=by
 subst hn
 unfold EP at D
 refine cv_of_cw 9 Tryz.func70 rfl Tryz.ntmps70 rfl ?_
 refine cq (cr ?_)
 refine sS 2 (yN [vi 0,.slice none 0 0] 2 hS K34) ?_
 rintro _ w_ ⟨b,rfl,S⟩
 refine rn (cq (cr ?_))
 refine sQ 3 yv<|sQ 4 yv ?_
 refine sS 5 (yF 1 4 [vi 1,vi 2,vi 2,vi 3] 4 S K62 K1 K73 rfl (mpc rfl (mpc rfl (mpc rfl (mpc rfl mpn))))) ?_
 rintro _ ai ⟨b1,rfl,H⟩
 obtain ⟨⟨U,m1⟩,hc,D⟩:=bI D
 refine sc 6 rfl rfl (yc K89 (F1 c [1,2,2,3] B o u c.code.length (aD b1) 4 4 _ rfl rfl (H.inn [true,false,false] rfl [(true,0),(false,1)] rfl) hc)) ?_
 rintro _ ak ⟨rfl,hd⟩
 have V:=H.out [true,false,false] rfl hd
 refine sS 7 (yF 1 15 [vi 1,vi 2,vi 3,vi 4,vi 5,vi 6,vi 7,vi 8,vi 9,vi 9,vi 10,vi 11,vi 12,vi 7,vi 1] 15 V K62 K1 K73 rfl (mpc rfl (mpc rfl (mpc rfl (mpc rfl (mpc rfl (mpc rfl (mpc rfl (mpc rfl (mpc rfl (mpc rfl (mpc rfl (mpc rfl (mpc rfl (mpc rfl (mpc rfl mpn)))))))))))))))) ?_
 rintro _ al ⟨b2,rfl,J⟩
 obtain ⟨⟨an,m2⟩,W,D⟩:=bI D
 refine sc 8 rfl rfl (yc Kw (MO (Ah.mk c.code m1.at_ m1.seed) U 8 [1,2,3,4,5,6,7,8,9,9,10,11,12,7,1] B o u c.code.length (aD b2) 15 15 _ rfl rfl (J.inn [false,false,true,false] rfl [(true,0),(false,2)] rfl) W)) ?_
 rintro _ ao ⟨B3,c3,rfl,Z⟩
 have aa:=J.out [false,false,true,false] rfl Z
 refine s0 (yK 0 2 0 aa K9) ?_
 rintro _ ar ⟨rfl,O⟩
 refine rn (ct_ ?_)
 obtain ⟨rfl,rfl⟩:=pr2 (sI D)
 exact ret1 Tryz.results70 (rX K17 K9 (O.c 0)) ⟨B3,c3,rfl,(O.sN [3,4])⟩

theorem SN (c:Ah) (B:Option Addr) (u:Option Addr) (P n:Nat) (w0:World) (hn:c.code.length=n) (hS:ST w0 (bl [⟨B,49,[.slice u n P,vi c.at_,.int .u64 c.seed],3⟩]) w0 [⟨B,49,[.slice u n P,vi c.at_,.int .u64 c.seed],3⟩] [⟨u,(c.code.flatMap enc_u8)⟩]) {r_:Aj} {m:Ah} (hF:FB c=some (r_,m)) :
  CV Tryz.prog 36 #[pt B 0] w0 (fun v w'=>∃ (B2:Option Addr) (c2:Nat),v=.agg #[vi r_.Qubits,.slice B2 r_.Gates.length c2]∧ST w0 (bl [⟨B,49,[.slice u n P,vi c.at_,.int .u64 c.seed],3⟩]) w' [⟨B,49,[.slice u n P,vi m.at_,.int .u64 m.seed],3⟩,⟨B2,57,(r_.Gates.flatMap eN1),c2*3⟩] []):=by
 subst hn
 unfold FB at hF
 refine cv_of_cw 31 Tryz.func36 rfl Tryz.ntmps36 rfl ?_
 refine cq (cr ?_)
 refine sS 2 (yN [vi 0,.slice none 0 0] 2 hS K34) ?_
 rintro _ w_ ⟨b,rfl,ar⟩
 refine rn (cq (cr ?_))
 refine sQ 4 yv ?_
 obtain ⟨⟨o,m1⟩,hc,hF⟩:=bI hF
 refine sc 5 rfl rfl (yc Te (Oz c B u P c.code.length _ rfl (ar.inn [true,false] rfl [(true,0)] rfl) hc)) ?_
 rintro _ bW ⟨S,U,rfl,hd⟩
 have a0:=ar.out [true,false] rfl hd
 refine sS 3 (yN [vi 0,.slice none 0 0] 2 a0 K34) ?_
 rintro _ bX ⟨b1,rfl,a1⟩
 refine s0 (yK 3 2 0 a1 K9) ?_
 rintro _ bY ⟨rfl,au⟩
 refine rn (cq ?_)
 obtain ⟨z,hz,a2⟩:=bI hF
 let V:Ob:=⟨aD b,29,[vi 0,.slice none 0 0],2⟩
 let O8:Ob:=⟨B,49,[.slice u c.code.length P,vi c.at_,.int .u64 c.seed],3⟩
 refine cw_mid (fun f w=>∃ (at_:Int) (seed:Int) (Qubits:Int) (Gates:List Ab) (B4:Option Addr) (c4:Nat),(at_,seed,Qubits,Gates)=z∧FF f [(2,pt (aD b) 0),(3,pt (aD b1) 0)]∧ST w0 (bl [O8]) w [⟨B,49,[.slice u c.code.length P,vi at_,.int .u64 seed],3⟩,V,⟨aD b1,29,[vi Qubits,.slice B4 Gates.length c4],2⟩,⟨B4,57,(Gates.flatMap eN1),c4*3⟩] [⟨u,(c.code.flatMap enc_u8)⟩]) ?_ ?_
 ·skip
  refine cq (cr ?_)
  refine sQ 6 yv ?_
  obtain ⟨⟨bZ,m2⟩,a3,hz⟩:=bI hz
  refine sc 7 rfl rfl (yc K46 (AQ (Ah.mk c.code m1.at_ m1.seed) 14 B u P c.code.length _ rfl (au.inn [false,true,false,false] rfl [(true,0)] rfl) a3)) ?_
  rintro _ b0 ⟨rfl,a5⟩
  have ab:=au.out [false,true,false,false] rfl a5
  refine rn (cw_block (cq (cr ?_)))
  refine sQ 9 zE<|sQ 8 yu (rn ?_)
  refine cw_cond rfl (fun hb=>?_) (fun hb=>?_)
  ·skip
   have ao:=ct hz hb
   refine cr ?_
   refine sQ 10 yv ?_
   refine sS 11 (yF 1 4 [vi 0,vi 1,vi 5,vi 6] 4 ab K62 K1 K73 rfl (mpc rfl (mpc rfl (mpc rfl (mpc rfl mpn))))) ?_
   rintro _ b5 ⟨b2,rfl,av⟩
   obtain ⟨⟨ac,m3⟩,a6,ao⟩:=bI ao
   refine sc 12 rfl rfl (yc K89 (F1 (Ah.mk c.code m2.at_ m2.seed) [0,1,5,6] B u P c.code.length (aD b2) 4 4 _ rfl rfl (av.inn [false,false,false,true,false] rfl [(true,0),(false,3)] rfl) a6)) ?_
   rintro _ b7 ⟨rfl,a7⟩
   have a8:=av.out [false,false,false,true,false] rfl a7
   refine sQ 13 (yd (aD b1) 0 0 K44 K1) ?_
   refine s0 (yS 2 1 (aD b1) 29 (vi ac) [vi ac] 0 [vi ac,.slice S o.Gates.length U] a8 K1) ?_
   rintro _ b8 ⟨rfl,a9⟩
   refine rn ?_
   exact ⟨m3.at_,m3.seed,ac,o.Gates,S,U,(sI ao),(fc rfl (fc rfl fn_)),(a9.sel [4,0,2,1] rfl rfl)⟩
  ·skip
   have aw:=cf' hz hb
   refine cq (cr ?_)
   refine sQ 15 zE<|sQ 14 yu (rn ?_)
   refine cw_cond rfl (fun ap=>?_) (fun ap=>?_)
   ·skip
    have D:=ct aw ap
    obtain ⟨⟨O,m4⟩,ba,D⟩:=bI D
    obtain ⟨⟨H,m5⟩,bb,D⟩:=bI D
    obtain ⟨⟨J,m6⟩,bc,D⟩:=bI D
    obtain ⟨bd,D⟩:=chk_inv D
    refine ra_start (ab.se [0]).fn (by kernel_rfl) ?_
    have ah:=ab.drew
    have ae:=ah.se [0]
    refine rq 0 16 rfl ae (fun _ q=>(yd (aD b1) 0 0 K40 K23))<|rq 2 18 rfl ae (fun _ q=>yv)<|rq 4 20 rfl ae (fun _ q=>yv)<|rq 7 23 rfl ae (fun _ q=>yv) ?_
    let Q:Ob:=⟨aD b1,29,[vi o.Qubits,.slice S o.Gates.length U],2⟩
    let O2:Ob:=⟨S,57,(o.Gates.flatMap eN1),U*3⟩
    let O5:Ob:=⟨B,49,[.slice u c.code.length P,vi m2.at_,.int .u64 m2.seed],3⟩
    refine rf_in (k:=10) (ts:=[16]) (L:=[V,O2,Q,O5]) (G:=[]) [fQ 1 17 (.slice S o.Gates.length U) Q] ah (flc rfl rfl rfl (fun _ _ _ _ be h bf=>(yfl (yz 1 K29 (ST.cfm h bf.1) rfl ((be 16 (List.Mem.head _)).trans rfl)) h)) fln) (fun hJ=>?_)
    refine rf_all [3] hJ (fun Z w h=>(ST.sel (ST.noF h) [0] rfl rfl)) (fun Z b9 bg ai=>?_)
    refine rC 19 3 rfl (yc K46 (AQ (Ah.mk c.code m2.at_ m2.seed) 14 B u P c.code.length _ rfl (ai.inn [false,false,false,true] rfl [(true,0)] rfl) ba)) ?_ aN
    rintro _ ca ⟨rfl,bh⟩
    have aA:=ST.outG (pre:=[V,O2,Q,O5]) (G:=(flL [fQ 1 17 (.slice S o.Gates.length U) Q] Z++[])) ai [false,false,false,true] rfl bh
    let O6:Ob:=⟨B,49,[.slice u c.code.length P,vi m4.at_,.int .u64 m4.seed],3⟩
    refine rf_k (L:=[V,O2,Q,O6]) bg aA (fun Z w h=>(ST.sel (ST.noF h) [0] rfl rfl)) ?_
    refine rf_all [5] hJ (fun Z w h=>(ST.sel (ST.noF h) [0] rfl rfl)) (fun Z1 bF bj aj=>?_)
    refine rC 21 5 rfl (yc K46 (AQ (Ah.mk c.code m4.at_ m4.seed) 4 B u P c.code.length _ rfl (aj.inn [false,false,false,true] rfl [(true,0)] rfl) bb)) ?_ aN
    rintro _ bH ⟨rfl,bk⟩
    have aB:=ST.outG (pre:=[V,O2,Q,O6]) (G:=(flL [fQ 1 17 (.slice S o.Gates.length U) Q] Z1++[])) aj [false,false,false,true] rfl bk
    let O7:Ob:=⟨B,49,[.slice u c.code.length P,vi m5.at_,.int .u64 m5.seed],3⟩
    refine rf_k (L:=[V,O2,Q,O7]) bj aB (fun Z w h=>(ST.sel (ST.noF h) [0] rfl rfl)) ?_
    refine rf_q 6 22 (v:=vi (i64.wrap (H-1))) rfl (fun Z w h=>(ST.sel (ST.noF h) [0] rfl rfl)) (fun Z _ q=>zM) ?_
    refine rf_all [8] hJ (fun Z w h=>(ST.sel (ST.noF h) [0] rfl rfl)) (fun Z2 bK bm ak=>?_)
    refine rC 24 8 rfl (yc K46 (AQ (Ah.mk c.code m5.at_ m5.seed) 4 B u P c.code.length _ rfl (ak.inn [false,false,false,true] rfl [(true,0)] rfl) bc)) ?_ aN
    rintro _ bL ⟨rfl,bn⟩
    have aE:=ST.outG (pre:=[V,O2,Q,O7]) (G:=(flL [fQ 1 17 (.slice S o.Gates.length U) Q] Z2++[])) ak [false,false,false,true] rfl bn
    let O3:Ob:=⟨B,49,[.slice u c.code.length P,vi m6.at_,.int .u64 m6.seed],3⟩
    refine rf_k (L:=[V,O2,Q,O3]) bm aE (fun Z w h=>(ST.sel (ST.noF h) [0] rfl rfl)) ?_
    refine rf_q 9 25 (v:=vi (i64.wrap (J-1))) rfl (fun Z w h=>(ST.sel (ST.noF h) [0] rfl rfl)) (fun Z _ q=>zM) ?_
    let V9:List Value:=[vi O,vi (i64.wrap (H-1)),vi (i64.wrap (J-1))]
    refine rf_q 10 26 (v:=.agg V9.toArray) rfl (fun Z w h=>(ST.sel (ST.noF h) [0] rfl rfl)) (fun Z _ q=>(Y_buildS (zs:=[vi 0,vi 0,vi 0]) (vs:=[(0,vi O),(1,vi (i64.wrap (H-1))),(2,vi (i64.wrap (J-1)))]) (cs:=V9) K69 K28 rfl (mpc rfl (mpc rfl (mpc rfl mpn))) rfl)) ?_
    refine rf_all [11] hJ (fun Z w h=>(ST.sel (ST.noF h) [0] rfl rfl)) (fun Z3 bN bp aF=>?_)
    refine rS 27 11 rfl (yF 3 1 V9 3 aF K15 K8 K64 rfl (mpc rfl mpn)) ?_ aN
    rintro _ bO ⟨b3,rfl,aG⟩
    let O4:Ob:=⟨aD b3,57,([(Ab.mk O (i64.wrap (H-1)) (i64.wrap (J-1)))].flatMap eN1),1*3⟩
    have aI:ST w0 (bl [O8]) _ (V::O2::Q::O3::O4::(flL [fQ 1 17 (.slice S o.Gates.length U) Q] Z3++[])) [⟨u,(c.code.flatMap enc_u8)⟩]:=ST.rot (pre:=[V,O2,Q,O3]) (G:=(flL [fQ 1 17 (.slice S o.Gates.length U) Q] Z3++[])) (xs:=[O4]) aG
    refine rf_k (L:=[V,O2,Q,O3,O4]) bp aI (fun Z w h=>(ST.sel (ST.noF h) [0] rfl rfl)) ?_
    refine rf_force hJ (fun Z w h=>(ST.sel (ST.noF h) [0] rfl rfl)) (fun _=>?_)
    refine rf_out (fun bP al=>?_)
    refine rA [12] ?_
    refine rS 28 12 rfl (aP 3 24 1 o.Gates [(Ab.mk O (i64.wrap (H-1)) (i64.wrap (J-1)))] al K15 K8 K59 K28 eN4 BK (al.c 4) bd) ?_ aN
    rintro _ bQ ⟨B5,c5,rfl,W⟩
    refine ⟨(W.se [0]),?_⟩
    refine rq 13 29 rfl (W.se [0]) (fun _ q=>(yd (aD b1) 0 0 K40 K23)) ?_
    refine rA [14] ?_
    refine rZ 14 rfl (yS 2 1 (aD b1) 29 (.slice B5 ((o.Gates++[(Ab.mk O (i64.wrap (H-1)) (i64.wrap (J-1)))]).length) c5) [.slice B5 ((o.Gates++[(Ab.mk O (i64.wrap (H-1)) (i64.wrap (J-1)))]).length) c5] 1 [vi o.Qubits,.slice B5 ((o.Gates++[(Ab.mk O (i64.wrap (H-1)) (i64.wrap (J-1)))]).length) c5] W K23) ?_ aN
    rintro _ bR ⟨rfl,am⟩
    refine ⟨(am.se [0]),?_⟩
    refine ra_done (by kernel_rfl) ?_
    exact ⟨m6.at_,m6.seed,o.Qubits,(o.Gates++[(Ab.mk O (i64.wrap (H-1)) (i64.wrap (J-1)))]),B5,c5,(sI D),(fc rfl (fc rfl fn_)),(am.sel [3,0,2,1] rfl rfl)⟩
   ·skip
    have bt:=cf' aw ap
    refine cw_skip ?_
    exact ⟨m2.at_,m2.seed,o.Qubits,o.Gates,S,U,(sI bt),(fc rfl (fc rfl fn_)),(ab.sel [3,0,2,1] rfl rfl)⟩
 rintro f w ⟨at_,seed,Qubits,Gates,B4,c4,rfl,hf,aJ⟩
 refine cq (cr ?_)
 refine sQ 30 (yw 0 K17 K9 (aJ.c 2) rfl (hf.g 3 1)) ?_
 refine s0 (yK 1 2 0 aJ K9 rfl (hf.g 2 0)) ?_
 rintro _ bS ⟨rfl,an⟩
 refine rn (ct_ ?_)
 obtain ⟨rfl,rfl⟩:=pr2 (sI a2)
 exact ret1 Tryz.results36 (rX K17 K9 (an.c 1) (hf.g 2 0)) ⟨B4,c4,rfl,(an.sN [0,3])⟩

theorem Oa (o:List Int) (B:Option Addr) (c n:Nat) (w0:World) (hn:o.length=n) (hS:ST w0 [] w0 [] [⟨B,(o.flatMap enc_u8)⟩]) {r_:Aj} {W:Aj} (Z:Ec o=some (r_,W)) :
  CV Tryz.prog 9 #[.slice B n c] w0 (fun v w'=>∃ (B1:Option Addr) (c1:Nat) (B2:Option Addr) (c2:Nat),v=.tuple #[.agg #[vi r_.Qubits,.slice B1 r_.Gates.length c1],.agg #[vi W.Qubits,.slice B2 W.Gates.length c2]]∧ST w0 [] w' [⟨B1,57,(r_.Gates.flatMap eN1),c1*3⟩,⟨B2,57,(W.Gates.flatMap eN1),c2*3⟩] []):=by
 subst hn
 unfold Ec at Z
 refine cv_of_cw 31 Tryz.func9 rfl Tryz.ntmps9 rfl ?_
 refine cq (cr ?_)
 refine sS 2 (yN [vi 0,.slice none 0 0] 2 hS K34) ?_
 rintro _ w_ ⟨b,rfl,aE⟩
 refine sS 3 (yN [vi 0,.slice none 0 0] 2 aE K34) ?_
 rintro _ bo ⟨b1,rfl,aF⟩
 refine rn (cq (cr ?_))
 refine sQ 7 yv<|sQ 8 (Y_buildS (zs:=[.slice none 0 0,vi 0,.int .u64 0]) (vs:=[(0,.slice B o.length c)]) (cs:=[.slice B o.length c,vi 0,.int .u64 0]) MY La rfl (mpc rfl mpn) rfl) ?_
 refine sS 9 (yV [.slice B o.length c,vi 0,.int .u64 0] 3 aF) ?_
 rintro _ bp ⟨b2,rfl,ao⟩
 refine sQ 4 yu (rn (cq (cr ?_)))
 refine sQ 10 yv ?_
 obtain ⟨⟨ap,m⟩,hc,Z⟩:=bI Z
 refine sc 11 rfl rfl (yc K46 (AQ (Ah.mk o 0 0) 3 (aD b2) B c o.length _ rfl (ao.inn [false,false,true] rfl [(true,0)] rfl) hc)) ?_
 rintro _ bq ⟨rfl,hd⟩
 have aq:=ao.out [false,false,true] rfl hd
 refine sQ 12 zP<|sQ 5 yu (rn (cq (cr ?_)))
 refine sQ 13 yv<|sQ 14 yv ?_
 obtain ⟨⟨ar,m1⟩,aG,Z⟩:=bI Z
 refine sc 15 rfl rfl (yc J4 (If (Ah.mk o m.at_ m.seed) (i64.wrap (1+ap)) (aD b2) B c o.length _ rfl (aq.inn [false,false,true] rfl [(true,0)] rfl) aG)) ?_
 rintro _ bt ⟨B3,c3,rfl,aI⟩
 have aJ:=aq.out [false,false,true] rfl aI
 refine sS 6 (yN [vi 0,.slice none 0 0] 2 aJ K34) ?_
 rintro _ bu ⟨b3,rfl,aK⟩
 refine s0 (yK 4 2 0 aK K9) ?_
 rintro _ bv ⟨rfl,au⟩
 refine rn (cq (cq (cr ?_)))
 refine sQ 16 yv ?_
 obtain ⟨⟨bw,m2⟩,aL,Z⟩:=bI Z
 refine sc 17 rfl rfl (yc L7 (LT (Ah.mk o m1.at_ m1.seed) 2 (aD b2) B c o.length _ rfl (au.inn [false,false,true,false,false] rfl [(true,0)] rfl) aL)) ?_
 rintro _ bA ⟨rfl,aM⟩
 have aa:=au.out [false,false,true,false,false] rfl aM
 refine rn ?_
 refine cw_cond rfl (fun hb=>?_) (fun hb=>?_)
 ·skip
  have S:=ct Z hb
  refine cq ?_
  obtain ⟨U,aO,S⟩:=bI S
  obtain ⟨bB,aQ,S⟩:=bI S
  refine ra_start (aa.se [2,3,4]).fn (by kernel_rfl) ?_
  have D:=aa.drew
  refine rq 0 18 rfl (D.se [2,3,4]) (fun _ q=>(yw 0 K17 K9 (ST.c q 1)))<|rq 1 19 rfl (D.se [2,3,4]) (fun _ q=>(yw 0 K17 K9 (ST.c q 1))) ?_
  refine rA [2] ?_
  refine rC 20 2 rfl (yc Ha (HB ar B3 c3 ar.Gates.length _ rfl (D.inn0 [(false,2)] rfl) aO)) ?_ aN
  rintro _ bC ⟨B4,c4,B5,c5,rfl,aR⟩
  have u:=D.out0 aR
  refine ⟨(u.se [2,3,4]),?_⟩
  refine rA [3] ?_
  refine rC 21 3 rfl (yc Kc (L1 U B4 c4 U.XImages.length B5 c5 U.ZImages.length _ rfl (u.lencap (i:=5) rfl (fm_lenn (l:=U.XImages) eN2 rfl) rfl rfl) rfl (u.lencap (i:=6) rfl (fm_lenn (l:=U.ZImages) eN2 rfl) rfl rfl) (u.inn0 [(false,5),(false,6)] rfl) aQ)) ?_ aN
  rintro _ bH ⟨B6,c6,rfl,aT⟩
  have ac:=u.out0 aT
  refine ⟨(ac.se [2,3,4]),?_⟩
  refine rA [4] ?_
  refine rZ 4 rfl (yK 0 2 0 ac K9) ?_ aN
  rintro _ ba ⟨rfl,ae⟩
  refine ⟨(ae.se [2,3,4]),?_⟩
  refine rA [5] ?_
  refine rZ 5 rfl (yK 1 2 0 ae K9) ?_ aN
  rintro _ bb ⟨rfl,H⟩
  refine ⟨(H.se [2,3,4]),?_⟩
  refine ra_done (by kernel_rfl) ?_
  refine ct_ ?_
  obtain ⟨rfl,rfl⟩:=pr2 (sI S)
  exact ret2 Tryz.results9 (rX K17 K9 (H.c 0)) (rX K17 K9 (H.c 1)) ⟨B3,c3,B6,c6,rfl,(H.sN [2,7])⟩
 ·skip
  have ab:=cf' Z hb
  refine cw_skip (cq (cq (cr ?_)))
  refine sQ 22 yv ?_
  obtain ⟨⟨bL,m3⟩,aU,ab⟩:=bI ab
  refine sc 23 rfl rfl (yc L7 (LT (Ah.mk o m2.at_ m2.seed) 6 (aD b2) B c o.length _ rfl (aa.inn [false,false,false,false,true] rfl [(true,0)] rfl) aU)) ?_
  rintro _ bc ⟨rfl,aV⟩
  have J:=aa.out [false,false,false,false,true] rfl aV
  refine rn ?_
  refine cw_cond rfl (fun aj=>?_) (fun aj=>?_)
  ·skip
   have ak:=ct ab aj
   refine cq ?_
   obtain ⟨⟨bM,m4⟩,aY,ak⟩:=bI ak
   refine ra_start (J.se [2,3]).fn (by kernel_rfl) ?_
   have O:=J.drew
   refine rq 0 24 rfl (O.se [2,3]) (fun _ q=>(yw 0 K17 K9 (ST.c q 1)))<|rq 1 25 rfl (O.se [2,3]) (fun _ q=>yv) ?_
   refine rA [2] ?_
   refine rC 26 2 rfl (yc Ss (SN (Ah.mk o m3.at_ m3.seed) (aD b2) B c o.length _ rfl (O.inn [false,false,false,false,true] rfl [(true,0)] rfl) aY)) ?_ aN
   rintro _ bd ⟨B7,c7,rfl,a0⟩
   have af:=O.out [false,false,false,false,true] rfl a0
   refine ⟨(af.se [2,3]),?_⟩
   refine rA [3] ?_
   refine rZ 3 rfl (yK 0 2 0 af K9) ?_ aN
   rintro _ be ⟨rfl,ag⟩
   refine ⟨(ag.se [2,3]),?_⟩
   refine rA [4] ?_
   refine rZ 4 rfl (yK 1 2 0 ag K9) ?_ aN
   rintro _ bf ⟨rfl,P⟩
   refine ⟨(P.se [2,3]),?_⟩
   refine ra_done (by kernel_rfl) ?_
   refine ct_ ?_
   obtain ⟨rfl,rfl⟩:=pr2 (sI ak)
   exact ret2 Tryz.results9 (rX K17 K9 (P.c 0)) (rX K17 K9 (P.c 1)) ⟨B3,c3,B7,c7,rfl,(P.sN [2,5])⟩
  ·skip
   have al:=cf' ab aj
   refine cw_skip (cq ?_)
   obtain ⟨⟨bP,m5⟩,a1,al⟩:=bI al
   refine ra_start (J.se [2,3]).fn (by kernel_rfl) ?_
   have V:=J.drew
   have am:=V.se [2,3]
   refine rq 0 27 rfl am (fun _ q=>(yw 0 K17 K9 (ST.c q 1)))<|rq 1 28 rfl am (fun _ q=>yv)<|rq 2 29 rfl am (fun _ q=>yv) ?_
   refine rA [3] ?_
   refine rC 30 3 rfl (yc J4 (If (Ah.mk o m3.at_ m3.seed) (i64.wrap (1+ap)) (aD b2) B c o.length _ rfl (V.inn [false,false,false,false,true] rfl [(true,0)] rfl) a1)) ?_ aN
   rintro _ bg ⟨B8,c8,rfl,a2⟩
   have ah:=V.out [false,false,false,false,true] rfl a2
   refine ⟨(ah.se [2,3]),?_⟩
   refine rA [4] ?_
   refine rZ 4 rfl (yK 0 2 0 ah K9) ?_ aN
   rintro _ bh ⟨rfl,ai⟩
   refine ⟨(ai.se [2,3]),?_⟩
   refine rA [5] ?_
   refine rZ 5 rfl (yK 1 2 0 ai K9) ?_ aN
   rintro _ bj ⟨rfl,Q⟩
   refine ⟨(Q.se [2,3]),?_⟩
   refine ra_done (by kernel_rfl) ?_
   refine ct_ ?_
   obtain ⟨rfl,rfl⟩:=pr2 (sI al)
   exact ret2 Tryz.results9 (rX K17 K9 (Q.c 0)) (rX K17 K9 (Q.c 1)) ⟨B3,c3,B8,c8,rfl,(Q.sN [2,5])⟩

theorem NX (c:Aj) (Q:Int→Option (Bool)) (B:Option Addr) (c1 n:Nat) (kf:Nat) (D:Array Value) (Rf:List Ro) (w0:World) (hn:c.Gates.length=n) (hk:callB Tryz.prog kf=true) (hp:∀ (w:World),ST w [] w [] Rf→∀ (x:Int) (y:Bool),Q x=some y→CV Tryz.prog kf ((vi x)::D.toList).toArray w (fun v w'=>v=.bool y∧ST w [] w' [] [])) (hS:ST w0 [] w0 [] (⟨B,(c.Gates.flatMap eN1)⟩::Rf)) {r_:Int} {ag:Bool} (hF:FL c Q=some (r_,ag)) :
  CV Tryz.prog 79 #[.agg #[vi c.Qubits,.slice B n c1],.func (.func kf) #[] D] w0 (fun v w'=>v=.tuple #[vi r_,.bool ag]∧ST w0 [] w' [] []):=by
 subst hn
 unfold FL at hF
 refine cv_of_cw 27 Tryz.func79 rfl Tryz.ntmps79 rfl ?_
 refine cq (cr ?_)
 refine sS 2 (yV [vi c.Qubits,.slice B c.Gates.length c1] 2 hS) ?_
 rintro _ w_ ⟨b,rfl,S⟩
 refine sQ 4 yu<|sQ 5 yu (rn (cq (cq (cr ?_))))
 refine sQ 9 (yw 0 K17 K9 (S.c 0)) ?_
 obtain ⟨aL,hc,hF⟩:=bI hF
 refine sc 10 rfl rfl (yc JE (IC c B c1 c.Gates.length _ rfl (S.inn0 [(true,0)] rfl) hc)) ?_
 rintro _ aM ⟨rfl,hd⟩
 have U:=S.out00 hd
 refine sQ 11 yn (rn ?_)
 refine cw_cond rfl (fun hb=>?_) (fun hb=>?_)
 ·skip
  have an:=ct hF hb
  refine cq (cr ?_)
  refine sQ 4 yu<|sQ 5 yu (rn (ct_ ?_))
  obtain ⟨rfl,rfl⟩:=pr2 (sI an)
  exact e2 Tryz.results79 (U.sN [])
 ·skip
  have V:=cf' hF hb
  refine cw_skip (cq (cr ?_))
  refine sQ 6 yu (rn (cq (cq (cr ?_))))
  refine sQ 12 (yd (aD b) 0 0 K40 K23)<|sQ 13 (yz 1 K29 (U.c 0))<|sQ 14 (Y_len K15 rfl rfl)<|sQ 15 yv (rn ?_)
  obtain ⟨hN,V⟩:=chk_inv V
  obtain ⟨z,hz,ao⟩:=bI V
  refine cw_block ?_
  refine cw_loop (fun k f w=>∃ (i:Nat) (u:Int),FF f [(1,.func (.func kf) #[] D),(6,vi u),(13,.slice B c.Gates.length c1),(14,vi (c.Gates.length:Int)),(15,vi (i:Int))]∧ST w0 [] w [] (⟨B,(c.Gates.flatMap eN1)⟩::Rf)∧i+k=c.Gates.length∧forN (E8 c Q) k i u=some z) c.Gates.length ⟨0,0,(fc rfl (fc rfl (fc rfl (fc rfl (fc rfl fn_))))),(U.sel [] rfl rfl),Nat.zero_add _,hz⟩ ?_
  rintro k_ f w ⟨i,u,H,P,aR,hL⟩
  refine cq (cr ?_)
  refine sQ 16 (zL rfl (H.g 15 4) (H.g 14 3)) (rn (cq ?_))
  refine cw_cond rfl (fun W=>?_) (fun W=>?_)
  ·skip
   have ai:i<c.Gates.length:=by have h:=of_decide_eq_true W; omega
   obtain ⟨K13,rfl⟩:∃ k2,k_=k2+1:=⟨k_-1,by omega⟩
   obtain ⟨y1,aj,aq⟩:=forN_go hL
   unfold E8 at aj
   refine cw_skip (cq ?_)
   obtain ⟨z1,J,ar⟩:=bI aj
   refine cw_mid (fun f w=>∃ (o:Int),o=z1∧FF f [(1,.func (.func kf) #[] D),(6,vi o),(13,.slice B c.Gates.length c1),(14,vi (c.Gates.length:Int)),(15,vi (i:Int))]∧ST w0 [] w [] (⟨B,(c.Gates.flatMap eN1)⟩::Rf)) ?_ ?_
   ·skip
    refine cw_block (cq (cr ?_))
    obtain ⟨x1,hx,J⟩:=bI J
    refine sQ 17 (yI B (i:Int) K15 K8 (gi_isSome eN4 rfl (P.rf (i:=0) rfl) hx) (getI_nn hx) (getI_ltI hx rfl) rfl (H.g 13 2) (H.g 15 4))<|sQ 18 (ya B ((i:Int).toNat*3) (c.Gates.flatMap eN1) [vi x1.Kind,vi x1.A,vi x1.B] K27 K8 (P.rf (i:=0) rfl) rfl rfl (eN4 x1) (gi_seg eN4 hx)) ?_
    refine sS 8 (yN [vi 0,vi 0,vi 0] 3 P K28) ?_
    rintro _ aV ⟨b1,rfl,au⟩
    refine s0 (yK 0 3 0 au K8) ?_
    rintro _ a0 ⟨rfl,Z⟩
    refine rn (cq (cr ?_))
    refine sQ 19 (yv rfl (H.g 1 0))<|sQ 20 (yd (aD b1) 0 0 K42 K1)<|sQ 21 (yz 0 K0 (Z.c 0)) ?_
    obtain ⟨av,aw,J⟩:=bI J
    refine sc 22 rfl rfl (Yc_clos (g:=kf) (vs:=(vi x1.Kind)::D.toList) hk rfl rfl (clo_args (mc rfl mn)) (hp _ (Z.innS (fun _ h=>mOd (i:=1) h)) x1.Kind av aw)) ?_
    rintro _ a1 ⟨rfl,ay⟩
    have ak:=Z.out00 ay
    refine rn ?_
    refine cw_cond rfl (fun aa=>?_) (fun aa=>?_)
    ·skip
     have aA:=ct J aa
     refine cr ?_
     refine sQ 23 (yv rfl (H.g 6 1))<|sQ 24 zP<|sQ 6 yu (rn ?_)
     exact ⟨(i64.wrap (u+1)),(sI aA),(H.a 1 0 (fc rfl (H.a 13 2 (H.a 14 3 (H.a 15 4 fn_))))),(ak.sel [] rfl rfl)⟩
    ·skip
     have aB:=cf' J aa
     refine cw_skip ?_
     exact ⟨u,(sI aB),(H.a 1 0 (H.a 6 1 (H.a 13 2 (H.a 14 3 (H.a 15 4 fn_))))),(ak.sel [] rfl rfl)⟩
   rintro f w ⟨o,rfl,O,aE⟩
   refine cr ?_
   refine sQ 25 (zP rfl (O.g 15 4))<|sQ 15 yv (rn ?_)
   obtain rfl:=sI ar
   exact ⟨K13,Nat.lt_succ_self _,i+1,o,(O.a 1 0 (O.a 6 1 (O.a 13 2 (O.a 14 3 (fc (congrArg (Value.int .i64) (wr_succ ai hN)) fn_))))),(aE.sel [] rfl rfl),(by omega),aq⟩
  ·skip
   obtain rfl:k_=0:=by have h:=of_decide_eq_false W; omega
   refine cw_exit rfl ?_
   obtain rfl:=sI hL
   refine cq (cr ?_)
   refine sQ 26 (yv rfl (H.g 6 1))<|sQ 4 yu<|sQ 5 yu (rn (ct_ ?_))
   obtain ⟨rfl,rfl⟩:=pr2 (sI ao)
   exact e2 Tryz.results79 (P.sN [])

theorem QA (o:Int)  (u:World)  (O:ST u [] u [] []) {H:Bool} (J:CD o=some H) :
  CV Tryz.prog 80 #[vi o] u (fun v P=>v=.bool H∧ST u [] P [] []):=by
 unfold CD at J
 refine cv_of_cw 9 Tryz.func80 rfl Tryz.ntmps80 rfl ?_
 refine cq (cr ?_)
 refine sQ 2 yu (rn (cq (cr ?_)))
 refine sQ 3 yv<|sQ 4 zE<|sQ 5 yv ?_
 refine sgq 6 rfl rfl (uF_ 5) (fun Q=>yv) ?_
 refine sgq 7 rfl rfl (uF_ 5) (fun D=>(zE rfl (gv_of D))) ?_
 refine sQ 8 yO<|sQ 2 yu (rn (ct_ ?_))
 obtain rfl:=sI J
 exact e1 Tryz.results80 (O.sN [])

theorem N0 (c:Aj) (B:Option Addr) (J n:Nat) (D:World) (V:c.Gates.length=n) (W:ST D [] D [] [⟨B,(c.Gates.flatMap eN1)⟩]) {U:Int} {u:Bool} (H:Gj c=some (U,u)) :
  CV Tryz.prog 42 #[.agg #[vi c.Qubits,.slice B n J]] D (fun v Z=>v=.tuple #[vi U,.bool u]∧ST D [] Z [] []):=by
 subst V
 unfold Gj at H
 refine cv_of_cw 8 Tryz.func42 rfl Tryz.ntmps42 rfl ?_
 refine cq (cr ?_)
 refine sS 1 (yV [vi c.Qubits,.slice B c.Gates.length J] 2 W) ?_
 rintro _ w_ ⟨b,rfl,o⟩
 refine sQ 2 yu<|sQ 3 yu (rn (cq (cr ?_)))
 refine sQ 4 (yw 0 K17 K9 (o.c 0)) ?_
 obtain ⟨⟨O,P⟩,hc,H⟩:=bI H
 refine sc 5 rfl rfl (yc Rl (NX c CD B J c.Gates.length 80 (#[]) [] _ rfl Rp (fun w hw Q ab h_=>QA Q  w  hw h_) (o.inn0 [(true,0)] rfl) hc)) ?_
 rintro _ ae ⟨rfl,hd⟩
 have S:=o.out00 hd
 refine sQ 6 (ye (vi O))<|sQ 7 (ye (.bool P))<|sQ 2 yu<|sQ 3 yu (rn (ct_ ?_))
 obtain ⟨rfl,rfl⟩:=pr2 (sI H)
 exact e2 Tryz.results42 (S.sN [])

theorem Hk (c:Aj) (B:Option Addr) (c1 n:Nat) (w0:World) (hn:c.Gates.length=n) (hS:ST w0 [] w0 [] [⟨B,(c.Gates.flatMap eN1)⟩]) {r_:Ae} {ap:Bool} (hF:Bi c=some (r_,ap)) :
  CV Tryz.prog 13 #[.agg #[vi c.Qubits,.slice B n c1]] w0 (fun v w'=>∃ (B1:Option Addr) (c2:Nat) (B2:Option Addr) (c3:Nat),v=.tuple #[.agg #[vi r_.Qubits,.slice B1 r_.XImages.length c2,.slice B2 r_.ZImages.length c3],.bool ap]∧ST w0 [] w' [⟨B1,64,(r_.XImages.flatMap eN0),c2*3⟩,⟨B2,64,(r_.ZImages.flatMap eN0),c3*3⟩] []):=by
 subst hn
 unfold Bi at hF
 refine cv_of_cw 39 Tryz.func13 rfl Tryz.ntmps13 rfl ?_
 refine cq (cr ?_)
 refine sS 1 (yV [vi c.Qubits,.slice B c.Gates.length c1] 2 hS) ?_
 rintro _ w_ ⟨b,rfl,aM⟩
 let V9:List Value:=[vi 0,.slice none 0 0,.slice none 0 0]
 refine sS 2 (yN V9 3 aM K26) ?_
 rintro _ bM ⟨b1,rfl,ab⟩
 refine sQ 3 yu (rn (cq (cq (cr ?_))))
 refine sQ 10 (yw 0 K17 K9 (ab.c 0)) ?_
 obtain ⟨⟨aO,aQ⟩,hc,hF⟩:=bI hF
 refine sc 11 rfl rfl (yc Qk (N0 c B c1 c.Gates.length _ rfl (ab.inn0 [(true,0)] rfl) hc)) ?_
 rintro _ bN ⟨rfl,hd⟩
 have O:=ab.out00 hd
 refine sQ 9 yv<|sQ 12 (ye (vi aO))<|sQ 13 (ye (.bool aQ))<|sQ 4 yu<|sQ 5 yu (rn (cq (cr ?_)))
 refine sQ 14 yv<|sQ 15 yn<|sQ 16 yv ?_
 refine sgq 17 rfl rfl (uF_ 16) (fun hg=>yv) ?_
 refine sgq 18 rfl rfl (uF_ 16) (fun aR=>(Y_gt rfl (gv_of aR) rfl)) ?_
 refine sQ 19 yO (rn ?_)
 refine cw_cond rfl (fun hb=>?_) (fun hb=>?_)
 ·skip
  have aT:=ct hF hb
  refine cq (cr ?_)
  refine sQ 20 (Y_buildS (zs:=V9) (vs:=[]) (cs:=V9) K80 K26 rfl mpn rfl) ?_
  refine s0 (yK 1 3 0 O K3) ?_
  rintro _ bO ⟨rfl,aU⟩
  refine sQ 3 yu (rn (ct_ ?_))
  have aV:=aU.addNil 64
  have au:=aV.addNil 64
  obtain ⟨rfl,rfl⟩:=pr2 (sI aT)
  exact ret2 Tryz.results13 (rX K11 K3 (au.c 1)) rT ⟨none,0,none,0,rfl,(au.sN [2,3])⟩
 ·skip
  have H:=cf' hF hb
  refine cw_skip (cq (cr ?_))
  refine sQ 21 (yd (aD b) 0 0 K44 K1)<|sQ 22 (yz 0 K0 (O.c 0)) ?_
  obtain ⟨ac,aY,H⟩:=bI H
  refine sc 23 rfl rfl (yc Gl (Ge c.Qubits _  (O.inn0 [] rfl) aY)) ?_
  rintro _ bP ⟨B3,c4,B4,c5,rfl,a0⟩
  have a1:=O.out0 a0
  refine sS 6 (yN V9 3 a1 K26) ?_
  rintro _ bT ⟨b2,rfl,a3⟩
  refine s0 (yK 4 3 0 a3 K3) ?_
  rintro _ bU ⟨rfl,av⟩
  refine rn (cq (cq (cr ?_)))
  refine sQ 24 (yd (aD b) 0 0 K40 K23)<|sQ 25 (yz 1 K29 (av.c 0))<|sQ 26 (Y_len K15 rfl rfl)<|sQ 27 yv (rn ?_)
  obtain ⟨hN,H⟩:=chk_inv H
  obtain ⟨z,hz,a5⟩:=bI H
  refine cw_block ?_
  let O1:Ob:=⟨aD b,29,[vi c.Qubits,.slice B c.Gates.length c1],2⟩
  let O2:Ob:=⟨aD b1,25,V9,3⟩
  refine cw_loop (fun k f w=>∃ (i:Nat) (Qubits:Int) (XImages:List Aa) (ZImages:List Aa) (B5:Option Addr) (c6:Nat) (B6:Option Addr) (c7:Nat),FF f [(1,pt (aD b) 0),(2,pt (aD b1) 0),(6,pt (aD b2) 0),(25,.slice B c.Gates.length c1),(26,vi (c.Gates.length:Int)),(27,vi (i:Int))]∧ST w0 [] w [O1,O2,⟨aD b2,25,[vi Qubits,.slice B5 XImages.length c6,.slice B6 ZImages.length c7],3⟩,⟨B5,64,(XImages.flatMap eN0),c6*3⟩,⟨B6,64,(ZImages.flatMap eN0),c7*3⟩] [⟨B,(c.Gates.flatMap eN1)⟩]∧i+k=c.Gates.length∧forN (EC c) k i (Qubits,XImages,ZImages)=some z) c.Gates.length ⟨0,ac.Qubits,ac.XImages,ac.ZImages,B3,c4,B4,c5,(fc rfl (fc rfl (fc rfl (fc rfl (fc rfl (fc rfl fn_)))))),(av.sel [0,1,4,2,3] rfl rfl),Nat.zero_add _,hz⟩ ?_
  rintro k_ f w ⟨i,Qubits,XImages,ZImages,B5,c6,B6,c7,D,o,bX,hL⟩
  refine cq (cr ?_)
  refine sQ 28 (zL rfl (D.g 27 5) (D.g 26 4)) (rn (cq ?_))
  refine cw_cond rfl (fun ai=>?_) (fun ai=>?_)
  ·skip
   have aA:i<c.Gates.length:=by have h:=of_decide_eq_true ai; omega
   obtain ⟨K13,rfl⟩:∃ k2,k_=k2+1:=⟨k_-1,by omega⟩
   obtain ⟨y,u,a7⟩:=forN_go hL
   unfold EC at u
   refine cw_skip (cq (cw_block (cq (cr ?_))))
   obtain ⟨x,hx,u⟩:=bI u
   refine sQ 29 (yI B (i:Int) K15 K8 (gi_isSome eN4 rfl (o.rf (i:=0) rfl) hx) (getI_nn hx) (getI_ltI hx rfl) rfl (D.g 25 3) (D.g 27 5))<|sQ 30 (ya B ((i:Int).toNat*3) (c.Gates.flatMap eN1) [vi x.Kind,vi x.A,vi x.B] K27 K8 (o.rf (i:=0) rfl) rfl rfl (eN4 x) (gi_seg eN4 hx)) ?_
   refine sS 8 (yN [vi 0,vi 0,vi 0] 3 o K28) ?_
   rintro _ bZ ⟨b3,rfl,aB⟩
   refine s0 (yK 5 3 0 aB K8) ?_
   rintro _ b5 ⟨rfl,P⟩
   refine rn ?_
   obtain ⟨J,a8,u⟩:=bI u
   obtain ⟨aj,a9,u⟩:=bI u
   refine ra_start (P.se [0,1,3,4,5]).fn (by kernel_rfl) ?_
   have Q:=P.drew
   have ak:=Q.se [0,1,3,4,5]
   refine rq 1 32 rfl ak (fun _ q=>(yd (aD b) 0 0 K44 K1 rfl (D.g 1 0)))<|rq 2 33 rfl ak (fun _ q=>(yz 0 K0 (ST.c q 0)))<|rq 3 34 rfl ak (fun _ q=>(yw 0 K27 K8 (ST.c q 4))) ?_
   let V8:List Value:=[vi Qubits,.slice B5 XImages.length c6,.slice B6 ZImages.length c7]
   let O0:Ob:=⟨aD b2,25,V8,3⟩
   let O3:Ob:=⟨B5,64,(XImages.flatMap eN0),c6*3⟩
   let O4:Ob:=⟨B6,64,(ZImages.flatMap eN0),c7*3⟩
   let O5:Ob:=⟨aD b3,57,[vi x.Kind,vi x.A,vi x.B],3⟩
   refine rf_in (k:=3) (ts:=[6]) (L:=[O1,O2,O0,O3,O4,O5]) (G:=[]) [fQ 0 31 (.agg V8.toArray) O0] Q (flc rfl rfl rfl (fun _ _ _ _ ba h bb=>(yfl (yw 0 K11 K3 (ST.cfm h bb.1) rfl ((ba 6 (List.Mem.head _)).trans (D.g 6 2))) h)) fln) (fun hJ=>?_)
   refine rf_all [4] hJ (fun Z w h=>(ST.sel (ST.noF h) [0,1,3,4,5] rfl rfl)) (fun Z b6 bc S=>?_)
   refine rC 35 4 rfl (yc Ig (JG c.Qubits x _  (S.inn0 [] rfl) a8)) ?_ aN
   rintro _ bv ⟨B7,c8,B8,c9,rfl,bd⟩
   have aE:=S.out0 bd
   let O6:Ob:=⟨B7,64,(J.XImages.flatMap eN0),c8*3⟩
   let O7:Ob:=⟨B8,64,(J.ZImages.flatMap eN0),c9*3⟩
   have aF:ST w0 [] _ (O1::O2::O0::O3::O4::O5::O6::O7::(flL [fQ 0 31 (.agg V8.toArray) O0] Z++[])) [⟨B,(c.Gates.flatMap eN1)⟩]:=ST.rot (pre:=[O1,O2,O0,O3,O4,O5]) (G:=(flL [fQ 0 31 (.agg V8.toArray) O0] Z++[])) (xs:=[O6,O7]) aE
   refine rf_k (L:=[O1,O2,O0,O3,O4,O5,O6,O7]) bc aF (fun Z w h=>(ST.sel (ST.noF h) [0,1,3,4,5] rfl rfl)) ?_
   refine rf_force hJ (fun Z w h=>(ST.sel (ST.noF h) [0,1,3,4,5] rfl rfl)) (fun _=>?_)
   refine rf_out (fun bD U=>?_)
   refine rA [5] ?_
   refine rC 36 5 rfl (yc G8 (GF (Ae.mk Qubits XImages ZImages) J B5 c6 XImages.length B6 c7 ZImages.length B7 c8 J.XImages.length B8 c9 J.ZImages.length _ rfl rfl rfl rfl (U.inn0 [(false,3),(false,4),(false,6),(false,7)] rfl) a9)) ?_ aN
   rintro _ bE ⟨B9,bg,bh,bj,rfl,bk⟩
   have V:=U.out0 bk
   refine ⟨(V.se [0,1,3,4,5]),?_⟩
   refine rA [6] ?_
   refine rZ 6 rfl (yK 2 3 0 V K3 rfl (D.g 6 2)) ?_ aN
   rintro _ bF ⟨rfl,W⟩
   refine ⟨(W.se [0,1,3,4,5]),?_⟩
   refine ra_done (by kernel_rfl) ?_
   refine cr ?_
   refine sQ 37 (zP rfl (D.g 27 5))<|sQ 27 yv (rn ?_)
   obtain rfl:=sI u
   exact ⟨K13,Nat.lt_succ_self _,i+1,aj.Qubits,aj.XImages,aj.ZImages,B9,bg,bh,bj,(D.a 1 0 (D.a 2 1 (D.a 6 2 (D.a 25 3 (D.a 26 4 (fc (congrArg (Value.int .i64) (wr_succ aA hN)) fn_)))))),(W.sel [0,1,2,8,9] rfl rfl),(by omega),a7⟩
  ·skip
   obtain rfl:k_=0:=by have h:=of_decide_eq_false ai; omega
   refine cw_exit rfl ?_
   obtain rfl:=sI hL
   refine cq (cr ?_)
   refine sQ 38 (yw 0 K11 K3 (o.c 2) rfl (D.g 6 2)) ?_
   refine s0 (yK 1 3 0 o K3 rfl (D.g 2 1)) ?_
   rintro _ bH ⟨rfl,aa⟩
   refine sQ 3 yu (rn (ct_ ?_))
   obtain ⟨rfl,rfl⟩:=pr2 (sI a5)
   exact ret2 Tryz.results13 (rX K11 K3 (aa.c 1) (D.g 2 1)) rT ⟨B5,c6,B6,c7,rfl,(aa.sN [3,4])⟩

theorem Kt (H:List Aa) (s2:List Aa) (B:Option Addr) (c n:Nat) (W:Option Addr) (c1 n1:Nat) (w0:World) (hn:H.length=n) (ag:s2.length=n1) (hS:ST w0 [] w0 [] [⟨B,(H.flatMap eN0)⟩,⟨W,(s2.flatMap eN0)⟩]) {r_:Bool} (hF:Eo H s2=some r_) :
  CV Tryz.prog 71 #[.slice B n c,.slice W n1 c1] w0 (fun v w'=>v=.bool r_∧ST w0 [] w' [] []):=by
 subst hn
 subst ag
 unfold Eo at hF
 refine cv_of_cw 26 Tryz.func71 rfl Tryz.ntmps71 rfl ?_
 refine cq (cr ?_)
 refine sQ 4 yu (rn (cq (cq (cr ?_))))
 refine sQ 6 yv<|sQ 7 (Y_len K5 rfl rfl)<|sQ 8 yv<|sQ 9 (Y_len K5 rfl rfl)<|sQ 10 (Y_ne rfl rfl rfl) (rn ?_)
 refine cw_cond rfl (fun hb=>?_) (fun hb=>?_)
 ·skip
  have ai:=ct hF hb
  refine cq (cr ?_)
  refine sQ 4 yu (rn (ct_ ?_))
  obtain rfl:=sI ai
  exact e1 Tryz.results71 (hS.sN [])
 ·skip
  have P:=cf' hF hb
  refine cw_skip (cq (cq (cr ?_)))
  refine sQ 11 yv<|sQ 12 (Y_len K5 rfl rfl)<|sQ 13 yv (rn ?_)
  obtain ⟨hN,P⟩:=chk_inv P
  obtain ⟨z,hz,ab⟩:=bI P
  refine cw_block ?_
  refine cw_loop (fun k f w=>∃ (i:Nat),FF f [(0,.slice B H.length c),(1,.slice W s2.length c1),(12,vi (H.length:Int)),(13,vi (i:Int))]∧ST w0 [] w [] [⟨B,(H.flatMap eN0)⟩,⟨W,(s2.flatMap eN0)⟩]∧i+k=H.length∧forX (Gt H s2) k i ()=some z) H.length ⟨0,(fc rfl (fc rfl (fc rfl (fc rfl fn_)))),(hS.sel [] rfl rfl),Nat.zero_add _,hz⟩ ?_
  rintro k_ f w ⟨i,J,Q,ay,hL⟩
  refine cq (cr ?_)
  refine sQ 14 (zL rfl (J.g 13 3) (J.g 12 2)) (rn (cq ?_))
  refine cw_cond rfl (fun S=>?_) (fun S=>?_)
  ·skip
   have ac:i<H.length:=by have h:=of_decide_eq_true S; omega
   obtain ⟨K13,rfl⟩:∃ k2,k_=k2+1:=⟨k_-1,by omega⟩
   obtain ⟨y,u,ae⟩:=forX_go hL
   unfold Gt at u
   refine cw_skip (cq (cw_block (cq (cr ?_))))
   refine sQ 15 (yv rfl (J.g 13 3))<|sQ 5 yu (rn (cq ?_))
   obtain ⟨x,hx,u⟩:=bI u
   obtain ⟨D,O,u⟩:=bI u
   refine ra_start (Q.se []).fn (by kernel_rfl) ?_
   have U:=Q.drew
   have o:=U.se []
   refine rq 0 16 rfl o (fun _ q=>(yv rfl (J.g 0 0)))<|rq 1 17 rfl o (fun _ q=>yv)<|rq 2 18 rfl o (fun _ q=>(yI B (i:Int) K5 K2 (gi_isSome eN2 rfl (ST.rf q (i:=0) rfl) hx) (getI_nn hx) (getI_ltI hx rfl)))<|rq 3 19 rfl o (fun _ q=>(ya B ((i:Int).toNat*3) (H.flatMap eN0) [vi x.Phase,vi x.X,vi x.Z] K6 K2 (ST.rf q (i:=0) rfl) rfl rfl (eN2 x) (gi_seg eN2 hx)))<|rq 4 20 rfl o (fun _ q=>(yv rfl (J.g 1 1))) ?_
   refine rq 5 21 rfl o (fun _ q=>yv)<|rq 6 22 rfl o (fun _ q=>(yI W (i:Int) K5 K2 (gi_isSome eN2 rfl (ST.rf q (i:=1) rfl) O) (getI_nn O) (getI_ltI O rfl)))<|rq 7 23 rfl o (fun _ q=>(ya W ((i:Int).toNat*3) (s2.flatMap eN0) [vi D.Phase,vi D.X,vi D.Z] K6 K2 (ST.rf q (i:=1) rfl) rfl rfl (eN2 D) (gi_seg eN2 O)))<|rq 8 24 rfl o (fun _ q=>(Y_neA (xs:=#[vi x.Phase,vi x.X,vi x.Z]) (ys:=#[vi D.Phase,vi D.X,vi D.Z]) (b:=((x.Phase==D.Phase)&&((x.X==D.X)&&((x.Z==D.Z)&&true)))) GK rfl rfl rfl (eqr_struct (xs:=[vi x.Phase,vi x.X,vi x.Z]) (ys:=[vi D.Phase,vi D.X,vi D.Z]) K60 K70 (pts_sc K0 rfl rfl (eqr_int K16) (pts_sc K0 rfl rfl (eqr_int K16) (pts_sc K0 rfl rfl (eqr_int K16) pts_nil)))))) ?_
   refine ra_done (by kernel_rfl) ?_
   refine cw_cond rfl (fun V=>?_) (fun V=>?_)
   ·skip
    have ak:=ct u V
    refine cq (cr ?_)
    refine sQ 4 yu (rn (ct_ ?_))
    obtain rfl:=sI ak
    obtain rfl:=sI ae
    obtain rfl:=sI ab
    exact e1 Tryz.results71 (U.sN [])
   ·skip
    have al:=cf' u V
    refine cw_skip (cr ?_)
    refine sQ 25 (zP rfl (J.g 13 3))<|sQ 13 yv (rn ?_)
    obtain rfl:=sI al
    exact ⟨K13,Nat.lt_succ_self _,i+1,(J.a 0 0 (J.a 1 1 (J.a 12 2 (fc (congrArg (Value.int .i64) (wr_succ ac hN)) fn_)))),(U.sel [] rfl rfl),(by omega),ae⟩
  ·skip
   obtain rfl:k_=0:=by have h:=of_decide_eq_false S; omega
   refine cw_exit rfl ?_
   obtain rfl:=sI hL
   refine cq (cr ?_)
   refine sQ 4 yu (rn (ct_ ?_))
   obtain rfl:=sI ab
   exact e1 Tryz.results71 (Q.sN [])

theorem Ik (a:Ae) (b:Ae) (B:Option Addr) (c n:Nat) (O:Option Addr) (U n1:Nat) (P:Option Addr) (V n2:Nat) (Q:Option Addr) (W n3:Nat) (S:World) (hn:a.XImages.length=n) (Z:a.ZImages.length=n1) (aa:b.XImages.length=n2) (ab:b.ZImages.length=n3) (hS:ST S [] S [] [⟨B,(a.XImages.flatMap eN0)⟩,⟨O,(a.ZImages.flatMap eN0)⟩,⟨P,(b.XImages.flatMap eN0)⟩,⟨Q,(b.ZImages.flatMap eN0)⟩]) {r_:Bool} (J:CN a b=some r_) :
  CV Tryz.prog 37 #[.agg #[vi a.Qubits,.slice B n c,.slice O n1 U],.agg #[vi b.Qubits,.slice P n2 V,.slice Q n3 W]] S (fun v w'=>v=.bool r_∧ST S [] w' [] []):=by
 subst hn
 subst Z
 subst aa
 subst ab
 unfold CN at J
 refine cv_of_cw 24 Tryz.func37 rfl Tryz.ntmps37 rfl ?_
 refine cq (cr ?_)
 refine sS 2 (yV [vi a.Qubits,.slice B a.XImages.length c,.slice O a.ZImages.length U] 3 hS) ?_
 rintro _ w_ ⟨b1,rfl,ae⟩
 refine sS 3 (yV [vi b.Qubits,.slice P b.XImages.length V,.slice Q b.ZImages.length W] 3 ae) ?_
 rintro _ ay ⟨b2,rfl,o⟩
 refine sQ 4 yu (rn (cq (cr ?_)))
 refine sQ 5 (yd (aD b1) 0 0 K22 K1)<|sQ 6 (yz 0 K0 (o.c 0))<|sQ 7 (yd (aD b2) 0 0 K22 K1)<|sQ 8 (yz 0 K0 (o.c 1))<|sQ 9 zE<|sQ 10 yv ?_
 refine sgq 11 rfl rfl (uT_ 10) (fun hg=>(yd (aD b1) 0 0 K18 K4)) ?_
 refine sgq 12 rfl rfl (uT_ 10) (fun ag=>(yz 1 K7 (o.c 0) rfl (gv_of ag))) ?_
 refine sgq 13 rfl rfl (uT_ 10) (fun aA=>(yd (aD b2) 0 0 K18 K4)) ?_
 refine sgq 14 rfl rfl (uT_ 10) (fun ah=>(yz 1 K7 (o.c 1) rfl (gv_of ah))) ?_
 obtain ⟨ai,hc,J⟩:=bI J
 refine sgc 15 (v:=.bool ai) (F:=o.fn) rfl rfl (uT_ 10) o (fun D=>(yc Lj (CV.mono (Kt a.XImages b.XImages B c a.XImages.length P V b.XImages.length _ rfl rfl (o.inn0 [(true,0),(true,2)] rfl) (gb_inv hc D)) (by rintro _ _ ⟨rfl,h⟩; exact ⟨rfl,o.out00 h⟩)) rfl (mc (gv_of D) (mc (gv_of D) mn)))) ?_
 rintro aB u
 refine sQ 16 yA<|sQ 17 yv ?_
 refine sgq 18 rfl rfl (uT_ 17) (fun aE=>(yd (aD b1) 0 0 K20 K4)) ?_
 refine sgq 19 rfl rfl (uT_ 17) (fun aj=>(yz 2 K7 (u.c 0) rfl (gv_of aj))) ?_
 refine sgq 20 rfl rfl (uT_ 17) (fun aF=>(yd (aD b2) 0 0 K20 K4)) ?_
 refine sgq 21 rfl rfl (uT_ 17) (fun ak=>(yz 2 K7 (u.c 1) rfl (gv_of ak))) ?_
 obtain ⟨al,am,J⟩:=bI J
 refine sgc 22 (v:=.bool al) (F:=u.fn) rfl rfl (uT_ 17) u (fun H=>(yc Lj (CV.mono (Kt a.ZImages b.ZImages O U a.ZImages.length Q W b.ZImages.length _ rfl rfl (u.inn0 [(true,1),(true,3)] rfl) (gb_inv am H)) (by rintro _ _ ⟨rfl,h⟩; exact ⟨rfl,u.out00 h⟩)) rfl (mc (gv_of H) (mc (gv_of H) mn)))) ?_
 rintro aG an
 refine sQ 23 yA<|sQ 4 yu (rn (ct_ ?_))
 obtain rfl:=sI J
 exact e1 Tryz.results37 (an.sN [])

theorem Qe (a:Aj) (b:Aj) (B:Option Addr) (c n:Nat) (U:Option Addr) (W n1:Nat) (V:World) (hn:a.Gates.length=n) (Z:b.Gates.length=n1) (hS:ST V [] V [] [⟨B,(a.Gates.flatMap eN1)⟩,⟨U,(b.Gates.flatMap eN1)⟩]) {r_:Bool} {Q:Bool} (H:E3 a b=some (r_,Q)) :
  CV Tryz.prog 10 #[.agg #[vi a.Qubits,.slice B n c],.agg #[vi b.Qubits,.slice U n1 W]] V (fun v w'=>v=.tuple #[.bool r_,.bool Q]∧ST V [] w' [] []):=by
 subst hn
 subst Z
 unfold E3 at H
 refine cv_of_cw 36 Tryz.func10 rfl Tryz.ntmps10 rfl ?_
 refine cq (cr ?_)
 refine sS 2 (yV [vi a.Qubits,.slice B a.Gates.length c] 2 hS) ?_
 rintro _ w_ ⟨b1,rfl,aa⟩
 refine sS 3 (yV [vi b.Qubits,.slice U b.Gates.length W] 2 aa) ?_
 rintro _ aL ⟨b2,rfl,J⟩
 refine sQ 4 yu<|sQ 5 yu (rn (cq (cr ?_)))
 refine sQ 11 (yw 0 K17 K9 (J.c 0)) ?_
 obtain ⟨⟨u,ab⟩,hc,H⟩:=bI H
 refine sc 12 rfl rfl (yc GU (Hk a B c a.Gates.length _ rfl (J.inn0 [(true,0)] rfl) hc)) ?_
 rintro _ aO ⟨B2,c2,B3,c3,rfl,hd⟩
 have ac:=J.out0 hd
 refine sQ 10 yv<|sQ 13 (ye (.agg #[vi u.Qubits,.slice B2 u.XImages.length c2,.slice B3 u.ZImages.length c3]))<|sQ 14 (ye (.bool ab)) ?_
 refine sS 6 (yN [vi 0,.slice none 0 0,.slice none 0 0] 3 ac K26) ?_
 rintro _ aQ ⟨b3,rfl,ae⟩
 refine s0 (yK 4 3 0 ae K3) ?_
 rintro _ aR ⟨rfl,O⟩
 refine sQ 7 yu (rn (cq (cr ?_)))
 refine sQ 16 (yw 0 K17 K9 (O.c 1)) ?_
 obtain ⟨⟨D,af⟩,ag,H⟩:=bI H
 refine sc 17 rfl rfl (yc GU (Hk b U W b.Gates.length _ rfl (O.inn0 [(true,1)] rfl) ag)) ?_
 rintro _ aT ⟨B4,c4,B5,c5,rfl,ah⟩
 have ai:=O.out0 ah
 refine sQ 15 yv<|sQ 18 (ye (.agg #[vi D.Qubits,.slice B4 D.XImages.length c4,.slice B5 D.ZImages.length c5]))<|sQ 19 (ye (.bool af)) ?_
 refine sS 8 (yN [vi 0,.slice none 0 0,.slice none 0 0] 3 ai K26) ?_
 rintro _ aU ⟨b4,rfl,aj⟩
 refine s0 (yK 7 3 0 aj K3) ?_
 rintro _ aV ⟨rfl,o⟩
 refine sQ 9 yu (rn (cq (cq (cr ?_))))
 refine sQ 20 yv<|sQ 21 yn<|sQ 22 yv ?_
 refine sgq 23 rfl rfl (uF_ 22) (fun hg=>yv) ?_
 refine sgq 24 rfl rfl (uF_ 22) (fun ak=>(yn rfl (gv_of ak))) ?_
 refine sQ 25 yO<|sQ 26 yv ?_
 refine sgq 27 rfl rfl (uF_ 26) (fun aY=>(yd (aD b1) 0 0 K44 K1)) ?_
 refine sgq 28 rfl rfl (uF_ 26) (fun al=>(yz 0 K0 (o.c 0) rfl (gv_of al))) ?_
 refine sgq 29 rfl rfl (uF_ 26) (fun a0=>(yd (aD b2) 0 0 K44 K1)) ?_
 refine sgq 30 rfl rfl (uF_ 26) (fun am=>(yz 0 K0 (o.c 1) rfl (gv_of am))) ?_
 refine sgq 31 rfl rfl (uF_ 26) (fun S=>(Y_ne rfl (gv_of S) (gv_of S))) ?_
 refine sQ 32 yO (rn ?_)
 refine cw_cond rfl (fun hb=>?_) (fun hb=>?_)
 ·skip
  have an:=ct H hb
  refine cq (cr ?_)
  refine sQ 4 yu<|sQ 5 yu (rn (ct_ ?_))
  obtain ⟨rfl,rfl⟩:=pr2 (sI an)
  exact e2 Tryz.results10 (o.sN [])
 ·skip
  have P:=cf' H hb
  refine cw_skip (cq (cr ?_))
  refine sQ 33 (yw 0 K11 K3 (o.c 4))<|sQ 34 (yw 0 K11 K3 (o.c 7)) ?_
  obtain ⟨a1,ao,P⟩:=bI P
  refine sc 35 rfl rfl (yc Ie (Ik u D B2 c2 u.XImages.length B3 c3 u.ZImages.length B4 c4 D.XImages.length B5 c5 D.ZImages.length _ rfl rfl rfl rfl (o.inn0 [(false,2),(false,3),(false,5),(false,6)] rfl) ao)) ?_
  rintro _ a2 ⟨rfl,ap⟩
  have aq:=o.out00 ap
  refine sQ 4 yu<|sQ 5 yu (rn (ct_ ?_))
  obtain ⟨rfl,rfl⟩:=pr2 (sI P)
  exact e2 Tryz.results10 (aq.sN [])

theorem T5 (n:Int) (g:Ab)  (w0:World)  (hS:ST w0 [] w0 [] []) {r_:Bool} (W:Fc n g=some r_) :
  CV Tryz.prog 118 #[vi n,.agg #[vi g.Kind,vi g.A,vi g.B]] w0 (fun v w'=>v=.bool r_∧ST w0 [] w' [] []):=by
 unfold Fc at W
 refine cv_of_cw 55 Tryz.func118 rfl Tryz.ntmps118 rfl ?_
 refine cq (cr ?_)
 refine sS 3 (yV [vi g.Kind,vi g.A,vi g.B] 3 hS) ?_
 rintro _ w_ ⟨b,rfl,P⟩
 refine sQ 4 yu (rn (cq (cw_block (cq (cr ?_)))))
 refine sQ 6 (yd (aD b) 0 0 K42 K1)<|sQ 7 (yz 0 K0 (P.c 0)) ?_
 obtain ⟨aI,hc,W⟩:=bI W
 refine sc 8 rfl rfl (yc K58 (BJ g.Kind 1 8 _  (P.inn0 [] rfl) hc)) ?_
 rintro _ aJ ⟨rfl,hd⟩
 have u:=P.out00 hd
 refine sQ 5 yu (rn ?_)
 refine cw_cond rfl (fun hb=>?_) (fun hb=>?_)
 ·skip
  have Q:=ct W hb
  refine cq (cr ?_)
  refine sQ 9 (yd (aD b) 0 0 K24 K1)<|sQ 10 (yz 1 K0 (u.c 0))<|sQ 11 yv<|sQ 12 zM ?_
  obtain ⟨aK,ah,Q⟩:=bI Q
  refine sc 13 rfl rfl (yc K58 (BJ g.A 0 (i64.wrap (n-1)) _  (u.inn0 [] rfl) ah)) ?_
  rintro _ aL ⟨rfl,ai⟩
  have Z:=u.out00 ai
  refine sQ 14 yv ?_
  refine sgq 15 rfl rfl (uT_ 14) (fun hg=>(yd (aD b) 0 0 K38 K1)) ?_
  refine sgq 16 rfl rfl (uT_ 14) (fun aj=>(yz 2 K0 (Z.c 0) rfl (gv_of aj))) ?_
  refine sgq 17 rfl rfl (uT_ 14) (fun ak=>(zE rfl (gv_of ak))) ?_
  refine sQ 18 yA<|sQ 4 yu (rn (ct_ ?_))
  obtain rfl:=sI Q
  exact e1 Tryz.results118 (Z.sN [])
 ·skip
  have J:=cf' W hb
  refine cq (cr ?_)
  refine sQ 20 (yd (aD b) 0 0 K42 K1)<|sQ 21 (yz 0 K0 (u.c 0)) ?_
  obtain ⟨aM,al,J⟩:=bI J
  refine sc 22 rfl rfl (yc K58 (BJ g.Kind 9 11 _  (u.inn0 [] rfl) al)) ?_
  rintro _ aO ⟨rfl,am⟩
  have o:=u.out00 am
  refine sQ 19 yu (rn ?_)
  refine cw_cond rfl (fun S=>?_) (fun S=>?_)
  ·skip
   have D:=ct J S
   refine cq (cr ?_)
   refine sQ 23 (yd (aD b) 0 0 K24 K1)<|sQ 24 (yz 1 K0 (o.c 0))<|sQ 25 yv<|sQ 26 zM ?_
   obtain ⟨aQ,an,D⟩:=bI D
   refine sc 27 rfl rfl (yc K58 (BJ g.A 0 (i64.wrap (n-1)) _  (o.inn0 [] rfl) an)) ?_
   rintro _ aR ⟨rfl,ao⟩
   have H:=o.out00 ao
   refine sQ 28 yv ?_
   refine sgq 29 rfl rfl (uT_ 28) (fun aT=>(yd (aD b) 0 0 K38 K1)) ?_
   refine sgq 30 rfl rfl (uT_ 28) (fun ap=>(yz 2 K0 (H.c 0) rfl (gv_of ap))) ?_
   refine sgq 31 rfl rfl (uT_ 28) (fun aU=>yv) ?_
   refine sgq 32 rfl rfl (uT_ 28) (fun aq=>(zM rfl (gv_of aq))) ?_
   obtain ⟨ar,au,D⟩:=bI D
   refine sgc 33 (v:=.bool ar) (F:=H.fn) rfl rfl (uT_ 28) H (fun U=>(yc K58 (CV.mono (BJ g.B 0 (i64.wrap (n-1)) _  (H.inn0 [] rfl) (gb_inv au U)) (by rintro _ _ ⟨rfl,h⟩; exact ⟨rfl,H.out00 h⟩)) rfl (mc (gv_of U) (mc rfl (mc (gv_of U) mn))))) ?_
   rintro aV V
   refine sQ 34 yA<|sQ 35 yv ?_
   refine sgq 36 rfl rfl (uT_ 35) (fun aY=>(yd (aD b) 0 0 K24 K1)) ?_
   refine sgq 37 rfl rfl (uT_ 35) (fun av=>(yz 1 K0 (V.c 0) rfl (gv_of av))) ?_
   refine sgq 38 rfl rfl (uT_ 35) (fun aA=>(yd (aD b) 0 0 K38 K1)) ?_
   refine sgq 39 rfl rfl (uT_ 35) (fun aa=>(yz 2 K0 (V.c 0) rfl (gv_of aa))) ?_
   refine sgq 40 rfl rfl (uT_ 35) (fun O=>(Y_ne rfl (gv_of O) (gv_of O))) ?_
   refine sQ 41 yA<|sQ 4 yu (rn (ct_ ?_))
   obtain rfl:=sI D
   exact e1 Tryz.results118 (V.sN [])
  ·skip
   have aw:=cf' J S
   refine cw_skip (cq (cr ?_))
   refine sQ 42 (yd (aD b) 0 0 K42 K1)<|sQ 43 (yz 0 K0 (o.c 0))<|sQ 44 zE<|sQ 45 yv ?_
   refine sgq 46 rfl rfl (uT_ 45) (fun aB=>(yd (aD b) 0 0 K24 K1)) ?_
   refine sgq 47 rfl rfl (uT_ 45) (fun ab=>(yz 1 K0 (o.c 0) rfl (gv_of ab))) ?_
   refine sgq 48 rfl rfl (uT_ 45) (fun ac=>(zE rfl (gv_of ac))) ?_
   refine sQ 49 yA<|sQ 50 yv ?_
   refine sgq 51 rfl rfl (uT_ 50) (fun aE=>(yd (aD b) 0 0 K38 K1)) ?_
   refine sgq 52 rfl rfl (uT_ 50) (fun ae=>(yz 2 K0 (o.c 0) rfl (gv_of ae))) ?_
   refine sgq 53 rfl rfl (uT_ 50) (fun af=>(zE rfl (gv_of af))) ?_
   refine sQ 54 yA<|sQ 4 yu (rn (ct_ ?_))
   obtain rfl:=sI aw
   exact e1 Tryz.results118 (o.sN [])

theorem Sa (c:Aj) (B:Option Addr) (c1 n:Nat) (U:World) (hn:c.Gates.length=n) (hS:ST U [] U [] [⟨B,(c.Gates.flatMap eN1)⟩]) {r_:Bool} (V:Ef c=some r_) :
  CV Tryz.prog 97 #[.agg #[vi c.Qubits,.slice B n c1]] U (fun v w'=>v=.bool r_∧ST U [] w' [] []):=by
 subst hn
 unfold Ef at V
 refine cv_of_cw 28 Tryz.func97 rfl Tryz.ntmps97 rfl ?_
 refine cq (cr ?_)
 refine sS 1 (yV [vi c.Qubits,.slice B c.Gates.length c1] 2 hS) ?_
 rintro _ w_ ⟨b,rfl,O⟩
 refine sQ 2 yu (rn (cq (cq (cr ?_))))
 refine sQ 5 (yd (aD b) 0 0 K44 K1)<|sQ 6 (yz 0 K0 (O.c 0)) ?_
 obtain ⟨aw,hc,V⟩:=bI V
 refine sc 7 rfl rfl (yc K58 (BJ c.Qubits 1 5 _  (O.inn0 [] rfl) hc)) ?_
 rintro _ ay ⟨rfl,hd⟩
 have u:=O.out00 hd
 refine sQ 8 yn<|sQ 9 yv ?_
 refine sgq 10 rfl rfl (uF_ 9) (fun hg=>(yd (aD b) 0 0 K40 K23)) ?_
 refine sgq 11 rfl rfl (uF_ 9) (fun af=>(yz 1 K29 (u.c 0) rfl (gv_of af))) ?_
 refine sgq 12 rfl rfl (uF_ 9) (fun ag=>(Y_len K15 rfl (gv_of ag))) ?_
 refine sgq 13 rfl rfl (uF_ 9) (fun ah=>(Y_gt rfl (gv_of ah) rfl)) ?_
 refine sQ 14 yO (rn ?_)
 refine cw_cond rfl (fun hb=>?_) (fun hb=>?_)
 ·skip
  have ai:=ct V hb
  refine cq (cr ?_)
  refine sQ 2 yu (rn (ct_ ?_))
  obtain rfl:=sI ai
  exact e1 Tryz.results97 (u.sN [])
 ·skip
  have P:=cf' V hb
  refine cw_skip (cq (cq (cr ?_)))
  refine sQ 15 (yd (aD b) 0 0 K40 K23)<|sQ 16 (yz 1 K29 (u.c 0))<|sQ 17 (Y_len K15 rfl rfl)<|sQ 18 yv (rn ?_)
  obtain ⟨hN,P⟩:=chk_inv P
  obtain ⟨z,hz,W⟩:=bI P
  refine cw_block ?_
  refine cw_loop (fun k f w=>∃ (i:Nat),FF f [(1,pt (aD b) 0),(16,.slice B c.Gates.length c1),(17,vi (c.Gates.length:Int)),(18,vi (i:Int))]∧ST U [] w [⟨aD b,29,[vi c.Qubits,.slice B c.Gates.length c1],2⟩] [⟨B,(c.Gates.flatMap eN1)⟩]∧i+k=c.Gates.length∧forX (GG c) k i ()=some z) c.Gates.length ⟨0,(fc rfl (fc rfl (fc rfl (fc rfl fn_)))),(u.sel [0] rfl rfl),Nat.zero_add _,hz⟩ ?_
  rintro k_ f w ⟨i,D,H,aE,hL⟩
  refine cq (cr ?_)
  refine sQ 19 (zL rfl (D.g 18 3) (D.g 17 2)) (rn (cq ?_))
  refine cw_cond rfl (fun Q=>?_) (fun Q=>?_)
  ·skip
   have Z:i<c.Gates.length:=by have h:=of_decide_eq_true Q; omega
   obtain ⟨K13,rfl⟩:∃ k2,k_=k2+1:=⟨k_-1,by omega⟩
   obtain ⟨y,o,aa⟩:=forX_go hL
   unfold GG at o
   refine cw_skip (cq (cw_block (cq (cr ?_))))
   obtain ⟨x,hx,o⟩:=bI o
   refine sQ 20 (yI B (i:Int) K15 K8 (gi_isSome eN4 rfl (H.rf (i:=0) rfl) hx) (getI_nn hx) (getI_ltI hx rfl) rfl (D.g 16 1) (D.g 18 3))<|sQ 21 (ya B ((i:Int).toNat*3) (c.Gates.flatMap eN1) [vi x.Kind,vi x.A,vi x.B] K27 K8 (H.rf (i:=0) rfl) rfl rfl (eN4 x) (gi_seg eN4 hx)) ?_
   refine sS 4 (yN [vi 0,vi 0,vi 0] 3 H K28) ?_
   rintro _ aG ⟨b1,rfl,ak⟩
   refine s0 (yK 1 3 0 ak K8) ?_
   rintro _ aI ⟨rfl,J⟩
   refine rn (cq (cr ?_))
   refine sQ 22 (yd (aD b) 0 0 K44 K1 rfl (D.g 1 0))<|sQ 23 (yz 0 K0 (J.c 0))<|sQ 24 (yw 0 K27 K8 (J.c 1)) ?_
   obtain ⟨aJ,al,o⟩:=bI o
   refine sc 25 rfl rfl (yc PQ (T5 c.Qubits x _  (J.inn0 [] rfl) al)) ?_
   rintro _ aK ⟨rfl,am⟩
   have ab:=J.out00 am
   refine sQ 26 yn (rn ?_)
   refine cw_cond rfl (fun S=>?_) (fun S=>?_)
   ·skip
    have an:=ct o S
    refine cq (cr ?_)
    refine sQ 2 yu (rn (ct_ ?_))
    obtain rfl:=sI an
    obtain rfl:=sI aa
    obtain rfl:=sI W
    exact e1 Tryz.results97 (ab.sN [])
   ·skip
    have ao:=cf' o S
    refine cw_skip (cr ?_)
    refine sQ 27 (zP rfl (D.g 18 3))<|sQ 18 yv (rn ?_)
    obtain rfl:=sI ao
    exact ⟨K13,Nat.lt_succ_self _,i+1,(D.a 1 0 (D.a 16 1 (D.a 17 2 (fc (congrArg (Value.int .i64) (wr_succ Z hN)) fn_)))),(ab.sel [0] rfl rfl),(by omega),aa⟩
  ·skip
   obtain rfl:k_=0:=by have h:=of_decide_eq_false Q; omega
   refine cw_exit rfl ?_
   obtain rfl:=sI hL
   refine cq (cr ?_)
   refine sQ 2 yu (rn (ct_ ?_))
   obtain rfl:=sI W
   exact e1 Tryz.results97 (H.sN [])

theorem Oc (c:Aj) (lo:Int) (hi:Int) (B:Option Addr) (Z n:Nat) (Q:World) (hn:c.Gates.length=n) (hS:ST Q [] Q [] [⟨B,(c.Gates.flatMap eN1)⟩]) {r_:Int} (hF:FJ c lo hi=some r_) :
  CV Tryz.prog 98 #[.agg #[vi c.Qubits,.slice B n Z],vi lo,vi hi] Q (fun v w'=>v=vi r_∧ST Q [] w' [] []):=by
 subst hn
 unfold FJ at hF
 refine cv_of_cw 26 Tryz.func98 rfl Tryz.ntmps98 rfl ?_
 refine cq (cr ?_)
 refine sS 3 (yV [vi c.Qubits,.slice B c.Gates.length Z] 2 hS) ?_
 rintro _ w_ ⟨b,rfl,S⟩
 refine sQ 6 yu (rn (cq (cr ?_)))
 refine sQ 7 yu (rn (cq (cq (cr ?_))))
 refine sQ 10 (yd (aD b) 0 0 K40 K23)<|sQ 11 (yz 1 K29 (S.c 0))<|sQ 12 (Y_len K15 rfl rfl)<|sQ 13 yv (rn ?_)
 obtain ⟨hN,hF⟩:=chk_inv hF
 obtain ⟨z,hz,ae⟩:=bI hF
 refine cw_block ?_
 refine cw_loop (fun k f w=>∃ (i:Nat) (U:Int),FF f [(1,vi lo),(2,vi hi),(7,vi U),(11,.slice B c.Gates.length Z),(12,vi (c.Gates.length:Int)),(13,vi (i:Int))]∧ST Q [] w [] [⟨B,(c.Gates.flatMap eN1)⟩]∧i+k=c.Gates.length∧forN (En c lo hi) k i U=some z) c.Gates.length ⟨0,0,(fc rfl (fc rfl (fc rfl (fc rfl (fc rfl (fc rfl fn_)))))),(S.sel [] rfl rfl),Nat.zero_add _,hz⟩ ?_
 rintro k_ f w ⟨i,U,o,H,av,hL⟩
 refine cq (cr ?_)
 refine sQ 14 (zL rfl (o.g 13 5) (o.g 12 4)) (rn (cq ?_))
 refine cw_cond rfl (fun J=>?_) (fun J=>?_)
 ·skip
  have V:i<c.Gates.length:=by have h:=of_decide_eq_true J; omega
  obtain ⟨K13,rfl⟩:∃ k2,k_=k2+1:=⟨k_-1,by omega⟩
  obtain ⟨y,hb,ag⟩:=forN_go hL
  unfold En at hb
  refine cw_skip (cq ?_)
  obtain ⟨z1,u,ah⟩:=bI hb
  refine cw_mid (fun f w=>∃ (n2:Int),n2=z1∧FF f [(1,vi lo),(2,vi hi),(7,vi n2),(11,.slice B c.Gates.length Z),(12,vi (c.Gates.length:Int)),(13,vi (i:Int))]∧ST Q [] w [] [⟨B,(c.Gates.flatMap eN1)⟩]) ?_ ?_
  ·skip
   refine cw_block (cq (cr ?_))
   obtain ⟨x,hx,u⟩:=bI u
   refine sQ 15 (yI B (i:Int) K15 K8 (gi_isSome eN4 rfl (H.rf (i:=0) rfl) hx) (getI_nn hx) (getI_ltI hx rfl) rfl (o.g 11 3) (o.g 13 5))<|sQ 16 (ya B ((i:Int).toNat*3) (c.Gates.flatMap eN1) [vi x.Kind,vi x.A,vi x.B] K27 K8 (H.rf (i:=0) rfl) rfl rfl (eN4 x) (gi_seg eN4 hx)) ?_
   refine sS 9 (yN [vi 0,vi 0,vi 0] 3 H K28) ?_
   rintro _ aA ⟨b1,rfl,ai⟩
   refine s0 (yK 0 3 0 ai K8) ?_
   rintro _ aE ⟨rfl,O⟩
   refine rn (cq (cr ?_))
   refine sQ 17 (yd (aD b1) 0 0 K42 K1)<|sQ 18 (yz 0 K0 (O.c 0))<|sQ 19 (yv rfl (o.g 1 0))<|sQ 20 (yv rfl (o.g 2 1)) ?_
   obtain ⟨aF,hc,u⟩:=bI u
   refine sc 21 rfl rfl (yc K58 (BJ x.Kind lo hi _  (O.inn0 [] rfl) hc)) ?_
   rintro _ aG ⟨rfl,hd⟩
   have W:=O.out00 hd
   refine rn ?_
   refine cw_cond rfl (fun P=>?_) (fun P=>?_)
   ·skip
    have aj:=ct u P
    refine cr ?_
    refine sQ 22 (yv rfl (o.g 7 2))<|sQ 23 zP<|sQ 7 yu (rn ?_)
    exact ⟨(i64.wrap (U+1)),(sI aj),(o.a 1 0 (o.a 2 1 (fc rfl (o.a 11 3 (o.a 12 4 (o.a 13 5 fn_)))))),(W.sel [] rfl rfl)⟩
   ·skip
    have ak:=cf' u P
    refine cw_skip ?_
    exact ⟨U,(sI ak),(o.a 1 0 (o.a 2 1 (o.a 7 2 (o.a 11 3 (o.a 12 4 (o.a 13 5 fn_)))))),(W.sel [] rfl rfl)⟩
  rintro f w ⟨n2,rfl,D,al⟩
  refine cr ?_
  refine sQ 24 (zP rfl (D.g 13 5))<|sQ 13 yv (rn ?_)
  obtain rfl:=sI ah
  exact ⟨K13,Nat.lt_succ_self _,i+1,n2,(D.a 1 0 (D.a 2 1 (D.a 7 2 (D.a 11 3 (D.a 12 4 (fc (congrArg (Value.int .i64) (wr_succ V hN)) fn_)))))),(al.sel [] rfl rfl),(by omega),ag⟩
 ·skip
  obtain rfl:k_=0:=by have h:=of_decide_eq_false J; omega
  refine cw_exit rfl ?_
  obtain rfl:=sI hL
  refine cq (cr ?_)
  refine sQ 25 (yv rfl (o.g 7 2))<|sQ 6 yu (rn (ct_ ?_))
  obtain rfl:=sI ae
  exact e1 Tryz.results98 (H.sN [])

theorem QC (c:Aj) (B:Option Addr) (O n:Nat) (P:World) (Z:c.Gates.length=n) (hS:ST P [] P [] [⟨B,(c.Gates.flatMap eN1)⟩]) {W:Int} {H:Bool} (J:G2 c=some (W,H)) :
  CV Tryz.prog 72 #[.agg #[vi c.Qubits,.slice B n O]] P (fun v w'=>v=.tuple #[vi W,.bool H]∧ST P [] w' [] []):=by
 subst Z
 unfold G2 at J
 refine cv_of_cw 9 Tryz.func72 rfl Tryz.ntmps72 rfl ?_
 refine cq (cr ?_)
 refine sS 1 (yV [vi c.Qubits,.slice B c.Gates.length O] 2 hS) ?_
 rintro _ w_ ⟨b,rfl,u⟩
 refine sQ 2 yu<|sQ 3 yu (rn (cq (cq (cr ?_))))
 refine sQ 4 (yw 0 K17 K9 (u.c 0)) ?_
 obtain ⟨ac,hc,J⟩:=bI J
 refine sc 5 rfl rfl (yc T3 (Sa c B O c.Gates.length _ rfl (u.inn0 [(true,0)] rfl) hc)) ?_
 rintro _ ae ⟨rfl,hd⟩
 have o:=u.out00 hd
 refine sQ 6 yn (rn ?_)
 refine cw_cond rfl (fun hb=>?_) (fun hb=>?_)
 ·skip
  have Q:=ct J hb
  refine cq (cr ?_)
  refine sQ 2 yu<|sQ 3 yu (rn (ct_ ?_))
  obtain ⟨rfl,rfl⟩:=pr2 (sI Q)
  exact e2 Tryz.results72 (o.sN [])
 ·skip
  have D:=cf' J hb
  refine cw_skip (cq (cr ?_))
  refine sQ 7 (yw 0 K17 K9 (o.c 0)) ?_
  obtain ⟨af,S,D⟩:=bI D
  refine sc 8 rfl rfl (yc PI (Oc c 7 8 B O c.Gates.length _ rfl (o.inn0 [(true,0)] rfl) S)) ?_
  rintro _ ag ⟨rfl,U⟩
  have V:=o.out00 U
  refine sQ 2 yu<|sQ 3 yu (rn (ct_ ?_))
  obtain ⟨rfl,rfl⟩:=pr2 (sI D)
  exact e2 Tryz.results72 (V.sN [])

theorem KU (c:Aj) (B:Option Addr) (H n:Nat) (u:World) (U:c.Gates.length=n) (V:ST u [] u [] [⟨B,(c.Gates.flatMap eN1)⟩]) {S:Bool} (D:Df c=some S) :
  CV Tryz.prog 38 #[.agg #[vi c.Qubits,.slice B n H]] u (fun v W=>v=.bool S∧ST u [] W [] []):=by
 subst U
 unfold Df at D
 refine cv_of_cw 15 Tryz.func38 rfl Tryz.ntmps38 rfl ?_
 refine cq (cr ?_)
 refine sS 1 (yV [vi c.Qubits,.slice B c.Gates.length H] 2 V) ?_
 rintro _ w_ ⟨b,rfl,o⟩
 refine sQ 2 yu (rn (cq (cr ?_)))
 refine sQ 6 (yw 0 K17 K9 (o.c 0)) ?_
 obtain ⟨⟨J,O⟩,hc,D⟩:=bI D
 refine sc 7 rfl rfl (yc SG (QC c B H c.Gates.length _ rfl (o.inn0 [(true,0)] rfl) hc)) ?_
 rintro _ Z ⟨rfl,hd⟩
 have P:=o.out00 hd
 refine sQ 5 yv<|sQ 8 (ye (vi J))<|sQ 9 (ye (.bool O))<|sQ 3 yu<|sQ 4 yu (rn (cq (cr ?_)))
 refine sQ 10 yv<|sQ 11 yv ?_
 refine sgq 12 rfl rfl (uT_ 11) (fun hg=>yv) ?_
 refine sgq 13 rfl rfl (uT_ 11) (fun Q=>(zE rfl (gv_of Q))) ?_
 refine sQ 14 yA<|sQ 2 yu (rn (ct_ ?_))
 obtain rfl:=sI D
 exact e1 Tryz.results38 (P.sN [])

theorem PT (a:Ae) (b:Ae) (B:Option Addr) (c n:Nat) (B1:Option Addr) (c1 n1:Nat) (B2:Option Addr) (c2 n2:Nat) (B3:Option Addr) (c3 n3:Nat) (w0:World) (hn:a.XImages.length=n) (au:a.ZImages.length=n1) (av:b.XImages.length=n2) (aw:b.ZImages.length=n3) (hS:ST w0 [] w0 [] [⟨B,(a.XImages.flatMap eN0)⟩,⟨B1,(a.ZImages.flatMap eN0)⟩,⟨B2,(b.XImages.flatMap eN0)⟩,⟨B3,(b.ZImages.flatMap eN0)⟩]) {r_:Bool} (hF:Ff a b=some r_) :
  CV Tryz.prog 39 #[.agg #[vi a.Qubits,.slice B n c,.slice B1 n1 c1],.agg #[vi b.Qubits,.slice B2 n2 c2,.slice B3 n3 c3]] w0 (fun v w'=>v=.bool r_∧ST w0 [] w' [] []):=by
 subst hn
 subst au
 subst av
 subst aw
 unfold Ff at hF
 refine cv_of_cw 41 Tryz.func39 rfl Tryz.ntmps39 rfl ?_
 refine cq (cr ?_)
 let V1:List Value:=[vi a.Qubits,.slice B a.XImages.length c,.slice B1 a.ZImages.length c1]
 refine sS 2 (yV V1 3 hS) ?_
 rintro _ w_ ⟨b1,rfl,ay⟩
 let V0:List Value:=[vi b.Qubits,.slice B2 b.XImages.length c2,.slice B3 b.ZImages.length c3]
 refine sS 3 (yV V0 3 ay) ?_
 rintro _ a2 ⟨b2,rfl,aA⟩
 refine sQ 4 yu (rn (cq (cq (cr ?_))))
 refine sQ 5 yu (rn ?_)
 obtain ⟨hN,hF⟩:=chk_inv hF
 obtain ⟨z,hz,al⟩:=bI hF
 refine cw_block ?_
 refine cw_loop (fun k f w=>∃ (q:Nat),FF f [(2,pt (aD b1) 0),(3,pt (aD b2) 0),(5,vi (q:Int))]∧ST w0 [] w [⟨aD b1,25,V1,3⟩,⟨aD b2,25,V0,3⟩] [⟨B,(a.XImages.flatMap eN0)⟩,⟨B1,(a.ZImages.flatMap eN0)⟩,⟨B2,(b.XImages.flatMap eN0)⟩,⟨B3,(b.ZImages.flatMap eN0)⟩]∧q+k=a.Qubits.toNat∧forX (GI a b) k q ()=some z) a.Qubits.toNat ⟨0,(fc rfl (fc rfl (fc rfl fn_))),(aA.sel [0,1] rfl rfl),Nat.zero_add _,hz⟩ ?_
 rintro k_ f w ⟨q,D,H,a6,hL⟩
 refine cq (cq (cr ?_))
 refine sQ 6 (yv rfl (D.g 5 2))<|sQ 7 (yd (aD b1) 0 0 K22 K1 rfl (D.g 2 0))<|sQ 8 (yz 0 K0 (H.c 0))<|sQ 9 zL (rn ?_)
 refine cw_cond rfl (fun ab=>?_) (fun ab=>?_)
 ·skip
  have am:q<a.Qubits.toNat:=by have h:=of_decide_eq_true ab; omega
  obtain ⟨K13,rfl⟩:∃ k2,k_=k2+1:=⟨k_-1,by omega⟩
  obtain ⟨y,hb,an⟩:=forX_go hL
  unfold GI at hb
  refine cw_skip (cq (cw_block (cq ?_)))
  obtain ⟨x,hx,hb⟩:=bI hb
  obtain ⟨J,U,hb⟩:=bI hb
  obtain ⟨O,V,hb⟩:=bI hb
  obtain ⟨P,W,hb⟩:=bI hb
  refine ra_start (H.se [0,1]).fn (by kernel_rfl) ?_
  have ac:=H.drew
  have o:=ac.se [0,1]
  refine rq 0 12 rfl o (fun _ u=>(yd (aD b1) 0 0 K18 K4 rfl (D.g 2 0)))<|rq 1 13 rfl o (fun _ u=>(yz 1 K7 (ST.c u 0)))<|rq 2 14 rfl o (fun _ u=>(yv rfl (D.g 5 2)))<|rq 3 15 rfl o (fun _ u=>(yI B (q:Int) K5 K2 (gi_isSome eN2 rfl (ST.rf u (i:=0) rfl) hx) (getI_nn hx) (getI_ltI hx rfl)))<|rq 4 16 rfl o (fun _ u=>(ya B ((q:Int).toNat*3) (a.XImages.flatMap eN0) [vi x.Phase,vi x.X,vi x.Z] K6 K2 (ST.rf u (i:=0) rfl) rfl rfl (eN2 x) (gi_seg eN2 hx))) ?_
  refine rq 5 17 rfl o (fun _ u=>(yd (aD b2) 0 0 K18 K4 rfl (D.g 3 1)))<|rq 6 18 rfl o (fun _ u=>(yz 1 K7 (ST.c u 1)))<|rq 7 19 rfl o (fun _ u=>(yv rfl (D.g 5 2)))<|rq 8 20 rfl o (fun _ u=>(yI B2 (q:Int) K5 K2 (gi_isSome eN2 rfl (ST.rf u (i:=2) rfl) U) (getI_nn U) (getI_ltI U rfl)))<|rq 9 21 rfl o (fun _ u=>(ya B2 ((q:Int).toNat*3) (b.XImages.flatMap eN0) [vi J.Phase,vi J.X,vi J.Z] K6 K2 (ST.rf u (i:=2) rfl) rfl rfl (eN2 J) (gi_seg eN2 U))) ?_
  refine rq 10 22 rfl o (fun _ u=>(Y_neA (xs:=#[vi x.Phase,vi x.X,vi x.Z]) (ys:=#[vi J.Phase,vi J.X,vi J.Z]) (b:=((x.Phase==J.Phase)&&((x.X==J.X)&&((x.Z==J.Z)&&true)))) GK rfl rfl rfl (eqr_struct (xs:=[vi x.Phase,vi x.X,vi x.Z]) (ys:=[vi J.Phase,vi J.X,vi J.Z]) K60 K70 (pts_sc K0 rfl rfl (eqr_int K16) (pts_sc K0 rfl rfl (eqr_int K16) (pts_sc K0 rfl rfl (eqr_int K16) pts_nil))))))<|rq 11 23 rfl o (fun _ u=>yv)<|rG 12 24 rfl rfl rfl (uF_ 23) o (fun hg _ u=>(yd (aD b1) 0 0 K20 K4 rfl (D.g 2 0)))<|rG 13 25 rfl rfl rfl (uF_ 23) o (fun aE _ u=>(yz 2 K7 (ST.c u 0) rfl (gv_of aE)))<|rG 14 26 rfl rfl rfl (uF_ 23) o (fun a8 _ u=>(yv rfl (D.g 5 2))) ?_
  refine rG 15 27 rfl rfl rfl (uF_ 23) o (fun Q _ u=>(yI B1 (q:Int) K5 K2 (gi_isSome eN2 rfl (ST.rf u (i:=1) rfl) (gb_inv V Q)) (getI_nn (gb_inv V Q)) (getI_ltI (gb_inv V Q) rfl) rfl (gv_of Q) (gv_of Q)))<|rG 16 28 rfl rfl rfl (uF_ 23) o (fun ao _ u=>(ya B1 ((q:Int).toNat*3) (a.ZImages.flatMap eN0) [vi O.Phase,vi O.X,vi O.Z] K6 K2 (ST.rf u (i:=1) rfl) rfl (gv_of ao) (eN2 O) (gi_seg eN2 (gb_inv V ao))))<|rG 17 29 rfl rfl rfl (uF_ 23) o (fun a9 _ u=>(yd (aD b2) 0 0 K20 K4 rfl (D.g 3 1)))<|rG 18 30 rfl rfl rfl (uF_ 23) o (fun aF _ u=>(yz 2 K7 (ST.c u 1) rfl (gv_of aF)))<|rG 19 31 rfl rfl rfl (uF_ 23) o (fun ba _ u=>(yv rfl (D.g 5 2))) ?_
  refine rG 20 32 rfl rfl rfl (uF_ 23) o (fun S _ u=>(yI B3 (q:Int) K5 K2 (gi_isSome eN2 rfl (ST.rf u (i:=3) rfl) (gb_inv W S)) (getI_nn (gb_inv W S)) (getI_ltI (gb_inv W S) rfl) rfl (gv_of S) (gv_of S)))<|rG 21 33 rfl rfl rfl (uF_ 23) o (fun ap _ u=>(ya B3 ((q:Int).toNat*3) (b.ZImages.flatMap eN0) [vi P.Phase,vi P.X,vi P.Z] K6 K2 (ST.rf u (i:=3) rfl) rfl (gv_of ap) (eN2 P) (gi_seg eN2 (gb_inv W ap))))<|rG 22 34 rfl rfl rfl (uF_ 23) o (fun aa _ u=>(Y_neA (xs:=#[vi O.Phase,vi O.X,vi O.Z]) (ys:=#[vi P.Phase,vi P.X,vi P.Z]) (b:=((O.Phase==P.Phase)&&((O.X==P.X)&&((O.Z==P.Z)&&true)))) GK rfl (gv_of aa) (gv_of aa) (eqr_struct (xs:=[vi O.Phase,vi O.X,vi O.Z]) (ys:=[vi P.Phase,vi P.X,vi P.Z]) K60 K70 (pts_sc K0 rfl rfl (eqr_int K16) (pts_sc K0 rfl rfl (eqr_int K16) (pts_sc K0 rfl rfl (eqr_int K16) pts_nil))))))<|rq 23 35 rfl o (fun _ u=>yO) ?_
  refine ra_done (by kernel_rfl) ?_
  refine cw_cond rfl (fun ae=>?_) (fun ae=>?_)
  ·skip
   have aG:=ct hb ae
   refine cq (cr ?_)
   refine sQ 4 yu (rn (ct_ ?_))
   obtain rfl:=sI aG
   obtain rfl:=sI an
   obtain rfl:=sI al
   exact e1 Tryz.results39 (ac.sN [])
  ·skip
   have aI:=cf' hb ae
   refine cw_skip (cr ?_)
   refine sQ 10 (yv rfl (D.g 5 2))<|sQ 11 zP<|sQ 5 yu (rn ?_)
   obtain rfl:=sI aI
   exact ⟨K13,Nat.lt_succ_self _,q+1,(D.a 2 0 (D.a 3 1 (fc (congrArg (Value.int .i64) (wr_succ am hN)) fn_))),(ac.sel [0,1] rfl rfl),(by omega),an⟩
 ·skip
  obtain rfl:k_=0:=by have h:=of_decide_eq_false ab; omega
  refine cw_exit rfl ?_
  obtain rfl:=sI hL
  refine cq (cr ?_)
  refine sQ 36 (yd (aD b1) 0 0 K22 K1 rfl (D.g 2 0))<|sQ 37 (yz 0 K0 (H.c 0))<|sQ 38 (yd (aD b2) 0 0 K22 K1 rfl (D.g 3 1))<|sQ 39 (yz 0 K0 (H.c 1))<|sQ 40 zE<|sQ 4 yu (rn (ct_ ?_))
  obtain rfl:=sI al
  exact e1 Tryz.results39 (H.sN [])

theorem NN (a:Aj) (b:Aj) (B:Option Addr) (c n:Nat) (Z:Option Addr) (c1 n1:Nat) (w0:World) (hn:a.Gates.length=n) (ag:b.Gates.length=n1) (hS:ST w0 [] w0 [] [⟨B,(a.Gates.flatMap eN1)⟩,⟨Z,(b.Gates.flatMap eN1)⟩]) {r_:Bool} {aa:Bool} (P:Ed a b=some (r_,aa)) :
  CV Tryz.prog 11 #[.agg #[vi a.Qubits,.slice B n c],.agg #[vi b.Qubits,.slice Z n1 c1]] w0 (fun v w'=>v=.tuple #[.bool r_,.bool aa]∧ST w0 [] w' [] []):=by
 subst hn
 subst ag
 unfold Ed at P
 refine cv_of_cw 26 Tryz.func11 rfl Tryz.ntmps11 rfl ?_
 refine cq (cr ?_)
 refine sS 2 (yV [vi a.Qubits,.slice B a.Gates.length c] 2 hS) ?_
 rintro _ w_ ⟨b1,rfl,ah⟩
 refine sS 3 (yV [vi b.Qubits,.slice Z b.Gates.length c1] 2 ah) ?_
 rintro _ aG ⟨b2,rfl,Q⟩
 refine sQ 4 yu<|sQ 5 yu (rn (cq (cq (cr ?_))))
 refine sQ 6 (yw 0 K17 K9 (Q.c 0)) ?_
 obtain ⟨aJ,hc,P⟩:=bI P
 refine sc 7 rfl rfl (yc JU (KU a B c a.Gates.length _ rfl (Q.inn0 [(true,0)] rfl) hc)) ?_
 rintro _ aK ⟨rfl,hd⟩
 have u:=Q.out00 hd
 refine sQ 8 yn<|sQ 9 yv ?_
 refine sgq 10 rfl rfl (uF_ 9) (fun hg=>(yw 0 K17 K9 (u.c 1))) ?_
 obtain ⟨ai,aj,P⟩:=bI P
 refine sgc 11 (v:=.bool ai) (F:=u.fn) rfl rfl (uF_ 9) u (fun ab=>(yc JU (CV.mono (KU b Z c1 b.Gates.length _ rfl (u.inn0 [(true,1)] rfl) (gb_inv aj ab)) (by rintro _ _ ⟨rfl,h⟩; exact ⟨rfl,u.out00 h⟩)) rfl (mc (gv_of ab) mn))) ?_
 rintro aL D
 refine sgq 12 rfl rfl (uF_ 9) (fun ak=>(yn rfl (gv_of ak))) ?_
 refine sQ 13 yO<|sQ 14 yv ?_
 refine sgq 15 rfl rfl (uF_ 14) (fun aM=>(yd (aD b1) 0 0 K44 K1)) ?_
 refine sgq 16 rfl rfl (uF_ 14) (fun al=>(yz 0 K0 (D.c 0) rfl (gv_of al))) ?_
 refine sgq 17 rfl rfl (uF_ 14) (fun aO=>(yd (aD b2) 0 0 K44 K1)) ?_
 refine sgq 18 rfl rfl (uF_ 14) (fun am=>(yz 0 K0 (D.c 1) rfl (gv_of am))) ?_
 refine sgq 19 rfl rfl (uF_ 14) (fun ac=>(Y_ne rfl (gv_of ac) (gv_of ac))) ?_
 refine sQ 20 yO (rn ?_)
 refine cw_cond rfl (fun hb=>?_) (fun hb=>?_)
 ·skip
  have an:=ct P hb
  refine cq (cr ?_)
  refine sQ 4 yu<|sQ 5 yu (rn (ct_ ?_))
  obtain ⟨rfl,rfl⟩:=pr2 (sI an)
  exact e2 Tryz.results11 (D.sN [])
 ·skip
  have o:=cf' P hb
  refine cw_skip (cq ?_)
  obtain ⟨S,ao,o⟩:=bI o
  obtain ⟨U,ap,o⟩:=bI o
  obtain ⟨aQ,aq,o⟩:=bI o
  refine ra_start (D.se [0,1]).fn (by kernel_rfl) ?_
  have J:=D.drew
  refine rq 0 21 rfl (J.se [0,1]) (fun _ q=>(yw 0 K17 K9 (ST.c q 0)))<|rq 2 23 rfl (J.se [0,1]) (fun _ q=>(yw 0 K17 K9 (ST.c q 1))) ?_
  refine rA [1] ?_
  refine rC 22 1 rfl (yc Ha (HB a B c a.Gates.length _ rfl (J.inn0 [(true,0)] rfl) ao)) ?_ aN
  rintro _ aR ⟨B2,c2,B3,c3,rfl,ar⟩
  have V:=J.out0 ar
  refine ⟨(V.se [0,1]),?_⟩
  refine rA [3] ?_
  refine rC 24 3 rfl (yc Ha (HB b Z c1 b.Gates.length _ rfl (V.inn0 [(true,1)] rfl) ap)) ?_ aN
  rintro _ a0 ⟨B4,c4,B5,c5,rfl,au⟩
  have H:=V.out0 au
  refine ⟨(H.se [0,1]),?_⟩
  refine rA [4] ?_
  refine rC 25 4 rfl (yc Sg (PT S U B2 c2 S.XImages.length B3 c3 S.ZImages.length B4 c4 U.XImages.length B5 c5 U.ZImages.length _ rfl rfl rfl rfl (H.inn0 [(false,2),(false,3),(false,4),(false,5)] rfl) aq)) ?_ aN
  rintro _ a5 ⟨rfl,av⟩
  have O:=H.out00 av
  have W:=O.se [0,1]
  refine ⟨W,?_⟩
  refine rq 5 4 rfl W (fun _ q=>yu)<|rq 6 5 rfl W (fun _ q=>yu) ?_
  refine ra_done (by kernel_rfl) ?_
  refine ct_ ?_
  obtain ⟨rfl,rfl⟩:=pr2 (sI o)
  exact e2 Tryz.results11 (O.sN [])

theorem HO (n:Int)  (u:World)  (P:ST u [] u [] []) {Q:Bool} (D:C9 n=some Q) :
  CV Tryz.prog 104 #[vi n] u (fun v S=>v=.bool Q∧ST u [] S [] []):=by
 unfold C9 at D
 refine cv_of_cw 12 Tryz.func104 rfl Tryz.ntmps104 rfl ?_
 refine cq (cr ?_)
 refine sQ 2 yu (rn (cq (cr ?_)))
 refine sQ 3 yv ?_
 obtain ⟨U,hc,D⟩:=bI D
 refine sc 4 rfl rfl (yc K49 (AW n 1 32 _  (P.inn0 [] rfl) hc)) ?_
 rintro _ W ⟨rfl,hd⟩
 have H:=P.out00 hd
 refine sQ 5 yv ?_
 refine sgq 6 rfl rfl (uT_ 5) (fun Z=>yv) ?_
 refine sgq 7 rfl rfl (uT_ 5) (fun V=>yv) ?_
 refine sgq 8 rfl rfl (uT_ 5) (fun J=>(zM rfl (gv_of J))) ?_
 refine sgq 9 rfl rfl (uT_ 5) (fun o=>(Y_band (k:=.i64) (a:=n) (b:=(i64.wrap (n-1))) rfl (gv_of o) (gv_of o))) ?_
 refine sgq 10 rfl rfl (uT_ 5) (fun O=>(zE rfl (gv_of O))) ?_
 refine sQ 11 yA<|sQ 2 yu (rn (ct_ ?_))
 obtain rfl:=sI D
 exact e1 Tryz.results104 (H.sN [])

theorem GV (H:Int) (D:Int) (cell:Int→Int→Option (Ad×Bool)) (kf:Nat) (J:Array Value) (Rf:List Ro) (w0:World) (hk:callB Tryz.prog kf=true) (hp:∀ (w:World),ST w [] w [] Rf→∀ (x:Int) (x1:Int) (y1:Ad) (y2:Bool),cell x x1=some (y1,y2)→CV Tryz.prog kf ((vi x)::(vi x1)::J.toList).toArray w (fun v w'=>v=.tuple #[gD_ y1,.bool y2]∧ST w [] w' [] [])) (hS:ST w0 [] w0 [] (Rf)) {r_:Ag} {ao:Bool} (hF:Ck H D cell=some (r_,ao)) :
  CV Tryz.prog 99 #[vi H,vi D,.func (.func kf) #[] J] w0 (fun v w'=>∃ (B:Option Addr) (c:Nat),v=.tuple #[gM_ r_ B c,.bool ao]∧ST w0 [] w' [⟨B,112,(r_.Cells.flatMap Au),c*5⟩] []):=by
 unfold Ck at hF
 refine cv_of_cw 52 Tryz.func99 rfl Tryz.ntmps99 rfl ?_
 refine cq (cr ?_)
 refine sS 6 (yN kN_ 3 hS K45) ?_
 rintro _ w_ ⟨b,rfl,a1⟩
 refine sQ 7 yu (rn (cq (cr ?_)))
 refine sQ 13 yv<|sQ 14 yv<|sQ 15 (Y_buildS (zs:=kN_) (vs:=[(0,vi H),(1,vi D)]) (cs:=[vi H,vi D,.slice none 0 0]) K84 K45 rfl (mpc rfl (mpc rfl mpn)) rfl) ?_
 refine sS 8 (yN kN_ 3 a1 K45) ?_
 rintro _ bA ⟨b1,rfl,a2⟩
 refine s0 (yK 1 3 0 a2 K19) ?_
 rintro _ bB ⟨rfl,ap⟩
 refine rn (cq (cq (cr ?_)))
 refine sQ 16 yv ?_
 obtain ⟨bC,hc,hF⟩:=bI hF
 refine sc 17 rfl rfl (yc HW (HO H _  (ap.inn0 [] rfl) hc)) ?_
 rintro _ bD ⟨rfl,hd⟩
 have W:=ap.out00 hd
 refine sQ 18 yn<|sQ 19 yv ?_
 refine sgq 20 rfl rfl (uF_ 19) (fun hg=>yv) ?_
 obtain ⟨a3,a5,hF⟩:=bI hF
 refine sgc 21 (v:=.bool a3) (F:=W.fn) rfl rfl (uF_ 19) W (fun aq=>(yc HW (CV.mono (HO D _  (W.inn0 [] rfl) (gb_inv a5 aq)) (by rintro _ _ ⟨rfl,h⟩; exact ⟨rfl,W.out00 h⟩)) rfl (mc (gv_of aq) mn))) ?_
 rintro bE ar
 refine sgq 22 rfl rfl (uF_ 19) (fun a6=>(yn rfl (gv_of a6))) ?_
 refine sQ 23 yO (rn ?_)
 refine cw_cond rfl (fun hb=>?_) (fun hb=>?_)
 ·skip
  have a7:=ct hF hb
  refine cq (cr ?_)
  refine sQ 24 (Y_buildS (zs:=kN_) (vs:=[]) (cs:=kN_) K84 K45 rfl mpn rfl) ?_
  refine s0 (yK 0 3 0 ar K19) ?_
  rintro _ bF ⟨rfl,a8⟩
  refine sQ 7 yu (rn (ct_ ?_))
  have au:=a8.addNil 112
  obtain ⟨rfl,rfl⟩:=pr2 (sI a7)
  exact ret2 Tryz.results99 (rX K32 K19 (au.c 0)) rT ⟨none,0,rfl,(au.sN [2])⟩
 ·skip
  have ah:=cf' hF hb
  refine cw_skip (cq (cq (cr ?_)))
  refine sQ 25 yv<|sQ 26 yv (rn ?_)
  obtain ⟨hN,ah⟩:=chk_inv ah
  obtain ⟨z,hz,av⟩:=bI ah
  have a9:=ar.addNil 112
  refine cw_block ?_
  refine cw_loop (fun k f w=>∃ (i:Nat) (Cells:List Ad) (B1:Option Addr) (c1:Nat),FF f [(1,vi D),(2,.func (.func kf) #[] J),(6,pt (aD b) 0),(8,pt (aD b1) 0),(25,vi H),(26,vi (i:Int))]∧ST w0 [] w [⟨aD b,76,kN_,3⟩,⟨aD b1,76,[vi H,vi D,.slice B1 Cells.length c1],3⟩,⟨B1,112,(Cells.flatMap Au),c1*5⟩] (Rf)∧i+k=H.toNat∧forX (ET D cell) k i Cells=some z) H.toNat ⟨0,[],none,0,(fc rfl (fc rfl (fc rfl (fc rfl (fc rfl (fc rfl fn_)))))),(a9.sel [0,1,2] rfl rfl),Nat.zero_add _,hz⟩ ?_
  rintro k_ f w ⟨i,Cells,B1,c1,Q,ai,bK,hL⟩
  refine cq (cr ?_)
  refine sQ 27 (zL rfl (Q.g 26 5) (Q.g 25 4)) (rn (cq ?_))
  refine cw_cond rfl (fun aj=>?_) (fun aj=>?_)
  ·skip
   have aA:i<H.toNat:=by have h:=of_decide_eq_true aj; omega
   obtain ⟨K13,rfl⟩:∃ k2,k_=k2+1:=⟨k_-1,by omega⟩
   obtain ⟨y3,Z,aB⟩:=forX_go hL
   unfold ET at Z
   refine cw_skip (cq (cw_block (cq (cr ?_))))
   refine sQ 28 (yv rfl (Q.g 26 5))<|sQ 9 yu (rn (cq (cr ?_)))
   refine sQ 29 (yv rfl (Q.g 1 0))<|sQ 30 yv (rn ?_)
   obtain ⟨bc,Z⟩:=chk_inv Z
   obtain ⟨z1,bd,aE⟩:=bI Z
   refine cw_block ?_
   refine cw_loop (fun k f w=>∃ (i1:Nat) (o:List Ad) (B2:Option Addr) (c2:Nat),FF f [(1,vi D),(2,.func (.func kf) #[] J),(6,pt (aD b) 0),(8,pt (aD b1) 0),(9,vi (i:Int)),(25,vi H),(26,vi (i:Int)),(29,vi D),(30,vi (i1:Int))]∧ST w0 [] w [⟨aD b,76,kN_,3⟩,⟨aD b1,76,[vi H,vi D,.slice B2 o.length c2],3⟩,⟨B2,112,(o.flatMap Au),c2*5⟩] (Rf)∧i1+k=D.toNat∧forX (EW cell i) k i1 o=some z1) D.toNat ⟨0,Cells,B1,c1,(Q.a 1 0 (Q.a 2 1 (Q.a 6 2 (Q.a 8 3 (fc rfl (Q.a 25 4 (Q.a 26 5 (fc rfl (fc rfl fn_))))))))),(ai.sel [0,1,2] rfl rfl),Nat.zero_add _,bd⟩ ?_
   rintro K35 f w ⟨i1,o,B2,c2,u,S,bo,aF⟩
   refine cq (cr ?_)
   refine sQ 31 (zL rfl (u.g 30 8) (u.g 29 7)) (rn (cq ?_))
   refine cw_cond rfl (fun U=>?_) (fun U=>?_)
   ·skip
    have aG:i1<D.toNat:=by have h:=of_decide_eq_true U; omega
    obtain ⟨K68,rfl⟩:∃ k2,K35=k2+1:=⟨K35-1,by omega⟩
    obtain ⟨y4,V,aI⟩:=forX_go aF
    unfold EW at V
    refine cw_skip (cq (cw_block (cq (cr ?_))))
    refine sQ 32 (yv rfl (u.g 30 8))<|sQ 10 yu (rn (cq (cr ?_)))
    refine sQ 34 (yv rfl (u.g 2 1))<|sQ 35 (yv rfl (u.g 9 4))<|sQ 36 yv ?_
    obtain ⟨⟨O,aJ⟩,be,V⟩:=bI V
    refine sc 37 rfl rfl (Yc_clos (g:=kf) (vs:=(vi (i:Int))::(vi (i1:Int))::J.toList) hk rfl rfl (clo_args (mc rfl (mc rfl mn))) (hp _ (S.innS (fun _ h=>mOd (i:=0) h)) (i:Int) (i1:Int) O aJ be)) ?_
    rintro _ bM ⟨rfl,bf⟩
    have aK:=S.out00 bf
    refine sQ 33 yv<|sQ 38 (ye (gD_ O))<|sQ 39 (ye (.bool aJ)) ?_
    refine sS 11 (yN kZ_ 5 aK K33) ?_
    rintro _ bN ⟨b2,rfl,aL⟩
    refine s0 (yK 3 5 0 aL K10) ?_
    rintro _ bO ⟨rfl,P⟩
    refine sQ 12 yu (rn (cq (cq (cr ?_))))
    refine sQ 40 yv<|sQ 41 yn (rn ?_)
    refine cw_cond rfl (fun ak=>?_) (fun ak=>?_)
    ·skip
     have bg:=ct V ak
     refine cq (cr ?_)
     refine sQ 42 (Y_buildS (zs:=kN_) (vs:=[]) (cs:=kN_) K84 K45 rfl mpn rfl) ?_
     refine s0 (yK 0 3 0 P K19 rfl (u.g 6 2)) ?_
     rintro _ bP ⟨rfl,aM⟩
     refine sQ 7 yu (rn (ct_ ?_))
     have ab:=aM.addNil 112
     obtain rfl:=sI bg
     obtain rfl:=sI aI
     obtain rfl:=sI aE
     obtain rfl:=sI aB
     obtain ⟨rfl,rfl⟩:=pr2 (sI av)
     exact ret2 Tryz.results99 (rX K32 K19 (ab.c 0) (u.g 6 2)) rT ⟨none,0,rfl,(ab.sN [4])⟩
    ·skip
     have al:=cf' V ak
     refine cw_skip (cr ?_)
     refine sQ 43 (yd (aD b1) 0 0 K85 K77 rfl (u.g 8 3))<|sQ 44 (yz 2 K94 (P.c 1))<|sQ 45 (yw 0 K21 K10 (P.c 3)) ?_
     refine sS 46 (yF 5 1 (kD_ O) 5 P K66 K10 P0 rfl (mpc rfl mpn)) ?_
     rintro _ bp ⟨b3,rfl,ac⟩
     obtain ⟨bh,al⟩:=chk_inv al
     refine sS 47 (aP 5 40 2 o [O] ac K66 K10 PU K33 BA QT (ac.c 4) bh) ?_
     rintro _ bq ⟨B3,c3,rfl,aO⟩
     refine sQ 48 (yd (aD b1) 0 0 K85 K77 rfl (u.g 8 3)) ?_
     refine s0 (yS 1 1 (aD b1) 76 (.slice B3 ((o++[O]).length) c3) [.slice B3 ((o++[O]).length) c3] 2 [vi H,vi D,.slice B3 ((o++[O]).length) c3] aO K77) ?_
     rintro _ bt ⟨rfl,aQ⟩
     refine rn (cr ?_)
     refine sQ 49 (zP rfl (u.g 30 8))<|sQ 30 yv (rn ?_)
     obtain rfl:=sI al
     exact ⟨K68,Nat.lt_succ_self _,i1+1,(o++[O]),B3,c3,(u.a 1 0 (u.a 2 1 (u.a 6 2 (u.a 8 3 (u.a 9 4 (u.a 25 5 (u.a 26 6 (u.a 29 7 (fc (congrArg (Value.int .i64) (wr_succ aG bc)) fn_))))))))),(aQ.sel [0,1,2] rfl rfl),(by omega),aI⟩
   ·skip
    obtain rfl:K35=0:=by have h:=of_decide_eq_false U; omega
    refine cw_exit rfl ?_
    obtain rfl:=sI aF
    refine cr ?_
    refine sQ 50 (zP rfl (u.g 26 6))<|sQ 26 yv (rn ?_)
    obtain rfl:=sI aE
    exact ⟨K13,Nat.lt_succ_self _,i+1,o,B2,c2,(u.a 1 0 (u.a 2 1 (u.a 6 2 (u.a 8 3 (u.a 25 5 (fc (congrArg (Value.int .i64) (wr_succ aA hN)) fn_)))))),(S.sel [0,1,2] rfl rfl),(by omega),aB⟩
  ·skip
   obtain rfl:k_=0:=by have h:=of_decide_eq_false aj; omega
   refine cw_exit rfl ?_
   obtain rfl:=sI hL
   refine cq (cr ?_)
   refine sQ 51 (yw 0 K32 K19 (ai.c 1) rfl (Q.g 8 3)) ?_
   refine s0 (yK 0 3 0 ai K19 rfl (Q.g 6 2)) ?_
   rintro _ bu ⟨rfl,ae⟩
   refine sQ 7 yu (rn (ct_ ?_))
   obtain ⟨rfl,rfl⟩:=pr2 (sI av)
   exact ret2 Tryz.results99 (rX K32 K19 (ae.c 0) (Q.g 6 2)) rT ⟨B1,c1,rfl,(ae.sN [2])⟩

theorem IQ (n:Int)  (u:World)  (O:ST u [] u [] []) {H:Ad} (J:FE n=some H) :
  CV Tryz.prog 101 #[vi n] u (fun v P=>v=(gD_ H)∧ST u [] P [] []):=by
 unfold FE at J
 refine cv_of_cw 6 Tryz.func101 rfl Tryz.ntmps101 rfl ?_
 refine cq (cr ?_)
 refine sS 2 (yN kZ_ 5 O K33) ?_
 rintro _ S ⟨b,rfl,D⟩
 refine rn (cq (cr ?_))
 refine sQ 3 yv<|sQ 4 (Y_buildS (zs:=[vi 0,vi 0,vi 0,vi 0]) (vs:=[(0,vi n)]) (cs:=[vi n,vi 0,vi 0,vi 0]) K67 K37 rfl (mpc rfl mpn) rfl)<|sQ 5 (Y_buildS (zs:=kZ_) (vs:=[(0,.agg #[vi n,vi 0,vi 0,vi 0])]) (cs:=[vi n,vi 0,vi 0,vi 0,vi 0]) K61 K33 rfl (mpc rfl mpn) rfl) ?_
 refine s0 (yK 0 5 0 D K10) ?_
 rintro _ Q ⟨rfl,o⟩
 refine rn (ct_ ?_)
 obtain rfl:=sI J
 exact ret1 Tryz.results101 (rX K21 K10 (o.c 0)) ⟨rfl,(o.sN [])⟩

theorem NL (i:Int) (j:Int)  (O:World)  (V:ST O [] O [] []) {U:Ad} {D:Bool} (P:Gq i j=some (U,D)) :
  CV Tryz.prog 100 #[vi i,vi j] O (fun v W=>v=.tuple #[gD_ U,.bool D]∧ST O [] W [] []):=by
 unfold Gq at P
 refine cv_of_cw 11 Tryz.func100 rfl Tryz.ntmps100 rfl ?_
 refine cq (cr ?_)
 refine sS 4 (yN kZ_ 5 V K33) ?_
 rintro _ w_ ⟨b,rfl,o⟩
 refine sQ 5 yu (rn (cq (cq (cr ?_))))
 refine sQ 6 yv<|sQ 7 yv<|sQ 8 zE (rn ?_)
 refine cw_cond rfl (fun hb=>?_) (fun hb=>?_)
 ·skip
  have u:=ct P hb
  refine cq (cr ?_)
  obtain ⟨Z,hc,u⟩:=bI u
  refine sc 9 rfl rfl (yc IA (IQ 1 _  (o.inn0 [] rfl) hc)) ?_
  rintro _ aa ⟨rfl,hd⟩
  have Q:=o.out00 hd
  refine s0 (yK 0 5 0 Q K10) ?_
  rintro _ ab ⟨rfl,H⟩
  refine sQ 5 yu (rn (ct_ ?_))
  obtain ⟨rfl,rfl⟩:=pr2 (sI u)
  exact ret2 Tryz.results100 (rX K21 K10 (H.c 0)) rT ⟨rfl,(H.sN [])⟩
 ·skip
  have S:=cf' P hb
  refine cw_skip (cq (cr ?_))
  refine sQ 10 (Y_buildS (zs:=kZ_) (vs:=[]) (cs:=kZ_) K61 K33 rfl mpn rfl) ?_
  refine s0 (yK 0 5 0 o K10) ?_
  rintro _ ac ⟨rfl,J⟩
  refine sQ 5 yu (rn (ct_ ?_))
  obtain ⟨rfl,rfl⟩:=pr2 (sI S)
  exact ret2 Tryz.results100 (rX K21 K10 (J.c 0)) rT ⟨rfl,(J.sN [])⟩

theorem QK (n:Int)  (H:World)  (hS:ST H [] H [] []) {O:Ag} {o:Bool} (J:F6 n=some (O,o)) :
  CV Tryz.prog 73 #[vi n] H (fun v w'=>∃ (B:Option Addr) (c:Nat),v=.tuple #[gM_ O B c,.bool o]∧ST H [] w' [⟨B,112,(O.Cells.flatMap Au),c*5⟩] []):=by
 unfold F6 at J
 refine cv_of_cw 9 Tryz.func73 rfl Tryz.ntmps73 rfl ?_
 refine cq (cr ?_)
 refine sS 2 (yN kN_ 3 hS K45) ?_
 rintro _ w_ ⟨b,rfl,u⟩
 refine sQ 3 yu (rn (cq (cr ?_)))
 refine sQ 4 yv<|sQ 5 yv ?_
 obtain ⟨⟨P,Q⟩,hc,J⟩:=bI J
 refine sc 6 rfl rfl (yc HT (GV n n Gq 100 (#[]) [] _ Qy (fun w hw S U ae af h_=>NL S U  w  hw h_) (u.inn0 [] rfl) hc)) ?_
 rintro _ ah ⟨W,Z,rfl,hd⟩
 have V:=u.out0 hd
 refine sQ 7 (ye (gM_ P W Z))<|sQ 8 (ye (.bool Q)) ?_
 refine s0 (yK 0 3 0 V K19) ?_
 rintro _ ai ⟨rfl,D⟩
 refine sQ 3 yu (rn (ct_ ?_))
 obtain ⟨rfl,rfl⟩:=pr2 (sI J)
 exact ret2 Tryz.results73 (rX K32 K19 (D.c 0)) rT ⟨W,Z,rfl,(D.sN [1])⟩

theorem Hi (n:Int)  (o:World)  (H:ST o [] o [] []) {J:Bool} (u:Dm n=some J) :
  CV Tryz.prog 134 #[vi n] o (fun v O=>v=.bool J∧ST o [] O [] []):=by
 unfold Dm at u
 refine cv_of_cw 5 Tryz.func134 rfl Tryz.ntmps134 rfl ?_
 refine cq (cr ?_)
 refine sQ 2 yu (rn (cq (cr ?_)))
 refine sQ 3 yv ?_
 obtain ⟨P,hc,u⟩:=bI u
 refine sc 4 rfl rfl (yc K49 (AW n (-1000000000) 1000000000 _  (H.inn0 [] rfl) hc)) ?_
 rintro _ Q ⟨rfl,hd⟩
 have D:=H.out00 hd
 refine sQ 2 yu (rn (ct_ ?_))
 obtain rfl:=sI u
 exact e1 Tryz.results134 (D.sN [])

theorem Gk (x:Ac)  (U:World)  (hS:ST U [] U [] []) {r_:Bool} (J:Cc x=some r_) :
  CV Tryz.prog 128 #[gR_ x] U (fun v w'=>v=.bool r_∧ST U [] w' [] []):=by
 unfold Cc at J
 refine cv_of_cw 21 Tryz.func128 rfl Tryz.ntmps128 rfl ?_
 refine cq (cr ?_)
 refine sS 1 (yV (kR_ x) 4 hS) ?_
 rintro _ w_ ⟨b,rfl,O⟩
 refine sQ 2 yu (rn (cq (cr ?_)))
 refine sQ 3 (yd (aD b) 0 0 K51 K1)<|sQ 4 (yz 0 K0 (O.c 0)) ?_
 obtain ⟨al,hc,J⟩:=bI J
 refine sc 5 rfl rfl (yc HX (Hi x.A _  (O.inn0 [] rfl) hc)) ?_
 rintro _ am ⟨rfl,hd⟩
 have o:=O.out00 hd
 refine sQ 6 yv ?_
 refine sgq 7 rfl rfl (uT_ 6) (fun hg=>(yd (aD b) 0 0 K53 K1)) ?_
 refine sgq 8 rfl rfl (uT_ 6) (fun V=>(yz 1 K0 (o.c 0) rfl (gv_of V))) ?_
 obtain ⟨W,Z,J⟩:=bI J
 refine sgc 9 (v:=.bool W) (F:=o.fn) rfl rfl (uT_ 6) o (fun P=>(yc HX (CV.mono (Hi x.B _  (o.inn0 [] rfl) (gb_inv Z P)) (by rintro _ _ ⟨rfl,h⟩; exact ⟨rfl,o.out00 h⟩)) rfl (mc (gv_of P) mn))) ?_
 rintro an u
 refine sQ 10 yA<|sQ 11 yv ?_
 refine sgq 12 rfl rfl (uT_ 11) (fun ao=>(yd (aD b) 0 0 K54 K1)) ?_
 refine sgq 13 rfl rfl (uT_ 11) (fun aa=>(yz 2 K0 (u.c 0) rfl (gv_of aa))) ?_
 obtain ⟨ab,ac,J⟩:=bI J
 refine sgc 14 (v:=.bool ab) (F:=u.fn) rfl rfl (uT_ 11) u (fun Q=>(yc HX (CV.mono (Hi x.C _  (u.inn0 [] rfl) (gb_inv ac Q)) (by rintro _ _ ⟨rfl,h⟩; exact ⟨rfl,u.out00 h⟩)) rfl (mc (gv_of Q) mn))) ?_
 rintro ap H
 refine sQ 15 yA<|sQ 16 yv ?_
 refine sgq 17 rfl rfl (uT_ 16) (fun aq=>(yd (aD b) 0 0 K55 K1)) ?_
 refine sgq 18 rfl rfl (uT_ 16) (fun ae=>(yz 3 K0 (H.c 0) rfl (gv_of ae))) ?_
 obtain ⟨af,ag,J⟩:=bI J
 refine sgc 19 (v:=.bool af) (F:=H.fn) rfl rfl (uT_ 16) H (fun S=>(yc HX (CV.mono (Hi x.D _  (H.inn0 [] rfl) (gb_inv ag S)) (by rintro _ _ ⟨rfl,h⟩; exact ⟨rfl,H.out00 h⟩)) rfl (mc (gv_of S) mn))) ?_
 rintro ar ah
 refine sQ 20 yA<|sQ 2 yu (rn (ct_ ?_))
 obtain rfl:=sI J
 exact e1 Tryz.results128 (ah.sN [])

theorem Sd (x:Ac) (J:Int)  (S:World)  (hS:ST S [] S [] []) {r_:Ac} {U:Bool} (O:H7 x J=some (r_,U)) :
  CV Tryz.prog 111 #[gR_ x,vi J] S (fun v w'=>v=.tuple #[gR_ r_,.bool U]∧ST S [] w' [] []):=by
 unfold H7 at O
 refine cv_of_cw 33 Tryz.func111 rfl Tryz.ntmps111 rfl ?_
 refine cq (cr ?_)
 refine sS 2 (yV (kR_ x) 4 hS) ?_
 rintro _ w_ ⟨b,rfl,ag⟩
 let V:List Value:=[vi 0,vi 0,vi 0,vi 0]
 refine sS 4 (yN V 4 ag K37) ?_
 rintro _ av ⟨b1,rfl,W⟩
 refine sQ 5 yu (rn (cq (cq (cr ?_))))
 refine sQ 6 yv ?_
 obtain ⟨aw,hc,O⟩:=bI O
 refine sc 7 rfl rfl (yc K49 (AW J (-1000) 1000 _  (W.inn0 [] rfl) hc)) ?_
 rintro _ ay ⟨rfl,hd⟩
 have H:=W.out00 hd
 refine sQ 8 yn<|sQ 9 yv ?_
 refine sgq 10 rfl rfl (uF_ 9) (fun hg=>(yw 0 K25 K12 (H.c 0))) ?_
 obtain ⟨ah,ai,O⟩:=bI O
 refine sgc 11 (v:=.bool ah) (F:=H.fn) rfl rfl (uF_ 9) H (fun Z=>(yc FS (CV.mono (Gk x _  (H.inn0 [] rfl) (gb_inv ai Z)) (by rintro _ _ ⟨rfl,h⟩; exact ⟨rfl,H.out00 h⟩)) rfl (mc (gv_of Z) mn))) ?_
 rintro aA aa
 refine sgq 12 rfl rfl (uF_ 9) (fun aj=>(yn rfl (gv_of aj))) ?_
 refine sQ 13 yO (rn ?_)
 refine cw_cond rfl (fun hb=>?_) (fun hb=>?_)
 ·skip
  have ak:=ct O hb
  refine cq (cr ?_)
  refine sQ 14 (Y_buildS (zs:=V) (vs:=[]) (cs:=V) K67 K37 rfl mpn rfl) ?_
  refine s0 (yK 1 4 0 aa K12) ?_
  rintro _ aB ⟨rfl,ab⟩
  refine sQ 5 yu (rn (ct_ ?_))
  obtain ⟨rfl,rfl⟩:=pr2 (sI ak)
  exact ret2 Tryz.results111 (rX K25 K12 (ab.c 1)) rT ⟨rfl,(ab.sN [])⟩
 ·skip
  have P:=cf' O hb
  refine cw_skip (cq (cq (cr ?_)))
  refine sQ 15 yv<|sQ 16 (Y_rem (k:=.i64) (a:=J) (b:=8) rfl rfl rfl (by decide))<|sQ 17 zP<|sQ 18 (Y_rem (k:=.i64) (a:=(i64.wrap ((Int.tmod J 8)+8))) (b:=8) rfl rfl rfl (by decide))<|sQ 19 yv (rn ?_)
  obtain ⟨hN,P⟩:=chk_inv P
  obtain ⟨z,hz,al⟩:=bI P
  refine cw_block ?_
  refine cw_loop (fun k f w=>∃ (i:Nat) (A:Int) (B:Int) (C:Int) (D:Int),FF f [(2,pt (aD b) 0),(4,pt (aD b1) 0),(18,vi (Int.tmod (i64.wrap ((Int.tmod J 8)+8)) 8)),(19,vi (i:Int))]∧ST S [] w [⟨aD b,110,[vi A,vi B,vi C,vi D],4⟩,⟨aD b1,110,V,4⟩] []∧i+k=(Int.tmod (i64.wrap ((Int.tmod J 8)+8)) 8).toNat∧forN IE k i (A,B,C,D)=some z) ((Int.tmod (i64.wrap ((Int.tmod J 8)+8)) 8).toNat) ⟨0,x.A,x.B,x.C,x.D,(fc rfl (fc rfl (fc rfl (fc rfl fn_)))),(aa.sel [0,1] rfl rfl),Nat.zero_add _,hz⟩ ?_
  rintro K13 f w ⟨i,A,B,C,D,u,o,aG,hL⟩
  refine cq (cr ?_)
  refine sQ 20 (zL rfl (u.g 19 3) (u.g 18 2)) (rn (cq ?_))
  refine cw_cond rfl (fun Q=>?_) (fun Q=>?_)
  ·skip
   have ac:i<(Int.tmod (i64.wrap ((Int.tmod J 8)+8)) 8).toNat:=by have h:=of_decide_eq_true Q; omega
   obtain ⟨K35,rfl⟩:∃ k2,K13=k2+1:=⟨K13-1,by omega⟩
   obtain ⟨y,ae,am⟩:=forN_go hL
   unfold IE at ae
   refine cw_skip (cq (cw_block (cr ?_)))
   refine sQ 21 (yd (aD b) 0 0 K55 K1 rfl (u.g 2 0))<|sQ 22 (yz 3 K0 (o.c 0))<|sQ 23 (Y_neg (k:=.i64) (a:=D) rfl rfl)<|sQ 24 (yd (aD b) 0 0 K51 K1 rfl (u.g 2 0))<|sQ 25 (yz 0 K0 (o.c 0))<|sQ 26 (yd (aD b) 0 0 K53 K1 rfl (u.g 2 0)) ?_
   refine sQ 27 (yz 1 K0 (o.c 0))<|sQ 28 (yd (aD b) 0 0 K54 K1 rfl (u.g 2 0))<|sQ 29 (yz 2 K0 (o.c 0))<|sQ 30 (Y_buildS (zs:=V) (vs:=[(0,vi (i64.wrap (-D))),(1,vi A),(2,vi B),(3,vi C)]) (cs:=[vi (i64.wrap (-D)),vi A,vi B,vi C]) K67 K37 rfl (mpc rfl (mpc rfl (mpc rfl (mpc rfl mpn)))) rfl) ?_
   refine s0 (yK 0 4 0 o K12 rfl (u.g 2 0)) ?_
   rintro _ aJ ⟨rfl,an⟩
   refine rn (cr ?_)
   refine sQ 31 (zP rfl (u.g 19 3))<|sQ 19 yv (rn ?_)
   obtain rfl:=sI ae
   exact ⟨K35,Nat.lt_succ_self _,i+1,(i64.wrap (-D)),A,B,C,(u.a 2 0 (u.a 4 1 (u.a 18 2 (fc (congrArg (Value.int .i64) (wr_succ ac hN)) fn_)))),(an.sel [0,1] rfl rfl),(by omega),am⟩
  ·skip
   obtain rfl:K13=0:=by have h:=of_decide_eq_false Q; omega
   refine cw_exit rfl ?_
   obtain rfl:=sI hL
   refine cq (cr ?_)
   refine sQ 32 (yw 0 K25 K12 (o.c 0) rfl (u.g 2 0)) ?_
   refine s0 (yK 1 4 0 o K12 rfl (u.g 4 1)) ?_
   rintro _ aK ⟨rfl,af⟩
   refine sQ 5 yu (rn (ct_ ?_))
   obtain ⟨rfl,rfl⟩:=pr2 (sI al)
   exact ret2 Tryz.results111 (rX K25 K12 (af.c 1) (u.g 4 1)) rT ⟨rfl,(af.sN [])⟩

theorem GN (Q:Int)  (O:World)  (Z:ST O [] O [] []) {W:Ad} (P:AR Q=some W) :
  CV Tryz.prog 77 #[vi Q] O (fun v w'=>v=(gD_ W)∧ST O [] w' [] []):=by
 unfold AR at P
 refine cv_of_cw 13 Tryz.func77 rfl Tryz.ntmps77 rfl ?_
 refine cq (cr ?_)
 refine sS 2 (yN kZ_ 5 Z K33) ?_
 rintro _ w_ ⟨b,rfl,u⟩
 refine rn (cq (cr ?_))
 refine sQ 6 (Y_buildS (zs:=[vi 0,vi 0,vi 0,vi 0]) (vs:=[(0,vi 1)]) (cs:=[vi 1,vi 0,vi 0,vi 0]) K67 K37 rfl (mpc rfl mpn) rfl)<|sQ 7 yv ?_
 obtain ⟨⟨o,S⟩,hc,P⟩:=bI P
 refine sc 8 rfl rfl (yc QH (Sd (Ac.mk 1 0 0 0) Q _  (u.inn0 [] rfl) hc)) ?_
 rintro _ ab ⟨rfl,hd⟩
 have U:=u.out00 hd
 refine sQ 5 yv<|sQ 9 (ye (gR_ o))<|sQ 10 (ye (.bool S)) ?_
 refine sS 3 (yN [vi 0,vi 0,vi 0,vi 0] 4 U K37) ?_
 rintro _ ac ⟨b1,rfl,V⟩
 refine s0 (yK 1 4 0 V K12) ?_
 rintro _ ae ⟨rfl,H⟩
 refine sQ 4 yu (rn (cq (cr ?_)))
 refine sQ 11 (yw 0 K25 K12 (H.c 1))<|sQ 12 (Y_buildS (zs:=kZ_) (vs:=[(0,gR_ o)]) (cs:=[vi o.A,vi o.B,vi o.C,vi o.D,vi 0]) K61 K33 rfl (mpc rfl mpn) rfl) ?_
 refine s0 (yK 0 5 0 H K10) ?_
 rintro _ af ⟨rfl,J⟩
 refine rn (ct_ ?_)
 obtain rfl:=sI P
 exact ret1 Tryz.results77 (rX K21 K10 (J.c 0)) ⟨rfl,(J.sN [])⟩

theorem FA (n:Int) (o:Int) (q:Int)  (u:World)  (O:ST u [] u [] []) {J:Int} (D:BX n o q=some J) :
  CV Tryz.prog 122 #[vi n,vi o,vi q] u (fun v P=>v=vi J∧ST u [] P [] []):=by
 unfold BX at D
 refine cv_of_cw 14 Tryz.func122 rfl Tryz.ntmps122 rfl ?_
 refine cq (cr ?_)
 refine sQ 6 yu (rn (cq (cr ?_)))
 refine sQ 7 yv<|sQ 8 yv<|sQ 9 zM<|sQ 10 yv<|sQ 11 zM ?_
 obtain ⟨H,D⟩:=chk_inv D
 refine sQ 12 (Y_shr (k:=.i64) (a:=o) (k':=.i64) (b:=(i64.wrap ((i64.wrap (n-1))-q))) rfl rfl rfl H)<|sQ 13 (Y_band (k:=.i64) (a:=(shrK .i64 o (i64.wrap ((i64.wrap (n-1))-q)))) (b:=1) rfl rfl rfl)<|sQ 6 yu (rn (ct_ ?_))
 obtain rfl:=sI D
 exact e1 Tryz.results122 (O.sN [])

theorem Hl (n:Int) (o:Int) (q:Int)  (u:World)  (O:ST u [] u [] []) {J:Int} (D:CP n o q=some J) :
  CV Tryz.prog 123 #[vi n,vi o,vi q] u (fun v P=>v=vi J∧ST u [] P [] []):=by
 unfold CP at D
 refine cv_of_cw 14 Tryz.func123 rfl Tryz.ntmps123 rfl ?_
 refine cq (cr ?_)
 refine sQ 6 yu (rn (cq (cr ?_)))
 refine sQ 7 yv<|sQ 8 yv<|sQ 9 zM<|sQ 10 yv<|sQ 11 zM ?_
 obtain ⟨H,D⟩:=chk_inv D
 refine sQ 12 (Y_shl (k:=.i64) (a:=1) (k':=.i64) (b:=(i64.wrap ((i64.wrap (n-1))-q))) rfl rfl rfl H)<|sQ 13 (Y_bxor (k:=.i64) (a:=o) (b:=(shlK .i64 1 (i64.wrap ((i64.wrap (n-1))-q)))) rfl rfl rfl)<|sQ 6 yu (rn (ct_ ?_))
 obtain rfl:=sI D
 exact e1 Tryz.results123 (O.sN [])

theorem Pa (n:Int) (g:Ab) (o:Int)  (w0:World)  (hS:ST w0 [] w0 [] []) {r_:Int} (U:FU n g o=some r_) :
  CV Tryz.prog 120 #[vi n,.agg #[vi g.Kind,vi g.A,vi g.B],vi o] w0 (fun v w'=>v=vi r_∧ST w0 [] w' [] []):=by
 unfold FU at U
 refine cv_of_cw 51 Tryz.func120 rfl Tryz.ntmps120 rfl ?_
 refine cq (cr ?_)
 refine sS 4 (yV [vi g.Kind,vi g.A,vi g.B] 3 hS) ?_
 rintro _ w_ ⟨b,rfl,ab⟩
 refine sQ 6 yu (rn (cq ?_))
 obtain ⟨ay,hc,U⟩:=bI U
 obtain ⟨aA,ag,U⟩:=bI U
 refine ra_start (ab.se [0]).fn (by kernel_rfl) ?_
 have V:=ab.drew
 have u:=V.se [0]
 refine rq 0 9 rfl u (fun _ q=>yv)<|rq 1 10 rfl u (fun _ q=>yv)<|rq 2 11 rfl u (fun _ q=>(yd (aD b) 0 0 K24 K1))<|rq 3 12 rfl u (fun _ q=>(yz 1 K0 (ST.c q 0)))<|rq 5 14 rfl u (fun _ q=>yv) ?_
 refine rq 6 15 rfl u (fun _ q=>yv)<|rq 7 16 rfl u (fun _ q=>(yd (aD b) 0 0 K38 K1))<|rq 8 17 rfl u (fun _ q=>(yz 2 K0 (ST.c q 0))) ?_
 refine rA [4] ?_
 refine rC 13 4 rfl (yc K95 (FA n o g.A _  (V.inn0 [] rfl) hc)) ?_ aN
 rintro _ aB ⟨rfl,hd⟩
 have W:=V.out00 hd
 refine ⟨(W.se [0]),?_⟩
 refine rA [9] ?_
 refine rC 18 9 rfl (yc K95 (FA n o g.B _  (W.inn0 [] rfl) ag)) ?_ aN
 rintro _ aE ⟨rfl,ah⟩
 have D:=W.out00 ah
 have S:=D.se [0]
 refine ⟨S,?_⟩
 refine rq 10 7 rfl S (fun _ q=>yu)<|rq 11 8 rfl S (fun _ q=>yu) ?_
 refine ra_done (by kernel_rfl) ?_
 refine cq (cw_block (cq (cr ?_)))
 refine sQ 20 (yd (aD b) 0 0 K42 K1)<|sQ 21 (yz 0 K0 (D.c 0))<|sQ 22 zE<|sQ 23 yv ?_
 refine sgq 24 rfl rfl (uT_ 23) (fun hg=>yv) ?_
 refine sgq 25 rfl rfl (uT_ 23) (fun ai=>(zE rfl (gv_of ai))) ?_
 refine sQ 26 yA<|sQ 19 yu (rn ?_)
 refine cw_cond rfl (fun hb=>?_) (fun hb=>?_)
 ·skip
  have Z:=ct U hb
  refine cq (cr ?_)
  refine sQ 27 yv<|sQ 28 yv<|sQ 29 (yd (aD b) 0 0 K38 K1)<|sQ 30 (yz 2 K0 (D.c 0)) ?_
  obtain ⟨aF,aj,Z⟩:=bI Z
  refine sc 31 rfl rfl (yc HG (Hl n o g.B _  (D.inn0 [] rfl) aj)) ?_
  rintro _ aG ⟨rfl,ak⟩
  have al:=D.out00 ak
  refine sQ 6 yu (rn (ct_ ?_))
  obtain rfl:=sI Z
  exact e1 Tryz.results120 (al.sN [])
 ·skip
  have ac:=cf' U hb
  refine cq (cr ?_)
  refine sQ 33 (yd (aD b) 0 0 K42 K1)<|sQ 34 (yz 0 K0 (D.c 0))<|sQ 35 zE<|sQ 36 yv ?_
  refine sgq 37 rfl rfl (uT_ 36) (fun aI=>yv) ?_
  refine sgq 38 rfl rfl (uT_ 36) (fun aJ=>yv) ?_
  refine sgq 39 rfl rfl (uT_ 36) (fun ae=>(Y_ne rfl (gv_of ae) (gv_of ae))) ?_
  refine sQ 40 yA<|sQ 32 yu (rn ?_)
  refine cw_cond rfl (fun aa=>?_) (fun aa=>?_)
  ·skip
   have J:=ct ac aa
   refine cq ?_
   obtain ⟨am,an,J⟩:=bI J
   obtain ⟨aK,ao,J⟩:=bI J
   refine ra_start S.fn (by kernel_rfl) ?_
   have O:=D.drew
   have H:=O.se [0]
   refine rq 0 41 rfl H (fun _ q=>yv)<|rq 1 42 rfl H (fun _ q=>yv)<|rq 2 43 rfl H (fun _ q=>yv)<|rq 3 44 rfl H (fun _ q=>(yd (aD b) 0 0 K24 K1))<|rq 4 45 rfl H (fun _ q=>(yz 1 K0 (ST.c q 0))) ?_
   refine rq 6 47 rfl H (fun _ q=>(yd (aD b) 0 0 K38 K1))<|rq 7 48 rfl H (fun _ q=>(yz 2 K0 (ST.c q 0))) ?_
   refine rA [5] ?_
   refine rC 46 5 rfl (yc HG (Hl n o g.A _  (O.inn0 [] rfl) an)) ?_ aN
   rintro _ aL ⟨rfl,ap⟩
   have P:=O.out00 ap
   refine ⟨(P.se [0]),?_⟩
   refine rA [8] ?_
   refine rC 49 8 rfl (yc HG (Hl n am g.B _  (P.inn0 [] rfl) ao)) ?_ aN
   rintro _ aM ⟨rfl,aq⟩
   have Q:=P.out00 aq
   refine ⟨(Q.se [0]),?_⟩
   refine rq 9 6 rfl (Q.se [0]) (fun _ q=>yu) ?_
   refine ra_done (by kernel_rfl) ?_
   refine ct_ ?_
   obtain rfl:=sI J
   exact e1 Tryz.results120 (Q.sN [])
  ·skip
   have ar:=cf' ac aa
   refine cw_skip (cq (cr ?_))
   refine sQ 50 yv<|sQ 6 yu (rn (ct_ ?_))
   obtain rfl:=sI ar
   exact e1 Tryz.results120 (D.sN [])

theorem Qx (o:Bool)  (u:World)  (O:ST u [] u [] []) {P:Int} (D:Cb o=some P) :
  CV Tryz.prog 121 #[.bool o] u (fun v Q=>v=vi P∧ST u [] Q [] []):=by
 unfold Cb at D
 refine cv_of_cw 4 Tryz.func121 rfl Tryz.ntmps121 rfl ?_
 refine cq (cr ?_)
 refine sQ 2 yu (rn (cq (cq (cr ?_))))
 refine sQ 3 yv (rn ?_)
 refine cw_cond rfl (fun hb=>?_) (fun hb=>?_)
 ·skip
  have H:=ct D hb
  refine cq (cr ?_)
  refine sQ 2 yu (rn (ct_ ?_))
  obtain rfl:=sI H
  exact e1 Tryz.results121 (O.sN [])
 ·skip
  have J:=cf' D hb
  refine cw_skip (cq (cr ?_))
  refine sQ 2 yu (rn (ct_ ?_))
  obtain rfl:=sI J
  exact e1 Tryz.results121 (O.sN [])

theorem OU (o:Int) (i:Int) (j:Int)  (w0:World)  (hS:ST w0 [] w0 [] []) {r_:Ad} (hF:EO o i j=some r_) :
  CV Tryz.prog 124 #[vi o,vi i,vi j] w0 (fun v w'=>v=(gD_ r_)∧ST w0 [] w' [] []):=by
 unfold EO at hF
 refine cv_of_cw 67 Tryz.func124 rfl Tryz.ntmps124 rfl ?_
 refine cq (cr ?_)
 refine sS 6 (yN kZ_ 5 hS K33) ?_
 rintro _ w_ ⟨b,rfl,aA⟩
 refine rn (cq (cr ?_))
 refine sQ 9 (Y_buildS (zs:=[vi 0,vi 0,vi 0,vi 0]) (vs:=[(0,vi 1)]) (cs:=[vi 1,vi 0,vi 0,vi 0]) K67 K37 rfl (mpc rfl mpn) rfl)<|sQ 10 (Y_buildS (zs:=kZ_) (vs:=[(0,.agg #[vi 1,vi 0,vi 0,vi 0]),(1,vi 1)]) (cs:=[vi 1,vi 0,vi 0,vi 0,vi 1]) K61 K33 rfl (mpc rfl (mpc rfl mpn)) rfl) ?_
 refine sS 7 (yN kZ_ 5 aA K33) ?_
 rintro _ bn ⟨b1,rfl,aB⟩
 refine s0 (yK 1 5 0 aB K10) ?_
 rintro _ bo ⟨rfl,aE⟩
 refine rn (cq (cr ?_))
 refine sS 11 (Ys_mkMap (T:=162) aE rfl) ?_
 rintro _ bp ⟨g,rfl,aF⟩
 refine s0 (Ys_mapIns (kE:=(Value.int .i64)) (vE:=(Value.int .i64)) (l:=([]:List (Int×Int))) (a:=4) (b:=4) (g:=g) (i:=2) aF (keyInt K16) K96 rfl rfl rfl rfl rfl rfl) ?_
 rintro _ bq ⟨rfl,aG⟩
 refine s0 (Ys_mapIns (kE:=(Value.int .i64)) (vE:=(Value.int .i64)) (l:=(mput ([]:List (Int×Int)) 4 4)) (a:=5) (b:=2) (g:=g) (i:=2) aG (keyInt K16) K96 rfl rfl rfl rfl rfl rfl) ?_
 rintro _ bt ⟨rfl,aI⟩
 refine s0 (Ys_mapIns (kE:=(Value.int .i64)) (vE:=(Value.int .i64)) (l:=(mput (mput ([]:List (Int×Int)) 4 4) 5 2)) (a:=6) (b:=6) (g:=g) (i:=2) aI (keyInt K16) K96 rfl rfl rfl rfl rfl rfl) ?_
 rintro _ bu ⟨rfl,aJ⟩
 refine s0 (Ys_mapIns (kE:=(Value.int .i64)) (vE:=(Value.int .i64)) (l:=(mput (mput (mput ([]:List (Int×Int)) 4 4) 5 2) 6 6)) (a:=7) (b:=1) (g:=g) (i:=2) aJ (keyInt K16) K96 rfl rfl rfl rfl rfl rfl) ?_
 rintro _ bv ⟨rfl,aK⟩
 refine s0 (Ys_mapIns (kE:=(Value.int .i64)) (vE:=(Value.int .i64)) (l:=(mput (mput (mput (mput ([]:List (Int×Int)) 4 4) 5 2) 6 6) 7 1)) (a:=8) (b:=7) (g:=g) (i:=2) aK (keyInt K16) K96 rfl rfl rfl rfl rfl rfl) ?_
 rintro _ bw ⟨rfl,u⟩
 refine sQ 12 (ym (.map (some g)))<|sQ 8 (yg (.map (some g))) (rn (cq (cw_block (cq (cr ?_)))))
 refine sQ 14 (ym (vi o))<|sQ 15 zE<|sQ 13 (yg (.bool (o==1))) (rn ?_)
 refine cw_cond rfl (fun hb=>?_) (fun hb=>?_)
 ·skip
  have aL:=ct hF hb
  refine cq ?_
  obtain ⟨z,hz,aM⟩:=bI aL
  refine cw_mid (fun f w=>∃ (A:Int),A=z∧FF f [(6,pt (aD b) 0),(7,pt (aD b1) 0)]∧ST w0 [] w [⟨aD b,112,kZ_,5⟩,⟨aD b1,112,[vi A,vi 0,vi 0,vi 0,vi 1],5⟩] []) ?_ ?_
  ·skip
   refine cq (cr ?_)
   refine sQ 16 (ym (vi i))<|sQ 17 zE<|sQ 18 (ym (.bool (i==1))) ?_
   refine sgq 19 rfl rfl (uT_ 18) (fun hg=>(ym (vi j))) ?_
   refine sgq 20 rfl rfl (uT_ 18) (fun aO=>(zE rfl (gv_of aO))) ?_
   refine sQ 21 yA (rn ?_)
   refine cw_cond rfl (fun aa=>?_) (fun aa=>?_)
   ·skip
    have aQ:=ct hz aa
    refine cr ?_
    refine sQ 22 (yd (aD b1) 0 3 K97 K12)<|sQ 23 (yd (aD b1) 0 0 K51 K1) ?_
    refine s0 (yS 1 1 (aD b1) 112 (vi (-1)) [vi (-1)] 0 [vi (-1),vi 0,vi 0,vi 0,vi 1] u K1) ?_
    rintro _ bA ⟨rfl,ak⟩
    refine rn ?_
    exact ⟨(-1),(sI aQ),(fc rfl (fc rfl fn_)),(ak.sel [0,1] rfl rfl)⟩
   ·skip
    have aR:=cf' hz aa
    refine cw_skip ?_
    exact ⟨1,(sI aR),(fc rfl (fc rfl fn_)),(u.sel [0,1] rfl rfl)⟩
  rintro f w ⟨A,rfl,hf,J⟩
  refine cq (cr ?_)
  refine sQ 24 (yw 0 K21 K10 (J.c 1) rfl (hf.g 7 1)) ?_
  refine s0 (yK 0 5 0 J K10 rfl (hf.g 6 0)) ?_
  rintro _ a7 ⟨rfl,O⟩
  refine rn (ct_ ?_)
  obtain rfl:=sI aM
  exact ret1 Tryz.results124 (rX K21 K10 (O.c 0) (hf.g 6 0)) ⟨rfl,(O.sN [])⟩
 ·skip
  have al:=cf' hF hb
  refine cq (cr ?_)
  refine sQ 26 (ym (vi o))<|sQ 27 zE<|sQ 28 (ym (.bool (o==2))) ?_
  refine sgq 29 rfl rfl (uT_ 28) (fun bB=>(ym (vi i))) ?_
  refine sgq 30 rfl rfl (uT_ 28) (fun bC=>(ym (vi j))) ?_
  refine sgq 31 rfl rfl (uT_ 28) (fun am=>(Y_ne rfl (gv_of am) (gv_of am))) ?_
  refine sQ 32 yA<|sQ 25 (yg (.bool ((o==2)&&(i != j)))) (rn ?_)
  refine cw_cond rfl (fun ab=>?_) (fun ab=>?_)
  ·skip
   have ac:=ct al ab
   refine cq (cr ?_)
   obtain ⟨bD,hc,ac⟩:=bI ac
   refine sc 33 rfl rfl (yc IA (IQ 1 _  (u.inn0 [] rfl) hc)) ?_
   rintro _ a8 ⟨rfl,hd⟩
   have an:=u.out00 hd
   refine s0 (yK 0 5 0 an K10) ?_
   rintro _ a9 ⟨rfl,P⟩
   refine rn (ct_ ?_)
   obtain rfl:=sI ac
   exact ret1 Tryz.results124 (rX K21 K10 (P.c 0)) ⟨rfl,(P.sN [])⟩
  ·skip
   have ao:=cf' al ab
   refine cq (cr ?_)
   refine sQ 35 (ym (vi o))<|sQ 36 zE<|sQ 37 (ym (.bool (o==3))) ?_
   refine sgq 38 rfl rfl (uT_ 37) (fun bE=>(ym (vi i))) ?_
   refine sgq 39 rfl rfl (uT_ 37) (fun bF=>(ym (vi j))) ?_
   refine sgq 40 rfl rfl (uT_ 37) (fun ap=>(Y_ne rfl (gv_of ap) (gv_of ap))) ?_
   refine sQ 41 yA<|sQ 34 (yg (.bool ((o==3)&&(i != j)))) (rn ?_)
   refine cw_cond rfl (fun ae=>?_) (fun ae=>?_)
   ·skip
    have af:=ct ao ae
    refine cq (cr ?_)
    refine sQ 42 (ym (vi j))<|sQ 43 zX<|sQ 44 zP ?_
    obtain ⟨bH,aU,af⟩:=bI af
    refine sc 45 rfl rfl (yc G9 (GN (i64.wrap (2+(i64.wrap (4*j)))) _  (u.inn0 [] rfl) aU)) ?_
    rintro _ ba ⟨rfl,aV⟩
    have aq:=u.out00 aV
    refine s0 (yK 0 5 0 aq K10) ?_
    rintro _ bb ⟨rfl,Q⟩
    refine rn (ct_ ?_)
    obtain rfl:=sI af
    exact ret1 Tryz.results124 (rX K21 K10 (Q.c 0)) ⟨rfl,(Q.sN [])⟩
   ·skip
    have ar:=cf' ao ae
    refine cq (cr ?_)
    refine sQ 47 (ym (vi o))<|sQ 48 zE<|sQ 49 (ym (.bool (o==2))) ?_
    refine sgq 50 rfl rfl (uF_ 49) (fun bJ=>(ym (vi o))) ?_
    refine sgq 51 rfl rfl (uF_ 49) (fun aY=>(zE rfl (gv_of aY))) ?_
    refine sQ 52 yO<|sQ 53 (ym (.bool ((o==2)||(o==3)))) ?_
    refine sgq 54 rfl rfl (uF_ 53) (fun bc=>(ym (vi i))) ?_
    refine sgq 55 rfl rfl (uF_ 53) (fun bd=>(ym (vi j))) ?_
    refine sgq 56 rfl rfl (uF_ 53) (fun S=>(Y_ne rfl (gv_of S) (gv_of S))) ?_
    refine sQ 57 yO<|sQ 46 (yg (.bool (((o==2)||(o==3))||(i != j)))) (rn ?_)
    refine cw_cond rfl (fun ag=>?_) (fun ag=>?_)
    ·skip
     have au:=ct ar ag
     refine cq (cr ?_)
     refine sQ 58 (Y_buildS (zs:=kZ_) (vs:=[]) (cs:=kZ_) K61 K33 rfl mpn rfl) ?_
     refine s0 (yK 0 5 0 u K10) ?_
     rintro _ be ⟨rfl,U⟩
     refine rn (ct_ ?_)
     obtain rfl:=sI au
     exact ret1 Tryz.results124 (rX K21 K10 (U.c 0)) ⟨rfl,(U.sN [])⟩
    ·skip
     have V:=cf' ar ag
     refine cq (cr ?_)
     refine sQ 60 (ym (vi i))<|sQ 61 zE<|sQ 59 (yg (.bool (i==0))) (rn ?_)
     refine cw_cond rfl (fun ah=>?_) (fun ah=>?_)
     ·skip
      have D:=ct V ah
      refine cq (cr ?_)
      obtain ⟨bK,a0,D⟩:=bI D
      refine sc 62 rfl rfl (yc IA (IQ 1 _  (u.inn0 [] rfl) a0)) ?_
      rintro _ bf ⟨rfl,a1⟩
      have av:=u.out00 a1
      refine s0 (yK 0 5 0 av K10) ?_
      rintro _ bg ⟨rfl,W⟩
      refine rn (ct_ ?_)
      obtain rfl:=sI D
      exact ret1 Tryz.results124 (rX K21 K10 (W.c 0)) ⟨rfl,(W.sN [])⟩
     ·skip
      have H:=cf' V ah
      refine cw_skip (cq (cr ?_))
      refine sQ 63 (ym (.map (some g)))<|sQ 64 (ym (vi o))<|sQ 65 (Y_mapGet (kE:=(Value.int .i64)) (vE:=(Value.int .i64)) (l:=(mput (mput (mput (mput (mput ([]:List (Int×Int)) 4 4) 5 2) 6 6) 7 1) 8 7)) (a:=o) (d:=0) (g:=g) (i:=2) u (keyInt K16) K96 M2 rfl rfl rfl rfl) ?_
      obtain ⟨bL,a2,H⟩:=bI H
      refine sc 66 rfl rfl (yc G9 (GN (mgt (mput (mput (mput (mput (mput ([]:List (Int×Int)) 4 4) 5 2) 6 6) 7 1) 8 7) o 0) _  (u.inn0 [] rfl) a2)) ?_
      rintro _ bh ⟨rfl,a3⟩
      have aw:=u.out00 a3
      refine s0 (yK 0 5 0 aw K10) ?_
      rintro _ bj ⟨rfl,Z⟩
      refine rn (ct_ ?_)
      obtain rfl:=sI H
      exact ret1 Tryz.results124 (rX K21 K10 (Z.c 0)) ⟨rfl,(Z.sN [])⟩

theorem Qd (i:Int) (j:Int) (p:Ab) (p1:Int) (B:Option Addr) (B1:Option Addr) (w0:World)  (hS:ST w0 [] w0 [] [⟨B,[vi p.Kind,vi p.A,vi p.B]⟩,⟨B1,[vi p1]⟩]) {r_:Ad} {au:Bool} (hF:C2 i j p p1=some (r_,au)) :
  CV Tryz.prog 119 #[vi i,vi j,pt B 0,pt B1 0] w0 (fun v w'=>v=.tuple #[gD_ r_,.bool au]∧ST w0 [] w' [] []):=by
 unfold C2 at hF
 refine cv_of_cw 75 Tryz.func119 rfl Tryz.ntmps119 rfl ?_
 refine cq (cr ?_)
 refine sS 6 (yN kZ_ 5 hS K33) ?_
 rintro _ w_ ⟨b,rfl,O⟩
 refine sQ 7 yu (rn (cq ?_))
 obtain ⟨z,hz,ac⟩:=bI hF
 refine cw_mid (fun f w=>.inl ()=z∧FF f [(6,pt (aD b) 0)]∧ST w0 [] w [⟨aD b,112,kZ_,5⟩] [⟨B,[vi p.Kind,vi p.A,vi p.B]⟩,⟨B1,[vi p1]⟩]) ?_ ?_
 ·skip
  refine cw_block (cq (cr ?_))
  refine sQ 9 (yd B 0 0 K42 K1)<|sQ 10 (yz 0 K0 (O.rf (i:=0) rfl))<|sQ 11 zE<|sQ 8 yu (rn ?_)
  refine cw_cond rfl (fun hb=>?_) (fun hb=>?_)
  ·skip
   have av:=ct hz hb
   refine cq (cr ?_)
   refine sQ 12 yv<|sQ 13 yv<|sQ 14 zE (rn ?_)
   refine cw_cond rfl (fun am=>?_) (fun am=>?_)
   ·skip
    have an:=ct av am
    refine cq (cr ?_)
    obtain ⟨bK,hc,an⟩:=bI an
    refine sc 15 rfl rfl (yc G9 (GN 1 _  (O.inn0 [] rfl) hc)) ?_
    rintro _ bL ⟨rfl,hd⟩
    have aQ:=O.out00 hd
    refine s0 (yK 0 5 0 aQ K10) ?_
    rintro _ bM ⟨rfl,aw⟩
    refine sQ 7 yu (rn (ct_ ?_))
    obtain rfl:=sI an
    obtain ⟨rfl,rfl⟩:=pr2 (sI ac)
    exact ret2 Tryz.results119 (rX K21 K10 (aw.c 0)) rT ⟨rfl,(aw.sN [])⟩
   ·skip
    have aR:=cf' av am
    refine cw_skip ?_
    exact ⟨(sI aR),(fc rfl fn_),(O.sel [0] rfl rfl)⟩
  ·skip
   have ae:=cf' hz hb
   refine cq (cr ?_)
   refine sQ 17 (yd B 0 0 K42 K1)<|sQ 18 (yz 0 K0 (O.rf (i:=0) rfl)) ?_
   obtain ⟨bN,aT,ae⟩:=bI ae
   refine sc 19 rfl rfl (yc MI (JR p.Kind _  (O.inn0 [] rfl) aT)) ?_
   rintro _ bO ⟨rfl,aU⟩
   have u:=O.out00 aU
   refine sQ 16 yu (rn ?_)
   refine cw_cond rfl (fun ao=>?_) (fun ao=>?_)
   ·skip
    have af:=ct ae ao
    refine cq (cr ?_)
    refine sQ 20 (yz 0 K0 (u.rf (i:=1) rfl))<|sQ 21 (yw 0 K27 K8 (u.rf (i:=0) rfl))<|sQ 22 yv ?_
    obtain ⟨bP,aV,af⟩:=bI af
    refine sc 23 rfl rfl (yc Om (Pa p1 p i _  (u.inn0 [] rfl) aV)) ?_
    rintro _ bQ ⟨rfl,aY⟩
    have J:=u.out00 aY
    refine sQ 24 yv<|sQ 25 zE (rn ?_)
    refine cw_cond rfl (fun ap=>?_) (fun ap=>?_)
    ·skip
     have H:=ct af ap
     refine cq (cr ?_)
     refine sQ 26 (yd B 0 0 K42 K1)<|sQ 27 (yz 0 K0 (J.rf (i:=0) rfl))<|sQ 28 zE<|sQ 29 yv ?_
     refine sgq 30 rfl rfl (uT_ 29) (fun hg=>(yz 0 K0 (J.rf (i:=1) rfl))) ?_
     refine sgq 31 rfl rfl (uT_ 29) (fun bR=>yv) ?_
     refine sgq 32 rfl rfl (uT_ 29) (fun bS=>(yd B 0 0 K24 K1)) ?_
     refine sgq 33 rfl rfl (uT_ 29) (fun a0=>(yz 1 K0 (J.rf (i:=0) rfl) rfl (gv_of a0))) ?_
     obtain ⟨ay,a1,H⟩:=bI H
     refine sgc 34 (v:=vi ay) (F:=J.fn) rfl rfl (uT_ 29) J (fun ag=>(yc K95 (CV.mono (FA p1 i p.A _  (J.inn0 [] rfl) (gb_inv a1 ag)) (by rintro _ _ ⟨rfl,h⟩; exact ⟨rfl,J.out00 h⟩)) rfl (mc (gv_of ag) (mc (gv_of ag) (mc (gv_of ag) mn))))) ?_
     rintro bT U
     refine sgq 35 rfl rfl (uT_ 29) (fun a2=>(zE rfl (gv_of a2))) ?_
     refine sQ 36 yA<|sQ 37 yv ?_
     refine sgq 38 rfl rfl (uT_ 37) (fun bU=>(yz 0 K0 (U.rf (i:=1) rfl))) ?_
     refine sgq 39 rfl rfl (uT_ 37) (fun bV=>yv) ?_
     refine sgq 40 rfl rfl (uT_ 37) (fun bW=>(yd B 0 0 K38 K1)) ?_
     refine sgq 41 rfl rfl (uT_ 37) (fun a3=>(yz 2 K0 (U.rf (i:=0) rfl) rfl (gv_of a3))) ?_
     obtain ⟨aA,a5,H⟩:=bI H
     refine sgc 42 (v:=vi aA) (F:=U.fn) rfl rfl (uT_ 37) U (fun P=>(yc K95 (CV.mono (FA p1 i p.B _  (U.inn0 [] rfl) (gb_inv a5 P)) (by rintro _ _ ⟨rfl,h⟩; exact ⟨rfl,U.out00 h⟩)) rfl (mc (gv_of P) (mc (gv_of P) (mc (gv_of P) mn))))) ?_
     rintro bX aB
     refine sgq 43 rfl rfl (uT_ 37) (fun aE=>(zE rfl (gv_of aE))) ?_
     refine sQ 44 yA ?_
     obtain ⟨a6,a7,H⟩:=bI H
     refine sc 45 rfl rfl (yc Sj (Qx (((p.Kind==10)&&(ay==1))&&(aA==1)) _  (aB.inn0 [] rfl) a7)) ?_
     rintro _ bY ⟨rfl,a8⟩
     have aF:=aB.out00 a8
     refine sQ 46 zX ?_
     obtain ⟨bZ,a9,H⟩:=bI H
     refine sc 47 rfl rfl (yc G9 (GN (i64.wrap (4*a6)) _  (aF.inn0 [] rfl) a9)) ?_
     rintro _ b0 ⟨rfl,ba⟩
     have aG:=aF.out00 ba
     refine s0 (yK 0 5 0 aG K10) ?_
     rintro _ b1 ⟨rfl,ai⟩
     refine sQ 7 yu (rn (ct_ ?_))
     obtain rfl:=sI H
     obtain ⟨rfl,rfl⟩:=pr2 (sI ac)
     exact ret2 Tryz.results119 (rX K21 K10 (ai.c 0)) rT ⟨rfl,(ai.sN [])⟩
    ·skip
     have bb:=cf' af ap
     refine cw_skip ?_
     exact ⟨(sI bb),(fc rfl fn_),(J.sel [0] rfl rfl)⟩
   ·skip
    have ah:=cf' ae ao
    refine cq (cr ?_)
    refine sQ 49 yv<|sQ 50 yv<|sQ 51 zE<|sQ 52 yv ?_
    refine sgq 53 rfl rfl (uF_ 52) (fun bp=>(yz 0 K0 (u.rf (i:=1) rfl))) ?_
    refine sgq 54 rfl rfl (uF_ 52) (fun bq=>yv) ?_
    refine sgq 55 rfl rfl (uF_ 52) (fun bt=>(yd B 0 0 K24 K1)) ?_
    refine sgq 56 rfl rfl (uF_ 52) (fun aI=>(yz 1 K0 (u.rf (i:=0) rfl) rfl (gv_of aI))) ?_
    obtain ⟨bc,bd,ah⟩:=bI ah
    refine sgc 57 (v:=vi bc) (F:=u.fn) rfl rfl (uF_ 52) u (fun Q=>(yc HG (CV.mono (Hl p1 i p.A _  (u.inn0 [] rfl) (gb_inv bd Q)) (by rintro _ _ ⟨rfl,h⟩; exact ⟨rfl,u.out00 h⟩)) rfl (mc (gv_of Q) (mc (gv_of Q) (mc (gv_of Q) mn))))) ?_
    rintro bu V
    refine sgq 58 rfl rfl (uF_ 52) (fun bv=>yv) ?_
    refine sgq 59 rfl rfl (uF_ 52) (fun aj=>(zE rfl (gv_of aj) (gv_of aj))) ?_
    refine sQ 60 yO<|sQ 48 yu (rn ?_)
    refine cw_cond rfl (fun aq=>?_) (fun aq=>?_)
    ·skip
     have o:=ct ah aq
     refine cq ?_
     obtain ⟨aJ,be,o⟩:=bI o
     obtain ⟨aK,bf,o⟩:=bI o
     obtain ⟨bw,aL,o⟩:=bI o
     refine ra_start (V.se []).fn (by kernel_rfl) ?_
     have W:=V.drew
     have D:=W.se []
     refine rq 0 61 rfl D (fun _ q=>(yd B 0 0 K42 K1))<|rq 1 62 rfl D (fun _ q=>(yz 0 K0 (ST.rf q (i:=0) rfl)))<|rq 2 63 rfl D (fun _ q=>(yz 0 K0 (ST.rf q (i:=1) rfl)))<|rq 3 64 rfl D (fun _ q=>yv)<|rq 4 65 rfl D (fun _ q=>(yd B 0 0 K24 K1)) ?_
     refine rq 5 66 rfl D (fun _ q=>(yz 1 K0 (ST.rf q (i:=0) rfl)))<|rq 7 68 rfl D (fun _ q=>(yz 0 K0 (ST.rf q (i:=1) rfl)))<|rq 8 69 rfl D (fun _ q=>yv)<|rq 9 70 rfl D (fun _ q=>(yd B 0 0 K24 K1))<|rq 10 71 rfl D (fun _ q=>(yz 1 K0 (ST.rf q (i:=0) rfl))) ?_
     refine rA [6] ?_
     refine rC 67 6 rfl (yc K95 (FA p1 i p.A _  (W.inn0 [] rfl) be)) ?_ aN
     rintro _ bA ⟨rfl,bg⟩
     have Z:=W.out00 bg
     refine ⟨(Z.se []),?_⟩
     refine rA [11] ?_
     refine rC 72 11 rfl (yc K95 (FA p1 j p.A _  (Z.inn0 [] rfl) bf)) ?_ aN
     rintro _ bB ⟨rfl,bh⟩
     have aa:=Z.out00 bh
     refine ⟨(aa.se []),?_⟩
     refine rA [12] ?_
     refine rC 73 12 rfl (yc RO (OU p.Kind aJ aK _  (aa.inn0 [] rfl) aL)) ?_ aN
     rintro _ bC ⟨rfl,bj⟩
     have ak:=aa.out00 bj
     refine ⟨(ak.se []),?_⟩
     refine rA [13] ?_
     refine rZ 13 rfl (yK 0 5 0 ak K10) ?_ aN
     rintro _ bD ⟨rfl,S⟩
     refine ⟨(S.se []),?_⟩
     refine rq 14 7 rfl (S.se []) (fun _ q=>yu) ?_
     refine ra_done (by kernel_rfl) ?_
     refine ct_ ?_
     obtain rfl:=sI o
     obtain ⟨rfl,rfl⟩:=pr2 (sI ac)
     exact ret2 Tryz.results119 (rX K21 K10 (S.c 0)) rT ⟨rfl,(S.sN [])⟩
    ·skip
     have aM:=cf' ah aq
     refine cw_skip ?_
     exact ⟨(sI aM),(fc rfl fn_),(V.sel [0] rfl rfl)⟩
 rintro f w ⟨rfl,hf,bk⟩
 refine cq (cr ?_)
 refine sQ 74 (Y_buildS (zs:=kZ_) (vs:=[]) (cs:=kZ_) K61 K33 rfl mpn rfl) ?_
 refine s0 (yK 0 5 0 bk K10 rfl (hf.g 6 0)) ?_
 rintro _ bF ⟨rfl,al⟩
 refine sQ 7 yu (rn (ct_ ?_))
 obtain ⟨rfl,rfl⟩:=pr2 (sI ac)
 exact ret2 Tryz.results119 (rX K21 K10 (al.c 0) (hf.g 6 0)) rT ⟨rfl,(al.sN [])⟩

theorem Tt (n:Int) (g:Ab)  (w0:World)  (hS:ST w0 [] w0 [] []) {r_:Ag} {U:Bool} (V:Ds n g=some (r_,U)) :
  CV Tryz.prog 102 #[vi n,.agg #[vi g.Kind,vi g.A,vi g.B]] w0 (fun v w'=>∃ (B:Option Addr) (c:Nat),v=.tuple #[gM_ r_ B c,.bool U]∧ST w0 [] w' [⟨B,112,(r_.Cells.flatMap Au),c*5⟩] []):=by
 unfold Ds at V
 refine cv_of_cw 19 Tryz.func102 rfl Tryz.ntmps102 rfl ?_
 refine cq (cr ?_)
 refine sS 2 (yB 3 (vi n) [vi n] 1 hS) ?_
 rintro _ w_ ⟨b,rfl,af⟩
 refine sS 3 (yV [vi g.Kind,vi g.A,vi g.B] 3 af) ?_
 rintro _ au ⟨b1,rfl,ag⟩
 refine sS 4 (yN kN_ 3 ag K45) ?_
 rintro _ av ⟨b2,rfl,H⟩
 refine sQ 5 yu (rn (cq (cq (cr ?_))))
 refine sQ 6 (yz 0 K0 (H.c 0))<|sQ 7 (yw 0 K27 K8 (H.c 1)) ?_
 obtain ⟨aw,hc,V⟩:=bI V
 refine sc 8 rfl rfl (yc MG (MC n g _  (H.inn0 [] rfl) hc)) ?_
 rintro _ ay ⟨rfl,hd⟩
 have J:=H.out00 hd
 refine sQ 9 yn (rn ?_)
 refine cw_cond rfl (fun hb=>?_) (fun hb=>?_)
 ·skip
  have ah:=ct V hb
  refine cq (cr ?_)
  refine sQ 10 (Y_buildS (zs:=kN_) (vs:=[]) (cs:=kN_) K84 K45 rfl mpn rfl) ?_
  refine s0 (yK 2 3 0 J K19) ?_
  rintro _ aA ⟨rfl,ai⟩
  refine sQ 5 yu (rn (ct_ ?_))
  have W:=ai.addNil 112
  obtain ⟨rfl,rfl⟩:=pr2 (sI ah)
  exact ret2 Tryz.results102 (rX K32 K19 (W.c 2)) rT ⟨none,0,rfl,(W.sN [3])⟩
 ·skip
  have o:=cf' V hb
  refine cw_skip (cq ?_)
  obtain ⟨aj,o⟩:=chk_inv o
  obtain ⟨Z,o⟩:=chk_inv o
  obtain ⟨⟨ak,al⟩,am,o⟩:=bI o
  refine ra_start (J.se [0,1]).fn (by kernel_rfl) ?_
  have O:=J.drew
  have D:=O.se [0,1]
  refine rq 0 11 rfl D (fun _ q=>(yz 0 K0 (ST.c q 0)))<|rq 1 12 rfl D (fun _ q=>(Y_shl (k:=.i64) (a:=1) (k':=.i64) (b:=n) rfl rfl rfl aj))<|rq 2 13 rfl D (fun _ q=>(yz 0 K0 (ST.c q 0)))<|rq 3 14 rfl D (fun _ q=>(Y_shl (k:=.i64) (a:=1) (k':=.i64) (b:=n) rfl rfl rfl Z))<|rq 4 15 rfl D (fun _ q=>(Y_makeFunc (cs:=[pt (aD b1) 0,pt (aD b) 0]) rfl rfl (mc rfl (mc rfl mn)))) ?_
  refine rA [5] ?_
  refine rC 16 5 rfl (yc HT (GV (shlK .i64 1 n) (shlK .i64 1 n) (fun P Q=>C2 P Q g n) 119 (#[pt (aD b1) 0,pt (aD b) 0]) [⟨aD b1,[vi g.Kind,vi g.A,vi g.B]⟩,⟨aD b,[vi n]⟩] _ Qz (fun w hw P Q aE aF h_=>Qd P Q g n (aD b1) (aD b) w  hw h_) (O.inn0 [(false,1),(false,0)] rfl) am)) ?_ aN
  rintro _ aI ⟨B1,c1,rfl,an⟩
  have aa:=O.out0 an
  have S:=aa.se [0,1]
  refine ⟨S,?_⟩
  refine rq 6 17 rfl S (fun _ q=>(ye (gM_ ak B1 c1)))<|rq 7 18 rfl S (fun _ q=>(ye (.bool al))) ?_
  refine rA [8] ?_
  refine rZ 8 rfl (yK 2 3 0 aa K19) ?_ aN
  rintro _ aJ ⟨rfl,u⟩
  refine ⟨(u.se [0,1]),?_⟩
  refine rq 9 5 rfl (u.se [0,1]) (fun _ q=>yu) ?_
  refine ra_done (by kernel_rfl) ?_
  refine ct_ ?_
  obtain ⟨rfl,rfl⟩:=pr2 (sI o)
  exact ret2 Tryz.results102 (rX K32 K19 (u.c 2)) rT ⟨B1,c1,rfl,(u.sN [3])⟩

theorem Pu (s:List Ad) (f_:Ad→Option (Bool)) (B:Option Addr) (c n:Nat) (O:Nat) (o:Array Value) (Rf:List Ro) (P:World) (hn:s.length=n) (hk:callB Tryz.prog O=true) (hp:∀ (w:World),ST w [] w [] Rf→∀ (x:Ad) (y:Bool),f_ x=some y→CV Tryz.prog O ((gD_ x)::o.toList).toArray w (fun v w'=>v=.bool y∧ST w [] w' [] [])) (hS:ST P [] P [] (⟨B,(s.flatMap Au)⟩::Rf)) {r_:Int} (W:FG s f_=some r_) :
  CV Tryz.prog 127 #[.slice B n c,.func (.func O) #[] o] P (fun v w'=>v=vi r_∧ST P [] w' [] []):=by
 subst hn
 unfold FG at W
 refine cv_of_cw 19 Tryz.func127 rfl Tryz.ntmps127 rfl ?_
 refine cq (cr ?_)
 refine sQ 4 yu (rn (cq (cq (cr ?_))))
 refine sQ 6 yv<|sQ 7 (Y_len K66 rfl rfl)<|sQ 8 yv (rn ?_)
 obtain ⟨hN,W⟩:=chk_inv W
 obtain ⟨z,hz,Q⟩:=bI W
 refine cw_block ?_
 refine cw_loop (fun k f w=>∃ (i:Nat),FF f [(0,.slice B s.length c),(1,.func (.func O) #[] o),(7,vi (s.length:Int)),(8,vi (i:Int))]∧ST P [] w [] (⟨B,(s.flatMap Au)⟩::Rf)∧i+k=s.length∧forX (Gf s f_) k i ()=some z) s.length ⟨0,(fc rfl (fc rfl (fc rfl (fc rfl fn_)))),(hS.sel [] rfl rfl),Nat.zero_add _,hz⟩ ?_
 rintro k_ f w ⟨i,D,u,ap,hL⟩
 refine cq (cr ?_)
 refine sQ 9 (zL rfl (D.g 8 3) (D.g 7 2)) (rn (cq ?_))
 refine cw_cond rfl (fun H=>?_) (fun H=>?_)
 ·skip
  have S:i<s.length:=by have h:=of_decide_eq_true H; omega
  obtain ⟨K13,rfl⟩:∃ k2,k_=k2+1:=⟨k_-1,by omega⟩
  obtain ⟨y1,hb,U⟩:=forX_go hL
  unfold Gf at hb
  refine cw_skip (cq (cw_block (cq (cr ?_))))
  refine sQ 10 (yv rfl (D.g 8 3))<|sQ 5 yu (rn (cq (cr ?_)))
  refine sQ 11 (yv rfl (D.g 1 1))<|sQ 12 (yv rfl (D.g 0 0))<|sQ 13 yv ?_
  obtain ⟨Z,hx,hb⟩:=bI hb
  refine sQ 14 (yI B (i:Int) K66 K10 (gi_isSome BA rfl (u.rf (i:=0) rfl) hx) (getI_nn hx) (getI_ltI hx rfl))<|sQ 15 (ya B ((i:Int).toNat*5) (s.flatMap Au) (kD_ Z) K21 K10 (u.rf (i:=0) rfl) rfl rfl (BA Z) (gi_seg BA hx)) ?_
  obtain ⟨af,hc,hb⟩:=bI hb
  refine sc 16 rfl rfl (Yc_clos (g:=O) (vs:=(gD_ Z)::o.toList) hk rfl rfl (clo_args (mc rfl mn)) (hp _ (u.innS (fun _ h=>mOd (i:=1) h)) Z af hc)) ?_
  rintro _ w_ ⟨rfl,hd⟩
  have V:=u.out00 hd
  refine rn ?_
  refine cw_cond rfl (fun J=>?_) (fun J=>?_)
  ·skip
   have ag:=ct hb J
   refine cq (cr ?_)
   refine sQ 17 yv<|sQ 4 yu (rn (ct_ ?_))
   obtain rfl:=sI ag
   obtain rfl:=sI U
   obtain rfl:=sI Q
   exact e1 Tryz.results127 (V.sN [])
  ·skip
   have ah:=cf' hb J
   refine cw_skip (cr ?_)
   refine sQ 18 (zP rfl (D.g 8 3))<|sQ 8 yv (rn ?_)
   obtain rfl:=sI ah
   exact ⟨K13,Nat.lt_succ_self _,i+1,(D.a 0 0 (D.a 1 1 (D.a 7 2 (fc (congrArg (Value.int .i64) (wr_succ S hN)) fn_)))),(V.sel [] rfl rfl),(by omega),U⟩
 ·skip
  obtain rfl:k_=0:=by have h:=of_decide_eq_false H; omega
  refine cw_exit rfl ?_
  obtain rfl:=sI hL
  refine cq (cr ?_)
  refine sQ 4 yu (rn (ct_ ?_))
  obtain rfl:=sI Q
  exact e1 Tryz.results127 (u.sN [])

theorem Nl (s:List Ad) (J:Ad→Option (Bool)) (B:Option Addr) (c n:Nat) (u:Nat) (o:Array Value) (Rf:List Ro) (D:World) (U:s.length=n) (hk:callB Tryz.prog u=true) (V:∀ (w:World),ST w [] w [] Rf→∀ (x:Ad) (y:Bool),J x=some y→CV Tryz.prog u ((gD_ x)::o.toList).toArray w (fun v O=>v=.bool y∧ST w [] O [] [])) (Q:ST D [] D [] (⟨B,(s.flatMap Au)⟩::Rf)) {S:Bool} (H:F8 s J=some S) :
  CV Tryz.prog 105 #[.slice B n c,.func (.func u) #[] o] D (fun v O=>v=.bool S∧ST D [] O [] []):=by
 subst U
 unfold F8 at H
 refine cv_of_cw 9 Tryz.func105 rfl Tryz.ntmps105 rfl ?_
 refine cq (cr ?_)
 refine sQ 4 yu (rn (cq (cr ?_)))
 refine sQ 5 yv<|sQ 6 yv ?_
 obtain ⟨W,hc,H⟩:=bI H
 refine sc 7 rfl rfl (yc Si (Pu s J B c s.length u o Rf _ rfl hk V (Q.innS (sk 0 (fun _ h=>mOd (i:=1) h))) hc)) ?_
 rintro _ Z ⟨rfl,hd⟩
 have P:=Q.out00 hd
 refine sQ 8 (Y_ge rfl rfl rfl)<|sQ 4 yu (rn (ct_ ?_))
 obtain rfl:=sI H
 exact e1 Tryz.results105 (P.sN [])

theorem Ix (x:Ac)  (H:World)  (V:ST H [] H [] []) {S:Bool} (U:DI x=some S) :
  CV Tryz.prog 129 #[gR_ x] H (fun v W=>v=.bool S∧ST H [] W [] []):=by
 unfold DI at U
 refine cv_of_cw 19 Tryz.func129 rfl Tryz.ntmps129 rfl ?_
 refine cq (cr ?_)
 refine sS 1 (yV (kR_ x) 4 V) ?_
 rintro _ w_ ⟨b,rfl,o⟩
 refine sQ 2 yu (rn (cq (cr ?_)))
 refine sQ 3 (yd (aD b) 0 0 K51 K1)<|sQ 4 (yz 0 K0 (o.c 0))<|sQ 5 (yd (aD b) 0 0 K54 K1)<|sQ 6 (yz 2 K0 (o.c 0))<|sQ 7 zP<|sQ 8 (Y_rem (k:=.i64) (a:=(i64.wrap (x.A+x.C))) (b:=2) rfl rfl rfl (by decide)) ?_
 refine sQ 9 zE<|sQ 10 yv ?_
 refine sgq 11 rfl rfl (uT_ 10) (fun hg=>(yd (aD b) 0 0 K53 K1)) ?_
 refine sgq 12 rfl rfl (uT_ 10) (fun J=>(yz 1 K0 (o.c 0) rfl (gv_of J))) ?_
 refine sgq 13 rfl rfl (uT_ 10) (fun Z=>(yd (aD b) 0 0 K55 K1)) ?_
 refine sgq 14 rfl rfl (uT_ 10) (fun O=>(yz 3 K0 (o.c 0) rfl (gv_of O))) ?_
 refine sgq 15 rfl rfl (uT_ 10) (fun u=>(zP rfl (gv_of u) (gv_of u))) ?_
 refine sgq 16 rfl rfl (uT_ 10) (fun P=>(Y_rem (k:=.i64) (a:=(i64.wrap (x.B+x.D))) (b:=2) rfl (gv_of P) rfl (by decide))) ?_
 refine sgq 17 rfl rfl (uT_ 10) (fun Q=>(zE rfl (gv_of Q))) ?_
 refine sQ 18 yA<|sQ 2 yu (rn (ct_ ?_))
 obtain rfl:=sI U
 exact e1 Tryz.results129 (o.sN [])

theorem F9 (x:Ad)  (S:World)  (hS:ST S [] S [] []) {r_:Bool} (D:BU x=some r_) :
  CV Tryz.prog 107 #[gD_ x] S (fun v w'=>v=.bool r_∧ST S [] w' [] []):=by
 unfold BU at D
 refine cv_of_cw 22 Tryz.func107 rfl Tryz.ntmps107 rfl ?_
 refine cq (cr ?_)
 refine sS 1 (yV (kD_ x) 5 hS) ?_
 rintro _ w_ ⟨b,rfl,J⟩
 refine sQ 2 yu (rn (cq (cr ?_)))
 refine sQ 3 (yd (aD b) 0 3 K97 K12)<|sQ 4 (ya (aD b) 0 (kD_ x) (kR_ x.Num) K25 K12 (J.c 0)) ?_
 obtain ⟨ak,hc,D⟩:=bI D
 refine sc 5 rfl rfl (yc FS (Gk x.Num _  (J.inn0 [] rfl) hc)) ?_
 rintro _ al ⟨rfl,hd⟩
 have u:=J.out00 hd
 refine sQ 6 yv ?_
 refine sgq 7 rfl rfl (uT_ 6) (fun hg=>(yd (aD b) 0 0 K86 K1)) ?_
 refine sgq 8 rfl rfl (uT_ 6) (fun U=>(yz 4 K0 (u.c 0) rfl (gv_of U))) ?_
 obtain ⟨V,W,D⟩:=bI D
 refine sgc 9 (v:=.bool V) (F:=u.fn) rfl rfl (uT_ 6) u (fun O=>(yc K49 (CV.mono (AW x.Exp 0 60 _  (u.inn0 [] rfl) (gb_inv W O)) (by rintro _ _ ⟨rfl,h⟩; exact ⟨rfl,u.out00 h⟩)) rfl (mc (gv_of O) (mc rfl (mc rfl mn))))) ?_
 rintro am o
 refine sQ 10 yA<|sQ 11 yv ?_
 refine sgq 12 rfl rfl (uT_ 11) (fun an=>(yd (aD b) 0 0 K86 K1)) ?_
 refine sgq 13 rfl rfl (uT_ 11) (fun Z=>(yz 4 K0 (o.c 0) rfl (gv_of Z))) ?_
 refine sgq 14 rfl rfl (uT_ 11) (fun aa=>(zE rfl (gv_of aa))) ?_
 refine sgq 15 rfl rfl (uT_ 11) (fun ab=>(yv rfl (gv_of ab))) ?_
 refine sgq 16 rfl rfl (uH_ 15) (fun ao=>(yd (aD b) 0 3 K97 K12)) ?_
 refine sgq 17 rfl rfl (uH_ 15) (fun ac=>(ya (aD b) 0 (kD_ x) (kR_ x.Num) K25 K12 (o.c 0) rfl (gv_of ac))) ?_
 obtain ⟨ae,af,D⟩:=bI D
 refine sgc 18 (v:=.bool ae) (F:=o.fn) rfl rfl (uH_ 15) o (fun P=>(yc JC (CV.mono (Ix x.Num _  (o.inn0 [] rfl) (gb_inv af P)) (by rintro _ _ ⟨rfl,h⟩; exact ⟨rfl,o.out00 h⟩)) rfl (mc (gv_of P) mn))) ?_
 rintro ap ag
 refine sgq 19 rfl rfl (uH_ 15) (fun Q=>(yn rfl (gv_of Q))) ?_
 refine sgq 20 rfl rfl (uT_ 11) (fun H=>(yO rfl (gv_of H) rfl (gv_and H))) ?_
 refine sQ 21 yA<|sQ 2 yu (rn (ct_ ?_))
 obtain rfl:=sI D
 exact e1 Tryz.results107 (ag.sN [])

theorem SM (x:Ad)  (u:World)  (O:ST u [] u [] []) {J:Bool} (D:Fj x=some J) :
  CV Tryz.prog 106 #[gD_ x] u (fun v P=>v=.bool J∧ST u [] P [] []):=by
 unfold Fj at D
 refine cv_of_cw 6 Tryz.func106 rfl Tryz.ntmps106 rfl ?_
 refine cq (cr ?_)
 refine sS 1 (yV (kD_ x) 5 O) ?_
 rintro _ U ⟨b,rfl,o⟩
 refine sQ 2 yu (rn (cq (cr ?_)))
 refine sQ 3 (yw 0 K21 K10 (o.c 0)) ?_
 obtain ⟨Q,hc,D⟩:=bI D
 refine sc 4 rfl rfl (yc K98 (F9 x _  (o.inn0 [] rfl) hc)) ?_
 rintro _ S ⟨rfl,hd⟩
 have H:=o.out00 hd
 refine sQ 5 yn<|sQ 2 yu (rn (ct_ ?_))
 obtain rfl:=sI D
 exact e1 Tryz.results106 (H.sN [])

theorem FY (m:Ag) (B:Option Addr) (c n:Nat) (V:World) (hn:m.Cells.length=n) (hS:ST V [] V [] [⟨B,(m.Cells.flatMap Au)⟩]) {r_:Bool} (D:BW m=some r_) :
  CV Tryz.prog 75 #[.agg #[vi m.Rows,vi m.Cols,.slice B n c]] V (fun v w'=>v=.bool r_∧ST V [] w' [] []):=by
 subst hn
 unfold BW at D
 refine cv_of_cw 28 Tryz.func75 rfl Tryz.ntmps75 rfl ?_
 refine cq (cr ?_)
 refine sS 1 (yV (kM_ m B c) 3 hS) ?_
 rintro _ w_ ⟨b,rfl,P⟩
 refine sQ 2 yu (rn (cq (cr ?_)))
 refine sQ 3 (yd (aD b) 0 0 K87 K1)<|sQ 4 (yz 0 K0 (P.c 0)) ?_
 obtain ⟨ap,hc,D⟩:=bI D
 refine sc 5 rfl rfl (yc HW (HO m.Rows _  (P.inn0 [] rfl) hc)) ?_
 rintro _ aq ⟨rfl,hd⟩
 have u:=P.out00 hd
 refine sQ 6 yv ?_
 refine sgq 7 rfl rfl (uT_ 6) (fun hg=>(yd (aD b) 0 0 K71 K1)) ?_
 refine sgq 8 rfl rfl (uT_ 6) (fun W=>(yz 1 K0 (u.c 0) rfl (gv_of W))) ?_
 obtain ⟨Z,aa,D⟩:=bI D
 refine sgc 9 (v:=.bool Z) (F:=u.fn) rfl rfl (uT_ 6) u (fun Q=>(yc HW (CV.mono (HO m.Cols _  (u.inn0 [] rfl) (gb_inv aa Q)) (by rintro _ _ ⟨rfl,h⟩; exact ⟨rfl,u.out00 h⟩)) rfl (mc (gv_of Q) mn))) ?_
 rintro ar o
 refine sQ 10 yA<|sQ 11 yv ?_
 refine sgq 12 rfl rfl (uT_ 11) (fun au=>(yd (aD b) 0 0 K85 K77)) ?_
 refine sgq 13 rfl rfl (uT_ 11) (fun ab=>(yz 2 K94 (o.c 0) rfl (gv_of ab))) ?_
 refine sgq 14 rfl rfl (uT_ 11) (fun ac=>(Y_len K66 rfl (gv_of ac))) ?_
 refine sgq 15 rfl rfl (uT_ 11) (fun av=>(yd (aD b) 0 0 K87 K1)) ?_
 refine sgq 16 rfl rfl (uT_ 11) (fun ae=>(yz 0 K0 (o.c 0) rfl (gv_of ae))) ?_
 refine sgq 17 rfl rfl (uT_ 11) (fun aw=>(yd (aD b) 0 0 K71 K1)) ?_
 refine sgq 18 rfl rfl (uT_ 11) (fun af=>(yz 1 K0 (o.c 0) rfl (gv_of af))) ?_
 refine sgq 19 rfl rfl (uT_ 11) (fun H=>(zX rfl (gv_of H) (gv_of H))) ?_
 refine sgq 20 rfl rfl (uT_ 11) (fun J=>(zE rfl (gv_of J) (gv_of J))) ?_
 refine sQ 21 yA<|sQ 22 yv ?_
 refine sgq 23 rfl rfl (uT_ 22) (fun al=>(yd (aD b) 0 0 K85 K77)) ?_
 refine sgq 24 rfl rfl (uT_ 22) (fun S=>(yz 2 K94 (o.c 0) rfl (gv_of S))) ?_
 obtain ⟨ag,ah,D⟩:=bI D
 refine sgc 25 (v:=.bool ag) (F:=o.fn) rfl rfl (uT_ 22) o (fun O=>(yc PF (CV.mono (Nl m.Cells Fj B c m.Cells.length 106 (#[]) [] _ rfl Ot (fun w hw ai aA h_=>SM ai  w  hw h_) (o.inn0 [(true,0)] rfl) (gb_inv ah O)) (by rintro _ _ ⟨rfl,h⟩; exact ⟨rfl,o.out00 h⟩)) rfl (mc (gv_of O) (mc rfl mn)))) ?_
 rintro aE aj
 refine sgq 26 rfl rfl (uT_ 22) (fun U=>(yn rfl (gv_of U))) ?_
 refine sQ 27 yA<|sQ 2 yu (rn (ct_ ?_))
 obtain rfl:=sI D
 exact e1 Tryz.results75 (aj.sN [])

theorem Hz (out:Ac) (o:List Ac) (B:Option Addr) (c n:Nat) (S:World) (hn:o.length=n) (hS:ST S (bl [⟨B,110,(o.flatMap DL),c*4⟩]) S [⟨B,110,(o.flatMap DL),c*4⟩] []) {r_:Ac} {U:Bool} (Q:BF out o=some (r_,U)) :
  CV Tryz.prog 135 #[gR_ out,.slice B n c] S (fun v w'=>v=.tuple #[gR_ r_,.bool U]∧ST S (bl [⟨B,110,(o.flatMap DL),c*4⟩]) w' [] []):=by
 subst hn
 unfold BF at Q
 refine cv_of_cw 23 Tryz.func135 rfl Tryz.ntmps135 rfl ?_
 refine cq (cr ?_)
 refine sS 2 (yV (kR_ out) 4 hS) ?_
 rintro _ w_ ⟨b,rfl,ai⟩
 let V:List Value:=[vi 0,vi 0,vi 0,vi 0]
 refine sS 4 (yN V 4 ai K37) ?_
 rintro _ aA ⟨b1,rfl,W⟩
 refine sQ 5 yu (rn (cq (cq (cr ?_))))
 refine sQ 8 yv<|sQ 9 (yw 0 K25 K12 (W.c 1)) ?_
 refine sS 10 (yF 4 1 (kR_ out) 4 W K78 K12 GC rfl (mpc rfl mpn)) ?_
 rintro _ aB ⟨b2,rfl,Z⟩
 obtain ⟨aj,Q⟩:=chk_inv Q
 refine sS 11 (aP 4 32 0 o [out] Z K78 K12 Tx K37 HY Sk (Z.c 3) aj) ?_
 rintro _ aE ⟨B1,c1,rfl,ak⟩
 refine sQ 12 (Y_len K78 rfl rfl)<|sQ 13 yv (rn ?_)
 obtain ⟨hN,Q⟩:=chk_inv Q
 obtain ⟨z,hz,aa⟩:=bI Q
 refine cw_block ?_
 refine cw_loop (fun k f w=>∃ (i:Nat),FF f [(2,pt (aD b) 0),(4,pt (aD b1) 0),(11,.slice B1 ((o++[out]).length) c1),(12,vi ((o++[out]).length:Int)),(13,vi (i:Int))]∧ST S (bl [⟨B,110,(o.flatMap DL),c*4⟩]) w [⟨aD b,110,kR_ out,4⟩,⟨aD b1,110,V,4⟩,⟨B1,110,((o++[out]).flatMap DL),c1*4⟩] []∧i+k=(o++[out]).length∧forX (Gr o out) k i ()=some z) ((o++[out]).length) ⟨0,(fc rfl (fc rfl (fc rfl (fc rfl (fc rfl fn_))))),(ak.sel [1,2,0] rfl rfl),Nat.zero_add _,hz⟩ ?_
 rintro k_ f w ⟨i,u,D,aI,hL⟩
 refine cq (cr ?_)
 refine sQ 14 (zL rfl (u.g 13 4) (u.g 12 3)) (rn (cq ?_))
 refine cw_cond rfl (fun J=>?_) (fun J=>?_)
 ·skip
  have ab:i<(o++[out]).length:=by have h:=of_decide_eq_true J; omega
  obtain ⟨K13,rfl⟩:∃ k2,k_=k2+1:=⟨k_-1,by omega⟩
  obtain ⟨y,hb,ac⟩:=forX_go hL
  unfold Gr at hb
  refine cw_skip (cq (cw_block (cq (cr ?_))))
  obtain ⟨x,hx,hb⟩:=bI hb
  refine sQ 15 (yI B1 (i:Int) K78 K12 (gi_isSome HY rfl (D.c 2) hx) (getI_nn hx) (getI_ltI hx rfl) rfl (u.g 11 2) (u.g 13 4))<|sQ 16 (ya B1 ((i:Int).toNat*4) ((o++[out]).flatMap DL) (kR_ x) K25 K12 (D.c 2) rfl rfl (HY x) (gi_seg HY hx)) ?_
  refine sS 7 (yN V 4 D K37) ?_
  rintro _ aK ⟨b3,rfl,am⟩
  refine s0 (yK 3 4 0 am K12) ?_
  rintro _ aL ⟨rfl,O⟩
  refine rn (cq (cr ?_))
  refine sQ 17 (yw 0 K25 K12 (O.c 3)) ?_
  obtain ⟨aM,hc,hb⟩:=bI hb
  refine sc 18 rfl rfl (yc FS (Gk x _  (O.inn0 [] rfl) hc)) ?_
  rintro _ aO ⟨rfl,hd⟩
  have ae:=O.out00 hd
  refine sQ 19 yn (rn ?_)
  refine cw_cond rfl (fun P=>?_) (fun P=>?_)
  ·skip
   have an:=ct hb P
   refine cq (cr ?_)
   refine sQ 20 (Y_buildS (zs:=V) (vs:=[]) (cs:=V) K67 K37 rfl mpn rfl) ?_
   refine s0 (yK 1 4 0 ae K12 rfl (u.g 4 1)) ?_
   rintro _ aQ ⟨rfl,af⟩
   refine sQ 5 yu (rn (ct_ ?_))
   obtain rfl:=sI an
   obtain rfl:=sI ac
   obtain ⟨rfl,rfl⟩:=pr2 (sI aa)
   exact ret2 Tryz.results135 (rX K25 K12 (af.c 1) (u.g 4 1)) rT ⟨rfl,(af.sN [])⟩
  ·skip
   have ao:=cf' hb P
   refine cw_skip (cr ?_)
   refine sQ 21 (zP rfl (u.g 13 4))<|sQ 13 yv (rn ?_)
   obtain rfl:=sI ao
   exact ⟨K13,Nat.lt_succ_self _,i+1,(u.a 2 0 (u.a 4 1 (u.a 11 2 (u.a 12 3 (fc (congrArg (Value.int .i64) (wr_succ ab hN)) fn_))))),(ae.sel [0,1,2] rfl rfl),(by omega),ac⟩
 ·skip
  obtain rfl:k_=0:=by have h:=of_decide_eq_false J; omega
  refine cw_exit rfl ?_
  obtain rfl:=sI hL
  refine cq (cr ?_)
  refine sQ 22 (yw 0 K25 K12 (D.c 0) rfl (u.g 2 0)) ?_
  refine s0 (yK 1 4 0 D K12 rfl (u.g 4 1)) ?_
  rintro _ aR ⟨rfl,H⟩
  refine sQ 5 yu (rn (ct_ ?_))
  obtain ⟨rfl,rfl⟩:=pr2 (sI aa)
  exact ret2 Tryz.results135 (rX K25 K12 (H.c 1) (u.g 4 1)) rT ⟨rfl,(H.sN [])⟩
end Go.VK
