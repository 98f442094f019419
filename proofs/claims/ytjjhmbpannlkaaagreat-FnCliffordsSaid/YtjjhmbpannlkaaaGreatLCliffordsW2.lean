/- Walks: each Go function returns what its Lean function says. By program. -/
import Derived.Test.YtjjhmbpannlkaaaGreatLCliffordsFa
import Derived.Test.YtjjhmbpannlkaaaGreatLCliffordsShelf
import Derived.Test.YtjjhmbpannlkaaaGreatLibQ
import Derived.Test.YtjjhmbpannlkaaaGreatLibU
import Derived.Test.YtjjhmbpannlkaaaGreatLibZ
import Derived.Test.YtjjhmbpannlkaaaGreatLibW
import Derived.Test.YtjjhmbpannlkaaaGreatLCliffordsW1
set_option linter.unusedVariables false
set_option maxRecDepth 100000
set_option maxHeartbeats 4000000
namespace Go.VK
open Go.RowKit
open Go.Proofs
open Go.IntKind
attribute [local irreducible] CW RW RA CV Y Yw Yc Ys RetOf
attribute [local irreducible] AG AM BO BT AU CB Bs Bb Bh AX Ay CS D8 EN Es Ax
theorem JG (n:Int) (g:Ab)  (w0:World)  (hS:ST w0 [] w0 [] []) {r_:Ae} (hF:AX n g=some r_) :
  CV Tryz.prog 45 #[vi n,.agg #[vi g.Kind,vi g.A,vi g.B]] w0 (fun v w'=>∃ (B:Option Addr) (c:Nat) (B1:Option Addr) (c1:Nat),v=.agg #[vi r_.Qubits,.slice B r_.XImages.length c,.slice B1 r_.ZImages.length c1]∧ST w0 [] w' [⟨B,64,(r_.XImages.flatMap eN0),c*3⟩,⟨B1,64,(r_.ZImages.flatMap eN0),c1*3⟩] []):=by
 unfold AX at hF
 refine cv_of_cw 153 Tryz.func45 rfl Tryz.ntmps45 rfl ?_
 refine cq (cr ?_)
 refine sS 3 (yV [vi g.Kind,vi g.A,vi g.B] 3 hS) ?_
 rintro _ w_ ⟨b,rfl,bO⟩
 let V7:List Value:=[vi 0,.slice none 0 0,.slice none 0 0]
 refine sS 4 (yN V7 3 bO K26) ?_
 rintro _ cv ⟨b1,rfl,bv⟩
 refine rn (cq (cr ?_))
 refine sQ 8 yv ?_
 obtain ⟨o,hc,hF⟩:=bI hF
 refine sc 9 rfl rfl (yc Gl (Ge n _  (bv.inn0 [] rfl) hc)) ?_
 rintro _ cw ⟨S,c2,W,c3,rfl,hd⟩
 have bS:=bv.out0 hd
 refine sS 5 (yN V7 3 bS K26) ?_
 rintro _ cx ⟨V,rfl,bT⟩
 refine s0 (yK 4 3 0 bT K3) ?_
 rintro _ cy ⟨rfl,bw⟩
 refine rn (cq ?_)
 obtain ⟨bU,hF⟩:=chk_inv hF
 obtain ⟨bA,hF⟩:=chk_inv hF
 refine ra_start (bw.se [0,1,2,3,4]).fn (by kernel_rfl) ?_
 have u:=bw.drew
 have aa:=u.se [0,1,2,3,4]
 have a8:=u.se [0,1,4]
 refine rq 0 10 rfl aa (fun _ q=>(yd (aD b) 0 0 K24 K1))<|rq 1 11 rfl aa (fun _ q=>(yz 1 K0 (ST.c q 0)))<|rq 2 12 rfl aa (fun _ q=>(Y_shl (k:=.i64) (a:=1) (k':=.i64) (b:=g.A) rfl rfl rfl bU))<|rq 3 13 rfl aa (fun _ q=>(yd (aD b) 0 0 K38 K1))<|rq 4 14 rfl aa (fun _ q=>(yz 2 K0 (ST.c q 0))) ?_
 refine rq 5 15 rfl aa (fun _ q=>(Y_shl (k:=.i64) (a:=1) (k':=.i64) (b:=g.B) rfl rfl rfl bA))<|rq 6 6 rfl aa (fun _ q=>yu)<|rq 7 7 rfl aa (fun _ q=>yu) ?_
 refine ra_done (by kernel_rfl) ?_
 refine cq ?_
 obtain ⟨z,hz,bV⟩:=bI hF
 let V2:List Value:=[vi o.Qubits,.slice S o.XImages.length c2,.slice W o.ZImages.length c3]
 refine cw_mid (fun f w=>∃ (XImages:List Aa) (ZImages:List Aa),(XImages,ZImages)=z∧FF f [(4,pt (aD b1) 0),(5,pt (aD V) 0)]∧XImages.length=o.XImages.length∧ZImages.length=o.ZImages.length∧ST w0 [] w [⟨aD b1,25,V7,3⟩,⟨aD V,25,V2,3⟩,⟨S,64,(XImages.flatMap eN0),c2*3⟩,⟨W,64,(ZImages.flatMap eN0),c3*3⟩] []) ?_ ?_
 ·skip
  refine cq (cr ?_)
  refine sQ 16 (yd (aD b) 0 0 K42 K1)<|sQ 17 (yz 0 K0 (u.c 0)) (rn (cw_block (cq (cr ?_))))
  refine sQ 19 zE<|sQ 18 yu (rn ?_)
  refine cw_cond rfl (fun hb=>?_) (fun hb=>?_)
  ·skip
   have ao:=ct hz hb
   obtain ⟨x,hx,ao⟩:=bI ao
   obtain ⟨x1,ap,ao⟩:=bI ao
   refine ra_start a8.fn (by kernel_rfl) ?_
   have a9:=u.drew
   have O:=a9.se [0,1,4]
   refine rq 0 20 rfl O (fun _ q=>(yd (aD V) 0 0 K18 K4))<|rq 1 21 rfl O (fun _ q=>(yz 1 K7 (ST.c q 2)))<|rq 2 22 rfl O (fun _ q=>(yd (aD b) 0 0 K24 K1))<|rq 3 23 rfl O (fun _ q=>(yz 1 K0 (ST.c q 0)))<|rq 4 24 rfl O (fun _ q=>(yd (aD V) 0 0 K20 K4)) ?_
   refine rq 5 25 rfl O (fun _ q=>(yz 2 K7 (ST.c q 2)))<|rq 6 26 rfl O (fun _ q=>(yd (aD b) 0 0 K24 K1))<|rq 7 27 rfl O (fun _ q=>(yz 1 K0 (ST.c q 0)))<|rq 8 28 rfl O (fun _ q=>yv)<|rq 9 29 rfl O (fun _ q=>(Y_buildS (zs:=[vi 0,vi 0,vi 0]) (vs:=[(2,vi (shlK .i64 1 g.A))]) (cs:=[vi 0,vi 0,vi (shlK .i64 1 g.A)]) K36 K14 rfl (mpc rfl mpn) rfl)) ?_
   refine rq 10 30 rfl O (fun _ q=>yv)<|rq 11 31 rfl O (fun _ q=>(Y_buildS (zs:=[vi 0,vi 0,vi 0]) (vs:=[(1,vi (shlK .i64 1 g.A))]) (cs:=[vi 0,vi (shlK .i64 1 g.A),vi 0]) K36 K14 rfl (mpc rfl mpn) rfl))<|rq 12 32 rfl O (fun _ q=>(yI S g.A K5 K2 (gi_isSome eN2 rfl (a9.c 2) hx) (getI_nn hx) (getI_ltI hx rfl))) ?_
   refine rA [13] ?_
   refine rZ 13 rfl (yS 2 3 S 64 (.agg #[vi 0,vi 0,vi (shlK .i64 1 g.A)]) [vi 0,vi 0,vi (shlK .i64 1 g.A)] (g.A.toNat*3) ((o.XImages.set g.A.toNat (Aa.mk 0 0 (shlK .i64 1 g.A))).flatMap eN0) a9 K2 rfl rfl rfl rfl rfl rfl rfl (gi_fit0 eN2 hx) (gi_set eN2 hx (Aa.mk 0 0 (shlK .i64 1 g.A)) rfl)) ?_ aN
   rintro _ cz ⟨rfl,aR⟩
   refine ⟨(aR.se [0,1,4]),?_⟩
   refine rq 14 33 rfl (aR.se [0,1,4]) (fun _ q=>(yI W g.A K5 K2 (gi_isSome eN2 rfl (aR.c 3) ap) (getI_nn ap) (getI_ltI ap rfl))) ?_
   refine rA [15] ?_
   refine rZ 15 rfl (yS 3 3 W 64 (.agg #[vi 0,vi (shlK .i64 1 g.A),vi 0]) [vi 0,vi (shlK .i64 1 g.A),vi 0] (g.A.toNat*3) ((o.ZImages.set g.A.toNat (Aa.mk 0 (shlK .i64 1 g.A) 0)).flatMap eN0) aR K2 rfl rfl rfl rfl rfl rfl rfl (gi_fit0 eN2 ap) (gi_set eN2 ap (Aa.mk 0 (shlK .i64 1 g.A) 0) rfl)) ?_ aN
   rintro _ cA ⟨rfl,aU⟩
   refine ⟨(aU.se [0,1,4]),?_⟩
   refine ra_done (by kernel_rfl) ?_
   exact ⟨(o.XImages.set g.A.toNat (Aa.mk 0 0 (shlK .i64 1 g.A))),(o.ZImages.set g.A.toNat (Aa.mk 0 (shlK .i64 1 g.A) 0)),(sI ao),(fc rfl (fc rfl fn_)),(set_len _ _ _ rfl),(set_len _ _ _ rfl),(aU.sel [1,4,2,3] rfl rfl)⟩
  ·skip
   have bC:=cf' hz hb
   refine cq (cr ?_)
   refine sQ 35 zE<|sQ 34 yu (rn ?_)
   refine cw_cond rfl (fun ba=>?_) (fun ba=>?_)
   ·skip
    have bb:=ct bC ba
    refine cr ?_
    refine sQ 36 (yd (aD V) 0 0 K20 K4)<|sQ 37 (yz 2 K7 (u.c 4))<|sQ 38 (yd (aD b) 0 0 K24 K1)<|sQ 39 (yz 1 K0 (u.c 0)) ?_
    obtain ⟨x2,aq,bb⟩:=bI bb
    refine sQ 40 (yI W g.A K5 K2 (gi_isSome eN2 rfl (u.c 3) aq) (getI_nn aq) (getI_ltI aq rfl))<|sQ 41 (yd W (g.A.toNat*3) 0 K30 K1) ?_
    refine s0 (yS 3 1 W 64 (vi 2) [vi 2] (g.A.toNat*3+0) ((o.ZImages.set g.A.toNat (Aa.mk 2 x2.X x2.Z)).flatMap eN0) u K1 rfl rfl rfl rfl rfl rfl rfl (gi_fit eN2 aq (j:=0) (k:=1) (by decide)) (gi_setf eN2 aq (Aa.mk 2 x2.X x2.Z) rfl (lB rfl))) ?_
    rintro _ cC ⟨rfl,bD⟩
    refine rn ?_
    exact ⟨o.XImages,(o.ZImages.set g.A.toNat (Aa.mk 2 x2.X x2.Z)),(sI bb),(fc rfl (fc rfl fn_)),rfl,(set_len _ _ _ rfl),(bD.sel [1,4,2,3] rfl rfl)⟩
   ·skip
    have bE:=cf' bC ba
    refine cq (cr ?_)
    refine sQ 43 zE<|sQ 42 yu (rn ?_)
    refine cw_cond rfl (fun bc=>?_) (fun bc=>?_)
    ·skip
     have ar:=ct bE bc
     obtain ⟨x3,au,ar⟩:=bI ar
     obtain ⟨x4,av,ar⟩:=bI ar
     refine ra_start a8.fn (by kernel_rfl) ?_
     have aw:=u.drew
     have U:=aw.se [0,1,4]
     refine rq 0 44 rfl U (fun _ q=>(yd (aD V) 0 0 K18 K4))<|rq 1 45 rfl U (fun _ q=>(yz 1 K7 (ST.c q 2)))<|rq 2 46 rfl U (fun _ q=>(yd (aD b) 0 0 K24 K1))<|rq 3 47 rfl U (fun _ q=>(yz 1 K0 (ST.c q 0)))<|rq 4 48 rfl U (fun _ q=>(yd (aD V) 0 0 K20 K4)) ?_
     refine rq 5 49 rfl U (fun _ q=>(yz 2 K7 (ST.c q 2)))<|rq 6 50 rfl U (fun _ q=>(yd (aD b) 0 0 K24 K1))<|rq 7 51 rfl U (fun _ q=>(yz 1 K0 (ST.c q 0)))<|rq 8 52 rfl U (fun _ q=>(yI S g.A K5 K2 (gi_isSome eN2 rfl (aw.c 2) au) (getI_nn au) (getI_ltI au rfl)))<|rq 9 53 rfl U (fun _ q=>(yd S (g.A.toNat*3) 0 K30 K1)) ?_
     refine rA [10] ?_
     refine rZ 10 rfl (yS 2 1 S 64 (vi 2) [vi 2] (g.A.toNat*3+0) ((o.XImages.set g.A.toNat (Aa.mk 2 x3.X x3.Z)).flatMap eN0) aw K1 rfl rfl rfl rfl rfl rfl rfl (gi_fit eN2 au (j:=0) (k:=1) (by decide)) (gi_setf eN2 au (Aa.mk 2 x3.X x3.Z) rfl (lB rfl))) ?_ aN
     rintro _ cD ⟨rfl,ay⟩
     have bd:=ay.se [0,1,4]
     refine ⟨bd,?_⟩
     refine rq 11 54 rfl bd (fun _ q=>(yI W g.A K5 K2 (gi_isSome eN2 rfl (ay.c 3) av) (getI_nn av) (getI_ltI av rfl)))<|rq 12 55 rfl bd (fun _ q=>(yd W (g.A.toNat*3) 0 K30 K1)) ?_
     refine rA [13] ?_
     refine rZ 13 rfl (yS 3 1 W 64 (vi 2) [vi 2] (g.A.toNat*3+0) ((o.ZImages.set g.A.toNat (Aa.mk 2 x4.X x4.Z)).flatMap eN0) ay K1 rfl rfl rfl rfl rfl rfl rfl (gi_fit eN2 av (j:=0) (k:=1) (by decide)) (gi_setf eN2 av (Aa.mk 2 x4.X x4.Z) rfl (lB rfl))) ?_ aN
     rintro _ cE ⟨rfl,aV⟩
     refine ⟨(aV.se [0,1,4]),?_⟩
     refine ra_done (by kernel_rfl) ?_
     exact ⟨(o.XImages.set g.A.toNat (Aa.mk 2 x3.X x3.Z)),(o.ZImages.set g.A.toNat (Aa.mk 2 x4.X x4.Z)),(sI ar),(fc rfl (fc rfl fn_)),(set_len _ _ _ rfl),(set_len _ _ _ rfl),(aV.sel [1,4,2,3] rfl rfl)⟩
    ·skip
     have bF:=cf' bE bc
     refine cq (cr ?_)
     refine sQ 57 zE<|sQ 56 yu (rn ?_)
     refine cw_cond rfl (fun be=>?_) (fun be=>?_)
     ·skip
      have bf:=ct bF be
      refine cr ?_
      refine sQ 58 (yd (aD V) 0 0 K18 K4)<|sQ 59 (yz 1 K7 (u.c 4))<|sQ 60 (yd (aD b) 0 0 K24 K1)<|sQ 61 (yz 1 K0 (u.c 0)) ?_
      obtain ⟨x5,aA,bf⟩:=bI bf
      refine sQ 62 (yI S g.A K5 K2 (gi_isSome eN2 rfl (u.c 2) aA) (getI_nn aA) (getI_ltI aA rfl))<|sQ 63 (yd S (g.A.toNat*3) 0 K30 K1) ?_
      refine s0 (yS 2 1 S 64 (vi 2) [vi 2] (g.A.toNat*3+0) ((o.XImages.set g.A.toNat (Aa.mk 2 x5.X x5.Z)).flatMap eN0) u K1 rfl rfl rfl rfl rfl rfl rfl (gi_fit eN2 aA (j:=0) (k:=1) (by decide)) (gi_setf eN2 aA (Aa.mk 2 x5.X x5.Z) rfl (lB rfl))) ?_
      rintro _ cc ⟨rfl,bH⟩
      refine rn ?_
      exact ⟨(o.XImages.set g.A.toNat (Aa.mk 2 x5.X x5.Z)),o.ZImages,(sI bf),(fc rfl (fc rfl fn_)),(set_len _ _ _ rfl),rfl,(bH.sel [1,4,2,3] rfl rfl)⟩
     ·skip
      have bJ:=cf' bF be
      refine cq (cr ?_)
      refine sQ 65 zE<|sQ 64 yu (rn ?_)
      refine cw_cond rfl (fun bg=>?_) (fun bg=>?_)
      ·skip
       have aB:=ct bJ bg
       refine cr ?_
       refine sQ 66 (yd (aD V) 0 0 K18 K4)<|sQ 67 (yz 1 K7 (u.c 4))<|sQ 68 (yd (aD b) 0 0 K24 K1)<|sQ 69 (yz 1 K0 (u.c 0))<|sQ 70 yv<|sQ 71 yv ?_
       let V3:List Value:=[vi 0,vi (shlK .i64 1 g.A),vi (shlK .i64 1 g.A)]
       refine sQ 72 (Y_buildS (zs:=[vi 0,vi 0,vi 0]) (vs:=[(1,vi (shlK .i64 1 g.A)),(2,vi (shlK .i64 1 g.A))]) (cs:=V3) K36 K14 rfl (mpc rfl (mpc rfl mpn)) rfl) ?_
       obtain ⟨x6,aE,aB⟩:=bI aB
       refine sQ 73 (yI S g.A K5 K2 (gi_isSome eN2 rfl (u.c 2) aE) (getI_nn aE) (getI_ltI aE rfl)) ?_
       refine s0 (yS 2 3 S 64 (.agg V3.toArray) V3 (g.A.toNat*3) ((o.XImages.set g.A.toNat (Aa.mk 0 (shlK .i64 1 g.A) (shlK .i64 1 g.A))).flatMap eN0) u K2 rfl rfl rfl rfl rfl rfl rfl (gi_fit0 eN2 aE) (gi_set eN2 aE (Aa.mk 0 (shlK .i64 1 g.A) (shlK .i64 1 g.A)) rfl)) ?_
       rintro _ cd ⟨rfl,bK⟩
       refine rn ?_
       exact ⟨(o.XImages.set g.A.toNat (Aa.mk 0 (shlK .i64 1 g.A) (shlK .i64 1 g.A))),o.ZImages,(sI aB),(fc rfl (fc rfl fn_)),(set_len _ _ _ rfl),rfl,(bK.sel [1,4,2,3] rfl rfl)⟩
      ·skip
       have aY:=cf' bJ bg
       refine cq (cr ?_)
       refine sQ 75 zE<|sQ 74 yu (rn ?_)
       refine cw_cond rfl (fun bh=>?_) (fun bh=>?_)
       ·skip
        have aF:=ct aY bh
        refine cr ?_
        refine sQ 76 (yd (aD V) 0 0 K18 K4)<|sQ 77 (yz 1 K7 (u.c 4))<|sQ 78 (yd (aD b) 0 0 K24 K1)<|sQ 79 (yz 1 K0 (u.c 0))<|sQ 80 yv<|sQ 81 yv ?_
        let V6:List Value:=[vi 2,vi (shlK .i64 1 g.A),vi (shlK .i64 1 g.A)]
        refine sQ 82 (Y_buildS (zs:=[vi 0,vi 0,vi 0]) (vs:=[(0,vi 2),(1,vi (shlK .i64 1 g.A)),(2,vi (shlK .i64 1 g.A))]) (cs:=V6) K36 K14 rfl (mpc rfl (mpc rfl (mpc rfl mpn))) rfl) ?_
        obtain ⟨x7,aG,aF⟩:=bI aF
        refine sQ 83 (yI S g.A K5 K2 (gi_isSome eN2 rfl (u.c 2) aG) (getI_nn aG) (getI_ltI aG rfl)) ?_
        refine s0 (yS 2 3 S 64 (.agg V6.toArray) V6 (g.A.toNat*3) ((o.XImages.set g.A.toNat (Aa.mk 2 (shlK .i64 1 g.A) (shlK .i64 1 g.A))).flatMap eN0) u K2 rfl rfl rfl rfl rfl rfl rfl (gi_fit0 eN2 aG) (gi_set eN2 aG (Aa.mk 2 (shlK .i64 1 g.A) (shlK .i64 1 g.A)) rfl)) ?_
        rintro _ ce ⟨rfl,bL⟩
        refine rn ?_
        exact ⟨(o.XImages.set g.A.toNat (Aa.mk 2 (shlK .i64 1 g.A) (shlK .i64 1 g.A))),o.ZImages,(sI aF),(fc rfl (fc rfl fn_)),(set_len _ _ _ rfl),rfl,(bL.sel [1,4,2,3] rfl rfl)⟩
       ·skip
        have a0:=cf' aY bh
        refine cq (cr ?_)
        refine sQ 85 zE<|sQ 84 yu (rn ?_)
        refine cw_cond rfl (fun bj=>?_) (fun bj=>?_)
        ·skip
         have ab:=ct a0 bj
         obtain ⟨x8,aI,ab⟩:=bI ab
         obtain ⟨x9,aJ,ab⟩:=bI ab
         refine ra_start a8.fn (by kernel_rfl) ?_
         have aK:=u.drew
         have D:=aK.se [0,1,4]
         refine rq 0 86 rfl D (fun _ q=>(yd (aD V) 0 0 K18 K4))<|rq 1 87 rfl D (fun _ q=>(yz 1 K7 (ST.c q 2)))<|rq 2 88 rfl D (fun _ q=>(yd (aD b) 0 0 K24 K1))<|rq 3 89 rfl D (fun _ q=>(yz 1 K0 (ST.c q 0)))<|rq 4 90 rfl D (fun _ q=>(yd (aD V) 0 0 K20 K4)) ?_
         refine rq 5 91 rfl D (fun _ q=>(yz 2 K7 (ST.c q 2)))<|rq 6 92 rfl D (fun _ q=>(yd (aD b) 0 0 K38 K1))<|rq 7 93 rfl D (fun _ q=>(yz 2 K0 (ST.c q 0)))<|rq 8 94 rfl D (fun _ q=>yv)<|rq 9 95 rfl D (fun _ q=>yv) ?_
         let V0:List Value:=[vi 0,vi (bits .or .i64 (shlK .i64 1 g.A) (shlK .i64 1 g.B)),vi 0]
         refine rq 10 96 rfl D (fun _ q=>(Y_bor (k:=.i64) (a:=(shlK .i64 1 g.A)) (b:=(shlK .i64 1 g.B)) rfl rfl rfl))<|rq 11 97 rfl D (fun _ q=>(Y_buildS (zs:=[vi 0,vi 0,vi 0]) (vs:=[(1,vi (bits .or .i64 (shlK .i64 1 g.A) (shlK .i64 1 g.B)))]) (cs:=V0) K36 K14 rfl (mpc rfl mpn) rfl))<|rq 12 98 rfl D (fun _ q=>yv)<|rq 13 99 rfl D (fun _ q=>yv)<|rq 14 100 rfl D (fun _ q=>(Y_bor (k:=.i64) (a:=(shlK .i64 1 g.A)) (b:=(shlK .i64 1 g.B)) rfl rfl rfl)) ?_
         let V1:List Value:=[vi 0,vi 0,vi (bits .or .i64 (shlK .i64 1 g.A) (shlK .i64 1 g.B))]
         refine rq 15 101 rfl D (fun _ q=>(Y_buildS (zs:=[vi 0,vi 0,vi 0]) (vs:=[(2,vi (bits .or .i64 (shlK .i64 1 g.A) (shlK .i64 1 g.B)))]) (cs:=V1) K36 K14 rfl (mpc rfl mpn) rfl))<|rq 16 102 rfl D (fun _ q=>(yI S g.A K5 K2 (gi_isSome eN2 rfl (aK.c 2) aI) (getI_nn aI) (getI_ltI aI rfl))) ?_
         refine rA [17] ?_
         refine rZ 17 rfl (yS 2 3 S 64 (.agg V0.toArray) V0 (g.A.toNat*3) ((o.XImages.set g.A.toNat (Aa.mk 0 (bits .or .i64 (shlK .i64 1 g.A) (shlK .i64 1 g.B)) 0)).flatMap eN0) aK K2 rfl rfl rfl rfl rfl rfl rfl (gi_fit0 eN2 aI) (gi_set eN2 aI (Aa.mk 0 (bits .or .i64 (shlK .i64 1 g.A) (shlK .i64 1 g.B)) 0) rfl)) ?_ aN
         rintro _ cg ⟨rfl,ak⟩
         refine ⟨(ak.se [0,1,4]),?_⟩
         refine rq 18 103 rfl (ak.se [0,1,4]) (fun _ q=>(yI W g.B K5 K2 (gi_isSome eN2 rfl (ak.c 3) aJ) (getI_nn aJ) (getI_ltI aJ rfl))) ?_
         refine rA [19] ?_
         refine rZ 19 rfl (yS 3 3 W 64 (.agg V1.toArray) V1 (g.B.toNat*3) ((o.ZImages.set g.B.toNat (Aa.mk 0 0 (bits .or .i64 (shlK .i64 1 g.A) (shlK .i64 1 g.B)))).flatMap eN0) ak K2 rfl rfl rfl rfl rfl rfl rfl (gi_fit0 eN2 aJ) (gi_set eN2 aJ (Aa.mk 0 0 (bits .or .i64 (shlK .i64 1 g.A) (shlK .i64 1 g.B))) rfl)) ?_ aN
         rintro _ ch ⟨rfl,a1⟩
         refine ⟨(a1.se [0,1,4]),?_⟩
         refine ra_done (by kernel_rfl) ?_
         exact ⟨(o.XImages.set g.A.toNat (Aa.mk 0 (bits .or .i64 (shlK .i64 1 g.A) (shlK .i64 1 g.B)) 0)),(o.ZImages.set g.B.toNat (Aa.mk 0 0 (bits .or .i64 (shlK .i64 1 g.A) (shlK .i64 1 g.B)))),(sI ab),(fc rfl (fc rfl fn_)),(set_len _ _ _ rfl),(set_len _ _ _ rfl),(a1.sel [1,4,2,3] rfl rfl)⟩
        ·skip
         have a2:=cf' a0 bj
         refine cq (cr ?_)
         refine sQ 105 zE<|sQ 104 yu (rn ?_)
         refine cw_cond rfl (fun bk=>?_) (fun bk=>?_)
         ·skip
          have ac:=ct a2 bk
          obtain ⟨cF,ae,ac⟩:=bI ac
          obtain ⟨cG,af,ac⟩:=bI ac
          refine ra_start (u.se [0,1,3,4]).fn (by kernel_rfl) ?_
          have aL:=u.drew
          have H:=aL.se [0,1,3,4]
          refine rq 0 106 rfl H (fun _ q=>(yd (aD V) 0 0 K18 K4))<|rq 1 107 rfl H (fun _ q=>(yz 1 K7 (ST.c q 3)))<|rq 2 108 rfl H (fun _ q=>(yd (aD b) 0 0 K24 K1))<|rq 3 109 rfl H (fun _ q=>(yz 1 K0 (ST.c q 0)))<|rq 4 110 rfl H (fun _ q=>(yd (aD V) 0 0 K18 K4)) ?_
          refine rq 5 111 rfl H (fun _ q=>(yz 1 K7 (ST.c q 3)))<|rq 6 112 rfl H (fun _ q=>(yd (aD b) 0 0 K38 K1))<|rq 7 113 rfl H (fun _ q=>(yz 2 K0 (ST.c q 0)))<|rq 8 114 rfl H (fun _ q=>yv)<|rq 9 115 rfl H (fun _ q=>yv) ?_
          let V4:List Value:=[vi 0,vi (shlK .i64 1 g.A),vi (shlK .i64 1 g.B)]
          let V5:List Value:=[vi 0,vi (shlK .i64 1 g.B),vi (shlK .i64 1 g.A)]
          refine rq 10 116 rfl H (fun _ q=>(Y_buildS (zs:=[vi 0,vi 0,vi 0]) (vs:=[(1,vi (shlK .i64 1 g.A)),(2,vi (shlK .i64 1 g.B))]) (cs:=V4) K36 K14 rfl (mpc rfl (mpc rfl mpn)) rfl))<|rq 11 117 rfl H (fun _ q=>yv)<|rq 12 118 rfl H (fun _ q=>yv)<|rq 13 119 rfl H (fun _ q=>(Y_buildS (zs:=[vi 0,vi 0,vi 0]) (vs:=[(1,vi (shlK .i64 1 g.B)),(2,vi (shlK .i64 1 g.A))]) (cs:=V5) K36 K14 rfl (mpc rfl (mpc rfl mpn)) rfl))<|rq 14 120 rfl H (fun _ q=>(yI S g.A K5 K2 (gi_isSome eN2 rfl (aL.c 2) ae) (getI_nn ae) (getI_ltI ae rfl))) ?_
          refine rA [15] ?_
          refine rZ 15 rfl (yS 2 3 S 64 (.agg V4.toArray) V4 (g.A.toNat*3) ((o.XImages.set g.A.toNat (Aa.mk 0 (shlK .i64 1 g.A) (shlK .i64 1 g.B))).flatMap eN0) aL K2 rfl rfl rfl rfl rfl rfl rfl (gi_fit0 eN2 ae) (gi_set eN2 ae (Aa.mk 0 (shlK .i64 1 g.A) (shlK .i64 1 g.B)) rfl)) ?_ aN
          rintro _ ci ⟨rfl,al⟩
          refine ⟨(al.se [0,1,3,4]),?_⟩
          refine rq 16 121 rfl (al.se [0,1,3,4]) (fun _ q=>(yI S g.B K5 K2 (gi_isSome eN2 rfl (al.c 2) af) (getI_nn af) (getI_ltI af (set_len _ _ _ rfl)))) ?_
          refine rA [17] ?_
          refine rZ 17 rfl (yS 2 3 S 64 (.agg V5.toArray) V5 (g.B.toNat*3) (((o.XImages.set g.A.toNat (Aa.mk 0 (shlK .i64 1 g.A) (shlK .i64 1 g.B))).set g.B.toNat (Aa.mk 0 (shlK .i64 1 g.B) (shlK .i64 1 g.A))).flatMap eN0) al K2 rfl rfl rfl rfl rfl rfl rfl (gi_fit0 eN2 af) (gi_set eN2 af (Aa.mk 0 (shlK .i64 1 g.B) (shlK .i64 1 g.A)) rfl)) ?_ aN
          rintro _ cj ⟨rfl,a3⟩
          refine ⟨(a3.se [0,1,3,4]),?_⟩
          refine ra_done (by kernel_rfl) ?_
          exact ⟨((o.XImages.set g.A.toNat (Aa.mk 0 (shlK .i64 1 g.A) (shlK .i64 1 g.B))).set g.B.toNat (Aa.mk 0 (shlK .i64 1 g.B) (shlK .i64 1 g.A))),o.ZImages,(sI ac),(fc rfl (fc rfl fn_)),(set_len _ _ _ (set_len _ _ _ rfl)),rfl,(a3.sel [1,4,2,3] rfl rfl)⟩
         ·skip
          have a5:=cf' a2 bk
          refine cq (cr ?_)
          refine sQ 123 zE<|sQ 122 yu (rn ?_)
          refine cw_cond rfl (fun bm=>?_) (fun bm=>?_)
          ·skip
           have J:=ct a5 bm
           refine cq ?_
           obtain ⟨cH,ag,J⟩:=bI J
           obtain ⟨cI,ah,J⟩:=bI J
           refine ra_start (u.se [0,1,3,4]).fn (by kernel_rfl) ?_
           have aM:=u.drew
           have P:=aM.se [0,1,3,4]
           refine rq 0 124 rfl P (fun _ q=>(yd (aD V) 0 0 K18 K4))<|rq 1 125 rfl P (fun _ q=>(yz 1 K7 (ST.c q 3)))<|rq 2 126 rfl P (fun _ q=>(yd (aD b) 0 0 K24 K1))<|rq 3 127 rfl P (fun _ q=>(yz 1 K0 (ST.c q 0)))<|rq 4 128 rfl P (fun _ q=>(yd (aD V) 0 0 K18 K4)) ?_
           refine rq 5 129 rfl P (fun _ q=>(yz 1 K7 (ST.c q 3)))<|rq 6 130 rfl P (fun _ q=>(yd (aD b) 0 0 K38 K1))<|rq 7 131 rfl P (fun _ q=>(yz 2 K0 (ST.c q 0)))<|rq 8 132 rfl P (fun _ q=>yv)<|rq 9 133 rfl P (fun _ q=>(Y_buildS (zs:=[vi 0,vi 0,vi 0]) (vs:=[(1,vi (shlK .i64 1 g.B))]) (cs:=[vi 0,vi (shlK .i64 1 g.B),vi 0]) K36 K14 rfl (mpc rfl mpn) rfl)) ?_
           refine rq 10 134 rfl P (fun _ q=>yv)<|rq 11 135 rfl P (fun _ q=>(Y_buildS (zs:=[vi 0,vi 0,vi 0]) (vs:=[(1,vi (shlK .i64 1 g.A))]) (cs:=[vi 0,vi (shlK .i64 1 g.A),vi 0]) K36 K14 rfl (mpc rfl mpn) rfl))<|rq 12 136 rfl P (fun _ q=>(yI S g.A K5 K2 (gi_isSome eN2 rfl (aM.c 2) ag) (getI_nn ag) (getI_ltI ag rfl))) ?_
           refine rA [13] ?_
           refine rZ 13 rfl (yS 2 3 S 64 (.agg #[vi 0,vi (shlK .i64 1 g.B),vi 0]) [vi 0,vi (shlK .i64 1 g.B),vi 0] (g.A.toNat*3) ((o.XImages.set g.A.toNat (Aa.mk 0 (shlK .i64 1 g.B) 0)).flatMap eN0) aM K2 rfl rfl rfl rfl rfl rfl rfl (gi_fit0 eN2 ag) (gi_set eN2 ag (Aa.mk 0 (shlK .i64 1 g.B) 0) rfl)) ?_ aN
           rintro _ ck ⟨rfl,am⟩
           refine ⟨(am.se [0,1,3,4]),?_⟩
           refine rq 14 137 rfl (am.se [0,1,3,4]) (fun _ q=>(yI S g.B K5 K2 (gi_isSome eN2 rfl (am.c 2) ah) (getI_nn ah) (getI_ltI ah (set_len _ _ _ rfl)))) ?_
           refine rA [15] ?_
           refine rZ 15 rfl (yS 2 3 S 64 (.agg #[vi 0,vi (shlK .i64 1 g.A),vi 0]) [vi 0,vi (shlK .i64 1 g.A),vi 0] (g.B.toNat*3) (((o.XImages.set g.A.toNat (Aa.mk 0 (shlK .i64 1 g.B) 0)).set g.B.toNat (Aa.mk 0 (shlK .i64 1 g.A) 0)).flatMap eN0) am K2 rfl rfl rfl rfl rfl rfl rfl (gi_fit0 eN2 ah) (gi_set eN2 ah (Aa.mk 0 (shlK .i64 1 g.A) 0) rfl)) ?_ aN
           rintro _ cl ⟨rfl,aO⟩
           refine ⟨(aO.se [0,1,3,4]),?_⟩
           refine ra_done (by kernel_rfl) ?_
           obtain ⟨cJ,ai,J⟩:=bI J
           obtain ⟨cL,aj,J⟩:=bI J
           refine ra_start (aO.se [0,1,2,4]).fn (by kernel_rfl) ?_
           have aQ:=aO.drew
           have Q:=aQ.se [0,1,2,4]
           refine rq 0 138 rfl Q (fun _ q=>(yd (aD V) 0 0 K20 K4))<|rq 1 139 rfl Q (fun _ q=>(yz 2 K7 (ST.c q 3)))<|rq 2 140 rfl Q (fun _ q=>(yd (aD b) 0 0 K24 K1))<|rq 3 141 rfl Q (fun _ q=>(yz 1 K0 (ST.c q 0)))<|rq 4 142 rfl Q (fun _ q=>(yd (aD V) 0 0 K20 K4)) ?_
           refine rq 5 143 rfl Q (fun _ q=>(yz 2 K7 (ST.c q 3)))<|rq 6 144 rfl Q (fun _ q=>(yd (aD b) 0 0 K38 K1))<|rq 7 145 rfl Q (fun _ q=>(yz 2 K0 (ST.c q 0)))<|rq 8 146 rfl Q (fun _ q=>yv)<|rq 9 147 rfl Q (fun _ q=>(Y_buildS (zs:=[vi 0,vi 0,vi 0]) (vs:=[(2,vi (shlK .i64 1 g.B))]) (cs:=[vi 0,vi 0,vi (shlK .i64 1 g.B)]) K36 K14 rfl (mpc rfl mpn) rfl)) ?_
           refine rq 10 148 rfl Q (fun _ q=>yv)<|rq 11 149 rfl Q (fun _ q=>(Y_buildS (zs:=[vi 0,vi 0,vi 0]) (vs:=[(2,vi (shlK .i64 1 g.A))]) (cs:=[vi 0,vi 0,vi (shlK .i64 1 g.A)]) K36 K14 rfl (mpc rfl mpn) rfl))<|rq 12 150 rfl Q (fun _ q=>(yI W g.A K5 K2 (gi_isSome eN2 rfl (aQ.c 3) ai) (getI_nn ai) (getI_ltI ai rfl))) ?_
           refine rA [13] ?_
           refine rZ 13 rfl (yS 3 3 W 64 (.agg #[vi 0,vi 0,vi (shlK .i64 1 g.B)]) [vi 0,vi 0,vi (shlK .i64 1 g.B)] (g.A.toNat*3) ((o.ZImages.set g.A.toNat (Aa.mk 0 0 (shlK .i64 1 g.B))).flatMap eN0) aQ K2 rfl rfl rfl rfl rfl rfl rfl (gi_fit0 eN2 ai) (gi_set eN2 ai (Aa.mk 0 0 (shlK .i64 1 g.B)) rfl)) ?_ aN
           rintro _ cm ⟨rfl,an⟩
           refine ⟨(an.se [0,1,2,4]),?_⟩
           refine rq 14 151 rfl (an.se [0,1,2,4]) (fun _ q=>(yI W g.B K5 K2 (gi_isSome eN2 rfl (an.c 3) aj) (getI_nn aj) (getI_ltI aj (set_len _ _ _ rfl)))) ?_
           refine rA [15] ?_
           refine rZ 15 rfl (yS 3 3 W 64 (.agg #[vi 0,vi 0,vi (shlK .i64 1 g.A)]) [vi 0,vi 0,vi (shlK .i64 1 g.A)] (g.B.toNat*3) (((o.ZImages.set g.A.toNat (Aa.mk 0 0 (shlK .i64 1 g.B))).set g.B.toNat (Aa.mk 0 0 (shlK .i64 1 g.A))).flatMap eN0) an K2 rfl rfl rfl rfl rfl rfl rfl (gi_fit0 eN2 aj) (gi_set eN2 aj (Aa.mk 0 0 (shlK .i64 1 g.A)) rfl)) ?_ aN
           rintro _ cn ⟨rfl,a6⟩
           refine ⟨(a6.se [0,1,2,4]),?_⟩
           refine ra_done (by kernel_rfl) ?_
           exact ⟨((o.XImages.set g.A.toNat (Aa.mk 0 (shlK .i64 1 g.B) 0)).set g.B.toNat (Aa.mk 0 (shlK .i64 1 g.A) 0)),((o.ZImages.set g.A.toNat (Aa.mk 0 0 (shlK .i64 1 g.B))).set g.B.toNat (Aa.mk 0 0 (shlK .i64 1 g.A))),(sI J),(fc rfl (fc rfl fn_)),(set_len _ _ _ (set_len _ _ _ rfl)),(set_len _ _ _ (set_len _ _ _ rfl)),(a6.sel [1,4,2,3] rfl rfl)⟩
          ·skip
           have bM:=cf' a5 bm
           refine cw_skip ?_
           exact ⟨o.XImages,o.ZImages,(sI bM),(fc rfl (fc rfl fn_)),rfl,rfl,(u.sel [1,4,2,3] rfl rfl)⟩
 rintro f w ⟨XImages,ZImages,rfl,hf,hl,b6,bN⟩
 refine cq (cr ?_)
 refine sQ 152 (yw 0 K11 K3 (bN.c 1) rfl (hf.g 5 1)) ?_
 refine s0 (yK 0 3 0 bN K3 rfl (hf.g 4 0)) ?_
 rintro _ co ⟨rfl,a7⟩
 refine rn (ct_ ?_)
 obtain rfl:=sI bV
 exact ret1 Tryz.results45 (v1:=.agg V2.toArray) (rX K11 K3 (a7.c 0) (hf.g 4 0)) ⟨S,c2,W,c3,(by simp +zetaDelta [hl,b6]),(a7.sN [2,3])⟩

theorem Bq (u:Ap) (o:Int) (a:Int) (b:Int) (B:Option Addr) (B1:Option Addr) (c n:Nat) (B2:Option Addr) (c1 n1:Nat) (V:Option Addr) (W n2:Nat) (w0:World) (hn:u.t.XImages.length=n) (aM:u.t.ZImages.length=n1) (aO:u.gates.length=n2) (hS:ST w0 (bl [⟨B,54,[vi u.t.Qubits,.slice B1 n c,.slice B2 n1 c1,.slice V n2 W],4⟩,⟨V,57,(u.gates.flatMap eN1),W*3⟩]) w0 [⟨B,54,[vi u.t.Qubits,.slice B1 n c,.slice B2 n1 c1,.slice V n2 W],4⟩,⟨V,57,(u.gates.flatMap eN1),W*3⟩] [⟨B1,(u.t.XImages.flatMap eN0)⟩,⟨B2,(u.t.ZImages.flatMap eN0)⟩]) {m:Ap} (hF:Ay u o a b=some m) :
  CV Tryz.prog 55 #[pt B 0,vi o,vi a,vi b] w0 (fun v w'=>∃ (B4:Option Addr) (c3:Nat) (B5:Option Addr) (c4:Nat) (B6:Option Addr) (c5:Nat),v=.tuple #[]∧ST w0 (bl [⟨B,54,[vi u.t.Qubits,.slice B1 n c,.slice B2 n1 c1,.slice V n2 W],4⟩,⟨V,57,(u.gates.flatMap eN1),W*3⟩]) w' [⟨B,54,[vi m.t.Qubits,.slice B4 m.t.XImages.length c3,.slice B5 m.t.ZImages.length c4,.slice B6 m.gates.length c5],4⟩,⟨B4,64,(m.t.XImages.flatMap eN0),c3*3⟩,⟨B5,64,(m.t.ZImages.flatMap eN0),c4*3⟩,⟨B6,57,(m.gates.flatMap eN1),c5*3⟩] []):=by
 subst hn
 subst aM
 subst aO
 unfold Ay at hF
 refine cv_of_cw 38 Tryz.func55 rfl Tryz.ntmps55 rfl ?_
 refine cq (cr ?_)
 refine sQ 9 yv<|sQ 10 yv<|sQ 11 yv<|sQ 12 (Y_buildS (zs:=[vi 0,vi 0,vi 0]) (vs:=[(0,vi o),(1,vi a),(2,vi b)]) (cs:=[vi o,vi a,vi b]) K69 K28 rfl (mpc rfl (mpc rfl (mpc rfl mpn))) rfl) ?_
 refine sS 8 (yN [vi 0,vi 0,vi 0] 3 hS K28) ?_
 rintro _ w_ ⟨b1,rfl,aQ⟩
 refine s0 (yK 2 3 0 aQ K8) ?_
 rintro _ bk ⟨rfl,ar⟩
 refine rn (cq ?_)
 obtain ⟨O,hc,hF⟩:=bI hF
 obtain ⟨D,aR,hF⟩:=bI hF
 refine ra_start (ar.se [1,2]).fn (by kernel_rfl) ?_
 have au:=ar.drew
 have H:=au.se [1,2]
 refine rq 0 13 rfl H (fun _ q=>yv)<|rq 1 14 rfl H (fun _ q=>yv)<|rq 2 15 rfl H (fun _ q=>(Y_nilCheck (B:=B) (i:=0) rfl rfl))<|rq 3 16 rfl H (fun _ q=>(yd B 0 2 K52 K3))<|rq 5 18 rfl H (fun _ q=>yv) ?_
 refine rq 6 19 rfl H (fun _ q=>(Y_nilCheck (B:=B) (i:=0) rfl rfl))<|rq 7 20 rfl H (fun _ q=>(yd B 0 2 K52 K3))<|rq 8 21 rfl H (fun _ q=>(yd B 0 0 K22 K1))<|rq 10 23 rfl H (fun _ q=>(yw 0 K27 K8 (ST.c q 1))) ?_
 let V7:List Value:=[vi u.t.Qubits,.slice B1 u.t.XImages.length c,.slice B2 u.t.ZImages.length c1,.slice V u.gates.length W]
 let O0:Ob:=⟨B,54,V7,4⟩
 let O1:Ob:=⟨V,57,(u.gates.flatMap eN1),W*3⟩
 let O3:Ob:=⟨aD b1,57,[vi o,vi a,vi b],3⟩
 let V6:List Value:=[vi u.t.Qubits,.slice B1 u.t.XImages.length c,.slice B2 u.t.ZImages.length c1]
 refine rf_in (k:=5) (ts:=[16,21]) (L:=[O0,O1,O3]) (G:=[]) [fQ 9 22 (vi u.t.Qubits) O0,fQ 4 17 (.agg V6.toArray) O0] au (flc rfl rfl rfl (fun _ _ _ _ J h P=>(yfl (yz 0 K0 (ST.cfm h P.1) rfl ((J 21 (List.Mem.tail _ (List.Mem.head _))).trans rfl)) h)) (flc rfl rfl rfl (fun _ _ _ _ J h P=>(yfl (ya B 0 V7 V6 K11 K3 (ST.cfm h P.1) rfl ((J 16 (List.Mem.head _)).trans rfl)) h)) fln)) (fun hJ=>?_)
 refine rf_force hJ (fun Z w h=>(ST.sel (ST.noF h) [1,2] rfl rfl)) (fun _=>?_)
 refine rf_all [11] (FlOK.nx hJ) (fun Z w h=>(ST.sel (ST.noF h) [1,2] rfl rfl)) (fun Z bm hz aw=>?_)
 refine rC 24 11 rfl (yc Ig (JG u.t.Qubits (Ab.mk o a b) _  (aw.inn0 [] rfl) hc)) ?_ aN
 rintro _ bo ⟨B7,c6,B8,c7,rfl,hd⟩
 have aU:=aw.out0 hd
 let O4:Ob:=⟨B7,64,(O.XImages.flatMap eN0),c6*3⟩
 let O5:Ob:=⟨B8,64,(O.ZImages.flatMap eN0),c7*3⟩
 have aV:ST w0 (bl [O0,O1]) _ (O0::O1::O3::O4::O5::(flL [fQ 4 17 (.agg V6.toArray) O0] Z++[])) [⟨B1,(u.t.XImages.flatMap eN0)⟩,⟨B2,(u.t.ZImages.flatMap eN0)⟩]:=ST.rot (pre:=[O0,O1,O3]) (G:=(flL [fQ 4 17 (.agg V6.toArray) O0] Z++[])) (xs:=[O4,O5]) aU
 refine rf_k (L:=[O0,O1,O3,O4,O5]) hz aV (fun Z w h=>(ST.sel (ST.noF h) [1,2] rfl rfl)) ?_
 refine rf_force (FlOK.nx hJ) (fun Z w h=>(ST.sel (ST.noF h) [1,2] rfl rfl)) (fun _=>?_)
 refine rf_out (fun bp ay=>?_)
 refine rA [12] ?_
 refine rC 25 12 rfl (yc G8 (GF u.t O B1 c u.t.XImages.length B2 c1 u.t.ZImages.length B7 c6 O.XImages.length B8 c7 O.ZImages.length _ rfl rfl rfl rfl (ay.inn0 [(true,0),(true,1),(false,3),(false,4)] rfl) aR)) ?_ aN
 rintro _ bq ⟨B9,c8,Q,c9,rfl,aY⟩
 have ah:=ay.out0 aY
 have am:=ah.se [1,2]
 refine ⟨am,?_⟩
 refine rq 13 26 rfl am (fun _ q=>(Y_nilCheck (B:=B) (i:=0) rfl rfl))<|rq 14 27 rfl am (fun _ q=>(yd B 0 2 K52 K3)) ?_
 refine rA [15] ?_
 let V8:List Value:=[vi D.Qubits,.slice B9 D.XImages.length c8,.slice Q D.ZImages.length c9,.slice V u.gates.length W]
 let V9:List Value:=[vi D.Qubits,.slice B9 D.XImages.length c8,.slice Q D.ZImages.length c9]
 refine rZ 15 rfl (yS 0 3 B 54 (.agg V9.toArray) V9 0 V8 ah K3) ?_ aN
 rintro _ bt ⟨rfl,S⟩
 refine ⟨(S.se [1,2]),?_⟩
 refine ra_done (by kernel_rfl) ?_
 obtain ⟨a0,hF⟩:=chk_inv hF
 refine ra_start (S.se [2,3,4,5,6]).fn (by kernel_rfl) ?_
 have ai:=S.drew
 have U:=ai.se [2,3,4,5,6]
 refine rq 0 28 rfl U (fun _ q=>yv)<|rq 1 29 rfl U (fun _ q=>yv)<|rq 2 30 rfl U (fun _ q=>(Y_nilCheck (B:=B) (i:=0) rfl rfl))<|rq 3 31 rfl U (fun _ q=>(yd B 0 0 K82 K23))<|rq 5 33 rfl U (fun _ q=>(yw 0 K27 K8 (ST.c q 0))) ?_
 let O2:Ob:=⟨B,54,V8,4⟩
 refine rf_in (k:=4) (ts:=[31,33]) (L:=[O2,O1,O3,O4,O5,⟨B9,64,(D.XImages.flatMap eN0),c8*3⟩,⟨Q,64,(D.ZImages.flatMap eN0),c9*3⟩]) (G:=[]) [fQ 4 32 (.slice V u.gates.length W) O2,fM 6 34 57 ([(Ab.mk o a b)].flatMap eN1) (1*3) 1 1] ai (flc rfl rfl rfl (fun _ _ _ _ J h P=>(yfl (yz 3 K29 (ST.cfm h P.1) rfl ((J 31 (List.Mem.head _)).trans rfl)) h)) (flc rfl rfl rfl (fun _ _ _ _ J h _=>(Ys_bslice (s:=3) (len:=1) (vs:=[(0,.agg #[vi o,vi a,vi b])]) (cs:=[vi o,vi a,vi b]) (zs:=[vi 0,vi 0,vi 0]) (m:=3) h K15 K8 K64 rfl (mpc ((J 33 (List.Mem.tail _ (List.Mem.head _))).trans rfl) mpn) rfl rfl rfl (by kernel_rfl) (by kernel_rfl) rfl)) fln)) (fun aF=>?_)
 refine rf_force aF (fun Z w h=>(ST.sel (ST.noF h) [2,3,4,5,6] rfl rfl)) (fun _=>?_)
 refine rf_force (FlOK.nx aF) (fun Z w h=>(ST.sel (ST.noF h) [2,3,4,5,6] rfl rfl)) (fun b2=>?_)
 refine rf_out (fun bu aj=>?_)
 refine rA [7] ?_
 refine rS 35 7 rfl (aP 3 24 1 u.gates [(Ab.mk o a b)] aj K15 K8 K59 K28 eN4 BK (aj.c 7) a0) ?_ aN
 rintro _ bv ⟨ab,ac,rfl,ak⟩
 have an:=ak.se [2,3,4,5,6]
 refine ⟨an,?_⟩
 refine rq 8 36 rfl an (fun _ q=>(Y_nilCheck (B:=B) (i:=0) rfl rfl))<|rq 9 37 rfl an (fun _ q=>(yd B 0 0 K82 K23)) ?_
 refine rA [10] ?_
 refine rZ 10 rfl (yS 0 1 B 54 (.slice ab ((u.gates++[(Ab.mk o a b)]).length) ac) [.slice ab ((u.gates++[(Ab.mk o a b)]).length) ac] 3 [vi D.Qubits,.slice B9 D.XImages.length c8,.slice Q D.ZImages.length c9,.slice ab ((u.gates++[(Ab.mk o a b)]).length) ac] ak K23) ?_ aN
 rintro _ bw ⟨rfl,al⟩
 refine ⟨(al.se [2,3,4,5,6]),?_⟩
 refine ra_done (by kernel_rfl) ?_
 obtain rfl:=sI hF
 exact ret0 Tryz.results55  ⟨B9,c8,Q,c9,ab,ac,rfl,(al.sN [0,5,6,1])⟩

theorem RX (t:Ae) (B:Option Addr) (c n:Nat) (B1:Option Addr) (c1 n1:Nat) (U:World) (hn:t.XImages.length=n) (hq:n≤c) (ot:t.ZImages.length=n1) (ou:n1≤c1) (hS:ST U [] U [] [⟨B,(t.XImages.flatMap eN0)⟩,⟨B1,(t.ZImages.flatMap eN0)⟩]) {r_:Aj} {kH:Bool} (hF:CS t=some (r_,kH)) :
  CV Tryz.prog 5 #[.agg #[vi t.Qubits,.slice B n c,.slice B1 n1 c1]] U (fun v w'=>∃ (B2:Option Addr) (c2:Nat),v=.tuple #[.agg #[vi r_.Qubits,.slice B2 r_.Gates.length c2],.bool kH]∧ST U [] w' [⟨B2,57,(r_.Gates.flatMap eN1),c2*3⟩] []):=by
 subst hn
 subst ot
 unfold CS at hF
 refine cv_of_cw 77 Tryz.func5 rfl Tryz.ntmps5 rfl ?_
 refine cq (cr ?_)
 let jp:List Value:=[vi t.Qubits,.slice B t.XImages.length c,.slice B1 t.ZImages.length c1]
 refine sS 1 (yV jp 3 hS) ?_
 rintro _ w_ ⟨b,rfl,ov⟩
 refine sS 2 (yN [vi 0,.slice none 0 0] 2 ov K34) ?_
 rintro _ qp ⟨b1,rfl,jq⟩
 refine sQ 3 yu (rn (cq (cq (cr ?_))))
 refine sQ 8 (yw 0 K11 K3 (jq.c 0)) ?_
 obtain ⟨qq,hc,hF⟩:=bI hF
 refine sc 9 rfl rfl (yc K91 (EL t B c t.XImages.length B1 c1 t.ZImages.length _ rfl rfl (jq.inn0 [(true,0),(true,1)] rfl) hc)) ?_
 rintro _ qr ⟨rfl,hd⟩
 have jr:=jq.out00 hd
 refine sQ 10 yn (rn ?_)
 refine cw_cond rfl (fun hb=>?_) (fun hb=>?_)
 ·skip
  have ow:=ct hF hb
  refine cq (cr ?_)
  refine sQ 11 (Y_buildS (zs:=[vi 0,.slice none 0 0]) (vs:=[]) (cs:=[vi 0,.slice none 0 0]) K72 K34 rfl mpn rfl) ?_
  refine s0 (yK 1 2 0 jr K9) ?_
  rintro _ qs ⟨rfl,ox⟩
  refine sQ 3 yu (rn (ct_ ?_))
  have kJ:=ox.addNil 57
  obtain ⟨rfl,rfl⟩:=pr2 (sI ow)
  exact ret2 Tryz.results5 (rX K17 K9 (kJ.c 1)) rT ⟨none,0,rfl,(kJ.sN [2])⟩
 ·skip
  have oy:=cf' hF hb
  refine cw_skip (cq (cr ?_))
  let js:List Value:=[vi t.Qubits,.slice B t.XImages.length c,.slice B1 t.ZImages.length c1,.slice none 0 0]
  refine sQ 12 (yw 0 K11 K3 (jr.c 0))<|sQ 13 (Y_buildS (zs:=[vi 0,.slice none 0 0,.slice none 0 0,.slice none 0 0]) (vs:=[(0,.agg jp.toArray)]) (cs:=js) QD OS rfl (mpc rfl mpn) rfl) ?_
  refine sS 14 (yV js 4 jr) ?_
  rintro _ qt ⟨Q,rfl,kK⟩
  refine sQ 4 yu (rn (cq (cq (cr ?_))))
  refine sQ 15 (yd (aD b) 0 0 K22 K1)<|sQ 16 (yz 0 K0 (kK.c 0))<|sQ 17 yv (rn ?_)
  obtain ⟨z,hz,oz⟩:=bI oy
  have oA:=kK.addNil 57
  let O0:Ob:=⟨aD b,25,jp,3⟩
  let O1:Ob:=⟨aD b1,29,[vi 0,.slice none 0 0],2⟩
  let o:Ro:=⟨B1,(t.ZImages.flatMap eN0)⟩
  let u:Ro:=⟨B,(t.XImages.flatMap eN0)⟩
  have oB:ST U [] _ [O0,O1,⟨aD Q,54,js,4⟩,⟨none,57,([].flatMap eN1),0*3⟩] [o,u,u,o]:=oA.sT [1,0,0,1]
  refine cw_block ?_
  refine cw_loop (fun k f w=>∃ (Qubits:Int) (XImages:List Aa) (ZImages:List Aa) (gates:List Ab) (t1:Int) (B3:Option Addr) (c3:Nat) (B4:Option Addr) (c4:Nat) (B5:Option Addr) (c5:Nat),FF f [(1,pt (aD b) 0),(2,pt (aD b1) 0),(4,pt (aD Q) 0),(16,vi t.Qubits),(17,vi t1)]∧Org U [] [u,o] [⟨B3,(XImages.flatMap eN0)⟩]∧XImages.length≤c3∧Org U [] [u,o] [⟨B4,(ZImages.flatMap eN0)⟩]∧ZImages.length≤c4∧ST U [] w [O0,O1,⟨aD Q,54,[vi Qubits,.slice B3 XImages.length c3,.slice B4 ZImages.length c4,.slice B5 gates.length c5],4⟩,⟨B5,57,(gates.flatMap eN1),c5*3⟩] [⟨B4,(ZImages.flatMap eN0)⟩,⟨B3,(XImages.flatMap eN0)⟩,u,o]∧whX (DJ t) k (Qubits,XImages,ZImages,gates,t1)=some z) fuel ⟨t.Qubits,t.XImages,t.ZImages,[],0,B,c,B1,c1,none,0,(fc rfl (fc rfl (fc rfl (fc rfl (fc rfl fn_))))),(org_mem (i:=0) rfl),(len_le rfl hq),(org_mem (i:=1) rfl),(len_le rfl ou),(oB.sel [0,1,2,3] rfl rfl),hz⟩ ?_
  rintro k_ f w ⟨Qubits,XImages,ZImages,gates,t1,B3,c3,B4,c4,B5,c5,hf,ho,oC,oD,oE,kL,hL⟩
  obtain ⟨K13,y,rfl,jt,kM⟩:=whX_go hL
  unfold DJ at jt
  refine cq (cr ?_)
  refine sQ 18 (zL rfl (hf.g 17 4) (hf.g 16 3)) (rn (cq ?_))
  refine cw_cond rfl (fun ju=>?_) (fun ju=>?_)
  ·skip
   have jv:=ct jt ju
   refine cw_skip (cq (cw_block (cq (cr ?_))))
   refine sQ 19 (yv rfl (hf.g 17 4))<|sQ 5 yu (rn (cr ?_))
   refine sQ 20 (yv rfl (hf.g 4 2))<|sQ 21 yv ?_
   obtain ⟨⟨cJ,aM,aO,bU⟩,kN,jv⟩:=bI jv
   let O:Ro:=⟨B3,(XImages.flatMap eN0)⟩
   let P:Ro:=⟨B4,(ZImages.flatMap eN0)⟩
   refine sc 22 rfl rfl (Yc_func (g:=22) (vs:=[pt (aD Q) 0,vi t1]) (R:=fun v w'=>∃ (B6:Option Addr) (c6:Nat) (B7:Option Addr) (c7:Nat) (B8:Option Addr) (c8:Nat),v=.tuple #[]∧Org U [] [u,o] [⟨B6,(aM.flatMap eN0)⟩]∧aM.length≤c6∧Org U [] [u,o] [⟨B7,(aO.flatMap eN0)⟩]∧aO.length≤c7∧ST U [] w' [O0,O1,⟨aD Q,54,[vi cJ,.slice B6 aM.length c6,.slice B7 aO.length c7,.slice B8 bU.length c8],4⟩,⟨B8,57,(bU.flatMap eN1),c8*3⟩] [⟨B7,(aO.flatMap eN0)⟩,⟨B6,(aM.flatMap eN0)⟩,P,O,u,o]) Tl rfl (mc rfl (mc rfl mn)) ?cv) ?_
   case cv =>
    show CV Tryz.prog 22 #[pt (aD Q) 0,vi t1] _ _
    refine cv_of_cw 124 Tryz.func22 rfl Tryz.ntmps22 rfl ?_
    refine cq (cr ?_)
    refine sS 2 (yB 52 (pt (aD Q) 0) [pt (aD Q) 0] 1 kL) ?_
    rintro _ pT ⟨V,rfl,jy⟩
    refine sS 3 (yB 3 (vi t1) [vi t1] 1 jy) ?_
    rintro _ pU ⟨W,rfl,gh⟩
    refine rn (cq (cr ?_))
    refine sQ 10 (Y_makeFunc (cs:=[pt (aD V) 0,pt (aD W) 0]) rfl rfl (mc rfl (mc rfl mn)))<|sQ 11 (Y_makeFunc (cs:=[pt (aD V) 0,pt (aD W) 0]) rfl rfl (mc rfl (mc rfl mn)))<|sQ 4 yu<|sQ 5 yu (rn (cq (cq (cr ?_))))
    refine sQ 12 (yz 0 K0 (gh.c 5))<|sQ 6 yu (rn ?_)
    obtain ⟨oF,kQ,kR⟩:=bI kN
    let O2:Ob:=⟨aD V,52,[pt (aD Q) 0],1⟩
    let O3:Ob:=⟨aD W,3,[vi t1],1⟩
    have jz:ST U [] _ [O0,O1,⟨aD Q,54,[vi Qubits,.slice B3 XImages.length c3,.slice B4 ZImages.length c4,.slice B5 gates.length c5],4⟩,⟨B5,57,(gates.flatMap eN1),c5*3⟩,O2,O3] [P,O,P,O,u,o]:=gh.sT [0,1,0,1,2,3]
    refine cw_block ?_
    refine cw_loop (fun k f w=>∃ (af:Int) (D:List Aa) (H:List Aa) (ag:List Ab) (s4:Int) (bP:Option Addr) (dd:Nat) (ce:Option Addr) (de:Nat) (cG:Option Addr) (cH:Nat),FF f [(2,pt (aD V) 0),(3,pt (aD W) 0),(4,.func (.func 51) #[] #[pt (aD V) 0,pt (aD W) 0]),(5,.func (.func 52) #[] #[pt (aD V) 0,pt (aD W) 0]),(6,vi s4)]∧Org U [] [u,o] [⟨bP,(D.flatMap eN0)⟩]∧D.length≤dd∧Org U [] [u,o] [⟨ce,(H.flatMap eN0)⟩]∧H.length≤de∧ST U [] w [O2,⟨aD Q,54,[vi af,.slice bP D.length dd,.slice ce H.length de,.slice cG ag.length cH],4⟩,⟨cG,57,(ag.flatMap eN1),cH*3⟩,O3,O0,O1] [⟨ce,(H.flatMap eN0)⟩,⟨bP,(D.flatMap eN0)⟩,P,O,u,o]∧whX (Et t1) k (af,D,H,ag,s4)=some oF) fuel ⟨Qubits,XImages,ZImages,gates,t1,B3,c3,B4,c4,B5,c5,(fc rfl (fc rfl (fc rfl (fc rfl (fc rfl fn_))))),ho,(len_le rfl oC),oD,(len_le rfl oE),(jz.sel [4,2,3,5,0,1] rfl rfl),kQ⟩ ?_
    rintro pV f w ⟨af,D,H,ag,s4,bP,dd,ce,de,cG,cH,bd,iZ,i0,i3,i4,cg,kS⟩
    obtain ⟨kT,y6,rfl,gi,i5⟩:=whX_go kS
    unfold Et at gi
    refine cq (cq (cr ?_))
    refine sQ 13 (yv rfl (bd.g 6 4))<|sQ 14 (yz 0 K39 (cg.c 0) rfl (bd.g 2 0))<|sQ 15 (Y_nilCheck (B:=aD Q) (i:=0) rfl rfl)<|sQ 16 (yd (aD Q) 0 2 K52 K3)<|sQ 17 (yd (aD Q) 0 0 K22 K1)<|sQ 18 (yz 0 K0 (cg.c 1)) ?_
    refine sQ 19 zL (rn ?_)
    refine cw_cond rfl (fun gj=>?_) (fun gj=>?_)
    ·skip
     have dW:=ct gi gj
     refine cw_skip (cq (cw_block ?_))
     obtain ⟨⟨kU,kV,kW⟩,gk,dW⟩:=bI dW
     obtain ⟨⟨ch,aA,aB,bv⟩,e9,dW⟩:=bI dW
     refine ra_start (cg.se [0,3,4,5]).fn (by kernel_rfl) ?_
     have gl:=cg.drew
     have jA:=gl.se [0,3,4,5]
     refine rq 0 22 rfl jA (fun _ q=>(yz 0 K39 (ST.c q 0) rfl (bd.g 2 0)))<|rq 1 23 rfl jA (fun _ q=>(yv rfl (bd.g 4 2)))<|rq 3 25 rfl jA (fun _ q=>(yv rfl (bd.g 6 4))) ?_
     refine rA [2] ?_
     let O4:Ob:=⟨aD Q,54,[vi af,.slice bP D.length dd,.slice ce H.length de,.slice cG ag.length cH],4⟩
     let jB:Ob:=⟨cG,57,(ag.flatMap eN1),cH*3⟩
     let df:Ro:=⟨bP,(D.flatMap eN0)⟩
     let dg:Ro:=⟨ce,(H.flatMap eN0)⟩
     let dO:List Value:=[vi kU,vi kV,vi kW]
     refine rC 24 2 rfl (Yc_clos (g:=51) (vs:=[pt (aD V) 0,pt (aD W) 0]) (R:=fun v w'=>v=.agg dO.toArray∧ST U [] w' [O0,O1,O4,jB,O2,O3] [dg,df,P,O,u,o]) H8 rfl rfl (clo_args mn) ?cv) ?_ ?_
     case cv =>
      show CV Tryz.prog 51 #[pt (aD V) 0,pt (aD W) 0] _ _
      refine cv_of_cw 11 Tryz.func51 rfl Tryz.ntmps51 rfl ?_
      refine cq (cr ?_)
      refine sS 2 (yN [vi 0,vi 0,vi 0] 3 gl K14) ?_
      rintro _ pW ⟨qx,rfl,gm⟩
      refine rn (cq ?_)
      obtain ⟨iq,fa,gk⟩:=bI gk
      refine ra_start (gm.se [0,1,2,3,4,5]).fn (by kernel_rfl) ?_
      have gn:=gm.drew
      have dX:=gn.se [0,1,2,3,4,5]
      refine rq 0 3 rfl dX (fun _ q=>(yz 0 K39 (ST.c q 0)))<|rq 1 4 rfl dX (fun _ q=>(Y_nilCheck (B:=aD Q) (i:=0) rfl rfl))<|rq 2 5 rfl dX (fun _ q=>(yd (aD Q) 0 2 K52 K3))<|rq 3 6 rfl dX (fun _ q=>(yd (aD Q) 0 0 K18 K4))<|rq 4 7 rfl dX (fun _ q=>(yz 1 K7 (ST.c q 1))) ?_
      refine rq 5 8 rfl dX (fun _ q=>(yz 0 K0 (ST.c q 3)))<|rq 6 9 rfl dX (fun _ q=>(yI bP t1 K5 K2 (gi_isSome eN2 rfl (ST.rf q (i:=1) rfl) fa) (getI_nn fa) (getI_ltI fa rfl)))<|rq 7 10 rfl dX (fun _ q=>(ya bP (t1.toNat*3) (D.flatMap eN0) [vi iq.Phase,vi iq.X,vi iq.Z] K6 K2 (ST.rf q (i:=1) rfl) rfl rfl (eN2 iq) (gi_seg eN2 fa))) ?_
      refine rA [8] ?_
      refine rZ 8 rfl (yK 6 3 0 gn K2) ?_ aN
      rintro _ pX ⟨rfl,en⟩
      refine ⟨(en.se [0,1,2,3,4,5]),?_⟩
      refine ra_done (by kernel_rfl) ?_
      refine ct_ ?_
      obtain ⟨rfl,rfl,rfl⟩:=pr3 (sI gk)
      exact ret1 Tryz.results51 (rX K6 K2 (en.c 6)) ⟨rfl,(en.sel [4,5,1,2,0,3] rfl rfl)⟩
     ·rintro _ pY ⟨rfl,fb⟩
      have fb:ST U [] _ [O0,O1,O4,jB,O2,O3] [dg,df,P,O,u,o]:=fb
      refine ⟨(ST.sel fb [4,5,0,1] rfl rfl),?_⟩
      refine rA [4] ?_
      refine rC 26 4 rfl (Yc_func (g:=53) (vs:=[pt (aD Q) 0,.agg dO.toArray,vi s4]) (R:=fun v w'=>∃ (dY:Option Addr) (gp:Nat) (dZ:Option Addr) (gq:Nat) (eo:Option Addr) (ep:Nat),v=.tuple #[]∧Org U [] [u,o] [⟨dY,(aA.flatMap eN0)⟩]∧aA.length≤gp∧Org U [] [u,o] [⟨dZ,(aB.flatMap eN0)⟩]∧aB.length≤gq∧ST U [] w' [O0,O1,⟨aD Q,54,[vi ch,.slice dY aA.length gp,.slice dZ aB.length gq,.slice eo bv.length ep],4⟩,⟨eo,57,(bv.flatMap eN1),ep*3⟩,O2,O3] [⟨dZ,(aB.flatMap eN0)⟩,⟨dY,(aA.flatMap eN0)⟩,dg,df,P,O,u,o]) Mp rfl (mc rfl (mc rfl (mc rfl mn))) ?cv) ?_ ?_
      case cv =>
       show CV Tryz.prog 53 #[pt (aD Q) 0,.agg dO.toArray,vi s4] _ _
       refine cv_of_cw 19 Tryz.func53 rfl Tryz.ntmps53 rfl ?_
       refine cq (cr ?_)
       refine sS 4 (yV dO 3 fb) ?_
       rintro _ pZ ⟨gr,rfl,er⟩
       refine rn (cq (cr ?_))
       refine sQ 6 (yw 0 K6 K2 (er.c 6))<|sQ 7 yv ?_
       obtain ⟨i6,kX,e9⟩:=bI e9
       refine sc 8 rfl rfl (yc K92 (EZ (Aa.mk kU kV kW) s4 _  (er.inn0 [] rfl) kX)) ?_
       rintro _ p0 ⟨rfl,kY⟩
       have cL:=er.out00 kY
       refine rn (cw_block (cq (cr ?_)))
       refine sQ 10 (Y_eq (k:=.u8) (a:=i6) (b:=90) rfl rfl rfl)<|sQ 9 yu (rn ?_)
       refine cw_cond rfl (fun gs=>?_) (fun gs=>?_)
       ·skip
        have gu:=ct e9 gs
        refine cr ?_
        refine sQ 11 yv<|sQ 12 yv ?_
        obtain ⟨b9,kZ,gu⟩:=bI gu
        refine sc 13 rfl rfl (yc K56 (Bq (Ap.mk (Ae.mk af D H) ag) 1 s4 0 (aD Q) bP dd D.length ce de H.length cG cH ag.length _ rfl rfl rfl (cL.inn [false,false,true,true,false,false,false] rfl [(true,1),(true,0)] rfl) kZ)) ?_
        rintro _ p1 ⟨gw,gx,d0,fd,fe,ff,rfl,k0⟩
        have es:=cL.out [false,false,true,true,false,false,false] rfl k0
        refine rn ?_
        let jC:Ro:=⟨gw,(b9.t.XImages.flatMap eN0)⟩
        have k1:Org U [] [u,o] [jC]:=ST.orgOwn es (i:=6) rfl
        have ir:b9.t.XImages.length≤gx:=(es.lencap (i:=6) rfl (fm_lenn (l:=b9.t.XImages) eN2 rfl) rfl rfl)
        let k2:Ob:=⟨aD Q,54,[vi b9.t.Qubits,.slice gw b9.t.XImages.length gx,.slice d0 b9.t.ZImages.length fd,.slice fe b9.gates.length ff],4⟩
        have et:ST U [] _ [O0,O1,O2,O3,⟨aD gr,64,dO,3⟩,k2,⟨d0,64,(b9.t.ZImages.flatMap eN0),fd*3⟩,⟨fe,57,(b9.gates.flatMap eN1),ff*3⟩] [jC,dg,df,P,O,u,o]:=es.freeze (i:=6) rfl
        have k3:Org U [] [u,o] [⟨d0,(b9.t.ZImages.flatMap eN0)⟩]:=ST.orgOwn et (i:=6) rfl
        have it:b9.t.ZImages.length≤fd:=(et.lencap (i:=6) rfl (fm_lenn (l:=b9.t.ZImages) eN2 rfl) rfl rfl)
        have jD:ST U [] _ [O0,O1,O2,O3,⟨aD gr,64,dO,3⟩,k2,⟨fe,57,(b9.gates.flatMap eN1),ff*3⟩] [⟨d0,(b9.t.ZImages.flatMap eN0)⟩,jC,dg,df,P,O,u,o]:=et.freeze (i:=6) rfl
        obtain ⟨rfl,rfl,rfl,rfl⟩:=pr4 (sI gu)
        exact ret0 Tryz.results53  ⟨gw,gx,d0,fd,fe,ff,rfl,k1,(len_le rfl ir),k3,(len_le rfl it),(jD.sel [0,1,5,6,2,3] rfl rfl)⟩
       ·skip
        have i7:=cf' e9 gs
        refine cq (cr ?_)
        refine sQ 15 (Y_eq (k:=.u8) (a:=i6) (b:=89) rfl rfl rfl)<|sQ 14 yu (rn ?_)
        refine cw_cond rfl (fun gy=>?_) (fun gy=>?_)
        ·skip
         have gz:=ct i7 gy
         refine cr ?_
         refine sQ 16 yv<|sQ 17 yv ?_
         obtain ⟨ca,k4,gz⟩:=bI gz
         refine sc 18 rfl rfl (yc K56 (Bq (Ap.mk (Ae.mk af D H) ag) 5 s4 0 (aD Q) bP dd D.length ce de H.length cG cH ag.length _ rfl rfl rfl (cL.inn [false,false,true,true,false,false,false] rfl [(true,1),(true,0)] rfl) k4)) ?_
         rintro _ p2 ⟨gA,gB,d1,fg,fh,fi,rfl,k5⟩
         have eu:=cL.out [false,false,true,true,false,false,false] rfl k5
         refine rn ?_
         let jE:Ro:=⟨gA,(ca.t.XImages.flatMap eN0)⟩
         have k6:Org U [] [u,o] [jE]:=ST.orgOwn eu (i:=6) rfl
         have iu:ca.t.XImages.length≤gB:=(eu.lencap (i:=6) rfl (fm_lenn (l:=ca.t.XImages) eN2 rfl) rfl rfl)
         let k7:Ob:=⟨aD Q,54,[vi ca.t.Qubits,.slice gA ca.t.XImages.length gB,.slice d1 ca.t.ZImages.length fg,.slice fh ca.gates.length fi],4⟩
         have ew:ST U [] _ [O0,O1,O2,O3,⟨aD gr,64,dO,3⟩,k7,⟨d1,64,(ca.t.ZImages.flatMap eN0),fg*3⟩,⟨fh,57,(ca.gates.flatMap eN1),fi*3⟩] [jE,dg,df,P,O,u,o]:=eu.freeze (i:=6) rfl
         have k8:Org U [] [u,o] [⟨d1,(ca.t.ZImages.flatMap eN0)⟩]:=ST.orgOwn ew (i:=6) rfl
         have iv:ca.t.ZImages.length≤fg:=(ew.lencap (i:=6) rfl (fm_lenn (l:=ca.t.ZImages) eN2 rfl) rfl rfl)
         have jF:ST U [] _ [O0,O1,O2,O3,⟨aD gr,64,dO,3⟩,k7,⟨fh,57,(ca.gates.flatMap eN1),fi*3⟩] [⟨d1,(ca.t.ZImages.flatMap eN0)⟩,jE,dg,df,P,O,u,o]:=ew.freeze (i:=6) rfl
         obtain ⟨rfl,rfl,rfl,rfl⟩:=pr4 (sI gz)
         exact ret0 Tryz.results53  ⟨gA,gB,d1,fg,fh,fi,rfl,k6,(len_le rfl iu),k8,(len_le rfl iv),(jF.sel [0,1,5,6,2,3] rfl rfl)⟩
        ·skip
         have k9:=cf' i7 gy
         refine cw_skip ?_
         have jG:ST U [] _ [O0,O1,O4,jB,O2,O3,⟨aD gr,64,dO,3⟩] [dg,df,dg,df,P,O,u,o]:=cL.sT [0,1,0,1,2,3,4,5]
         obtain ⟨rfl,rfl,rfl,rfl⟩:=pr4 (sI k9)
         exact ret0 Tryz.results53  ⟨bP,dd,ce,de,cG,cH,rfl,iZ,(len_le rfl i0),i3,(len_le rfl i4),(jG.sel [0,1,2,3,4,5] rfl rfl)⟩
      ·rintro _ p3 ⟨dY,gp,dZ,gq,eo,ep,rfl,la,lb,ld,lf,fj⟩
       let lg:Ob:=⟨aD Q,54,[vi ch,.slice dY aA.length gp,.slice dZ aB.length gq,.slice eo bv.length ep],4⟩
       have fj:ST U [] _ [O0,O1,lg,⟨eo,57,(bv.flatMap eN1),ep*3⟩,O2,O3] [⟨dZ,(aB.flatMap eN0)⟩,⟨dY,(aA.flatMap eN0)⟩,dg,df,P,O,u,o]:=fj
       refine ⟨((ST.sel fj [4,5,0,1] rfl rfl).sT [2,3,4,5,6,7]),?_⟩
       refine ra_done (by kernel_rfl) ?_
       refine cr ?_
       refine sQ 20 (yv rfl (bd.g 6 4))<|sQ 21 zP<|sQ 6 yu (rn ?_)
       obtain rfl:=sI dW
       have jH:ST U [] _ [O0,O1,lg,⟨eo,57,(bv.flatMap eN1),ep*3⟩,O2,O3] [⟨dZ,(aB.flatMap eN0)⟩,⟨dY,(aA.flatMap eN0)⟩,P,O,u,o]:=fj.sT [0,1,4,5,6,7]
       exact ⟨kT,Nat.lt_succ_self _,ch,aA,aB,bv,(i64.wrap (s4+1)),dY,gp,dZ,gq,eo,ep,(bd.a 2 0 (bd.a 3 1 (bd.a 4 2 (bd.a 5 3 (fc rfl fn_))))),la,(len_le rfl lb),ld,(len_le rfl lf),(jH.sel [4,2,3,5,0,1] rfl rfl),i5⟩
      exact aN
     exact aN
    ·skip
     have lh:=cf' gi gj
     refine cw_exit rfl ?_
     obtain rfl:=sI lh
     obtain rfl:=sI i5
     refine cq (cr ?_)
     refine sQ 27 (yz 0 K0 (cg.c 3) rfl (bd.g 3 1))<|sQ 7 yu (rn (cq ?_))
     obtain ⟨li,lj,lk⟩:=bI kR
     let O6:Ob:=⟨aD Q,54,[vi af,.slice bP D.length dd,.slice ce H.length de,.slice cG ag.length cH],4⟩
     let gC:Ob:=⟨cG,57,(ag.flatMap eN1),cH*3⟩
     let aa:Ro:=⟨bP,(D.flatMap eN0)⟩
     let ab:Ro:=⟨ce,(H.flatMap eN0)⟩
     refine cw_mid (fun f w=>∃ (bV:Int),.inl bV=li∧FF f [(2,pt (aD V) 0),(3,pt (aD W) 0),(4,.func (.func 51) #[] #[pt (aD V) 0,pt (aD W) 0]),(5,.func (.func 52) #[] #[pt (aD V) 0,pt (aD W) 0]),(7,vi bV)]∧ST U [] w [O2,O6,gC,O3,O0,O1] [ab,aa,P,O,u,o]) ?_ ?_
     ·skip
      refine cw_block ?_
      refine cw_loop (fun k f w=>∃ (a5:Int),FF f [(2,pt (aD V) 0),(3,pt (aD W) 0),(4,.func (.func 51) #[] #[pt (aD V) 0,pt (aD W) 0]),(5,.func (.func 52) #[] #[pt (aD V) 0,pt (aD W) 0]),(7,vi a5)]∧ST U [] w [O2,O6,gC,O3,O0,O1] [ab,aa,P,O,u,o]∧whX (CX af D t1) k a5=some li) fuel ⟨t1,(bd.a 2 0 (bd.a 3 1 (bd.a 4 2 (bd.a 5 3 (fc rfl fn_))))),(cg.sel [0,1,2,3,4,5] rfl rfl),lj⟩ ?_
      rintro p4 f w ⟨a5,aT,dP,lm⟩
      obtain ⟨K114,y7,rfl,gD,gE⟩:=whX_go lm
      unfold CX at gD
      refine cq (cq (cr ?_))
      refine sQ 28 (yv rfl (aT.g 7 4))<|sQ 29 (yz 0 K39 (dP.c 0) rfl (aT.g 2 0))<|sQ 30 (Y_nilCheck (B:=aD Q) (i:=0) rfl rfl)<|sQ 31 (yd (aD Q) 0 2 K52 K3)<|sQ 32 (yd (aD Q) 0 0 K22 K1)<|sQ 33 (yz 0 K0 (dP.c 1)) ?_
      refine sQ 34 zM<|sQ 35 zL<|sQ 36 yv ?_
      refine sgq 37 rfl rfl (uT_ 36) (fun qy=>(yv rfl (aT.g 4 2))) ?_
      refine rw_split (B:=(decide (a5<(i64.wrap (af-1))))) (fun bu=>?_) (fun bu=>?_)
      ·skip
       have di:=ct gD bu
       obtain ⟨⟨ln,lp,lq⟩,gF,di⟩:=bI di
       refine scg 38 rfl rfl (uT_ 36) bu (Yc_clos (g:=51) (vs:=[pt (aD V) 0,pt (aD W) 0]) (R:=fun v w'=>v=.agg #[vi ln,vi lp,vi lq]∧ST U [] w' [O0,O1,O6,gC,O2,O3] [ab,aa,P,O,u,o]) H8 rfl (gv_of bu) (clo_args mn) ?cv) ?_
       case cv =>
        show CV Tryz.prog 51 #[pt (aD V) 0,pt (aD W) 0] _ _
        refine cv_of_cw 11 Tryz.func51 rfl Tryz.ntmps51 rfl ?_
        refine cq (cr ?_)
        refine sS 2 (yN [vi 0,vi 0,vi 0] 3 dP K14) ?_
        rintro _ p5 ⟨qz,rfl,gG⟩
        refine rn (cq ?_)
        obtain ⟨iw,fk,gF⟩:=bI gF
        refine ra_start (gG.se [0,1,2,3,4,5]).fn (by kernel_rfl) ?_
        have gH:=gG.drew
        have d2:=gH.se [0,1,2,3,4,5]
        refine rq 0 3 rfl d2 (fun _ q=>(yz 0 K39 (ST.c q 0)))<|rq 1 4 rfl d2 (fun _ q=>(Y_nilCheck (B:=aD Q) (i:=0) rfl rfl))<|rq 2 5 rfl d2 (fun _ q=>(yd (aD Q) 0 2 K52 K3))<|rq 3 6 rfl d2 (fun _ q=>(yd (aD Q) 0 0 K18 K4))<|rq 4 7 rfl d2 (fun _ q=>(yz 1 K7 (ST.c q 1))) ?_
        refine rq 5 8 rfl d2 (fun _ q=>(yz 0 K0 (ST.c q 3)))<|rq 6 9 rfl d2 (fun _ q=>(yI bP t1 K5 K2 (gi_isSome eN2 rfl (ST.rf q (i:=1) rfl) fk) (getI_nn fk) (getI_ltI fk rfl)))<|rq 7 10 rfl d2 (fun _ q=>(ya bP (t1.toNat*3) (D.flatMap eN0) [vi iw.Phase,vi iw.X,vi iw.Z] K6 K2 (ST.rf q (i:=1) rfl) rfl rfl (eN2 iw) (gi_seg eN2 fk))) ?_
        refine rA [8] ?_
        refine rZ 8 rfl (yK 6 3 0 gH K2) ?_ aN
        rintro _ p6 ⟨rfl,ex⟩
        refine ⟨(ex.se [0,1,2,3,4,5]),?_⟩
        refine ra_done (by kernel_rfl) ?_
        refine ct_ ?_
        obtain ⟨rfl,rfl,rfl⟩:=pr3 (sI gF)
        exact ret1 Tryz.results51 (rX K6 K2 (ex.c 6)) ⟨rfl,(ex.sel [4,5,1,2,0,3] rfl rfl)⟩
       rintro _ p7 ⟨rfl,fm⟩
       have fm:ST U [] _ [O0,O1,O6,gC,O2,O3] [ab,aa,P,O,u,o]:=fm
       refine sqg 39 rfl rfl (uT_ 36) bu (yv rfl (aT.g 7 4)) ?_
       obtain ⟨lr,ls,di⟩:=bI di
       refine scg 40 rfl rfl (uT_ 36) bu (yc K92 (EZ (Aa.mk ln lp lq) a5 _  (fm.inn0 [] rfl) ls)) ?_
       rintro _ p8 ⟨rfl,lu⟩
       have gJ:=fm.out00 lu
       refine sqg 41 rfl rfl (uT_ 36) bu (Y_ne rfl rfl rfl) ?_
       refine sQ 42 (Y_pickT (b:=(decide (a5<(i64.wrap (af-1))))) (v:=.bool (lr != 88)) rfl rfl bu rfl) (rn ?_)
       refine cw_cond rfl (fun gM=>?_) (fun gM=>?_)
       ·skip
        have lv:=ct di gM
        refine cw_skip (cw_block (cr ?_))
        refine sQ 43 (yv rfl (aT.g 7 4))<|sQ 44 zP<|sQ 7 yu (rn ?_)
        obtain rfl:=sI lv
        exact ⟨K114,Nat.lt_succ_self _,(i64.wrap (a5+1)),(aT.a 2 0 (aT.a 3 1 (aT.a 4 2 (aT.a 5 3 (fc rfl fn_))))),(gJ.sel [4,2,3,5,0,1] rfl rfl),gE⟩
       ·skip
        have lw:=cf' di gM
        refine cw_exit rfl ?_
        obtain rfl:=sI lw
        exact ⟨a5,(sI gE),(aT.a 2 0 (aT.a 3 1 (aT.a 4 2 (aT.a 5 3 (aT.a 7 4 fn_))))),(gJ.sel [4,2,3,5,0,1] rfl rfl)⟩
      ·skip
       have lx:=cf' gD bu
       refine sgn 38 rfl rfl (uT_ 36) bu ?_
       refine sgn 39 rfl rfl (uT_ 36) bu ?_
       refine sgn 40 rfl rfl (uT_ 36) bu ?_
       refine sgn 41 rfl rfl (uT_ 36) bu ?_
       refine sQ 42 (Y_pickF (b:=(decide (a5<(i64.wrap (af-1))))) (v:=.bool false) rfl rfl bu rfl) (rn ?_)
       refine cw_cond rfl (fun h=>by cases h) (fun _=>?_)
       refine cw_exit rfl ?_
       obtain rfl:=sI lx
       exact ⟨a5,(sI gE),(aT.a 2 0 (aT.a 3 1 (aT.a 4 2 (aT.a 5 3 (aT.a 7 4 fn_))))),(dP.sel [0,1,2,3,4,5] rfl rfl)⟩
     rintro f w ⟨bV,rfl,aU,ci⟩
     refine cq ?_
     obtain ⟨oH,i8,gN⟩:=bI lk
     refine cw_mid (fun f w=>∃ (bw:Int) (aq:List Aa) (ar:List Aa) (be:List Ab) (cM:Option Addr) (d3:Nat) (cN:Option Addr) (d4:Nat) (dj:Option Addr) (dk:Nat),(bw,aq,ar,be)=oH∧FF f [(2,pt (aD V) 0),(3,pt (aD W) 0),(4,.func (.func 51) #[] #[pt (aD V) 0,pt (aD W) 0]),(5,.func (.func 52) #[] #[pt (aD V) 0,pt (aD W) 0])]∧Org U [] [u,o] [⟨cM,(aq.flatMap eN0)⟩]∧aq.length≤d3∧Org U [] [u,o] [⟨cN,(ar.flatMap eN0)⟩]∧ar.length≤d4∧ST U [] w [O2,⟨aD Q,54,[vi bw,.slice cM aq.length d3,.slice cN ar.length d4,.slice dj be.length dk],4⟩,⟨dj,57,(be.flatMap eN1),dk*3⟩,O3,O0,O1] [⟨cN,(ar.flatMap eN0)⟩,⟨cM,(aq.flatMap eN0)⟩,ab,aa,P,O,u,o]) ?_ ?_
     ·skip
      refine cq (cr ?_)
      refine sQ 45 (yv rfl (aU.g 7 4))<|sQ 46 (yz 0 K0 (ci.c 3) rfl (aU.g 3 1))<|sQ 47 (Y_ne rfl rfl rfl) (rn ?_)
      refine cw_cond rfl (fun gO=>?_) (fun gO=>?_)
      ·skip
       have cO:=ct i8 gO
       refine cq (cr ?_)
       refine sQ 48 (yz 0 K39 (ci.c 0) rfl (aU.g 2 0))<|sQ 49 (yv rfl (aU.g 7 4))<|sQ 50 (yz 0 K0 (ci.c 3) rfl (aU.g 3 1)) ?_
       obtain ⟨d5,ly,cO⟩:=bI cO
       refine sc 51 rfl rfl (yc K56 (Bq (Ap.mk (Ae.mk af D H) ag) 9 bV t1 (aD Q) bP dd D.length ce de H.length cG cH ag.length _ rfl rfl rfl (ci.inn [false,true,true,false,false,false] rfl [(true,1),(true,0)] rfl) ly)) ?_
       rintro _ p9 ⟨gP,gQ,gR,gS,lz,lA,rfl,lC⟩
       have dQ:=ci.out [false,true,true,false,false,false] rfl lC
       refine rn (cq (cr ?_))
       refine sQ 52 (yz 0 K39 (dQ.c 0) rfl (aU.g 2 0))<|sQ 53 (yz 0 K0 (dQ.c 1) rfl (aU.g 3 1))<|sQ 54 (yv rfl (aU.g 7 4)) ?_
       obtain ⟨d6,lD,cO⟩:=bI cO
       refine sc 55 rfl rfl (yc K56 (Bq d5 9 t1 bV (aD Q) gP gQ d5.t.XImages.length gR gS d5.t.ZImages.length lz lA d5.gates.length _ rfl rfl rfl (dQ.inn [false,false,false,false,true,false,false,true] rfl [(false,4),(false,5)] rfl) lD)) ?_
       rintro _ qa ⟨gT,gU,gV,gW,lE,lF,rfl,lG⟩
       have dS:=dQ.out [false,false,false,false,true,false,false,true] rfl lG
       refine rn (cr ?_)
       refine sQ 56 (yz 0 K39 (dS.c 0) rfl (aU.g 2 0))<|sQ 57 (yv rfl (aU.g 7 4))<|sQ 58 (yz 0 K0 (dS.c 1) rfl (aU.g 3 1)) ?_
       obtain ⟨bL,lI,cO⟩:=bI cO
       refine sc 59 rfl rfl (yc K56 (Bq d6 9 bV t1 (aD Q) gT gU d6.t.XImages.length gV gW d6.t.ZImages.length lE lF d6.gates.length _ rfl rfl rfl (dS.inn [false,false,false,false,false,false,true,false,false,true] rfl [(false,6),(false,7)] rfl) lI)) ?_
       rintro _ qb ⟨gX,gY,d7,fo,fp,fq,rfl,lJ⟩
       have ey:=dS.out [false,false,false,false,false,false,true,false,false,true] rfl lJ
       refine rn ?_
       let jI:Ro:=⟨gX,(bL.t.XImages.flatMap eN0)⟩
       have lK:Org U [] [u,o] [jI]:=ST.orgOwn ey (i:=9) rfl
       have iy:bL.t.XImages.length≤gY:=(ey.lencap (i:=9) rfl (fm_lenn (l:=bL.t.XImages) eN2 rfl) rfl rfl)
       let lL:Ob:=⟨aD Q,54,[vi bL.t.Qubits,.slice gX bL.t.XImages.length gY,.slice d7 bL.t.ZImages.length fo,.slice fp bL.gates.length fq],4⟩
       have ez:ST U [] _ [O2,O3,O0,O1,⟨gP,64,(d5.t.XImages.flatMap eN0),gQ*3⟩,⟨gR,64,(d5.t.ZImages.flatMap eN0),gS*3⟩,⟨gT,64,(d6.t.XImages.flatMap eN0),gU*3⟩,⟨gV,64,(d6.t.ZImages.flatMap eN0),gW*3⟩,lL,⟨d7,64,(bL.t.ZImages.flatMap eN0),fo*3⟩,⟨fp,57,(bL.gates.flatMap eN1),fq*3⟩] [jI,ab,aa,P,O,u,o]:=ey.freeze (i:=9) rfl
       have lM:Org U [] [u,o] [⟨d7,(bL.t.ZImages.flatMap eN0)⟩]:=ST.orgOwn ez (i:=9) rfl
       have iz:bL.t.ZImages.length≤fo:=(ez.lencap (i:=9) rfl (fm_lenn (l:=bL.t.ZImages) eN2 rfl) rfl rfl)
       have jJ:ST U [] _ [O2,O3,O0,O1,⟨gP,64,(d5.t.XImages.flatMap eN0),gQ*3⟩,⟨gR,64,(d5.t.ZImages.flatMap eN0),gS*3⟩,⟨gT,64,(d6.t.XImages.flatMap eN0),gU*3⟩,⟨gV,64,(d6.t.ZImages.flatMap eN0),gW*3⟩,lL,⟨fp,57,(bL.gates.flatMap eN1),fq*3⟩] [⟨d7,(bL.t.ZImages.flatMap eN0)⟩,jI,ab,aa,P,O,u,o]:=ez.freeze (i:=9) rfl
       exact ⟨bL.t.Qubits,bL.t.XImages,bL.t.ZImages,bL.gates,gX,gY,d7,fo,fp,fq,(sI cO),(aU.a 2 0 (aU.a 3 1 (aU.a 4 2 (aU.a 5 3 fn_)))),lK,(len_le rfl iy),lM,(len_le rfl iz),(jJ.sel [0,8,9,1,2,3] rfl rfl)⟩
      ·skip
       have lN:=cf' i8 gO
       refine cw_skip ?_
       have jK:ST U [] _ [O2,O6,gC,O3,O0,O1] [ab,aa,ab,aa,P,O,u,o]:=ci.sT [0,1,0,1,2,3,4,5]
       exact ⟨af,D,H,ag,bP,dd,ce,de,cG,cH,(sI lN),(aU.a 2 0 (aU.a 3 1 (aU.a 4 2 (aU.a 5 3 fn_)))),iZ,(len_le rfl i0),i3,(len_le rfl i4),(jK.sel [0,1,2,3,4,5] rfl rfl)⟩
     rintro f w ⟨bw,aq,ar,be,cM,d3,cN,d4,dj,dk,rfl,a7,lO,lP,lQ,lR,eA⟩
     refine cq (cr ?_)
     refine sQ 60 (yz 0 K39 (eA.c 0) rfl (a7.g 2 0))<|sQ 61 (yz 0 K0 (eA.c 3) rfl (a7.g 3 1))<|sQ 62 (yv rfl (a7.g 4 2)) ?_
     obtain ⟨⟨bW,au,al,bf⟩,lS,gN⟩:=bI gN
     let am:Ro:=⟨cM,(aq.flatMap eN0)⟩
     let an:Ro:=⟨cN,(ar.flatMap eN0)⟩
     refine sc 63 rfl rfl (Yc_func (g:=56) (vs:=[pt (aD Q) 0,vi t1,.func (.func 51) #[] #[pt (aD V) 0,pt (aD W) 0]]) (R:=fun v w'=>∃ (co:Option Addr) (dl:Nat) (bZ:Option Addr) (dm:Nat) (cP:Option Addr) (cQ:Nat),v=.tuple #[]∧Org U [] [u,o] [⟨co,(au.flatMap eN0)⟩]∧au.length≤dl∧Org U [] [u,o] [⟨bZ,(al.flatMap eN0)⟩]∧al.length≤dm∧ST U [] w' [O0,O1,⟨aD Q,54,[vi bW,.slice co au.length dl,.slice bZ al.length dm,.slice cP bf.length cQ],4⟩,⟨cP,57,(bf.flatMap eN1),cQ*3⟩,O2,O3] [⟨bZ,(al.flatMap eN0)⟩,⟨co,(au.flatMap eN0)⟩,an,am,ab,aa,P,O,u,o]) Kl rfl (mc rfl (mc rfl (mc rfl mn))) ?cv) ?_
     case cv =>
      show CV Tryz.prog 56 #[pt (aD Q) 0,vi t1,.func (.func 51) #[] #[pt (aD V) 0,pt (aD W) 0]] _ _
      refine cv_of_cw 27 Tryz.func56 rfl Tryz.ntmps56 rfl ?_
      refine cq (cr ?_)
      refine sQ 7 yv<|sQ 8 zP<|sQ 6 yu (rn ?_)
      obtain ⟨oI,lT,lU⟩:=bI lS
      have jL:ST U [] _ [O2,⟨aD Q,54,[vi bw,.slice cM aq.length d3,.slice cN ar.length d4,.slice dj be.length dk],4⟩,⟨dj,57,(be.flatMap eN1),dk*3⟩,O3,O0,O1] [an,am,an,am,ab,aa,P,O,u,o]:=eA.sT [0,1,0,1,2,3,4,5,6,7]
      refine cw_block ?_
      refine cw_loop (fun k f w=>∃ (ba:Int) (ac:List Aa) (ah:List Aa) (aV:List Ab) (s6:Int) (bQ:Option Addr) (cR:Nat) (cb:Option Addr) (cS:Nat) (cp:Option Addr) (cu:Nat),FF f [(0,pt (aD Q) 0),(1,vi t1),(2,.func (.func 51) #[] #[pt (aD V) 0,pt (aD W) 0]),(6,vi s6)]∧Org U [] [u,o] [⟨bQ,(ac.flatMap eN0)⟩]∧ac.length≤cR∧Org U [] [u,o] [⟨cb,(ah.flatMap eN0)⟩]∧ah.length≤cS∧ST U [] w [⟨aD Q,54,[vi ba,.slice bQ ac.length cR,.slice cb ah.length cS,.slice cp aV.length cu],4⟩,⟨cp,57,(aV.flatMap eN1),cu*3⟩,O2,O3,O0,O1] [⟨cb,(ah.flatMap eN0)⟩,⟨bQ,(ac.flatMap eN0)⟩,an,am,ab,aa,P,O,u,o]∧whX (Ee t1) k (ba,ac,ah,aV,s6)=some oI) fuel ⟨bw,aq,ar,be,(i64.wrap (t1+1)),cM,d3,cN,d4,dj,dk,(fc rfl (fc rfl (fc rfl (fc rfl fn_)))),lO,(len_le rfl lP),lQ,(len_le rfl lR),(jL.sel [1,2,0,3,4,5] rfl rfl),lT⟩ ?_
      rintro qc f w ⟨ba,ac,ah,aV,s6,bQ,cR,cb,cS,cp,cu,bg,i9,ja,jb,jc,eB,lV⟩
      obtain ⟨lW,y9,rfl,gZ,jd⟩:=whX_go lV
      unfold Ee at gZ
      refine cq (cq (cr ?_))
      refine sQ 9 (yv rfl (bg.g 6 3))<|sQ 10 (yv rfl (bg.g 0 0))<|sQ 11 (Y_nilCheck (B:=aD Q) (i:=0) rfl rfl)<|sQ 12 (yd (aD Q) 0 2 K52 K3)<|sQ 13 (yd (aD Q) 0 0 K22 K1)<|sQ 14 (yz 0 K0 (eB.c 0)) ?_
      refine sQ 15 zL (rn ?_)
      refine cw_cond rfl (fun g0=>?_) (fun g0=>?_)
      ·skip
       have lX:=ct gZ g0
       refine cw_skip (cq ?_)
       obtain ⟨oJ,dn,lY⟩:=bI lX
       let eC:Ro:=⟨bQ,(ac.flatMap eN0)⟩
       let eD:Ro:=⟨cb,(ah.flatMap eN0)⟩
       refine cw_mid (fun f w=>∃ (bA:Int) (av:List Aa) (aw:List Aa) (bh:List Ab) (cT:Option Addr) (d8:Nat) (cU:Option Addr) (d9:Nat) (dp:Option Addr) (dq:Nat),(bA,av,aw,bh)=oJ∧FF f [(0,pt (aD Q) 0),(1,vi t1),(2,.func (.func 51) #[] #[pt (aD V) 0,pt (aD W) 0]),(6,vi s6)]∧Org U [] [u,o] [⟨cT,(av.flatMap eN0)⟩]∧av.length≤d8∧Org U [] [u,o] [⟨cU,(aw.flatMap eN0)⟩]∧aw.length≤d9∧ST U [] w [⟨aD Q,54,[vi bA,.slice cT av.length d8,.slice cU aw.length d9,.slice dp bh.length dq],4⟩,⟨dp,57,(bh.flatMap eN1),dq*3⟩,O2,O3,O0,O1] [⟨cU,(aw.flatMap eN0)⟩,⟨cT,(av.flatMap eN0)⟩,eD,eC,an,am,ab,aa,P,O,u,o]) ?_ ?_
       ·skip
        refine cw_block (cq (cr ?_))
        refine sQ 18 (yv rfl (bg.g 2 2)) ?_
        obtain ⟨⟨lZ,l0,l1⟩,g1,dn⟩:=bI dn
        let O8:Ob:=⟨aD Q,54,[vi ba,.slice bQ ac.length cR,.slice cb ah.length cS,.slice cp aV.length cu],4⟩
        let jN:Ob:=⟨cp,57,(aV.flatMap eN1),cu*3⟩
        refine sc 19 rfl rfl (Yc_clos (g:=51) (vs:=[pt (aD V) 0,pt (aD W) 0]) (R:=fun v w'=>v=.agg #[vi lZ,vi l0,vi l1]∧ST U [] w' [O0,O1,O8,jN,O2,O3] [eD,eC,an,am,ab,aa,P,O,u,o]) H8 rfl rfl (clo_args mn) ?cv) ?_
        case cv =>
         show CV Tryz.prog 51 #[pt (aD V) 0,pt (aD W) 0] _ _
         refine cv_of_cw 11 Tryz.func51 rfl Tryz.ntmps51 rfl ?_
         refine cq (cr ?_)
         refine sS 2 (yN [vi 0,vi 0,vi 0] 3 eB K14) ?_
         rintro _ qd ⟨qA,rfl,g2⟩
         refine rn (cq ?_)
         obtain ⟨iA,fr,g1⟩:=bI g1
         refine ra_start (g2.se [0,1,2,3,4,5]).fn (by kernel_rfl) ?_
         have g3:=g2.drew
         have ea:=g3.se [0,1,2,3,4,5]
         refine rq 0 3 rfl ea (fun _ q=>(yz 0 K39 (ST.c q 2)))<|rq 1 4 rfl ea (fun _ q=>(Y_nilCheck (B:=aD Q) (i:=0) rfl rfl))<|rq 2 5 rfl ea (fun _ q=>(yd (aD Q) 0 2 K52 K3))<|rq 3 6 rfl ea (fun _ q=>(yd (aD Q) 0 0 K18 K4))<|rq 4 7 rfl ea (fun _ q=>(yz 1 K7 (ST.c q 0))) ?_
         refine rq 5 8 rfl ea (fun _ q=>(yz 0 K0 (ST.c q 3)))<|rq 6 9 rfl ea (fun _ q=>(yI bQ t1 K5 K2 (gi_isSome eN2 rfl (ST.rf q (i:=1) rfl) fr) (getI_nn fr) (getI_ltI fr rfl)))<|rq 7 10 rfl ea (fun _ q=>(ya bQ (t1.toNat*3) (ac.flatMap eN0) [vi iA.Phase,vi iA.X,vi iA.Z] K6 K2 (ST.rf q (i:=1) rfl) rfl rfl (eN2 iA) (gi_seg eN2 fr))) ?_
         refine rA [8] ?_
         refine rZ 8 rfl (yK 6 3 0 g3 K2) ?_ aN
         rintro _ qe ⟨rfl,eE⟩
         refine ⟨(eE.se [0,1,2,3,4,5]),?_⟩
         refine ra_done (by kernel_rfl) ?_
         refine ct_ ?_
         obtain ⟨rfl,rfl,rfl⟩:=pr3 (sI g1)
         exact ret1 Tryz.results51 (rX K6 K2 (eE.c 6)) ⟨rfl,(eE.sel [4,5,0,1,2,3] rfl rfl)⟩
        rintro _ qf ⟨rfl,fs⟩
        have fs:ST U [] _ [O0,O1,O8,jN,O2,O3] [eD,eC,an,am,ab,aa,P,O,u,o]:=fs
        refine sQ 20 (yv rfl (bg.g 6 3)) ?_
        obtain ⟨l2,l3,dn⟩:=bI dn
        refine sc 21 rfl rfl (yc K92 (EZ (Aa.mk lZ l0 l1) s6 _  (fs.inn0 [] rfl) l3)) ?_
        rintro _ qg ⟨rfl,l4⟩
        have eF:=fs.out00 l4
        refine sQ 22 (Y_eq (k:=.u8) (a:=l2) (b:=88) rfl rfl rfl) (rn ?_)
        refine cw_cond rfl (fun g4=>?_) (fun g4=>?_)
        ·skip
         have g5:=ct dn g4
         refine cr ?_
         refine sQ 23 (yv rfl (bg.g 0 0))<|sQ 24 (yv rfl (bg.g 1 1))<|sQ 25 (yv rfl (bg.g 6 3)) ?_
         obtain ⟨bM,l5,g5⟩:=bI g5
         refine sc 26 rfl rfl (yc K56 (Bq (Ap.mk (Ae.mk ba ac ah) aV) 9 t1 s6 (aD Q) bQ cR ac.length cb cS ah.length cp cu aV.length _ rfl rfl rfl (eF.inn [false,false,true,true,false,false] rfl [(true,1),(true,0)] rfl) l5)) ?_
         rintro _ oL ⟨g6,g7,eb,ft,fu,fv,rfl,l6⟩
         have eG:=eF.out [false,false,true,true,false,false] rfl l6
         refine rn ?_
         let jO:Ro:=⟨g6,(bM.t.XImages.flatMap eN0)⟩
         have l7:Org U [] [u,o] [jO]:=ST.orgOwn eG (i:=5) rfl
         have iB:bM.t.XImages.length≤g7:=(eG.lencap (i:=5) rfl (fm_lenn (l:=bM.t.XImages) eN2 rfl) rfl rfl)
         let l8:Ob:=⟨aD Q,54,[vi bM.t.Qubits,.slice g6 bM.t.XImages.length g7,.slice eb bM.t.ZImages.length ft,.slice fu bM.gates.length fv],4⟩
         have eH:ST U [] _ [O0,O1,O2,O3,l8,⟨eb,64,(bM.t.ZImages.flatMap eN0),ft*3⟩,⟨fu,57,(bM.gates.flatMap eN1),fv*3⟩] [jO,eD,eC,an,am,ab,aa,P,O,u,o]:=eG.freeze (i:=5) rfl
         have l9:Org U [] [u,o] [⟨eb,(bM.t.ZImages.flatMap eN0)⟩]:=ST.orgOwn eH (i:=5) rfl
         have iC:bM.t.ZImages.length≤ft:=(eH.lencap (i:=5) rfl (fm_lenn (l:=bM.t.ZImages) eN2 rfl) rfl rfl)
         have jP:ST U [] _ [O0,O1,O2,O3,l8,⟨fu,57,(bM.gates.flatMap eN1),fv*3⟩] [⟨eb,(bM.t.ZImages.flatMap eN0)⟩,jO,eD,eC,an,am,ab,aa,P,O,u,o]:=eH.freeze (i:=5) rfl
         exact ⟨bM.t.Qubits,bM.t.XImages,bM.t.ZImages,bM.gates,g6,g7,eb,ft,fu,fv,(sI g5),(bg.a 0 0 (bg.a 1 1 (bg.a 2 2 (bg.a 6 3 fn_)))),l7,(len_le rfl iB),l9,(len_le rfl iC),(jP.sel [4,5,2,3,0,1] rfl rfl)⟩
        ·skip
         have ma:=cf' dn g4
         refine cw_skip ?_
         have jQ:ST U [] _ [O0,O1,O8,jN,O2,O3] [eD,eC,eD,eC,an,am,ab,aa,P,O,u,o]:=eF.sT [0,1,0,1,2,3,4,5,6,7,8,9]
         exact ⟨ba,ac,ah,aV,bQ,cR,cb,cS,cp,cu,(sI ma),(bg.a 0 0 (bg.a 1 1 (bg.a 2 2 (bg.a 6 3 fn_)))),i9,(len_le rfl ja),jb,(len_le rfl jc),(jQ.sel [2,3,4,5,0,1] rfl rfl)⟩
       rintro f w ⟨bA,av,aw,bh,cT,d8,cU,d9,dp,dq,rfl,fw,mb,md,me,mf,jR⟩
       refine cr ?_
       refine sQ 16 (yv rfl (fw.g 6 3))<|sQ 17 zP<|sQ 6 yu (rn ?_)
       obtain rfl:=sI lY
       have jS:ST U [] _ [⟨aD Q,54,[vi bA,.slice cT av.length d8,.slice cU aw.length d9,.slice dp bh.length dq],4⟩,⟨dp,57,(bh.flatMap eN1),dq*3⟩,O2,O3,O0,O1] [⟨cU,(aw.flatMap eN0)⟩,⟨cT,(av.flatMap eN0)⟩,an,am,ab,aa,P,O,u,o]:=jR.sT [0,1,4,5,6,7,8,9,10,11]
       exact ⟨lW,Nat.lt_succ_self _,bA,av,aw,bh,(i64.wrap (s6+1)),cT,d8,cU,d9,dp,dq,(fw.a 0 0 (fw.a 1 1 (fw.a 2 2 (fc rfl fn_)))),mb,(len_le rfl md),me,(len_le rfl mf),(jS.sel [0,1,2,3,4,5] rfl rfl),jd⟩
      ·skip
       have mg:=cf' gZ g0
       refine cw_exit rfl ?_
       obtain rfl:=sI mg
       obtain rfl:=sI jd
       obtain ⟨rfl,rfl,rfl,rfl⟩:=pr4 (sI lU)
       exact ret0 Tryz.results56  ⟨bQ,cR,cb,cS,cp,cu,rfl,i9,(len_le rfl ja),jb,(len_le rfl jc),(eB.sel [4,5,0,1,2,3] rfl rfl)⟩
     rintro _ qh ⟨co,dl,bZ,dm,cP,cQ,rfl,mh,mi,mj,ml,g8⟩
     let O7:Ob:=⟨aD Q,54,[vi bW,.slice co au.length dl,.slice bZ al.length dm,.slice cP bf.length cQ],4⟩
     let iD:Ob:=⟨cP,57,(bf.flatMap eN1),cQ*3⟩
     let aK:Ro:=⟨co,(au.flatMap eN0)⟩
     let aL:Ro:=⟨bZ,(al.flatMap eN0)⟩
     have g8:ST U [] _ [O0,O1,O7,iD,O2,O3] [aL,aK,an,am,ab,aa,P,O,u,o]:=g8
     refine rn (cq ?_)
     obtain ⟨oM,dr,mm⟩:=bI gN
     refine cw_mid (fun f w=>∃ (bb:Int) (ae:List Aa) (ai:List Aa) (aY:List Ab) (b0:Option Addr) (ds:Nat) (cw:Option Addr) (dt:Nat) (cV:Option Addr) (cW:Nat),(bb,ae,ai,aY)=oM∧FF f [(2,pt (aD V) 0),(3,pt (aD W) 0),(4,.func (.func 51) #[] #[pt (aD V) 0,pt (aD W) 0]),(5,.func (.func 52) #[] #[pt (aD V) 0,pt (aD W) 0])]∧Org U [] [u,o] [⟨b0,(ae.flatMap eN0)⟩]∧ae.length≤ds∧Org U [] [u,o] [⟨cw,(ai.flatMap eN0)⟩]∧ai.length≤dt∧ST U [] w [O2,⟨aD Q,54,[vi bb,.slice b0 ae.length ds,.slice cw ai.length dt,.slice cV aY.length cW],4⟩,⟨cV,57,(aY.flatMap eN1),cW*3⟩,O3,O0,O1] [⟨cw,(ai.flatMap eN0)⟩,⟨b0,(ae.flatMap eN0)⟩,aL,aK,an,am,ab,aa,P,O,u,o]) ?_ ?_
     ·skip
      refine cq (cr ?_)
      refine sQ 64 (yv rfl (a7.g 5 3)) ?_
      obtain ⟨⟨mo,mp,mq⟩,g9,dr⟩:=bI dr
      refine sc 65 rfl rfl (Yc_clos (g:=52) (vs:=[pt (aD V) 0,pt (aD W) 0]) (R:=fun v w'=>v=.agg #[vi mo,vi mp,vi mq]∧ST U [] w' [O0,O1,O7,iD,O2,O3] [aL,aK,an,am,ab,aa,P,O,u,o]) Gh rfl rfl (clo_args mn) ?cv) ?_
      case cv =>
       show CV Tryz.prog 52 #[pt (aD V) 0,pt (aD W) 0] _ _
       refine cv_of_cw 11 Tryz.func52 rfl Tryz.ntmps52 rfl ?_
       refine cq (cr ?_)
       refine sS 2 (yN [vi 0,vi 0,vi 0] 3 g8 K14) ?_
       rintro _ oN ⟨qB,rfl,he⟩
       refine rn (cq ?_)
       obtain ⟨iE,fx,g9⟩:=bI g9
       refine ra_start (he.se [0,1,2,3,4,5]).fn (by kernel_rfl) ?_
       have hg:=he.drew
       have ec:=hg.se [0,1,2,3,4,5]
       refine rq 0 3 rfl ec (fun _ q=>(yz 0 K39 (ST.c q 4)))<|rq 1 4 rfl ec (fun _ q=>(Y_nilCheck (B:=aD Q) (i:=0) rfl rfl))<|rq 2 5 rfl ec (fun _ q=>(yd (aD Q) 0 2 K52 K3))<|rq 3 6 rfl ec (fun _ q=>(yd (aD Q) 0 0 K20 K4))<|rq 4 7 rfl ec (fun _ q=>(yz 2 K7 (ST.c q 2))) ?_
       refine rq 5 8 rfl ec (fun _ q=>(yz 0 K0 (ST.c q 5)))<|rq 6 9 rfl ec (fun _ q=>(yI bZ t1 K5 K2 (gi_isSome eN2 rfl (ST.rf q (i:=0) rfl) fx) (getI_nn fx) (getI_ltI fx rfl)))<|rq 7 10 rfl ec (fun _ q=>(ya bZ (t1.toNat*3) (al.flatMap eN0) [vi iE.Phase,vi iE.X,vi iE.Z] K6 K2 (ST.rf q (i:=0) rfl) rfl rfl (eN2 iE) (gi_seg eN2 fx))) ?_
       refine rA [8] ?_
       refine rZ 8 rfl (yK 6 3 0 hg K2) ?_ aN
       rintro _ oO ⟨rfl,eI⟩
       refine ⟨(eI.se [0,1,2,3,4,5]),?_⟩
       refine ra_done (by kernel_rfl) ?_
       refine ct_ ?_
       obtain ⟨rfl,rfl,rfl⟩:=pr3 (sI g9)
       exact ret1 Tryz.results52 (rX K6 K2 (eI.c 6)) ⟨rfl,(eI.sel [0,1,2,3,4,5] rfl rfl)⟩
      rintro _ oP ⟨rfl,hh⟩
      have hh:ST U [] _ [O0,O1,O7,iD,O2,O3] [aL,aK,an,am,ab,aa,P,O,u,o]:=hh
      refine sS 8 (yN [vi 0,vi 0,vi 0] 3 hh K14) ?_
      rintro _ oQ ⟨jT,rfl,jU⟩
      refine s0 (yK 6 3 0 jU K2) ?_
      rintro _ oR ⟨rfl,hj⟩
      refine rn (cq ?_)
      obtain ⟨mr,dr⟩:=chk_inv dr
      refine ra_start (hj.se [0,1,2,3,4,5,6]).fn (by kernel_rfl) ?_
      have cj:=hj.drew
      have dh:=cj.se [0,1,2,3,4,5,6]
      refine rq 0 66 rfl dh (fun _ q=>(yd (aD jT) 0 0 K47 K1))<|rq 1 67 rfl dh (fun _ q=>(yz 1 K0 (ST.c q 6)))<|rq 2 68 rfl dh (fun _ q=>(Y_ne rfl rfl rfl))<|rq 3 69 rfl dh (fun _ q=>yv)<|rG 4 70 rfl rfl rfl (uF_ 69) dh (fun qC _ q=>(yd (aD jT) 0 0 K48 K1)) ?_
      refine rG 5 71 rfl rfl rfl (uF_ 69) dh (fun oS _ q=>(yz 2 K0 (ST.c q 6) rfl (gv_of oS)))<|rG 6 72 rfl rfl rfl (uF_ 69) dh (fun qD _ q=>(yz 0 K0 (ST.c q 5) rfl (a7.g 3 1)))<|rG 7 73 rfl rfl rfl (uF_ 69) dh (fun je _ q=>(Y_shl (k:=.i64) (a:=1) (k':=.i64) (b:=t1) rfl rfl (gv_of je) (mr je)))<|rG 8 74 rfl rfl rfl (uF_ 69) dh (fun jf _ q=>(Y_ne rfl (gv_of jf) (gv_of jf)))<|rq 9 75 rfl dh (fun _ q=>yO) ?_
      refine ra_done (by kernel_rfl) ?_
      refine cw_cond rfl (fun hl=>?_) (fun hl=>?_)
      ·skip
       have hm:=ct dr hl
       refine cq (cr ?_)
       refine sQ 76 (yz 0 K39 (cj.c 4) rfl (a7.g 2 0))<|sQ 77 (yz 0 K0 (cj.c 5) rfl (a7.g 3 1)) ?_
       obtain ⟨iF,ms,hm⟩:=bI hm
       refine sc 78 rfl rfl (yc K56 (Bq (Ap.mk (Ae.mk bW au al) bf) 1 t1 0 (aD Q) co dl au.length bZ dm al.length cP cQ bf.length _ rfl rfl rfl (cj.inn [false,false,true,true,false,false,false] rfl [(true,1),(true,0)] rfl) ms)) ?_
       rintro _ oT ⟨mu,mv,mw,mx,my,mz,rfl,mA⟩
       have hp:=cj.out [false,false,true,true,false,false,false] rfl mA
       refine rn (cq (cq (cr ?_)))
       refine sQ 79 (yz 0 K0 (hp.c 3) rfl (a7.g 3 1))<|sQ 80 zP<|sQ 9 yu (rn ?_)
       obtain ⟨oU,mB,mC⟩:=bI hm
       refine cw_block ?_
       refine cw_loop (fun k f w=>∃ (aG:Int) (S:List Aa) (J:List Aa) (aj:List Ab) (s7:Int) (bE:Option Addr) (bF:Nat) (a8:Option Addr) (bH:Nat) (bJ:Option Addr) (bK:Nat),FF f [(2,pt (aD V) 0),(3,pt (aD W) 0),(4,.func (.func 51) #[] #[pt (aD V) 0,pt (aD W) 0]),(5,.func (.func 52) #[] #[pt (aD V) 0,pt (aD W) 0]),(9,vi s7)]∧ST U [] w [O2,⟨aD Q,54,[vi aG,.slice bE S.length bF,.slice a8 J.length bH,.slice bJ aj.length bK],4⟩,⟨bE,64,(S.flatMap eN0),bF*3⟩,⟨a8,64,(J.flatMap eN0),bH*3⟩,⟨bJ,57,(aj.flatMap eN1),bK*3⟩,O3,O0,O1] [aL,aK,an,am,ab,aa,P,O,u,o]∧whX (Dw t1) k (aG,S,J,aj,s7)=some oU) fuel ⟨iF.t.Qubits,iF.t.XImages,iF.t.ZImages,iF.gates,(i64.wrap (t1+1)),mu,mv,mw,mx,my,mz,(a7.a 2 0 (a7.a 3 1 (a7.a 4 2 (a7.a 5 3 (fc rfl fn_))))),(hp.sel [2,5,6,7,8,3,0,1] rfl rfl),mB⟩ ?_
       rintro qi f w ⟨aG,S,J,aj,s7,bE,bF,a8,bH,bJ,bK,aI,ck,mD⟩
       obtain ⟨K115,qE,rfl,hr,jg⟩:=whX_go mD
       unfold Dw at hr
       refine cq (cq (cr ?_))
       refine sQ 81 (yv rfl (aI.g 9 4))<|sQ 82 (yz 0 K39 (ck.c 0) rfl (aI.g 2 0))<|sQ 83 (Y_nilCheck (B:=aD Q) (i:=0) rfl rfl)<|sQ 84 (yd (aD Q) 0 2 K52 K3)<|sQ 85 (yd (aD Q) 0 0 K22 K1)<|sQ 86 (yz 0 K0 (ck.c 1)) ?_
       refine sQ 87 zL (rn ?_)
       refine cw_cond rfl (fun hs=>?_) (fun hs=>?_)
       ·skip
        have ed:=ct hr hs
        refine cw_skip (cq (cw_block ?_))
        obtain ⟨⟨mE,mF,mG⟩,ht,ed⟩:=bI ed
        obtain ⟨⟨cl,bj,bk,bR⟩,fy,ed⟩:=bI ed
        refine ra_start (ck.se [0,5,6,7]).fn (by kernel_rfl) ?_
        have hu:=ck.drew
        have jV:=hu.se [0,5,6,7]
        refine rq 0 90 rfl jV (fun _ q=>(yz 0 K39 (ST.c q 0) rfl (aI.g 2 0)))<|rq 1 91 rfl jV (fun _ q=>(yv rfl (aI.g 5 3)))<|rq 3 93 rfl jV (fun _ q=>(yv rfl (aI.g 9 4))) ?_
        refine rA [2] ?_
        let O5:Ob:=⟨aD Q,54,[vi aG,.slice bE S.length bF,.slice a8 J.length bH,.slice bJ aj.length bK],4⟩
        let jW:Ob:=⟨bE,64,(S.flatMap eN0),bF*3⟩
        let jX:Ob:=⟨a8,64,(J.flatMap eN0),bH*3⟩
        let jY:Ob:=⟨bJ,57,(aj.flatMap eN1),bK*3⟩
        let hw:List Value:=[vi mE,vi mF,vi mG]
        refine rC 92 2 rfl (Yc_clos (g:=52) (vs:=[pt (aD V) 0,pt (aD W) 0]) (R:=fun v w'=>v=.agg hw.toArray∧ST U [] w' [O0,O1,O5,jW,jX,jY,O2,O3] [aL,aK,an,am,ab,aa,P,O,u,o]) Gh rfl rfl (clo_args mn) ?cv) ?_ ?_
        case cv =>
         show CV Tryz.prog 52 #[pt (aD V) 0,pt (aD W) 0] _ _
         refine cv_of_cw 11 Tryz.func52 rfl Tryz.ntmps52 rfl ?_
         refine cq (cr ?_)
         refine sS 2 (yN [vi 0,vi 0,vi 0] 3 hu K14) ?_
         rintro _ oW ⟨qF,rfl,hx⟩
         refine rn (cq ?_)
         obtain ⟨iH,fz,ht⟩:=bI ht
         refine ra_start (hx.se [0,1,2,3,4,5,6,7]).fn (by kernel_rfl) ?_
         have hy:=hx.drew
         have ee:=hy.se [0,1,2,3,4,5,6,7]
         refine rq 0 3 rfl ee (fun _ q=>(yz 0 K39 (ST.c q 0)))<|rq 1 4 rfl ee (fun _ q=>(Y_nilCheck (B:=aD Q) (i:=0) rfl rfl))<|rq 2 5 rfl ee (fun _ q=>(yd (aD Q) 0 2 K52 K3))<|rq 3 6 rfl ee (fun _ q=>(yd (aD Q) 0 0 K20 K4))<|rq 4 7 rfl ee (fun _ q=>(yz 2 K7 (ST.c q 1))) ?_
         refine rq 5 8 rfl ee (fun _ q=>(yz 0 K0 (ST.c q 5)))<|rq 6 9 rfl ee (fun _ q=>(yI a8 t1 K5 K2 (gi_isSome eN2 rfl (ST.c q 3) fz) (getI_nn fz) (getI_ltI fz rfl)))<|rq 7 10 rfl ee (fun _ q=>(ya a8 (t1.toNat*3) (J.flatMap eN0) [vi iH.Phase,vi iH.X,vi iH.Z] K6 K2 (ST.c q 3) rfl rfl (eN2 iH) (gi_seg eN2 fz))) ?_
         refine rA [8] ?_
         refine rZ 8 rfl (yK 8 3 0 hy K2) ?_ aN
         rintro _ oX ⟨rfl,eJ⟩
         refine ⟨(eJ.se [0,1,2,3,4,5,6,7]),?_⟩
         refine ra_done (by kernel_rfl) ?_
         refine ct_ ?_
         obtain ⟨rfl,rfl,rfl⟩:=pr3 (sI ht)
         exact ret1 Tryz.results52 (rX K6 K2 (eJ.c 8)) ⟨rfl,(eJ.sel [6,7,1,2,3,4,0,5] rfl rfl)⟩
        ·rintro _ oY ⟨rfl,fA⟩
         have fA:ST U [] _ [O0,O1,O5,jW,jX,jY,O2,O3] [aL,aK,an,am,ab,aa,P,O,u,o]:=fA
         refine ⟨(ST.sel fA [6,7,0,1] rfl rfl),?_⟩
         refine rA [4] ?_
         refine rC 94 4 rfl (Yc_func (g:=53) (vs:=[pt (aD Q) 0,.agg hw.toArray,vi s7]) (R:=fun v w'=>∃ (du:Option Addr) (dv:Nat) (dw:Option Addr) (dx:Nat) (dy:Option Addr) (dz:Nat),v=.tuple #[]∧ST U [] w' [O0,O1,⟨aD Q,54,[vi cl,.slice du bj.length dv,.slice dw bk.length dx,.slice dy bR.length dz],4⟩,⟨du,64,(bj.flatMap eN0),dv*3⟩,⟨dw,64,(bk.flatMap eN0),dx*3⟩,⟨dy,57,(bR.flatMap eN1),dz*3⟩,O2,O3] [aL,aK,an,am,ab,aa,P,O,u,o]) Mp rfl (mc rfl (mc rfl (mc rfl mn))) ?cv) ?_ ?_
         case cv =>
          show CV Tryz.prog 53 #[pt (aD Q) 0,.agg hw.toArray,vi s7] _ _
          refine cv_of_cw 19 Tryz.func53 rfl Tryz.ntmps53 rfl ?_
          refine cq (cr ?_)
          refine sS 4 (yV hw 3 fA) ?_
          rintro _ oZ ⟨o0,rfl,cX⟩
          have cX:ST U [] _ [O0,O1,O5,jW,jX,jY,O2,O3,⟨aD o0,64,hw,3⟩] [aL,aK,an,am,ab,aa,P,O,u,o]:=cX
          refine rn (cq (cr ?_))
          refine sQ 6 (yw 0 K6 K2 (cX.c 8))<|sQ 7 yv ?_
          obtain ⟨jh,mH,fy⟩:=bI fy
          refine sc 8 rfl rfl (yc K92 (EZ (Aa.mk mE mF mG) s7 _  (cX.inn0 [] rfl) mH)) ?_
          rintro _ o1 ⟨rfl,mI⟩
          have cY:=cX.out00 mI
          refine rn (cw_block (cq (cr ?_)))
          refine sQ 10 (Y_eq (k:=.u8) (a:=jh) (b:=90) rfl rfl rfl)<|sQ 9 yu (rn ?_)
          refine cw_cond rfl (fun hA=>?_) (fun hA=>?_)
          ·skip
           have hB:=ct fy hA
           refine cr ?_
           refine sQ 11 yv<|sQ 12 yv ?_
           obtain ⟨qG,mJ,hB⟩:=bI hB
           refine sc 13 rfl rfl (yc K56 (Bq (Ap.mk (Ae.mk aG S J) aj) 1 s7 0 (aD Q) bE bF S.length a8 bH J.length bJ bK aj.length _ rfl rfl rfl (cY.inn [false,false,true,false,false,true,false,false,false] rfl [(false,2),(false,3)] rfl) mJ)) ?_
           rintro _ o2 ⟨mK,mL,mM,mN,mO,mP,rfl,mQ⟩
           have jZ:=cY.out [false,false,true,false,false,true,false,false,false] rfl mQ
           refine rn ?_
           obtain ⟨rfl,rfl,rfl,rfl⟩:=pr4 (sI hB)
           exact ret0 Tryz.results53  ⟨mK,mL,mM,mN,mO,mP,rfl,(jZ.sel [0,1,7,8,9,10,4,5] rfl rfl)⟩
          ·skip
           have ji:=cf' fy hA
           refine cq (cr ?_)
           refine sQ 15 (Y_eq (k:=.u8) (a:=jh) (b:=89) rfl rfl rfl)<|sQ 14 yu (rn ?_)
           refine cw_cond rfl (fun hC=>?_) (fun hC=>?_)
           ·skip
            have hD:=ct ji hC
            refine cr ?_
            refine sQ 16 yv<|sQ 17 yv ?_
            obtain ⟨qH,mS,hD⟩:=bI hD
            refine sc 18 rfl rfl (yc K56 (Bq (Ap.mk (Ae.mk aG S J) aj) 5 s7 0 (aD Q) bE bF S.length a8 bH J.length bJ bK aj.length _ rfl rfl rfl (cY.inn [false,false,true,false,false,true,false,false,false] rfl [(false,2),(false,3)] rfl) mS)) ?_
            rintro _ o3 ⟨mT,mU,mV,mW,mX,mY,rfl,mZ⟩
            have j0:=cY.out [false,false,true,false,false,true,false,false,false] rfl mZ
            refine rn ?_
            obtain ⟨rfl,rfl,rfl,rfl⟩:=pr4 (sI hD)
            exact ret0 Tryz.results53  ⟨mT,mU,mV,mW,mX,mY,rfl,(j0.sel [0,1,7,8,9,10,4,5] rfl rfl)⟩
           ·skip
            have m0:=cf' ji hC
            refine cw_skip ?_
            obtain ⟨rfl,rfl,rfl,rfl⟩:=pr4 (sI m0)
            exact ret0 Tryz.results53  ⟨bE,bF,a8,bH,bJ,bK,rfl,(cY.sel [0,1,2,3,4,5,6,7] rfl rfl)⟩
         ·rintro _ o4 ⟨du,dv,dw,dx,dy,dz,rfl,fB⟩
          have fB:ST U [] _ [O0,O1,⟨aD Q,54,[vi cl,.slice du bj.length dv,.slice dw bk.length dx,.slice dy bR.length dz],4⟩,⟨du,64,(bj.flatMap eN0),dv*3⟩,⟨dw,64,(bk.flatMap eN0),dx*3⟩,⟨dy,57,(bR.flatMap eN1),dz*3⟩,O2,O3] [aL,aK,an,am,ab,aa,P,O,u,o]:=fB
          refine ⟨(ST.sel fB [6,7,0,1] rfl rfl),?_⟩
          refine ra_done (by kernel_rfl) ?_
          refine cr ?_
          refine sQ 88 (yv rfl (aI.g 9 4))<|sQ 89 zP<|sQ 9 yu (rn ?_)
          obtain rfl:=sI ed
          exact ⟨K115,Nat.lt_succ_self _,cl,bj,bk,bR,(i64.wrap (s7+1)),du,dv,dw,dx,dy,dz,(aI.a 2 0 (aI.a 3 1 (aI.a 4 2 (aI.a 5 3 (fc rfl fn_))))),(fB.sel [6,2,3,4,5,7,0,1] rfl rfl),jg⟩
         exact aN
        exact aN
       ·skip
        have m1:=cf' hr hs
        refine cw_exit rfl ?_
        obtain rfl:=sI m1
        obtain rfl:=sI jg
        refine cq ?_
        obtain ⟨o5,dA,ef⟩:=bI mC
        refine cw_mid (fun f w=>∃ (bX:Int) (bm:List Aa) (bn:List Aa) (bS:List Ab) (fC:Option Addr) (fD:Nat) (fE:Option Addr) (fF:Nat) (fG:Option Addr) (fH:Nat),(bX,bm,bn,bS)=o5∧FF f [(2,pt (aD V) 0),(3,pt (aD W) 0),(4,.func (.func 51) #[] #[pt (aD V) 0,pt (aD W) 0]),(5,.func (.func 52) #[] #[pt (aD V) 0,pt (aD W) 0])]∧ST U [] w [O2,⟨aD Q,54,[vi bX,.slice fC bm.length fD,.slice fE bn.length fF,.slice fG bS.length fH],4⟩,⟨fC,64,(bm.flatMap eN0),fD*3⟩,⟨fE,64,(bn.flatMap eN0),fF*3⟩,⟨fG,57,(bS.flatMap eN1),fH*3⟩,O3,O0,O1] [aL,aK,an,am,ab,aa,P,O,u,o]) ?_ ?_
        ·skip
         refine cq ?_
         obtain ⟨⟨m2,m3,m4⟩,hE,dA⟩:=bI dA
         obtain ⟨m5,m6,dA⟩:=bI dA
         refine ra_start (ck.se [0,1,2,3,4,5,6,7]).fn (by kernel_rfl) ?_
         have eK:=ck.drew
         refine rq 0 95 rfl (eK.se [0,1,2,3,4,5,6,7]) (fun _ q=>(yv rfl (aI.g 5 3)))<|rq 2 97 rfl (eK.se [0,1,2,3,4,5,6,7]) (fun _ q=>(yz 0 K0 (ST.c q 5) rfl (aI.g 3 1))) ?_
         refine rA [1] ?_
         let o6:Ob:=⟨aD Q,54,[vi aG,.slice bE S.length bF,.slice a8 J.length bH,.slice bJ aj.length bK],4⟩
         let m7:List Ob:=[O0,O1,o6,⟨bE,64,(S.flatMap eN0),bF*3⟩,⟨a8,64,(J.flatMap eN0),bH*3⟩,⟨bJ,57,(aj.flatMap eN1),bK*3⟩,O2,O3]
         refine rC 96 1 rfl (Yc_clos (g:=52) (vs:=[pt (aD V) 0,pt (aD W) 0]) (R:=fun v w'=>v=.agg #[vi m2,vi m3,vi m4]∧ST U [] w' m7 [aL,aK,an,am,ab,aa,P,O,u,o]) Gh rfl rfl (clo_args mn) ?cv) ?_ ?_
         case cv =>
          show CV Tryz.prog 52 #[pt (aD V) 0,pt (aD W) 0] _ _
          refine cv_of_cw 11 Tryz.func52 rfl Tryz.ntmps52 rfl ?_
          refine cq (cr ?_)
          refine sS 2 (yN [vi 0,vi 0,vi 0] 3 eK K14) ?_
          rintro _ o7 ⟨qI,rfl,hG⟩
          refine rn (cq ?_)
          obtain ⟨iI,fI,hE⟩:=bI hE
          refine ra_start (hG.se [0,1,2,3,4,5,6,7]).fn (by kernel_rfl) ?_
          have hH:=hG.drew
          have eg:=hH.se [0,1,2,3,4,5,6,7]
          refine rq 0 3 rfl eg (fun _ q=>(yz 0 K39 (ST.c q 0)))<|rq 1 4 rfl eg (fun _ q=>(Y_nilCheck (B:=aD Q) (i:=0) rfl rfl))<|rq 2 5 rfl eg (fun _ q=>(yd (aD Q) 0 2 K52 K3))<|rq 3 6 rfl eg (fun _ q=>(yd (aD Q) 0 0 K20 K4))<|rq 4 7 rfl eg (fun _ q=>(yz 2 K7 (ST.c q 1))) ?_
          refine rq 5 8 rfl eg (fun _ q=>(yz 0 K0 (ST.c q 5)))<|rq 6 9 rfl eg (fun _ q=>(yI a8 t1 K5 K2 (gi_isSome eN2 rfl (ST.c q 3) fI) (getI_nn fI) (getI_ltI fI rfl)))<|rq 7 10 rfl eg (fun _ q=>(ya a8 (t1.toNat*3) (J.flatMap eN0) [vi iI.Phase,vi iI.X,vi iI.Z] K6 K2 (ST.c q 3) rfl rfl (eN2 iI) (gi_seg eN2 fI))) ?_
          refine rA [8] ?_
          refine rZ 8 rfl (yK 8 3 0 hH K2) ?_ aN
          rintro _ o8 ⟨rfl,eL⟩
          refine ⟨(eL.se [0,1,2,3,4,5,6,7]),?_⟩
          refine ra_done (by kernel_rfl) ?_
          refine ct_ ?_
          obtain ⟨rfl,rfl,rfl⟩:=pr3 (sI hE)
          exact ret1 Tryz.results52 (rX K6 K2 (eL.c 8)) ⟨rfl,(eL.sel [6,7,1,2,3,4,0,5] rfl rfl)⟩
         ·rintro _ o9 ⟨rfl,eh⟩
          have eh:ST U [] _ m7 [aL,aK,an,am,ab,aa,P,O,u,o]:=eh
          refine ⟨(ST.sel eh [6,2,3,4,5,7,0,1] rfl rfl),?_⟩
          refine rA [3] ?_
          refine rC 98 3 rfl (yc K92 (EZ (Aa.mk m2 m3 m4) t1 _  (eh.inn0 [] rfl) m6)) ?_ aN
          rintro _ pa ⟨rfl,m8⟩
          have b6:=eh.out00 m8
          refine ⟨(b6.se [6,2,3,4,5,7,0,1]),?_⟩
          refine rq 4 99 rfl (b6.se [6,2,3,4,5,7,0,1]) (fun _ q=>(Y_eq (k:=.u8) (a:=m5) (b:=89) rfl rfl rfl)) ?_
          refine ra_done (by kernel_rfl) ?_
          refine cw_cond rfl (fun hI=>?_) (fun hI=>?_)
          ·skip
           have hJ:=ct dA hI
           refine cr ?_
           refine sQ 100 (yz 0 K39 (b6.c 6) rfl (aI.g 2 0))<|sQ 101 (yz 0 K0 (b6.c 7) rfl (aI.g 3 1)) ?_
           obtain ⟨iJ,m9,hJ⟩:=bI hJ
           refine sc 102 rfl rfl (yc K56 (Bq (Ap.mk (Ae.mk aG S J) aj) 5 t1 0 (aD Q) bE bF S.length a8 bH J.length bJ bK aj.length _ rfl rfl rfl (b6.inn [false,false,true,false,false,true,false,false] rfl [(false,2),(false,3)] rfl) m9)) ?_
           rintro _ pb ⟨nb,nc,nd,nf,ng,nh,rfl,ni⟩
           have j1:=b6.out [false,false,true,false,false,true,false,false] rfl ni
           refine rn ?_
           exact ⟨iJ.t.Qubits,iJ.t.XImages,iJ.t.ZImages,iJ.gates,nb,nc,nd,nf,ng,nh,(sI hJ),(aI.a 2 0 (aI.a 3 1 (aI.a 4 2 (aI.a 5 3 fn_)))),(j1.sel [4,6,7,8,9,5,0,1] rfl rfl)⟩
          ·skip
           have nj:=cf' dA hI
           refine cw_skip ?_
           exact ⟨aG,S,J,aj,bE,bF,a8,bH,bJ,bK,(sI nj),(aI.a 2 0 (aI.a 3 1 (aI.a 4 2 (aI.a 5 3 fn_)))),(b6.sel [6,2,3,4,5,7,0,1] rfl rfl)⟩
         exact aN
        rintro f w ⟨bX,bm,bn,bS,fC,fD,fE,fF,fG,fH,rfl,cc,eM⟩
        refine cq (cr ?_)
        refine sQ 103 (yz 0 K39 (eM.c 0) rfl (cc.g 2 0))<|sQ 104 (yz 0 K0 (eM.c 5) rfl (cc.g 3 1))<|sQ 105 (yv rfl (cc.g 5 3)) ?_
        obtain ⟨⟨cm,a2,a3,bB⟩,nk,ef⟩:=bI ef
        refine sc 106 rfl rfl (Yc_func (g:=56) (vs:=[pt (aD Q) 0,vi t1,.func (.func 52) #[] #[pt (aD V) 0,pt (aD W) 0]]) (R:=fun v w'=>∃ (dC:Option Addr) (dD:Nat) (dE:Option Addr) (dF:Nat) (dH:Option Addr) (dI:Nat),v=.tuple #[]∧ST U [] w' [O0,O1,⟨aD Q,54,[vi cm,.slice dC a2.length dD,.slice dE a3.length dF,.slice dH bB.length dI],4⟩,⟨dC,64,(a2.flatMap eN0),dD*3⟩,⟨dE,64,(a3.flatMap eN0),dF*3⟩,⟨dH,57,(bB.flatMap eN1),dI*3⟩,O2,O3] [aL,aK,an,am,ab,aa,P,O,u,o]) Kl rfl (mc rfl (mc rfl (mc rfl mn))) ?cv) ?_
        case cv =>
         show CV Tryz.prog 56 #[pt (aD Q) 0,vi t1,.func (.func 52) #[] #[pt (aD V) 0,pt (aD W) 0]] _ _
         refine cv_of_cw 27 Tryz.func56 rfl Tryz.ntmps56 rfl ?_
         refine cq (cr ?_)
         refine sQ 7 yv<|sQ 8 zP<|sQ 6 yu (rn ?_)
         obtain ⟨pd,nl,j2⟩:=bI nk
         refine cw_block ?_
         refine cw_loop (fun k f w=>∃ (bc:Int) (ay:List Aa) (ao:List Aa) (a0:List Ab) (s9:Int) (cx:Option Addr) (cy:Nat) (b3:Option Addr) (cz:Nat) (cA:Option Addr) (cC:Nat),FF f [(0,pt (aD Q) 0),(1,vi t1),(2,.func (.func 52) #[] #[pt (aD V) 0,pt (aD W) 0]),(6,vi s9)]∧ST U [] w [⟨aD Q,54,[vi bc,.slice cx ay.length cy,.slice b3 ao.length cz,.slice cA a0.length cC],4⟩,⟨cx,64,(ay.flatMap eN0),cy*3⟩,⟨b3,64,(ao.flatMap eN0),cz*3⟩,⟨cA,57,(a0.flatMap eN1),cC*3⟩,O2,O3,O0,O1] [aL,aK,an,am,ab,aa,P,O,u,o]∧whX (D0 t1) k (bc,ay,ao,a0,s9)=some pd) fuel ⟨bX,bm,bn,bS,(i64.wrap (t1+1)),fC,fD,fE,fF,fG,fH,(fc rfl (fc rfl (fc rfl (fc rfl fn_)))),(eM.sel [1,2,3,4,0,5,6,7] rfl rfl),nl⟩ ?_
         rintro qj f w ⟨bc,ay,ao,a0,s9,cx,cy,b3,cz,cA,cC,bo,eN,nm⟩
         obtain ⟨K116,qJ,rfl,hK,jj⟩:=whX_go nm
         unfold D0 at hK
         refine cq (cq (cr ?_))
         refine sQ 9 (yv rfl (bo.g 6 3))<|sQ 10 (yv rfl (bo.g 0 0))<|sQ 11 (Y_nilCheck (B:=aD Q) (i:=0) rfl rfl)<|sQ 12 (yd (aD Q) 0 2 K52 K3)<|sQ 13 (yd (aD Q) 0 0 K22 K1)<|sQ 14 (yz 0 K0 (eN.c 0)) ?_
         refine sQ 15 zL (rn ?_)
         refine cw_cond rfl (fun hM=>?_) (fun hM=>?_)
         ·skip
          have j4:=ct hK hM
          refine cw_skip (cq ?_)
          obtain ⟨pe,dJ,j5⟩:=bI j4
          refine cw_mid (fun f w=>∃ (bY:Int) (bp:List Aa) (bq:List Aa) (bT:List Ab) (fJ:Option Addr) (fK:Nat) (fL:Option Addr) (fO:Nat) (fP:Option Addr) (fS:Nat),(bY,bp,bq,bT)=pe∧FF f [(0,pt (aD Q) 0),(1,vi t1),(2,.func (.func 52) #[] #[pt (aD V) 0,pt (aD W) 0]),(6,vi s9)]∧ST U [] w [⟨aD Q,54,[vi bY,.slice fJ bp.length fK,.slice fL bq.length fO,.slice fP bT.length fS],4⟩,⟨fJ,64,(bp.flatMap eN0),fK*3⟩,⟨fL,64,(bq.flatMap eN0),fO*3⟩,⟨fP,57,(bT.flatMap eN1),fS*3⟩,O2,O3,O0,O1] [aL,aK,an,am,ab,aa,P,O,u,o]) ?_ ?_
          ·skip
           refine cw_block (cq (cr ?_))
           refine sQ 18 (yv rfl (bo.g 2 2)) ?_
           obtain ⟨⟨np,nq,nr⟩,hN,dJ⟩:=bI dJ
           let pf:Ob:=⟨aD Q,54,[vi bc,.slice cx ay.length cy,.slice b3 ao.length cz,.slice cA a0.length cC],4⟩
           let ns:List Ob:=[O0,O1,pf,⟨cx,64,(ay.flatMap eN0),cy*3⟩,⟨b3,64,(ao.flatMap eN0),cz*3⟩,⟨cA,57,(a0.flatMap eN1),cC*3⟩,O2,O3]
           refine sc 19 rfl rfl (Yc_clos (g:=52) (vs:=[pt (aD V) 0,pt (aD W) 0]) (R:=fun v w'=>v=.agg #[vi np,vi nq,vi nr]∧ST U [] w' ns [aL,aK,an,am,ab,aa,P,O,u,o]) Gh rfl rfl (clo_args mn) ?cv) ?_
           case cv =>
            show CV Tryz.prog 52 #[pt (aD V) 0,pt (aD W) 0] _ _
            refine cv_of_cw 11 Tryz.func52 rfl Tryz.ntmps52 rfl ?_
            refine cq (cr ?_)
            refine sS 2 (yN [vi 0,vi 0,vi 0] 3 eN K14) ?_
            rintro _ pg ⟨qK,rfl,hO⟩
            refine rn (cq ?_)
            obtain ⟨iK,fT,hN⟩:=bI hN
            refine ra_start (hO.se [0,1,2,3,4,5,6,7]).fn (by kernel_rfl) ?_
            have hP:=hO.drew
            have ei:=hP.se [0,1,2,3,4,5,6,7]
            refine rq 0 3 rfl ei (fun _ q=>(yz 0 K39 (ST.c q 4)))<|rq 1 4 rfl ei (fun _ q=>(Y_nilCheck (B:=aD Q) (i:=0) rfl rfl))<|rq 2 5 rfl ei (fun _ q=>(yd (aD Q) 0 2 K52 K3))<|rq 3 6 rfl ei (fun _ q=>(yd (aD Q) 0 0 K20 K4))<|rq 4 7 rfl ei (fun _ q=>(yz 2 K7 (ST.c q 0))) ?_
            refine rq 5 8 rfl ei (fun _ q=>(yz 0 K0 (ST.c q 5)))<|rq 6 9 rfl ei (fun _ q=>(yI b3 t1 K5 K2 (gi_isSome eN2 rfl (ST.c q 2) fT) (getI_nn fT) (getI_ltI fT rfl)))<|rq 7 10 rfl ei (fun _ q=>(ya b3 (t1.toNat*3) (ao.flatMap eN0) [vi iK.Phase,vi iK.X,vi iK.Z] K6 K2 (ST.c q 2) rfl rfl (eN2 iK) (gi_seg eN2 fT))) ?_
            refine rA [8] ?_
            refine rZ 8 rfl (yK 8 3 0 hP K2) ?_ aN
            rintro _ ph ⟨rfl,eO⟩
            refine ⟨(eO.se [0,1,2,3,4,5,6,7]),?_⟩
            refine ra_done (by kernel_rfl) ?_
            refine ct_ ?_
            obtain ⟨rfl,rfl,rfl⟩:=pr3 (sI hN)
            exact ret1 Tryz.results52 (rX K6 K2 (eO.c 8)) ⟨rfl,(eO.sel [6,7,0,1,2,3,4,5] rfl rfl)⟩
           rintro _ pi ⟨rfl,fU⟩
           have fU:ST U [] _ ns [aL,aK,an,am,ab,aa,P,O,u,o]:=fU
           refine sQ 20 (yv rfl (bo.g 6 3)) ?_
           obtain ⟨nu,nv,dJ⟩:=bI dJ
           refine sc 21 rfl rfl (yc K92 (EZ (Aa.mk np nq nr) s9 _  (fU.inn0 [] rfl) nv)) ?_
           rintro _ pj ⟨rfl,nw⟩
           have eP:=fU.out00 nw
           refine sQ 22 (Y_eq (k:=.u8) (a:=nu) (b:=88) rfl rfl rfl) (rn ?_)
           refine cw_cond rfl (fun hQ=>?_) (fun hQ=>?_)
           ·skip
            have eQ:=ct dJ hQ
            refine cr ?_
            refine sQ 23 (yv rfl (bo.g 0 0))<|sQ 24 (yv rfl (bo.g 1 1))<|sQ 25 (yv rfl (bo.g 6 3)) ?_
            obtain ⟨iL,ny,eQ⟩:=bI eQ
            refine sc 26 rfl rfl (yc K56 (Bq (Ap.mk (Ae.mk bc ay ao) a0) 9 t1 s9 (aD Q) cx cy ay.length b3 cz ao.length cA cC a0.length _ rfl rfl rfl (eP.inn [false,false,true,false,false,true,false,false] rfl [(false,2),(false,3)] rfl) ny)) ?_
            rintro _ pk ⟨nz,nA,nB,nC,nD,nE,rfl,nF⟩
            have j6:=eP.out [false,false,true,false,false,true,false,false] rfl nF
            refine rn ?_
            exact ⟨iL.t.Qubits,iL.t.XImages,iL.t.ZImages,iL.gates,nz,nA,nB,nC,nD,nE,(sI eQ),(bo.a 0 0 (bo.a 1 1 (bo.a 2 2 (bo.a 6 3 fn_)))),(j6.sel [6,7,8,9,4,5,0,1] rfl rfl)⟩
           ·skip
            have j7:=cf' dJ hQ
            refine cw_skip ?_
            exact ⟨bc,ay,ao,a0,cx,cy,b3,cz,cA,cC,(sI j7),(bo.a 0 0 (bo.a 1 1 (bo.a 2 2 (bo.a 6 3 fn_)))),(eP.sel [2,3,4,5,6,7,0,1] rfl rfl)⟩
          rintro f w ⟨bY,bp,bq,bT,fJ,fK,fL,fO,fP,fS,rfl,fV,j8⟩
          refine cr ?_
          refine sQ 16 (yv rfl (fV.g 6 3))<|sQ 17 zP<|sQ 6 yu (rn ?_)
          obtain rfl:=sI j5
          exact ⟨K116,Nat.lt_succ_self _,bY,bp,bq,bT,(i64.wrap (s9+1)),fJ,fK,fL,fO,fP,fS,(fV.a 0 0 (fV.a 1 1 (fV.a 2 2 (fc rfl fn_)))),(j8.sel [0,1,2,3,4,5,6,7] rfl rfl),jj⟩
         ·skip
          have j9:=cf' hK hM
          refine cw_exit rfl ?_
          obtain rfl:=sI j9
          obtain rfl:=sI jj
          obtain ⟨rfl,rfl,rfl,rfl⟩:=pr4 (sI j2)
          exact ret0 Tryz.results56  ⟨cx,cy,b3,cz,cA,cC,rfl,(eN.sel [6,7,0,1,2,3,4,5] rfl rfl)⟩
        rintro _ pl ⟨dC,dD,dE,dF,dH,dI,rfl,dK⟩
        let ka:Ob:=⟨dC,64,(a2.flatMap eN0),dD*3⟩
        let kb:Ob:=⟨dE,64,(a3.flatMap eN0),dF*3⟩
        have dK:ST U [] _ [O0,O1,⟨aD Q,54,[vi cm,.slice dC a2.length dD,.slice dE a3.length dF,.slice dH bB.length dI],4⟩,ka,kb,⟨dH,57,(bB.flatMap eN1),dI*3⟩,O2,O3] [aL,aK,an,am,ab,aa,P,O,u,o]:=dK
        refine rn (cr ?_)
        refine sQ 107 (yz 0 K39 (dK.cf (i:=6) rfl) rfl (cc.g 2 0))<|sQ 108 (yz 0 K0 (dK.cf (i:=7) rfl) rfl (cc.g 3 1)) ?_
        obtain ⟨bN,nG,ef⟩:=bI ef
        refine sc 109 rfl rfl (yc K56 (Bq (Ap.mk (Ae.mk cm a2 a3) bB) 1 t1 0 (aD Q) dC dD a2.length dE dF a3.length dH dI bB.length _ rfl rfl rfl (dK.inn [false,false,true,false,false,true,false,false] rfl [(false,2),(false,3)] rfl) nG)) ?_
        rintro _ pm ⟨hR,hT,ej,fW,fX,fY,rfl,nI⟩
        have eR:=dK.out [false,false,true,false,false,true,false,false] rfl nI
        refine rn ?_
        let kc:Ro:=⟨hR,(bN.t.XImages.flatMap eN0)⟩
        have nJ:Org U [] [u,o] [kc]:=ST.orgOwn eR (i:=7) rfl
        have iM:bN.t.XImages.length≤hT:=(eR.lencap (i:=7) rfl (fm_lenn (l:=bN.t.XImages) eN2 rfl) rfl rfl)
        let nK:Ob:=⟨aD Q,54,[vi bN.t.Qubits,.slice hR bN.t.XImages.length hT,.slice ej bN.t.ZImages.length fW,.slice fX bN.gates.length fY],4⟩
        have eS:ST U [] _ [O0,O1,ka,kb,O2,O3,nK,⟨ej,64,(bN.t.ZImages.flatMap eN0),fW*3⟩,⟨fX,57,(bN.gates.flatMap eN1),fY*3⟩] [kc,aL,aK,an,am,ab,aa,P,O,u,o]:=eR.freeze (i:=7) rfl
        have nL:Org U [] [u,o] [⟨ej,(bN.t.ZImages.flatMap eN0)⟩]:=ST.orgOwn eS (i:=7) rfl
        have iN:bN.t.ZImages.length≤fW:=(eS.lencap (i:=7) rfl (fm_lenn (l:=bN.t.ZImages) eN2 rfl) rfl rfl)
        have kd:ST U [] _ [O0,O1,ka,kb,O2,O3,nK,⟨fX,57,(bN.gates.flatMap eN1),fY*3⟩] [⟨ej,(bN.t.ZImages.flatMap eN0)⟩,kc,aL,aK,an,am,ab,aa,P,O,u,o]:=eS.freeze (i:=7) rfl
        exact ⟨bN.t.Qubits,bN.t.XImages,bN.t.ZImages,bN.gates,hR,hT,ej,fW,fX,fY,(sI ef),(cc.a 2 0 (cc.a 3 1 (cc.a 4 2 (cc.a 5 3 fn_)))),nJ,(len_le rfl iM),nL,(len_le rfl iN),(kd.sel [4,6,7,5,0,1] rfl rfl)⟩
      ·skip
       have ke:=cf' dr hl
       refine cw_skip ?_
       have kf:ST U [] _ [O0,O1,O7,iD,O2,O3,⟨aD jT,64,[vi mo,vi mp,vi mq],3⟩] [aL,aK,aL,aK,an,am,ab,aa,P,O,u,o]:=cj.sT [0,1,0,1,2,3,4,5,6,7,8,9]
       exact ⟨bW,au,al,bf,co,dl,bZ,dm,cP,cQ,(sI ke),(a7.a 2 0 (a7.a 3 1 (a7.a 4 2 (a7.a 5 3 fn_)))),mh,(len_le rfl mi),mj,(len_le rfl ml),(kf.sel [4,2,3,5,0,1] rfl rfl)⟩
     rintro f w ⟨bb,ae,ai,aY,b0,ds,cw,dt,cV,cW,rfl,cd,nM,nN,nO,nP,kg⟩
     refine cq ?_
     obtain ⟨pn,fZ,dU⟩:=bI mm
     let cZ:Ro:=⟨b0,(ae.flatMap eN0)⟩
     let c0:Ro:=⟨cw,(ai.flatMap eN0)⟩
     refine cw_mid (fun f w=>∃ (bC:Int) (ap:List Aa) (ak:List Aa) (a6:List Ab) (cD:Option Addr) (dL:Nat) (b5:Option Addr) (dM:Nat) (c9:Option Addr) (da:Nat),(bC,ap,ak,a6)=pn∧FF f [(2,pt (aD V) 0),(3,pt (aD W) 0),(5,.func (.func 52) #[] #[pt (aD V) 0,pt (aD W) 0])]∧Org U [] [u,o] [⟨cD,(ap.flatMap eN0)⟩]∧ap.length≤dL∧Org U [] [u,o] [⟨b5,(ak.flatMap eN0)⟩]∧ak.length≤dM∧ST U [] w [O2,⟨aD Q,54,[vi bC,.slice cD ap.length dL,.slice b5 ak.length dM,.slice c9 a6.length da],4⟩,⟨c9,57,(a6.flatMap eN1),da*3⟩,O3,O0,O1] [⟨b5,(ak.flatMap eN0)⟩,⟨cD,(ap.flatMap eN0)⟩,c0,cZ,aL,aK,an,am,ab,aa,P,O,u,o]) ?_ ?_
     ·skip
      refine cq (cr ?_)
      refine sQ 110 (yv rfl (cd.g 4 2)) ?_
      obtain ⟨⟨nQ,po,pp⟩,hU,fZ⟩:=bI fZ
      let O9:Ob:=⟨aD Q,54,[vi bb,.slice b0 ae.length ds,.slice cw ai.length dt,.slice cV aY.length cW],4⟩
      let kh:Ob:=⟨cV,57,(aY.flatMap eN1),cW*3⟩
      refine sc 111 rfl rfl (Yc_clos (g:=51) (vs:=[pt (aD V) 0,pt (aD W) 0]) (R:=fun v w'=>v=.agg #[vi nQ,vi po,vi pp]∧ST U [] w' [O0,O1,O9,kh,O2,O3] [c0,cZ,aL,aK,an,am,ab,aa,P,O,u,o]) H8 rfl rfl (clo_args mn) ?cv) ?_
      case cv =>
       show CV Tryz.prog 51 #[pt (aD V) 0,pt (aD W) 0] _ _
       refine cv_of_cw 11 Tryz.func51 rfl Tryz.ntmps51 rfl ?_
       refine cq (cr ?_)
       refine sS 2 (yN [vi 0,vi 0,vi 0] 3 kg K14) ?_
       rintro _ pr ⟨qL,rfl,hV⟩
       refine rn (cq ?_)
       obtain ⟨iO,f1,hU⟩:=bI hU
       refine ra_start (hV.se [0,1,2,3,4,5]).fn (by kernel_rfl) ?_
       have hW:=hV.drew
       have cE:=hW.se [0,1,2,3,4,5]
       refine rq 0 3 rfl cE (fun _ q=>(yz 0 K39 (ST.c q 0)))<|rq 1 4 rfl cE (fun _ q=>(Y_nilCheck (B:=aD Q) (i:=0) rfl rfl))<|rq 2 5 rfl cE (fun _ q=>(yd (aD Q) 0 2 K52 K3))<|rq 3 6 rfl cE (fun _ q=>(yd (aD Q) 0 0 K18 K4))<|rq 4 7 rfl cE (fun _ q=>(yz 1 K7 (ST.c q 1))) ?_
       refine rq 5 8 rfl cE (fun _ q=>(yz 0 K0 (ST.c q 3)))<|rq 6 9 rfl cE (fun _ q=>(yI b0 t1 K5 K2 (gi_isSome eN2 rfl (ST.rf q (i:=1) rfl) f1) (getI_nn f1) (getI_ltI f1 rfl)))<|rq 7 10 rfl cE (fun _ q=>(ya b0 (t1.toNat*3) (ae.flatMap eN0) [vi iO.Phase,vi iO.X,vi iO.Z] K6 K2 (ST.rf q (i:=1) rfl) rfl rfl (eN2 iO) (gi_seg eN2 f1))) ?_
       refine rA [8] ?_
       refine rZ 8 rfl (yK 6 3 0 hW K2) ?_ aN
       rintro _ ps ⟨rfl,eT⟩
       refine ⟨(eT.se [0,1,2,3,4,5]),?_⟩
       refine ra_done (by kernel_rfl) ?_
       refine ct_ ?_
       obtain ⟨rfl,rfl,rfl⟩:=pr3 (sI hU)
       exact ret1 Tryz.results51 (rX K6 K2 (eT.c 6)) ⟨rfl,(eT.sel [4,5,1,2,0,3] rfl rfl)⟩
      rintro _ pu ⟨rfl,db⟩
      have db:ST U [] _ [O0,O1,O9,kh,O2,O3] [c0,cZ,aL,aK,an,am,ab,aa,P,O,u,o]:=db
      refine sQ 112 (Y_field1 (v:=vi nQ) K30 K0 rfl rfl rfl)<|sQ 113 zE (rn ?_)
      refine cw_cond rfl (fun hX=>?_) (fun hX=>?_)
      ·skip
       have eU:=ct fZ hX
       refine cr ?_
       refine sQ 114 (yz 0 K39 (db.cf (i:=4) rfl) rfl (cd.g 2 0))<|sQ 115 (yz 0 K0 (db.cf (i:=5) rfl) rfl (cd.g 3 1)) ?_
       obtain ⟨bO,nS,eU⟩:=bI eU
       refine sc 116 rfl rfl (yc K56 (Bq (Ap.mk (Ae.mk bb ae ai) aY) 4 t1 0 (aD Q) b0 ds ae.length cw dt ai.length cV cW aY.length _ rfl rfl rfl (db.inn [false,false,true,true,false,false] rfl [(true,1),(true,0)] rfl) nS)) ?_
       rintro _ pv ⟨hY,hZ,ek,f2,f3,f4,rfl,nT⟩
       have eW:=db.out [false,false,true,true,false,false] rfl nT
       refine rn ?_
       let ki:Ro:=⟨hY,(bO.t.XImages.flatMap eN0)⟩
       have nU:Org U [] [u,o] [ki]:=ST.orgOwn eW (i:=5) rfl
       have iP:bO.t.XImages.length≤hZ:=(eW.lencap (i:=5) rfl (fm_lenn (l:=bO.t.XImages) eN2 rfl) rfl rfl)
       let nV:Ob:=⟨aD Q,54,[vi bO.t.Qubits,.slice hY bO.t.XImages.length hZ,.slice ek bO.t.ZImages.length f2,.slice f3 bO.gates.length f4],4⟩
       have eX:ST U [] _ [O0,O1,O2,O3,nV,⟨ek,64,(bO.t.ZImages.flatMap eN0),f2*3⟩,⟨f3,57,(bO.gates.flatMap eN1),f4*3⟩] [ki,c0,cZ,aL,aK,an,am,ab,aa,P,O,u,o]:=eW.freeze (i:=5) rfl
       have nW:Org U [] [u,o] [⟨ek,(bO.t.ZImages.flatMap eN0)⟩]:=ST.orgOwn eX (i:=5) rfl
       have iQ:bO.t.ZImages.length≤f2:=(eX.lencap (i:=5) rfl (fm_lenn (l:=bO.t.ZImages) eN2 rfl) rfl rfl)
       have kj:ST U [] _ [O0,O1,O2,O3,nV,⟨f3,57,(bO.gates.flatMap eN1),f4*3⟩] [⟨ek,(bO.t.ZImages.flatMap eN0)⟩,ki,c0,cZ,aL,aK,an,am,ab,aa,P,O,u,o]:=eX.freeze (i:=5) rfl
       exact ⟨bO.t.Qubits,bO.t.XImages,bO.t.ZImages,bO.gates,hY,hZ,ek,f2,f3,f4,(sI eU),(cd.a 2 0 (cd.a 3 1 (cd.a 5 3 fn_))),nU,(len_le rfl iP),nW,(len_le rfl iQ),(kj.sel [2,4,5,3,0,1] rfl rfl)⟩
      ·skip
       have kk:=cf' fZ hX
       refine cw_skip ?_
       have kl:ST U [] _ [O0,O1,O9,kh,O2,O3] [c0,cZ,c0,cZ,aL,aK,an,am,ab,aa,P,O,u,o]:=db.sT [0,1,0,1,2,3,4,5,6,7,8,9,10,11]
       exact ⟨bb,ae,ai,aY,b0,ds,cw,dt,cV,cW,(sI kk),(cd.a 2 0 (cd.a 3 1 (cd.a 5 3 fn_))),nM,(len_le rfl nN),nO,(len_le rfl nP),(kl.sel [4,2,3,5,0,1] rfl rfl)⟩
     rintro f w ⟨bC,ap,ak,a6,cD,dL,b5,dM,c9,da,rfl,h0,nX,nY,nZ,n0,km⟩
     refine cq (cr ?_)
     refine sQ 117 (yv rfl (h0.g 5 2)) ?_
     obtain ⟨⟨n2,pw,px⟩,h1,dU⟩:=bI dU
     let kn:Ob:=⟨aD Q,54,[vi bC,.slice cD ap.length dL,.slice b5 ak.length dM,.slice c9 a6.length da],4⟩
     let ko:Ob:=⟨c9,57,(a6.flatMap eN1),da*3⟩
     let h2:Ro:=⟨cD,(ap.flatMap eN0)⟩
     let h3:Ro:=⟨b5,(ak.flatMap eN0)⟩
     refine sc 118 rfl rfl (Yc_clos (g:=52) (vs:=[pt (aD V) 0,pt (aD W) 0]) (R:=fun v w'=>v=.agg #[vi n2,vi pw,vi px]∧ST U [] w' [O0,O1,kn,ko,O2,O3] [h3,h2,c0,cZ,aL,aK,an,am,ab,aa,P,O,u,o]) Gh rfl rfl (clo_args mn) ?cv) ?_
     case cv =>
      show CV Tryz.prog 52 #[pt (aD V) 0,pt (aD W) 0] _ _
      refine cv_of_cw 11 Tryz.func52 rfl Tryz.ntmps52 rfl ?_
      refine cq (cr ?_)
      refine sS 2 (yN [vi 0,vi 0,vi 0] 3 km K14) ?_
      rintro _ py ⟨qM,rfl,h4⟩
      refine rn (cq ?_)
      obtain ⟨iR,f5,h1⟩:=bI h1
      refine ra_start (h4.se [0,1,2,3,4,5]).fn (by kernel_rfl) ?_
      have h5:=h4.drew
      have cF:=h5.se [0,1,2,3,4,5]
      refine rq 0 3 rfl cF (fun _ q=>(yz 0 K39 (ST.c q 0)))<|rq 1 4 rfl cF (fun _ q=>(Y_nilCheck (B:=aD Q) (i:=0) rfl rfl))<|rq 2 5 rfl cF (fun _ q=>(yd (aD Q) 0 2 K52 K3))<|rq 3 6 rfl cF (fun _ q=>(yd (aD Q) 0 0 K20 K4))<|rq 4 7 rfl cF (fun _ q=>(yz 2 K7 (ST.c q 1))) ?_
      refine rq 5 8 rfl cF (fun _ q=>(yz 0 K0 (ST.c q 3)))<|rq 6 9 rfl cF (fun _ q=>(yI b5 t1 K5 K2 (gi_isSome eN2 rfl (ST.rf q (i:=0) rfl) f5) (getI_nn f5) (getI_ltI f5 rfl)))<|rq 7 10 rfl cF (fun _ q=>(ya b5 (t1.toNat*3) (ak.flatMap eN0) [vi iR.Phase,vi iR.X,vi iR.Z] K6 K2 (ST.rf q (i:=0) rfl) rfl rfl (eN2 iR) (gi_seg eN2 f5))) ?_
      refine rA [8] ?_
      refine rZ 8 rfl (yK 6 3 0 h5 K2) ?_ aN
      rintro _ pz ⟨rfl,eY⟩
      refine ⟨(eY.se [0,1,2,3,4,5]),?_⟩
      refine ra_done (by kernel_rfl) ?_
      refine ct_ ?_
      obtain ⟨rfl,rfl,rfl⟩:=pr3 (sI h1)
      exact ret1 Tryz.results52 (rX K6 K2 (eY.c 6)) ⟨rfl,(eY.sel [4,5,1,2,0,3] rfl rfl)⟩
     rintro _ pA ⟨rfl,dc⟩
     have dc:ST U [] _ [O0,O1,kn,ko,O2,O3] [h3,h2,c0,cZ,aL,aK,an,am,ab,aa,P,O,u,o]:=dc
     refine sQ 119 (Y_field1 (v:=vi n2) K30 K0 rfl rfl rfl)<|sQ 120 zE (rn ?_)
     refine cw_cond rfl (fun h6=>?_) (fun h6=>?_)
     ·skip
      have eZ:=ct dU h6
      refine cr ?_
      refine sQ 121 (yz 0 K39 (dc.cf (i:=4) rfl) rfl (h0.g 2 0))<|sQ 122 (yz 0 K0 (dc.cf (i:=5) rfl) rfl (h0.g 3 1)) ?_
      obtain ⟨cI,n3,eZ⟩:=bI eZ
      refine sc 123 rfl rfl (yc K56 (Bq (Ap.mk (Ae.mk bC ap ak) a6) 2 t1 0 (aD Q) cD dL ap.length b5 dM ak.length c9 da a6.length _ rfl rfl rfl (dc.inn [false,false,true,true,false,false] rfl [(true,1),(true,0)] rfl) n3)) ?_
      rintro _ pB ⟨h7,h8,f6,f7,h9,ia,rfl,n4⟩
      have e0:=dc.out [false,false,true,true,false,false] rfl n4
      refine rn ?_
      let iS:Ro:=⟨h7,(cI.t.XImages.flatMap eN0)⟩
      have n5:Org U [] [u,o] [iS]:=ST.orgOwn e0 (i:=5) rfl
      have iU:cI.t.XImages.length≤h8:=(e0.lencap (i:=5) rfl (fm_lenn (l:=cI.t.XImages) eN2 rfl) rfl rfl)
      let kp:Ob:=⟨aD Q,54,[vi cI.t.Qubits,.slice h7 cI.t.XImages.length h8,.slice f6 cI.t.ZImages.length f7,.slice h9 cI.gates.length ia],4⟩
      let kq:Ob:=⟨h9,57,(cI.gates.flatMap eN1),ia*3⟩
      have e4:ST U [] _ [O0,O1,O2,O3,kp,⟨f6,64,(cI.t.ZImages.flatMap eN0),f7*3⟩,kq] [iS,h3,h2,c0,cZ,aL,aK,an,am,ab,aa,P,O,u,o]:=e0.freeze (i:=5) rfl
      let kr:Ro:=⟨f6,(cI.t.ZImages.flatMap eN0)⟩
      have n6:Org U [] [u,o] [kr]:=ST.orgOwn e4 (i:=5) rfl
      have iV:cI.t.ZImages.length≤f7:=(e4.lencap (i:=5) rfl (fm_lenn (l:=cI.t.ZImages) eN2 rfl) rfl rfl)
      have ks:ST U [] _ [O0,O1,O2,O3,kp,kq] [kr,iS,h3,h2,c0,cZ,aL,aK,an,am,ab,aa,P,O,u,o]:=e4.freeze (i:=5) rfl
      have kt:ST U [] _ [O0,O1,O2,O3,kp,kq] [kr,iS,P,O,u,o]:=ks.sT [0,1,12,13,14,15]
      obtain ⟨rfl,rfl,rfl,rfl⟩:=pr4 (sI eZ)
      exact ret0 Tryz.results22  ⟨h7,h8,f6,f7,h9,ia,rfl,n5,(len_le rfl iU),n6,(len_le rfl iV),(kt.sel [0,1,4,5] rfl rfl)⟩
     ·skip
      have ku:=cf' dU h6
      refine cw_skip ?_
      have kv:ST U [] _ [O0,O1,kn,ko,O2,O3] [h3,h2,P,O,u,o]:=dc.sT [0,1,10,11,12,13]
      obtain ⟨rfl,rfl,rfl,rfl⟩:=pr4 (sI ku)
      exact ret0 Tryz.results22  ⟨cD,dL,b5,dM,c9,da,rfl,nX,(len_le rfl nY),nZ,(len_le rfl n0),(kv.sel [0,1,2,3] rfl rfl)⟩
   rintro _ qk ⟨B6,c6,B7,c7,B8,c8,rfl,pC,pD,pE,pF,ib⟩
   let n7:Ob:=⟨aD Q,54,[vi cJ,.slice B6 aM.length c6,.slice B7 aO.length c7,.slice B8 bU.length c8],4⟩
   have ib:ST U [] _ [O0,O1,n7,⟨B8,57,(bU.flatMap eN1),c8*3⟩] [⟨B7,(aO.flatMap eN0)⟩,⟨B6,(aM.flatMap eN0)⟩,P,O,u,o]:=ib
   refine rn (cr ?_)
   refine sQ 23 (zP rfl (hf.g 17 4))<|sQ 17 yv (rn ?_)
   obtain rfl:=sI jv
   have kw:ST U [] _ [O0,O1,n7,⟨B8,57,(bU.flatMap eN1),c8*3⟩] [⟨B7,(aO.flatMap eN0)⟩,⟨B6,(aM.flatMap eN0)⟩,u,o]:=ib.sT [0,1,4,5]
   exact ⟨K13,Nat.lt_succ_self _,cJ,aM,aO,bU,(i64.wrap (t1+1)),B6,c6,B7,c7,B8,c8,(hf.a 1 0 (hf.a 2 1 (hf.a 4 2 (hf.a 16 3 (fc rfl fn_))))),pC,(len_le rfl pD),pE,(len_le rfl pF),(kw.sel [0,1,2,3] rfl rfl),kM⟩
  ·skip
   have kx:=cf' jt ju
   refine cw_exit rfl ?_
   obtain rfl:=sI kx
   obtain rfl:=sI kM
   refine cq (cr ?_)
   refine sS 24 (Ys_bslice0 (s:=3) (e:=57) kL K15 K8 rfl) ?_
   rintro _ pG ⟨pH,rfl,ic⟩
   refine sQ 6 yu (rn (cq (cq (cr ?_))))
   refine sQ 25 (yv rfl (hf.g 4 2))<|sQ 26 (Y_nilCheck (B:=aD Q) (i:=0) rfl rfl)<|sQ 27 (yd (aD Q) 0 0 K82 K23)<|sQ 28 (yz 3 K29 (ic.c 2))<|sQ 29 (Y_len K15 rfl rfl)<|sQ 30 zM ?_
   refine sQ 7 yu (rn ?_)
   obtain ⟨pI,n8,e5⟩:=bI oz
   refine cw_block ?_
   let n9:Ob:=⟨aD Q,54,[vi Qubits,.slice B3 XImages.length c3,.slice B4 ZImages.length c4,.slice B5 gates.length c5],4⟩
   refine cw_loop (fun k f w=>∃ (out:List Ab) (i1:Int) (f9:Option Addr) (ga:Nat),FF f [(1,pt (aD b) 0),(2,pt (aD b1) 0),(4,pt (aD Q) 0),(6,.slice f9 out.length ga),(7,vi i1)]∧ST U [] w [O0,O1,n9,⟨B5,57,(gates.flatMap eN1),c5*3⟩,⟨f9,57,(out.flatMap eN1),ga*3⟩] [⟨B4,(ZImages.flatMap eN0)⟩,⟨B3,(XImages.flatMap eN0)⟩,u,o]∧whX (DY gates) k (out,i1)=some pI) fuel ⟨[],(i64.wrap ((gates.length:Int)-1)),aD pH,0,(hf.a 1 0 (hf.a 2 1 (hf.a 4 2 (fc rfl (fc rfl fn_))))),(ic.sel [0,1,2,3,4] rfl rfl),n8⟩ ?_
   rintro ql f w ⟨out,i1,f9,ga,aJ,b7,oa⟩
   obtain ⟨ob,qN,rfl,ie,jk⟩:=whX_go oa
   unfold DY at ie
   refine cq (cq (cr ?_))
   refine sQ 31 (yv rfl (aJ.g 7 4))<|sQ 32 (Y_ge rfl rfl rfl) (rn ?_)
   refine cw_cond rfl (fun ig=>?_) (fun ig=>?_)
   ·skip
    have ky:=ct ie ig
    refine cw_skip (cq ?_)
    obtain ⟨pJ,dN,kz⟩:=bI ky
    refine cw_mid (fun f w=>∃ (el:List Ab) (gc:Option Addr) (gf:Nat),el=pJ∧FF f [(1,pt (aD b) 0),(2,pt (aD b1) 0),(4,pt (aD Q) 0),(6,.slice gc el.length gf),(7,vi i1)]∧ST U [] w [O0,O1,n9,⟨B5,57,(gates.flatMap eN1),c5*3⟩,⟨gc,57,(el.flatMap eN1),gf*3⟩] [⟨B4,(ZImages.flatMap eN0)⟩,⟨B3,(XImages.flatMap eN0)⟩,u,o]) ?_ ?_
    ·skip
     refine cw_block (cq (cr ?_))
     refine sQ 35 (yv rfl (aJ.g 6 3))<|sQ 36 (yv rfl (aJ.g 4 2))<|sQ 37 (Y_nilCheck (B:=aD Q) (i:=0) rfl rfl)<|sQ 38 (yd (aD Q) 0 0 K82 K23)<|sQ 39 (yz 3 K29 (b7.c 2))<|sQ 40 (yv rfl (aJ.g 7 4)) ?_
     obtain ⟨bD,a9,dN⟩:=bI dN
     let iW:List Value:=[vi bD.Kind,vi bD.A,vi bD.B]
     refine sQ 41 (yI B5 i1 K15 K8 (gi_isSome eN4 rfl (b7.c 3) a9) (getI_nn a9) (getI_ltI a9 rfl))<|sQ 42 (ya B5 (i1.toNat*3) (gates.flatMap eN1) iW K27 K8 (b7.c 3) rfl rfl (eN4 bD) (gi_seg eN4 a9)) ?_
     refine sS 43 (yF 3 1 iW 3 b7 K15 K8 K64 rfl (mpc rfl mpn)) ?_
     rintro _ pK ⟨qO,rfl,ih⟩
     obtain ⟨pL,dN⟩:=chk_inv dN
     refine sS 44 (aP 3 24 4 out [bD] ih K15 K8 K59 K28 eN4 BK (ih.c 5) pL) ?_
     rintro _ pM ⟨oc,od,rfl,cn⟩
     refine sQ 6 yu (rn (cq (cr ?_)))
     refine sQ 45 (yv rfl (aJ.g 4 2))<|sQ 46 (Y_nilCheck (B:=aD Q) (i:=0) rfl rfl)<|sQ 47 (yd (aD Q) 0 0 K82 K23)<|sQ 48 (yz 3 K29 (cn.c 2))<|sQ 49 (yv rfl (aJ.g 7 4))<|sQ 50 (yI B5 i1 K15 K8 (gi_isSome eN4 rfl (cn.c 3) a9) (getI_nn a9) (getI_ltI a9 rfl)) ?_
     refine sQ 51 (yd B5 (i1.toNat*3) 0 K42 K1)<|sQ 52 (yz (i1.toNat*3+0) K0 (cn.c 3) rfl rfl (gi_at eN4 a9 rfl))<|sQ 53 zE (rn ?_)
     refine cw_cond rfl (fun ii=>?_) (fun ii=>?_)
     ·skip
      have e6:=ct dN ii
      obtain ⟨oe,e6⟩:=chk_inv e6
      refine ra_start (cn.se [0,1,2,3,5]).fn (by kernel_rfl) ?_
      have ij:=cn.drew
      have bt:=ij.se [0,1,2,3,5]
      refine rq 0 54 rfl bt (fun _ q=>yv)<|rq 1 55 rfl bt (fun _ q=>(yv rfl (aJ.g 4 2)))<|rq 2 56 rfl bt (fun _ q=>(Y_nilCheck (B:=aD Q) (i:=0) rfl rfl))<|rq 3 57 rfl bt (fun _ q=>(yd (aD Q) 0 0 K82 K23))<|rq 4 58 rfl bt (fun _ q=>(yz 3 K29 (ST.c q 2))) ?_
      refine rq 5 59 rfl bt (fun _ q=>(yv rfl (aJ.g 7 4)))<|rq 6 60 rfl bt (fun _ q=>(yI B5 i1 K15 K8 (gi_isSome eN4 rfl (ST.c q 3) a9) (getI_nn a9) (getI_ltI a9 rfl)))<|rq 7 61 rfl bt (fun _ q=>(ya B5 (i1.toNat*3) (gates.flatMap eN1) iW K27 K8 (ST.c q 3) rfl rfl (eN4 bD) (gi_seg eN4 a9)))<|rq 8 62 rfl bt (fun _ q=>(yv rfl (aJ.g 4 2)))<|rq 9 63 rfl bt (fun _ q=>(Y_nilCheck (B:=aD Q) (i:=0) rfl rfl)) ?_
      refine rq 10 64 rfl bt (fun _ q=>(yd (aD Q) 0 0 K82 K23))<|rq 11 65 rfl bt (fun _ q=>(yz 3 K29 (ST.c q 2)))<|rq 12 66 rfl bt (fun _ q=>(yv rfl (aJ.g 7 4)))<|rq 13 67 rfl bt (fun _ q=>(yI B5 i1 K15 K8 (gi_isSome eN4 rfl (ST.c q 3) a9) (getI_nn a9) (getI_ltI a9 rfl)))<|rq 14 68 rfl bt (fun _ q=>(ya B5 (i1.toNat*3) (gates.flatMap eN1) iW K27 K8 (ST.c q 3) rfl rfl (eN4 bD) (gi_seg eN4 a9))) ?_
      refine rA [15] ?_
      refine rS 69 15 rfl (yF 3 2 [vi bD.Kind,vi bD.A,vi bD.B,vi bD.Kind,vi bD.A,vi bD.B] 6 ij K15 K8 K64 rfl (mpc rfl (mpc rfl mpn))) ?_ aN
      rintro _ pN ⟨qP,rfl,e7⟩
      refine ⟨(e7.se [0,1,2,3,5]),?_⟩
      refine rA [16] ?_
      refine rS 70 16 rfl (aP 3 24 4 (out++[bD]) [bD,bD] e7 K15 K8 K59 K28 eN4 BK (e7.c 6) oe) ?_ aN
      rintro _ pO ⟨og,oh,rfl,e8⟩
      refine ⟨(e8.se [0,1,2,3,5]),?_⟩
      refine rq 17 6 rfl (e8.se [0,1,2,3,5]) (fun _ q=>yu) ?_
      refine ra_done (by kernel_rfl) ?_
      exact ⟨((out++[bD])++[bD,bD]),og,oh,(sI e6),(aJ.a 1 0 (aJ.a 2 1 (aJ.a 4 2 (fc rfl (aJ.a 7 4 fn_))))),(e8.sel [0,1,2,3,4] rfl rfl)⟩
     ·skip
      have kA:=cf' dN ii
      refine cw_skip ?_
      exact ⟨(out++[bD]),oc,od,(sI kA),(aJ.a 1 0 (aJ.a 2 1 (aJ.a 4 2 (fc rfl (aJ.a 7 4 fn_))))),(cn.sel [0,1,2,3,4] rfl rfl)⟩
    rintro f w ⟨el,gc,gf,rfl,em,kB⟩
    refine cr ?_
    refine sQ 33 (yv rfl (em.g 7 4))<|sQ 34 zM<|sQ 7 yu (rn ?_)
    obtain rfl:=sI kz
    exact ⟨ob,Nat.lt_succ_self _,el,(i64.wrap (i1-1)),gc,gf,(em.a 1 0 (em.a 2 1 (em.a 4 2 (em.a 6 3 (fc rfl fn_))))),(kB.sel [0,1,2,3,4] rfl rfl),jk⟩
   ·skip
    have kC:=cf' ie ig
    refine cw_exit rfl ?_
    obtain rfl:=sI kC
    obtain rfl:=sI jk
    refine cq (cr ?_)
    refine sQ 71 (yd (aD b) 0 0 K22 K1 rfl (aJ.g 1 0))<|sQ 72 (yz 0 K0 (b7.c 0))<|sQ 73 (yv rfl (aJ.g 6 3)) ?_
    obtain ⟨⟨jl,oi⟩,oj,e5⟩:=bI e5
    refine sc 74 rfl rfl (yc Mh (M9 t.Qubits out f9 ga out.length _ rfl (b7.inn0 [(false,4)] rfl) oj)) ?_
    rintro _ pP ⟨jm,jn,rfl,ol⟩
    have kD:=b7.out0 ol
    refine sQ 75 (ye (.agg #[vi jl.Qubits,.slice jm jl.Gates.length jn]))<|sQ 76 (ye (.bool oi)) ?_
    refine s0 (yK 1 2 0 kD K9 rfl (aJ.g 2 1)) ?_
    rintro _ pQ ⟨rfl,ik⟩
    refine sQ 3 yu (rn (ct_ ?_))
    obtain ⟨rfl,rfl⟩:=pr2 (sI e5)
    exact ret2 Tryz.results5 (rX K17 K9 (ik.c 1) (aJ.g 2 1)) rT ⟨jm,jn,rfl,(ik.sN [5])⟩

theorem Tw (n:Int) (p:Aa)  (w0:World)  (hS:ST w0 [] w0 [] []) {r_:Bool} (o:D8 n p=some r_) :
  CV Tryz.prog 59 #[vi n,.agg #[vi p.Phase,vi p.X,vi p.Z]] w0 (fun v w'=>v=.bool r_∧ST w0 [] w' [] []):=by
 unfold D8 at o
 refine cv_of_cw 30 Tryz.func59 rfl Tryz.ntmps59 rfl ?_
 refine cq (cr ?_)
 refine sS 3 (yV [vi p.Phase,vi p.X,vi p.Z] 3 hS) ?_
 rintro _ w_ ⟨b,rfl,Q⟩
 refine sQ 4 yu (rn (cq (cr ?_)))
 refine sQ 5 yv ?_
 obtain ⟨ay,hc,o⟩:=bI o
 refine sc 6 rfl rfl (yc K58 (BJ n 1 5 _  (Q.inn0 [] rfl) hc)) ?_
 rintro _ aA ⟨rfl,hd⟩
 have u:=Q.out00 hd
 refine sQ 7 yv ?_
 refine sgq 8 rfl rfl (uT_ 7) (fun hg=>(yd (aD b) 0 0 K30 K1)) ?_
 refine sgq 9 rfl rfl (uT_ 7) (fun ae=>(yz 0 K0 (u.c 0) rfl (gv_of ae))) ?_
 obtain ⟨af,ag,o⟩:=bI o
 refine sgc 10 (v:=.bool af) (F:=u.fn) rfl rfl (uT_ 7) u (fun S=>(yc K58 (CV.mono (BJ p.Phase 0 3 _  (u.inn0 [] rfl) (gb_inv ag S)) (by rintro _ _ ⟨rfl,h⟩; exact ⟨rfl,u.out00 h⟩)) rfl (mc (gv_of S) (mc rfl (mc rfl mn))))) ?_
 rintro aB D
 refine sQ 11 yA<|sQ 12 yv ?_
 refine sgq 13 rfl rfl (uT_ 12) (fun aE=>(yd (aD b) 0 0 K47 K1)) ?_
 refine sgq 14 rfl rfl (uT_ 12) (fun ah=>(yz 1 K0 (D.c 0) rfl (gv_of ah))) ?_
 refine sgq 15 rfl rfl (uT_ 12) (fun aF=>yv) ?_
 refine sgq 16 rfl rfl (uT_ 12) (fun ai=>(Y_conv (k:=.i64) (a:=n) (T:=3) (T':=103) K41 K43 rfl (gv_of ai))) ?_
 obtain ⟨aj,o⟩:=chk_inv o
 refine sgq 17 rfl rfl (uT_ 12) (fun U=>(Y_shl (k:=.i64) (a:=1) (k':=.u64) (b:=(IntKind.u64.wrap n)) rfl rfl (gv_of U) (aj U))) ?_
 refine sgq 18 rfl rfl (uT_ 12) (fun ak=>(zM rfl (gv_of ak))) ?_
 obtain ⟨al,am,o⟩:=bI o
 refine sgc 19 (v:=.bool al) (F:=D.fn) rfl rfl (uT_ 12) D (fun P=>(yc K58 (CV.mono (BJ p.X 0 (i64.wrap ((shlK .i64 1 (IntKind.u64.wrap n))-1)) _  (D.inn0 [] rfl) (gb_inv am P)) (by rintro _ _ ⟨rfl,h⟩; exact ⟨rfl,D.out00 h⟩)) rfl (mc (gv_of P) (mc rfl (mc (gv_of P) mn))))) ?_
 rintro aG H
 refine sQ 20 yA<|sQ 21 yv ?_
 refine sgq 22 rfl rfl (uT_ 21) (fun ar=>(yd (aD b) 0 0 K48 K1)) ?_
 refine sgq 23 rfl rfl (uT_ 21) (fun V=>(yz 2 K0 (H.c 0) rfl (gv_of V))) ?_
 refine sgq 24 rfl rfl (uT_ 21) (fun au=>yv) ?_
 refine sgq 25 rfl rfl (uT_ 21) (fun W=>(Y_conv (k:=.i64) (a:=n) (T:=3) (T':=103) K41 K43 rfl (gv_of W))) ?_
 obtain ⟨aa,o⟩:=chk_inv o
 refine sgq 26 rfl rfl (uT_ 21) (fun O=>(Y_shl (k:=.i64) (a:=1) (k':=.u64) (b:=(IntKind.u64.wrap n)) rfl rfl (gv_of O) (aa O))) ?_
 refine sgq 27 rfl rfl (uT_ 21) (fun ab=>(zM rfl (gv_of ab))) ?_
 obtain ⟨an,ao,o⟩:=bI o
 refine sgc 28 (v:=.bool an) (F:=H.fn) rfl rfl (uT_ 21) H (fun J=>(yc K58 (CV.mono (BJ p.Z 0 (i64.wrap ((shlK .i64 1 (IntKind.u64.wrap n))-1)) _  (H.inn0 [] rfl) (gb_inv ao J)) (by rintro _ _ ⟨rfl,h⟩; exact ⟨rfl,H.out00 h⟩)) rfl (mc (gv_of J) (mc rfl (mc (gv_of J) mn))))) ?_
 rintro aI ap
 refine sQ 29 yA<|sQ 4 yu (rn (ct_ ?_))
 obtain rfl:=sI o
 exact e1 Tryz.results59 (ap.sN [])

theorem Pz (a:Aa) (b:Aa)  (U:World)  (hS:ST U [] U [] []) {r_:Bool} (P:EN a b=some r_) :
  CV Tryz.prog 60 #[.agg #[vi a.Phase,vi a.X,vi a.Z],.agg #[vi b.Phase,vi b.X,vi b.Z]] U (fun v w'=>v=.bool r_∧ST U [] w' [] []):=by
 unfold EN at P
 refine cv_of_cw 12 Tryz.func60 rfl Tryz.ntmps60 rfl ?_
 refine cq (cr ?_)
 refine sS 2 (yV [vi a.Phase,vi a.X,vi a.Z] 3 hS) ?_
 rintro _ w_ ⟨b1,rfl,V⟩
 refine sS 3 (yV [vi b.Phase,vi b.X,vi b.Z] 3 V) ?_
 rintro _ af ⟨b2,rfl,Q⟩
 refine sQ 4 yu (rn (cq ?_))
 obtain ⟨o,hc,P⟩:=bI P
 obtain ⟨u,W,P⟩:=bI P
 refine ra_start (Q.se [0,1]).fn (by kernel_rfl) ?_
 have H:=Q.drew
 have D:=H.se [0,1]
 refine rq 0 5 rfl D (fun _ q=>(yw 0 K6 K2 (ST.c q 0)))<|rq 1 6 rfl D (fun _ q=>(yw 0 K6 K2 (ST.c q 1)))<|rq 3 8 rfl D (fun _ q=>(yw 0 K6 K2 (ST.c q 1)))<|rq 4 9 rfl D (fun _ q=>(yw 0 K6 K2 (ST.c q 0))) ?_
 refine rA [2] ?_
 refine rC 7 2 rfl (yc K75 (D7 a b _  (H.inn0 [] rfl) hc)) ?_ aN
 rintro _ ag ⟨rfl,hd⟩
 have J:=H.out00 hd
 refine ⟨(J.se [0,1]),?_⟩
 refine rA [5] ?_
 refine rC 10 5 rfl (yc K75 (D7 b a _  (J.inn0 [] rfl) W)) ?_ aN
 rintro _ ah ⟨rfl,aa⟩
 have S:=J.out00 aa
 have O:=S.se [0,1]
 refine ⟨O,?_⟩
 refine rq 6 11 rfl O (fun _ q=>(Y_eqA (xs:=#[vi o.Phase,vi o.X,vi o.Z]) (ys:=#[vi u.Phase,vi u.X,vi u.Z]) (b:=((o.Phase==u.Phase)&&((o.X==u.X)&&((o.Z==u.Z)&&true)))) GK rfl rfl rfl (eqr_struct (xs:=[vi o.Phase,vi o.X,vi o.Z]) (ys:=[vi u.Phase,vi u.X,vi u.Z]) K60 K70 (pts_sc K0 rfl rfl (eqr_int K16) (pts_sc K0 rfl rfl (eqr_int K16) (pts_sc K0 rfl rfl (eqr_int K16) pts_nil))))))<|rq 7 4 rfl O (fun _ q=>yu) ?_
 refine ra_done (by kernel_rfl) ?_
 refine ct_ ?_
 obtain rfl:=sI P
 exact e1 Tryz.results60 (S.sN [])

theorem SZ (t:Ae) (B:Option Addr) (c n:Nat) (B1:Option Addr) (c1 n1:Nat) (V:World) (hn:t.XImages.length=n) (a9:t.ZImages.length=n1) (hS:ST V [] V [] [⟨B,(t.XImages.flatMap eN0)⟩,⟨B1,(t.ZImages.flatMap eN0)⟩]) {r_:Bool} (hF:Es t=some r_) :
  CV Tryz.prog 24 #[.agg #[vi t.Qubits,.slice B n c,.slice B1 n1 c1]] V (fun v w'=>v=.bool r_∧ST V [] w' [] []):=by
 subst hn
 subst a9
 unfold Es at hF
 refine cv_of_cw 74 Tryz.func24 rfl Tryz.ntmps24 rfl ?_
 refine cq (cr ?_)
 let V6:List Value:=[vi t.Qubits,.slice B t.XImages.length c,.slice B1 t.ZImages.length c1]
 refine sS 1 (yV V6 3 hS) ?_
 rintro _ w_ ⟨b,rfl,aq⟩
 refine sQ 2 yu (rn (cq (cq (cr ?_))))
 refine sQ 8 (yd (aD b) 0 0 K22 K1)<|sQ 9 (yz 0 K0 (aq.c 0)) ?_
 obtain ⟨bV,hc,hF⟩:=bI hF
 refine sc 10 rfl rfl (yc K58 (BJ t.Qubits 1 5 _  (aq.inn0 [] rfl) hc)) ?_
 rintro _ bW ⟨rfl,hd⟩
 have H:=aq.out00 hd
 refine sQ 11 yn<|sQ 12 yv ?_
 refine sgq 13 rfl rfl (uF_ 12) (fun hg=>(yd (aD b) 0 0 K18 K4)) ?_
 refine sgq 14 rfl rfl (uF_ 12) (fun ba=>(yz 1 K7 (H.c 0) rfl (gv_of ba))) ?_
 refine sgq 15 rfl rfl (uF_ 12) (fun bb=>(Y_len K5 rfl (gv_of bb))) ?_
 refine sgq 16 rfl rfl (uF_ 12) (fun bX=>(yd (aD b) 0 0 K22 K1)) ?_
 refine sgq 17 rfl rfl (uF_ 12) (fun bc=>(yz 0 K0 (H.c 0) rfl (gv_of bc))) ?_
 refine sgq 18 rfl rfl (uF_ 12) (fun aG=>(Y_ne rfl (gv_of aG) (gv_of aG))) ?_
 refine sQ 19 yO<|sQ 20 yv ?_
 refine sgq 21 rfl rfl (uF_ 20) (fun bY=>(yd (aD b) 0 0 K20 K4)) ?_
 refine sgq 22 rfl rfl (uF_ 20) (fun bd=>(yz 2 K7 (H.c 0) rfl (gv_of bd))) ?_
 refine sgq 23 rfl rfl (uF_ 20) (fun be=>(Y_len K5 rfl (gv_of be))) ?_
 refine sgq 24 rfl rfl (uF_ 20) (fun bZ=>(yd (aD b) 0 0 K22 K1)) ?_
 refine sgq 25 rfl rfl (uF_ 20) (fun aI=>(yz 0 K0 (H.c 0) rfl (gv_of aI))) ?_
 refine sgq 26 rfl rfl (uF_ 20) (fun am=>(Y_ne rfl (gv_of am) (gv_of am))) ?_
 refine sQ 27 yO (rn ?_)
 refine cw_cond rfl (fun hb=>?_) (fun hb=>?_)
 ·skip
  have bf:=ct hF hb
  refine cq (cr ?_)
  refine sQ 2 yu (rn (ct_ ?_))
  obtain rfl:=sI bf
  exact e1 Tryz.results24 (H.sN [])
 ·skip
  have J:=cf' hF hb
  refine cw_skip (cq ?_)
  obtain ⟨aJ,J⟩:=chk_inv J
  obtain ⟨aK,J⟩:=chk_inv J
  refine ra_start (H.se [0]).fn (by kernel_rfl) ?_
  have aL:=H.drew
  have ai:=aL.se [0]
  refine rq 1 29 rfl ai (fun _ u=>(yd (aD b) 0 0 K18 K4))<|rq 2 30 rfl ai (fun _ u=>(yz 1 K7 (ST.c u 0)))<|rq 4 32 rfl ai (fun _ u=>(yd (aD b) 0 0 K20 K4))<|rq 5 33 rfl ai (fun _ u=>(yz 2 K7 (ST.c u 0))) ?_
  refine rA [0] ?_
  refine rS 28 0 rfl (Ys_bslice0 (s:=3) (e:=64) aL K5 K2 rfl) ?_ aN
  rintro _ b0 ⟨b1,rfl,ar⟩
  refine ⟨(ar.se [0]),?_⟩
  refine rA [3] ?_
  refine rS 31 3 rfl (Ys_append (s:=3) (by':=24) (i:=1) (nn:=0) (c:=0) (k:=t.XImages.length) (len:=t.XImages.length) (B:=aD b1) (xs:=(t.XImages.flatMap eN0)) (cs':=(t.XImages.flatMap eN0)) ar K5 K2 K63 K14 rfl (by decide) rfl rfl rfl rfl (fm_lenn (l:=[]) eN2 rfl) rfl (ar.rf (i:=0) rfl) (fm_lenn (l:=t.XImages) eN2 rfl) (fm_one' (enc:=eN0) BR t.XImages) (by have:=aJ; omega) (by have:=aJ; simp only [maxLen]; omega) rfl (app_len0 (l:=t.XImages) rfl)) ?_ aN
  rintro _ b6 ⟨B2,c2,rfl,au⟩
  refine ⟨(au.se [0]),?_⟩
  refine rA [6] ?_
  refine rS 34 6 rfl (aP 3 24 1 t.XImages t.ZImages au K5 K2 K63 K14 eN2 BR (au.rf (i:=1) rfl) aK) ?_ aN
  rintro _ b7 ⟨W,c3,rfl,ac⟩
  refine ⟨(ac.se [0]),?_⟩
  refine rq 7 3 rfl (ac.se [0]) (fun _ u=>yu) ?_
  refine ra_done (by kernel_rfl) ?_
  refine cq (cq (cr ?_))
  refine sQ 35 yv<|sQ 36 (Y_len K5 rfl rfl)<|sQ 37 yv (rn ?_)
  obtain ⟨hN,J⟩:=chk_inv J
  obtain ⟨z,hz,av⟩:=bI J
  let R2:Ro:=⟨W,((t.XImages++t.ZImages).flatMap eN0)⟩
  let R3:Ro:=⟨B1,(t.ZImages.flatMap eN0)⟩
  let R4:Ro:=⟨B,(t.XImages.flatMap eN0)⟩
  have bg:Org V [] [R4,R3] [R2]:=ST.orgOwn ac (i:=1) rfl
  have aM:(t.XImages++t.ZImages).length≤c3:=(ac.lencap (i:=1) rfl (fm_lenn (l:=(t.XImages++t.ZImages)) eN2 rfl) rfl rfl)
  let O0:Ob:=⟨aD b,25,V6,3⟩
  have bh:ST V [] _ [O0] [R2,R4,R3]:=ac.freeze (i:=1) rfl
  refine cw_block ?_
  refine cw_loop (fun k f w=>∃ (i:Nat),FF f [(1,pt (aD b) 0),(3,.slice W ((t.XImages++t.ZImages).length) c3),(35,.slice W ((t.XImages++t.ZImages).length) c3),(36,vi ((t.XImages++t.ZImages).length:Int)),(37,vi (i:Int))]∧Org V [] [R4,R3] [R2]∧(t.XImages++t.ZImages).length≤c3∧ST V [] w [O0] [R2,R4,R3]∧i+k=(t.XImages++t.ZImages).length∧forX (Em t) k i ()=some z) ((t.XImages++t.ZImages).length) ⟨0,(fc rfl (fc rfl (fc rfl (fc rfl (fc rfl fn_))))),bg,(len_le rfl aM),(bh.sel [0] rfl rfl),Nat.zero_add _,hz⟩ ?_
  rintro k_ f w ⟨i,hf,ho,hq,aj,ca,hL⟩
  refine cq (cr ?_)
  refine sQ 38 (zL rfl (hf.g 37 4) (hf.g 36 3)) (rn (cq ?_))
  refine cw_cond rfl (fun ay=>?_) (fun ay=>?_)
  ·skip
   have aQ:i<(t.XImages++t.ZImages).length:=by have h:=of_decide_eq_true ay; omega
   obtain ⟨K13,rfl⟩:∃ k2,k_=k2+1:=⟨k_-1,by omega⟩
   obtain ⟨y,O,aA⟩:=forX_go hL
   unfold Em at O
   refine cw_skip (cq (cw_block (cq (cr ?_))))
   refine sQ 39 (yv rfl (hf.g 37 4)) ?_
   obtain ⟨x,hx,O⟩:=bI O
   refine sQ 40 (yI W (i:Int) K5 K2 (gi_isSome eN2 rfl (aj.rf (i:=0) rfl) hx) (getI_nn hx) (getI_ltI hx rfl) rfl (hf.g 35 2) (hf.g 37 4))<|sQ 41 (ya W ((i:Int).toNat*3) ((t.XImages++t.ZImages).flatMap eN0) [vi x.Phase,vi x.X,vi x.Z] K6 K2 (aj.rf (i:=0) rfl) rfl rfl (eN2 x) (gi_seg eN2 hx)) ?_
   refine sS 5 (yN [vi 0,vi 0,vi 0] 3 aj K14) ?_
   rintro _ cb ⟨b2,rfl,bn⟩
   refine sQ 4 yu ?_
   refine s0 (yK 1 3 0 bn K2) ?_
   rintro _ cc ⟨rfl,Q⟩
   refine rn (cq (cq (cr ?_)))
   refine sQ 42 (yd (aD b) 0 0 K22 K1 rfl (hf.g 1 0))<|sQ 43 (yz 0 K0 (Q.c 0))<|sQ 44 (yw 0 K6 K2 (Q.c 1)) ?_
   obtain ⟨cd,bo,O⟩:=bI O
   refine sc 45 rfl rfl (yc PC (Tw t.Qubits x _  (Q.inn0 [] rfl) bo)) ?_
   rintro _ ce ⟨rfl,bp⟩
   have ae:=Q.out00 bp
   refine sQ 46 yn<|sQ 47 yv ?_
   refine sgq 48 rfl rfl (uF_ 47) (fun bP=>(yd (aD b2) 0 0 K30 K1)) ?_
   refine sgq 49 rfl rfl (uF_ 47) (fun aR=>(yz 0 K0 (ae.c 1) rfl (gv_of aR))) ?_
   refine sgq 50 rfl rfl (uF_ 47) (fun aT=>(Y_rem (k:=.i64) (a:=x.Phase) (b:=2) rfl (gv_of aT) rfl (by decide))) ?_
   refine sgq 51 rfl rfl (uF_ 47) (fun aU=>(zE rfl (gv_of aU))) ?_
   refine sQ 52 yO (rn ?_)
   refine cw_cond rfl (fun aB=>?_) (fun aB=>?_)
   ·skip
    have bq:=ct O aB
    refine cq (cr ?_)
    refine sQ 2 yu (rn (ct_ ?_))
    obtain rfl:=sI bq
    obtain rfl:=sI aA
    obtain rfl:=sI av
    exact e1 Tryz.results24 (ae.sN [])
   ·skip
    have af:=cf' O aB
    refine cw_skip (cq (cr ?_))
    refine sQ 53 (yv rfl (hf.g 3 1))<|sQ 54 yv ?_
    obtain ⟨cg,af⟩:=chk_inv af
    have bt:(t.XImages++t.ZImages).length≤c3:=hq
    have hv:(List.take i (t.XImages++t.ZImages)).length=i:=(take_len rfl (by omega))
    have ch:i≤c3:=by omega
    let R5:Ro:=⟨W,((List.take i (t.XImages++t.ZImages)).flatMap eN0)⟩
    have ci:Org V [] [R4,R3] [R5]:=org_view eN2 (q:=c3) ho (sv_zero _ _ _).symm rfl
    let O1:Ob:=⟨aD b2,64,[vi x.Phase,vi x.X,vi x.Z],3⟩
    have aV:ST V [] _ [O0,O1] [R5,R2,R4,R3]:=ST.view eN2 ae (i:=0) rfl (lo:=0) (h:=i) (q:=c3) (by omega) (by omega) (sv_zero _ _ _).symm rfl
    refine sQ 55 (Y_slice0 (B:=W) (m:=(t.XImages++t.ZImages).length) (c:=c3) (h:=i) (s:=3) K5 K2 rfl rfl (bnd_some rfl rfl) (by omega))<|sQ 56 (Y_len K5 rfl rfl)<|sQ 57 yv (rn ?_)
    obtain ⟨bw,af⟩:=chk_inv af
    obtain ⟨z1,bA,aY⟩:=bI af
    refine cw_block ?_
    refine cw_loop (fun k f w=>∃ (i1:Nat),FF f [(1,pt (aD b) 0),(3,.slice W ((t.XImages++t.ZImages).length) c3),(4,vi (i:Int)),(5,pt (aD b2) 0),(35,.slice W ((t.XImages++t.ZImages).length) c3),(36,vi ((t.XImages++t.ZImages).length:Int)),(37,vi (i:Int)),(55,.slice W i c3),(56,vi (i:Int)),(57,vi (i1:Int))]∧ST V [] w [O0,O1] [R5,R2,R4,R3]∧i1+k=i∧forX (FD i t x) k i1 ()=some z1) i ⟨0,(hf.a 1 0 (hf.a 3 1 (fc rfl (fc rfl (hf.a 35 2 (hf.a 36 3 (hf.a 37 4 (fc rfl (fc rfl (fc rfl fn_)))))))))),(aV.sel [0,1] rfl rfl),Nat.zero_add _,bA⟩ ?_
    rintro K35 f w ⟨i1,o,S,bQ,a0⟩
    refine cq (cr ?_)
    refine sQ 58 (zL rfl (o.g 57 9) (o.g 56 8)) (rn (cq ?_))
    refine cw_cond rfl (fun ag=>?_) (fun ag=>?_)
    ·skip
     have a1:i1<i:=by have h:=of_decide_eq_true ag; omega
     obtain ⟨K68,rfl⟩:∃ k2,K35=k2+1:=⟨K35-1,by omega⟩
     obtain ⟨y1,P,a2⟩:=forX_go a0
     unfold FD at P
     refine cw_skip (cq (cw_block (cq (cr ?_))))
     refine sQ 59 (yv rfl (o.g 57 9)) ?_
     obtain ⟨x1,al,P⟩:=bI P
     refine sQ 60 (yI W (i1:Int) K5 K2 (gi_isSome eN2 rfl (S.rf (i:=0) rfl) al) (getI_nn al) (getI_ltI al hv) rfl (o.g 55 7) (o.g 57 9))<|sQ 61 (ya W ((i1:Int).toNat*3) ((List.take i (t.XImages++t.ZImages)).flatMap eN0) [vi x1.Phase,vi x1.X,vi x1.Z] K6 K2 (S.rf (i:=0) rfl) rfl rfl (eN2 x1) (gi_seg eN2 al)) ?_
     refine sS 7 (yN [vi 0,vi 0,vi 0] 3 S K14) ?_
     rintro _ ck ⟨b3,rfl,a5⟩
     refine sQ 6 yu ?_
     refine s0 (yK 2 3 0 a5 K2) ?_
     rintro _ cl ⟨rfl,ap⟩
     refine rn (cq ?_)
     obtain ⟨bB,bC,P⟩:=bI P
     refine ra_start (ap.se [0,1,2]).fn (by kernel_rfl) ?_
     have ah:=ap.drew
     have D:=ah.se [0,1,2]
     refine rq 0 62 rfl D (fun _ u=>(yw 0 K6 K2 (ST.c u 1) rfl (o.g 5 3)))<|rq 1 63 rfl D (fun _ u=>(yw 0 K6 K2 (ST.c u 2)))<|rq 3 65 rfl D (fun _ u=>(yv rfl (o.g 4 2)))<|rq 4 66 rfl D (fun _ u=>yv)<|rq 5 67 rfl D (fun _ u=>(yd (aD b) 0 0 K22 K1 rfl (o.g 1 0))) ?_
     refine rq 6 68 rfl D (fun _ u=>(yz 0 K0 (ST.c u 0)))<|rq 7 69 rfl D (fun _ u=>zP)<|rq 8 70 rfl D (fun _ u=>zE) ?_
     refine rA [2] ?_
     refine rC 64 2 rfl (yc Qw (Pz x x1 _  (ah.inn0 [] rfl) bC)) ?_ aN
     rintro _ bR ⟨rfl,bD⟩
     have U:=ah.out00 bD
     refine ⟨(U.se [0,1,2]),?_⟩
     refine rq 9 71 rfl (U.se [0,1,2]) (fun _ u=>(Y_beq (p:=bB) (q:=((i:Int)==(i64.wrap ((i1:Int)+t.Qubits)))) K76 rfl rfl rfl)) ?_
     refine ra_done (by kernel_rfl) ?_
     refine cw_cond rfl (fun aE=>?_) (fun aE=>?_)
     ·skip
      have bE:=ct P aE
      refine cq (cr ?_)
      refine sQ 2 yu (rn (ct_ ?_))
      obtain rfl:=sI bE
      obtain rfl:=sI a2
      obtain rfl:=sI aY
      obtain rfl:=sI aA
      obtain rfl:=sI av
      exact e1 Tryz.results24 (U.sN [])
     ·skip
      have bF:=cf' P aE
      refine cw_skip (cr ?_)
      refine sQ 72 (zP rfl (o.g 57 9))<|sQ 57 yv (rn ?_)
      obtain rfl:=sI bF
      exact ⟨K68,Nat.lt_succ_self _,i1+1,(o.a 1 0 (o.a 3 1 (o.a 4 2 (o.a 5 3 (o.a 35 4 (o.a 36 5 (o.a 37 6 (o.a 55 7 (o.a 56 8 (fc (congrArg (Value.int .i64) (wr_succ a1 bw)) fn_)))))))))),(U.sel [0,1] rfl rfl),(by omega),a2⟩
    ·skip
     obtain rfl:K35=0:=by have h:=of_decide_eq_false ag; omega
     refine cw_exit rfl ?_
     obtain rfl:=sI a0
     refine cr ?_
     refine sQ 73 (zP rfl (o.g 37 6))<|sQ 37 yv (rn ?_)
     obtain rfl:=sI aY
     have a6:ST V [] _ [O0,O1] [R2,R4,R3]:=S.sT [1,2,3]
     exact ⟨K13,Nat.lt_succ_self _,i+1,(o.a 1 0 (o.a 3 1 (o.a 35 4 (o.a 36 5 (fc (congrArg (Value.int .i64) (wr_succ aQ hN)) fn_))))),ho,(len_le rfl hq),(a6.sel [0] rfl rfl),(by omega),aA⟩
  ·skip
   obtain rfl:k_=0:=by have h:=of_decide_eq_false ay; omega
   refine cw_exit rfl ?_
   obtain rfl:=sI hL
   refine cq (cr ?_)
   refine sQ 2 yu (rn (ct_ ?_))
   obtain rfl:=sI av
   exact e1 Tryz.results24 (aj.sN [])

theorem Bx (u:Aq) (o:Int) (a:Int) (b:Int) (B:Option Addr) (B1:Option Addr) (c n:Nat) (B2:Option Addr) (c1 n1:Nat) (V:Option Addr) (W n2:Nat) (w0:World) (hn:u.t.XImages.length=n) (aM:u.t.ZImages.length=n1) (aO:u.out.length=n2) (hS:ST w0 (bl [⟨B,98,[vi u.t.Qubits,.slice B1 n c,.slice B2 n1 c1,.slice V n2 W],4⟩,⟨V,57,(u.out.flatMap eN1),W*3⟩]) w0 [⟨B,98,[vi u.t.Qubits,.slice B1 n c,.slice B2 n1 c1,.slice V n2 W],4⟩,⟨V,57,(u.out.flatMap eN1),W*3⟩] [⟨B1,(u.t.XImages.flatMap eN0)⟩,⟨B2,(u.t.ZImages.flatMap eN0)⟩]) {m:Aq} (hF:Ax u o a b=some m) :
  CV Tryz.prog 91 #[pt B 0,vi o,vi a,vi b] w0 (fun v w'=>∃ (B4:Option Addr) (c3:Nat) (B5:Option Addr) (c4:Nat) (B6:Option Addr) (c5:Nat),v=.tuple #[]∧ST w0 (bl [⟨B,98,[vi u.t.Qubits,.slice B1 n c,.slice B2 n1 c1,.slice V n2 W],4⟩,⟨V,57,(u.out.flatMap eN1),W*3⟩]) w' [⟨B,98,[vi m.t.Qubits,.slice B4 m.t.XImages.length c3,.slice B5 m.t.ZImages.length c4,.slice B6 m.out.length c5],4⟩,⟨B4,64,(m.t.XImages.flatMap eN0),c3*3⟩,⟨B5,64,(m.t.ZImages.flatMap eN0),c4*3⟩,⟨B6,57,(m.out.flatMap eN1),c5*3⟩] []):=by
 subst hn
 subst aM
 subst aO
 unfold Ax at hF
 refine cv_of_cw 38 Tryz.func91 rfl Tryz.ntmps91 rfl ?_
 refine cq (cr ?_)
 refine sQ 9 yv<|sQ 10 yv<|sQ 11 yv<|sQ 12 (Y_buildS (zs:=[vi 0,vi 0,vi 0]) (vs:=[(0,vi o),(1,vi a),(2,vi b)]) (cs:=[vi o,vi a,vi b]) K69 K28 rfl (mpc rfl (mpc rfl (mpc rfl mpn))) rfl) ?_
 refine sS 8 (yN [vi 0,vi 0,vi 0] 3 hS K28) ?_
 rintro _ w_ ⟨b1,rfl,aQ⟩
 refine s0 (yK 2 3 0 aQ K8) ?_
 rintro _ bk ⟨rfl,ar⟩
 refine rn (cq ?_)
 obtain ⟨O,hc,hF⟩:=bI hF
 obtain ⟨D,aR,hF⟩:=bI hF
 refine ra_start (ar.se [1,2]).fn (by kernel_rfl) ?_
 have au:=ar.drew
 have H:=au.se [1,2]
 refine rq 0 13 rfl H (fun _ q=>yv)<|rq 1 14 rfl H (fun _ q=>yv)<|rq 2 15 rfl H (fun _ q=>(Y_nilCheck (B:=B) (i:=0) rfl rfl))<|rq 3 16 rfl H (fun _ q=>(yd B 0 2 K50 K3))<|rq 5 18 rfl H (fun _ q=>yv) ?_
 refine rq 6 19 rfl H (fun _ q=>(Y_nilCheck (B:=B) (i:=0) rfl rfl))<|rq 7 20 rfl H (fun _ q=>(yd B 0 2 K50 K3))<|rq 8 21 rfl H (fun _ q=>(yd B 0 0 K22 K1))<|rq 10 23 rfl H (fun _ q=>(yw 0 K27 K8 (ST.c q 1))) ?_
 let V7:List Value:=[vi u.t.Qubits,.slice B1 u.t.XImages.length c,.slice B2 u.t.ZImages.length c1,.slice V u.out.length W]
 let O0:Ob:=⟨B,98,V7,4⟩
 let O2:Ob:=⟨V,57,(u.out.flatMap eN1),W*3⟩
 let O3:Ob:=⟨aD b1,57,[vi o,vi a,vi b],3⟩
 let V6:List Value:=[vi u.t.Qubits,.slice B1 u.t.XImages.length c,.slice B2 u.t.ZImages.length c1]
 refine rf_in (k:=5) (ts:=[16,21]) (L:=[O0,O2,O3]) (G:=[]) [fQ 9 22 (vi u.t.Qubits) O0,fQ 4 17 (.agg V6.toArray) O0] au (flc rfl rfl rfl (fun _ _ _ _ J h P=>(yfl (yz 0 K0 (ST.cfm h P.1) rfl ((J 21 (List.Mem.tail _ (List.Mem.head _))).trans rfl)) h)) (flc rfl rfl rfl (fun _ _ _ _ J h P=>(yfl (ya B 0 V7 V6 K11 K3 (ST.cfm h P.1) rfl ((J 16 (List.Mem.head _)).trans rfl)) h)) fln)) (fun hJ=>?_)
 refine rf_force hJ (fun Z w h=>(ST.sel (ST.noF h) [1,2] rfl rfl)) (fun _=>?_)
 refine rf_all [11] (FlOK.nx hJ) (fun Z w h=>(ST.sel (ST.noF h) [1,2] rfl rfl)) (fun Z bm hz aw=>?_)
 refine rC 24 11 rfl (yc Mm (MK u.t.Qubits (Ab.mk o a b) _  (aw.inn0 [] rfl) hc)) ?_ aN
 rintro _ bo ⟨B7,c6,B8,c7,rfl,hd⟩
 have aU:=aw.out0 hd
 let O4:Ob:=⟨B7,64,(O.XImages.flatMap eN0),c6*3⟩
 let O5:Ob:=⟨B8,64,(O.ZImages.flatMap eN0),c7*3⟩
 have aV:ST w0 (bl [O0,O2]) _ (O0::O2::O3::O4::O5::(flL [fQ 4 17 (.agg V6.toArray) O0] Z++[])) [⟨B1,(u.t.XImages.flatMap eN0)⟩,⟨B2,(u.t.ZImages.flatMap eN0)⟩]:=ST.rot (pre:=[O0,O2,O3]) (G:=(flL [fQ 4 17 (.agg V6.toArray) O0] Z++[])) (xs:=[O4,O5]) aU
 refine rf_k (L:=[O0,O2,O3,O4,O5]) hz aV (fun Z w h=>(ST.sel (ST.noF h) [1,2] rfl rfl)) ?_
 refine rf_force (FlOK.nx hJ) (fun Z w h=>(ST.sel (ST.noF h) [1,2] rfl rfl)) (fun _=>?_)
 refine rf_out (fun bp ay=>?_)
 refine rA [12] ?_
 refine rC 25 12 rfl (yc Mw (MX u.t O B1 c u.t.XImages.length B2 c1 u.t.ZImages.length B7 c6 O.XImages.length B8 c7 O.ZImages.length _ rfl rfl rfl rfl (ay.inn0 [(true,0),(true,1),(false,3),(false,4)] rfl) aR)) ?_ aN
 rintro _ bq ⟨B9,c8,Q,c9,rfl,aY⟩
 have ah:=ay.out0 aY
 have am:=ah.se [1,2]
 refine ⟨am,?_⟩
 refine rq 13 26 rfl am (fun _ q=>(Y_nilCheck (B:=B) (i:=0) rfl rfl))<|rq 14 27 rfl am (fun _ q=>(yd B 0 2 K50 K3)) ?_
 refine rA [15] ?_
 let V8:List Value:=[vi D.Qubits,.slice B9 D.XImages.length c8,.slice Q D.ZImages.length c9,.slice V u.out.length W]
 let V9:List Value:=[vi D.Qubits,.slice B9 D.XImages.length c8,.slice Q D.ZImages.length c9]
 refine rZ 15 rfl (yS 0 3 B 98 (.agg V9.toArray) V9 0 V8 ah K3) ?_ aN
 rintro _ bt ⟨rfl,S⟩
 refine ⟨(S.se [1,2]),?_⟩
 refine ra_done (by kernel_rfl) ?_
 obtain ⟨a0,hF⟩:=chk_inv hF
 refine ra_start (S.se [2,3,4,5,6]).fn (by kernel_rfl) ?_
 have ai:=S.drew
 have U:=ai.se [2,3,4,5,6]
 refine rq 0 28 rfl U (fun _ q=>yv)<|rq 1 29 rfl U (fun _ q=>yv)<|rq 2 30 rfl U (fun _ q=>(Y_nilCheck (B:=B) (i:=0) rfl rfl))<|rq 3 31 rfl U (fun _ q=>(yd B 0 0 K83 K23))<|rq 5 33 rfl U (fun _ q=>(yw 0 K27 K8 (ST.c q 0))) ?_
 let O1:Ob:=⟨B,98,V8,4⟩
 refine rf_in (k:=4) (ts:=[31,33]) (L:=[O1,O2,O3,O4,O5,⟨B9,64,(D.XImages.flatMap eN0),c8*3⟩,⟨Q,64,(D.ZImages.flatMap eN0),c9*3⟩]) (G:=[]) [fQ 4 32 (.slice V u.out.length W) O1,fM 6 34 57 ([(Ab.mk o a b)].flatMap eN1) (1*3) 1 1] ai (flc rfl rfl rfl (fun _ _ _ _ J h P=>(yfl (yz 3 K29 (ST.cfm h P.1) rfl ((J 31 (List.Mem.head _)).trans rfl)) h)) (flc rfl rfl rfl (fun _ _ _ _ J h _=>(Ys_bslice (s:=3) (len:=1) (vs:=[(0,.agg #[vi o,vi a,vi b])]) (cs:=[vi o,vi a,vi b]) (zs:=[vi 0,vi 0,vi 0]) (m:=3) h K15 K8 K64 rfl (mpc ((J 33 (List.Mem.tail _ (List.Mem.head _))).trans rfl) mpn) rfl rfl rfl (by kernel_rfl) (by kernel_rfl) rfl)) fln)) (fun aF=>?_)
 refine rf_force aF (fun Z w h=>(ST.sel (ST.noF h) [2,3,4,5,6] rfl rfl)) (fun _=>?_)
 refine rf_force (FlOK.nx aF) (fun Z w h=>(ST.sel (ST.noF h) [2,3,4,5,6] rfl rfl)) (fun b2=>?_)
 refine rf_out (fun bu aj=>?_)
 refine rA [7] ?_
 refine rS 35 7 rfl (aP 3 24 1 u.out [(Ab.mk o a b)] aj K15 K8 K59 K28 eN4 BK (aj.c 7) a0) ?_ aN
 rintro _ bv ⟨ab,ac,rfl,ak⟩
 have an:=ak.se [2,3,4,5,6]
 refine ⟨an,?_⟩
 refine rq 8 36 rfl an (fun _ q=>(Y_nilCheck (B:=B) (i:=0) rfl rfl))<|rq 9 37 rfl an (fun _ q=>(yd B 0 0 K83 K23)) ?_
 refine rA [10] ?_
 refine rZ 10 rfl (yS 0 1 B 98 (.slice ab ((u.out++[(Ab.mk o a b)]).length) ac) [.slice ab ((u.out++[(Ab.mk o a b)]).length) ac] 3 [vi D.Qubits,.slice B9 D.XImages.length c8,.slice Q D.ZImages.length c9,.slice ab ((u.out++[(Ab.mk o a b)]).length) ac] ak K23) ?_ aN
 rintro _ bw ⟨rfl,al⟩
 refine ⟨(al.se [2,3,4,5,6]),?_⟩
 refine ra_done (by kernel_rfl) ?_
 obtain rfl:=sI hF
 exact ret0 Tryz.results91  ⟨B9,c8,Q,c9,ab,ac,rfl,(al.sN [0,5,6,1])⟩
end Go.VK
