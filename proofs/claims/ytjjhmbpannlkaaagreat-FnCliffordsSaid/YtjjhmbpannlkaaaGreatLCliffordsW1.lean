/- Walks: each Go function returns what its Lean function says. By program. -/
import Derived.Test.YtjjhmbpannlkaaaGreatLCliffordsFa
import Derived.Test.YtjjhmbpannlkaaaGreatLCliffordsShelf
import Derived.Test.YtjjhmbpannlkaaaGreatLibQ
import Derived.Test.YtjjhmbpannlkaaaGreatLibU
import Derived.Test.YtjjhmbpannlkaaaGreatLibZ
import Derived.Test.YtjjhmbpannlkaaaGreatLibW
set_option linter.unusedVariables false
set_option maxRecDepth 100000
set_option maxHeartbeats 4000000
namespace Go.VK
open Go.RowKit
open Go.Proofs
open Go.IntKind
attribute [local irreducible] CW RW RA CV Y Yw Yc Ys RetOf
attribute [local irreducible] DX AI AG Fp Cl CM Dz AO Gg AM Bk BO BT Co BQ Fu Fk F3 Eh A0 DH F7 D9 Di Dh Cg GP Bo Fw AU Gi Gs Cd Cq DR C0 CB Bs Bl BY Bb Bh
theorem JT (c:Ah) (B:Option Addr) (H:Option Addr) (P n:Nat) (V:World) (hn:c.code.length=n) (hS:ST V (bl [⟨B,49,[.slice H n P,vi c.at_,.int .u64 c.seed],3⟩]) V [⟨B,49,[.slice H n P,vi c.at_,.int .u64 c.seed],3⟩] [⟨H,(c.code.flatMap enc_u8)⟩]) {r_:Int} {m:Ah} (hF:DX c=some (r_,m)) :
  CV Tryz.prog 50 #[pt B 0] V (fun v w'=>v=vi r_∧ST V (bl [⟨B,49,[.slice H n P,vi c.at_,.int .u64 c.seed],3⟩]) w' [⟨B,49,[.slice H n P,vi m.at_,.int .u64 m.seed],3⟩] []):=by
 subst hn
 unfold DX at hF
 refine cv_of_cw 62 Tryz.func50 rfl Tryz.ntmps50 rfl ?_
 refine cq (cr ?_)
 refine sQ 2 yu (rn (cq (cr ?_)))
 refine sQ 3 yu (rn (cq ?_))
 obtain ⟨z,hz,W⟩:=bI hF
 let O0:Ob:=⟨B,49,[.slice H c.code.length P,vi c.at_,.int .u64 c.seed],3⟩
 refine cw_mid (fun f w=>∃ (b:Int),b=z∧FF f [(0,pt B 0),(3,vi b)]∧ST V (bl [O0]) w [O0] [⟨H,(c.code.flatMap enc_u8)⟩]) ?_ ?_
 ·skip
  refine cq ?_
  refine ra_start (hS.se [0]).fn (by kernel_rfl) ?_
  have Q:=hS.drew
  have u:=Q.se [0]
  refine rq 0 4 rfl u (fun _ q=>yv)<|rq 1 5 rfl u (fun _ q=>(Y_nilCheck (B:=B) (i:=0) rfl rfl))<|rq 2 6 rfl u (fun _ q=>(yd B 0 0 K99 K1))<|rq 3 7 rfl u (fun _ q=>(yz 1 K0 (ST.c q 0)))<|rq 4 8 rfl u (fun _ q=>yv) ?_
  refine rq 5 9 rfl u (fun _ q=>(Y_nilCheck (B:=B) (i:=0) rfl rfl))<|rq 6 10 rfl u (fun _ q=>(yd B 0 0 IN I8))<|rq 7 11 rfl u (fun _ q=>(yz 0 G7 (ST.c q 0)))<|rq 8 12 rfl u (fun _ q=>(Y_len DW rfl rfl))<|rq 9 13 rfl u (fun _ q=>zL) ?_
  refine ra_done (by kernel_rfl) ?_
  refine cw_cond rfl (fun hb=>?_) (fun hb=>?_)
  ·skip
   have S:=ct hz hb
   obtain ⟨x,hx,S⟩:=bI S
   refine ra_start u.fn (by kernel_rfl) ?_
   have Z:=Q.drew
   have o:=Z.se [0]
   refine rq 0 14 rfl o (fun _ q=>yv)<|rq 1 15 rfl o (fun _ q=>(Y_nilCheck (B:=B) (i:=0) rfl rfl))<|rq 2 16 rfl o (fun _ q=>(yd B 0 0 IN I8))<|rq 3 17 rfl o (fun _ q=>(yz 0 G7 (ST.c q 0)))<|rq 4 18 rfl o (fun _ q=>yv) ?_
   refine rq 5 19 rfl o (fun _ q=>(Y_nilCheck (B:=B) (i:=0) rfl rfl))<|rq 6 20 rfl o (fun _ q=>(yd B 0 0 K99 K1))<|rq 7 21 rfl o (fun _ q=>(yz 1 K0 (ST.c q 0)))<|rq 8 22 rfl o (fun _ q=>(yI H c.at_ DW I0 (gi_isSome enc_u8_len rfl (ST.rf q (i:=0) rfl) hx) (getI_nn hx) (getI_ltI hx rfl)))<|rq 9 23 rfl o (fun _ q=>(yz (c.at_.toNat*1) NA (ST.rf q (i:=0) rfl) rfl rfl (gi_at0 enc_u8_len hx rfl))) ?_
   refine rq 10 24 rfl o (fun _ q=>(Y_conv (k:=.u8) (a:=x) (T:=5) (T':=3) OX K16 rfl rfl))<|rq 11 3 rfl o (fun _ q=>yu) ?_
   refine ra_done (by kernel_rfl) ?_
   exact ⟨(i64.wrap x),(sI S),(fc rfl (fc rfl fn_)),(Z.sel [0] rfl rfl)⟩
  ·skip
   have af:=cf' hz hb
   refine cw_skip ?_
   exact ⟨0,(sI af),(fc rfl (fc rfl fn_)),(Q.sel [0] rfl rfl)⟩
 rintro f w ⟨b,rfl,O,aa⟩
 refine cq (cr ?_)
 refine sQ 25 (yv rfl (O.g 0 0))<|sQ 26 (Y_nilCheck (B:=B) (i:=0) rfl rfl)<|sQ 27 (yd B 0 0 K99 K1)<|sQ 28 (yz 1 K0 (aa.c 0))<|sQ 29 zP<|sQ 30 (Y_nilCheck (B:=B) (i:=0) rfl rfl) ?_
 refine sQ 31 (yd B 0 0 K99 K1) ?_
 refine s0 (yS 0 1 B 49 (vi (i64.wrap (c.at_+1))) [vi (i64.wrap (c.at_+1))] 1 [.slice H c.code.length P,vi (i64.wrap (c.at_+1)),.int .u64 c.seed] aa K1) ?_
 rintro _ w_ ⟨rfl,ab⟩
 refine rn (cq (cr ?_))
 refine sQ 32 (yv rfl (O.g 0 0))<|sQ 33 (yv rfl (O.g 0 0))<|sQ 34 (Y_nilCheck (B:=B) (i:=0) rfl rfl)<|sQ 35 (yd B 0 0 Ij HM)<|sQ 36 (yz 2 Ln (ab.c 0))<|sQ 37 (Y_mul (k:=.u64) (a:=c.seed) (b:=6364136223846793005) rfl rfl rfl) ?_
 refine sQ 38 (yv rfl (O.g 3 1))<|sQ 39 (Y_conv (k:=.i64) (a:=b) (T:=3) (T':=47) K41 NV rfl rfl)<|sQ 40 (Y_add (k:=.u64) (a:=(IntKind.u64.wrap (c.seed*6364136223846793005))) (b:=(IntKind.u64.wrap b)) rfl rfl rfl)<|sQ 41 (Y_add (k:=.u64) (a:=(IntKind.u64.wrap ((IntKind.u64.wrap (c.seed*6364136223846793005))+(IntKind.u64.wrap b)))) (b:=1442695040888963407) rfl rfl rfl)<|sQ 42 (Y_nilCheck (B:=B) (i:=0) rfl rfl)<|sQ 43 (yd B 0 0 Ij HM) ?_
 refine s0 (yS 0 1 B 49 (.int .u64 (IntKind.u64.wrap ((IntKind.u64.wrap ((IntKind.u64.wrap (c.seed*6364136223846793005))+(IntKind.u64.wrap b)))+1442695040888963407))) [.int .u64 (IntKind.u64.wrap ((IntKind.u64.wrap ((IntKind.u64.wrap (c.seed*6364136223846793005))+(IntKind.u64.wrap b)))+1442695040888963407))] 2 [.slice H c.code.length P,vi (i64.wrap (c.at_+1)),.int .u64 (IntKind.u64.wrap ((IntKind.u64.wrap ((IntKind.u64.wrap (c.seed*6364136223846793005))+(IntKind.u64.wrap b)))+1442695040888963407))] ab HM) ?_
 rintro _ ap ⟨rfl,ac⟩
 refine rn (cq (cq ?_))
 refine ra_start (ac.se [0]).fn (by kernel_rfl) ?_
 have J:=ac.drew
 have D:=J.se [0]
 refine rq 0 44 rfl D (fun _ q=>(yv rfl (O.g 0 0)))<|rq 1 45 rfl D (fun _ q=>(Y_nilCheck (B:=B) (i:=0) rfl rfl))<|rq 2 46 rfl D (fun _ q=>(yd B 0 0 K99 K1))<|rq 3 47 rfl D (fun _ q=>(yz 1 K0 (ST.c q 0)))<|rq 4 48 rfl D (fun _ q=>(yv rfl (O.g 0 0))) ?_
 refine rq 5 49 rfl D (fun _ q=>(Y_nilCheck (B:=B) (i:=0) rfl rfl))<|rq 6 50 rfl D (fun _ q=>(yd B 0 0 IN I8))<|rq 7 51 rfl D (fun _ q=>(yz 0 G7 (ST.c q 0)))<|rq 8 52 rfl D (fun _ q=>(Y_len DW rfl rfl))<|rq 9 53 rfl D (fun _ q=>(Y_le rfl rfl rfl)) ?_
 refine ra_done (by kernel_rfl) ?_
 refine cw_cond rfl (fun U=>?_) (fun U=>?_)
 ·skip
  have ag:=ct W U
  refine cq (cr ?_)
  refine sQ 54 (yv rfl (O.g 3 1))<|sQ 2 yu (rn (ct_ ?_))
  obtain ⟨rfl,rfl⟩:=pr2 (sI ag)
  exact e1 Tryz.results50 (J.sN [0])
 ·skip
  have ah:=cf' W U
  refine cw_skip (cq (cr ?_))
  refine sQ 55 (yv rfl (O.g 0 0))<|sQ 56 (Y_nilCheck (B:=B) (i:=0) rfl rfl)<|sQ 57 (yd B 0 0 Ij HM)<|sQ 58 (yz 2 Ln (J.c 0))<|sQ 59 (Y_shr (k:=.u64) (a:=(IntKind.u64.wrap ((IntKind.u64.wrap ((IntKind.u64.wrap (c.seed*6364136223846793005))+(IntKind.u64.wrap b)))+1442695040888963407))) (k':=.u64) (b:=40) rfl rfl rfl (by decide))<|sQ 60 (Y_band (k:=.u64) (a:=(shrK .u64 (IntKind.u64.wrap ((IntKind.u64.wrap ((IntKind.u64.wrap (c.seed*6364136223846793005))+(IntKind.u64.wrap b)))+1442695040888963407)) 40)) (b:=255) rfl rfl rfl) ?_
  refine sQ 61 (Y_conv (k:=.u64) (a:=(bits .and .u64 (shrK .u64 (IntKind.u64.wrap ((IntKind.u64.wrap ((IntKind.u64.wrap (c.seed*6364136223846793005))+(IntKind.u64.wrap b)))+1442695040888963407)) 40) 255)) (T:=47) (T':=3) Kr K16 rfl rfl)<|sQ 2 yu (rn (ct_ ?_))
  obtain ⟨rfl,rfl⟩:=pr2 (sI ah)
  exact e1 Tryz.results50 (J.sN [0])

theorem AQ (c:Ah) (U:Int) (B:Option Addr) (o:Option Addr) (u n:Nat) (Q:World) (hn:c.code.length=n) (W:ST Q (bl [⟨B,49,[.slice o n u,vi c.at_,.int .u64 c.seed],3⟩]) Q [⟨B,49,[.slice o n u,vi c.at_,.int .u64 c.seed],3⟩] [⟨o,(c.code.flatMap enc_u8)⟩]) {r_:Int} {m:Ah} (Z:AI c U=some (r_,m)) :
  CV Tryz.prog 21 #[pt B 0,vi U] Q (fun v w'=>v=vi r_∧ST Q (bl [⟨B,49,[.slice o n u,vi c.at_,.int .u64 c.seed],3⟩]) w' [⟨B,49,[.slice o n u,vi m.at_,.int .u64 m.seed],3⟩] []):=by
 subst hn
 unfold AI at Z
 refine cv_of_cw 20 Tryz.func21 rfl Tryz.ntmps21 rfl ?_
 refine cq (cr ?_)
 refine sQ 4 yu (rn (cq (cq (cr ?_))))
 refine sQ 6 yv<|sQ 7 (Y_le rfl rfl rfl) (rn ?_)
 refine cw_cond rfl (fun hb=>?_) (fun hb=>?_)
 ·skip
  have aa:=ct Z hb
  refine cq (cr ?_)
  refine sQ 4 yu (rn (ct_ ?_))
  obtain ⟨rfl,rfl⟩:=pr2 (sI aa)
  exact e1 Tryz.results21 (W.sN [0])
 ·skip
  have D:=cf' Z hb
  refine cw_skip (cq (cr ?_))
  refine sQ 8 yv ?_
  obtain ⟨⟨S,V⟩,hc,D⟩:=bI D
  refine sc 9 rfl rfl (yc LW (JT c B o u c.code.length _ rfl (W.inn [true] rfl [(true,0)] rfl) hc)) ?_
  rintro _ w_ ⟨rfl,hd⟩
  have H:=W.out [true] rfl hd
  refine sQ 5 yu (rn (cq ?_))
  obtain ⟨z,hz,J⟩:=bI D
  refine cw_mid (fun f w=>∃ (at_:Int) (seed:Int) (x:Int),(at_,seed,x)=z∧FF f [(1,vi U),(5,vi x)]∧ST Q (bl [⟨B,49,[.slice o c.code.length u,vi c.at_,.int .u64 c.seed],3⟩]) w [⟨B,49,[.slice o c.code.length u,vi at_,.int .u64 seed],3⟩] [⟨o,(c.code.flatMap enc_u8)⟩]) ?_ ?_
  ·skip
   refine cq (cr ?_)
   refine sQ 10 yv<|sQ 11 (Y_gt rfl rfl rfl) (rn ?_)
   refine cw_cond rfl (fun O=>?_) (fun O=>?_)
   ·skip
    have P:=ct hz O
    refine cr ?_
    refine sQ 12 yv<|sQ 13 zX<|sQ 14 yv ?_
    obtain ⟨⟨ab,m2⟩,ac,P⟩:=bI P
    refine sc 15 rfl rfl (yc LW (JT (Ah.mk c.code V.at_ V.seed) B o u c.code.length _ rfl (H.inn [true] rfl [(true,0)] rfl) ac)) ?_
    rintro _ ap ⟨rfl,ae⟩
    have af:=H.out [true] rfl ae
    refine sQ 16 zP<|sQ 5 yu (rn ?_)
    exact ⟨m2.at_,m2.seed,(i64.wrap ((i64.wrap (S*256))+ab)),(sI P),(fc rfl (fc rfl fn_)),(af.sel [0] rfl rfl)⟩
   ·skip
    have ag:=cf' hz O
    refine cw_skip ?_
    exact ⟨V.at_,V.seed,S,(sI ag),(fc rfl (fc rfl fn_)),(H.sel [0] rfl rfl)⟩
  rintro f w ⟨at_,seed,x,rfl,hf,ah⟩
  refine cq (cr ?_)
  refine sQ 17 (yv rfl (hf.g 5 1))<|sQ 18 (yv rfl (hf.g 1 0)) ?_
  obtain ⟨ai,J⟩:=chk_inv J
  refine sQ 19 (Y_rem (k:=.i64) (a:=x) (b:=U) rfl rfl rfl ai)<|sQ 4 yu (rn (ct_ ?_))
  obtain ⟨rfl,rfl⟩:=pr2 (sI J)
  exact e1 Tryz.results21 (ah.sN [0])

theorem BJ (n:Int) (lo:Int) (hi:Int)  (u:World)  (J:ST u [] u [] []) {D:Bool} (H:AG n lo hi=some D) :
  CV Tryz.prog 58 #[vi n,vi lo,vi hi] u (fun v O=>v=.bool D∧ST u [] O [] []):=by
 unfold AG at H
 refine cv_of_cw 15 Tryz.func58 rfl Tryz.ntmps58 rfl ?_
 refine cq (cr ?_)
 refine sQ 6 yu (rn (cq (cr ?_)))
 refine sQ 7 yv<|sQ 8 yv<|sQ 9 (Y_ge rfl rfl rfl)<|sQ 10 yv ?_
 refine sgq 11 rfl rfl (uT_ 10) (fun Q=>yv) ?_
 refine sgq 12 rfl rfl (uT_ 10) (fun P=>yv) ?_
 refine sgq 13 rfl rfl (uT_ 10) (fun o=>(Y_le rfl (gv_of o) (gv_of o))) ?_
 refine sQ 14 yA<|sQ 6 yu (rn (ct_ ?_))
 obtain rfl:=sI H
 exact e1 Tryz.results58 (J.sN [])

theorem RH (c:Ah) (P:Int) (o:List Int) (B:Option Addr) (O:Option Addr) (U n:Nat) (B2:Option Addr) (c2 n2:Nat) (w0:World) (hn:c.code.length=n) (aM:o.length=n2) (hS:ST w0 (bl [⟨B,49,[.slice O n U,vi c.at_,.int .u64 c.seed],3⟩]) w0 [⟨B,49,[.slice O n U,vi c.at_,.int .u64 c.seed],3⟩] [⟨O,(c.code.flatMap enc_u8)⟩,⟨B2,(o.flatMap encI)⟩]) {r_:Ab} {m:Ah} (hF:Fp c P o=some (r_,m)) :
  CV Tryz.prog 95 #[pt B 0,vi P,.slice B2 n2 c2] w0 (fun v w'=>v=.agg #[vi r_.Kind,vi r_.A,vi r_.B]∧ST w0 (bl [⟨B,49,[.slice O n U,vi c.at_,.int .u64 c.seed],3⟩]) w' [⟨B,49,[.slice O n U,vi m.at_,.int .u64 m.seed],3⟩] []):=by
 subst hn
 subst aM
 unfold Fp at hF
 refine cv_of_cw 42 Tryz.func95 rfl Tryz.ntmps95 rfl ?_
 refine cq (cr ?_)
 refine sS 6 (yN [vi 0,vi 0,vi 0] 3 hS K28) ?_
 rintro _ w_ ⟨b,rfl,ar⟩
 refine rn (cq (cr ?_))
 refine sQ 8 yv<|sQ 9 yv<|sQ 10 yv<|sQ 11 (Y_len K62 rfl rfl) ?_
 obtain ⟨⟨au,m1⟩,hc,hF⟩:=bI hF
 refine sc 12 rfl rfl (yc K46 (AQ c (o.length:Int) B O U c.code.length _ rfl (ar.inn [true,false] rfl [(true,0)] rfl) hc)) ?_
 rintro _ bk ⟨rfl,hd⟩
 have aj:=ar.out [true,false] rfl hd
 obtain ⟨x,hx,hF⟩:=bI hF
 refine sQ 13 (yI B2 au K62 K1 (gi_isSome encI_len rfl (aj.rf (i:=1) rfl) hx) (getI_nn hx) (getI_ltI hx rfl))<|sQ 14 (yz (au.toNat*1) K0 (aj.rf (i:=1) rfl) rfl rfl (gi_at0 encI_len hx rfl))<|sQ 15 (Y_buildS (zs:=[vi 0,vi 0,vi 0]) (vs:=[(0,vi x)]) (cs:=[vi x,vi 0,vi 0]) K69 K28 rfl (mpc rfl mpn) rfl) ?_
 refine sS 7 (yN [vi 0,vi 0,vi 0] 3 aj K28) ?_
 rintro _ bm ⟨Q,rfl,aO⟩
 refine s0 (yK 2 3 0 aO K8) ?_
 rintro _ bn ⟨rfl,V⟩
 refine rn (cq (cq (cr ?_)))
 refine sQ 16 (yd (aD Q) 0 0 K42 K1)<|sQ 17 (yz 0 K0 (V.c 2))<|sQ 18 zE (rn ?_)
 refine cw_cond rfl (fun hb=>?_) (fun hb=>?_)
 ·skip
  have aQ:=ct hF hb
  refine cq (cr ?_)
  refine sQ 19 (yw 0 K27 K8 (V.c 2)) ?_
  refine s0 (yK 0 3 0 V K8) ?_
  rintro _ bo ⟨rfl,av⟩
  refine rn (ct_ ?_)
  obtain ⟨rfl,rfl⟩:=pr2 (sI aQ)
  exact ret1 Tryz.results95 (rX K27 K8 (av.c 0)) ⟨rfl,(av.sN [1])⟩
 ·skip
  have ak:=cf' hF hb
  refine cw_skip (cq (cr ?_))
  refine sQ 20 yv<|sQ 21 yv ?_
  obtain ⟨⟨u,m2⟩,aR,ak⟩:=bI ak
  refine sc 22 rfl rfl (yc K46 (AQ (Ah.mk c.code m1.at_ m1.seed) P B O U c.code.length _ rfl (V.inn [false,true,false] rfl [(true,0)] rfl) aR)) ?_
  rintro _ bp ⟨rfl,aT⟩
  have aU:=V.out [false,true,false] rfl aT
  refine sQ 23 (yd (aD Q) 0 0 K24 K1) ?_
  refine s0 (yS 1 1 (aD Q) 57 (vi u) [vi u] 1 [vi x,vi u,vi 0] aU K1) ?_
  rintro _ bq ⟨rfl,al⟩
  refine rn (cq ?_)
  obtain ⟨z,hz,aw⟩:=bI ak
  let O0:Ob:=⟨B,49,[.slice O c.code.length U,vi c.at_,.int .u64 c.seed],3⟩
  refine cw_mid (fun f w=>∃ (at_:Int) (seed:Int) (B3:Int),.inl (at_,seed,B3)=z∧FF f [(6,pt (aD b) 0),(7,pt (aD Q) 0)]∧ST w0 (bl [O0]) w [⟨B,49,[.slice O c.code.length U,vi at_,.int .u64 seed],3⟩,⟨aD b,57,[vi 0,vi 0,vi 0],3⟩,⟨aD Q,57,[vi x,vi u,vi B3],3⟩] [⟨O,(c.code.flatMap enc_u8)⟩,⟨B2,(o.flatMap encI)⟩]) ?_ ?_
  ·skip
   refine cq (cr ?_)
   refine sQ 24 (yd (aD Q) 0 0 K42 K1)<|sQ 25 (yz 0 K0 (al.c 1)) ?_
   obtain ⟨bt,aY,hz⟩:=bI hz
   refine sc 26 rfl rfl (yc K58 (BJ x 9 11 _  (al.inn0 [] rfl) aY)) ?_
   rintro _ bu ⟨rfl,a0⟩
   have aa:=al.out00 a0
   refine rn ?_
   refine cw_cond rfl (fun am=>?_) (fun am=>?_)
   ·skip
    have ay:=ct hz am
    refine cq (cq (cr ?_))
    refine sQ 27 yv<|sQ 28 zE (rn ?_)
    refine cw_cond rfl (fun an=>?_) (fun an=>?_)
    ·skip
     have a1:=ct ay an
     refine cq (cr ?_)
     refine sQ 29 (Y_buildS (zs:=[vi 0,vi 0,vi 0]) (vs:=[(0,vi 1)]) (cs:=[vi 1,vi 0,vi 0]) K69 K28 rfl (mpc rfl mpn) rfl) ?_
     refine s0 (yK 0 3 0 aa K8) ?_
     rintro _ bv ⟨rfl,ac⟩
     refine rn (ct_ ?_)
     obtain rfl:=sI a1
     obtain ⟨rfl,rfl⟩:=pr2 (sI aw)
     exact ret1 Tryz.results95 (rX K27 K8 (ac.c 0)) ⟨rfl,(ac.sN [2])⟩
    ·skip
     have W:=cf' ay an
     refine cw_skip ?_
     obtain ⟨⟨H,m3⟩,aA,W⟩:=bI W
     obtain ⟨aB,W⟩:=chk_inv W
     let V1:List Value:=[vi x,vi u,vi (Int.tmod (i64.wrap ((i64.wrap (u+1))+H)) P)]
     refine cw_mid (fun f w=>FF f [(6,pt (aD b) 0),(7,pt (aD Q) 0)]∧ST w0 (bl [O0]) w [⟨B,49,[.slice O c.code.length U,vi m3.at_,.int .u64 m3.seed],3⟩,⟨aD b,57,[vi 0,vi 0,vi 0],3⟩,⟨aD Q,57,V1,3⟩] [⟨O,(c.code.flatMap enc_u8)⟩,⟨B2,(o.flatMap encI)⟩]) ?_ ?_
     ·skip
      refine ra_start (aa.se [0]).fn (by kernel_rfl) ?_
      have D:=aa.drew
      have J:=D.se [0]
      refine rq 0 30 rfl J (fun _ q=>(yd (aD Q) 0 0 K24 K1))<|rq 3 33 rfl J (fun _ q=>yv)<|rq 4 34 rfl J (fun _ q=>yv)<|rq 5 35 rfl J (fun _ q=>zM)<|rq 8 38 rfl J (fun _ q=>yv) ?_
      refine rA [1,6] ?_
      refine ry 31 1 rfl (yz 1 K0 (D.c 1)) J ?_ ?_
      ·skip
       refine rq 2 32 rfl J (fun _ q=>zP) ?_
       refine rA [6] ?_
       refine rC 36 6 rfl (yc K46 (AQ (Ah.mk c.code m2.at_ m2.seed) (i64.wrap (P-1)) B O U c.code.length _ rfl (D.inn [false,false,true] rfl [(true,0)] rfl) aA)) ?_ aN
       rintro _ bw ⟨rfl,a3⟩
       have ae:=D.out [false,false,true] rfl a3
       have ab:=ae.se [0]
       refine ⟨ab,?_⟩
       refine rq 7 37 rfl ab (fun _ q=>zP)<|rq 9 39 rfl ab (fun _ q=>(Y_rem (k:=.i64) (a:=(i64.wrap ((i64.wrap (u+1))+H))) (b:=P) rfl rfl rfl aB))<|rq 10 40 rfl ab (fun _ q=>(yd (aD Q) 0 0 K38 K1)) ?_
       refine rA [11] ?_
       refine rZ 11 rfl (yS 1 1 (aD Q) 57 (vi (Int.tmod (i64.wrap ((i64.wrap (u+1))+H)) P)) [vi (Int.tmod (i64.wrap ((i64.wrap (u+1))+H)) P)] 2 V1 ae K1) ?_ aN
       rintro _ bb ⟨rfl,af⟩
       refine ⟨(af.se [0]),?_⟩
       refine ra_done (by kernel_rfl) ?_
       exact ⟨(fc rfl (fc rfl fn_)),(af.sel [2,0,1] rfl rfl)⟩
      refine rC 36 6 rfl (yc K46 (AQ (Ah.mk c.code m2.at_ m2.seed) (i64.wrap (P-1)) B O U c.code.length _ rfl (D.inn [false,false,true] rfl [(true,0)] rfl) aA)) ?_ aN
      rintro _ bc ⟨rfl,a5⟩
      have Z:=D.out [false,false,true] rfl a5
      have S:=Z.se [0]
      refine ⟨S,?_⟩
      refine r1 31 1 rfl (yz 1 K0 (Z.c 1)) S<|rq 2 32 rfl S (fun _ q=>zP)<|rq 7 37 rfl S (fun _ q=>zP)<|rq 9 39 rfl S (fun _ q=>(Y_rem (k:=.i64) (a:=(i64.wrap ((i64.wrap (u+1))+H))) (b:=P) rfl rfl rfl aB))<|rq 10 40 rfl S (fun _ q=>(yd (aD Q) 0 0 K38 K1)) ?_
      refine rA [11] ?_
      refine rZ 11 rfl (yS 1 1 (aD Q) 57 (vi (Int.tmod (i64.wrap ((i64.wrap (u+1))+H)) P)) [vi (Int.tmod (i64.wrap ((i64.wrap (u+1))+H)) P)] 2 V1 Z K1) ?_ aN
      rintro _ bd ⟨rfl,ag⟩
      refine ⟨(ag.se [0]),?_⟩
      refine ra_done (by kernel_rfl) ?_
      exact ⟨(fc rfl (fc rfl fn_)),(ag.sel [2,0,1] rfl rfl)⟩
     rintro f w ⟨aE,aF⟩
     exact ⟨m3.at_,m3.seed,(Int.tmod (i64.wrap ((i64.wrap (u+1))+H)) P),(sI W),(aE.a 6 0 (aE.a 7 1 fn_)),(aF.sel [0,1,2] rfl rfl)⟩
   ·skip
    have a6:=cf' hz am
    refine cw_skip ?_
    exact ⟨m2.at_,m2.seed,0,(sI a6),(fc rfl (fc rfl fn_)),(aa.sel [2,0,1] rfl rfl)⟩
  rintro f w ⟨at_,seed,B3,rfl,hf,aG⟩
  refine cq (cr ?_)
  refine sQ 41 (yw 0 K27 K8 (aG.c 2) rfl (hf.g 7 1)) ?_
  refine s0 (yK 1 3 0 aG K8 rfl (hf.g 6 0)) ?_
  rintro _ be ⟨rfl,ah⟩
  refine rn (ct_ ?_)
  obtain ⟨rfl,rfl⟩:=pr2 (sI aw)
  exact ret1 Tryz.results95 (rX K27 K8 (ah.c 1) (hf.g 6 0)) ⟨rfl,(ah.sN [0])⟩

theorem MO (c:Ah) (Q:Int) (J:Int) (o:List Int) (B:Option Addr) (H:Option Addr) (S n:Nat) (B2:Option Addr) (c2 n2:Nat) (w0:World) (hn:c.code.length=n) (aI:o.length=n2) (hS:ST w0 (bl [⟨B,49,[.slice H n S,vi c.at_,.int .u64 c.seed],3⟩]) w0 [⟨B,49,[.slice H n S,vi c.at_,.int .u64 c.seed],3⟩] [⟨H,(c.code.flatMap enc_u8)⟩,⟨B2,(o.flatMap encI)⟩]) {r_:Aj} {m:Ah} (hF:Cl c Q J o=some (r_,m)) :
  CV Tryz.prog 66 #[pt B 0,vi Q,vi J,.slice B2 n2 c2] w0 (fun v w'=>∃ (B3:Option Addr) (c3:Nat),v=.agg #[vi r_.Qubits,.slice B3 r_.Gates.length c3]∧ST w0 (bl [⟨B,49,[.slice H n S,vi c.at_,.int .u64 c.seed],3⟩]) w' [⟨B,49,[.slice H n S,vi m.at_,.int .u64 m.seed],3⟩,⟨B3,57,(r_.Gates.flatMap eN1),c3*3⟩] []):=by
 subst hn
 subst aI
 unfold Cl at hF
 refine cv_of_cw 31 Tryz.func66 rfl Tryz.ntmps66 rfl ?_
 refine cq (cr ?_)
 refine sS 8 (yN [vi 0,.slice none 0 0] 2 hS K34) ?_
 rintro _ w_ ⟨b,rfl,aJ⟩
 refine rn (cq (cr ?_))
 refine sQ 11 yv<|sQ 12 (Y_buildS (zs:=[vi 0,.slice none 0 0]) (vs:=[(0,vi Q)]) (cs:=[vi Q,.slice none 0 0]) K72 K34 rfl (mpc rfl mpn) rfl) ?_
 refine sS 9 (yN [vi 0,.slice none 0 0] 2 aJ K34) ?_
 rintro _ bj ⟨b1,rfl,aK⟩
 refine s0 (yK 2 2 0 aK K9) ?_
 rintro _ bk ⟨rfl,al⟩
 refine rn (cq (cq (cr ?_)))
 refine sQ 13 yv<|sQ 14 yv<|sQ 15 zP ?_
 obtain ⟨⟨aL,m1⟩,hc,hF⟩:=bI hF
 refine sc 16 rfl rfl (yc K46 (AQ c (i64.wrap (J+1)) B H S c.code.length _ rfl (al.inn [true,false,false] rfl [(true,0)] rfl) hc)) ?_
 rintro _ bm ⟨rfl,hd⟩
 have aM:=al.out [true,false,false] rfl hd
 refine sQ 10 yu (rn ?_)
 obtain ⟨z,hz,aO⟩:=bI hF
 have aQ:=aM.addNil 57
 refine cw_block ?_
 let O2:Ob:=⟨aD b,29,[vi 0,.slice none 0 0],2⟩
 let O5:Ob:=⟨B,49,[.slice H c.code.length S,vi c.at_,.int .u64 c.seed],3⟩
 refine cw_loop (fun k f w=>∃ (at_:Int) (seed:Int) (Gates:List Ab) (k_:Int) (U:Option Addr) (c4:Nat),FF f [(0,pt B 0),(1,vi Q),(3,.slice B2 o.length c2),(8,pt (aD b) 0),(9,pt (aD b1) 0),(10,vi k_)]∧ST w0 (bl [O5]) w [⟨B,49,[.slice H c.code.length S,vi at_,.int .u64 seed],3⟩,O2,⟨aD b1,29,[vi Q,.slice U Gates.length c4],2⟩,⟨U,57,(Gates.flatMap eN1),c4*3⟩] [⟨H,(c.code.flatMap enc_u8)⟩,⟨B2,(o.flatMap encI)⟩]∧whX (G1 c Q o) k (at_,seed,Gates,k_)=some z) fuel ⟨m1.at_,m1.seed,[],aL,none,0,(fc rfl (fc rfl (fc rfl (fc rfl (fc rfl (fc rfl fn_)))))),(aQ.sel [2,0,1,3] rfl rfl),hz⟩ ?_
 rintro K13 f w ⟨at_,seed,Gates,k_,U,c4,D,W,hL⟩
 obtain ⟨K35,y,rfl,hb,am⟩:=whX_go hL
 unfold G1 at hb
 refine cq (cq (cr ?_))
 refine sQ 17 (yv rfl (D.g 10 5))<|sQ 18 (Y_gt rfl rfl rfl) (rn ?_)
 refine cw_cond rfl (fun ag=>?_) (fun ag=>?_)
 ·skip
  have O:=ct hb ag
  refine cw_skip (cq (cw_block ?_))
  obtain ⟨⟨u,m2⟩,aR,O⟩:=bI O
  obtain ⟨aT,O⟩:=chk_inv O
  refine ra_start (W.se [1]).fn (by kernel_rfl) ?_
  have an:=W.drew
  have aa:=an.se [1]
  refine rq 0 21 rfl aa (fun _ q=>(yd (aD b1) 0 0 K40 K23 rfl (D.g 9 4)))<|rq 2 23 rfl aa (fun _ q=>(yv rfl (D.g 0 0)))<|rq 3 24 rfl aa (fun _ q=>(yv rfl (D.g 1 1)))<|rq 4 25 rfl aa (fun _ q=>(yv rfl (D.g 3 2))) ?_
  let V:Ob:=⟨aD b1,29,[vi Q,.slice U Gates.length c4],2⟩
  let O3:Ob:=⟨U,57,(Gates.flatMap eN1),c4*3⟩
  let O4:Ob:=⟨B,49,[.slice H c.code.length S,vi at_,.int .u64 seed],3⟩
  refine rf_in (k:=5) (ts:=[21]) (L:=[O4,O2,V,O3]) (G:=[]) [fQ 1 22 (.slice U Gates.length c4) V] an (flc rfl rfl rfl (fun _ _ _ _ aU h aV=>(yfl (yz 1 K29 (ST.cfm h aV.1) rfl ((aU 21 (List.Mem.head _)).trans rfl)) h)) fln) (fun hJ=>?_)
  refine rf_all [5] hJ (fun Z w h=>(ST.sel (ST.noF h) [1] rfl rfl)) (fun Z bp a0 ao=>?_)
  refine rC 26 5 rfl (yc P7 (RH (Ah.mk c.code at_ seed) Q o B H S c.code.length B2 c2 o.length _ rfl rfl (ao.inn [true,false,false,false] rfl [(true,0),(true,1)] rfl) aR)) ?_ aN
  rintro _ bq ⟨rfl,a1⟩
  have ap:=ST.outG (pre:=[O4,O2,V,O3]) (G:=(flL [fQ 1 22 (.slice U Gates.length c4) V] Z++[])) ao [true,false,false,false] rfl a1
  let O1:Ob:=⟨B,49,[.slice H c.code.length S,vi m2.at_,.int .u64 m2.seed],3⟩
  refine rf_k (L:=[O2,V,O3,O1]) a0 ap (fun Z w h=>(ST.sel (ST.noF h) [0] rfl rfl)) ?_
  refine rf_all [6] hJ (fun Z w h=>(ST.sel (ST.noF h) [0] rfl rfl)) (fun Z1 bt a2 aq=>?_)
  refine rS 27 6 rfl (yF 3 1 [vi u.Kind,vi u.A,vi u.B] 3 aq K15 K8 K64 rfl (mpc rfl mpn)) ?_ aN
  rintro _ bu ⟨b2,rfl,ar⟩
  let O6:Ob:=⟨aD b2,57,([u].flatMap eN1),1*3⟩
  have au:ST w0 (bl [O5]) _ (O2::V::O3::O1::O6::(flL [fQ 1 22 (.slice U Gates.length c4) V] Z1++[])) [⟨H,(c.code.flatMap enc_u8)⟩,⟨B2,(o.flatMap encI)⟩]:=ST.rot (pre:=[O2,V,O3,O1]) (G:=(flL [fQ 1 22 (.slice U Gates.length c4) V] Z1++[])) (xs:=[O6]) ar
  refine rf_k (L:=[O2,V,O3,O1,O6]) a2 au (fun Z w h=>(ST.sel (ST.noF h) [0] rfl rfl)) ?_
  refine rf_force hJ (fun Z w h=>(ST.sel (ST.noF h) [0] rfl rfl)) (fun _=>?_)
  refine rf_out (fun bw ab=>?_)
  refine rA [7] ?_
  refine rS 28 7 rfl (aP 3 24 2 Gates [u] ab K15 K8 K59 K28 eN4 BK (ab.c 4) aT) ?_ aN
  rintro _ bA ⟨B5,c5,rfl,P⟩
  refine ⟨(P.se [0]),?_⟩
  refine rq 8 29 rfl (P.se [0]) (fun _ q=>(yd (aD b1) 0 0 K40 K23 rfl (D.g 9 4))) ?_
  refine rA [9] ?_
  refine rZ 9 rfl (yS 1 1 (aD b1) 29 (.slice B5 ((Gates++[u]).length) c5) [.slice B5 ((Gates++[u]).length) c5] 1 [vi Q,.slice B5 ((Gates++[u]).length) c5] P K23) ?_ aN
  rintro _ bd ⟨rfl,ac⟩
  refine ⟨(ac.se [0]),?_⟩
  refine ra_done (by kernel_rfl) ?_
  refine cr ?_
  refine sQ 19 (yv rfl (D.g 10 5))<|sQ 20 zM<|sQ 10 yu (rn ?_)
  obtain rfl:=sI O
  exact ⟨K35,Nat.lt_succ_self _,m2.at_,m2.seed,(Gates++[u]),(i64.wrap (k_-1)),B5,c5,(D.a 0 0 (D.a 1 1 (D.a 3 2 (D.a 8 3 (D.a 9 4 (fc rfl fn_)))))),(ac.sel [3,0,1,2] rfl rfl),am⟩
 ·skip
  have a5:=cf' hb ag
  refine cw_exit rfl ?_
  obtain rfl:=sI a5
  obtain rfl:=sI am
  refine cq (cr ?_)
  refine sQ 30 (yw 0 K17 K9 (W.c 2) rfl (D.g 9 4)) ?_
  refine s0 (yK 1 2 0 W K9 rfl (D.g 8 3)) ?_
  rintro _ be ⟨rfl,ae⟩
  refine rn (ct_ ?_)
  obtain ⟨rfl,rfl⟩:=pr2 (sI aO)
  exact ret1 Tryz.results66 (rX K17 K9 (ae.c 1) (D.g 8 3)) ⟨U,c4,rfl,(ae.sN [0,3])⟩

theorem If (c:Ah) (Q:Int) (B:Option Addr) (o:Option Addr) (u n:Nat) (J:World) (Z:c.code.length=n) (hS:ST J (bl [⟨B,49,[.slice o n u,vi c.at_,.int .u64 c.seed],3⟩]) J [⟨B,49,[.slice o n u,vi c.at_,.int .u64 c.seed],3⟩] [⟨o,(c.code.flatMap enc_u8)⟩]) {O:Aj} {m:Ah} (P:CM c Q=some (O,m)) :
  CV Tryz.prog 33 #[pt B 0,vi Q] J (fun v w'=>∃ (V:Option Addr) (W:Nat),v=.agg #[vi O.Qubits,.slice V O.Gates.length W]∧ST J (bl [⟨B,49,[.slice o n u,vi c.at_,.int .u64 c.seed],3⟩]) w' [⟨B,49,[.slice o n u,vi m.at_,.int .u64 m.seed],3⟩,⟨V,57,(O.Gates.flatMap eN1),W*3⟩] []):=by
 subst Z
 unfold CM at P
 refine cv_of_cw 9 Tryz.func33 rfl Tryz.ntmps33 rfl ?_
 refine cq (cr ?_)
 refine sS 4 (yN [vi 0,.slice none 0 0] 2 hS K34) ?_
 rintro _ w_ ⟨b,rfl,S⟩
 refine rn (cq (cr ?_))
 refine sQ 5 yv<|sQ 6 yv ?_
 refine sS 7 (yF 1 11 [vi 1,vi 2,vi 3,vi 4,vi 5,vi 6,vi 9,vi 9,vi 10,vi 11,vi 1] 11 S K62 K1 K73 rfl (mpc rfl (mpc rfl (mpc rfl (mpc rfl (mpc rfl (mpc rfl (mpc rfl (mpc rfl (mpc rfl (mpc rfl (mpc rfl mpn)))))))))))) ?_
 rintro _ ac ⟨b1,rfl,D⟩
 obtain ⟨⟨af,m1⟩,hc,P⟩:=bI P
 refine sc 8 rfl rfl (yc Kw (MO c Q 8 [1,2,3,4,5,6,9,9,10,11,1] B o u c.code.length (aD b1) 11 11 _ rfl rfl (D.inn [true,false,false] rfl [(true,0),(false,1)] rfl) hc)) ?_
 rintro _ ag ⟨B3,c3,rfl,hd⟩
 have U:=D.out [true,false,false] rfl hd
 refine s0 (yK 0 2 0 U K9) ?_
 rintro _ aj ⟨rfl,H⟩
 refine rn (ct_ ?_)
 obtain ⟨rfl,rfl⟩:=pr2 (sI P)
 exact ret1 Tryz.results33 (rX K17 K9 (H.c 0)) ⟨B3,c3,rfl,(H.sN [2,3])⟩

theorem MJ (n:Int)  (Q:World)  (hS:ST Q [] Q [] []) {P:Ae} (hF:Dz n=some P) :
  CV Tryz.prog 67 #[vi n] Q (fun v w'=>∃ (B:Option Addr) (c:Nat) (B1:Option Addr) (c1:Nat),v=.agg #[vi P.Qubits,.slice B P.XImages.length c,.slice B1 P.ZImages.length c1]∧ST Q [] w' [⟨B,64,(P.XImages.flatMap eN0),c*3⟩,⟨B1,64,(P.ZImages.flatMap eN0),c1*3⟩] []):=by
 unfold Dz at hF
 refine cv_of_cw 31 Tryz.func67 rfl Tryz.ntmps67 rfl ?_
 refine cq (cr ?_)
 let V0:List Value:=[vi 0,.slice none 0 0,.slice none 0 0]
 refine sS 2 (yN V0 3 hS K26) ?_
 rintro _ w_ ⟨b,rfl,am⟩
 refine rn (cq (cr ?_))
 refine sQ 5 yv<|sQ 6 (Y_buildS (zs:=V0) (vs:=[(0,vi n)]) (cs:=[vi n,.slice none 0 0,.slice none 0 0]) K80 K26 rfl (mpc rfl mpn) rfl) ?_
 refine sS 3 (yN V0 3 am K26) ?_
 rintro _ aJ ⟨D,rfl,an⟩
 refine s0 (yK 1 3 0 an K3) ?_
 rintro _ aK ⟨rfl,ao⟩
 refine rn (cq (cq (cr ?_)))
 refine sQ 4 yu (rn ?_)
 obtain ⟨hN,hF⟩:=chk_inv hF
 obtain ⟨z,hz,ap⟩:=bI hF
 have aq:=ao.addNil 64
 have ar:=aq.addNil 64
 refine cw_block ?_
 refine cw_loop (fun k f w=>∃ (q:Nat) (XImages:List Aa) (ZImages:List Aa) (B2:Option Addr) (c2:Nat) (S:Option Addr) (U:Nat),FF f [(0,vi n),(2,pt (aD b) 0),(3,pt (aD D) 0),(4,vi (q:Int))]∧ST Q [] w [⟨aD b,25,V0,3⟩,⟨aD D,25,[vi n,.slice B2 XImages.length c2,.slice S ZImages.length U],3⟩,⟨B2,64,(XImages.flatMap eN0),c2*3⟩,⟨S,64,(ZImages.flatMap eN0),U*3⟩] []∧q+k=n.toNat∧forN Jn k q (XImages,ZImages)=some z) n.toNat ⟨0,[],[],none,0,none,0,(fc rfl (fc rfl (fc rfl (fc rfl fn_)))),(ar.sel [0,1,2,3] rfl rfl),Nat.zero_add _,hz⟩ ?_
 rintro k_ f w ⟨q,XImages,ZImages,B2,c2,S,U,o,u,aO,hL⟩
 refine cq (cq (cr ?_))
 refine sQ 7 (yv rfl (o.g 4 3))<|sQ 8 (yv rfl (o.g 0 0))<|sQ 9 zL (rn ?_)
 refine cw_cond rfl (fun O=>?_) (fun O=>?_)
 ·skip
  have V:q<n.toNat:=by have h:=of_decide_eq_true O; omega
  obtain ⟨K13,rfl⟩:∃ k2,k_=k2+1:=⟨k_-1,by omega⟩
  obtain ⟨y,hb,av⟩:=forN_go hL
  unfold Jn at hb
  refine cw_skip (cq (cw_block (cq (cr ?_))))
  refine sQ 12 (yd (aD D) 0 0 K18 K4 rfl (o.g 3 2))<|sQ 13 (yz 1 K7 (u.c 1))<|sQ 14 (yv rfl (o.g 4 3))<|sQ 15 (Y_conv (k:=.i64) (a:=(q:Int)) (T:=3) (T':=103) K41 K43 rfl rfl) ?_
  obtain ⟨aw,hb⟩:=chk_inv hb
  refine sQ 16 (Y_shl (k:=.i64) (a:=1) (k':=.u64) (b:=(IntKind.u64.wrap (q:Int))) rfl rfl rfl aw)<|sQ 17 (Y_buildS (zs:=[vi 0,vi 0,vi 0]) (vs:=[(1,vi (shlK .i64 1 (IntKind.u64.wrap (q:Int))))]) (cs:=[vi 0,vi (shlK .i64 1 (IntKind.u64.wrap (q:Int))),vi 0]) K36 K14 rfl (mpc rfl mpn) rfl) ?_
  refine sS 18 (yF 3 1 [vi 0,vi (shlK .i64 1 (IntKind.u64.wrap (q:Int))),vi 0] 3 u K5 K2 K74 rfl (mpc rfl mpn)) ?_
  rintro _ aR ⟨b2,rfl,W⟩
  obtain ⟨ay,hb⟩:=chk_inv hb
  refine sS 19 (aP 3 24 2 XImages [(Aa.mk 0 (shlK .i64 1 (IntKind.u64.wrap (q:Int))) 0)] W K5 K2 K63 K14 eN2 BR (W.c 4) ay) ?_
  rintro _ aT ⟨Z,c4,rfl,aA⟩
  refine sQ 20 (yd (aD D) 0 0 K18 K4 rfl (o.g 3 2)) ?_
  refine s0 (yS 1 1 (aD D) 25 (.slice Z ((XImages++[(Aa.mk 0 (shlK .i64 1 (IntKind.u64.wrap (q:Int))) 0)]).length) c4) [.slice Z ((XImages++[(Aa.mk 0 (shlK .i64 1 (IntKind.u64.wrap (q:Int))) 0)]).length) c4] 1 [vi n,.slice Z ((XImages++[(Aa.mk 0 (shlK .i64 1 (IntKind.u64.wrap (q:Int))) 0)]).length) c4,.slice S ZImages.length U] aA K4) ?_
  rintro _ aU ⟨rfl,aa⟩
  refine rn (cr ?_)
  refine sQ 21 (yd (aD D) 0 0 K20 K4 rfl (o.g 3 2))<|sQ 22 (yz 2 K7 (aa.c 1))<|sQ 23 (yv rfl (o.g 4 3))<|sQ 24 (Y_conv (k:=.i64) (a:=(q:Int)) (T:=3) (T':=103) K41 K43 rfl rfl) ?_
  obtain ⟨ab,hb⟩:=chk_inv hb
  refine sQ 25 (Y_shl (k:=.i64) (a:=1) (k':=.u64) (b:=(IntKind.u64.wrap (q:Int))) rfl rfl rfl ab)<|sQ 26 (Y_buildS (zs:=[vi 0,vi 0,vi 0]) (vs:=[(2,vi (shlK .i64 1 (IntKind.u64.wrap (q:Int))))]) (cs:=[vi 0,vi 0,vi (shlK .i64 1 (IntKind.u64.wrap (q:Int)))]) K36 K14 rfl (mpc rfl mpn) rfl) ?_
  refine sS 27 (yF 3 1 [vi 0,vi 0,vi (shlK .i64 1 (IntKind.u64.wrap (q:Int)))] 3 aa K5 K2 K74 rfl (mpc rfl mpn)) ?_
  rintro _ aV ⟨b3,rfl,H⟩
  obtain ⟨ac,hb⟩:=chk_inv hb
  refine sS 28 (aP 3 24 3 ZImages [(Aa.mk 0 0 (shlK .i64 1 (IntKind.u64.wrap (q:Int))))] H K5 K2 K63 K14 eN2 BR (H.c 5) ac) ?_
  rintro _ aY ⟨B5,c5,rfl,ae⟩
  refine sQ 29 (yd (aD D) 0 0 K20 K4 rfl (o.g 3 2)) ?_
  refine s0 (yS 1 1 (aD D) 25 (.slice B5 ((ZImages++[(Aa.mk 0 0 (shlK .i64 1 (IntKind.u64.wrap (q:Int))))]).length) c5) [.slice B5 ((ZImages++[(Aa.mk 0 0 (shlK .i64 1 (IntKind.u64.wrap (q:Int))))]).length) c5] 2 [vi n,.slice Z ((XImages++[(Aa.mk 0 (shlK .i64 1 (IntKind.u64.wrap (q:Int))) 0)]).length) c4,.slice B5 ((ZImages++[(Aa.mk 0 0 (shlK .i64 1 (IntKind.u64.wrap (q:Int))))]).length) c5] ae K4) ?_
  rintro _ a0 ⟨rfl,af⟩
  refine rn (cr ?_)
  refine sQ 10 (yv rfl (o.g 4 3))<|sQ 11 zP<|sQ 4 yu (rn ?_)
  obtain rfl:=sI hb
  exact ⟨K13,Nat.lt_succ_self _,q+1,(XImages++[(Aa.mk 0 (shlK .i64 1 (IntKind.u64.wrap (q:Int))) 0)]),(ZImages++[(Aa.mk 0 0 (shlK .i64 1 (IntKind.u64.wrap (q:Int))))]),Z,c4,B5,c5,(o.a 0 0 (o.a 2 1 (o.a 3 2 (fc (congrArg (Value.int .i64) (wr_succ V hN)) fn_)))),(af.sel [0,1,2,3] rfl rfl),(by omega),av⟩
 ·skip
  obtain rfl:k_=0:=by have h:=of_decide_eq_false O; omega
  refine cw_exit rfl ?_
  obtain rfl:=sI hL
  refine cq (cr ?_)
  refine sQ 30 (yw 0 K11 K3 (u.c 1) rfl (o.g 3 2)) ?_
  refine s0 (yK 0 3 0 u K3 rfl (o.g 2 1)) ?_
  rintro _ a1 ⟨rfl,J⟩
  refine rn (ct_ ?_)
  obtain rfl:=sI ap
  exact ret1 Tryz.results67 (rX K11 K3 (J.c 0) (o.g 2 1)) ⟨B2,c2,S,U,rfl,(J.sN [2,3])⟩

theorem Cf (p:Aa) (q:Int)  (H:World)  (P:ST H [] H [] []) {O:Int} (u:AO p q=some O) :
  CV Tryz.prog 90 #[.agg #[vi p.Phase,vi p.X,vi p.Z],vi q] H (fun v Q=>v=vi O∧ST H [] Q [] []):=by
 unfold AO at u
 refine cv_of_cw 19 Tryz.func90 rfl Tryz.ntmps90 rfl ?_
 refine cq (cr ?_)
 refine sS 2 (yV [vi p.Phase,vi p.X,vi p.Z] 3 P) ?_
 rintro _ S ⟨b,rfl,o⟩
 refine sQ 4 yu (rn (cq (cr ?_)))
 refine sQ 5 (yd (aD b) 0 0 K47 K1)<|sQ 6 (yz 1 K0 (o.c 0))<|sQ 7 yv<|sQ 8 (Y_conv (k:=.i64) (a:=q) (T:=3) (T':=103) K41 K43 rfl rfl) ?_
 obtain ⟨J,u⟩:=chk_inv u
 refine sQ 9 (Y_shr (k:=.i64) (a:=p.X) (k':=.u64) (b:=(IntKind.u64.wrap q)) rfl rfl rfl J)<|sQ 10 (Y_band (k:=.i64) (a:=(shrK .i64 p.X (IntKind.u64.wrap q))) (b:=1) rfl rfl rfl)<|sQ 11 (yd (aD b) 0 0 K48 K1)<|sQ 12 (yz 2 K0 (o.c 0))<|sQ 13 yv<|sQ 14 (Y_conv (k:=.i64) (a:=q) (T:=3) (T':=103) K41 K43 rfl rfl) ?_
 obtain ⟨D,u⟩:=chk_inv u
 refine sQ 15 (Y_shr (k:=.i64) (a:=p.Z) (k':=.u64) (b:=(IntKind.u64.wrap q)) rfl rfl rfl D)<|sQ 16 (Y_band (k:=.i64) (a:=(shrK .i64 p.Z (IntKind.u64.wrap q))) (b:=1) rfl rfl rfl)<|sQ 17 zX<|sQ 18 zP<|sQ 4 yu (rn (ct_ ?_))
 obtain rfl:=sI u
 exact e1 Tryz.results90 (o.sN [])

theorem RR (a:Int) (b:Int)  (O:World)  (V:ST O [] O [] []) {S:Int} (o:Gg a b=some S) :
  CV Tryz.prog 116 #[vi a,vi b] O (fun v W=>v=vi S∧ST O [] W [] []):=by
 unfold Gg at o
 refine cv_of_cw 16 Tryz.func116 rfl Tryz.ntmps116 rfl ?_
 refine cq (cr ?_)
 refine sQ 4 yu (rn (cq (cr ?_)))
 let u:List Value:=[vi 0,vi 0,vi 0,vi 0]
 refine sQ 6 (show Y _ _ _ _ _ (.agg (([0,0,0,0]:List Int).flatMap encI).toArray) from Y_buildA (zs:=u) (vs:=[(0,vi 0),(1,vi 0),(2,vi 0),(3,vi 0)]) (cs:=u) GE K1 HV rfl (mpc rfl (mpc rfl (mpc rfl (mpc rfl mpn)))) (by kernel_rfl))<|sQ 7 (show Y _ _ _ _ _ (.agg (([0,0,3,1]:List Int).flatMap encI).toArray) from Y_buildA (zs:=u) (vs:=[(0,vi 0),(1,vi 0),(2,vi 3),(3,vi 1)]) (cs:=[vi 0,vi 0,vi 3,vi 1]) GE K1 HV rfl (mpc rfl (mpc rfl (mpc rfl (mpc rfl mpn)))) (by kernel_rfl))<|sQ 8 (show Y _ _ _ _ _ (.agg (([0,1,0,3]:List Int).flatMap encI).toArray) from Y_buildA (zs:=u) (vs:=[(0,vi 0),(1,vi 1),(2,vi 0),(3,vi 3)]) (cs:=[vi 0,vi 1,vi 0,vi 3]) GE K1 HV rfl (mpc rfl (mpc rfl (mpc rfl (mpc rfl mpn)))) (by kernel_rfl))<|sQ 9 (show Y _ _ _ _ _ (.agg (([0,3,1,0]:List Int).flatMap encI).toArray) from Y_buildA (zs:=u) (vs:=[(0,vi 0),(1,vi 3),(2,vi 1),(3,vi 0)]) (cs:=[vi 0,vi 3,vi 1,vi 0]) GE K1 HV rfl (mpc rfl (mpc rfl (mpc rfl (mpc rfl mpn)))) (by kernel_rfl))<|sQ 10 (show Y _ _ _ _ _ (.agg (([([0,0,0,0]:List Int),([0,0,3,1]:List Int),([0,1,0,3]:List Int),([0,3,1,0]:List Int)]:List (List Int)).flatMap E1).toArray) from Y_buildA (zs:=[vi 0,vi 0,vi 0,vi 0,vi 0,vi 0,vi 0,vi 0,vi 0,vi 0,vi 0,vi 0,vi 0,vi 0,vi 0,vi 0]) (vs:=[(0,.agg (([0,0,0,0]:List Int).flatMap encI).toArray),(1,.agg (([0,0,3,1]:List Int).flatMap encI).toArray),(2,.agg (([0,1,0,3]:List Int).flatMap encI).toArray),(3,.agg (([0,3,1,0]:List Int).flatMap encI).toArray)]) (cs:=(([([0,0,0,0]:List Int),([0,0,3,1]:List Int),([0,1,0,3]:List Int),([0,3,1,0]:List Int)]:List (List Int)).flatMap E1)) LS M0 Md rfl (mpc rfl (mpc rfl (mpc rfl (mpc rfl mpn)))) (by kernel_rfl)) ?_
 refine sS 5 (yN ((List.replicate 4 (List.replicate 4 0)).flatMap E1) 16 V Md) ?_
 rintro _ w_ ⟨U,rfl,P⟩
 refine s0 (yK 0 16 0 P OQ rfl rfl rfl rfl (fm_lenn2 GT rfl rfl) (fm_one' Rt _) rfl (fm_fit GT (List.length_replicate (n:=4)) rfl) (fm_spl GT (List.length_replicate (n:=4)) rfl)) ?_
 rintro _ Z ⟨rfl,D⟩
 refine rn (cq (cr ?_))
 refine sQ 11 yv<|sQ 12 yv ?_
 obtain ⟨x,Q,o⟩:=bI o
 refine sQ 13 (Y_indexArr0 (B:=aD U) (k:=.i64) (i:=a) LS M0 rfl rfl rfl (getI_nn Q) (getI_ltI Q rfl)) ?_
 obtain ⟨H,o⟩:=chk_inv o
 obtain ⟨x1,J,o⟩:=bI o
 refine sQ 14 (Y_indexArr (B:=aD U) (off:=a.toNat*4) (k:=.i64) (i:=b) GE K1 rfl rfl rfl (getI_nn J) H)<|sQ 15 (yz (a.toNat*4+b.toNat*1) K0 (D.c 0) rfl rfl (gi_at GT Q (NM J H)))<|sQ 4 yu (rn (ct_ ?_))
 obtain rfl:=sI o
 exact e1 Tryz.results116 (D.sN [])

theorem D7 (a:Aa) (b:Aa)  (w0:World)  (hS:ST w0 [] w0 [] []) {r_:Aa} (hF:AM a b=some r_) :
  CV Tryz.prog 88 #[.agg #[vi a.Phase,vi a.X,vi a.Z],.agg #[vi b.Phase,vi b.X,vi b.Z]] w0 (fun v w'=>v=.agg #[vi r_.Phase,vi r_.X,vi r_.Z]∧ST w0 [] w' [] []):=by
 unfold AM at hF
 refine cv_of_cw 43 Tryz.func88 rfl Tryz.ntmps88 rfl ?_
 refine cq (cr ?_)
 refine sS 2 (yV [vi a.Phase,vi a.X,vi a.Z] 3 hS) ?_
 rintro _ w_ ⟨b1,rfl,ar⟩
 refine sS 3 (yV [vi b.Phase,vi b.X,vi b.Z] 3 ar) ?_
 rintro _ a7 ⟨b2,rfl,au⟩
 refine sS 4 (yN [vi 0,vi 0,vi 0] 3 au K14) ?_
 rintro _ a8 ⟨b3,rfl,u⟩
 refine rn (cq (cr ?_))
 refine sQ 7 (yd (aD b1) 0 0 K30 K1)<|sQ 8 (yz 0 K0 (u.c 0))<|sQ 9 (yd (aD b2) 0 0 K30 K1)<|sQ 10 (yz 0 K0 (u.c 1))<|sQ 11 zP<|sQ 12 (yd (aD b1) 0 0 K47 K1) ?_
 refine sQ 13 (yz 1 K0 (u.c 0))<|sQ 14 (yd (aD b2) 0 0 K47 K1)<|sQ 15 (yz 1 K0 (u.c 1))<|sQ 16 (Y_bxor (k:=.i64) (a:=a.X) (b:=b.X) rfl rfl rfl)<|sQ 17 (yd (aD b1) 0 0 K48 K1)<|sQ 18 (yz 2 K0 (u.c 0)) ?_
 refine sQ 19 (yd (aD b2) 0 0 K48 K1)<|sQ 20 (yz 2 K0 (u.c 1))<|sQ 21 (Y_bxor (k:=.i64) (a:=a.Z) (b:=b.Z) rfl rfl rfl)<|sQ 22 (Y_buildS (zs:=[vi 0,vi 0,vi 0]) (vs:=[(0,vi (i64.wrap (a.Phase+b.Phase))),(1,vi (bits .xor .i64 a.X b.X)),(2,vi (bits .xor .i64 a.Z b.Z))]) (cs:=[vi (i64.wrap (a.Phase+b.Phase)),vi (bits .xor .i64 a.X b.X),vi (bits .xor .i64 a.Z b.Z)]) K36 K14 rfl (mpc rfl (mpc rfl (mpc rfl mpn))) rfl) ?_
 refine sS 5 (yN [vi 0,vi 0,vi 0] 3 u K14) ?_
 rintro _ a9 ⟨b4,rfl,av⟩
 refine s0 (yK 3 3 0 av K2) ?_
 rintro _ ba ⟨rfl,aw⟩
 refine rn (cq (cq (cr ?_)))
 refine sQ 6 yu (rn ?_)
 obtain ⟨z,hz,ay⟩:=bI hF
 refine cw_block ?_
 let O1:Ob:=⟨aD b1,64,[vi a.Phase,vi a.X,vi a.Z],3⟩
 let O2:Ob:=⟨aD b2,64,[vi b.Phase,vi b.X,vi b.Z],3⟩
 let O3:Ob:=⟨aD b3,64,[vi 0,vi 0,vi 0],3⟩
 refine cw_loop (fun k f w=>∃ (q:Nat) (Phase:Int),FF f [(2,pt (aD b1) 0),(3,pt (aD b2) 0),(4,pt (aD b3) 0),(5,pt (aD b4) 0),(6,vi (q:Int))]∧ST w0 [] w [O1,O2,O3,⟨aD b4,64,[vi Phase,vi (bits .xor .i64 a.X b.X),vi (bits .xor .i64 a.Z b.Z)],3⟩] []∧q+k=5∧forN (FT a b) k q Phase=some z) 5 ⟨0,(i64.wrap (a.Phase+b.Phase)),(fc rfl (fc rfl (fc rfl (fc rfl (fc rfl fn_))))),(aw.sel [0,1,2,3] rfl rfl),Nat.zero_add _,hz⟩ ?_
 rintro k_ f w ⟨q,Phase,o,J,bc,hL⟩
 refine cq (cq (cr ?_))
 refine sQ 23 (yv rfl (o.g 6 4))<|sQ 24 zL (rn ?_)
 refine cw_cond rfl (fun ac=>?_) (fun ac=>?_)
 ·skip
  have ak:q<5:=by have h:=of_decide_eq_true ac; omega
  obtain ⟨K13,rfl⟩:∃ k2,k_=k2+1:=⟨k_-1,by omega⟩
  obtain ⟨y,hb,aB⟩:=forN_go hL
  unfold FT at hb
  refine cw_skip (cq (cw_block ?_))
  obtain ⟨aE,hc,hb⟩:=bI hb
  obtain ⟨aF,aG,hb⟩:=bI hb
  obtain ⟨O,aI,hb⟩:=bI hb
  refine ra_start (J.se [0,1,2]).fn (by kernel_rfl) ?_
  have P:=J.drew
  have D:=P.se [0,1,2]
  refine rq 0 27 rfl D (fun _ Q=>(yd (aD b4) 0 0 K30 K1 rfl (o.g 5 3)))<|rq 2 29 rfl D (fun _ Q=>(yw 0 K6 K2 (ST.c Q 0) rfl (o.g 2 0)))<|rq 3 30 rfl D (fun _ Q=>(yv rfl (o.g 6 4)))<|rq 5 32 rfl D (fun _ Q=>(yw 0 K6 K2 (ST.c Q 1) rfl (o.g 3 1)))<|rq 6 33 rfl D (fun _ Q=>(yv rfl (o.g 6 4))) ?_
  let O0:Ob:=⟨aD b4,64,[vi Phase,vi (bits .xor .i64 a.X b.X),vi (bits .xor .i64 a.Z b.Z)],3⟩
  refine rf_in (k:=6) (ts:=[27]) (L:=[O1,O2,O3,O0]) (G:=[]) [fQ 1 28 (vi Phase) O0] P (flc rfl rfl rfl (fun _ _ _ _ aJ h aK=>(yfl (yz 0 K0 (ST.cfm h aK.1) rfl ((aJ 27 (List.Mem.head _)).trans rfl)) h)) fln) (fun hJ=>?_)
  refine rf_all [4] hJ (fun Z w h=>(ST.sel (ST.noF h) [0,1,2] rfl rfl)) (fun Z be aL S=>?_)
  refine rC 31 4 rfl (yc K65 (Cf a (q:Int) _  (S.inn0 [] rfl) hc)) ?_ aN
  rintro _ bf ⟨rfl,hd⟩
  have am:=S.out00 hd
  refine rf_k (L:=[O1,O2,O3,O0]) aL am (fun Z w h=>(ST.sel (ST.noF h) [0,1,2] rfl rfl)) ?_
  refine rf_all [7] hJ (fun Z w h=>(ST.sel (ST.noF h) [0,1,2] rfl rfl)) (fun Z1 bg aM U=>?_)
  refine rC 34 7 rfl (yc K65 (Cf b (q:Int) _  (U.inn0 [] rfl) aG)) ?_ aN
  rintro _ bh ⟨rfl,aO⟩
  have an:=U.out00 aO
  refine rf_k (L:=[O1,O2,O3,O0]) aM an (fun Z w h=>(ST.sel (ST.noF h) [0,1,2] rfl rfl)) ?_
  refine rf_all [8] hJ (fun Z w h=>(ST.sel (ST.noF h) [0,1,2] rfl rfl)) (fun Z2 bj aQ V=>?_)
  refine rC 35 8 rfl (yc QU (RR aE aF _  (V.inn0 [] rfl) aI)) ?_ aN
  rintro _ aY ⟨rfl,aR⟩
  have ao:=V.out00 aR
  refine rf_k (L:=[O1,O2,O3,O0]) aQ ao (fun Z w h=>(ST.sel (ST.noF h) [0,1,2] rfl rfl)) ?_
  refine rf_force hJ (fun Z w h=>(ST.sel (ST.noF h) [0,1,2] rfl rfl)) (fun _=>?_)
  refine rf_out (fun a0 H=>?_)
  refine rq 9 36 rfl (H.se [0,1,2]) (fun _ Q=>zP)<|rq 10 37 rfl (H.se [0,1,2]) (fun _ Q=>(yd (aD b4) 0 0 K30 K1 rfl (o.g 5 3))) ?_
  refine rA [11] ?_
  refine rZ 11 rfl (yS 3 1 (aD b4) 64 (vi (i64.wrap (Phase+O))) [vi (i64.wrap (Phase+O))] 0 [vi (i64.wrap (Phase+O)),vi (bits .xor .i64 a.X b.X),vi (bits .xor .i64 a.Z b.Z)] H K1) ?_ aN
  rintro _ a1 ⟨rfl,W⟩
  refine ⟨(W.se [0,1,2]),?_⟩
  refine ra_done (by kernel_rfl) ?_
  refine cr ?_
  refine sQ 25 (yv rfl (o.g 6 4))<|sQ 26 zP<|sQ 6 yu (rn ?_)
  obtain rfl:=sI hb
  exact ⟨K13,Nat.lt_succ_self _,q+1,(i64.wrap (Phase+O)),(o.a 2 0 (o.a 3 1 (o.a 4 2 (o.a 5 3 (fc (congrArg (Value.int .i64) (wr_succ ak (show 5≤9223372036854775807 by decide))) fn_))))),(W.sel [0,1,2,3] rfl rfl),(by omega),aB⟩
 ·skip
  obtain rfl:k_=0:=by have h:=of_decide_eq_false ac; omega
  refine cw_exit rfl ?_
  obtain rfl:=sI hL
  refine cq (cr ?_)
  refine sQ 38 (yd (aD b4) 0 0 K30 K1 rfl (o.g 5 3))<|sQ 39 (yz 0 K0 (J.c 3))<|sQ 40 (Y_rem (k:=.i64) (a:=Phase) (b:=4) rfl rfl rfl (by decide))<|sQ 41 (yd (aD b4) 0 0 K30 K1 rfl (o.g 5 3)) ?_
  refine s0 (yS 3 1 (aD b4) 64 (vi (Int.tmod Phase 4)) [vi (Int.tmod Phase 4)] 0 [vi (Int.tmod Phase 4),vi (bits .xor .i64 a.X b.X),vi (bits .xor .i64 a.Z b.Z)] J K1) ?_
  rintro _ a2 ⟨rfl,aa⟩
  refine rn (cq (cr ?_))
  refine sQ 42 (yw 0 K6 K2 (aa.c 3) rfl (o.g 5 3)) ?_
  refine s0 (yK 2 3 0 aa K2 rfl (o.g 4 2)) ?_
  rintro _ a3 ⟨rfl,ab⟩
  refine rn (ct_ ?_)
  obtain rfl:=sI ay
  exact ret1 Tryz.results88 (rX K6 K2 (ab.c 2) (o.g 4 2)) ⟨rfl,(ab.sN [])⟩

theorem MH (t:Ae) (p:Aa) (B:Option Addr) (c n:Nat) (B1:Option Addr) (c1 n1:Nat) (w0:World) (hn:t.XImages.length=n) (ba:t.ZImages.length=n1) (hS:ST w0 [] w0 [] [⟨B,(t.XImages.flatMap eN0)⟩,⟨B1,(t.ZImages.flatMap eN0)⟩]) {r_:Aa} (hF:Bk t p=some r_) :
  CV Tryz.prog 96 #[.agg #[vi t.Qubits,.slice B n c,.slice B1 n1 c1],.agg #[vi p.Phase,vi p.X,vi p.Z]] w0 (fun v w'=>v=.agg #[vi r_.Phase,vi r_.X,vi r_.Z]∧ST w0 [] w' [] []):=by
 subst hn
 subst ba
 unfold Bk at hF
 refine cv_of_cw 48 Tryz.func96 rfl Tryz.ntmps96 rfl ?_
 refine cq (cr ?_)
 let V5:List Value:=[vi t.Qubits,.slice B t.XImages.length c,.slice B1 t.ZImages.length c1]
 refine sS 2 (yV V5 3 hS) ?_
 rintro _ w_ ⟨b,rfl,bb⟩
 refine sS 3 (yV [vi p.Phase,vi p.X,vi p.Z] 3 bb) ?_
 rintro _ bK ⟨b1,rfl,bc⟩
 refine sS 4 (yN [vi 0,vi 0,vi 0] 3 bc K14) ?_
 rintro _ bL ⟨b2,rfl,aJ⟩
 refine rn (cq (cr ?_))
 refine sQ 8 (yd (aD b1) 0 0 K30 K1)<|sQ 9 (yz 0 K0 (aJ.c 1))<|sQ 10 (Y_buildS (zs:=[vi 0,vi 0,vi 0]) (vs:=[(0,vi p.Phase)]) (cs:=[vi p.Phase,vi 0,vi 0]) K36 K14 rfl (mpc rfl mpn) rfl) ?_
 refine sS 5 (yN [vi 0,vi 0,vi 0] 3 aJ K14) ?_
 rintro _ bM ⟨b3,rfl,bd⟩
 refine s0 (yK 3 3 0 bd K2) ?_
 rintro _ bN ⟨rfl,be⟩
 refine rn (cq (cq (cr ?_)))
 refine sQ 6 yu (rn ?_)
 obtain ⟨hN,hF⟩:=chk_inv hF
 obtain ⟨z,hz,bf⟩:=bI hF
 refine cw_block ?_
 let O0:Ob:=⟨aD b,25,V5,3⟩
 let O1:Ob:=⟨aD b1,64,[vi p.Phase,vi p.X,vi p.Z],3⟩
 let O2:Ob:=⟨aD b2,64,[vi 0,vi 0,vi 0],3⟩
 let R3:Ro:=⟨B1,(t.ZImages.flatMap eN0)⟩
 let R4:Ro:=⟨B,(t.XImages.flatMap eN0)⟩
 refine cw_loop (fun k f w=>∃ (q:Nat) (Phase:Int) (X:Int) (Z:Int),FF f [(2,pt (aD b) 0),(3,pt (aD b1) 0),(4,pt (aD b2) 0),(5,pt (aD b3) 0),(6,vi (q:Int))]∧ST w0 [] w [O0,O1,O2,⟨aD b3,64,[vi Phase,vi X,vi Z],3⟩] [R4,R3]∧q+k=t.Qubits.toNat∧forN (CA p t) k q (Phase,X,Z)=some z) t.Qubits.toNat ⟨0,p.Phase,0,0,(fc rfl (fc rfl (fc rfl (fc rfl (fc rfl fn_))))),(be.sel [0,1,2,3] rfl rfl),Nat.zero_add _,hz⟩ ?_
 rintro k_ f w ⟨q,Phase,X,Z,O,U,bQ,hL⟩
 refine cq (cq (cr ?_))
 refine sQ 11 (yv rfl (O.g 6 4))<|sQ 12 (yd (aD b) 0 0 K22 K1 rfl (O.g 2 0))<|sQ 13 (yz 0 K0 (U.c 0))<|sQ 14 zL (rn ?_)
 refine cw_cond rfl (fun ao=>?_) (fun ao=>?_)
 ·skip
  have aK:q<t.Qubits.toNat:=by have h:=of_decide_eq_true ao; omega
  obtain ⟨K13,rfl⟩:∃ k2,k_=k2+1:=⟨k_-1,by omega⟩
  obtain ⟨y,hb,bh⟩:=forN_go hL
  unfold CA at hb
  refine cw_skip (cq ?_)
  obtain ⟨z1,ap,bj⟩:=bI hb
  refine cw_mid (fun f w=>∃ (J:Int) (X1:Int) (Z1:Int),(J,X1,Z1)=z1∧FF f [(2,pt (aD b) 0),(3,pt (aD b1) 0),(4,pt (aD b2) 0),(5,pt (aD b3) 0),(6,vi (q:Int))]∧ST w0 [] w [O0,O1,O2,⟨aD b3,64,[vi J,vi X1,vi Z1],3⟩] [R4,R3]) ?_ ?_
  ·skip
   refine cw_block (cq (cr ?_))
   refine sQ 17 (yw 0 K6 K2 (U.c 1) rfl (O.g 3 1))<|sQ 18 (yv rfl (O.g 6 4)) ?_
   obtain ⟨ag,hc,ap⟩:=bI ap
   refine sc 19 rfl rfl (yc K65 (Cf p (q:Int) _  (U.inn0 [] rfl) hc)) ?_
   rintro _ bT ⟨rfl,hd⟩
   have aq:=U.out00 hd
   refine sQ 7 yu (rn (cq ?_))
   obtain ⟨z2,aL,bk⟩:=bI ap
   refine cw_mid (fun f w=>∃ (D:Int) (X2:Int) (Z2:Int),(D,X2,Z2)=z2∧FF f [(2,pt (aD b) 0),(3,pt (aD b1) 0),(4,pt (aD b2) 0),(5,pt (aD b3) 0),(6,vi (q:Int)),(7,vi ag)]∧ST w0 [] w [O0,O1,O2,⟨aD b3,64,[vi D,vi X2,vi Z2],3⟩] [R4,R3]) ?_ ?_
   ·skip
    refine cq (cr ?_)
    refine sQ 20 yv<|sQ 21 (Y_band (k:=.i64) (a:=ag) (b:=1) rfl rfl rfl)<|sQ 22 zE (rn ?_)
    refine cw_cond rfl (fun ar=>?_) (fun ar=>?_)
    ·skip
     have ab:=ct aL ar
     obtain ⟨x,hx,ab⟩:=bI ab
     obtain ⟨au,bm,ab⟩:=bI ab
     refine ra_start (aq.se [0,1,2]).fn (by kernel_rfl) ?_
     have Q:=aq.drew
     have V:=Q.se [0,1,2]
     refine rq 1 24 rfl V (fun _ P=>(yd (aD b) 0 0 K18 K4 rfl (O.g 2 0)))<|rq 2 25 rfl V (fun _ P=>(yz 1 K7 (ST.c P 0)))<|rq 3 26 rfl V (fun _ P=>(yv rfl (O.g 6 4)))<|rq 4 27 rfl V (fun _ P=>(yI B (q:Int) K5 K2 (gi_isSome eN2 rfl (ST.rf P (i:=0) rfl) hx) (getI_nn hx) (getI_ltI hx rfl)))<|rq 5 28 rfl V (fun _ P=>(ya B ((q:Int).toNat*3) (t.XImages.flatMap eN0) [vi x.Phase,vi x.X,vi x.Z] K6 K2 (ST.rf P (i:=0) rfl) rfl rfl (eN2 x) (gi_seg eN2 hx))) ?_
     refine r1 23 0 rfl (yw 0 K6 K2 (Q.c 3) rfl (O.g 5 3)) V ?_
     refine rA [6] ?_
     refine rC 29 6 rfl (yc K75 (D7 (Aa.mk Phase X Z) x _  (Q.inn0 [] rfl) bm)) ?_ aN
     rintro _ bV ⟨rfl,bn⟩
     have aj:=Q.out00 bn
     refine ⟨(aj.se [0,1,2]),?_⟩
     refine rA [7] ?_
     refine rZ 7 rfl (yK 3 3 0 aj K2 rfl (O.g 5 3)) ?_ aN
     rintro _ bW ⟨rfl,ak⟩
     refine ⟨(ak.se [0,1,2]),?_⟩
     refine ra_done (by kernel_rfl) ?_
     exact ⟨au.Phase,au.X,au.Z,(sI ab),(O.a 2 0 (O.a 3 1 (O.a 4 2 (O.a 5 3 (O.a 6 4 (fc rfl fn_)))))),(ak.sel [0,1,2,3] rfl rfl)⟩
    ·skip
     have bo:=cf' aL ar
     refine cw_skip ?_
     exact ⟨Phase,X,Z,(sI bo),(O.a 2 0 (O.a 3 1 (O.a 4 2 (O.a 5 3 (O.a 6 4 (fc rfl fn_)))))),(aq.sel [0,1,2,3] rfl rfl)⟩
   rintro f w ⟨D,X2,Z2,rfl,u,av⟩
   refine cq ?_
   obtain ⟨z3,aQ,aR⟩:=bI bk
   refine cw_mid (fun f w=>∃ (o:Int) (X3:Int) (Z3:Int),(o,X3,Z3)=z3∧FF f [(2,pt (aD b) 0),(3,pt (aD b1) 0),(4,pt (aD b2) 0),(5,pt (aD b3) 0),(6,vi (q:Int)),(7,vi ag)]∧ST w0 [] w [O0,O1,O2,⟨aD b3,64,[vi o,vi X3,vi Z3],3⟩] [R4,R3]) ?_ ?_
   ·skip
    refine cq (cr ?_)
    refine sQ 30 (yv rfl (u.g 7 5))<|sQ 31 (Y_band (k:=.i64) (a:=ag) (b:=2) rfl rfl rfl)<|sQ 32 zE (rn ?_)
    refine cw_cond rfl (fun aw=>?_) (fun aw=>?_)
    ·skip
     have ac:=ct aQ aw
     obtain ⟨x1,ah,ac⟩:=bI ac
     obtain ⟨ay,bp,ac⟩:=bI ac
     refine ra_start (av.se [0,1,2]).fn (by kernel_rfl) ?_
     have S:=av.drew
     have W:=S.se [0,1,2]
     refine rq 1 34 rfl W (fun _ P=>(yd (aD b) 0 0 K20 K4 rfl (u.g 2 0)))<|rq 2 35 rfl W (fun _ P=>(yz 2 K7 (ST.c P 0)))<|rq 3 36 rfl W (fun _ P=>(yv rfl (u.g 6 4)))<|rq 4 37 rfl W (fun _ P=>(yI B1 (q:Int) K5 K2 (gi_isSome eN2 rfl (ST.rf P (i:=1) rfl) ah) (getI_nn ah) (getI_ltI ah rfl)))<|rq 5 38 rfl W (fun _ P=>(ya B1 ((q:Int).toNat*3) (t.ZImages.flatMap eN0) [vi x1.Phase,vi x1.X,vi x1.Z] K6 K2 (ST.rf P (i:=1) rfl) rfl rfl (eN2 x1) (gi_seg eN2 ah))) ?_
     refine r1 33 0 rfl (yw 0 K6 K2 (S.c 3) rfl (u.g 5 3)) W ?_
     refine rA [6] ?_
     refine rC 39 6 rfl (yc K75 (D7 (Aa.mk D X2 Z2) x1 _  (S.inn0 [] rfl) bp)) ?_ aN
     rintro _ bY ⟨rfl,bq⟩
     have al:=S.out00 bq
     refine ⟨(al.se [0,1,2]),?_⟩
     refine rA [7] ?_
     refine rZ 7 rfl (yK 3 3 0 al K2 rfl (u.g 5 3)) ?_ aN
     rintro _ bZ ⟨rfl,am⟩
     refine ⟨(am.se [0,1,2]),?_⟩
     refine ra_done (by kernel_rfl) ?_
     exact ⟨ay.Phase,ay.X,ay.Z,(sI ac),(u.a 2 0 (u.a 3 1 (u.a 4 2 (u.a 5 3 (u.a 6 4 (u.a 7 5 fn_)))))),(am.sel [0,1,2,3] rfl rfl)⟩
    ·skip
     have bt:=cf' aQ aw
     refine cw_skip ?_
     exact ⟨D,X2,Z2,(sI bt),(u.a 2 0 (u.a 3 1 (u.a 4 2 (u.a 5 3 (u.a 6 4 (u.a 7 5 fn_)))))),(av.sel [0,1,2,3] rfl rfl)⟩
   rintro f w ⟨o,X3,Z3,rfl,H,ae⟩
   refine cq (cr ?_)
   refine sQ 40 (yv rfl (H.g 7 5))<|sQ 41 zE (rn ?_)
   refine cw_cond rfl (fun aA=>?_) (fun aA=>?_)
   ·skip
    have bu:=ct aR aA
    refine cr ?_
    refine sQ 42 (yd (aD b3) 0 0 K30 K1 rfl (H.g 5 3))<|sQ 43 (yz 0 K0 (ae.c 3))<|sQ 44 zP<|sQ 45 (Y_rem (k:=.i64) (a:=(i64.wrap (o+1))) (b:=4) rfl rfl rfl (by decide))<|sQ 46 (yd (aD b3) 0 0 K30 K1 rfl (H.g 5 3)) ?_
    refine s0 (yS 3 1 (aD b3) 64 (vi (Int.tmod (i64.wrap (o+1)) 4)) [vi (Int.tmod (i64.wrap (o+1)) 4)] 0 [vi (Int.tmod (i64.wrap (o+1)) 4),vi X3,vi Z3] ae K1) ?_
    rintro _ bD ⟨rfl,aU⟩
    refine rn ?_
    exact ⟨(Int.tmod (i64.wrap (o+1)) 4),X3,Z3,(sI bu),(H.a 2 0 (H.a 3 1 (H.a 4 2 (H.a 5 3 (H.a 6 4 fn_))))),(aU.sel [0,1,2,3] rfl rfl)⟩
   ·skip
    have aV:=cf' aR aA
    refine cw_skip ?_
    exact ⟨o,X3,Z3,(sI aV),(H.a 2 0 (H.a 3 1 (H.a 4 2 (H.a 5 3 (H.a 6 4 fn_))))),(ae.sel [0,1,2,3] rfl rfl)⟩
  rintro f w ⟨J,X1,Z1,rfl,af,bv⟩
  refine cr ?_
  refine sQ 15 (yv rfl (af.g 6 4))<|sQ 16 zP<|sQ 6 yu (rn ?_)
  obtain rfl:=sI bj
  exact ⟨K13,Nat.lt_succ_self _,q+1,J,X1,Z1,(af.a 2 0 (af.a 3 1 (af.a 4 2 (af.a 5 3 (fc (congrArg (Value.int .i64) (wr_succ aK hN)) fn_))))),(bv.sel [0,1,2,3] rfl rfl),(by omega),bh⟩
 ·skip
  obtain rfl:k_=0:=by have h:=of_decide_eq_false ao; omega
  refine cw_exit rfl ?_
  obtain rfl:=sI hL
  refine cq (cr ?_)
  refine sQ 47 (yw 0 K6 K2 (U.c 3) rfl (O.g 5 3)) ?_
  refine s0 (yK 2 3 0 U K2 rfl (O.g 4 2)) ?_
  rintro _ bE ⟨rfl,an⟩
  refine rn (ct_ ?_)
  obtain rfl:=sI bf
  exact ret1 Tryz.results96 (rX K6 K2 (an.c 2) (O.g 4 2)) ⟨rfl,(an.sN [])⟩

theorem MX (first:Ae) (o:Ae) (B:Option Addr) (c n:Nat) (B1:Option Addr) (c1 n1:Nat) (B2:Option Addr) (c2 n2:Nat) (B3:Option Addr) (c3 n3:Nat) (w0:World) (hn:first.XImages.length=n) (bo:first.ZImages.length=n1) (bp:o.XImages.length=n2) (bq:o.ZImages.length=n3) (hS:ST w0 [] w0 [] [⟨B,(first.XImages.flatMap eN0)⟩,⟨B1,(first.ZImages.flatMap eN0)⟩,⟨B2,(o.XImages.flatMap eN0)⟩,⟨B3,(o.ZImages.flatMap eN0)⟩]) {r_:Ae} (hF:BO first o=some r_) :
  CV Tryz.prog 68 #[.agg #[vi first.Qubits,.slice B n c,.slice B1 n1 c1],.agg #[vi o.Qubits,.slice B2 n2 c2,.slice B3 n3 c3]] w0 (fun v w'=>∃ (B4:Option Addr) (c4:Nat) (B5:Option Addr) (c5:Nat),v=.agg #[vi r_.Qubits,.slice B4 r_.XImages.length c4,.slice B5 r_.ZImages.length c5]∧ST w0 [] w' [⟨B4,64,(r_.XImages.flatMap eN0),c4*3⟩,⟨B5,64,(r_.ZImages.flatMap eN0),c5*3⟩] []):=by
 subst hn
 subst bo
 subst bp
 subst bq
 unfold BO at hF
 refine cv_of_cw 41 Tryz.func68 rfl Tryz.ntmps68 rfl ?_
 refine cq (cr ?_)
 let aV:List Value:=[vi first.Qubits,.slice B first.XImages.length c,.slice B1 first.ZImages.length c1]
 refine sS 2 (yV aV 3 hS) ?_
 rintro _ w_ ⟨b,rfl,bt⟩
 let aY:List Value:=[vi o.Qubits,.slice B2 o.XImages.length c2,.slice B3 o.ZImages.length c3]
 refine sS 3 (yV aY 3 bt) ?_
 rintro _ cl ⟨b1,rfl,bu⟩
 let ah:List Value:=[vi 0,.slice none 0 0,.slice none 0 0]
 refine sS 4 (yN ah 3 bu K26) ?_
 rintro _ cm ⟨b2,rfl,a0⟩
 refine rn (cq (cr ?_))
 refine sQ 7 (yd (aD b) 0 0 K22 K1)<|sQ 8 (yz 0 K0 (a0.c 0))<|sQ 9 (Y_buildS (zs:=ah) (vs:=[(0,vi first.Qubits)]) (cs:=[vi first.Qubits,.slice none 0 0,.slice none 0 0]) K80 K26 rfl (mpc rfl mpn) rfl) ?_
 refine sS 5 (yN ah 3 a0 K26) ?_
 rintro _ cn ⟨b3,rfl,bv⟩
 refine s0 (yK 3 3 0 bv K3) ?_
 rintro _ co ⟨rfl,bw⟩
 refine rn (cq (cq (cr ?_)))
 refine sQ 6 yu (rn ?_)
 obtain ⟨hN,hF⟩:=chk_inv hF
 obtain ⟨z,hz,bA⟩:=bI hF
 have bB:=bw.addNil 64
 have bC:=bB.addNil 64
 refine cw_block ?_
 let Q:Ob:=⟨aD b1,25,aY,3⟩
 let S:Ob:=⟨aD b,25,aV,3⟩
 let U:Ob:=⟨aD b2,25,ah,3⟩
 let aB:Ro:=⟨B2,(o.XImages.flatMap eN0)⟩
 let aE:Ro:=⟨B3,(o.ZImages.flatMap eN0)⟩
 let aF:Ro:=⟨B1,(first.ZImages.flatMap eN0)⟩
 let aG:Ro:=⟨B,(first.XImages.flatMap eN0)⟩
 refine cw_loop (fun k f w=>∃ (q:Nat) (XImages:List Aa) (ZImages:List Aa) (B6:Option Addr) (c6:Nat) (B7:Option Addr) (c7:Nat),FF f [(2,pt (aD b) 0),(3,pt (aD b1) 0),(4,pt (aD b2) 0),(5,pt (aD b3) 0),(6,vi (q:Int))]∧ST w0 [] w [S,Q,U,⟨aD b3,25,[vi first.Qubits,.slice B6 XImages.length c6,.slice B7 ZImages.length c7],3⟩,⟨B6,64,(XImages.flatMap eN0),c6*3⟩,⟨B7,64,(ZImages.flatMap eN0),c7*3⟩] [aG,aF,aB,aE]∧q+k=first.Qubits.toNat∧forN (CQ first o) k q (XImages,ZImages)=some z) first.Qubits.toNat ⟨0,[],[],none,0,none,0,(fc rfl (fc rfl (fc rfl (fc rfl (fc rfl fn_))))),(bC.sel [0,1,2,3,4,5] rfl rfl),Nat.zero_add _,hz⟩ ?_
 rintro k_ f w ⟨q,XImages,ZImages,B6,c6,B7,c7,H,V,cv,hL⟩
 refine cq (cq (cr ?_))
 refine sQ 10 (yv rfl (H.g 6 4))<|sQ 11 (yd (aD b) 0 0 K22 K1 rfl (H.g 2 0))<|sQ 12 (yz 0 K0 (V.c 0))<|sQ 13 zL (rn ?_)
 refine cw_cond rfl (fun aI=>?_) (fun aI=>?_)
 ·skip
  have a1:q<first.Qubits.toNat:=by have h:=of_decide_eq_true aI; omega
  obtain ⟨K13,rfl⟩:∃ k2,k_=k2+1:=⟨k_-1,by omega⟩
  obtain ⟨y,hb,bE⟩:=forN_go hL
  unfold CQ at hb
  refine cw_skip (cq (cw_block (cq ?_)))
  obtain ⟨x,hx,hb⟩:=bI hb
  obtain ⟨u,hc,hb⟩:=bI hb
  obtain ⟨bF,hb⟩:=chk_inv hb
  refine ra_start (V.se [0,1,2,5]).fn (by kernel_rfl) ?_
  have al:=V.drew
  have O:=al.se [0,1,2,5]
  refine rq 0 16 rfl O (fun _ D=>(yd (aD b3) 0 0 K18 K4 rfl (H.g 5 3)))<|rq 2 18 rfl O (fun _ D=>(yw 0 K11 K3 (ST.c D 1) rfl (H.g 3 1)))<|rq 3 19 rfl O (fun _ D=>(yd (aD b) 0 0 K18 K4 rfl (H.g 2 0)))<|rq 4 20 rfl O (fun _ D=>(yz 1 K7 (ST.c D 0)))<|rq 5 21 rfl O (fun _ D=>(yv rfl (H.g 6 4))) ?_
  refine rq 6 22 rfl O (fun _ D=>(yI B (q:Int) K5 K2 (gi_isSome eN2 rfl (ST.rf D (i:=0) rfl) hx) (getI_nn hx) (getI_ltI hx rfl)))<|rq 7 23 rfl O (fun _ D=>(ya B ((q:Int).toNat*3) (first.XImages.flatMap eN0) [vi x.Phase,vi x.X,vi x.Z] K6 K2 (ST.rf D (i:=0) rfl) rfl rfl (eN2 x) (gi_seg eN2 hx))) ?_
  let O3:Ob:=⟨aD b3,25,[vi first.Qubits,.slice B6 XImages.length c6,.slice B7 ZImages.length c7],3⟩
  let O5:Ob:=⟨B7,64,(ZImages.flatMap eN0),c7*3⟩
  let O8:Ob:=⟨B6,64,(XImages.flatMap eN0),c6*3⟩
  refine rf_in (k:=5) (ts:=[16]) (L:=[S,Q,U,O3,O8,O5]) (G:=[]) [fQ 1 17 (.slice B6 XImages.length c6) O3] al (flc rfl rfl rfl (fun _ _ _ _ aJ h aK=>(yfl (yz 1 K7 (ST.cfm h aK.1) rfl ((aJ 16 (List.Mem.head _)).trans rfl)) h)) fln) (fun hJ=>?_)
  refine rf_all [8] hJ (fun Z w h=>(ST.sel (ST.noF h) [0,1,2,5] rfl rfl)) (fun Z cx bJ an=>?_)
  refine rC 24 8 rfl (yc L9 (MH o x B2 c2 o.XImages.length B3 c3 o.ZImages.length _ rfl rfl (an.inn0 [(true,2),(true,3)] rfl) hc)) ?_ aN
  rintro _ cy ⟨rfl,hd⟩
  have a3:=an.out00 hd
  refine rf_k (L:=[S,Q,U,O3,O8,O5]) bJ a3 (fun Z w h=>(ST.sel (ST.noF h) [0,1,2,5] rfl rfl)) ?_
  refine rf_all [9] hJ (fun Z w h=>(ST.sel (ST.noF h) [0,1,2,5] rfl rfl)) (fun Z1 cz bK a5=>?_)
  refine rS 25 9 rfl (yF 3 1 [vi u.Phase,vi u.X,vi u.Z] 3 a5 K5 K2 K74 rfl (mpc rfl mpn)) ?_ aN
  rintro _ cA ⟨b4,rfl,a6⟩
  let O6:Ob:=⟨aD b4,64,([u].flatMap eN0),1*3⟩
  have a7:ST w0 [] _ (S::Q::U::O3::O8::O5::O6::(flL [fQ 1 17 (.slice B6 XImages.length c6) O3] Z1++[])) [aG,aF,aB,aE]:=ST.rot (pre:=[S,Q,U,O3,O8,O5]) (G:=(flL [fQ 1 17 (.slice B6 XImages.length c6) O3] Z1++[])) (xs:=[O6]) a6
  refine rf_k (L:=[S,Q,U,O3,O8,O5,O6]) bK a7 (fun Z w h=>(ST.sel (ST.noF h) [0,1,2,5] rfl rfl)) ?_
  refine rf_force hJ (fun Z w h=>(ST.sel (ST.noF h) [0,1,2,5] rfl rfl)) (fun _=>?_)
  refine rf_out (fun cC ap=>?_)
  refine rA [10] ?_
  refine rS 26 10 rfl (aP 3 24 4 XImages [u] ap K5 K2 K63 K14 eN2 BR (ap.c 6) bF) ?_ aN
  rintro _ b6 ⟨B8,c8,rfl,W⟩
  refine ⟨(W.se [0,1,2,5]),?_⟩
  refine rq 11 27 rfl (W.se [0,1,2,5]) (fun _ D=>(yd (aD b3) 0 0 K18 K4 rfl (H.g 5 3))) ?_
  refine rA [12] ?_
  let a8:List Value:=[vi first.Qubits,.slice B8 ((XImages++[u]).length) c8,.slice B7 ZImages.length c7]
  refine rZ 12 rfl (yS 3 1 (aD b3) 25 (.slice B8 ((XImages++[u]).length) c8) [.slice B8 ((XImages++[u]).length) c8] 1 a8 W K4) ?_ aN
  rintro _ b7 ⟨rfl,aa⟩
  refine ⟨(aa.se [0,1,2,5]),?_⟩
  refine ra_done (by kernel_rfl) ?_
  obtain ⟨x1,ak,hb⟩:=bI hb
  obtain ⟨J,bL,hb⟩:=bI hb
  obtain ⟨ba,hb⟩:=chk_inv hb
  refine ra_start (aa.se [0,1,2,4,6]).fn (by kernel_rfl) ?_
  have aq:=aa.drew
  have P:=aq.se [0,1,2,4,6]
  refine rq 0 28 rfl P (fun _ D=>(yd (aD b3) 0 0 K20 K4 rfl (H.g 5 3)))<|rq 2 30 rfl P (fun _ D=>(yw 0 K11 K3 (ST.c D 1) rfl (H.g 3 1)))<|rq 3 31 rfl P (fun _ D=>(yd (aD b) 0 0 K20 K4 rfl (H.g 2 0)))<|rq 4 32 rfl P (fun _ D=>(yz 2 K7 (ST.c D 0)))<|rq 5 33 rfl P (fun _ D=>(yv rfl (H.g 6 4))) ?_
  refine rq 6 34 rfl P (fun _ D=>(yI B1 (q:Int) K5 K2 (gi_isSome eN2 rfl (ST.rf D (i:=1) rfl) ak) (getI_nn ak) (getI_ltI ak rfl)))<|rq 7 35 rfl P (fun _ D=>(ya B1 ((q:Int).toNat*3) (first.ZImages.flatMap eN0) [vi x1.Phase,vi x1.X,vi x1.Z] K6 K2 (ST.rf D (i:=1) rfl) rfl rfl (eN2 x1) (gi_seg eN2 ak))) ?_
  let O2:Ob:=⟨aD b3,25,a8,3⟩
  let O7:Ob:=⟨B8,64,((XImages++[u]).flatMap eN0),c8*3⟩
  refine rf_in (k:=5) (ts:=[28]) (L:=[S,Q,U,O2,O7,O5,O6]) (G:=[]) [fQ 1 29 (.slice B7 ZImages.length c7) O2] aq (flc rfl rfl rfl (fun _ _ _ _ aJ h aK=>(yfl (yz 2 K7 (ST.cfm h aK.1) rfl ((aJ 28 (List.Mem.head _)).trans rfl)) h)) fln) (fun aL=>?_)
  refine rf_all [8] aL (fun Z w h=>(ST.sel (ST.noF h) [0,1,2,4,6] rfl rfl)) (fun Z2 b8 bM au=>?_)
  refine rC 36 8 rfl (yc L9 (MH o x1 B2 c2 o.XImages.length B3 c3 o.ZImages.length _ rfl rfl (au.inn0 [(true,2),(true,3)] rfl) bL)) ?_ aN
  rintro _ b9 ⟨rfl,bN⟩
  have bc:=au.out00 bN
  refine rf_k (L:=[S,Q,U,O2,O7,O5,O6]) bM bc (fun Z w h=>(ST.sel (ST.noF h) [0,1,2,4,6] rfl rfl)) ?_
  refine rf_all [9] aL (fun Z w h=>(ST.sel (ST.noF h) [0,1,2,4,6] rfl rfl)) (fun Z3 cb bO bd=>?_)
  refine rS 37 9 rfl (yF 3 1 [vi J.Phase,vi J.X,vi J.Z] 3 bd K5 K2 K74 rfl (mpc rfl mpn)) ?_ aN
  rintro _ cc ⟨b5,rfl,be⟩
  let O9:Ob:=⟨aD b5,64,([J].flatMap eN0),1*3⟩
  have bf:ST w0 [] _ (S::Q::U::O2::O7::O5::O6::O9::(flL [fQ 1 29 (.slice B7 ZImages.length c7) O2] Z3++[])) [aG,aF,aB,aE]:=ST.rot (pre:=[S,Q,U,O2,O7,O5,O6]) (G:=(flL [fQ 1 29 (.slice B7 ZImages.length c7) O2] Z3++[])) (xs:=[O9]) be
  refine rf_k (L:=[S,Q,U,O2,O7,O5,O6,O9]) bO bf (fun Z w h=>(ST.sel (ST.noF h) [0,1,2,4,6] rfl rfl)) ?_
  refine rf_force aL (fun Z w h=>(ST.sel (ST.noF h) [0,1,2,4,6] rfl rfl)) (fun _=>?_)
  refine rf_out (fun cd av=>?_)
  refine rA [10] ?_
  refine rS 38 10 rfl (aP 3 24 5 ZImages [J] av K5 K2 K63 K14 eN2 BR (av.c 7) ba) ?_ aN
  rintro _ ce ⟨B9,c9,rfl,ab⟩
  refine ⟨(ab.se [0,1,2,4,6]),?_⟩
  refine rq 11 39 rfl (ab.se [0,1,2,4,6]) (fun _ D=>(yd (aD b3) 0 0 K20 K4 rfl (H.g 5 3))) ?_
  refine rA [12] ?_
  refine rZ 12 rfl (yS 3 1 (aD b3) 25 (.slice B9 ((ZImages++[J]).length) c9) [.slice B9 ((ZImages++[J]).length) c9] 2 [vi first.Qubits,.slice B8 ((XImages++[u]).length) c8,.slice B9 ((ZImages++[J]).length) c9] ab K4) ?_ aN
  rintro _ cg ⟨rfl,aw⟩
  refine ⟨(aw.se [0,1,2,4,6]),?_⟩
  refine ra_done (by kernel_rfl) ?_
  refine cr ?_
  refine sQ 14 (yv rfl (H.g 6 4))<|sQ 15 zP<|sQ 6 yu (rn ?_)
  obtain rfl:=sI hb
  exact ⟨K13,Nat.lt_succ_self _,q+1,(XImages++[u]),(ZImages++[J]),B8,c8,B9,c9,(H.a 2 0 (H.a 3 1 (H.a 4 2 (H.a 5 3 (fc (congrArg (Value.int .i64) (wr_succ a1 hN)) fn_))))),(aw.sel [0,1,2,3,4,5] rfl rfl),(by omega),bE⟩
 ·skip
  obtain rfl:k_=0:=by have h:=of_decide_eq_false aI; omega
  refine cw_exit rfl ?_
  obtain rfl:=sI hL
  refine cq (cr ?_)
  refine sQ 40 (yw 0 K11 K3 (V.c 3) rfl (H.g 5 3)) ?_
  refine s0 (yK 2 3 0 V K3 rfl (H.g 4 2)) ?_
  rintro _ ch ⟨rfl,ay⟩
  refine rn (ct_ ?_)
  obtain rfl:=sI bA
  exact ret1 Tryz.results68 (rX K11 K3 (ay.c 2) (H.g 4 2)) ⟨B6,c6,B7,c7,rfl,(ay.sN [4,5])⟩

theorem MK (n:Int) (g:Ab)  (w0:World)  (hS:ST w0 [] w0 [] []) {r_:Ae} (hF:BT n g=some r_) :
  CV Tryz.prog 69 #[vi n,.agg #[vi g.Kind,vi g.A,vi g.B]] w0 (fun v w'=>∃ (B:Option Addr) (c:Nat) (B1:Option Addr) (c1:Nat),v=.agg #[vi r_.Qubits,.slice B r_.XImages.length c,.slice B1 r_.ZImages.length c1]∧ST w0 [] w' [⟨B,64,(r_.XImages.flatMap eN0),c*3⟩,⟨B1,64,(r_.ZImages.flatMap eN0),c1*3⟩] []):=by
 unfold BT at hF
 refine cv_of_cw 163 Tryz.func69 rfl Tryz.ntmps69 rfl ?_
 refine cq (cr ?_)
 refine sS 3 (yV [vi g.Kind,vi g.A,vi g.B] 3 hS) ?_
 rintro _ w_ ⟨b,rfl,cp⟩
 let bk:List Value:=[vi 0,.slice none 0 0,.slice none 0 0]
 refine sS 4 (yN bk 3 cp K26) ?_
 rintro _ dp ⟨b1,rfl,bL⟩
 refine rn (cq (cr ?_))
 refine sQ 10 yv ?_
 obtain ⟨u,hc,hF⟩:=bI hF
 refine sc 11 rfl rfl (yc Lq (MJ n _  (bL.inn0 [] rfl) hc)) ?_
 rintro _ dq ⟨Q,c2,B3,c3,rfl,hd⟩
 have cv:=bL.out0 hd
 refine sS 5 (yN bk 3 cv K26) ?_
 rintro _ dr ⟨b2,rfl,cw⟩
 refine s0 (yK 4 3 0 cw K3) ?_
 rintro _ ds ⟨rfl,bO⟩
 refine rn (cq ?_)
 obtain ⟨cx,hF⟩:=chk_inv hF
 obtain ⟨bP,hF⟩:=chk_inv hF
 refine ra_start (bO.se [0,1,2,3,4]).fn (by kernel_rfl) ?_
 have bQ:=bO.drew
 have S:=bQ.se [0,1,2,3,4]
 let V5:List Value:=[vi 0,vi (shlK .i64 1 (IntKind.u64.wrap g.A)),vi 0]
 refine rq 0 12 rfl S (fun _ q=>(yd (aD b) 0 0 K24 K1))<|rq 1 13 rfl S (fun _ q=>(yz 1 K0 (ST.c q 0)))<|rq 2 14 rfl S (fun _ q=>(Y_conv (k:=.i64) (a:=g.A) (T:=3) (T':=103) K41 K43 rfl rfl))<|rq 3 15 rfl S (fun _ q=>(Y_shl (k:=.i64) (a:=1) (k':=.u64) (b:=(IntKind.u64.wrap g.A)) rfl rfl rfl cx))<|rq 4 16 rfl S (fun _ q=>(Y_buildS (zs:=[vi 0,vi 0,vi 0]) (vs:=[(1,vi (shlK .i64 1 (IntKind.u64.wrap g.A)))]) (cs:=V5) K36 K14 rfl (mpc rfl mpn) rfl)) ?_
 let V6:List Value:=[vi 0,vi 0,vi (shlK .i64 1 (IntKind.u64.wrap g.A))]
 refine rq 5 17 rfl S (fun _ q=>(yd (aD b) 0 0 K24 K1))<|rq 6 18 rfl S (fun _ q=>(yz 1 K0 (ST.c q 0)))<|rq 7 19 rfl S (fun _ q=>(Y_conv (k:=.i64) (a:=g.A) (T:=3) (T':=103) K41 K43 rfl rfl))<|rq 8 20 rfl S (fun _ q=>(Y_shl (k:=.i64) (a:=1) (k':=.u64) (b:=(IntKind.u64.wrap g.A)) rfl rfl rfl bP))<|rq 9 21 rfl S (fun _ q=>(Y_buildS (zs:=[vi 0,vi 0,vi 0]) (vs:=[(2,vi (shlK .i64 1 (IntKind.u64.wrap g.A)))]) (cs:=V6) K36 K14 rfl (mpc rfl mpn) rfl)) ?_
 let bR:List Value:=[vi u.Qubits,.slice Q u.XImages.length c2,.slice B3 u.ZImages.length c3]
 let O0:Ob:=⟨aD b2,25,bR,3⟩
 let O1:Ob:=⟨aD b1,25,bk,3⟩
 let O2:Ob:=⟨aD b,57,[vi g.Kind,vi g.A,vi g.B],3⟩
 let O3:Ob:=⟨Q,64,(u.XImages.flatMap eN0),c2*3⟩
 let O4:Ob:=⟨B3,64,(u.ZImages.flatMap eN0),c3*3⟩
 refine rf_in (k:=2) (ts:=[]) (L:=[O2,O1,O3,O4,O0]) (G:=[]) [fN 10 6 64 [vi 0,vi 0,vi 0] 3,fN 11 7 64 [vi 0,vi 0,vi 0] 3] bQ (flc rfl rfl rfl (fun _ _ _ _ bm h _=>(yN [vi 0,vi 0,vi 0] 3 h K14)) (flc rfl rfl rfl (fun _ _ _ _ bm h _=>(yN [vi 0,vi 0,vi 0] 3 h K14)) fln)) (fun hJ=>?_)
 refine rf_force hJ (fun Z w h=>(ST.sel (ST.noF h) [0,1,2,3,4] rfl rfl)) (fun b3=>?_)
 refine rf_force (FlOK.nx hJ) (fun Z w h=>(ST.sel (ST.noF h) [0,1,2,3,4] rfl rfl)) (fun b4=>?_)
 refine rf_out (fun dt cA=>?_)
 refine rA [12] ?_
 refine rZ 12 rfl (yK 5 3 0 cA K2) ?_ aN
 rintro _ du ⟨rfl,bV⟩
 refine ⟨(bV.se [0,1,2,3,4]),?_⟩
 refine rA [13] ?_
 refine rZ 13 rfl (yK 6 3 0 bV K2) ?_ aN
 rintro _ dv ⟨rfl,bn⟩
 refine ⟨(bn.se [0,1,2,3,4]),?_⟩
 refine ra_done (by kernel_rfl) ?_
 refine cq ?_
 obtain ⟨bW,hF⟩:=chk_inv hF
 obtain ⟨bX,hF⟩:=chk_inv hF
 refine ra_start (bn.se [0,1,2,3,4,5,6]).fn (by kernel_rfl) ?_
 have a8:=bn.drew
 have U:=a8.se [0,1,2,3,4,5,6]
 let V7:List Value:=[vi 0,vi (shlK .i64 1 (IntKind.u64.wrap g.B)),vi 0]
 refine rq 0 22 rfl U (fun _ q=>(yd (aD b) 0 0 K38 K1))<|rq 1 23 rfl U (fun _ q=>(yz 2 K0 (ST.c q 0)))<|rq 2 24 rfl U (fun _ q=>(Y_conv (k:=.i64) (a:=g.B) (T:=3) (T':=103) K41 K43 rfl rfl))<|rq 3 25 rfl U (fun _ q=>(Y_shl (k:=.i64) (a:=1) (k':=.u64) (b:=(IntKind.u64.wrap g.B)) rfl rfl rfl bW))<|rq 4 26 rfl U (fun _ q=>(Y_buildS (zs:=[vi 0,vi 0,vi 0]) (vs:=[(1,vi (shlK .i64 1 (IntKind.u64.wrap g.B)))]) (cs:=V7) K36 K14 rfl (mpc rfl mpn) rfl)) ?_
 let V8:List Value:=[vi 0,vi 0,vi (shlK .i64 1 (IntKind.u64.wrap g.B))]
 refine rq 5 27 rfl U (fun _ q=>(yd (aD b) 0 0 K38 K1))<|rq 6 28 rfl U (fun _ q=>(yz 2 K0 (ST.c q 0)))<|rq 7 29 rfl U (fun _ q=>(Y_conv (k:=.i64) (a:=g.B) (T:=3) (T':=103) K41 K43 rfl rfl))<|rq 8 30 rfl U (fun _ q=>(Y_shl (k:=.i64) (a:=1) (k':=.u64) (b:=(IntKind.u64.wrap g.B)) rfl rfl rfl bX))<|rq 9 31 rfl U (fun _ q=>(Y_buildS (zs:=[vi 0,vi 0,vi 0]) (vs:=[(2,vi (shlK .i64 1 (IntKind.u64.wrap g.B)))]) (cs:=V8) K36 K14 rfl (mpc rfl mpn) rfl)) ?_
 refine rf_in (k:=2) (ts:=[]) (L:=[O2,O1,O3,O4,O0,⟨aD b3,64,V5,3⟩,⟨aD b4,64,V6,3⟩]) (G:=[]) [fN 10 8 64 [vi 0,vi 0,vi 0] 3,fN 11 9 64 [vi 0,vi 0,vi 0] 3] a8 (flc rfl rfl rfl (fun _ _ _ _ bm h _=>(yN [vi 0,vi 0,vi 0] 3 h K14)) (flc rfl rfl rfl (fun _ _ _ _ bm h _=>(yN [vi 0,vi 0,vi 0] 3 h K14)) fln)) (fun b0=>?_)
 refine rf_force b0 (fun Z w h=>(ST.sel (ST.noF h) [0,1,2,3,4,5,6] rfl rfl)) (fun b5=>?_)
 refine rf_force (FlOK.nx b0) (fun Z w h=>(ST.sel (ST.noF h) [0,1,2,3,4,5,6] rfl rfl)) (fun b6=>?_)
 refine rf_out (fun dw b7=>?_)
 refine rA [12] ?_
 refine rZ 12 rfl (yK 7 3 0 b7 K2) ?_ aN
 rintro _ dx ⟨rfl,a9⟩
 refine ⟨(a9.se [0,1,2,3,4,5,6]),?_⟩
 refine rA [13] ?_
 refine rZ 13 rfl (yK 8 3 0 a9 K2) ?_ aN
 rintro _ cV ⟨rfl,D⟩
 refine ⟨(D.se [0,1,2,3,4,5,6]),?_⟩
 refine ra_done (by kernel_rfl) ?_
 refine cq ?_
 obtain ⟨z,hz,cE⟩:=bI hF
 refine cw_mid (fun f w=>∃ (XImages:List Aa) (ZImages:List Aa),(XImages,ZImages)=z∧FF f [(4,pt (aD b1) 0),(5,pt (aD b2) 0)]∧XImages.length=u.XImages.length∧ZImages.length=u.ZImages.length∧ST w0 [] w [O1,O0,⟨Q,64,(XImages.flatMap eN0),c2*3⟩,⟨B3,64,(ZImages.flatMap eN0),c3*3⟩] []) ?_ ?_
 ·skip
  refine cq (cr ?_)
  refine sQ 32 (yd (aD b) 0 0 K42 K1)<|sQ 33 (yz 0 K0 (D.c 0)) (rn (cw_block (cq (cr ?_))))
  refine sQ 35 zE<|sQ 34 yu (rn ?_)
  refine cw_cond rfl (fun hb=>?_) (fun hb=>?_)
  ·skip
   have aI:=ct hz hb
   refine cq (cr ?_)
   refine sQ 36 (yd (aD b2) 0 0 K18 K4)<|sQ 37 (yz 1 K7 (D.c 4))<|sQ 38 (yd (aD b) 0 0 K24 K1)<|sQ 39 (yz 1 K0 (D.c 0))<|sQ 40 (yw 0 K6 K2 (D.c 6)) ?_
   obtain ⟨x,hx,aI⟩:=bI aI
   refine sQ 41 (yI Q g.A K5 K2 (gi_isSome eN2 rfl (D.c 2) hx) (getI_nn hx) (getI_ltI hx rfl)) ?_
   refine s0 (yS 2 3 Q 64 (.agg V6.toArray) V6 (g.A.toNat*3) ((u.XImages.set g.A.toNat (Aa.mk 0 0 (shlK .i64 1 (IntKind.u64.wrap g.A)))).flatMap eN0) D K2 rfl rfl rfl rfl rfl rfl rfl (gi_fit0 eN2 hx) (gi_set eN2 hx (Aa.mk 0 0 (shlK .i64 1 (IntKind.u64.wrap g.A))) rfl)) ?_
   rintro _ cX ⟨rfl,ah⟩
   refine rn (cr ?_)
   refine sQ 42 (yd (aD b2) 0 0 K20 K4)<|sQ 43 (yz 2 K7 (ah.c 4))<|sQ 44 (yd (aD b) 0 0 K24 K1)<|sQ 45 (yz 1 K0 (ah.c 0))<|sQ 46 (yw 0 K6 K2 (ah.c 5)) ?_
   obtain ⟨x1,aJ,aI⟩:=bI aI
   refine sQ 47 (yI B3 g.A K5 K2 (gi_isSome eN2 rfl (ah.c 3) aJ) (getI_nn aJ) (getI_ltI aJ rfl)) ?_
   refine s0 (yS 3 3 B3 64 (.agg V5.toArray) V5 (g.A.toNat*3) ((u.ZImages.set g.A.toNat (Aa.mk 0 (shlK .i64 1 (IntKind.u64.wrap g.A)) 0)).flatMap eN0) ah K2 rfl rfl rfl rfl rfl rfl rfl (gi_fit0 eN2 aJ) (gi_set eN2 aJ (Aa.mk 0 (shlK .i64 1 (IntKind.u64.wrap g.A)) 0) rfl)) ?_
   rintro _ cY ⟨rfl,b9⟩
   refine rn ?_
   exact ⟨(u.XImages.set g.A.toNat (Aa.mk 0 0 (shlK .i64 1 (IntKind.u64.wrap g.A)))),(u.ZImages.set g.A.toNat (Aa.mk 0 (shlK .i64 1 (IntKind.u64.wrap g.A)) 0)),(sI aI),(fc rfl (fc rfl fn_)),(set_len _ _ _ rfl),(set_len _ _ _ rfl),(b9.sel [1,4,2,3] rfl rfl)⟩
  ·skip
   have ca:=cf' hz hb
   refine cq (cr ?_)
   refine sQ 49 zE<|sQ 48 yu (rn ?_)
   refine cw_cond rfl (fun bo=>?_) (fun bo=>?_)
   ·skip
    have bp:=ct ca bo
    refine cr ?_
    refine sQ 50 (yd (aD b2) 0 0 K20 K4)<|sQ 51 (yz 2 K7 (D.c 4))<|sQ 52 (yd (aD b) 0 0 K24 K1)<|sQ 53 (yz 1 K0 (D.c 0)) ?_
    obtain ⟨x2,aK,bp⟩:=bI bp
    refine sQ 54 (yI B3 g.A K5 K2 (gi_isSome eN2 rfl (D.c 3) aK) (getI_nn aK) (getI_ltI aK rfl))<|sQ 55 (yd B3 (g.A.toNat*3) 0 K30 K1) ?_
    refine s0 (yS 3 1 B3 64 (vi 2) [vi 2] (g.A.toNat*3+0) ((u.ZImages.set g.A.toNat (Aa.mk 2 x2.X x2.Z)).flatMap eN0) D K1 rfl rfl rfl rfl rfl rfl rfl (gi_fit eN2 aK (j:=0) (k:=1) (by decide)) (gi_setf eN2 aK (Aa.mk 2 x2.X x2.Z) rfl (lB rfl))) ?_
    rintro _ cZ ⟨rfl,cb⟩
    refine rn ?_
    exact ⟨u.XImages,(u.ZImages.set g.A.toNat (Aa.mk 2 x2.X x2.Z)),(sI bp),(fc rfl (fc rfl fn_)),rfl,(set_len _ _ _ rfl),(cb.sel [1,4,2,3] rfl rfl)⟩
   ·skip
    have cc:=cf' ca bo
    refine cq (cr ?_)
    refine sQ 57 zE<|sQ 56 yu (rn ?_)
    refine cw_cond rfl (fun bq=>?_) (fun bq=>?_)
    ·skip
     have bt:=ct cc bq
     refine cr ?_
     refine sQ 58 (yd (aD b2) 0 0 K18 K4)<|sQ 59 (yz 1 K7 (D.c 4))<|sQ 60 (yd (aD b) 0 0 K24 K1)<|sQ 61 (yz 1 K0 (D.c 0)) ?_
     obtain ⟨x3,aL,bt⟩:=bI bt
     refine sQ 62 (yI Q g.A K5 K2 (gi_isSome eN2 rfl (D.c 2) aL) (getI_nn aL) (getI_ltI aL rfl))<|sQ 63 (yd Q (g.A.toNat*3) 0 K30 K1) ?_
     refine s0 (yS 2 1 Q 64 (vi 2) [vi 2] (g.A.toNat*3+0) ((u.XImages.set g.A.toNat (Aa.mk 2 x3.X x3.Z)).flatMap eN0) D K1 rfl rfl rfl rfl rfl rfl rfl (gi_fit eN2 aL (j:=0) (k:=1) (by decide)) (gi_setf eN2 aL (Aa.mk 2 x3.X x3.Z) rfl (lB rfl))) ?_
     rintro _ c0 ⟨rfl,cd⟩
     refine rn ?_
     exact ⟨(u.XImages.set g.A.toNat (Aa.mk 2 x3.X x3.Z)),u.ZImages,(sI bt),(fc rfl (fc rfl fn_)),(set_len _ _ _ rfl),rfl,(cd.sel [1,4,2,3] rfl rfl)⟩
    ·skip
     have ce:=cf' cc bq
     refine cq (cr ?_)
     refine sQ 65 zE<|sQ 64 yu (rn ?_)
     refine cw_cond rfl (fun bu=>?_) (fun bu=>?_)
     ·skip
      have aM:=ct ce bu
      refine cq (cr ?_)
      refine sQ 66 (yd (aD b2) 0 0 K18 K4)<|sQ 67 (yz 1 K7 (D.c 4))<|sQ 68 (yd (aD b) 0 0 K24 K1)<|sQ 69 (yz 1 K0 (D.c 0)) ?_
      obtain ⟨x4,aO,aM⟩:=bI aM
      refine sQ 70 (yI Q g.A K5 K2 (gi_isSome eN2 rfl (D.c 2) aO) (getI_nn aO) (getI_ltI aO rfl))<|sQ 71 (yd Q (g.A.toNat*3) 0 K30 K1) ?_
      refine s0 (yS 2 1 Q 64 (vi 2) [vi 2] (g.A.toNat*3+0) ((u.XImages.set g.A.toNat (Aa.mk 2 x4.X x4.Z)).flatMap eN0) D K1 rfl rfl rfl rfl rfl rfl rfl (gi_fit eN2 aO (j:=0) (k:=1) (by decide)) (gi_setf eN2 aO (Aa.mk 2 x4.X x4.Z) rfl (lB rfl))) ?_
      rintro _ c5 ⟨rfl,aq⟩
      refine rn (cr ?_)
      refine sQ 72 (yd (aD b2) 0 0 K20 K4)<|sQ 73 (yz 2 K7 (aq.c 4))<|sQ 74 (yd (aD b) 0 0 K24 K1)<|sQ 75 (yz 1 K0 (aq.c 0)) ?_
      obtain ⟨x5,aQ,aM⟩:=bI aM
      refine sQ 76 (yI B3 g.A K5 K2 (gi_isSome eN2 rfl (aq.c 3) aQ) (getI_nn aQ) (getI_ltI aQ rfl))<|sQ 77 (yd B3 (g.A.toNat*3) 0 K30 K1) ?_
      refine s0 (yS 3 1 B3 64 (vi 2) [vi 2] (g.A.toNat*3+0) ((u.ZImages.set g.A.toNat (Aa.mk 2 x5.X x5.Z)).flatMap eN0) aq K1 rfl rfl rfl rfl rfl rfl rfl (gi_fit eN2 aQ (j:=0) (k:=1) (by decide)) (gi_setf eN2 aQ (Aa.mk 2 x5.X x5.Z) rfl (lB rfl))) ?_
      rintro _ c6 ⟨rfl,cg⟩
      refine rn ?_
      exact ⟨(u.XImages.set g.A.toNat (Aa.mk 2 x4.X x4.Z)),(u.ZImages.set g.A.toNat (Aa.mk 2 x5.X x5.Z)),(sI aM),(fc rfl (fc rfl fn_)),(set_len _ _ _ rfl),(set_len _ _ _ rfl),(cg.sel [1,4,2,3] rfl rfl)⟩
     ·skip
      have cF:=cf' ce bu
      refine cq ?_
      obtain ⟨z1,ch,ba⟩:=bI cF
      refine cw_mid (fun f w=>∃ (t:Bool),t=z1∧FF f [(3,pt (aD b) 0),(4,pt (aD b1) 0),(5,pt (aD b2) 0),(6,pt (aD b3) 0),(7,pt (aD b4) 0),(8,pt (aD b5) 0),(9,pt (aD b6) 0),(33,vi g.Kind),(78,.bool t)]∧ST w0 [] w [O2,O1,O0,O3,O4,⟨aD b3,64,V5,3⟩,⟨aD b4,64,V6,3⟩,⟨aD b5,64,V7,3⟩,⟨aD b6,64,V8,3⟩] []) ?_ ?_
      ·skip
       refine cq (cr ?_)
       refine sQ 79 zE<|sQ 78 yu (rn ?_)
       refine cw_cond rfl (fun bv=>?_) (fun bv=>?_)
       ·skip
        have ci:=ct ch bv
        refine cw_skip ?_
        exact ⟨(g.Kind==5),(sI ci),(fc rfl (fc rfl (fc rfl (fc rfl (fc rfl (fc rfl (fc rfl (fc rfl (fc rfl fn_))))))))),(D.sel [0,1,4,2,3,5,6,7,8] rfl rfl)⟩
       ·skip
        have cj:=cf' ch bv
        refine cr ?_
        refine sQ 80 zE<|sQ 78 yu (rn ?_)
        exact ⟨(g.Kind==6),(sI cj),(fc rfl (fc rfl (fc rfl (fc rfl (fc rfl (fc rfl (fc rfl (fc rfl (fc rfl fn_))))))))),(D.sel [0,1,4,2,3,5,6,7,8] rfl rfl)⟩
      rintro f w ⟨t,rfl,o,H⟩
      refine cw_cond (o.g 78 8) (fun bw=>?_) (fun bw=>?_)
      ·skip
       have ar:=ct ba bw
       refine cq (cr ?_)
       refine sQ 81 (yd (aD b2) 0 0 K18 K4 rfl (o.g 5 2))<|sQ 82 (yz 1 K7 (H.c 2))<|sQ 83 (yd (aD b) 0 0 K24 K1 rfl (o.g 3 0))<|sQ 84 (yz 1 K0 (H.c 0))<|sQ 85 (yd (aD b3) 0 0 K47 K1 rfl (o.g 6 3))<|sQ 86 (yz 1 K0 (H.c 5)) ?_
       let V9:List Value:=[vi 0,vi (shlK .i64 1 (IntKind.u64.wrap g.A)),vi (shlK .i64 1 (IntKind.u64.wrap g.A))]
       refine sQ 87 (yd (aD b4) 0 0 K48 K1 rfl (o.g 7 4))<|sQ 88 (yz 2 K0 (H.c 6))<|sQ 89 (Y_buildS (zs:=[vi 0,vi 0,vi 0]) (vs:=[(1,vi (shlK .i64 1 (IntKind.u64.wrap g.A))),(2,vi (shlK .i64 1 (IntKind.u64.wrap g.A)))]) (cs:=V9) K36 K14 rfl (mpc rfl (mpc rfl mpn)) rfl) ?_
       obtain ⟨x6,V,ar⟩:=bI ar
       refine sQ 90 (yI Q g.A K5 K2 (gi_isSome eN2 rfl (H.c 3) V) (getI_nn V) (getI_ltI V rfl)) ?_
       refine s0 (yS 3 3 Q 64 (.agg V9.toArray) V9 (g.A.toNat*3) ((u.XImages.set g.A.toNat (Aa.mk 0 (shlK .i64 1 (IntKind.u64.wrap g.A)) (shlK .i64 1 (IntKind.u64.wrap g.A)))).flatMap eN0) H K2 rfl rfl rfl rfl rfl rfl rfl (gi_fit0 eN2 V) (gi_set eN2 V (Aa.mk 0 (shlK .i64 1 (IntKind.u64.wrap g.A)) (shlK .i64 1 (IntKind.u64.wrap g.A))) rfl)) ?_
       rintro _ c7 ⟨rfl,aa⟩
       refine rn (cq (cr ?_))
       refine sQ 91 (yd (aD b) 0 0 K42 K1 rfl (o.g 3 0))<|sQ 92 (yz 0 K0 (aa.c 0))<|sQ 93 zE (rn ?_)
       refine cw_cond rfl (fun bA=>?_) (fun bA=>?_)
       ·skip
        have ck:=ct ar bA
        refine cr ?_
        refine sQ 94 (yd (aD b2) 0 0 K18 K4 rfl (o.g 5 2))<|sQ 95 (yz 1 K7 (aa.c 2))<|sQ 96 (yd (aD b) 0 0 K24 K1 rfl (o.g 3 0))<|sQ 97 (yz 1 K0 (aa.c 0))<|sQ 98 (yI Q g.A K5 K2 (gi_isSome eN2 rfl (aa.c 3) (getI_set (y:=(Aa.mk 0 (shlK .i64 1 (IntKind.u64.wrap g.A)) (shlK .i64 1 (IntKind.u64.wrap g.A)))) V)) (getI_nn (getI_set (y:=(Aa.mk 0 (shlK .i64 1 (IntKind.u64.wrap g.A)) (shlK .i64 1 (IntKind.u64.wrap g.A)))) V)) (getI_ltI (getI_set (y:=(Aa.mk 0 (shlK .i64 1 (IntKind.u64.wrap g.A)) (shlK .i64 1 (IntKind.u64.wrap g.A)))) V) (set_len _ _ _ rfl)))<|sQ 99 (yd Q (g.A.toNat*3) 0 K30 K1) ?_
        refine s0 (yS 3 1 Q 64 (vi 2) [vi 2] (g.A.toNat*3+0) (((u.XImages.set g.A.toNat (Aa.mk 0 (shlK .i64 1 (IntKind.u64.wrap g.A)) (shlK .i64 1 (IntKind.u64.wrap g.A)))).set g.A.toNat (Aa.mk 2 (shlK .i64 1 (IntKind.u64.wrap g.A)) (shlK .i64 1 (IntKind.u64.wrap g.A)))).flatMap eN0) aa K1 rfl rfl rfl rfl rfl rfl rfl (gi_fit eN2 (getI_set (y:=(Aa.mk 0 (shlK .i64 1 (IntKind.u64.wrap g.A)) (shlK .i64 1 (IntKind.u64.wrap g.A)))) V) (j:=0) (k:=1) (by decide)) (gi_setf eN2 (getI_set (y:=(Aa.mk 0 (shlK .i64 1 (IntKind.u64.wrap g.A)) (shlK .i64 1 (IntKind.u64.wrap g.A)))) V) (Aa.mk 2 (shlK .i64 1 (IntKind.u64.wrap g.A)) (shlK .i64 1 (IntKind.u64.wrap g.A))) rfl (lB rfl))) ?_
        rintro _ c8 ⟨rfl,cl⟩
        refine rn ?_
        exact ⟨((u.XImages.set g.A.toNat (Aa.mk 0 (shlK .i64 1 (IntKind.u64.wrap g.A)) (shlK .i64 1 (IntKind.u64.wrap g.A)))).set g.A.toNat (Aa.mk 2 (shlK .i64 1 (IntKind.u64.wrap g.A)) (shlK .i64 1 (IntKind.u64.wrap g.A)))),u.ZImages,(sI ck),(o.a 4 1 (o.a 5 2 fn_)),(set_len _ _ _ (set_len _ _ _ rfl)),rfl,(cl.sel [1,2,3,4] rfl rfl)⟩
       ·skip
        have cm:=cf' ar bA
        refine cw_skip ?_
        exact ⟨(u.XImages.set g.A.toNat (Aa.mk 0 (shlK .i64 1 (IntKind.u64.wrap g.A)) (shlK .i64 1 (IntKind.u64.wrap g.A)))),u.ZImages,(sI cm),(o.a 4 1 (o.a 5 2 fn_)),(set_len _ _ _ rfl),rfl,(aa.sel [1,2,3,4] rfl rfl)⟩
      ·skip
       have bb:=cf' ba bw
       refine cq (cr ?_)
       refine sQ 101 (zE rfl (o.g 33 7))<|sQ 100 yu (rn ?_)
       refine cw_cond rfl (fun bB=>?_) (fun bB=>?_)
       ·skip
        have J:=ct bb bB
        refine cq ?_
        obtain ⟨ae,cH,J⟩:=bI J
        obtain ⟨x7,aR,J⟩:=bI J
        refine ra_start (H.se [0,1,2,4,5,6,7,8]).fn (by kernel_rfl) ?_
        have aT:=H.drew
        have aA:=aT.se [0,1,2,4,5,6,7,8]
        refine rq 0 102 rfl aA (fun _ q=>(yd (aD b2) 0 0 K18 K4 rfl (o.g 5 2)))<|rq 1 103 rfl aA (fun _ q=>(yz 1 K7 (ST.c q 2)))<|rq 2 104 rfl aA (fun _ q=>(yd (aD b) 0 0 K24 K1 rfl (o.g 3 0)))<|rq 3 105 rfl aA (fun _ q=>(yz 1 K0 (ST.c q 0)))<|rq 4 106 rfl aA (fun _ q=>(yw 0 K6 K2 (ST.c q 4) rfl (o.g 6 3))) ?_
        refine rq 5 107 rfl aA (fun _ q=>(yw 0 K6 K2 (ST.c q 6) rfl (o.g 8 5))) ?_
        refine rA [6] ?_
        refine rC 108 6 rfl (yc K75 (D7 (Aa.mk 0 (shlK .i64 1 (IntKind.u64.wrap g.A)) 0) (Aa.mk 0 (shlK .i64 1 (IntKind.u64.wrap g.B)) 0) _  (aT.inn0 [] rfl) cH)) ?_ aN
        rintro _ c9 ⟨rfl,cI⟩
        have au:=aT.out00 cI
        refine ⟨(au.se [0,1,2,4,5,6,7,8]),?_⟩
        refine rq 7 109 rfl (au.se [0,1,2,4,5,6,7,8]) (fun _ q=>(yI Q g.A K5 K2 (gi_isSome eN2 rfl (au.c 3) aR) (getI_nn aR) (getI_ltI aR rfl))) ?_
        refine rA [8] ?_
        refine rZ 8 rfl (yS 3 3 Q 64 (.agg #[vi ae.Phase,vi ae.X,vi ae.Z]) [vi ae.Phase,vi ae.X,vi ae.Z] (g.A.toNat*3) ((u.XImages.set g.A.toNat ae).flatMap eN0) au K2 rfl rfl rfl rfl rfl rfl rfl (gi_fit0 eN2 aR) (gi_set eN2 aR ae rfl)) ?_ aN
        rintro _ da ⟨rfl,aU⟩
        refine ⟨(aU.se [0,1,2,4,5,6,7,8]),?_⟩
        refine ra_done (by kernel_rfl) ?_
        obtain ⟨af,cJ,J⟩:=bI J
        obtain ⟨x8,aV,J⟩:=bI J
        refine ra_start (aU.se [0,1,2,3,5,6,7,8]).fn (by kernel_rfl) ?_
        have aY:=aU.drew
        have aB:=aY.se [0,1,2,3,5,6,7,8]
        refine rq 0 110 rfl aB (fun _ q=>(yd (aD b2) 0 0 K20 K4 rfl (o.g 5 2)))<|rq 1 111 rfl aB (fun _ q=>(yz 2 K7 (ST.c q 2)))<|rq 2 112 rfl aB (fun _ q=>(yd (aD b) 0 0 K38 K1 rfl (o.g 3 0)))<|rq 3 113 rfl aB (fun _ q=>(yz 2 K0 (ST.c q 0)))<|rq 4 114 rfl aB (fun _ q=>(yw 0 K6 K2 (ST.c q 5) rfl (o.g 7 4))) ?_
        refine rq 5 115 rfl aB (fun _ q=>(yw 0 K6 K2 (ST.c q 7) rfl (o.g 9 6))) ?_
        refine rA [6] ?_
        refine rC 116 6 rfl (yc K75 (D7 (Aa.mk 0 0 (shlK .i64 1 (IntKind.u64.wrap g.A))) (Aa.mk 0 0 (shlK .i64 1 (IntKind.u64.wrap g.B))) _  (aY.inn0 [] rfl) cJ)) ?_ aN
        rintro _ db ⟨rfl,cL⟩
        have av:=aY.out00 cL
        refine ⟨(av.se [0,1,2,3,5,6,7,8]),?_⟩
        refine rq 7 117 rfl (av.se [0,1,2,3,5,6,7,8]) (fun _ q=>(yI B3 g.B K5 K2 (gi_isSome eN2 rfl (av.c 4) aV) (getI_nn aV) (getI_ltI aV rfl))) ?_
        refine rA [8] ?_
        refine rZ 8 rfl (yS 4 3 B3 64 (.agg #[vi af.Phase,vi af.X,vi af.Z]) [vi af.Phase,vi af.X,vi af.Z] (g.B.toNat*3) ((u.ZImages.set g.B.toNat af).flatMap eN0) av K2 rfl rfl rfl rfl rfl rfl rfl (gi_fit0 eN2 aV) (gi_set eN2 aV af rfl)) ?_ aN
        rintro _ dc ⟨rfl,bc⟩
        refine ⟨(bc.se [0,1,2,3,5,6,7,8]),?_⟩
        refine ra_done (by kernel_rfl) ?_
        exact ⟨(u.XImages.set g.A.toNat ae),(u.ZImages.set g.B.toNat af),(sI J),(o.a 4 1 (o.a 5 2 fn_)),(set_len _ _ _ rfl),(set_len _ _ _ rfl),(bc.sel [1,2,3,4] rfl rfl)⟩
       ·skip
        have bd:=cf' bb bB
        refine cq (cr ?_)
        refine sQ 119 (zE rfl (o.g 33 7))<|sQ 118 yu (rn ?_)
        refine cw_cond rfl (fun bC=>?_) (fun bC=>?_)
        ·skip
         have O:=ct bd bC
         refine cq ?_
         obtain ⟨W,cM,O⟩:=bI O
         obtain ⟨x9,a0,O⟩:=bI O
         refine ra_start (H.se [0,1,2,4,5,6,7,8]).fn (by kernel_rfl) ?_
         have a1:=H.drew
         have aE:=a1.se [0,1,2,4,5,6,7,8]
         refine rq 0 120 rfl aE (fun _ q=>(yd (aD b2) 0 0 K18 K4 rfl (o.g 5 2)))<|rq 1 121 rfl aE (fun _ q=>(yz 1 K7 (ST.c q 2)))<|rq 2 122 rfl aE (fun _ q=>(yd (aD b) 0 0 K24 K1 rfl (o.g 3 0)))<|rq 3 123 rfl aE (fun _ q=>(yz 1 K0 (ST.c q 0)))<|rq 4 124 rfl aE (fun _ q=>(yw 0 K6 K2 (ST.c q 4) rfl (o.g 6 3))) ?_
         refine rq 5 125 rfl aE (fun _ q=>(yw 0 K6 K2 (ST.c q 7) rfl (o.g 9 6))) ?_
         refine rA [6] ?_
         refine rC 126 6 rfl (yc K75 (D7 (Aa.mk 0 (shlK .i64 1 (IntKind.u64.wrap g.A)) 0) (Aa.mk 0 0 (shlK .i64 1 (IntKind.u64.wrap g.B))) _  (a1.inn0 [] rfl) cM)) ?_ aN
         rintro _ dd ⟨rfl,cN⟩
         have aw:=a1.out00 cN
         refine ⟨(aw.se [0,1,2,4,5,6,7,8]),?_⟩
         refine rq 7 127 rfl (aw.se [0,1,2,4,5,6,7,8]) (fun _ q=>(yI Q g.A K5 K2 (gi_isSome eN2 rfl (aw.c 3) a0) (getI_nn a0) (getI_ltI a0 rfl))) ?_
         refine rA [8] ?_
         refine rZ 8 rfl (yS 3 3 Q 64 (.agg #[vi W.Phase,vi W.X,vi W.Z]) [vi W.Phase,vi W.X,vi W.Z] (g.A.toNat*3) ((u.XImages.set g.A.toNat W).flatMap eN0) aw K2 rfl rfl rfl rfl rfl rfl rfl (gi_fit0 eN2 a0) (gi_set eN2 a0 W rfl)) ?_ aN
         rintro _ de ⟨rfl,a2⟩
         refine ⟨(a2.se [0,1,2,4,5,6,7,8]),?_⟩
         refine ra_done (by kernel_rfl) ?_
         obtain ⟨ag,cO,O⟩:=bI O
         obtain ⟨dz,ai,O⟩:=bI O
         refine ra_start (a2.se [0,1,2,4,5,6,7,8]).fn (by kernel_rfl) ?_
         have a3:=a2.drew
         have aF:=a3.se [0,1,2,4,5,6,7,8]
         refine rq 0 128 rfl aF (fun _ q=>(yd (aD b2) 0 0 K18 K4 rfl (o.g 5 2)))<|rq 1 129 rfl aF (fun _ q=>(yz 1 K7 (ST.c q 2)))<|rq 2 130 rfl aF (fun _ q=>(yd (aD b) 0 0 K38 K1 rfl (o.g 3 0)))<|rq 3 131 rfl aF (fun _ q=>(yz 2 K0 (ST.c q 0)))<|rq 4 132 rfl aF (fun _ q=>(yw 0 K6 K2 (ST.c q 5) rfl (o.g 7 4))) ?_
         refine rq 5 133 rfl aF (fun _ q=>(yw 0 K6 K2 (ST.c q 6) rfl (o.g 8 5))) ?_
         refine rA [6] ?_
         refine rC 134 6 rfl (yc K75 (D7 (Aa.mk 0 0 (shlK .i64 1 (IntKind.u64.wrap g.A))) (Aa.mk 0 (shlK .i64 1 (IntKind.u64.wrap g.B)) 0) _  (a3.inn0 [] rfl) cO)) ?_ aN
         rintro _ df ⟨rfl,cP⟩
         have ay:=a3.out00 cP
         refine ⟨(ay.se [0,1,2,4,5,6,7,8]),?_⟩
         refine rq 7 135 rfl (ay.se [0,1,2,4,5,6,7,8]) (fun _ q=>(yI Q g.B K5 K2 (gi_isSome eN2 rfl (ay.c 3) ai) (getI_nn ai) (getI_ltI ai (set_len _ _ _ rfl)))) ?_
         refine rA [8] ?_
         refine rZ 8 rfl (yS 3 3 Q 64 (.agg #[vi ag.Phase,vi ag.X,vi ag.Z]) [vi ag.Phase,vi ag.X,vi ag.Z] (g.B.toNat*3) (((u.XImages.set g.A.toNat W).set g.B.toNat ag).flatMap eN0) ay K2 rfl rfl rfl rfl rfl rfl rfl (gi_fit0 eN2 ai) (gi_set eN2 ai ag rfl)) ?_ aN
         rintro _ dg ⟨rfl,be⟩
         refine ⟨(be.se [0,1,2,4,5,6,7,8]),?_⟩
         refine ra_done (by kernel_rfl) ?_
         exact ⟨((u.XImages.set g.A.toNat W).set g.B.toNat ag),u.ZImages,(sI O),(o.a 4 1 (o.a 5 2 fn_)),(set_len _ _ _ (set_len _ _ _ rfl)),rfl,(be.sel [1,2,3,4] rfl rfl)⟩
        ·skip
         have bf:=cf' bd bC
         refine cq (cr ?_)
         refine sQ 137 (zE rfl (o.g 33 7))<|sQ 136 yu (rn ?_)
         refine cw_cond rfl (fun bD=>?_) (fun bD=>?_)
         ·skip
          have P:=ct bf bD
          refine cq (cr ?_)
          refine sQ 138 (yd (aD b2) 0 0 K18 K4 rfl (o.g 5 2))<|sQ 139 (yz 1 K7 (H.c 2))<|sQ 140 (yd (aD b) 0 0 K24 K1 rfl (o.g 3 0))<|sQ 141 (yz 1 K0 (H.c 0))<|sQ 142 (yw 0 K6 K2 (H.c 7) rfl (o.g 8 5)) ?_
          obtain ⟨dA,aj,P⟩:=bI P
          refine sQ 143 (yI Q g.A K5 K2 (gi_isSome eN2 rfl (H.c 3) aj) (getI_nn aj) (getI_ltI aj rfl)) ?_
          refine s0 (yS 3 3 Q 64 (.agg V7.toArray) V7 (g.A.toNat*3) ((u.XImages.set g.A.toNat (Aa.mk 0 (shlK .i64 1 (IntKind.u64.wrap g.B)) 0)).flatMap eN0) H K2 rfl rfl rfl rfl rfl rfl rfl (gi_fit0 eN2 aj) (gi_set eN2 aj (Aa.mk 0 (shlK .i64 1 (IntKind.u64.wrap g.B)) 0) rfl)) ?_
          rintro _ dh ⟨rfl,ak⟩
          refine rn (cq (cr ?_))
          refine sQ 144 (yd (aD b2) 0 0 K18 K4 rfl (o.g 5 2))<|sQ 145 (yz 1 K7 (ak.c 2))<|sQ 146 (yd (aD b) 0 0 K38 K1 rfl (o.g 3 0))<|sQ 147 (yz 2 K0 (ak.c 0))<|sQ 148 (yw 0 K6 K2 (ak.c 5) rfl (o.g 6 3)) ?_
          obtain ⟨dC,al,P⟩:=bI P
          refine sQ 149 (yI Q g.B K5 K2 (gi_isSome eN2 rfl (ak.c 3) al) (getI_nn al) (getI_ltI al (set_len _ _ _ rfl))) ?_
          refine s0 (yS 3 3 Q 64 (.agg V5.toArray) V5 (g.B.toNat*3) (((u.XImages.set g.A.toNat (Aa.mk 0 (shlK .i64 1 (IntKind.u64.wrap g.B)) 0)).set g.B.toNat (Aa.mk 0 (shlK .i64 1 (IntKind.u64.wrap g.A)) 0)).flatMap eN0) ak K2 rfl rfl rfl rfl rfl rfl rfl (gi_fit0 eN2 al) (gi_set eN2 al (Aa.mk 0 (shlK .i64 1 (IntKind.u64.wrap g.A)) 0) rfl)) ?_
          rintro _ di ⟨rfl,am⟩
          refine rn (cq (cr ?_))
          refine sQ 150 (yd (aD b2) 0 0 K20 K4 rfl (o.g 5 2))<|sQ 151 (yz 2 K7 (am.c 2))<|sQ 152 (yd (aD b) 0 0 K24 K1 rfl (o.g 3 0))<|sQ 153 (yz 1 K0 (am.c 0))<|sQ 154 (yw 0 K6 K2 (am.c 8) rfl (o.g 9 6)) ?_
          obtain ⟨dD,an,P⟩:=bI P
          refine sQ 155 (yI B3 g.A K5 K2 (gi_isSome eN2 rfl (am.c 4) an) (getI_nn an) (getI_ltI an rfl)) ?_
          refine s0 (yS 4 3 B3 64 (.agg V8.toArray) V8 (g.A.toNat*3) ((u.ZImages.set g.A.toNat (Aa.mk 0 0 (shlK .i64 1 (IntKind.u64.wrap g.B)))).flatMap eN0) am K2 rfl rfl rfl rfl rfl rfl rfl (gi_fit0 eN2 an) (gi_set eN2 an (Aa.mk 0 0 (shlK .i64 1 (IntKind.u64.wrap g.B))) rfl)) ?_
          rintro _ dj ⟨rfl,ao⟩
          refine rn (cr ?_)
          refine sQ 156 (yd (aD b2) 0 0 K20 K4 rfl (o.g 5 2))<|sQ 157 (yz 2 K7 (ao.c 2))<|sQ 158 (yd (aD b) 0 0 K38 K1 rfl (o.g 3 0))<|sQ 159 (yz 2 K0 (ao.c 0))<|sQ 160 (yw 0 K6 K2 (ao.c 6) rfl (o.g 7 4)) ?_
          obtain ⟨dE,ap,P⟩:=bI P
          refine sQ 161 (yI B3 g.B K5 K2 (gi_isSome eN2 rfl (ao.c 4) ap) (getI_nn ap) (getI_ltI ap (set_len _ _ _ rfl))) ?_
          refine s0 (yS 4 3 B3 64 (.agg V6.toArray) V6 (g.B.toNat*3) (((u.ZImages.set g.A.toNat (Aa.mk 0 0 (shlK .i64 1 (IntKind.u64.wrap g.B)))).set g.B.toNat (Aa.mk 0 0 (shlK .i64 1 (IntKind.u64.wrap g.A)))).flatMap eN0) ao K2 rfl rfl rfl rfl rfl rfl rfl (gi_fit0 eN2 ap) (gi_set eN2 ap (Aa.mk 0 0 (shlK .i64 1 (IntKind.u64.wrap g.A))) rfl)) ?_
          rintro _ dk ⟨rfl,a5⟩
          have a5:ST w0 [] _ [O2,O1,O0,⟨Q,64,(((u.XImages.set g.A.toNat (Aa.mk 0 (shlK .i64 1 (IntKind.u64.wrap g.B)) 0)).set g.B.toNat (Aa.mk 0 (shlK .i64 1 (IntKind.u64.wrap g.A)) 0)).flatMap eN0),c2*3⟩,⟨B3,64,(((u.ZImages.set g.A.toNat (Aa.mk 0 0 (shlK .i64 1 (IntKind.u64.wrap g.B)))).set g.B.toNat (Aa.mk 0 0 (shlK .i64 1 (IntKind.u64.wrap g.A)))).flatMap eN0),c3*3⟩,⟨aD b3,64,V5,3⟩,⟨aD b4,64,V6,3⟩,⟨aD b5,64,V7,3⟩,⟨aD b6,64,V8,3⟩] []:=a5
          refine rn ?_
          exact ⟨((u.XImages.set g.A.toNat (Aa.mk 0 (shlK .i64 1 (IntKind.u64.wrap g.B)) 0)).set g.B.toNat (Aa.mk 0 (shlK .i64 1 (IntKind.u64.wrap g.A)) 0)),((u.ZImages.set g.A.toNat (Aa.mk 0 0 (shlK .i64 1 (IntKind.u64.wrap g.B)))).set g.B.toNat (Aa.mk 0 0 (shlK .i64 1 (IntKind.u64.wrap g.A)))),(sI P),(o.a 4 1 (o.a 5 2 fn_)),(set_len _ _ _ (set_len _ _ _ rfl)),(set_len _ _ _ (set_len _ _ _ rfl)),(a5.sel [1,2,3,4] rfl rfl)⟩
         ·skip
          have cn:=cf' bf bD
          refine cw_skip ?_
          exact ⟨u.XImages,u.ZImages,(sI cn),(o.a 4 1 (o.a 5 2 fn_)),rfl,rfl,(H.sel [1,2,3,4] rfl rfl)⟩
 rintro f w ⟨XImages,ZImages,rfl,hf,hl,cR,bg⟩
 refine cq (cr ?_)
 refine sQ 162 (yw 0 K11 K3 (bg.c 1) rfl (hf.g 5 1)) ?_
 refine s0 (yK 0 3 0 bg K3 rfl (hf.g 4 0)) ?_
 rintro _ dl ⟨rfl,bh⟩
 refine rn (ct_ ?_)
 obtain rfl:=sI cE
 exact ret1 Tryz.results69 (v1:=.agg bR.toArray) (rX K11 K3 (bh.c 0) (hf.g 4 0)) ⟨Q,c2,B3,c3,(by simp +zetaDelta [hl,cR]),(bh.sN [2,3])⟩

theorem HB (c:Aj) (B:Option Addr) (c1 n:Nat) (w0:World) (hn:c.Gates.length=n) (hS:ST w0 [] w0 [] [⟨B,(c.Gates.flatMap eN1)⟩]) {r_:Ae} (hF:Co c=some r_) :
  CV Tryz.prog 35 #[.agg #[vi c.Qubits,.slice B n c1]] w0 (fun v w'=>∃ (B1:Option Addr) (c2:Nat) (B2:Option Addr) (c3:Nat),v=.agg #[vi r_.Qubits,.slice B1 r_.XImages.length c2,.slice B2 r_.ZImages.length c3]∧ST w0 [] w' [⟨B1,64,(r_.XImages.flatMap eN0),c2*3⟩,⟨B2,64,(r_.ZImages.flatMap eN0),c3*3⟩] []):=by
 subst hn
 unfold Co at hF
 refine cv_of_cw 24 Tryz.func35 rfl Tryz.ntmps35 rfl ?_
 refine cq (cr ?_)
 refine sS 1 (yV [vi c.Qubits,.slice B c.Gates.length c1] 2 hS) ?_
 rintro _ w_ ⟨b,rfl,aE⟩
 let V9:List Value:=[vi 0,.slice none 0 0,.slice none 0 0]
 refine sS 2 (yN V9 3 aE K26) ?_
 rintro _ bq ⟨b1,rfl,U⟩
 refine rn (cq (cr ?_))
 refine sQ 6 (yd (aD b) 0 0 K44 K1)<|sQ 7 (yz 0 K0 (U.c 0)) ?_
 obtain ⟨V,hc,hF⟩:=bI hF
 refine sc 8 rfl rfl (yc Lq (MJ c.Qubits _  (U.inn0 [] rfl) hc)) ?_
 rintro _ bt ⟨B3,c4,B4,c5,rfl,hd⟩
 have aG:=U.out0 hd
 refine sS 3 (yN V9 3 aG K26) ?_
 rintro _ bA ⟨b2,rfl,aJ⟩
 refine s0 (yK 4 3 0 aJ K3) ?_
 rintro _ bB ⟨rfl,al⟩
 refine rn (cq (cq (cr ?_)))
 refine sQ 9 (yd (aD b) 0 0 K40 K23)<|sQ 10 (yz 1 K29 (al.c 0))<|sQ 11 (Y_len K15 rfl rfl)<|sQ 12 yv (rn ?_)
 obtain ⟨hN,hF⟩:=chk_inv hF
 obtain ⟨z,hz,aK⟩:=bI hF
 refine cw_block ?_
 let O1:Ob:=⟨aD b,29,[vi c.Qubits,.slice B c.Gates.length c1],2⟩
 let O2:Ob:=⟨aD b1,25,V9,3⟩
 refine cw_loop (fun k f w=>∃ (i:Nat) (Qubits:Int) (XImages:List Aa) (ZImages:List Aa) (W:Option Addr) (c6:Nat) (B6:Option Addr) (c7:Nat),FF f [(1,pt (aD b) 0),(2,pt (aD b1) 0),(3,pt (aD b2) 0),(10,.slice B c.Gates.length c1),(11,vi (c.Gates.length:Int)),(12,vi (i:Int))]∧ST w0 [] w [O1,O2,⟨aD b2,25,[vi Qubits,.slice W XImages.length c6,.slice B6 ZImages.length c7],3⟩,⟨W,64,(XImages.flatMap eN0),c6*3⟩,⟨B6,64,(ZImages.flatMap eN0),c7*3⟩] [⟨B,(c.Gates.flatMap eN1)⟩]∧i+k=c.Gates.length∧forN (E0 c) k i (Qubits,XImages,ZImages)=some z) c.Gates.length ⟨0,V.Qubits,V.XImages,V.ZImages,B3,c4,B4,c5,(fc rfl (fc rfl (fc rfl (fc rfl (fc rfl (fc rfl fn_)))))),(al.sel [0,1,4,2,3] rfl rfl),Nat.zero_add _,hz⟩ ?_
 rintro k_ f w ⟨i,Qubits,XImages,ZImages,W,c6,B6,c7,o,u,bE,hL⟩
 refine cq (cr ?_)
 refine sQ 13 (zL rfl (o.g 12 5) (o.g 11 4)) (rn (cq ?_))
 refine cw_cond rfl (fun ae=>?_) (fun ae=>?_)
 ·skip
  have ao:i<c.Gates.length:=by have h:=of_decide_eq_true ae; omega
  obtain ⟨K13,rfl⟩:∃ k2,k_=k2+1:=⟨k_-1,by omega⟩
  obtain ⟨y,hb,aM⟩:=forN_go hL
  unfold E0 at hb
  refine cw_skip (cq (cw_block (cq (cr ?_))))
  obtain ⟨x,hx,hb⟩:=bI hb
  refine sQ 14 (yI B (i:Int) K15 K8 (gi_isSome eN4 rfl (u.rf (i:=0) rfl) hx) (getI_nn hx) (getI_ltI hx rfl) rfl (o.g 10 3) (o.g 12 5))<|sQ 15 (ya B ((i:Int).toNat*3) (c.Gates.flatMap eN1) [vi x.Kind,vi x.A,vi x.B] K27 K8 (u.rf (i:=0) rfl) rfl rfl (eN4 x) (gi_seg eN4 hx)) ?_
  refine sS 5 (yN [vi 0,vi 0,vi 0] 3 u K28) ?_
  rintro _ bH ⟨b3,rfl,aO⟩
  refine s0 (yK 5 3 0 aO K8) ?_
  rintro _ bK ⟨rfl,ap⟩
  refine rn ?_
  obtain ⟨D,aQ,hb⟩:=bI hb
  obtain ⟨af,aR,hb⟩:=bI hb
  refine ra_start (ap.se [0,1,3,4,5]).fn (by kernel_rfl) ?_
  have H:=ap.drew
  have ag:=H.se [0,1,3,4,5]
  refine rq 1 17 rfl ag (fun _ q=>(yd (aD b) 0 0 K44 K1 rfl (o.g 1 0)))<|rq 2 18 rfl ag (fun _ q=>(yz 0 K0 (ST.c q 0)))<|rq 3 19 rfl ag (fun _ q=>(yw 0 K27 K8 (ST.c q 4))) ?_
  let V8:List Value:=[vi Qubits,.slice W XImages.length c6,.slice B6 ZImages.length c7]
  let O0:Ob:=⟨aD b2,25,V8,3⟩
  let O3:Ob:=⟨W,64,(XImages.flatMap eN0),c6*3⟩
  let O4:Ob:=⟨B6,64,(ZImages.flatMap eN0),c7*3⟩
  let O5:Ob:=⟨aD b3,57,[vi x.Kind,vi x.A,vi x.B],3⟩
  refine rf_in (k:=3) (ts:=[3]) (L:=[O1,O2,O0,O3,O4,O5]) (G:=[]) [fQ 0 16 (.agg V8.toArray) O0] H (flc rfl rfl rfl (fun _ _ _ _ aT h aU=>(yfl (yw 0 K11 K3 (ST.cfm h aU.1) rfl ((aT 3 (List.Mem.head _)).trans (o.g 3 2))) h)) fln) (fun hJ=>?_)
  refine rf_all [4] hJ (fun Z w h=>(ST.sel (ST.noF h) [0,1,3,4,5] rfl rfl)) (fun Z bL aV J=>?_)
  refine rC 20 4 rfl (yc Mm (MK c.Qubits x _  (J.inn0 [] rfl) aQ)) ?_ aN
  rintro _ bM ⟨B7,c8,B8,c9,rfl,aY⟩
  have aq:=J.out0 aY
  let O6:Ob:=⟨B7,64,(D.XImages.flatMap eN0),c8*3⟩
  let O7:Ob:=⟨B8,64,(D.ZImages.flatMap eN0),c9*3⟩
  have ar:ST w0 [] _ (O1::O2::O0::O3::O4::O5::O6::O7::(flL [fQ 0 16 (.agg V8.toArray) O0] Z++[])) [⟨B,(c.Gates.flatMap eN1)⟩]:=ST.rot (pre:=[O1,O2,O0,O3,O4,O5]) (G:=(flL [fQ 0 16 (.agg V8.toArray) O0] Z++[])) (xs:=[O6,O7]) aq
  refine rf_k (L:=[O1,O2,O0,O3,O4,O5,O6,O7]) aV ar (fun Z w h=>(ST.sel (ST.noF h) [0,1,3,4,5] rfl rfl)) ?_
  refine rf_force hJ (fun Z w h=>(ST.sel (ST.noF h) [0,1,3,4,5] rfl rfl)) (fun _=>?_)
  refine rf_out (fun bN O=>?_)
  refine rA [5] ?_
  refine rC 21 5 rfl (yc Mw (MX (Ae.mk Qubits XImages ZImages) D W c6 XImages.length B6 c7 ZImages.length B7 c8 D.XImages.length B8 c9 D.ZImages.length _ rfl rfl rfl rfl (O.inn0 [(false,3),(false,4),(false,6),(false,7)] rfl) aR)) ?_ aN
  rintro _ bj ⟨B9,a2,a3,a5,rfl,a6⟩
  have P:=O.out0 a6
  refine ⟨(P.se [0,1,3,4,5]),?_⟩
  refine rA [6] ?_
  refine rZ 6 rfl (yK 2 3 0 P K3 rfl (o.g 3 2)) ?_ aN
  rintro _ bk ⟨rfl,Q⟩
  refine ⟨(Q.se [0,1,3,4,5]),?_⟩
  refine ra_done (by kernel_rfl) ?_
  refine cr ?_
  refine sQ 22 (zP rfl (o.g 12 5))<|sQ 12 yv (rn ?_)
  obtain rfl:=sI hb
  exact ⟨K13,Nat.lt_succ_self _,i+1,af.Qubits,af.XImages,af.ZImages,B9,a2,a3,a5,(o.a 1 0 (o.a 2 1 (o.a 3 2 (o.a 10 3 (o.a 11 4 (fc (congrArg (Value.int .i64) (wr_succ ao hN)) fn_)))))),(Q.sel [0,1,2,8,9] rfl rfl),(by omega),aM⟩
 ·skip
  obtain rfl:k_=0:=by have h:=of_decide_eq_false ae; omega
  refine cw_exit rfl ?_
  obtain rfl:=sI hL
  refine cq (cr ?_)
  refine sQ 23 (yw 0 K11 K3 (u.c 2) rfl (o.g 3 2)) ?_
  refine s0 (yK 1 3 0 u K3 rfl (o.g 2 1)) ?_
  rintro _ bm ⟨rfl,S⟩
  refine rn (ct_ ?_)
  obtain rfl:=sI aK
  exact ret1 Tryz.results35 (rX K11 K3 (S.c 1) (o.g 2 1)) ⟨W,c6,B6,c7,rfl,(S.sN [3,4])⟩

theorem F1 (c:Ah) (o:List Int) (B:Option Addr) (D:Option Addr) (J n:Nat) (S:Option Addr) (c2 V:Nat) (P:World) (hn:c.code.length=n) (U:o.length=V) (W:ST P (bl [⟨B,49,[.slice D n J,vi c.at_,.int .u64 c.seed],3⟩]) P [⟨B,49,[.slice D n J,vi c.at_,.int .u64 c.seed],3⟩] [⟨D,(c.code.flatMap enc_u8)⟩,⟨S,(o.flatMap encI)⟩]) {Z:Int} {m:Ah} (H:BQ c o=some (Z,m)) :
  CV Tryz.prog 49 #[pt B 0,.slice S V c2] P (fun v w'=>v=vi Z∧ST P (bl [⟨B,49,[.slice D n J,vi c.at_,.int .u64 c.seed],3⟩]) w' [⟨B,49,[.slice D n J,vi m.at_,.int .u64 m.seed],3⟩] []):=by
 subst hn
 subst U
 unfold BQ at H
 refine cv_of_cw 12 Tryz.func49 rfl Tryz.ntmps49 rfl ?_
 refine cq (cr ?_)
 refine sQ 4 yu (rn (cq (cr ?_)))
 refine sQ 5 yv<|sQ 6 yv<|sQ 7 yv<|sQ 8 (Y_len K62 rfl rfl) ?_
 obtain ⟨⟨O,m1⟩,hc,H⟩:=bI H
 refine sc 9 rfl rfl (yc K46 (AQ c (o.length:Int) B D J c.code.length _ rfl (W.inn [true] rfl [(true,0)] rfl) hc)) ?_
 rintro _ w_ ⟨rfl,hd⟩
 have u:=W.out [true] rfl hd
 obtain ⟨x,Q,H⟩:=bI H
 refine sQ 10 (yI S O K62 K1 (gi_isSome encI_len rfl (u.rf (i:=1) rfl) Q) (getI_nn Q) (getI_ltI Q rfl))<|sQ 11 (yz (O.toNat*1) K0 (u.rf (i:=1) rfl) rfl rfl (gi_at0 encI_len Q rfl))<|sQ 4 yu (rn (ct_ ?_))
 obtain ⟨rfl,rfl⟩:=pr2 (sI H)
 exact e1 Tryz.results49 (u.sN [0])

theorem SX (c:Ah) (u:Int) (B:Option Addr) (D:Option Addr) (H n:Nat) (w0:World) (hn:c.code.length=n) (hS:ST w0 (bl [⟨B,49,[.slice D n H,vi c.at_,.int .u64 c.seed],3⟩]) w0 [⟨B,49,[.slice D n H,vi c.at_,.int .u64 c.seed],3⟩] [⟨D,(c.code.flatMap enc_u8)⟩]) {r_:Aa} {m:Ah} (o:Fu c u=some (r_,m)) :
  CV Tryz.prog 84 #[pt B 0,vi u] w0 (fun v w'=>v=.agg #[vi r_.Phase,vi r_.X,vi r_.Z]∧ST w0 (bl [⟨B,49,[.slice D n H,vi c.at_,.int .u64 c.seed],3⟩]) w' [⟨B,49,[.slice D n H,vi m.at_,.int .u64 m.seed],3⟩] []):=by
 subst hn
 unfold Fu at o
 refine cv_of_cw 18 Tryz.func84 rfl Tryz.ntmps84 rfl ?_
 refine cq (cr ?_)
 refine sS 4 (yN [vi 0,vi 0,vi 0] 3 hS K14) ?_
 rintro _ w_ ⟨b,rfl,J⟩
 refine rn (cq (cr ?_))
 refine sQ 5 yv ?_
 obtain ⟨⟨O,m1⟩,hc,o⟩:=bI o
 refine sc 6 rfl rfl (yc K46 (AQ c 4 B D H c.code.length _ rfl (J.inn [true,false] rfl [(true,0)] rfl) hc)) ?_
 rintro _ ao ⟨rfl,hd⟩
 have P:=J.out [true,false] rfl hd
 refine sQ 7 yv<|sQ 8 yv<|sQ 9 (Y_conv (k:=.i64) (a:=u) (T:=3) (T':=103) K41 K43 rfl rfl) ?_
 obtain ⟨ac,o⟩:=chk_inv o
 refine sQ 10 (Y_shl (k:=.i64) (a:=1) (k':=.u64) (b:=(IntKind.u64.wrap u)) rfl rfl rfl ac) ?_
 obtain ⟨⟨Q,m2⟩,ae,o⟩:=bI o
 refine sc 11 rfl rfl (yc K46 (AQ (Ah.mk c.code m1.at_ m1.seed) (shlK .i64 1 (IntKind.u64.wrap u)) B D H c.code.length _ rfl (P.inn [false,true] rfl [(true,0)] rfl) ae)) ?_
 rintro _ ap ⟨rfl,af⟩
 have S:=P.out [false,true] rfl af
 refine sQ 12 yv<|sQ 13 yv<|sQ 14 (Y_conv (k:=.i64) (a:=u) (T:=3) (T':=103) K41 K43 rfl rfl) ?_
 obtain ⟨U,o⟩:=chk_inv o
 refine sQ 15 (Y_shl (k:=.i64) (a:=1) (k':=.u64) (b:=(IntKind.u64.wrap u)) rfl rfl rfl U) ?_
 obtain ⟨⟨V,m3⟩,ag,o⟩:=bI o
 refine sc 16 rfl rfl (yc K46 (AQ (Ah.mk c.code m2.at_ m2.seed) (shlK .i64 1 (IntKind.u64.wrap u)) B D H c.code.length _ rfl (S.inn [false,true] rfl [(true,0)] rfl) ag)) ?_
 rintro _ aq ⟨rfl,ah⟩
 have ai:=S.out [false,true] rfl ah
 refine sQ 17 (Y_buildS (zs:=[vi 0,vi 0,vi 0]) (vs:=[(0,vi O),(1,vi Q),(2,vi V)]) (cs:=[vi O,vi Q,vi V]) K36 K14 rfl (mpc rfl (mpc rfl (mpc rfl mpn))) rfl) ?_
 refine s0 (yK 0 3 0 ai K2) ?_
 rintro _ ar ⟨rfl,W⟩
 refine rn (ct_ ?_)
 obtain ⟨rfl,rfl⟩:=pr2 (sI o)
 exact ret1 Tryz.results84 (rX K6 K2 (W.c 0)) ⟨rfl,(W.sN [1])⟩

theorem Sw (c:Ah) (n1:Int) (B:Option Addr) (u:Option Addr) (D n:Nat) (w0:World) (hn:c.code.length=n) (hS:ST w0 (bl [⟨B,49,[.slice u n D,vi c.at_,.int .u64 c.seed],3⟩]) w0 [⟨B,49,[.slice u n D,vi c.at_,.int .u64 c.seed],3⟩] [⟨u,(c.code.flatMap enc_u8)⟩]) {r_:Aa} {m:Ah} (hF:Fk c n1=some (r_,m)) :
  CV Tryz.prog 48 #[pt B 0,vi n1] w0 (fun v w'=>v=.agg #[vi r_.Phase,vi r_.X,vi r_.Z]∧ST w0 (bl [⟨B,49,[.slice u n D,vi c.at_,.int .u64 c.seed],3⟩]) w' [⟨B,49,[.slice u n D,vi m.at_,.int .u64 m.seed],3⟩] []):=by
 subst hn
 unfold Fk at hF
 refine cv_of_cw 30 Tryz.func48 rfl Tryz.ntmps48 rfl ?_
 refine cq (cr ?_)
 refine sS 4 (yN [vi 0,vi 0,vi 0] 3 hS K14) ?_
 rintro _ w_ ⟨b,rfl,ah⟩
 refine rn (cq (cr ?_))
 refine sQ 6 yv<|sQ 7 yv ?_
 obtain ⟨⟨o,m1⟩,hc,hF⟩:=bI hF
 refine sc 8 rfl rfl (yc Nv (SX c n1 B u D c.code.length _ rfl (ah.inn [true,false] rfl [(true,0)] rfl) hc)) ?_
 rintro _ ba ⟨rfl,hd⟩
 have ay:=ah.out [true,false] rfl hd
 refine sS 5 (yN [vi 0,vi 0,vi 0] 3 ay K14) ?_
 rintro _ bb ⟨Q,rfl,aA⟩
 refine s0 (yK 2 3 0 aA K2) ?_
 rintro _ bc ⟨rfl,ai⟩
 refine rn (cq ?_)
 obtain ⟨z,hz,aB⟩:=bI hF
 refine cw_mid (fun f w=>∃ (at_:Int) (seed:Int) (Phase:Int) (X:Int) (Z:Int),(at_,seed,Phase,X,Z)=z∧FF f [(4,pt (aD b) 0),(5,pt (aD Q) 0)]∧ST w0 (bl [⟨B,49,[.slice u c.code.length D,vi c.at_,.int .u64 c.seed],3⟩]) w [⟨B,49,[.slice u c.code.length D,vi at_,.int .u64 seed],3⟩,⟨aD b,64,[vi 0,vi 0,vi 0],3⟩,⟨aD Q,64,[vi Phase,vi X,vi Z],3⟩] [⟨u,(c.code.flatMap enc_u8)⟩]) ?_ ?_
 ·skip
  refine cq (cr ?_)
  refine sQ 9 yv ?_
  obtain ⟨⟨bd,S⟩,aE,hz⟩:=bI hz
  refine sc 10 rfl rfl (yc K46 (AQ (Ah.mk c.code m1.at_ m1.seed) 14 B u D c.code.length _ rfl (ai.inn [false,true,false] rfl [(true,0)] rfl) aE)) ?_
  rintro _ be ⟨rfl,aF⟩
  have H:=ai.out [false,true,false] rfl aF
  refine rn (cw_block (cq (cr ?_)))
  refine sQ 12 zE<|sQ 11 yu (rn ?_)
  refine cw_cond rfl (fun hb=>?_) (fun hb=>?_)
  ·skip
   have aa:=ct hz hb
   refine cr ?_
   refine sQ 13 yv ?_
   refine sS 14 (yF 1 2 [vi (-1),vi 4] 2 H K62 K1 K73 rfl (mpc rfl (mpc rfl mpn))) ?_
   rintro _ bf ⟨b2,rfl,aj⟩
   obtain ⟨⟨J,m3⟩,aG,aa⟩:=bI aa
   refine sc 15 rfl rfl (yc K89 (F1 (Ah.mk c.code S.at_ S.seed) [(-1),4] B u D c.code.length (aD b2) 2 2 _ rfl rfl (aj.inn [false,false,true,false] rfl [(true,0),(false,2)] rfl) aG)) ?_
   rintro _ bh ⟨rfl,aI⟩
   have aJ:=aj.out [false,false,true,false] rfl aI
   refine sQ 16 (yd (aD Q) 0 0 K30 K1) ?_
   refine s0 (yS 1 1 (aD Q) 64 (vi J) [vi J] 0 [vi J,vi o.X,vi o.Z] aJ K1) ?_
   rintro _ bj ⟨rfl,aK⟩
   refine rn ?_
   exact ⟨m3.at_,m3.seed,J,o.X,o.Z,(sI aa),(fc rfl (fc rfl fn_)),(aK.sel [3,0,1] rfl rfl)⟩
  ·skip
   have ak:=cf' hz hb
   refine cq (cr ?_)
   refine sQ 18 zE<|sQ 17 yu (rn ?_)
   refine cw_cond rfl (fun ab=>?_) (fun ab=>?_)
   ·skip
    have ac:=ct ak ab
    refine cr ?_
    refine sQ 19 yv ?_
    refine sS 20 (yF 1 3 [vi (-1),vi 31,vi 32] 3 H K62 K1 K73 rfl (mpc rfl (mpc rfl (mpc rfl mpn)))) ?_
    rintro _ bk ⟨b3,rfl,U⟩
    obtain ⟨⟨O,m4⟩,aL,ac⟩:=bI ac
    refine sc 21 rfl rfl (yc K89 (F1 (Ah.mk c.code S.at_ S.seed) [(-1),31,32] B u D c.code.length (aD b3) 3 3 _ rfl rfl (U.inn [false,false,true,false] rfl [(true,0),(false,2)] rfl) aL)) ?_
    rintro _ bn ⟨rfl,aM⟩
    have al:=U.out [false,false,true,false] rfl aM
    refine sQ 22 (yd (aD Q) 0 0 K47 K1) ?_
    refine s0 (yS 1 1 (aD Q) 64 (vi O) [vi O] 1 [vi o.Phase,vi O,vi o.Z] al K1) ?_
    rintro _ a0 ⟨rfl,am⟩
    refine rn ?_
    exact ⟨m4.at_,m4.seed,o.Phase,O,o.Z,(sI ac),(fc rfl (fc rfl fn_)),(am.sel [3,0,1] rfl rfl)⟩
   ·skip
    have an:=cf' ak ab
    refine cq (cr ?_)
    refine sQ 24 zE<|sQ 23 yu (rn ?_)
    refine cw_cond rfl (fun ae=>?_) (fun ae=>?_)
    ·skip
     have af:=ct an ae
     refine cr ?_
     refine sQ 25 yv ?_
     refine sS 26 (yF 1 3 [vi (-1),vi 31,vi 32] 3 H K62 K1 K73 rfl (mpc rfl (mpc rfl (mpc rfl mpn)))) ?_
     rintro _ a1 ⟨b4,rfl,V⟩
     obtain ⟨⟨P,m5⟩,aO,af⟩:=bI af
     refine sc 27 rfl rfl (yc K89 (F1 (Ah.mk c.code S.at_ S.seed) [(-1),31,32] B u D c.code.length (aD b4) 3 3 _ rfl rfl (V.inn [false,false,true,false] rfl [(true,0),(false,2)] rfl) aO)) ?_
     rintro _ a3 ⟨rfl,aQ⟩
     have ao:=V.out [false,false,true,false] rfl aQ
     refine sQ 28 (yd (aD Q) 0 0 K48 K1) ?_
     refine s0 (yS 1 1 (aD Q) 64 (vi P) [vi P] 2 [vi o.Phase,vi o.X,vi P] ao K1) ?_
     rintro _ a5 ⟨rfl,ap⟩
     refine rn ?_
     exact ⟨m5.at_,m5.seed,o.Phase,o.X,P,(sI af),(fc rfl (fc rfl fn_)),(ap.sel [3,0,1] rfl rfl)⟩
    ·skip
     have aR:=cf' an ae
     refine cw_skip ?_
     exact ⟨S.at_,S.seed,o.Phase,o.X,o.Z,(sI aR),(fc rfl (fc rfl fn_)),(H.sel [2,0,1] rfl rfl)⟩
 rintro f w ⟨at_,seed,Phase,X,Z,rfl,hf,aq⟩
 refine cq (cr ?_)
 refine sQ 29 (yw 0 K6 K2 (aq.c 2) rfl (hf.g 5 1)) ?_
 refine s0 (yK 1 3 0 aq K2 rfl (hf.g 4 0)) ?_
 rintro _ a6 ⟨rfl,W⟩
 refine rn (ct_ ?_)
 obtain ⟨rfl,rfl⟩:=pr2 (sI aB)
 exact ret1 Tryz.results48 (rX K6 K2 (W.c 1) (hf.g 4 0)) ⟨rfl,(W.sN [0])⟩

theorem SI (c:Ah) (n1:Int) (B:Option Addr) (Q:Option Addr) (W n:Nat) (S:World) (hn:c.code.length=n) (hS:ST S (bl [⟨B,49,[.slice Q n W,vi c.at_,.int .u64 c.seed],3⟩]) S [⟨B,49,[.slice Q n W,vi c.at_,.int .u64 c.seed],3⟩] [⟨Q,(c.code.flatMap enc_u8)⟩]) {r_:Ae} {m:Ah} (hF:F3 c n1=some (r_,m)) :
  CV Tryz.prog 20 #[pt B 0,vi n1] S (fun v w'=>∃ (B2:Option Addr) (c2:Nat) (B3:Option Addr) (c3:Nat),v=.agg #[vi r_.Qubits,.slice B2 r_.XImages.length c2,.slice B3 r_.ZImages.length c3]∧r_.ZImages.length≤c3∧Org S (bl [⟨B,49,[.slice Q n W,vi c.at_,.int .u64 c.seed],3⟩]) [⟨Q,(c.code.flatMap enc_u8)⟩] [⟨B3,(r_.ZImages.flatMap eN0)⟩]∧ST S (bl [⟨B,49,[.slice Q n W,vi c.at_,.int .u64 c.seed],3⟩]) w' [⟨B,49,[.slice Q n W,vi m.at_,.int .u64 m.seed],3⟩,⟨B2,64,(r_.XImages.flatMap eN0),c2*3⟩] [⟨B3,(r_.ZImages.flatMap eN0)⟩]):=by
 subst hn
 unfold F3 at hF
 refine cv_of_cw 51 Tryz.func20 rfl Tryz.ntmps20 rfl ?_
 refine cq (cr ?_)
 refine sS 4 (yN [vi 0,.slice none 0 0,.slice none 0 0] 3 hS K26) ?_
 rintro _ w_ ⟨b,rfl,aQ⟩
 refine rn (cq (cr ?_))
 refine sQ 7 yv<|sQ 8 yv ?_
 obtain ⟨⟨ac,m1⟩,hc,hF⟩:=bI hF
 refine sc 9 rfl rfl (yc J4 (If c n1 B Q W c.code.length _ rfl (aQ.inn [true,false] rfl [(true,0)] rfl) hc)) ?_
 rintro _ cd ⟨B4,c4,rfl,hd⟩
 have aR:=aQ.out [true,false] rfl hd
 obtain ⟨o,bk,hF⟩:=bI hF
 refine sc 10 rfl rfl (yc Ha (HB ac B4 c4 ac.Gates.length _ rfl (aR.inn0 [(false,2)] rfl) bk)) ?_
 rintro _ ce ⟨U,c5,J,u,rfl,bm⟩
 have bn:=aR.out0 bm
 refine sS 5 (yN [vi 0,.slice none 0 0,.slice none 0 0] 3 bn K26) ?_
 rintro _ cg ⟨b1,rfl,bo⟩
 refine s0 (yK 5 3 0 bo K3) ?_
 rintro _ ch ⟨rfl,aT⟩
 refine rn (cq (cr ?_))
 refine sQ 11 yv<|sQ 12 yv ?_
 obtain ⟨⟨D,m2⟩,bp,hF⟩:=bI hF
 refine sc 13 rfl rfl (yc K46 (AQ (Ah.mk c.code m1.at_ m1.seed) n1 B Q W c.code.length _ rfl (aT.inn [false,true,false,false,false,false] rfl [(true,0)] rfl) bp)) ?_
 rintro _ ci ⟨rfl,bq⟩
 have aU:=aT.out [false,true,false,false,false,false] rfl bq
 refine sQ 6 yu (rn (cq ?_))
 obtain ⟨z,hz,bt⟩:=bI hF
 let O0:Ob:=⟨B,49,[.slice Q c.code.length W,vi c.at_,.int .u64 c.seed],3⟩
 let O2:Ob:=⟨aD b,25,[vi 0,.slice none 0 0,.slice none 0 0],3⟩
 let R6:Ro:=⟨Q,(c.code.flatMap enc_u8)⟩
 refine cw_mid (fun f w=>∃ (at_:Int) (seed:Int) (Qubits:Int) (XImages:List Aa) (ZImages:List Aa) (B7:Option Addr) (c7:Nat),(at_,seed,Qubits,XImages,ZImages)=z∧FF f [(4,pt (aD b) 0),(5,pt (aD b1) 0)]∧XImages.length=o.XImages.length∧Org S (bl [O0]) [R6] [⟨B7,(ZImages.flatMap eN0)⟩]∧ZImages.length≤c7∧ST S (bl [O0]) w [⟨B,49,[.slice Q c.code.length W,vi at_,.int .u64 seed],3⟩,O2,⟨aD b1,25,[vi Qubits,.slice U o.XImages.length c5,.slice B7 ZImages.length c7],3⟩,⟨U,64,(XImages.flatMap eN0),c5*3⟩] [⟨B7,(ZImages.flatMap eN0)⟩,R6]) ?_ ?_
 ·skip
  refine cq (cr ?_)
  refine sQ 14 yv ?_
  obtain ⟨⟨cj,m3⟩,bu,hz⟩:=bI hz
  refine sc 15 rfl rfl (yc K46 (AQ (Ah.mk c.code m2.at_ m2.seed) 14 B Q W c.code.length _ rfl (aU.inn [false,false,false,false,false,true] rfl [(true,0)] rfl) bu)) ?_
  rintro _ ck ⟨rfl,bv⟩
  have H:=aU.out [false,false,false,false,false,true] rfl bv
  refine rn (cw_block (cq (cr ?_)))
  refine sQ 17 zE<|sQ 16 yu (rn ?_)
  refine cw_cond rfl (fun hb=>?_) (fun hb=>?_)
  ·skip
   have aj:=ct hz hb
   obtain ⟨⟨O,m4⟩,bw,aj⟩:=bI aj
   obtain ⟨x,hx,aj⟩:=bI aj
   refine ra_start (H.se [0,1,3,4]).fn (by kernel_rfl) ?_
   have ak:=H.drew
   have al:=ak.se [0,1,3,4]
   refine rq 0 18 rfl al (fun _ qh=>(yd (aD b1) 0 0 K18 K4))<|rq 1 19 rfl al (fun _ qh=>(yz 1 K7 (ST.c qh 3)))<|rq 2 20 rfl al (fun _ qh=>yv)<|rq 3 21 rfl al (fun _ qh=>yv)<|rq 4 22 rfl al (fun _ qh=>yv) ?_
   refine rA [5] ?_
   refine rC 23 5 rfl (yc PE (Sw (Ah.mk c.code m3.at_ m3.seed) n1 B Q W c.code.length _ rfl (ak.inn [false,false,false,false,false,true] rfl [(true,0)] rfl) bw)) ?_ aN
   rintro _ cl ⟨rfl,bA⟩
   have ah:=ak.out [false,false,false,false,false,true] rfl bA
   refine ⟨(ah.se [0,1,3,4]),?_⟩
   refine rq 6 24 rfl (ah.se [0,1,3,4]) (fun _ qh=>(yI U D K5 K2 (gi_isSome eN2 rfl (ah.c 2) hx) (getI_nn hx) (getI_ltI hx rfl))) ?_
   refine rA [7] ?_
   refine rZ 7 rfl (yS 2 3 U 64 (.agg #[vi O.Phase,vi O.X,vi O.Z]) [vi O.Phase,vi O.X,vi O.Z] (D.toNat*3) ((o.XImages.set D.toNat O).flatMap eN0) ah K2 rfl rfl rfl rfl rfl rfl rfl (gi_fit0 eN2 hx) (gi_set eN2 hx O rfl)) ?_ aN
   rintro _ cm ⟨rfl,ai⟩
   refine ⟨(ai.se [0,1,3,4]),?_⟩
   refine ra_done (by kernel_rfl) ?_
   have bB:Org S (bl [O0]) [R6] [⟨J,(o.ZImages.flatMap eN0)⟩]:=ST.orgOwn ai (i:=3) rfl
   have a0:o.ZImages.length≤u:=(ai.lencap (i:=3) rfl (fm_lenn (l:=o.ZImages) eN2 rfl) rfl rfl)
   have a1:ST S (bl [O0]) _ [O2,⟨B4,57,(ac.Gates.flatMap eN1),c4*3⟩,⟨U,64,((o.XImages.set D.toNat O).flatMap eN0),c5*3⟩,⟨aD b1,25,[vi o.Qubits,.slice U o.XImages.length c5,.slice J o.ZImages.length u],3⟩,⟨B,49,[.slice Q c.code.length W,vi m4.at_,.int .u64 m4.seed],3⟩] [⟨J,(o.ZImages.flatMap eN0)⟩,R6]:=ai.freeze (i:=3) rfl
   exact ⟨m4.at_,m4.seed,o.Qubits,(o.XImages.set D.toNat O),o.ZImages,J,u,(sI aj),(fc rfl (fc rfl fn_)),(set_len _ _ _ rfl),bB,(len_le rfl a0),(a1.sel [4,0,3,2] rfl rfl)⟩
  ·skip
   have a2:=cf' hz hb
   refine cq (cr ?_)
   refine sQ 26 zE<|sQ 25 yu (rn ?_)
   refine cw_cond rfl (fun ay=>?_) (fun ay=>?_)
   ·skip
    have aA:=ct a2 ay
    refine cr ?_
    refine sQ 27 (yd (aD b1) 0 0 K20 K4)<|sQ 28 (yz 2 K7 (H.c 4)) ?_
    obtain ⟨cn,aA⟩:=chk_inv aA
    have bC:o.ZImages.length≤u:=(H.lencap (i:=3) rfl (fm_lenn (l:=o.ZImages) eN2 rfl) rfl rfl)
    let R7:Ro:=⟨J,(o.ZImages.flatMap eN0)⟩
    have bE:Org S (bl [O0]) [R6] [R7]:=ST.orgOwn H (i:=3) rfl
    have bF:o.ZImages.length≤u:=(H.lencap (i:=3) rfl (fm_lenn (l:=o.ZImages) eN2 rfl) rfl rfl)
    let O1:Ob:=⟨aD b1,25,[vi o.Qubits,.slice U o.XImages.length c5,.slice J o.ZImages.length u],3⟩
    let O3:Ob:=⟨B,49,[.slice Q c.code.length W,vi m3.at_,.int .u64 m3.seed],3⟩
    let O4:Ob:=⟨B4,57,(ac.Gates.flatMap eN1),c4*3⟩
    let O5:Ob:=⟨U,64,(o.XImages.flatMap eN0),c5*3⟩
    have a3:ST S (bl [O0]) _ [O2,O4,O5,O1,O3] [R7,R6]:=H.freeze (i:=3) rfl
    have hv:(List.drop 1 o.ZImages).length=(o.ZImages.length-1):=(drop_len rfl)
    have bL:(o.ZImages.length-1)≤(u-1):=by omega
    have bM:Org S (bl [O0]) [R6] [⟨(sv J 1 u 3),((List.drop 1 o.ZImages).flatMap eN0)⟩]:=org_view eN2 (q:=u) bE rfl (take_all rfl _)
    have a5:ST S (bl [O0]) _ [O2,O4,O5,O1,O3] [⟨(sv J 1 u 3),((List.drop 1 o.ZImages).flatMap eN0)⟩,R7,R6]:=ST.view eN2 a3 (i:=0) rfl (lo:=1) (h:=o.ZImages.length) (q:=u) (by omega) (by omega) rfl (take_all rfl _)
    refine sQ 29 (Y_slice1 (B:=J) (m:=o.ZImages.length) (c:=u) (l:=1) (h:=o.ZImages.length) (s:=3) K5 K2 rfl rfl rfl (bnd_some rfl rfl) (by omega) (by omega))<|sQ 30 (yd (aD b1) 0 0 K20 K4) ?_
    refine s0 (yS 3 1 (aD b1) 25 (.slice (sv J 1 u 3) (o.ZImages.length-1) (u-1)) [.slice (sv J 1 u 3) (o.ZImages.length-1) (u-1)] 2 [vi o.Qubits,.slice U o.XImages.length c5,.slice (sv J 1 u 3) (o.ZImages.length-1) (u-1)] a5 K4) ?_
    rintro _ co ⟨rfl,a6⟩
    refine rn ?_
    have a7:ST S (bl [O0]) _ [O2,O4,O5,⟨aD b1,25,[vi o.Qubits,.slice U o.XImages.length c5,.slice (sv J 1 u 3) (o.ZImages.length-1) (u-1)],3⟩,O3] [⟨(sv J 1 u 3),((List.drop 1 o.ZImages).flatMap eN0)⟩,R6]:=a6.sT [0,2]
    exact ⟨m3.at_,m3.seed,o.Qubits,o.XImages,(List.drop 1 o.ZImages),(sv J 1 u 3),(u-1),(sI aA),(fc rfl (fc rfl fn_)),rfl,bM,(len_le hv bL),(by rw [(hv:(List.drop 1 o.ZImages).length=(o.ZImages.length-1))]; exact a7.sel [4,0,3,2] rfl rfl)⟩
   ·skip
    have a8:=cf' a2 ay
    refine cq (cr ?_)
    refine sQ 32 zE<|sQ 31 yu (rn ?_)
    refine cw_cond rfl (fun aB=>?_) (fun aB=>?_)
    ·skip
     have aE:=ct a8 aB
     refine cr ?_
     refine sQ 33 yv<|sQ 34 yv<|sQ 35 zP ?_
     refine sS 36 (yF 1 2 [vi 0,vi (i64.wrap (n1+1))] 2 H K62 K1 K73 rfl (mpc rfl (mpc rfl mpn))) ?_
     rintro _ b0 ⟨b2,rfl,av⟩
     obtain ⟨⟨am,m5⟩,bN,aE⟩:=bI aE
     refine sc 37 rfl rfl (yc K89 (F1 (Ah.mk c.code m3.at_ m3.seed) [0,(i64.wrap (n1+1))] B Q W c.code.length (aD b2) 2 2 _ rfl rfl (av.inn [false,false,false,false,false,true,false] rfl [(true,0),(false,5)] rfl) bN)) ?_
     rintro _ b5 ⟨rfl,bO⟩
     have a9:=av.out [false,false,false,false,false,true,false] rfl bO
     refine sQ 38 (yd (aD b1) 0 0 K22 K1) ?_
     refine s0 (yS 4 1 (aD b1) 25 (vi am) [vi am] 0 [vi am,.slice U o.XImages.length c5,.slice J o.ZImages.length u] a9 K1) ?_
     rintro _ b6 ⟨rfl,an⟩
     refine rn ?_
     have bP:Org S (bl [O0]) [R6] [⟨J,(o.ZImages.flatMap eN0)⟩]:=ST.orgOwn an (i:=3) rfl
     have aF:o.ZImages.length≤u:=(an.lencap (i:=3) rfl (fm_lenn (l:=o.ZImages) eN2 rfl) rfl rfl)
     have ba:ST S (bl [O0]) _ [O2,⟨B4,57,(ac.Gates.flatMap eN1),c4*3⟩,⟨U,64,(o.XImages.flatMap eN0),c5*3⟩,⟨aD b1,25,[vi am,.slice U o.XImages.length c5,.slice J o.ZImages.length u],3⟩,⟨aD b2,3,([0,(i64.wrap (n1+1))].flatMap encI),2*1⟩,⟨B,49,[.slice Q c.code.length W,vi m5.at_,.int .u64 m5.seed],3⟩] [⟨J,(o.ZImages.flatMap eN0)⟩,R6]:=an.freeze (i:=3) rfl
     exact ⟨m5.at_,m5.seed,am,o.XImages,o.ZImages,J,u,(sI aE),(fc rfl (fc rfl fn_)),rfl,bP,(len_le rfl aF),(ba.sel [5,0,3,2] rfl rfl)⟩
    ·skip
     have bb:=cf' a8 aB
     refine cq (cr ?_)
     refine sQ 40 zE<|sQ 39 yu (rn ?_)
     refine cw_cond rfl (fun aG=>?_) (fun aG=>?_)
     ·skip
      have aI:=ct bb aG
      refine cr ?_
      refine sQ 41 (yd (aD b1) 0 0 K20 K4)<|sQ 42 (yz 2 K7 (H.c 4))<|sQ 43 yv ?_
      obtain ⟨P,V,aI⟩:=bI aI
      refine sQ 44 (yI J D K5 K2 (gi_isSome eN2 rfl (H.c 3) V) (getI_nn V) (getI_ltI V rfl))<|sQ 45 (yd J (D.toNat*3) 0 K30 K1)<|sQ 46 (yz (D.toNat*3+0) K0 (H.c 3) rfl rfl (gi_at eN2 V rfl))<|sQ 47 (Y_bxor (k:=.i64) (a:=P.Phase) (b:=2) rfl rfl rfl)<|sQ 48 (yI J D K5 K2 (gi_isSome eN2 rfl (H.c 3) V) (getI_nn V) (getI_ltI V rfl))<|sQ 49 (yd J (D.toNat*3) 0 K30 K1) ?_
      refine s0 (yS 3 1 J 64 (vi (bits .xor .i64 P.Phase 2)) [vi (bits .xor .i64 P.Phase 2)] (D.toNat*3+0) ((o.ZImages.set D.toNat (Aa.mk (bits .xor .i64 P.Phase 2) P.X P.Z)).flatMap eN0) H K1 rfl rfl rfl rfl rfl rfl rfl (gi_fit eN2 V (j:=0) (k:=1) (by decide)) (gi_setf eN2 V (Aa.mk (bits .xor .i64 P.Phase 2) P.X P.Z) rfl (lB rfl))) ?_
      rintro _ b7 ⟨rfl,ao⟩
      refine rn ?_
      let R8:Ro:=⟨J,((o.ZImages.set D.toNat (Aa.mk (bits .xor .i64 P.Phase 2) P.X P.Z)).flatMap eN0)⟩
      have bQ:Org S (bl [O0]) [R6] [R8]:=ST.orgOwn ao (i:=3) rfl
      have aJ:o.ZImages.length≤u:=(ao.lencap (i:=3) rfl (fm_lenn (l:=(o.ZImages.set D.toNat (Aa.mk (bits .xor .i64 P.Phase 2) P.X P.Z))) eN2 (set_len _ _ _ rfl)) rfl rfl)
      have bc:ST S (bl [O0]) _ [O2,⟨B4,57,(ac.Gates.flatMap eN1),c4*3⟩,⟨U,64,(o.XImages.flatMap eN0),c5*3⟩,⟨aD b1,25,[vi o.Qubits,.slice U o.XImages.length c5,.slice J o.ZImages.length u],3⟩,⟨B,49,[.slice Q c.code.length W,vi m3.at_,.int .u64 m3.seed],3⟩] [R8,R6]:=ao.freeze (i:=3) rfl
      exact ⟨m3.at_,m3.seed,o.Qubits,o.XImages,(o.ZImages.set D.toNat (Aa.mk (bits .xor .i64 P.Phase 2) P.X P.Z)),J,u,(sI aI),(fc rfl (fc rfl fn_)),rfl,bQ,(len_le (set_len _ _ _ rfl) aJ),(by rw [((set_len _ _ _ rfl):(o.ZImages.set D.toNat (Aa.mk (bits .xor .i64 P.Phase 2) P.X P.Z)).length=o.ZImages.length)]; exact bc.sel [4,0,3,2] rfl rfl)⟩
     ·skip
      have bR:=cf' bb aG
      refine cw_skip ?_
      have bS:Org S (bl [O0]) [R6] [⟨J,(o.ZImages.flatMap eN0)⟩]:=ST.orgOwn H (i:=3) rfl
      have aK:o.ZImages.length≤u:=(H.lencap (i:=3) rfl (fm_lenn (l:=o.ZImages) eN2 rfl) rfl rfl)
      have bd:ST S (bl [O0]) _ [O2,⟨B4,57,(ac.Gates.flatMap eN1),c4*3⟩,⟨U,64,(o.XImages.flatMap eN0),c5*3⟩,⟨aD b1,25,[vi o.Qubits,.slice U o.XImages.length c5,.slice J o.ZImages.length u],3⟩,⟨B,49,[.slice Q c.code.length W,vi m3.at_,.int .u64 m3.seed],3⟩] [⟨J,(o.ZImages.flatMap eN0)⟩,R6]:=H.freeze (i:=3) rfl
      exact ⟨m3.at_,m3.seed,o.Qubits,o.XImages,o.ZImages,J,u,(sI bR),(fc rfl (fc rfl fn_)),rfl,bS,(len_le rfl aK),(bd.sel [4,0,3,2] rfl rfl)⟩
 rintro f w ⟨at_,seed,Qubits,XImages,ZImages,B7,c7,rfl,hf,hl,ho,hq,be⟩
 refine cq (cr ?_)
 refine sQ 50 (yw 0 K11 K3 (be.c 2) rfl (hf.g 5 1)) ?_
 refine s0 (yK 1 3 0 be K3 rfl (hf.g 4 0)) ?_
 rintro _ b9 ⟨rfl,aw⟩
 refine rn (ct_ ?_)
 obtain ⟨rfl,rfl⟩:=pr2 (sI bt)
 exact ret1 Tryz.results20 (v1:=.agg #[vi Qubits,.slice U o.XImages.length c5,.slice B7 ZImages.length c7]) (rX K11 K3 (aw.c 1) (hf.g 4 0)) ⟨U,c5,B7,c7,(by simp +zetaDelta [hl]),(len_le rfl hq),(org_cons ho org_nil),((aw.sel [0,3] rfl rfl).sT [0])⟩

theorem Tq (o:List Int) (B:Option Addr) (c n:Nat) (D:World) (hn:o.length=n) (hS:ST D [] D [] [⟨B,(o.flatMap enc_u8)⟩]) {u:Ae} (O:Eh o=some u) :
  CV Tryz.prog 4 #[.slice B n c] D (fun v w'=>∃ (B1:Option Addr) (c1:Nat) (S:Option Addr) (c2:Nat),v=.agg #[vi u.Qubits,.slice B1 u.XImages.length c1,.slice S u.ZImages.length c2]∧u.ZImages.length≤c2∧Org D [] [⟨B,(o.flatMap enc_u8)⟩] [⟨S,(u.ZImages.flatMap eN0)⟩]∧ST D [] w' [⟨B1,64,(u.XImages.flatMap eN0),c1*3⟩] [⟨S,(u.ZImages.flatMap eN0)⟩]):=by
 subst hn
 unfold Eh at O
 refine cv_of_cw 12 Tryz.func4 rfl Tryz.ntmps4 rfl ?_
 refine cq (cr ?_)
 refine sS 2 (yN [vi 0,.slice none 0 0,.slice none 0 0] 3 hS K26) ?_
 rintro _ w_ ⟨b,rfl,U⟩
 refine rn (cq (cr ?_))
 refine sQ 4 yv<|sQ 5 (Y_buildS (zs:=[.slice none 0 0,vi 0,.int .u64 0]) (vs:=[(0,.slice B o.length c)]) (cs:=[.slice B o.length c,vi 0,.int .u64 0]) MY La rfl (mpc rfl mpn) rfl) ?_
 refine sS 6 (yV [.slice B o.length c,vi 0,.int .u64 0] 3 U) ?_
 rintro _ aq ⟨V,rfl,P⟩
 refine sQ 3 yu (rn (cq (cr ?_)))
 refine sQ 7 yv<|sQ 8 yv ?_
 obtain ⟨⟨W,m⟩,hc,O⟩:=bI O
 refine sc 9 rfl rfl (yc K46 (AQ (Ah.mk o 0 0) 4 (aD V) B c o.length _ rfl (P.inn [false,true] rfl [(true,0)] rfl) hc)) ?_
 rintro _ ar ⟨rfl,hd⟩
 have H:=P.out [false,true] rfl hd
 refine sQ 10 zP ?_
 obtain ⟨⟨J,m1⟩,Z,O⟩:=bI O
 refine sc 11 rfl rfl (yc SC (SI (Ah.mk o m.at_ m.seed) (i64.wrap (1+W)) (aD V) B c o.length _ rfl (H.inn [false,true] rfl [(true,0)] rfl) Z)) ?_
 rintro _ au ⟨B3,c3,B4,c4,rfl,hq,ho,ab⟩
 have ac:=ST.outR H [false,true] rfl ab ho (sk 0 (fun _ h=>by cases h))
 have ae:Org D [] [⟨B,(o.flatMap enc_u8)⟩] [⟨B4,(J.ZImages.flatMap eN0)⟩]:=org_trans H (msk_mem (mask:=[false,true]) rfl) ho (org_cons (org_mem (i:=0) rfl) org_nil)
 have af:ST D [] _ [⟨aD b,25,[vi 0,.slice none 0 0,.slice none 0 0],3⟩,⟨aD V,49,[.slice B o.length c,vi m1.at_,.int .u64 m1.seed],3⟩,⟨B3,64,(J.XImages.flatMap eN0),c3*3⟩] [⟨B4,(J.ZImages.flatMap eN0)⟩,⟨B,(o.flatMap enc_u8)⟩]:=ac
 refine s0 (yK 0 3 0 af K3) ?_
 rintro _ aw ⟨rfl,Q⟩
 refine rn (ct_ ?_)
 obtain rfl:=sI O
 exact ret1 Tryz.results4 (rX K11 K3 (Q.c 0)) ⟨B3,c3,B4,c4,rfl,(len_le rfl hq),(org_cons (org_sub ae (sk 0 (fun _ h=>by cases h))) org_nil),((Q.sel [2] rfl rfl).sT [0])⟩

theorem AW (n:Int) (u:Int) (o:Int)  (H:World)  (P:ST H [] H [] []) {J:Bool} (O:A0 n u o=some J) :
  CV Tryz.prog 27 #[vi n,vi u,vi o] H (fun v Q=>v=.bool J∧ST H [] Q [] []):=by
 unfold A0 at O
 refine cv_of_cw 15 Tryz.func27 rfl Tryz.ntmps27 rfl ?_
 refine cq (cr ?_)
 refine sQ 6 yu (rn (cq (cr ?_)))
 refine sQ 7 yv<|sQ 8 yv<|sQ 9 (Y_le rfl rfl rfl)<|sQ 10 yv ?_
 refine sgq 11 rfl rfl (uT_ 10) (fun U=>yv) ?_
 refine sgq 12 rfl rfl (uT_ 10) (fun S=>yv) ?_
 refine sgq 13 rfl rfl (uT_ 10) (fun D=>(Y_le rfl (gv_of D) (gv_of D))) ?_
 refine sQ 14 yA<|sQ 6 yu (rn (ct_ ?_))
 obtain rfl:=sI O
 exact e1 Tryz.results27 (P.sN [])

theorem L5 (o:List (List Aa)) (B:Option Addr) (c n:Nat) (D:List (Hd×(List Aa))) (V:World) (hn:o.length=n) (hD:D.map Prod.snd=o) (hS:ST V [] V [] (⟨B,(D.flatMap CE)⟩::((D.flatMap AF)++[]))) {W:List Aa} (hF:DH o=some W) :
  CV Tryz.prog 28 #[.slice B n c] V (fun v w'=>∃ (B1:Option Addr) (c1:Nat),v=.slice B1 W.length c1∧ST V [] w' [⟨B1,64,(W.flatMap eN0),c1*3⟩] []):=by
 subst hn
 unfold DH at hF
 refine cv_of_cw 36 Tryz.func28 rfl Tryz.ntmps28 rfl ?_
 refine cq (cr ?_)
 refine sQ 2 yu (rn (cq (cr ?_)))
 refine sQ 3 yu (rn (cq (cq (cr ?_))))
 refine sQ 9 yv<|sQ 10 (Y_len K90 rfl rfl)<|sQ 11 yv (rn ?_)
 obtain ⟨hN,hF⟩:=chk_inv hF
 obtain ⟨z,hz,P⟩:=bI hF
 refine cw_block ?_
 let R0:Ro:=⟨B,(D.flatMap CE)⟩
 refine cw_loop (fun k f w=>∃ (i:Nat) (J:Int),FF f [(0,.slice B o.length c),(3,vi J),(9,.slice B o.length c),(10,vi (o.length:Int)),(11,vi (i:Int))]∧ST V [] w [] (R0::((D.flatMap AF)++[]))∧i+k=o.length∧forN (DT o) k i J=some z) o.length ⟨0,0,(fc rfl (fc rfl (fc rfl (fc rfl (fc rfl fn_))))),(hS.sel [] rfl rfl),Nat.zero_add _,hz⟩ ?_
 rintro k_ f w ⟨i,J,Q,aa,a7,hL⟩
 refine cq (cr ?_)
 refine sQ 12 (zL rfl (Q.g 11 4) (Q.g 10 3)) (rn (cq ?_))
 refine cw_cond rfl (fun ab=>?_) (fun ab=>?_)
 ·skip
  have ah:i<o.length:=by have h:=of_decide_eq_true ab; omega
  obtain ⟨K13,rfl⟩:∃ k2,k_=k2+1:=⟨k_-1,by omega⟩
  obtain ⟨y,hb,au⟩:=forN_go hL
  unfold DT at hb
  refine cw_skip (cq (cw_block (cq (cr ?_))))
  obtain ⟨x,hx,hb⟩:=bI hb
  obtain ⟨⟨B2,c2⟩,hp⟩:=getI_snd hD hx
  refine sQ 13 (yI B (i:Int) K90 K4 (gi_isSome H9 rfl (aa.rf (i:=0) rfl) hp) (getI_nn hp) (getI_ltI hp (dl_len hD)) rfl (Q.g 9 2) (Q.g 11 4)) ?_
  have hm:(⟨B2,(x.flatMap eN0)⟩:Ro)∈((⟨B,(D.flatMap CE)⟩::((D.flatMap AF)++[])):List Ro):=app_mem (fun W (h:W∈((D.flatMap AF):List Ro))=>mOd (i:=1) (show W∈((((D.flatMap AF)++[])):List Ro) from mAl _ h)) (row_mem (rw_:=AF) hp _ (mt 0))
  have aj:ST V [] _ [] (⟨B2,(x.flatMap eN0)⟩::R0::((D.flatMap AF)++[])):=ST.subR aa (subc hm (fun _ h=>h))
  refine sQ 14 (yz ((i:Int).toNat*1) K7 (aj.rf (i:=1) rfl) rfl rfl (gi_at0 H9 hp rfl))<|sQ 5 yu (rn (cq (cr ?_)))
  refine sQ 15 (yv rfl (Q.g 3 1))<|sQ 16 yv<|sQ 17 (Y_len K5 rfl rfl)<|sQ 18 zP<|sQ 3 yu (rn (cq (cr ?_)))
  refine sQ 19 yv<|sQ 20 zL (rn ?_)
  refine cw_cond rfl (fun ac=>?_) (fun ac=>?_)
  ·skip
   have av:=ct hb ac
   cases av
  ·skip
   have aw:=cf' hb ac
   refine cw_skip (cr ?_)
   refine sQ 22 (zP rfl (Q.g 11 4))<|sQ 11 yv (rn ?_)
   obtain rfl:=sI aw
   have ay:ST V [] _ [] (R0::((D.flatMap AF)++[])):=aj.sR 2 [1]
   exact ⟨K13,Nat.lt_succ_self _,i+1,(i64.wrap (J+(x.length:Int))),(Q.a 0 0 (fc rfl (Q.a 9 2 (Q.a 10 3 (fc (congrArg (Value.int .i64) (wr_succ ah hN)) fn_))))),(ay.sel [] rfl rfl),(by omega),au⟩
 ·skip
  obtain rfl:k_=0:=by have h:=of_decide_eq_false ab; omega
  refine cw_exit rfl ?_
  obtain rfl:=sI hL
  refine cq (cr ?_)
  refine sQ 23 (yv rfl (Q.g 3 1)) ?_
  obtain ⟨aA,P⟩:=chk_inv P
  refine sc 24 rfl rfl (yc Nq (grow_c Tryz.grow62 62 64 rfl rfl J K2 K63 K14 rfl (by decide) (by decide) aA aa)) ?_
  rintro _ w_ ⟨B3,c3,rfl,hd⟩
  refine sQ 6 yu (rn (cq (cq (cr ?_))))
  refine sQ 25 (yv rfl (Q.g 0 0))<|sQ 26 (Y_len K90 rfl rfl)<|sQ 27 yv (rn ?_)
  obtain ⟨aB,P⟩:=chk_inv P
  obtain ⟨z1,aE,aF⟩:=bI P
  refine cw_block ?_
  refine cw_loop (fun k f w=>∃ (Z:Nat) (u:List Aa) (B4:Option Addr) (c4:Nat),FF f [(6,.slice B4 u.length c4),(25,.slice B o.length c),(26,vi (o.length:Int)),(27,vi (Z:Int))]∧ST V [] w [⟨B4,64,(u.flatMap eN0),c4*3⟩] (R0::((D.flatMap AF)++[]))∧Z+k=o.length∧forN (EE o) k Z u=some z1) o.length ⟨0,([]:List Aa),B3,c3,(fc rfl (fc rfl (fc rfl (fc rfl fn_)))),(hd.sel [0] rfl rfl),Nat.zero_add _,aE⟩ ?_
  rintro K35 f w ⟨Z,u,B4,c4,H,ae,aU,al⟩
  refine cq (cr ?_)
  refine sQ 28 (zL rfl (H.g 27 3) (H.g 26 2)) (rn (cq ?_))
  refine cw_cond rfl (fun S=>?_) (fun S=>?_)
  ·skip
   have am:Z<o.length:=by have h:=of_decide_eq_true S; omega
   obtain ⟨K68,rfl⟩:∃ k2,K35=k2+1:=⟨K35-1,by omega⟩
   obtain ⟨y1,O,aG⟩:=forN_go al
   unfold EE at O
   refine cw_skip (cq (cw_block (cq (cr ?_))))
   obtain ⟨x1,aI,O⟩:=bI O
   obtain ⟨⟨B5,c5⟩,U⟩:=getI_snd hD aI
   refine sQ 29 (yI B (Z:Int) K90 K4 (gi_isSome H9 rfl (ae.rf (i:=0) rfl) U) (getI_nn U) (getI_ltI U (dl_len hD)) rfl (H.g 25 1) (H.g 27 3)) ?_
   have aJ:(⟨B5,(x1.flatMap eN0)⟩:Ro)∈((⟨B,(D.flatMap CE)⟩::((D.flatMap AF)++[])):List Ro):=app_mem (fun W (h:W∈((D.flatMap AF):List Ro))=>mOd (i:=1) (show W∈((((D.flatMap AF)++[])):List Ro) from mAl _ h)) (row_mem (rw_:=AF) U _ (mt 0))
   have af:ST V [] _ [⟨B4,64,(u.flatMap eN0),c4*3⟩] (⟨B5,(x1.flatMap eN0)⟩::R0::((D.flatMap AF)++[])):=ST.subR ae (subc aJ (fun _ h=>h))
   refine sQ 30 (yz ((Z:Int).toNat*1) K7 (af.rf (i:=1) rfl) rfl rfl (gi_at0 H9 U rfl))<|sQ 8 yu (rn (cr ?_))
   refine sQ 31 (yv rfl (H.g 6 0))<|sQ 32 yv ?_
   obtain ⟨aK,O⟩:=chk_inv O
   refine sS 33 (aP 3 24 0 u x1 af K5 K2 K63 K14 eN2 BR (af.rf (i:=0) rfl) aK) ?_
   rintro _ bd ⟨B6,c6,rfl,aL⟩
   refine sQ 6 yu (rn (cr ?_))
   refine sQ 34 (zP rfl (H.g 27 3))<|sQ 27 yv (rn ?_)
   obtain rfl:=sI O
   have aM:ST V [] _ [⟨B6,64,((u++x1).flatMap eN0),c6*3⟩] (R0::((D.flatMap AF)++[])):=aL.sR 2 [1]
   exact ⟨K68,Nat.lt_succ_self _,Z+1,(u++x1),B6,c6,(fc rfl (H.a 25 1 (H.a 26 2 (fc (congrArg (Value.int .i64) (wr_succ am aB)) fn_)))),(aM.sel [0] rfl rfl),(by omega),aG⟩
  ·skip
   obtain rfl:K35=0:=by have h:=of_decide_eq_false S; omega
   refine cw_exit rfl ?_
   obtain rfl:=sI al
   refine cq (cr ?_)
   refine sQ 35 (yv rfl (H.g 6 0))<|sQ 2 yu (rn (ct_ ?_))
   obtain rfl:=sI aF
   exact ret1 Tryz.results28 rT ⟨B4,c4,rfl,(ae.sN [0])⟩

theorem Pi (s:List Aa) (f_:Aa→Option (Bool)) (B:Option Addr) (c n:Nat) (P:Nat) (o:Array Value) (Rf:List Ro) (Q:World) (hn:s.length=n) (hk:callB Tryz.prog P=true) (hp:∀ (w:World),ST w [] w [] Rf→∀ (x:Aa) (y:Bool),f_ x=some y→CV Tryz.prog P ((.agg #[vi x.Phase,vi x.X,vi x.Z])::o.toList).toArray w (fun v w'=>v=.bool y∧ST w [] w' [] [])) (hS:ST Q [] Q [] (⟨B,(s.flatMap eN0)⟩::Rf)) {r_:Int} (hF:F7 s f_=some r_) :
  CV Tryz.prog 63 #[.slice B n c,.func (.func P) #[] o] Q (fun v w'=>v=vi r_∧ST Q [] w' [] []):=by
 subst hn
 unfold F7 at hF
 refine cv_of_cw 19 Tryz.func63 rfl Tryz.ntmps63 rfl ?_
 refine cq (cr ?_)
 refine sQ 4 yu (rn (cq (cq (cr ?_))))
 refine sQ 6 yv<|sQ 7 (Y_len K5 rfl rfl)<|sQ 8 yv (rn ?_)
 obtain ⟨hN,hF⟩:=chk_inv hF
 obtain ⟨z,hz,S⟩:=bI hF
 refine cw_block ?_
 refine cw_loop (fun k f w=>∃ (i:Nat),FF f [(0,.slice B s.length c),(1,.func (.func P) #[] o),(7,vi (s.length:Int)),(8,vi (i:Int))]∧ST Q [] w [] (⟨B,(s.flatMap eN0)⟩::Rf)∧i+k=s.length∧forX (DQ s f_) k i ()=some z) s.length ⟨0,(fc rfl (fc rfl (fc rfl (fc rfl fn_)))),(hS.sel [] rfl rfl),Nat.zero_add _,hz⟩ ?_
 rintro k_ f w ⟨i,D,u,aq,hL⟩
 refine cq (cr ?_)
 refine sQ 9 (zL rfl (D.g 8 3) (D.g 7 2)) (rn (cq ?_))
 refine cw_cond rfl (fun J=>?_) (fun J=>?_)
 ·skip
  have U:i<s.length:=by have h:=of_decide_eq_true J; omega
  obtain ⟨K13,rfl⟩:∃ k2,k_=k2+1:=⟨k_-1,by omega⟩
  obtain ⟨y1,hb,V⟩:=forX_go hL
  unfold DQ at hb
  refine cw_skip (cq (cw_block (cq (cr ?_))))
  refine sQ 10 (yv rfl (D.g 8 3))<|sQ 5 yu (rn (cq (cr ?_)))
  refine sQ 11 (yv rfl (D.g 1 1))<|sQ 12 (yv rfl (D.g 0 0))<|sQ 13 yv ?_
  obtain ⟨H,hx,hb⟩:=bI hb
  refine sQ 14 (yI B (i:Int) K5 K2 (gi_isSome eN2 rfl (u.rf (i:=0) rfl) hx) (getI_nn hx) (getI_ltI hx rfl))<|sQ 15 (ya B ((i:Int).toNat*3) (s.flatMap eN0) [vi H.Phase,vi H.X,vi H.Z] K6 K2 (u.rf (i:=0) rfl) rfl rfl (eN2 H) (gi_seg eN2 hx)) ?_
  obtain ⟨ag,hc,hb⟩:=bI hb
  refine sc 16 rfl rfl (Yc_clos (g:=P) (vs:=(.agg #[vi H.Phase,vi H.X,vi H.Z])::o.toList) hk rfl rfl (clo_args (mc rfl mn)) (hp _ (u.innS (fun _ h=>mOd (i:=1) h)) H ag hc)) ?_
  rintro _ w_ ⟨rfl,hd⟩
  have W:=u.out00 hd
  refine rn ?_
  refine cw_cond rfl (fun O=>?_) (fun O=>?_)
  ·skip
   have ah:=ct hb O
   refine cq (cr ?_)
   refine sQ 17 yv<|sQ 4 yu (rn (ct_ ?_))
   obtain rfl:=sI ah
   obtain rfl:=sI V
   obtain rfl:=sI S
   exact e1 Tryz.results63 (W.sN [])
  ·skip
   have ai:=cf' hb O
   refine cw_skip (cr ?_)
   refine sQ 18 (zP rfl (D.g 8 3))<|sQ 8 yv (rn ?_)
   obtain rfl:=sI ai
   exact ⟨K13,Nat.lt_succ_self _,i+1,(D.a 0 0 (D.a 1 1 (D.a 7 2 (fc (congrArg (Value.int .i64) (wr_succ U hN)) fn_)))),(W.sel [] rfl rfl),(by omega),V⟩
 ·skip
  obtain rfl:k_=0:=by have h:=of_decide_eq_false J; omega
  refine cw_exit rfl ?_
  obtain rfl:=sI hL
  refine cq (cr ?_)
  refine sQ 4 yu (rn (ct_ ?_))
  obtain rfl:=sI S
  exact e1 Tryz.results63 (u.sN [])

theorem Ol (s:List Aa) (J:Aa→Option (Bool)) (B:Option Addr) (c n:Nat) (u:Nat) (o:Array Value) (Rf:List Ro) (D:World) (U:s.length=n) (hk:callB Tryz.prog u=true) (V:∀ (w:World),ST w [] w [] Rf→∀ (x:Aa) (y:Bool),J x=some y→CV Tryz.prog u ((.agg #[vi x.Phase,vi x.X,vi x.Z])::o.toList).toArray w (fun v O=>v=.bool y∧ST w [] O [] [])) (Q:ST D [] D [] (⟨B,(s.flatMap eN0)⟩::Rf)) {S:Bool} (H:D9 s J=some S) :
  CV Tryz.prog 29 #[.slice B n c,.func (.func u) #[] o] D (fun v O=>v=.bool S∧ST D [] O [] []):=by
 subst U
 unfold D9 at H
 refine cv_of_cw 9 Tryz.func29 rfl Tryz.ntmps29 rfl ?_
 refine cq (cr ?_)
 refine sQ 4 yu (rn (cq (cr ?_)))
 refine sQ 5 yv<|sQ 6 yv ?_
 obtain ⟨W,hc,H⟩:=bI H
 refine sc 7 rfl rfl (yc NZ (Pi s J B c s.length u o Rf _ rfl hk V (Q.innS (sk 0 (fun _ h=>mOd (i:=1) h))) hc)) ?_
 rintro _ w_ ⟨rfl,hd⟩
 have P:=Q.out00 hd
 refine sQ 8 (Y_ge rfl rfl rfl)<|sQ 4 yu (rn (ct_ ?_))
 obtain rfl:=sI H
 exact e1 Tryz.results29 (P.sN [])

theorem NS (n:Int) (p:Aa)  (w0:World)  (hS:ST w0 [] w0 [] []) {r_:Bool} (D:Di n p=some r_) :
  CV Tryz.prog 64 #[vi n,.agg #[vi p.Phase,vi p.X,vi p.Z]] w0 (fun v w'=>v=.bool r_∧ST w0 [] w' [] []):=by
 unfold Di at D
 refine cv_of_cw 28 Tryz.func64 rfl Tryz.ntmps64 rfl ?_
 refine cq (cr ?_)
 refine sS 3 (yV [vi p.Phase,vi p.X,vi p.Z] 3 hS) ?_
 rintro _ w_ ⟨b,rfl,ae⟩
 refine sQ 4 yu (rn (cq ?_))
 obtain ⟨V,hc,D⟩:=bI D
 obtain ⟨W,am,D⟩:=bI D
 obtain ⟨an,D⟩:=chk_inv D
 obtain ⟨af,ao,D⟩:=bI D
 obtain ⟨ag,D⟩:=chk_inv D
 obtain ⟨ap,aq,D⟩:=bI D
 refine ra_start (ae.se [0]).fn (by kernel_rfl) ?_
 have aa:=ae.drew
 refine rq 0 5 rfl (aa.se [0]) (fun _ q=>yv) ?_
 refine rA [1] ?_
 refine rC 6 1 rfl (yc K49 (AW n 1 5 _  (aa.inn0 [] rfl) hc)) ?_ aN
 rintro _ aE ⟨rfl,hd⟩
 have H:=aa.out00 hd
 have Q:=H.se [0]
 refine ⟨Q,?_⟩
 refine rq 2 7 rfl Q (fun _ q=>yv)<|rG 3 8 rfl rfl rfl (uT_ 7) Q (fun hg _ q=>(yd (aD b) 0 0 K30 K1))<|rG 4 9 rfl rfl rfl (uT_ 7) Q (fun ar _ q=>(yz 0 K0 (ST.c q 0) rfl (gv_of ar))) ?_
 refine rA [5] ?_
 refine ra_gc 10 (i:=5) (B:=V) (v:=.bool W) (F:=H.fn) rfl rfl rfl (uT_ 7) H (fun ah=>(yc K49 (CV.mono (AW p.Phase 0 3 _  (H.inn0 [] rfl) (gb_inv am ah)) (by rintro _ _ ⟨rfl,h⟩; exact ⟨rfl,H.out00 h⟩)) rfl (mc (gv_of ah) (mc rfl (mc rfl mn))))) ?_ ?_
 ·rintro aF J
  have o:=J.se [0]
  refine ⟨o,?_⟩
  refine rq 6 11 rfl o (fun _ q=>yA)<|rq 7 12 rfl o (fun _ q=>yv)<|rG 8 13 rfl rfl rfl (uT_ 12) o (fun aG _ q=>(yd (aD b) 0 0 K47 K1))<|rG 9 14 rfl rfl rfl (uT_ 12) o (fun au _ q=>(yz 1 K0 (ST.c q 0) rfl (gv_of au)))<|rG 10 15 rfl rfl rfl (uT_ 12) o (fun aI _ q=>yv) ?_
  refine rG 11 16 rfl rfl rfl (uT_ 12) o (fun ai _ q=>(Y_shl (k:=.i64) (a:=1) (k':=.i64) (b:=n) rfl rfl (gv_of ai) (an ai)))<|rG 12 17 rfl rfl rfl (uT_ 12) o (fun av _ q=>(zM rfl (gv_of av))) ?_
  refine rA [13] ?_
  refine ra_gc 18 (i:=13) (B:=(V&&W)) (v:=.bool af) (F:=J.fn) rfl rfl rfl (uT_ 12) J (fun ab=>(yc K49 (CV.mono (AW p.X 0 (i64.wrap ((shlK .i64 1 n)-1)) _  (J.inn0 [] rfl) (gb_inv ao ab)) (by rintro _ _ ⟨rfl,h⟩; exact ⟨rfl,J.out00 h⟩)) rfl (mc (gv_of ab) (mc rfl (mc (gv_of ab) mn))))) ?_ ?_
  ·rintro aJ O
   have u:=O.se [0]
   refine ⟨u,?_⟩
   refine rq 14 19 rfl u (fun _ q=>yA)<|rq 15 20 rfl u (fun _ q=>yv)<|rG 16 21 rfl rfl rfl (uT_ 20) u (fun aK _ q=>(yd (aD b) 0 0 K48 K1))<|rG 17 22 rfl rfl rfl (uT_ 20) u (fun aj _ q=>(yz 2 K0 (ST.c q 0) rfl (gv_of aj)))<|rG 18 23 rfl rfl rfl (uT_ 20) u (fun ay _ q=>yv) ?_
   refine rG 19 24 rfl rfl rfl (uT_ 20) u (fun S _ q=>(Y_shl (k:=.i64) (a:=1) (k':=.i64) (b:=n) rfl rfl (gv_of S) (ag S)))<|rG 20 25 rfl rfl rfl (uT_ 20) u (fun ak _ q=>(zM rfl (gv_of ak))) ?_
   refine rA [21] ?_
   refine ra_gc 26 (i:=21) (B:=((V&&W)&&af)) (v:=.bool ap) (F:=O.fn) rfl rfl rfl (uT_ 20) O (fun P=>(yc K49 (CV.mono (AW p.Z 0 (i64.wrap ((shlK .i64 1 n)-1)) _  (O.inn0 [] rfl) (gb_inv aq P)) (by rintro _ _ ⟨rfl,h⟩; exact ⟨rfl,O.out00 h⟩)) rfl (mc (gv_of P) (mc rfl (mc (gv_of P) mn))))) ?_ ?_
   ·rintro aL U
    have ac:=U.se [0]
    refine ⟨ac,?_⟩
    refine rq 22 27 rfl ac (fun _ q=>yA)<|rq 23 4 rfl ac (fun _ q=>yu) ?_
    refine ra_done (by kernel_rfl) ?_
    refine ct_ ?_
    obtain rfl:=sI D
    exact e1 Tryz.results64 (U.sN [])
   exact aN
  exact aN
 exact aN

theorem QJ (n:Int) (p:Aa)  (D:World)  (S:ST D [] D [] []) {Q:Bool} (H:Dh n p=some Q) :
  CV Tryz.prog 31 #[vi n,.agg #[vi p.Phase,vi p.X,vi p.Z]] D (fun v U=>v=.bool Q∧ST D [] U [] []):=by
 unfold Dh at H
 refine cv_of_cw 14 Tryz.func31 rfl Tryz.ntmps31 rfl ?_
 refine cq (cr ?_)
 refine sS 3 (yV [vi p.Phase,vi p.X,vi p.Z] 3 S) ?_
 rintro _ w_ ⟨b,rfl,o⟩
 refine sQ 4 yu (rn (cq (cr ?_)))
 refine sQ 5 yv<|sQ 6 (yw 0 K6 K2 (o.c 0)) ?_
 obtain ⟨V,hc,H⟩:=bI H
 refine sc 7 rfl rfl (yc Rk (NS n p _  (o.inn0 [] rfl) hc)) ?_
 rintro _ W ⟨rfl,hd⟩
 have u:=o.out00 hd
 refine sQ 8 yv ?_
 refine sgq 9 rfl rfl (uT_ 8) (fun hg=>(yd (aD b) 0 0 K30 K1)) ?_
 refine sgq 10 rfl rfl (uT_ 8) (fun J=>(yz 0 K0 (u.c 0) rfl (gv_of J))) ?_
 refine sgq 11 rfl rfl (uT_ 8) (fun O=>(Y_rem (k:=.i64) (a:=p.Phase) (b:=2) rfl (gv_of O) rfl (by decide))) ?_
 refine sgq 12 rfl rfl (uT_ 8) (fun P=>(zE rfl (gv_of P))) ?_
 refine sQ 13 yA<|sQ 4 yu (rn (ct_ ?_))
 obtain rfl:=sI H
 exact e1 Tryz.results31 (u.sN [])

theorem TJ (p:Aa) (H:Int) (B:Option Addr) (u:World)  (P:ST u [] u [] [⟨B,[vi H]⟩]) {O:Bool} (D:Cg p H=some O) :
  CV Tryz.prog 30 #[.agg #[vi p.Phase,vi p.X,vi p.Z],pt B 0] u (fun v Q=>v=.bool O∧ST u [] Q [] []):=by
 unfold Cg at D
 refine cv_of_cw 8 Tryz.func30 rfl Tryz.ntmps30 rfl ?_
 refine cq (cr ?_)
 refine sS 2 (yV [vi p.Phase,vi p.X,vi p.Z] 3 P) ?_
 rintro _ V ⟨b,rfl,o⟩
 refine sQ 3 yu (rn (cq (cr ?_)))
 refine sQ 4 (yz 0 K0 (o.rf (i:=0) rfl))<|sQ 5 (yw 0 K6 K2 (o.c 0)) ?_
 obtain ⟨S,hc,D⟩:=bI D
 refine sc 6 rfl rfl (yc PM (QJ H p _  (o.inn0 [] rfl) hc)) ?_
 rintro _ U ⟨rfl,hd⟩
 have J:=o.out00 hd
 refine sQ 7 yn<|sQ 3 yu (rn (ct_ ?_))
 obtain rfl:=sI D
 exact e1 Tryz.results30 (J.sN [])

theorem Pf (x:Int)  (o:World)  (H:ST o [] o [] []) {u:Int} (D:GP x=some u) :
  CV Tryz.prog 94 #[.int .u64 x] o (fun v J=>v=vi u∧ST o [] J [] []):=by
 unfold GP at D
 refine cv_of_cw 35 Tryz.func94 rfl Tryz.ntmps94 rfl ?_
 refine cq (cr ?_)
 refine sQ 2 yu (rn (cq (cr ?_)))
 refine sQ 3 yv<|sQ 4 (Y_shr (k:=.u64) (a:=x) (k':=.u64) (b:=1) rfl rfl rfl (by decide))<|sQ 5 (Y_band (k:=.u64) (a:=(shrK .u64 x 1)) (b:=6148914691236517205) rfl rfl rfl)<|sQ 6 yv<|sQ 7 (Y_band (k:=.u64) (a:=x) (b:=6148914691236517205) rfl rfl rfl)<|sQ 8 (Y_add (k:=.u64) (b:=(bits .and .u64 x 6148914691236517205)) rfl rfl rfl) ?_
 refine sQ 0 yu (rn (cq (cr ?_)))
 refine sQ 9 yv<|sQ 10 (Y_shr (k:=.u64) (k':=.u64) (b:=2) rfl rfl rfl (by decide))<|sQ 11 (Y_band (k:=.u64) (b:=3689348814741910323) rfl rfl rfl)<|sQ 12 yv<|sQ 13 (Y_band (k:=.u64) (b:=3689348814741910323) rfl rfl rfl)<|sQ 14 (Y_add (k:=.u64) rfl rfl rfl) ?_
 refine sQ 0 yu (rn (cq (cr ?_)))
 refine sQ 15 yv<|sQ 16 (Y_shr (k:=.u64) (k':=.u64) (b:=4) rfl rfl rfl (by decide))<|sQ 17 yv<|sQ 18 (Y_add (k:=.u64) rfl rfl rfl)<|sQ 19 (Y_band (k:=.u64) (b:=1085102592571150095) rfl rfl rfl)<|sQ 0 yu (rn (cq (cr ?_)))
 refine sQ 20 yv<|sQ 21 yv<|sQ 22 (Y_shr (k:=.u64) (k':=.u64) (b:=8) rfl rfl rfl (by decide))<|sQ 23 (Y_add (k:=.u64) rfl rfl rfl)<|sQ 0 yu (rn (cq (cr ?_)))
 refine sQ 24 yv<|sQ 25 yv<|sQ 26 (Y_shr (k:=.u64) (k':=.u64) (b:=16) rfl rfl rfl (by decide))<|sQ 27 (Y_add (k:=.u64) rfl rfl rfl)<|sQ 0 yu (rn (cq (cr ?_)))
 refine sQ 28 yv<|sQ 29 yv<|sQ 30 (Y_shr (k:=.u64) (k':=.u64) (b:=32) rfl rfl rfl (by decide))<|sQ 31 (Y_add (k:=.u64) rfl rfl rfl)<|sQ 0 yu (rn (cq (cr ?_)))
 refine sQ 32 yv<|sQ 33 (Y_conv (k:=.u64) (T:=47) (T':=3) Kr K16 rfl rfl)<|sQ 34 (Y_band (k:=.i64) (b:=127) rfl rfl rfl)<|sQ 2 yu (rn (ct_ ?_))
 obtain rfl:=sI D
 exact e1 Tryz.results94 (H.sN [])

theorem Ek (x:Int)  (o:World)  (H:ST o [] o [] []) {J:Int} (u:Bo x=some J) :
  CV Tryz.prog 65 #[.int .u64 x] o (fun v O=>v=vi J∧ST o [] O [] []):=by
 unfold Bo at u
 refine cv_of_cw 8 Tryz.func65 rfl Tryz.ntmps65 rfl ?_
 refine cq (cr ?_)
 refine sQ 2 yu (rn (cq ?_))
 refine cw_cond rfl (fun h=>by cases h) (fun _=>?_)
 refine cw_skip (cq (cr ?_))
 refine sQ 6 yv ?_
 obtain ⟨P,hc,u⟩:=bI u
 refine sc 7 rfl rfl (yc RY (Pf x _  (H.inn0 [] rfl) hc)) ?_
 rintro _ Q ⟨rfl,hd⟩
 have D:=H.out00 hd
 refine sQ 2 yu (rn (ct_ ?_))
 obtain rfl:=sI u
 exact e1 Tryz.results65 (D.sN [])

theorem Tb (a:Aa) (b:Aa)  (Q:World)  (hS:ST Q [] Q [] []) {r_:Bool} (J:Fw a b=some r_) :
  CV Tryz.prog 32 #[.agg #[vi a.Phase,vi a.X,vi a.Z],.agg #[vi b.Phase,vi b.X,vi b.Z]] Q (fun v w'=>v=.bool r_∧ST Q [] w' [] []):=by
 unfold Fw at J
 refine cv_of_cw 22 Tryz.func32 rfl Tryz.ntmps32 rfl ?_
 refine cq (cr ?_)
 refine sS 2 (yV [vi a.Phase,vi a.X,vi a.Z] 3 hS) ?_
 rintro _ w_ ⟨b1,rfl,S⟩
 refine sS 3 (yV [vi b.Phase,vi b.X,vi b.Z] 3 S) ?_
 rintro _ ah ⟨b2,rfl,O⟩
 refine sQ 4 yu (rn (cq ?_))
 obtain ⟨U,hc,J⟩:=bI J
 obtain ⟨V,W,J⟩:=bI J
 refine ra_start (O.se [0,1]).fn (by kernel_rfl) ?_
 have D:=O.drew
 have o:=D.se [0,1]
 refine rq 0 5 rfl o (fun _ q=>(yd (aD b1) 0 0 K47 K1))<|rq 1 6 rfl o (fun _ q=>(yz 1 K0 (ST.c q 0)))<|rq 2 7 rfl o (fun _ q=>(yd (aD b2) 0 0 K48 K1))<|rq 3 8 rfl o (fun _ q=>(yz 2 K0 (ST.c q 1)))<|rq 4 9 rfl o (fun _ q=>(Y_band (k:=.i64) (a:=a.X) (b:=b.Z) rfl rfl rfl)) ?_
 refine rq 5 10 rfl o (fun _ q=>(Y_conv (k:=.i64) (a:=(bits .and .i64 a.X b.Z)) (T:=3) (T':=103) K41 K43 rfl rfl))<|rq 7 12 rfl o (fun _ q=>(yd (aD b1) 0 0 K48 K1))<|rq 8 13 rfl o (fun _ q=>(yz 2 K0 (ST.c q 0)))<|rq 9 14 rfl o (fun _ q=>(yd (aD b2) 0 0 K47 K1))<|rq 10 15 rfl o (fun _ q=>(yz 1 K0 (ST.c q 1))) ?_
 refine rq 11 16 rfl o (fun _ q=>(Y_band (k:=.i64) (a:=a.Z) (b:=b.X) rfl rfl rfl))<|rq 12 17 rfl o (fun _ q=>(Y_conv (k:=.i64) (a:=(bits .and .i64 a.Z b.X)) (T:=3) (T':=103) K41 K43 rfl rfl)) ?_
 refine rA [6] ?_
 refine rC 11 6 rfl (yc K81 (Ek (IntKind.u64.wrap (bits .and .i64 a.X b.Z)) _  (D.inn0 [] rfl) hc)) ?_ aN
 rintro _ ai ⟨rfl,hd⟩
 have H:=D.out00 hd
 refine ⟨(H.se [0,1]),?_⟩
 refine rA [13] ?_
 refine rC 18 13 rfl (yc K81 (Ek (IntKind.u64.wrap (bits .and .i64 a.Z b.X)) _  (H.inn0 [] rfl) W)) ?_ aN
 rintro _ aj ⟨rfl,aa⟩
 have P:=H.out00 aa
 have u:=P.se [0,1]
 refine ⟨u,?_⟩
 refine rq 14 19 rfl u (fun _ q=>zP)<|rq 15 20 rfl u (fun _ q=>(Y_rem (k:=.i64) (a:=(i64.wrap (U+V))) (b:=2) rfl rfl rfl (by decide)))<|rq 16 21 rfl u (fun _ q=>zE)<|rq 17 4 rfl u (fun _ q=>yu) ?_
 refine ra_done (by kernel_rfl) ?_
 refine ct_ ?_
 obtain rfl:=sI J
 exact e1 Tryz.results32 (P.sN [])

theorem EL (t:Ae) (B:Option Addr) (c n:Nat) (P:Option Addr) (S n1:Nat) (w0:World) (hn:t.XImages.length=n) (aY:t.ZImages.length=n1) (hS:ST w0 [] w0 [] [⟨B,(t.XImages.flatMap eN0)⟩,⟨P,(t.ZImages.flatMap eN0)⟩]) {r_:Bool} (hF:AU t=some r_) :
  CV Tryz.prog 8 #[.agg #[vi t.Qubits,.slice B n c,.slice P n1 S]] w0 (fun v w'=>v=.bool r_∧ST w0 [] w' [] []):=by
 subst hn
 subst aY
 unfold AU at hF
 refine cv_of_cw 61 Tryz.func8 rfl Tryz.ntmps8 rfl ?_
 refine cq (cr ?_)
 let V5:List Value:=[vi t.Qubits,.slice B t.XImages.length c,.slice P t.ZImages.length S]
 refine sS 1 (yV V5 3 hS) ?_
 rintro _ w_ ⟨b,rfl,av⟩
 refine sQ 2 yu (rn (cq (cr ?_)))
 refine sQ 7 (yd (aD b) 0 0 K22 K1)<|sQ 8 (yz 0 K0 (av.c 0)) ?_
 refine sS 3 (yN [vi 0] 1 av M2) ?_
 rintro _ bD ⟨b1,rfl,a0⟩
 refine s0 (yK 1 1 0 a0 K1) ?_
 rintro _ bE ⟨rfl,ai⟩
 refine rn (cq (cq (cr ?_)))
 refine sQ 9 (yz 0 K0 (ai.c 1)) ?_
 obtain ⟨bF,hc,hF⟩:=bI hF
 refine sc 10 rfl rfl (yc K49 (AW t.Qubits 1 5 _  (ai.inn0 [] rfl) hc)) ?_
 rintro _ bH ⟨rfl,hd⟩
 have O:=ai.out00 hd
 refine sQ 11 yn<|sQ 12 yv ?_
 refine sgq 13 rfl rfl (uF_ 12) (fun hg=>(yd (aD b) 0 0 K18 K4)) ?_
 refine sgq 14 rfl rfl (uF_ 12) (fun a1=>(yz 1 K7 (O.c 0) rfl (gv_of a1))) ?_
 refine sgq 15 rfl rfl (uF_ 12) (fun a2=>(Y_len K5 rfl (gv_of a2))) ?_
 refine sgq 16 rfl rfl (uF_ 12) (fun bJ=>(yz 0 K0 (O.c 1))) ?_
 refine sgq 17 rfl rfl (uF_ 12) (fun aw=>(Y_ne rfl (gv_of aw) (gv_of aw))) ?_
 refine sQ 18 yO<|sQ 19 yv ?_
 refine sgq 20 rfl rfl (uF_ 19) (fun bK=>(yd (aD b) 0 0 K20 K4)) ?_
 refine sgq 21 rfl rfl (uF_ 19) (fun a3=>(yz 2 K7 (O.c 0) rfl (gv_of a3))) ?_
 refine sgq 22 rfl rfl (uF_ 19) (fun a5=>(Y_len K5 rfl (gv_of a5))) ?_
 refine sgq 23 rfl rfl (uF_ 19) (fun bL=>(yz 0 K0 (O.c 1))) ?_
 refine sgq 24 rfl rfl (uF_ 19) (fun ay=>(Y_ne rfl (gv_of ay) (gv_of ay))) ?_
 refine sQ 25 yO (rn ?_)
 refine cw_cond rfl (fun hb=>?_) (fun hb=>?_)
 ·skip
  have a6:=ct hF hb
  refine cq (cr ?_)
  refine sQ 2 yu (rn (ct_ ?_))
  obtain rfl:=sI a6
  exact e1 Tryz.results8 (O.sN [])
 ·skip
  have U:=cf' hF hb
  refine cw_skip (cq (cr ?_))
  refine sQ 26 (yd (aD b) 0 0 K18 K4)<|sQ 27 (yz 1 K7 (O.c 0))<|sQ 28 (yd (aD b) 0 0 K20 K4)<|sQ 29 (yz 2 K7 (O.c 0)) ?_
  refine sS 30 (yF 1 2 [.slice B t.XImages.length c,.slice P t.ZImages.length S] 2 O K90 K4 JP rfl (mpc rfl (mpc rfl mpn))) ?_
  rintro _ bM ⟨b2,rfl,a8⟩
  let R3:Ro:=⟨P,(t.ZImages.flatMap eN0)⟩
  let R4:Ro:=⟨B,(t.XImages.flatMap eN0)⟩
  have hm:∀ r∈(([((B,c),t.XImages),((P,S),t.ZImages)]:List (Hd×(List Aa))).flatMap AF),r∈([R4,R3]:List Ro):=(fsub_cons (sk 0 (fun _ h=>by cases h)) (fsub_cons (sk 1 (fun _ h=>by cases h)) fsub_nil))
  have ho:Org w0 [] [R4,R3] (([((B,c),t.XImages),((P,S),t.ZImages)]:List (Hd×(List Aa))).flatMap AF):=(forg_cons (org_cons (org_mem (i:=0) rfl) org_nil) (forg_cons (org_cons (org_mem (i:=1) rfl) org_nil) forg_nil))
  let O0:Ob:=⟨aD b,25,V5,3⟩
  let O1:Ob:=⟨aD b1,3,[vi t.Qubits],1⟩
  have aA:ST w0 [] _ [O0,O1,⟨aD b2,23,(([((B,c),t.XImages),((P,S),t.ZImages)]:List (Hd×(List Aa))).flatMap CE),2*1⟩] (R4::R3::((([((B,c),t.XImages),((P,S),t.ZImages)]:List (Hd×(List Aa))).flatMap AF)++[])):=ST.subR a8 (sk 0 (sk 1 (suba hm (fun _ h=>by cases h))))
  obtain ⟨u,a9,U⟩:=bI U
  refine sc 31 rfl rfl (yc Lf (L5 ([t.XImages,t.ZImages]:List (List Aa)) (aD b2) 2 2 ([((B,c),t.XImages),((P,S),t.ZImages)]:List (Hd×(List Aa))) _ (dl_fl (show List.map Prod.snd ([((B,c),t.XImages),((P,S),t.ZImages)]:List (Hd×(List Aa)))=([t.XImages,t.ZImages]:List (List Aa)) from rfl) rfl) (show List.map Prod.snd ([((B,c),t.XImages),((P,S),t.ZImages)]:List (Hd×(List Aa)))=([t.XImages,t.ZImages]:List (List Aa)) from rfl) (aA.innR0 (srcO (i:=2) rfl (srcG (fun r_ (h:r_∈((([((B,c),t.XImages),((P,S),t.ZImages)]:List (Hd×(List Aa))).flatMap AF):List Ro))=>mOd (i:=2) (show r_∈((((([((B,c),t.XImages),((P,S),t.ZImages)]:List (Hd×(List Aa))).flatMap AF)++[])):List Ro) from mAl _ h)) (fun _ h=>by cases h)))) a9)) ?_
  rintro _ bO ⟨B2,c2,rfl,ba⟩
  have aB:=aA.out0 ba
  refine sQ 4 yu (rn (cq (cq (cr ?_))))
  refine sQ 32 yv<|sQ 33 (Y_makeFunc (cs:=[pt (aD b1) 0]) rfl rfl (mc rfl mn)) ?_
  obtain ⟨bP,bb,U⟩:=bI U
  refine sc 34 rfl rfl (yc OK (Ol u (fun aj=>Cg aj t.Qubits) B2 c2 u.length 30 (#[pt (aD b1) 0]) [⟨aD b1,[vi t.Qubits]⟩] _ rfl Nc (fun w hw aj bR h_=>TJ aj t.Qubits (aD b1) w  hw h_) (aB.inn0 [(false,3),(false,1)] rfl) bb)) ?_
  rintro _ bT ⟨rfl,bc⟩
  have aE:=aB.out00 bc
  refine rn ?_
  refine cw_cond rfl (fun ak=>?_) (fun ak=>?_)
  ·skip
   have bd:=ct U ak
   refine cq (cr ?_)
   refine sQ 2 yu (rn (ct_ ?_))
   obtain rfl:=sI bd
   exact e1 Tryz.results8 (aE.sN [])
  ·skip
   have al:=cf' U ak
   refine cw_skip (cq (cq (cr ?_)))
   refine sQ 35 yv<|sQ 36 (Y_len K5 rfl rfl)<|sQ 37 yv (rn ?_)
   obtain ⟨hN,al⟩:=chk_inv al
   obtain ⟨z,hz,aF⟩:=bI al
   let O2:Ob:=⟨B2,64,(u.flatMap eN0),c2*3⟩
   have aG:ST w0 [] _ [O0,O1,⟨aD b2,23,(([((B,c),t.XImages),((P,S),t.ZImages)]:List (Hd×(List Aa))).flatMap CE),2*1⟩,O2] [R4,R3]:=aE.sT [0,1]
   refine cw_block ?_
   refine cw_loop (fun k f w=>∃ (i:Nat),FF f [(3,pt (aD b1) 0),(4,.slice B2 u.length c2),(36,vi (u.length:Int)),(37,vi (i:Int))]∧ST w0 [] w [O1,O2] [R4,R3]∧i+k=u.length∧forX (DU u t) k i ()=some z) u.length ⟨0,(fc rfl (fc rfl (fc rfl (fc rfl fn_)))),(aG.sel [1,3] rfl rfl),Nat.zero_add _,hz⟩ ?_
   rintro k_ f w ⟨i,hf,aI,bW,hL⟩
   refine cq (cr ?_)
   refine sQ 38 (zL rfl (hf.g 37 3) (hf.g 36 2)) (rn (cq ?_))
   refine cw_cond rfl (fun an=>?_) (fun an=>?_)
   ·skip
    have aJ:i<u.length:=by have h:=of_decide_eq_true an; omega
    obtain ⟨K13,rfl⟩:∃ k2,k_=k2+1:=⟨k_-1,by omega⟩
    obtain ⟨y,ac,aK⟩:=forX_go hL
    unfold DU at ac
    refine cw_skip (cq (cw_block (cq (cr ?_))))
    refine sQ 39 (yv rfl (hf.g 37 3))<|sQ 5 yu (rn (cq (cr ?_)))
    refine sQ 40 yv<|sQ 41 yv (rn ?_)
    obtain ⟨bh,ac⟩:=chk_inv ac
    obtain ⟨z1,bj,aL⟩:=bI ac
    refine cw_block ?_
    refine cw_loop (fun k f w=>∃ (i1:Nat),FF f [(3,pt (aD b1) 0),(4,.slice B2 u.length c2),(5,vi (i:Int)),(36,vi (u.length:Int)),(37,vi (i:Int)),(40,vi (i:Int)),(41,vi (i1:Int))]∧ST w0 [] w [O1,O2] [R4,R3]∧i1+k=i∧forX (CI u i t) k i1 ()=some z1) i ⟨0,(hf.a 3 0 (hf.a 4 1 (fc rfl (hf.a 36 2 (hf.a 37 3 (fc rfl (fc rfl fn_))))))),(aI.sel [0,1] rfl rfl),Nat.zero_add _,bj⟩ ?_
    rintro K35 f w ⟨i1,o,V,bw,aM⟩
    refine cq (cr ?_)
    refine sQ 42 (zL rfl (o.g 41 6) (o.g 40 5)) (rn (cq ?_))
    refine cw_cond rfl (fun W=>?_) (fun W=>?_)
    ·skip
     have aO:i1<i:=by have h:=of_decide_eq_true W; omega
     obtain ⟨K68,rfl⟩:∃ k2,K35=k2+1:=⟨K35-1,by omega⟩
     obtain ⟨y1,H,aQ⟩:=forX_go aM
     unfold CI at H
     refine cw_skip (cq (cw_block (cq (cr ?_))))
     refine sQ 43 (yv rfl (o.g 41 6))<|sQ 6 yu (rn (cq ?_))
     obtain ⟨x,hx,H⟩:=bI H
     obtain ⟨x1,af,H⟩:=bI H
     obtain ⟨bk,bm,H⟩:=bI H
     refine ra_start (V.se [0,1]).fn (by kernel_rfl) ?_
     have aa:=V.drew
     have D:=aa.se [0,1]
     refine rq 0 44 rfl D (fun _ J=>(yv rfl (o.g 4 1)))<|rq 1 45 rfl D (fun _ J=>(yv rfl (o.g 5 2)))<|rq 2 46 rfl D (fun _ J=>(yI B2 (i:Int) K5 K2 (gi_isSome eN2 rfl (ST.c J 1) hx) (getI_nn hx) (getI_ltI hx rfl)))<|rq 3 47 rfl D (fun _ J=>(ya B2 ((i:Int).toNat*3) (u.flatMap eN0) [vi x.Phase,vi x.X,vi x.Z] K6 K2 (ST.c J 1) rfl rfl (eN2 x) (gi_seg eN2 hx)))<|rq 4 48 rfl D (fun _ J=>(yv rfl (o.g 4 1))) ?_
     refine rq 5 49 rfl D (fun _ J=>yv)<|rq 6 50 rfl D (fun _ J=>(yI B2 (i1:Int) K5 K2 (gi_isSome eN2 rfl (ST.c J 1) af) (getI_nn af) (getI_ltI af rfl)))<|rq 7 51 rfl D (fun _ J=>(ya B2 ((i1:Int).toNat*3) (u.flatMap eN0) [vi x1.Phase,vi x1.X,vi x1.Z] K6 K2 (ST.c J 1) rfl rfl (eN2 x1) (gi_seg eN2 af)))<|rq 9 53 rfl D (fun _ J=>(yv rfl (o.g 5 2)))<|rq 10 54 rfl D (fun _ J=>yv) ?_
     refine rq 11 55 rfl D (fun _ J=>zM)<|rq 12 56 rfl D (fun _ J=>(yz 0 K0 (ST.c J 0) rfl (o.g 3 0)))<|rq 13 57 rfl D (fun _ J=>zE) ?_
     refine rA [8] ?_
     refine rC 52 8 rfl (yc QP (Tb x x1 _  (aa.inn0 [] rfl) bm)) ?_ aN
     rintro _ bY ⟨rfl,bn⟩
     have Q:=aa.out00 bn
     refine ⟨(Q.se [0,1]),?_⟩
     refine rq 14 58 rfl (Q.se [0,1]) (fun _ J=>(Y_beq (p:=bk) (q:=((i64.wrap ((i:Int)-(i1:Int)))==t.Qubits)) K76 rfl rfl rfl)) ?_
     refine ra_done (by kernel_rfl) ?_
     refine cw_cond rfl (fun ao=>?_) (fun ao=>?_)
     ·skip
      have bo:=ct H ao
      refine cq (cr ?_)
      refine sQ 2 yu (rn (ct_ ?_))
      obtain rfl:=sI bo
      obtain rfl:=sI aQ
      obtain rfl:=sI aL
      obtain rfl:=sI aK
      obtain rfl:=sI aF
      exact e1 Tryz.results8 (Q.sN [])
     ·skip
      have bp:=cf' H ao
      refine cw_skip (cr ?_)
      refine sQ 59 (zP rfl (o.g 41 6))<|sQ 41 yv (rn ?_)
      obtain rfl:=sI bp
      exact ⟨K68,Nat.lt_succ_self _,i1+1,(o.a 3 0 (o.a 4 1 (o.a 5 2 (o.a 36 3 (o.a 37 4 (o.a 40 5 (fc (congrArg (Value.int .i64) (wr_succ aO bh)) fn_))))))),(Q.sel [0,1] rfl rfl),(by omega),aQ⟩
    ·skip
     obtain rfl:K35=0:=by have h:=of_decide_eq_false W; omega
     refine cw_exit rfl ?_
     obtain rfl:=sI aM
     refine cr ?_
     refine sQ 60 (zP rfl (o.g 37 4))<|sQ 37 yv (rn ?_)
     obtain rfl:=sI aL
     exact ⟨K13,Nat.lt_succ_self _,i+1,(o.a 3 0 (o.a 4 1 (o.a 36 3 (fc (congrArg (Value.int .i64) (wr_succ aJ hN)) fn_)))),(V.sel [0,1] rfl rfl),(by omega),aK⟩
   ·skip
    obtain rfl:k_=0:=by have h:=of_decide_eq_false an; omega
    refine cw_exit rfl ?_
    obtain rfl:=sI hL
    refine cq (cr ?_)
    refine sQ 2 yu (rn (ct_ ?_))
    obtain rfl:=sI aF
    exact e1 Tryz.results8 (aI.sN [])

theorem Qv (s:List Ab) (f_:Ab→Option (Bool)) (B:Option Addr) (c n:Nat) (P:Nat) (o:Array Value) (Rf:List Ro) (Q:World) (hn:s.length=n) (hk:callB Tryz.prog P=true) (hp:∀ (w:World),ST w [] w [] Rf→∀ (x:Ab) (y:Bool),f_ x=some y→CV Tryz.prog P ((.agg #[vi x.Kind,vi x.A,vi x.B])::o.toList).toArray w (fun v w'=>v=.bool y∧ST w [] w' [] [])) (hS:ST Q [] Q [] (⟨B,(s.flatMap eN1)⟩::Rf)) {r_:Int} (Z:Gi s f_=some r_) :
  CV Tryz.prog 114 #[.slice B n c,.func (.func P) #[] o] Q (fun v w'=>v=vi r_∧ST Q [] w' [] []):=by
 subst hn
 unfold Gi at Z
 refine cv_of_cw 19 Tryz.func114 rfl Tryz.ntmps114 rfl ?_
 refine cq (cr ?_)
 refine sQ 4 yu (rn (cq (cq (cr ?_))))
 refine sQ 6 yv<|sQ 7 (Y_len K15 rfl rfl)<|sQ 8 yv (rn ?_)
 obtain ⟨hN,Z⟩:=chk_inv Z
 obtain ⟨z,hz,S⟩:=bI Z
 refine cw_block ?_
 refine cw_loop (fun k f w=>∃ (i:Nat),FF f [(0,.slice B s.length c),(1,.func (.func P) #[] o),(7,vi (s.length:Int)),(8,vi (i:Int))]∧ST Q [] w [] (⟨B,(s.flatMap eN1)⟩::Rf)∧i+k=s.length∧forX (GB s f_) k i ()=some z) s.length ⟨0,(fc rfl (fc rfl (fc rfl (fc rfl fn_)))),(hS.sel [] rfl rfl),Nat.zero_add _,hz⟩ ?_
 rintro k_ f w ⟨i,D,u,ap,hL⟩
 refine cq (cr ?_)
 refine sQ 9 (zL rfl (D.g 8 3) (D.g 7 2)) (rn (cq ?_))
 refine cw_cond rfl (fun J=>?_) (fun J=>?_)
 ·skip
  have U:i<s.length:=by have h:=of_decide_eq_true J; omega
  obtain ⟨K13,rfl⟩:∃ k2,k_=k2+1:=⟨k_-1,by omega⟩
  obtain ⟨y1,hb,V⟩:=forX_go hL
  unfold GB at hb
  refine cw_skip (cq (cw_block (cq (cr ?_))))
  refine sQ 10 (yv rfl (D.g 8 3))<|sQ 5 yu (rn (cq (cr ?_)))
  refine sQ 11 (yv rfl (D.g 1 1))<|sQ 12 (yv rfl (D.g 0 0))<|sQ 13 yv ?_
  obtain ⟨H,hx,hb⟩:=bI hb
  refine sQ 14 (yI B (i:Int) K15 K8 (gi_isSome eN4 rfl (u.rf (i:=0) rfl) hx) (getI_nn hx) (getI_ltI hx rfl))<|sQ 15 (ya B ((i:Int).toNat*3) (s.flatMap eN1) [vi H.Kind,vi H.A,vi H.B] K27 K8 (u.rf (i:=0) rfl) rfl rfl (eN4 H) (gi_seg eN4 hx)) ?_
  obtain ⟨af,hc,hb⟩:=bI hb
  refine sc 16 rfl rfl (Yc_clos (g:=P) (vs:=(.agg #[vi H.Kind,vi H.A,vi H.B])::o.toList) hk rfl rfl (clo_args (mc rfl mn)) (hp _ (u.innS (fun _ h=>mOd (i:=1) h)) H af hc)) ?_
  rintro _ w_ ⟨rfl,hd⟩
  have W:=u.out00 hd
  refine rn ?_
  refine cw_cond rfl (fun O=>?_) (fun O=>?_)
  ·skip
   have ag:=ct hb O
   refine cq (cr ?_)
   refine sQ 17 yv<|sQ 4 yu (rn (ct_ ?_))
   obtain rfl:=sI ag
   obtain rfl:=sI V
   obtain rfl:=sI S
   exact e1 Tryz.results114 (W.sN [])
  ·skip
   have ah:=cf' hb O
   refine cw_skip (cr ?_)
   refine sQ 18 (zP rfl (D.g 8 3))<|sQ 8 yv (rn ?_)
   obtain rfl:=sI ah
   exact ⟨K13,Nat.lt_succ_self _,i+1,(D.a 0 0 (D.a 1 1 (D.a 7 2 (fc (congrArg (Value.int .i64) (wr_succ U hN)) fn_)))),(W.sel [] rfl rfl),(by omega),V⟩
 ·skip
  obtain rfl:k_=0:=by have h:=of_decide_eq_false J; omega
  refine cw_exit rfl ?_
  obtain rfl:=sI hL
  refine cq (cr ?_)
  refine sQ 4 yu (rn (ct_ ?_))
  obtain rfl:=sI S
  exact e1 Tryz.results114 (u.sN [])

theorem Ql (s:List Ab) (J:Ab→Option (Bool)) (B:Option Addr) (c n:Nat) (u:Nat) (o:Array Value) (Rf:List Ro) (D:World) (U:s.length=n) (hk:callB Tryz.prog u=true) (V:∀ (w:World),ST w [] w [] Rf→∀ (x:Ab) (y:Bool),J x=some y→CV Tryz.prog u ((.agg #[vi x.Kind,vi x.A,vi x.B])::o.toList).toArray w (fun v O=>v=.bool y∧ST w [] O [] [])) (Q:ST D [] D [] (⟨B,(s.flatMap eN1)⟩::Rf)) {S:Bool} (H:Gs s J=some S) :
  CV Tryz.prog 85 #[.slice B n c,.func (.func u) #[] o] D (fun v O=>v=.bool S∧ST D [] O [] []):=by
 subst U
 unfold Gs at H
 refine cv_of_cw 9 Tryz.func85 rfl Tryz.ntmps85 rfl ?_
 refine cq (cr ?_)
 refine sQ 4 yu (rn (cq (cr ?_)))
 refine sQ 5 yv<|sQ 6 yv ?_
 obtain ⟨W,hc,H⟩:=bI H
 refine sc 7 rfl rfl (yc NF (Qv s J B c s.length u o Rf _ rfl hk V (Q.innS (sk 0 (fun _ h=>mOd (i:=1) h))) hc)) ?_
 rintro _ Z ⟨rfl,hd⟩
 have P:=Q.out00 hd
 refine sQ 8 (Y_ge rfl rfl rfl)<|sQ 4 yu (rn (ct_ ?_))
 obtain rfl:=sI H
 exact e1 Tryz.results85 (P.sN [])

theorem JR (o:Int)  (u:World)  (J:ST u [] u [] []) {O:Bool} (D:Cd o=some O) :
  CV Tryz.prog 115 #[vi o] u (fun v P=>v=.bool O∧ST u [] P [] []):=by
 unfold Cd at D
 refine cv_of_cw 5 Tryz.func115 rfl Tryz.ntmps115 rfl ?_
 refine cq (cr ?_)
 refine sQ 2 yu (rn (cq (cr ?_)))
 refine sQ 3 yv ?_
 obtain ⟨Q,hc,D⟩:=bI D
 refine sc 4 rfl rfl (yc K49 (AW o 9 11 _  (J.inn0 [] rfl) hc)) ?_
 rintro _ S ⟨rfl,hd⟩
 have H:=J.out00 hd
 refine sQ 2 yu (rn (ct_ ?_))
 obtain rfl:=sI D
 exact e1 Tryz.results115 (H.sN [])

theorem MC (n:Int) (g:Ab)  (w0:World)  (hS:ST w0 [] w0 [] []) {r_:Bool} (S:Cq n g=some r_) :
  CV Tryz.prog 87 #[vi n,.agg #[vi g.Kind,vi g.A,vi g.B]] w0 (fun v w'=>v=.bool r_∧ST w0 [] w' [] []):=by
 unfold Cq at S
 refine cv_of_cw 60 Tryz.func87 rfl Tryz.ntmps87 rfl ?_
 refine cq (cr ?_)
 refine sS 3 (yV [vi g.Kind,vi g.A,vi g.B] 3 hS) ?_
 rintro _ w_ ⟨b,rfl,aa⟩
 refine sQ 4 yu (rn (cq (cw_block (cq (cr ?_)))))
 refine sQ 6 yv ?_
 obtain ⟨aR,hc,S⟩:=bI S
 refine sc 7 rfl rfl (yc K49 (AW n 1 5 _  (aa.inn0 [] rfl) hc)) ?_
 rintro _ aT ⟨rfl,hd⟩
 have D:=aa.out00 hd
 refine sQ 8 yn<|sQ 9 yv ?_
 refine sgq 10 rfl rfl (uF_ 9) (fun hg=>(yd (aD b) 0 0 K42 K1)) ?_
 refine sgq 11 rfl rfl (uF_ 9) (fun al=>(yz 0 K0 (D.c 0) rfl (gv_of al))) ?_
 obtain ⟨am,an,S⟩:=bI S
 refine sgc 12 (v:=.bool am) (F:=D.fn) rfl rfl (uF_ 9) D (fun ab=>(yc K49 (CV.mono (AW g.Kind 1 12 _  (D.inn0 [] rfl) (gb_inv an ab)) (by rintro _ _ ⟨rfl,h⟩; exact ⟨rfl,D.out00 h⟩)) rfl (mc (gv_of ab) (mc rfl (mc rfl mn))))) ?_
 rintro aU o
 refine sgq 13 rfl rfl (uF_ 9) (fun ao=>(yn rfl (gv_of ao))) ?_
 refine sQ 14 yO<|sQ 5 yu (rn ?_)
 refine cw_cond rfl (fun hb=>?_) (fun hb=>?_)
 ·skip
  have ap:=ct S hb
  refine cq (cr ?_)
  refine sQ 4 yu (rn (ct_ ?_))
  obtain rfl:=sI ap
  exact e1 Tryz.results87 (o.sN [])
 ·skip
  have ac:=cf' S hb
  refine cq (cr ?_)
  refine sQ 16 (yd (aD b) 0 0 K42 K1)<|sQ 17 (yz 0 K0 (o.c 0))<|sQ 18 zE<|sQ 15 yu (rn ?_)
  refine cw_cond rfl (fun U=>?_) (fun U=>?_)
  ·skip
   have aq:=ct ac U
   refine cq (cr ?_)
   refine sQ 19 (yd (aD b) 0 0 K24 K1)<|sQ 20 (yz 1 K0 (o.c 0))<|sQ 21 zE<|sQ 22 yv ?_
   refine sgq 23 rfl rfl (uT_ 22) (fun aV=>(yd (aD b) 0 0 K38 K1)) ?_
   refine sgq 24 rfl rfl (uT_ 22) (fun ar=>(yz 2 K0 (o.c 0) rfl (gv_of ar))) ?_
   refine sgq 25 rfl rfl (uT_ 22) (fun au=>(zE rfl (gv_of au))) ?_
   refine sQ 26 yA<|sQ 4 yu (rn (ct_ ?_))
   obtain rfl:=sI aq
   exact e1 Tryz.results87 (o.sN [])
  ·skip
   have P:=cf' ac U
   refine cq (cr ?_)
   refine sQ 28 (yd (aD b) 0 0 K42 K1)<|sQ 29 (yz 0 K0 (o.c 0)) ?_
   obtain ⟨aY,av,P⟩:=bI P
   refine sc 30 rfl rfl (yc MI (JR g.Kind _  (o.inn0 [] rfl) av)) ?_
   rintro _ a0 ⟨rfl,aw⟩
   have u:=o.out00 aw
   refine sQ 27 yu (rn ?_)
   refine cw_cond rfl (fun V=>?_) (fun V=>?_)
   ·skip
    have H:=ct P V
    refine cq (cr ?_)
    refine sQ 31 (yd (aD b) 0 0 K24 K1)<|sQ 32 (yz 1 K0 (u.c 0))<|sQ 33 yv<|sQ 34 zM ?_
    obtain ⟨a1,ay,H⟩:=bI H
    refine sc 35 rfl rfl (yc K49 (AW g.A 0 (i64.wrap (n-1)) _  (u.inn0 [] rfl) ay)) ?_
    rintro _ a2 ⟨rfl,aA⟩
    have J:=u.out00 aA
    refine sQ 36 yv ?_
    refine sgq 37 rfl rfl (uT_ 36) (fun a3=>(yd (aD b) 0 0 K38 K1)) ?_
    refine sgq 38 rfl rfl (uT_ 36) (fun aB=>(yz 2 K0 (J.c 0) rfl (gv_of aB))) ?_
    refine sgq 39 rfl rfl (uT_ 36) (fun a5=>yv) ?_
    refine sgq 40 rfl rfl (uT_ 36) (fun ae=>(zM rfl (gv_of ae))) ?_
    obtain ⟨aE,aF,H⟩:=bI H
    refine sgc 41 (v:=.bool aE) (F:=J.fn) rfl rfl (uT_ 36) J (fun O=>(yc K49 (CV.mono (AW g.B 0 (i64.wrap (n-1)) _  (J.inn0 [] rfl) (gb_inv aF O)) (by rintro _ _ ⟨rfl,h⟩; exact ⟨rfl,J.out00 h⟩)) rfl (mc (gv_of O) (mc rfl (mc (gv_of O) mn))))) ?_
    rintro a6 W
    refine sQ 42 yA<|sQ 43 yv ?_
    refine sgq 44 rfl rfl (uT_ 43) (fun aK=>(yd (aD b) 0 0 K24 K1)) ?_
    refine sgq 45 rfl rfl (uT_ 43) (fun af=>(yz 1 K0 (W.c 0) rfl (gv_of af))) ?_
    refine sgq 46 rfl rfl (uT_ 43) (fun aL=>(yd (aD b) 0 0 K38 K1)) ?_
    refine sgq 47 rfl rfl (uT_ 43) (fun ag=>(yz 2 K0 (W.c 0) rfl (gv_of ag))) ?_
    refine sgq 48 rfl rfl (uT_ 43) (fun Q=>(Y_ne rfl (gv_of Q) (gv_of Q))) ?_
    refine sQ 49 yA<|sQ 4 yu (rn (ct_ ?_))
    obtain rfl:=sI H
    exact e1 Tryz.results87 (W.sN [])
   ·skip
    have Z:=cf' P V
    refine cw_skip (cq (cr ?_))
    refine sQ 50 (yd (aD b) 0 0 K24 K1)<|sQ 51 (yz 1 K0 (u.c 0))<|sQ 52 yv<|sQ 53 zM ?_
    obtain ⟨a7,aG,Z⟩:=bI Z
    refine sc 54 rfl rfl (yc K49 (AW g.A 0 (i64.wrap (n-1)) _  (u.inn0 [] rfl) aG)) ?_
    rintro _ a8 ⟨rfl,aI⟩
    have ah:=u.out00 aI
    refine sQ 55 yv ?_
    refine sgq 56 rfl rfl (uT_ 55) (fun aM=>(yd (aD b) 0 0 K38 K1)) ?_
    refine sgq 57 rfl rfl (uT_ 55) (fun ai=>(yz 2 K0 (ah.c 0) rfl (gv_of ai))) ?_
    refine sgq 58 rfl rfl (uT_ 55) (fun aj=>(zE rfl (gv_of aj))) ?_
    refine sQ 59 yA<|sQ 4 yu (rn (ct_ ?_))
    obtain rfl:=sI Z
    exact e1 Tryz.results87 (ah.sN [])

theorem TM (g:Ab) (p:Aj) (B:Option Addr) (J:Option Addr) (c n:Nat) (u:World) (P:p.Gates.length=n) (Q:ST u [] u [] [⟨B,[vi p.Qubits,.slice J n c]⟩,⟨J,(p.Gates.flatMap eN1)⟩]) {O:Bool} (D:DR g p=some O) :
  CV Tryz.prog 86 #[.agg #[vi g.Kind,vi g.A,vi g.B],pt B 0] u (fun v S=>v=.bool O∧ST u [] S [] []):=by
 subst P
 unfold DR at D
 refine cv_of_cw 9 Tryz.func86 rfl Tryz.ntmps86 rfl ?_
 refine cq (cr ?_)
 refine sS 2 (yV [vi g.Kind,vi g.A,vi g.B] 3 Q) ?_
 rintro _ W ⟨b,rfl,o⟩
 refine sQ 3 yu (rn (cq (cr ?_)))
 refine sQ 4 (yd B 0 0 K44 K1)<|sQ 5 (yz 0 K0 (o.rf (i:=0) rfl))<|sQ 6 (yw 0 K27 K8 (o.c 0)) ?_
 obtain ⟨U,hc,D⟩:=bI D
 refine sc 7 rfl rfl (yc MG (MC p.Qubits g _  (o.inn0 [] rfl) hc)) ?_
 rintro _ V ⟨rfl,hd⟩
 have H:=o.out00 hd
 refine sQ 8 yn<|sQ 3 yu (rn (ct_ ?_))
 obtain rfl:=sI D
 exact e1 Tryz.results86 (H.sN [])

theorem IC (c:Aj) (B:Option Addr) (O n:Nat) (P:World) (hn:c.Gates.length=n) (hS:ST P [] P [] [⟨B,(c.Gates.flatMap eN1)⟩]) {r_:Bool} (J:C0 c=some r_) :
  CV Tryz.prog 57 #[.agg #[vi c.Qubits,.slice B n O]] P (fun v w'=>v=.bool r_∧ST P [] w' [] []):=by
 subst hn
 unfold C0 at J
 refine cv_of_cw 19 Tryz.func57 rfl Tryz.ntmps57 rfl ?_
 refine cq (cr ?_)
 refine sS 1 (yV [vi c.Qubits,.slice B c.Gates.length O] 2 hS) ?_
 rintro _ w_ ⟨b,rfl,u⟩
 refine sQ 2 yu (rn (cq (cr ?_)))
 refine sQ 3 (yd (aD b) 0 0 K44 K1)<|sQ 4 (yz 0 K0 (u.c 0)) ?_
 obtain ⟨ah,hc,J⟩:=bI J
 refine sc 5 rfl rfl (yc K49 (AW c.Qubits 1 5 _  (u.inn0 [] rfl) hc)) ?_
 rintro _ ai ⟨rfl,hd⟩
 have o:=u.out00 hd
 refine sQ 6 yv ?_
 refine sgq 7 rfl rfl (uT_ 6) (fun hg=>(yd (aD b) 0 0 K40 K23)) ?_
 refine sgq 8 rfl rfl (uT_ 6) (fun Q=>(yz 1 K29 (o.c 0) rfl (gv_of Q))) ?_
 refine sgq 9 rfl rfl (uT_ 6) (fun S=>(Y_len K15 rfl (gv_of S))) ?_
 refine sgq 10 rfl rfl (uT_ 6) (fun U=>(Y_le rfl (gv_of U) rfl)) ?_
 refine sQ 11 yA<|sQ 12 yv ?_
 refine sgq 13 rfl rfl (uT_ 12) (fun aj=>(yd (aD b) 0 0 K40 K23)) ?_
 refine sgq 14 rfl rfl (uT_ 12) (fun V=>(yz 1 K29 (o.c 0) rfl (gv_of V))) ?_
 refine sgq 15 rfl rfl (uT_ 12) (fun ak=>(Y_makeFunc (cs:=[pt (aD b) 0]) rfl rfl (mc rfl mn))) ?_
 obtain ⟨W,Z,J⟩:=bI J
 refine sgc 16 (v:=.bool W) (F:=o.fn) rfl rfl (uT_ 12) o (fun D=>(yc Tz (CV.mono (Ql c.Gates (fun H=>DR H c) B O c.Gates.length 86 (#[pt (aD b) 0]) [⟨aD b,[vi c.Qubits,.slice B c.Gates.length O]⟩,⟨B,(c.Gates.flatMap eN1)⟩] _ rfl SE (fun w hw H am h_=>TM H c (aD b) B O c.Gates.length w rfl hw h_) (o.inn0 [(true,0),(false,0),(true,0)] rfl) (gb_inv Z D)) (by rintro _ _ ⟨rfl,h⟩; exact ⟨rfl,o.out00 h⟩)) rfl (mc (gv_of D) (mc (gv_of D) mn)))) ?_
 rintro ao aa
 refine sgq 17 rfl rfl (uT_ 12) (fun ab=>(yn rfl (gv_of ab))) ?_
 refine sQ 18 yA<|sQ 2 yu (rn (ct_ ?_))
 obtain rfl:=sI J
 exact e1 Tryz.results57 (aa.sN [])

theorem M9 (n:Int) (o:List Ab) (B:Option Addr) (c n1:Nat) (V:World) (hn:o.length=n1) (hS:ST V [] V [] [⟨B,(o.flatMap eN1)⟩]) {W:Aj} {J:Bool} (u:CB n o=some (W,J)) :
  CV Tryz.prog 23 #[vi n,.slice B n1 c] V (fun v w'=>∃ (B1:Option Addr) (c1:Nat),v=.tuple #[.agg #[vi W.Qubits,.slice B1 W.Gates.length c1],.bool J]∧ST V [] w' [⟨B1,57,(W.Gates.flatMap eN1),c1*3⟩] []):=by
 subst hn
 unfold CB at u
 refine cv_of_cw 17 Tryz.func23 rfl Tryz.ntmps23 rfl ?_
 refine cq (cr ?_)
 let O:List Value:=[vi 0,.slice none 0 0]
 refine sS 4 (yN O 2 hS K34) ?_
 rintro _ w_ ⟨b,rfl,ab⟩
 refine sQ 5 yu (rn (cq (cr ?_)))
 refine sQ 7 yv ?_
 refine sS 8 (Ys_bslice0 (s:=3) (e:=57) ab K15 K8 rfl) ?_
 rintro _ ao ⟨b1,rfl,P⟩
 refine sQ 9 yv ?_
 obtain ⟨Q,u⟩:=chk_inv u
 refine sS 10 (Ys_append (s:=3) (by':=24) (i:=1) (nn:=0) (c:=0) (k:=o.length) (len:=o.length) (B:=aD b1) (xs:=(o.flatMap eN1)) (cs':=(o.flatMap eN1)) P K15 K8 K59 K28 rfl (by decide) rfl rfl rfl rfl (fm_lenn (l:=[]) eN4 rfl) rfl (P.rf (i:=0) rfl) (fm_lenn (l:=o) eN4 rfl) (fm_one' (enc:=eN1) BK o) (by have:=Q; omega) (by have:=Q; simp only [maxLen]; omega) rfl (app_len0 (l:=o) rfl)) ?_
 rintro _ aq ⟨Z,c2,rfl,ac⟩
 refine sQ 11 (Y_buildS (zs:=O) (vs:=[(0,vi n),(1,.slice Z o.length c2)]) (cs:=[vi n,.slice Z o.length c2]) K72 K34 rfl (mpc rfl (mpc rfl mpn)) rfl) ?_
 refine sS 6 (yN O 2 ac K34) ?_
 rintro _ ar ⟨b2,rfl,ae⟩
 refine s0 (yK 2 2 0 ae K9) ?_
 rintro _ au ⟨rfl,D⟩
 refine rn (cq (cq (cr ?_)))
 refine sQ 12 (yw 0 K17 K9 (D.c 2)) ?_
 obtain ⟨av,hc,u⟩:=bI u
 refine sc 13 rfl rfl (yc JE (IC (Aj.mk n o) Z c2 o.length _ rfl (D.inn0 [(false,1)] rfl) hc)) ?_
 rintro _ aw ⟨rfl,hd⟩
 have H:=D.out00 hd
 refine sQ 14 yn (rn ?_)
 refine cw_cond rfl (fun hb=>?_) (fun hb=>?_)
 ·skip
  have af:=ct u hb
  refine cq (cr ?_)
  refine sQ 15 (Y_buildS (zs:=O) (vs:=[]) (cs:=O) K72 K34 rfl mpn rfl) ?_
  refine s0 (yK 0 2 0 H K9) ?_
  rintro _ ay ⟨rfl,ag⟩
  refine sQ 5 yu (rn (ct_ ?_))
  have S:=ag.addNil 57
  obtain ⟨rfl,rfl⟩:=pr2 (sI af)
  exact ret2 Tryz.results23 (rX K17 K9 (S.c 0)) rT ⟨none,0,rfl,(S.sN [3])⟩
 ·skip
  have ah:=cf' u hb
  refine cw_skip (cq (cr ?_))
  refine sQ 16 (yw 0 K17 K9 (H.c 2)) ?_
  refine s0 (yK 0 2 0 H K9) ?_
  rintro _ aA ⟨rfl,U⟩
  refine sQ 5 yu (rn (ct_ ?_))
  obtain ⟨rfl,rfl⟩:=pr2 (sI ah)
  exact ret2 Tryz.results23 (rX K17 K9 (U.c 0)) rT ⟨Z,c2,rfl,(U.sN [1])⟩

theorem EZ (p:Aa) (q:Int)  (P:World)  (U:ST P [] P [] []) {S:Int} (D:Bs p q=some S) :
  CV Tryz.prog 54 #[.agg #[vi p.Phase,vi p.X,vi p.Z],vi q] P (fun v V=>v=.int .u8 S∧ST P [] V [] []):=by
 unfold Bs at D
 refine cv_of_cw 18 Tryz.func54 rfl Tryz.ntmps54 rfl ?_
 refine cq (cr ?_)
 refine sS 2 (yV [vi p.Phase,vi p.X,vi p.Z] 3 U) ?_
 rintro _ w_ ⟨b,rfl,H⟩
 refine sQ 4 yu (rn (cq ?_))
 obtain ⟨Q,D⟩:=chk_inv D
 obtain ⟨J,D⟩:=chk_inv D
 obtain ⟨x,W,D⟩:=bI D
 refine ra_start (H.se [0]).fn (by kernel_rfl) ?_
 have O:=H.drew
 have o:=O.se [0]
 refine rq 0 5 rfl o (fun _ u=>(yd (aD b) 0 0 K47 K1))<|rq 1 6 rfl o (fun _ u=>(yz 1 K0 (ST.c u 0)))<|rq 2 7 rfl o (fun _ u=>yv)<|rq 3 8 rfl o (fun _ u=>(Y_shr (k:=.i64) (a:=p.X) (k':=.i64) (b:=q) rfl rfl rfl Q))<|rq 4 9 rfl o (fun _ u=>(Y_band (k:=.i64) (a:=(shrK .i64 p.X q)) (b:=1) rfl rfl rfl)) ?_
 refine rq 5 10 rfl o (fun _ u=>(yd (aD b) 0 0 K48 K1))<|rq 6 11 rfl o (fun _ u=>(yz 2 K0 (ST.c u 0)))<|rq 7 12 rfl o (fun _ u=>yv)<|rq 8 13 rfl o (fun _ u=>(Y_shr (k:=.i64) (a:=p.Z) (k':=.i64) (b:=q) rfl rfl rfl J))<|rq 9 14 rfl o (fun _ u=>(Y_band (k:=.i64) (a:=(shrK .i64 p.Z q)) (b:=1) rfl rfl rfl)) ?_
 refine rq 10 15 rfl o (fun _ u=>zX)<|rq 11 16 rfl o (fun _ u=>zP)<|rq 12 17 rfl o (fun _ u=>(Y_sidx (a:=([73,88,90,89]:List UInt8)) (k:=.i64) (i:=(i64.wrap ((bits .and .i64 (shrK .i64 p.X q) 1)+(i64.wrap (2*(bits .and .i64 (shrK .i64 p.Z q) 1)))))) (b:=x) Su rfl rfl rfl W))<|rq 13 4 rfl o (fun _ u=>yu) ?_
 refine ra_done (by kernel_rfl) ?_
 refine ct_ ?_
 obtain rfl:=sI D
 exact e1 Tryz.results54 (O.sN [])

theorem Ls (a:Aa) (b:Aa)  (w0:World)  (hS:ST w0 [] w0 [] []) {r_:Aa} (U:Bl a b=some r_) :
  CV Tryz.prog 113 #[.agg #[vi a.Phase,vi a.X,vi a.Z],.agg #[vi b.Phase,vi b.X,vi b.Z]] w0 (fun v w'=>v=.agg #[vi r_.Phase,vi r_.X,vi r_.Z]∧ST w0 [] w' [] []):=by
 unfold Bl at U
 refine cv_of_cw 61 Tryz.func113 rfl Tryz.ntmps113 rfl ?_
 refine cq (cr ?_)
 refine sS 2 (yV [vi a.Phase,vi a.X,vi a.Z] 3 hS) ?_
 rintro _ w_ ⟨b1,rfl,ak⟩
 refine sS 3 (yV [vi b.Phase,vi b.X,vi b.Z] 3 ak) ?_
 rintro _ aw ⟨b2,rfl,al⟩
 refine sS 4 (yN [vi 0,vi 0,vi 0] 3 al K14) ?_
 rintro _ ay ⟨b3,rfl,ag⟩
 refine rn (cq ?_)
 refine ra_start (ag.se [0,1,2]).fn (by kernel_rfl) ?_
 have ah:=ag.drew
 have u:=ah.se [0,1,2]
 refine rq 0 8 rfl u (fun _ q=>(yd (aD b1) 0 0 K47 K1))<|rq 1 9 rfl u (fun _ q=>(yz 1 K0 (ST.c q 0)))<|rq 2 10 rfl u (fun _ q=>(yd (aD b2) 0 0 K47 K1))<|rq 3 11 rfl u (fun _ q=>(yz 1 K0 (ST.c q 1)))<|rq 4 12 rfl u (fun _ q=>(Y_bxor (k:=.i64) (a:=a.X) (b:=b.X) rfl rfl rfl)) ?_
 refine rq 5 13 rfl u (fun _ q=>(yd (aD b1) 0 0 K48 K1))<|rq 6 14 rfl u (fun _ q=>(yz 2 K0 (ST.c q 0)))<|rq 7 15 rfl u (fun _ q=>(yd (aD b2) 0 0 K48 K1))<|rq 8 16 rfl u (fun _ q=>(yz 2 K0 (ST.c q 1)))<|rq 9 17 rfl u (fun _ q=>(Y_bxor (k:=.i64) (a:=a.Z) (b:=b.Z) rfl rfl rfl)) ?_
 refine rq 10 5 rfl u (fun _ q=>yu)<|rq 11 6 rfl u (fun _ q=>yu) ?_
 refine ra_done (by kernel_rfl) ?_
 refine cq ?_
 obtain ⟨D,hc,U⟩:=bI U
 obtain ⟨H,am,U⟩:=bI U
 obtain ⟨J,an,U⟩:=bI U
 obtain ⟨Q,ao,U⟩:=bI U
 refine ra_start u.fn (by kernel_rfl) ?_
 have aa:=ah.drew
 have o:=aa.se [0,1,2]
 refine rq 0 18 rfl o (fun _ q=>(yd (aD b1) 0 0 K30 K1))<|rq 1 19 rfl o (fun _ q=>(yz 0 K0 (ST.c q 0)))<|rq 2 20 rfl o (fun _ q=>(yd (aD b2) 0 0 K30 K1))<|rq 3 21 rfl o (fun _ q=>(yz 0 K0 (ST.c q 1)))<|rq 4 22 rfl o (fun _ q=>zP) ?_
 refine rq 5 23 rfl o (fun _ q=>(yd (aD b1) 0 0 K47 K1))<|rq 6 24 rfl o (fun _ q=>(yz 1 K0 (ST.c q 0)))<|rq 7 25 rfl o (fun _ q=>(yd (aD b1) 0 0 K48 K1))<|rq 8 26 rfl o (fun _ q=>(yz 2 K0 (ST.c q 0)))<|rq 9 27 rfl o (fun _ q=>(Y_band (k:=.i64) (a:=a.X) (b:=a.Z) rfl rfl rfl)) ?_
 refine rq 10 28 rfl o (fun _ q=>(Y_conv (k:=.i64) (a:=(bits .and .i64 a.X a.Z)) (T:=3) (T':=103) K41 K43 rfl rfl))<|rq 13 31 rfl o (fun _ q=>(yd (aD b2) 0 0 K47 K1))<|rq 14 32 rfl o (fun _ q=>(yz 1 K0 (ST.c q 1)))<|rq 15 33 rfl o (fun _ q=>(yd (aD b2) 0 0 K48 K1))<|rq 16 34 rfl o (fun _ q=>(yz 2 K0 (ST.c q 1))) ?_
 refine rq 17 35 rfl o (fun _ q=>(Y_band (k:=.i64) (a:=b.X) (b:=b.Z) rfl rfl rfl))<|rq 18 36 rfl o (fun _ q=>(Y_conv (k:=.i64) (a:=(bits .and .i64 b.X b.Z)) (T:=3) (T':=103) K41 K43 rfl rfl))<|rq 21 39 rfl o (fun _ q=>(yd (aD b1) 0 0 K48 K1))<|rq 22 40 rfl o (fun _ q=>(yz 2 K0 (ST.c q 0)))<|rq 23 41 rfl o (fun _ q=>(yd (aD b2) 0 0 K47 K1)) ?_
 refine rq 24 42 rfl o (fun _ q=>(yz 1 K0 (ST.c q 1)))<|rq 25 43 rfl o (fun _ q=>(Y_band (k:=.i64) (a:=a.Z) (b:=b.X) rfl rfl rfl))<|rq 26 44 rfl o (fun _ q=>(Y_conv (k:=.i64) (a:=(bits .and .i64 a.Z b.X)) (T:=3) (T':=103) K41 K43 rfl rfl))<|rq 30 48 rfl o (fun _ q=>yv)<|rq 31 49 rfl o (fun _ q=>yv) ?_
 refine rq 32 50 rfl o (fun _ q=>(Y_band (k:=.i64) (a:=(bits .xor .i64 a.X b.X)) (b:=(bits .xor .i64 a.Z b.Z)) rfl rfl rfl))<|rq 33 51 rfl o (fun _ q=>(Y_conv (k:=.i64) (a:=(bits .and .i64 (bits .xor .i64 a.X b.X) (bits .xor .i64 a.Z b.Z))) (T:=3) (T':=103) K41 K43 rfl rfl)) ?_
 refine rA [11] ?_
 refine rC 29 11 rfl (yc K81 (Ek (IntKind.u64.wrap (bits .and .i64 a.X a.Z)) _  (aa.inn0 [] rfl) hc)) ?_ aN
 rintro _ aA ⟨rfl,hd⟩
 have O:=aa.out00 hd
 refine ⟨(O.se [0,1,2]),?_⟩
 refine rq 12 30 rfl (O.se [0,1,2]) (fun _ q=>zP) ?_
 refine rA [19] ?_
 refine rC 37 19 rfl (yc K81 (Ek (IntKind.u64.wrap (bits .and .i64 b.X b.Z)) _  (O.inn0 [] rfl) am)) ?_ aN
 rintro _ aB ⟨rfl,ap⟩
 have P:=O.out00 ap
 refine ⟨(P.se [0,1,2]),?_⟩
 refine rq 20 38 rfl (P.se [0,1,2]) (fun _ q=>zP) ?_
 refine rA [27] ?_
 refine rC 45 27 rfl (yc K81 (Ek (IntKind.u64.wrap (bits .and .i64 a.Z b.X)) _  (P.inn0 [] rfl) an)) ?_ aN
 rintro _ aE ⟨rfl,aq⟩
 have S:=P.out00 aq
 have ab:=S.se [0,1,2]
 refine ⟨ab,?_⟩
 refine rq 28 46 rfl ab (fun _ q=>zX) ?_
 refine ra_q 29 47 (v:=vi (i64.wrap ((i64.wrap ((i64.wrap ((i64.wrap (a.Phase+b.Phase))+D))+H))+(i64.wrap (2*J))))) rfl rfl rfl (by kernel_rfl) (by kernel_rfl) (by kernel_rfl) ab (fun _ q=>zP) ?_
 refine rA [34] ?_
 refine rC 52 34 rfl (yc K81 (Ek (IntKind.u64.wrap (bits .and .i64 (bits .xor .i64 a.X b.X) (bits .xor .i64 a.Z b.Z))) _  (S.inn0 [] rfl) ao)) ?_ aN
 rintro _ aF ⟨rfl,ar⟩
 have V:=S.out00 ar
 have ac:=V.se [0,1,2]
 refine ⟨ac,?_⟩
 refine ra_q 35 53 (v:=vi (i64.wrap ((i64.wrap ((i64.wrap ((i64.wrap ((i64.wrap (a.Phase+b.Phase))+D))+H))+(i64.wrap (2*J))))-Q))) rfl rfl rfl (by kernel_rfl) (by kernel_rfl) (by kernel_rfl) ac (fun _ q=>zM) ?_
 refine ra_q 36 7 (v:=vi (i64.wrap ((i64.wrap ((i64.wrap ((i64.wrap ((i64.wrap (a.Phase+b.Phase))+D))+H))+(i64.wrap (2*J))))-Q))) rfl rfl rfl (by kernel_rfl) (by kernel_rfl) (by kernel_rfl) ac (fun _ q=>yu) ?_
 refine ra_done (by kernel_rfl) ?_
 refine cq (cr ?_)
 refine sQ 54 yv<|sQ 55 (Y_rem (k:=.i64) (a:=(i64.wrap ((i64.wrap ((i64.wrap ((i64.wrap ((i64.wrap (a.Phase+b.Phase))+D))+H))+(i64.wrap (2*J))))-Q))) (b:=4) rfl rfl rfl (by decide))<|sQ 56 zP<|sQ 57 (Y_rem (k:=.i64) (a:=(i64.wrap ((Int.tmod (i64.wrap ((i64.wrap ((i64.wrap ((i64.wrap ((i64.wrap (a.Phase+b.Phase))+D))+H))+(i64.wrap (2*J))))-Q)) 4)+4))) (b:=4) rfl rfl rfl (by decide))<|sQ 58 yv<|sQ 59 yv ?_
 refine sQ 60 (Y_buildS (zs:=[vi 0,vi 0,vi 0]) (vs:=[(0,vi (Int.tmod (i64.wrap ((Int.tmod (i64.wrap ((i64.wrap ((i64.wrap ((i64.wrap ((i64.wrap (a.Phase+b.Phase))+D))+H))+(i64.wrap (2*J))))-Q)) 4)+4)) 4)),(1,vi (bits .xor .i64 a.X b.X)),(2,vi (bits .xor .i64 a.Z b.Z))]) (cs:=[vi (Int.tmod (i64.wrap ((Int.tmod (i64.wrap ((i64.wrap ((i64.wrap ((i64.wrap ((i64.wrap (a.Phase+b.Phase))+D))+H))+(i64.wrap (2*J))))-Q)) 4)+4)) 4),vi (bits .xor .i64 a.X b.X),vi (bits .xor .i64 a.Z b.Z)]) K36 K14 rfl (mpc rfl (mpc rfl (mpc rfl mpn))) rfl) ?_
 refine s0 (yK 2 3 0 V K2) ?_
 rintro _ aG ⟨rfl,W⟩
 refine rn (ct_ ?_)
 obtain rfl:=sI U
 exact ret1 Tryz.results113 (rX K6 K2 (W.c 2)) ⟨rfl,(W.sN [])⟩

theorem Mr (t:Ae) (p:Aa) (B:Option Addr) (c n:Nat) (B1:Option Addr) (c1 n1:Nat) (w0:World) (hn:t.XImages.length=n) (a2:t.ZImages.length=n1) (hS:ST w0 [] w0 [] [⟨B,(t.XImages.flatMap eN0)⟩,⟨B1,(t.ZImages.flatMap eN0)⟩]) {r_:Aa} (hF:BY t p=some r_) :
  CV Tryz.prog 81 #[.agg #[vi t.Qubits,.slice B n c,.slice B1 n1 c1],.agg #[vi p.Phase,vi p.X,vi p.Z]] w0 (fun v w'=>v=.agg #[vi r_.Phase,vi r_.X,vi r_.Z]∧ST w0 [] w' [] []):=by
 subst hn
 subst a2
 unfold BY at hF
 refine cv_of_cw 52 Tryz.func81 rfl Tryz.ntmps81 rfl ?_
 refine cq (cr ?_)
 let V5:List Value:=[vi t.Qubits,.slice B t.XImages.length c,.slice B1 t.ZImages.length c1]
 refine sS 2 (yV V5 3 hS) ?_
 rintro _ w_ ⟨b,rfl,a3⟩
 refine sS 3 (yV [vi p.Phase,vi p.X,vi p.Z] 3 a3) ?_
 rintro _ bE ⟨b1,rfl,a5⟩
 refine sS 4 (yN [vi 0,vi 0,vi 0] 3 a5 K14) ?_
 rintro _ bF ⟨b2,rfl,aB⟩
 refine rn (cq ?_)
 obtain ⟨P,hc,hF⟩:=bI hF
 refine ra_start (aB.se [0,1,2]).fn (by kernel_rfl) ?_
 have aE:=aB.drew
 have O:=aE.se [0,1,2]
 refine rq 0 7 rfl O (fun _ q=>(yd (aD b1) 0 0 K30 K1))<|rq 1 8 rfl O (fun _ q=>(yz 0 K0 (ST.c q 1)))<|rq 2 9 rfl O (fun _ q=>(yd (aD b1) 0 0 K47 K1))<|rq 3 10 rfl O (fun _ q=>(yz 1 K0 (ST.c q 1)))<|rq 4 11 rfl O (fun _ q=>(yd (aD b1) 0 0 K48 K1)) ?_
 refine rq 5 12 rfl O (fun _ q=>(yz 2 K0 (ST.c q 1)))<|rq 6 13 rfl O (fun _ q=>(Y_band (k:=.i64) (a:=p.X) (b:=p.Z) rfl rfl rfl))<|rq 7 14 rfl O (fun _ q=>(Y_conv (k:=.i64) (a:=(bits .and .i64 p.X p.Z)) (T:=3) (T':=103) K41 K43 rfl rfl)) ?_
 let O0:Ob:=⟨aD b,25,V5,3⟩
 let O1:Ob:=⟨aD b1,64,[vi p.Phase,vi p.X,vi p.Z],3⟩
 let O2:Ob:=⟨aD b2,64,[vi 0,vi 0,vi 0],3⟩
 refine rf_in (k:=5) (ts:=[]) (L:=[O0,O1,O2]) (G:=[]) [fN 12 5 64 [vi 0,vi 0,vi 0] 3] aE (flc rfl rfl rfl (fun _ _ _ _ bH h _=>(yN [vi 0,vi 0,vi 0] 3 h K14)) fln) (fun hJ=>?_)
 refine rf_all [8] hJ (fun Z w h=>(ST.sel (ST.noF h) [0,1,2] rfl rfl)) (fun Z bJ hz aJ=>?_)
 refine rC 15 8 rfl (yc K81 (Ek (IntKind.u64.wrap (bits .and .i64 p.X p.Z)) _  (aJ.inn0 [] rfl) hc)) ?_ aN
 rintro _ bL ⟨rfl,hd⟩
 have a6:=aJ.out00 hd
 refine rf_k (L:=[O0,O1,O2]) hz a6 (fun Z w h=>(ST.sel (ST.noF h) [0,1,2] rfl rfl)) ?_
 refine rf_q 9 16 (v:=vi (i64.wrap (p.Phase+P))) rfl (fun Z w h=>(ST.sel (ST.noF h) [0,1,2] rfl rfl)) (fun Z _ q=>zP) ?_
 refine rf_q 10 17 (v:=vi (Int.tmod (i64.wrap (p.Phase+P)) 4)) rfl (fun Z w h=>(ST.sel (ST.noF h) [0,1,2] rfl rfl)) (fun Z _ q=>(Y_rem (k:=.i64) (a:=(i64.wrap (p.Phase+P))) (b:=4) rfl rfl rfl (by decide))) ?_
 refine rf_q 11 18 (v:=.agg #[vi (Int.tmod (i64.wrap (p.Phase+P)) 4),vi 0,vi 0]) rfl (fun Z w h=>(ST.sel (ST.noF h) [0,1,2] rfl rfl)) (fun Z _ q=>(Y_buildS (zs:=[vi 0,vi 0,vi 0]) (vs:=[(0,vi (Int.tmod (i64.wrap (p.Phase+P)) 4))]) (cs:=[vi (Int.tmod (i64.wrap (p.Phase+P)) 4),vi 0,vi 0]) K36 K14 rfl (mpc rfl mpn) rfl)) ?_
 refine rf_force hJ (fun Z w h=>(ST.sel (ST.noF h) [0,1,2] rfl rfl)) (fun b3=>?_)
 refine rf_out (fun bM a7=>?_)
 refine rA [13] ?_
 refine rZ 13 rfl (yK 3 3 0 a7 K2) ?_ aN
 rintro _ bN ⟨rfl,ao⟩
 refine ⟨(ao.se [0,1,2]),?_⟩
 refine ra_done (by kernel_rfl) ?_
 refine cq (cq (cr ?_))
 refine sQ 19 (yd (aD b) 0 0 K22 K1)<|sQ 20 (yz 0 K0 (ao.c 0))<|sQ 21 yv (rn ?_)
 obtain ⟨hN,hF⟩:=chk_inv hF
 obtain ⟨z,a8,a9⟩:=bI hF
 refine cw_block ?_
 let R3:Ro:=⟨B1,(t.ZImages.flatMap eN0)⟩
 let R4:Ro:=⟨B,(t.XImages.flatMap eN0)⟩
 refine cw_loop (fun k f w=>∃ (i:Nat) (Phase:Int) (X:Int) (Z1:Int),FF f [(2,pt (aD b) 0),(3,pt (aD b1) 0),(4,pt (aD b2) 0),(5,pt (aD b3) 0),(20,vi t.Qubits),(21,vi (i:Int))]∧ST w0 [] w [O0,O1,O2,⟨aD b3,64,[vi Phase,vi X,vi Z1],3⟩] [R4,R3]∧i+k=t.Qubits.toNat∧forN (BI p t) k i (Phase,X,Z1)=some z) t.Qubits.toNat ⟨0,(Int.tmod (i64.wrap (p.Phase+P)) 4),0,0,(fc rfl (fc rfl (fc rfl (fc rfl (fc rfl (fc rfl fn_)))))),(ao.sel [0,1,2,3] rfl rfl),Nat.zero_add _,a8⟩ ?_
 rintro k_ f w ⟨i,Phase,X,Z1,H,J,bP,hL⟩
 refine cq (cr ?_)
 refine sQ 22 (zL rfl (H.g 21 5) (H.g 20 4)) (rn (cq ?_))
 refine cw_cond rfl (fun ap=>?_) (fun ap=>?_)
 ·skip
  have aL:i<t.Qubits.toNat:=by have h:=of_decide_eq_true ap; omega
  obtain ⟨K13,rfl⟩:∃ k2,k_=k2+1:=⟨k_-1,by omega⟩
  obtain ⟨y,hb,bd⟩:=forN_go hL
  unfold BI at hb
  refine cw_skip (cq ?_)
  obtain ⟨z1,be,bf⟩:=bI hb
  refine cw_mid (fun f w=>∃ (D:Int) (X1:Int) (Z2:Int),(D,X1,Z2)=z1∧FF f [(2,pt (aD b) 0),(3,pt (aD b1) 0),(4,pt (aD b2) 0),(5,pt (aD b3) 0),(20,vi t.Qubits),(21,vi (i:Int))]∧ST w0 [] w [O0,O1,O2,⟨aD b3,64,[vi D,vi X1,vi Z2],3⟩] [R4,R3]) ?_ ?_
  ·skip
   refine cw_block (cq (cr ?_))
   refine sQ 23 (yv rfl (H.g 21 5))<|sQ 6 yu (rn (cq ?_))
   obtain ⟨z2,af,ag⟩:=bI be
   refine cw_mid (fun f w=>∃ (u:Int) (X2:Int) (Z3:Int),(u,X2,Z3)=z2∧FF f [(2,pt (aD b) 0),(3,pt (aD b1) 0),(4,pt (aD b2) 0),(5,pt (aD b3) 0),(6,vi (i:Int)),(20,vi t.Qubits),(21,vi (i:Int))]∧ST w0 [] w [O0,O1,O2,⟨aD b3,64,[vi u,vi X2,vi Z3],3⟩] [R4,R3]) ?_ ?_
   ·skip
    refine cq (cr ?_)
    refine sQ 24 (yd (aD b1) 0 0 K47 K1 rfl (H.g 3 1))<|sQ 25 (yz 1 K0 (J.c 1))<|sQ 26 yv ?_
    obtain ⟨bg,af⟩:=chk_inv af
    refine sQ 27 (Y_shr (k:=.i64) (a:=p.X) (k':=.i64) (b:=(i:Int)) rfl rfl rfl bg)<|sQ 28 (Y_band (k:=.i64) (a:=(shrK .i64 p.X (i:Int))) (b:=1) rfl rfl rfl)<|sQ 29 zE (rn ?_)
    refine cw_cond rfl (fun aq=>?_) (fun aq=>?_)
    ·skip
     have ab:=ct af aq
     obtain ⟨x,hx,ab⟩:=bI ab
     obtain ⟨ar,bh,ab⟩:=bI ab
     refine ra_start (J.se [0,1,2]).fn (by kernel_rfl) ?_
     have Q:=J.drew
     have V:=Q.se [0,1,2]
     refine rq 1 31 rfl V (fun _ q=>(yd (aD b) 0 0 K18 K4 rfl (H.g 2 0)))<|rq 2 32 rfl V (fun _ q=>(yz 1 K7 (ST.c q 0)))<|rq 3 33 rfl V (fun _ q=>yv)<|rq 4 34 rfl V (fun _ q=>(yI B (i:Int) K5 K2 (gi_isSome eN2 rfl (ST.rf q (i:=0) rfl) hx) (getI_nn hx) (getI_ltI hx rfl)))<|rq 5 35 rfl V (fun _ q=>(ya B ((i:Int).toNat*3) (t.XImages.flatMap eN0) [vi x.Phase,vi x.X,vi x.Z] K6 K2 (ST.rf q (i:=0) rfl) rfl rfl (eN2 x) (gi_seg eN2 hx))) ?_
     refine r1 30 0 rfl (yw 0 K6 K2 (Q.c 3) rfl (H.g 5 3)) V ?_
     refine rA [6] ?_
     refine rC 36 6 rfl (yc KA (Ls (Aa.mk Phase X Z1) x _  (Q.inn0 [] rfl) bh)) ?_ aN
     rintro _ bT ⟨rfl,bj⟩
     have ai:=Q.out00 bj
     refine ⟨(ai.se [0,1,2]),?_⟩
     refine rA [7] ?_
     refine rZ 7 rfl (yK 3 3 0 ai K2 rfl (H.g 5 3)) ?_ aN
     rintro _ bU ⟨rfl,aj⟩
     refine ⟨(aj.se [0,1,2]),?_⟩
     refine ra_done (by kernel_rfl) ?_
     exact ⟨ar.Phase,ar.X,ar.Z,(sI ab),(H.a 2 0 (H.a 3 1 (H.a 4 2 (H.a 5 3 (fc rfl (H.a 20 4 (H.a 21 5 fn_))))))),(aj.sel [0,1,2,3] rfl rfl)⟩
    ·skip
     have bk:=cf' af aq
     refine cw_skip ?_
     exact ⟨Phase,X,Z1,(sI bk),(H.a 2 0 (H.a 3 1 (H.a 4 2 (H.a 5 3 (fc rfl (H.a 20 4 (H.a 21 5 fn_))))))),(J.sel [0,1,2,3] rfl rfl)⟩
   rintro f w ⟨u,X2,Z3,rfl,o,S⟩
   refine cq (cr ?_)
   refine sQ 37 (yd (aD b1) 0 0 K48 K1 rfl (o.g 3 1))<|sQ 38 (yz 2 K0 (S.c 1))<|sQ 39 (yv rfl (o.g 6 4)) ?_
   obtain ⟨aQ,ag⟩:=chk_inv ag
   refine sQ 40 (Y_shr (k:=.i64) (a:=p.Z) (k':=.i64) (b:=(i:Int)) rfl rfl rfl aQ)<|sQ 41 (Y_band (k:=.i64) (a:=(shrK .i64 p.Z (i:Int))) (b:=1) rfl rfl rfl)<|sQ 42 zE (rn ?_)
   refine cw_cond rfl (fun au=>?_) (fun au=>?_)
   ·skip
    have ac:=ct ag au
    obtain ⟨x1,ah,ac⟩:=bI ac
    obtain ⟨av,bm,ac⟩:=bI ac
    refine ra_start (S.se [0,1,2]).fn (by kernel_rfl) ?_
    have U:=S.drew
    have W:=U.se [0,1,2]
    refine rq 1 44 rfl W (fun _ q=>(yd (aD b) 0 0 K20 K4 rfl (o.g 2 0)))<|rq 2 45 rfl W (fun _ q=>(yz 2 K7 (ST.c q 0)))<|rq 3 46 rfl W (fun _ q=>(yv rfl (o.g 6 4)))<|rq 4 47 rfl W (fun _ q=>(yI B1 (i:Int) K5 K2 (gi_isSome eN2 rfl (ST.rf q (i:=1) rfl) ah) (getI_nn ah) (getI_ltI ah rfl)))<|rq 5 48 rfl W (fun _ q=>(ya B1 ((i:Int).toNat*3) (t.ZImages.flatMap eN0) [vi x1.Phase,vi x1.X,vi x1.Z] K6 K2 (ST.rf q (i:=1) rfl) rfl rfl (eN2 x1) (gi_seg eN2 ah))) ?_
    refine r1 43 0 rfl (yw 0 K6 K2 (U.c 3) rfl (o.g 5 3)) W ?_
    refine rA [6] ?_
    refine rC 49 6 rfl (yc KA (Ls (Aa.mk u X2 Z3) x1 _  (U.inn0 [] rfl) bm)) ?_ aN
    rintro _ bV ⟨rfl,bn⟩
    have ak:=U.out00 bn
    refine ⟨(ak.se [0,1,2]),?_⟩
    refine rA [7] ?_
    refine rZ 7 rfl (yK 3 3 0 ak K2 rfl (o.g 5 3)) ?_ aN
    rintro _ bw ⟨rfl,al⟩
    refine ⟨(al.se [0,1,2]),?_⟩
    refine ra_done (by kernel_rfl) ?_
    exact ⟨av.Phase,av.X,av.Z,(sI ac),(o.a 2 0 (o.a 3 1 (o.a 4 2 (o.a 5 3 (o.a 20 5 (o.a 21 6 fn_)))))),(al.sel [0,1,2,3] rfl rfl)⟩
   ·skip
    have bo:=cf' ag au
    refine cw_skip ?_
    exact ⟨u,X2,Z3,(sI bo),(o.a 2 0 (o.a 3 1 (o.a 4 2 (o.a 5 3 (o.a 20 5 (o.a 21 6 fn_)))))),(S.sel [0,1,2,3] rfl rfl)⟩
  rintro f w ⟨D,X1,Z2,rfl,aa,aT⟩
  refine cr ?_
  refine sQ 50 (zP rfl (aa.g 21 5))<|sQ 21 yv (rn ?_)
  obtain rfl:=sI bf
  exact ⟨K13,Nat.lt_succ_self _,i+1,D,X1,Z2,(aa.a 2 0 (aa.a 3 1 (aa.a 4 2 (aa.a 5 3 (aa.a 20 4 (fc (congrArg (Value.int .i64) (wr_succ aL hN)) fn_)))))),(aT.sel [0,1,2,3] rfl rfl),(by omega),bd⟩
 ·skip
  obtain rfl:k_=0:=by have h:=of_decide_eq_false ap; omega
  refine cw_exit rfl ?_
  obtain rfl:=sI hL
  refine cq (cr ?_)
  refine sQ 51 (yw 0 K6 K2 (J.c 3) rfl (H.g 5 3)) ?_
  refine s0 (yK 2 3 0 J K2 rfl (H.g 4 2)) ?_
  rintro _ bA ⟨rfl,am⟩
  refine rn (ct_ ?_)
  obtain rfl:=sI a9
  exact ret1 Tryz.results81 (rX K6 K2 (am.c 2) (H.g 4 2)) ⟨rfl,(am.sN [])⟩

theorem GF (first:Ae) (o:Ae) (B:Option Addr) (c n:Nat) (B1:Option Addr) (c1 n1:Nat) (B2:Option Addr) (c2 n2:Nat) (B3:Option Addr) (c3 n3:Nat) (w0:World) (hn:first.XImages.length=n) (bk:first.ZImages.length=n1) (bm:o.XImages.length=n2) (bn:o.ZImages.length=n3) (hS:ST w0 [] w0 [] [⟨B,(first.XImages.flatMap eN0)⟩,⟨B1,(first.ZImages.flatMap eN0)⟩,⟨B2,(o.XImages.flatMap eN0)⟩,⟨B3,(o.ZImages.flatMap eN0)⟩]) {r_:Ae} (hF:Bb first o=some r_) :
  CV Tryz.prog 44 #[.agg #[vi first.Qubits,.slice B n c,.slice B1 n1 c1],.agg #[vi o.Qubits,.slice B2 n2 c2,.slice B3 n3 c3]] w0 (fun v w'=>∃ (B4:Option Addr) (c4:Nat) (B5:Option Addr) (c5:Nat),v=.agg #[vi r_.Qubits,.slice B4 r_.XImages.length c4,.slice B5 r_.ZImages.length c5]∧ST w0 [] w' [⟨B4,64,(r_.XImages.flatMap eN0),c4*3⟩,⟨B5,64,(r_.ZImages.flatMap eN0),c5*3⟩] []):=by
 subst hn
 subst bk
 subst bm
 subst bn
 unfold Bb at hF
 refine cv_of_cw 41 Tryz.func44 rfl Tryz.ntmps44 rfl ?_
 refine cq (cr ?_)
 let aM:List Value:=[vi first.Qubits,.slice B first.XImages.length c,.slice B1 first.ZImages.length c1]
 refine sS 2 (yV aM 3 hS) ?_
 rintro _ w_ ⟨b,rfl,bo⟩
 let aO:List Value:=[vi o.Qubits,.slice B2 o.XImages.length c2,.slice B3 o.ZImages.length c3]
 refine sS 3 (yV aO 3 bo) ?_
 rintro _ cj ⟨b1,rfl,bp⟩
 let ae:List Value:=[vi 0,.slice none 0 0,.slice none 0 0]
 refine sS 4 (yN ae 3 bp K26) ?_
 rintro _ ck ⟨b2,rfl,aQ⟩
 refine rn (cq (cr ?_))
 refine sQ 7 (yd (aD b) 0 0 K22 K1)<|sQ 8 (yz 0 K0 (aQ.c 0))<|sQ 9 (Y_buildS (zs:=ae) (vs:=[(0,vi first.Qubits)]) (cs:=[vi first.Qubits,.slice none 0 0,.slice none 0 0]) K80 K26 rfl (mpc rfl mpn) rfl) ?_
 refine sS 5 (yN ae 3 aQ K26) ?_
 rintro _ cl ⟨P,rfl,bq⟩
 refine s0 (yK 3 3 0 bq K3) ?_
 rintro _ cm ⟨rfl,aR⟩
 refine rn (cq (cq (cr ?_)))
 refine sQ 10 (yd (aD b) 0 0 K22 K1)<|sQ 11 (yz 0 K0 (aR.c 0))<|sQ 12 yv (rn ?_)
 obtain ⟨hN,hF⟩:=chk_inv hF
 obtain ⟨z,hz,bt⟩:=bI hF
 have bu:=aR.addNil 64
 have bv:=bu.addNil 64
 refine cw_block ?_
 let Q:Ob:=⟨aD b1,25,aO,3⟩
 let S:Ob:=⟨aD b,25,aM,3⟩
 let U:Ob:=⟨aD b2,25,ae,3⟩
 let R9:Ro:=⟨B2,(o.XImages.flatMap eN0)⟩
 let aw:Ro:=⟨B3,(o.ZImages.flatMap eN0)⟩
 let ay:Ro:=⟨B1,(first.ZImages.flatMap eN0)⟩
 let aA:Ro:=⟨B,(first.XImages.flatMap eN0)⟩
 refine cw_loop (fun k f w=>∃ (i:Nat) (XImages:List Aa) (ZImages:List Aa) (B6:Option Addr) (c6:Nat) (V:Option Addr) (W:Nat),FF f [(2,pt (aD b) 0),(3,pt (aD b1) 0),(4,pt (aD b2) 0),(5,pt (aD P) 0),(11,vi first.Qubits),(12,vi (i:Int))]∧ST w0 [] w [S,Q,U,⟨aD P,25,[vi first.Qubits,.slice B6 XImages.length c6,.slice V ZImages.length W],3⟩,⟨B6,64,(XImages.flatMap eN0),c6*3⟩,⟨V,64,(ZImages.flatMap eN0),W*3⟩] [aA,ay,R9,aw]∧i+k=first.Qubits.toNat∧forN (Fv first o) k i (XImages,ZImages)=some z) first.Qubits.toNat ⟨0,[],[],none,0,none,0,(fc rfl (fc rfl (fc rfl (fc rfl (fc rfl (fc rfl fn_)))))),(bv.sel [0,1,2,3,4,5] rfl rfl),Nat.zero_add _,hz⟩ ?_
 rintro k_ f w ⟨i,XImages,ZImages,B6,c6,V,W,J,ah,cp,hL⟩
 refine cq (cr ?_)
 refine sQ 13 (zL rfl (J.g 12 5) (J.g 11 4)) (rn (cq ?_))
 refine cw_cond rfl (fun aB=>?_) (fun aB=>?_)
 ·skip
  have aT:i<first.Qubits.toNat:=by have h:=of_decide_eq_true aB; omega
  obtain ⟨K13,rfl⟩:∃ k2,k_=k2+1:=⟨k_-1,by omega⟩
  obtain ⟨y,hb,bB⟩:=forN_go hL
  unfold Fv at hb
  refine cw_skip (cq (cw_block (cq (cr ?_))))
  refine sQ 14 (yv rfl (J.g 12 5))<|sQ 6 yu (rn ?_)
  obtain ⟨x,hx,hb⟩:=bI hb
  obtain ⟨D,hc,hb⟩:=bI hb
  obtain ⟨bC,hb⟩:=chk_inv hb
  obtain ⟨x1,ai,hb⟩:=bI hb
  obtain ⟨H,bD,hb⟩:=bI hb
  obtain ⟨aV,hb⟩:=chk_inv hb
  refine ra_start (ah.se [0,1,2]).fn (by kernel_rfl) ?_
  have am:=ah.drew
  have u:=am.se [0,1,2]
  refine rq 0 15 rfl u (fun _ q=>(yd (aD P) 0 0 K18 K4 rfl (J.g 5 3)))<|rq 2 17 rfl u (fun _ q=>(yw 0 K11 K3 (ST.c q 1) rfl (J.g 3 1)))<|rq 3 18 rfl u (fun _ q=>(yd (aD b) 0 0 K18 K4 rfl (J.g 2 0)))<|rq 4 19 rfl u (fun _ q=>(yz 1 K7 (ST.c q 0)))<|rq 5 20 rfl u (fun _ q=>yv) ?_
  refine rq 6 21 rfl u (fun _ q=>(yI B (i:Int) K5 K2 (gi_isSome eN2 rfl (ST.rf q (i:=0) rfl) hx) (getI_nn hx) (getI_ltI hx rfl)))<|rq 7 22 rfl u (fun _ q=>(ya B ((i:Int).toNat*3) (first.XImages.flatMap eN0) [vi x.Phase,vi x.X,vi x.Z] K6 K2 (ST.rf q (i:=0) rfl) rfl rfl (eN2 x) (gi_seg eN2 hx)))<|rq 11 26 rfl u (fun _ q=>(yd (aD P) 0 0 K20 K4 rfl (J.g 5 3)))<|rq 13 28 rfl u (fun _ q=>(yw 0 K11 K3 (ST.c q 1) rfl (J.g 3 1)))<|rq 14 29 rfl u (fun _ q=>(yd (aD b) 0 0 K20 K4 rfl (J.g 2 0))) ?_
  refine rq 15 30 rfl u (fun _ q=>(yz 2 K7 (ST.c q 0)))<|rq 16 31 rfl u (fun _ q=>yv)<|rq 17 32 rfl u (fun _ q=>(yI B1 (i:Int) K5 K2 (gi_isSome eN2 rfl (ST.rf q (i:=1) rfl) ai) (getI_nn ai) (getI_ltI ai rfl)))<|rq 18 33 rfl u (fun _ q=>(ya B1 ((i:Int).toNat*3) (first.ZImages.flatMap eN0) [vi x1.Phase,vi x1.X,vi x1.Z] K6 K2 (ST.rf q (i:=1) rfl) rfl rfl (eN2 x1) (gi_seg eN2 ai))) ?_
  let O:Ob:=⟨aD P,25,[vi first.Qubits,.slice B6 XImages.length c6,.slice V ZImages.length W],3⟩
  let O4:Ob:=⟨V,64,(ZImages.flatMap eN0),W*3⟩
  let O7:Ob:=⟨B6,64,(XImages.flatMap eN0),c6*3⟩
  refine rf_in (k:=9) (ts:=[5,15,26]) (L:=[S,Q,U,O,O7,O4]) (G:=[]) [fQ 1 16 (.slice B6 XImages.length c6) O,fQ 12 27 (.slice V ZImages.length W) O,fR 22 37 (pt (aD P) 1)] am (flc rfl rfl rfl (fun _ _ _ _ aa h aj=>(yfl (yz 1 K7 (ST.cfm h aj.1) rfl ((aa 15 (List.Mem.tail _ (List.Mem.head _))).trans rfl)) h)) (flc rfl rfl rfl (fun _ _ _ _ aa h aj=>(yfl (yz 2 K7 (ST.cfm h aj.1) rfl ((aa 26 (List.Mem.tail _ (List.Mem.tail _ (List.Mem.head _)))).trans rfl)) h)) (flc rfl rfl rfl (fun _ _ _ _ aa h aj=>(yfl (yd (aD P) 0 0 K18 K4 rfl ((aa 5 (List.Mem.head _)).trans (J.g 5 3))) h)) fln))) (fun hJ=>?_)
  refine rf_all [8] hJ (fun Z w h=>(ST.sel (ST.noF h) [0,1,2] rfl rfl)) (fun Z cv bE an=>?_)
  refine rC 23 8 rfl (yc Mi (Mr o x B2 c2 o.XImages.length B3 c3 o.ZImages.length _ rfl rfl (an.inn0 [(true,2),(true,3)] rfl) hc)) ?_ aN
  rintro _ cw ⟨rfl,hd⟩
  have a0:=an.out00 hd
  refine rf_k (L:=[S,Q,U,O,O7,O4]) bE a0 (fun Z w h=>(ST.sel (ST.noF h) [0,1,2] rfl rfl)) ?_
  refine rf_all [9] hJ (fun Z w h=>(ST.sel (ST.noF h) [0,1,2] rfl rfl)) (fun Z1 cx bF a1=>?_)
  refine rS 24 9 rfl (yF 3 1 [vi D.Phase,vi D.X,vi D.Z] 3 a1 K5 K2 K74 rfl (mpc rfl mpn)) ?_ aN
  rintro _ cy ⟨b4,rfl,a2⟩
  let O5:Ob:=⟨aD b4,64,([D].flatMap eN0),1*3⟩
  have a3:ST w0 [] _ (S::Q::U::O::O7::O4::O5::(flL [fQ 1 16 (.slice B6 XImages.length c6) O,fQ 12 27 (.slice V ZImages.length W) O,fR 22 37 (pt (aD P) 1)] Z1++[])) [aA,ay,R9,aw]:=ST.rot (pre:=[S,Q,U,O,O7,O4]) (G:=(flL [fQ 1 16 (.slice B6 XImages.length c6) O,fQ 12 27 (.slice V ZImages.length W) O,fR 22 37 (pt (aD P) 1)] Z1++[])) (xs:=[O5]) a2
  refine rf_k (L:=[S,Q,U,O,O7,O4,O5]) bF a3 (fun Z w h=>(ST.sel (ST.noF h) [0,1,2] rfl rfl)) ?_
  refine rf_force hJ (fun Z w h=>(ST.sel (ST.noF h) [0,1,2] rfl rfl)) (fun _=>?_)
  refine rf_all [10] (FlOK.nx hJ) (fun Z w h=>(ST.sel (ST.noF h) [0,1,2] rfl rfl)) (fun Z2 cz bH ao=>?_)
  refine rS 25 10 rfl (aP 3 24 4 XImages [D] ao K5 K2 K63 K14 eN2 BR (ao.c 6) bC) ?_ aN
  rintro _ bY ⟨B8,c8,rfl,a5⟩
  let O6:Ob:=⟨B8,64,((XImages++[D]).flatMap eN0),c8*3⟩
  refine rf_k (L:=[S,Q,U,O,O6,O4,O5]) bH a5 (fun Z w h=>(ST.sel (ST.noF h) [0,1,2] rfl rfl)) ?_
  refine rf_all [19] (FlOK.nx hJ) (fun Z w h=>(ST.sel (ST.noF h) [0,1,2] rfl rfl)) (fun Z3 bZ bJ ap=>?_)
  refine rC 34 19 rfl (yc Mi (Mr o x1 B2 c2 o.XImages.length B3 c3 o.ZImages.length _ rfl rfl (ap.inn0 [(true,2),(true,3)] rfl) bD)) ?_ aN
  rintro _ b0 ⟨rfl,bK⟩
  have a6:=ap.out00 bK
  refine rf_k (L:=[S,Q,U,O,O6,O4,O5]) bJ a6 (fun Z w h=>(ST.sel (ST.noF h) [0,1,2] rfl rfl)) ?_
  refine rf_all [20] (FlOK.nx hJ) (fun Z w h=>(ST.sel (ST.noF h) [0,1,2] rfl rfl)) (fun Z4 b7 bL a7=>?_)
  refine rS 35 20 rfl (yF 3 1 [vi H.Phase,vi H.X,vi H.Z] 3 a7 K5 K2 K74 rfl (mpc rfl mpn)) ?_ aN
  rintro _ b8 ⟨b5,rfl,a8⟩
  let O8:Ob:=⟨aD b5,64,([H].flatMap eN0),1*3⟩
  have a9:ST w0 [] _ (S::Q::U::O::O6::O4::O5::O8::(flL [fQ 12 27 (.slice V ZImages.length W) O,fR 22 37 (pt (aD P) 1)] Z4++[])) [aA,ay,R9,aw]:=ST.rot (pre:=[S,Q,U,O,O6,O4,O5]) (G:=(flL [fQ 12 27 (.slice V ZImages.length W) O,fR 22 37 (pt (aD P) 1)] Z4++[])) (xs:=[O8]) a8
  refine rf_k (L:=[S,Q,U,O,O6,O4,O5,O8]) bL a9 (fun Z w h=>(ST.sel (ST.noF h) [0,1,2] rfl rfl)) ?_
  refine rf_force (FlOK.nx hJ) (fun Z w h=>(ST.sel (ST.noF h) [0,1,2] rfl rfl)) (fun _=>?_)
  refine rf_all [21] (FlOK.nx (FlOK.nx hJ)) (fun Z w h=>(ST.sel (ST.noF h) [0,1,2] rfl rfl)) (fun Z5 b9 bM aq=>?_)
  refine rS 36 21 rfl (aP 3 24 5 ZImages [H] aq K5 K2 K63 K14 eN2 BR (aq.c 7) aV) ?_ aN
  rintro _ ca ⟨B9,c9,rfl,bc⟩
  refine rf_k (L:=[S,Q,U,O,O6,⟨B9,64,((ZImages++[H]).flatMap eN0),c9*3⟩,O5,O8]) bM bc (fun Z w h=>(ST.sel (ST.noF h) [0,1,2] rfl rfl)) ?_
  refine rf_force (FlOK.nx (FlOK.nx hJ)) (fun Z w h=>(ST.sel (ST.noF h) [0,1,2] rfl rfl)) (fun _=>?_)
  refine rf_out (fun cb bd=>?_)
  refine rA [23] ?_
  refine rZ 23 rfl (yS 3 1 (aD P) 25 (.slice B8 ((XImages++[D]).length) c8) [.slice B8 ((XImages++[D]).length) c8] 1 [vi first.Qubits,.slice B8 ((XImages++[D]).length) c8,.slice V ZImages.length W] bd K4) ?_ aN
  rintro _ cc ⟨rfl,ab⟩
  refine ⟨(ab.se [0,1,2]),?_⟩
  refine rq 24 38 rfl (ab.se [0,1,2]) (fun _ q=>(yd (aD P) 0 0 K20 K4 rfl (J.g 5 3))) ?_
  refine rA [25] ?_
  refine rZ 25 rfl (yS 3 1 (aD P) 25 (.slice B9 ((ZImages++[H]).length) c9) [.slice B9 ((ZImages++[H]).length) c9] 2 [vi first.Qubits,.slice B8 ((XImages++[D]).length) c8,.slice B9 ((ZImages++[H]).length) c9] ab K4) ?_ aN
  rintro _ cd ⟨rfl,ar⟩
  refine ⟨(ar.se [0,1,2]),?_⟩
  refine ra_done (by kernel_rfl) ?_
  refine cr ?_
  refine sQ 39 (zP rfl (J.g 12 5))<|sQ 12 yv (rn ?_)
  obtain rfl:=sI hb
  exact ⟨K13,Nat.lt_succ_self _,i+1,(XImages++[D]),(ZImages++[H]),B8,c8,B9,c9,(J.a 2 0 (J.a 3 1 (J.a 4 2 (J.a 5 3 (J.a 11 4 (fc (congrArg (Value.int .i64) (wr_succ aT hN)) fn_)))))),(ar.sel [0,1,2,3,4,5] rfl rfl),(by omega),bB⟩
 ·skip
  obtain rfl:k_=0:=by have h:=of_decide_eq_false aB; omega
  refine cw_exit rfl ?_
  obtain rfl:=sI hL
  refine cq (cr ?_)
  refine sQ 40 (yw 0 K11 K3 (ah.c 3) rfl (J.g 5 3)) ?_
  refine s0 (yK 2 3 0 ah K3 rfl (J.g 4 2)) ?_
  rintro _ ce ⟨rfl,au⟩
  refine rn (ct_ ?_)
  obtain rfl:=sI bt
  exact ret1 Tryz.results44 (rX K11 K3 (au.c 2) (J.g 4 2)) ⟨B6,c6,V,W,rfl,(au.sN [4,5])⟩

theorem Ge (n:Int)  (w0:World)  (hS:ST w0 [] w0 [] []) {r_:Ae} (hF:Bh n=some r_) :
  CV Tryz.prog 43 #[vi n] w0 (fun v w'=>∃ (B:Option Addr) (c:Nat) (B1:Option Addr) (c1:Nat),v=.agg #[vi r_.Qubits,.slice B r_.XImages.length c,.slice B1 r_.ZImages.length c1]∧ST w0 [] w' [⟨B,64,(r_.XImages.flatMap eN0),c*3⟩,⟨B1,64,(r_.ZImages.flatMap eN0),c1*3⟩] []):=by
 unfold Bh at hF
 refine cv_of_cw 29 Tryz.func43 rfl Tryz.ntmps43 rfl ?_
 refine cq (cr ?_)
 let V2:List Value:=[vi 0,.slice none 0 0,.slice none 0 0]
 refine sS 2 (yN V2 3 hS K26) ?_
 rintro _ w_ ⟨b,rfl,av⟩
 refine rn (cq (cr ?_))
 refine sQ 5 yv<|sQ 6 (Y_buildS (zs:=V2) (vs:=[(0,vi n)]) (cs:=[vi n,.slice none 0 0,.slice none 0 0]) K80 K26 rfl (mpc rfl mpn) rfl) ?_
 refine sS 3 (yN V2 3 av K26) ?_
 rintro _ a0 ⟨J,rfl,aw⟩
 refine s0 (yK 1 3 0 aw K3) ?_
 rintro _ a1 ⟨rfl,ay⟩
 refine rn (cq (cq (cr ?_)))
 refine sQ 7 yv<|sQ 8 yv (rn ?_)
 obtain ⟨hN,hF⟩:=chk_inv hF
 obtain ⟨z,hz,aA⟩:=bI hF
 have aB:=ay.addNil 64
 have aE:=aB.addNil 64
 refine cw_block ?_
 let O1:Ob:=⟨aD b,25,V2,3⟩
 refine cw_loop (fun k f w=>∃ (i:Nat) (XImages:List Aa) (ZImages:List Aa) (B2:Option Addr) (c2:Nat) (O:Option Addr) (P:Nat),FF f [(2,pt (aD b) 0),(3,pt (aD J) 0),(7,vi n),(8,vi (i:Int))]∧ST w0 [] w [O1,⟨aD J,25,[vi n,.slice B2 XImages.length c2,.slice O ZImages.length P],3⟩,⟨B2,64,(XImages.flatMap eN0),c2*3⟩,⟨O,64,(ZImages.flatMap eN0),P*3⟩] []∧i+k=n.toNat∧forN I9 k i (XImages,ZImages)=some z) n.toNat ⟨0,[],[],none,0,none,0,(fc rfl (fc rfl (fc rfl (fc rfl fn_)))),(aE.sel [0,1,2,3] rfl rfl),Nat.zero_add _,hz⟩ ?_
 rintro k_ f w ⟨i,XImages,ZImages,B2,c2,O,P,D,Q,a5,hL⟩
 refine cq (cr ?_)
 refine sQ 9 (zL rfl (D.g 8 3) (D.g 7 2)) (rn (cq ?_))
 refine cw_cond rfl (fun ac=>?_) (fun ac=>?_)
 ·skip
  have ai:i<n.toNat:=by have h:=of_decide_eq_true ac; omega
  obtain ⟨K13,rfl⟩:∃ k2,k_=k2+1:=⟨k_-1,by omega⟩
  obtain ⟨y,hb,aI⟩:=forN_go hL
  unfold I9 at hb
  refine cw_skip (cq (cw_block (cq (cr ?_))))
  refine sQ 10 (yv rfl (D.g 8 3))<|sQ 4 yu (rn ?_)
  obtain ⟨aJ,hb⟩:=chk_inv hb
  obtain ⟨aK,hb⟩:=chk_inv hb
  obtain ⟨aj,hb⟩:=chk_inv hb
  obtain ⟨ak,hb⟩:=chk_inv hb
  refine ra_start (Q.se [0]).fn (by kernel_rfl) ?_
  have al:=Q.drew
  have o:=al.se [0]
  let V3:List Value:=[vi 0,vi (shlK .i64 1 (i:Int)),vi 0]
  refine rq 0 11 rfl o (fun _ q=>(yd (aD J) 0 0 K18 K4 rfl (D.g 3 1)))<|rq 2 13 rfl o (fun _ q=>yv)<|rq 3 14 rfl o (fun _ q=>(Y_shl (k:=.i64) (a:=1) (k':=.i64) (b:=(i:Int)) rfl rfl rfl aJ))<|rq 4 15 rfl o (fun _ q=>(Y_buildS (zs:=[vi 0,vi 0,vi 0]) (vs:=[(1,vi (shlK .i64 1 (i:Int)))]) (cs:=V3) K36 K14 rfl (mpc rfl mpn) rfl))<|rq 7 18 rfl o (fun _ q=>(yd (aD J) 0 0 K20 K4 rfl (D.g 3 1))) ?_
  let V4:List Value:=[vi 0,vi 0,vi (shlK .i64 1 (i:Int))]
  refine rq 9 20 rfl o (fun _ q=>yv)<|rq 10 21 rfl o (fun _ q=>(Y_shl (k:=.i64) (a:=1) (k':=.i64) (b:=(i:Int)) rfl rfl rfl aj))<|rq 11 22 rfl o (fun _ q=>(Y_buildS (zs:=[vi 0,vi 0,vi 0]) (vs:=[(2,vi (shlK .i64 1 (i:Int)))]) (cs:=V4) K36 K14 rfl (mpc rfl mpn) rfl)) ?_
  let O0:Ob:=⟨aD J,25,[vi n,.slice B2 XImages.length c2,.slice O ZImages.length P],3⟩
  refine rf_in (k:=6) (ts:=[11,15,18,22]) (L:=[O1,O0,⟨B2,64,(XImages.flatMap eN0),c2*3⟩,⟨O,64,(ZImages.flatMap eN0),P*3⟩]) (G:=[]) [fQ 1 12 (.slice B2 XImages.length c2) O0,fM 5 16 64 ([(Aa.mk 0 (shlK .i64 1 (i:Int)) 0)].flatMap eN0) (1*3) 1 1,fQ 8 19 (.slice O ZImages.length P) O0,fM 12 23 64 ([(Aa.mk 0 0 (shlK .i64 1 (i:Int)))].flatMap eN0) (1*3) 1 1] al (flc rfl rfl rfl (fun _ _ _ _ u h ae=>(yfl (yz 1 K7 (ST.cfm h ae.1) rfl ((u 11 (List.Mem.head _)).trans rfl)) h)) (flc rfl rfl rfl (fun _ _ _ _ u h _=>(Ys_bslice (s:=3) (len:=1) (vs:=[(0,.agg V3.toArray)]) (cs:=V3) (zs:=[vi 0,vi 0,vi 0]) (m:=3) h K5 K2 K74 rfl (mpc ((u 15 (List.Mem.tail _ (List.Mem.head _))).trans rfl) mpn) rfl rfl rfl (by kernel_rfl) (by kernel_rfl) rfl)) (flc rfl rfl rfl (fun _ _ _ _ u h ae=>(yfl (yz 2 K7 (ST.cfm h ae.1) rfl ((u 18 (List.Mem.tail _ (List.Mem.tail _ (List.Mem.head _)))).trans rfl)) h)) (flc rfl rfl rfl (fun _ _ _ _ u h _=>(Ys_bslice (s:=3) (len:=1) (vs:=[(0,.agg V4.toArray)]) (cs:=V4) (zs:=[vi 0,vi 0,vi 0]) (m:=3) h K5 K2 K74 rfl (mpc ((u 22 (List.Mem.tail _ (List.Mem.tail _ (List.Mem.tail _ (List.Mem.head _))))).trans rfl) mpn) rfl rfl rfl (by kernel_rfl) (by kernel_rfl) rfl)) fln)))) (fun hJ=>?_)
  refine rf_force hJ (fun Z w h=>(ST.sel (ST.noF h) [0] rfl rfl)) (fun _=>?_)
  refine rf_force (FlOK.nx hJ) (fun Z w h=>(ST.sel (ST.noF h) [0] rfl rfl)) (fun b2=>?_)
  refine rf_all [6] (FlOK.nx (FlOK.nx hJ)) (fun Z w h=>(ST.sel (ST.noF h) [0] rfl rfl)) (fun Z a8 aO an=>?_)
  refine rS 17 6 rfl (aP 3 24 2 XImages [(Aa.mk 0 (shlK .i64 1 (i:Int)) 0)] an K5 K2 K63 K14 eN2 BR (an.c 4) aK) ?_ aN
  rintro _ a9 ⟨B4,c4,rfl,aQ⟩
  refine rf_k (L:=[O1,O0,⟨B4,64,((XImages++[(Aa.mk 0 (shlK .i64 1 (i:Int)) 0)]).flatMap eN0),c4*3⟩,⟨O,64,(ZImages.flatMap eN0),P*3⟩,⟨aD b2,64,([(Aa.mk 0 (shlK .i64 1 (i:Int)) 0)].flatMap eN0),1*3⟩]) aO aQ (fun Z w h=>(ST.sel (ST.noF h) [0] rfl rfl)) ?_
  refine rf_force (FlOK.nx (FlOK.nx hJ)) (fun Z w h=>(ST.sel (ST.noF h) [0] rfl rfl)) (fun _=>?_)
  refine rf_q 14 25 (v:=pt (aD J) 1) rfl (fun Z w h=>(ST.sel (ST.noF h) [0] rfl rfl)) (fun Z _ q=>(yd (aD J) 0 0 K18 K4 rfl (D.g 3 1))) ?_
  refine rf_force (FlOK.nx (FlOK.nx (FlOK.nx hJ))) (fun Z w h=>(ST.sel (ST.noF h) [0] rfl rfl)) (fun b3=>?_)
  refine rf_out (fun ba S=>?_)
  refine rA [13] ?_
  refine rS 24 13 rfl (aP 3 24 3 ZImages [(Aa.mk 0 0 (shlK .i64 1 (i:Int)))] S K5 K2 K63 K14 eN2 BR (S.c 5) ak) ?_ aN
  rintro _ bb ⟨B5,c5,rfl,U⟩
  refine ⟨(U.se [0]),?_⟩
  refine rA [15] ?_
  refine rZ 15 rfl (yS 1 1 (aD J) 25 (.slice B4 ((XImages++[(Aa.mk 0 (shlK .i64 1 (i:Int)) 0)]).length) c4) [.slice B4 ((XImages++[(Aa.mk 0 (shlK .i64 1 (i:Int)) 0)]).length) c4] 1 [vi n,.slice B4 ((XImages++[(Aa.mk 0 (shlK .i64 1 (i:Int)) 0)]).length) c4,.slice O ZImages.length P] U K4) ?_ aN
  rintro _ bc ⟨rfl,H⟩
  refine ⟨(H.se [0]),?_⟩
  refine rq 16 26 rfl (H.se [0]) (fun _ q=>(yd (aD J) 0 0 K20 K4 rfl (D.g 3 1))) ?_
  refine rA [17] ?_
  refine rZ 17 rfl (yS 1 1 (aD J) 25 (.slice B5 ((ZImages++[(Aa.mk 0 0 (shlK .i64 1 (i:Int)))]).length) c5) [.slice B5 ((ZImages++[(Aa.mk 0 0 (shlK .i64 1 (i:Int)))]).length) c5] 2 [vi n,.slice B4 ((XImages++[(Aa.mk 0 (shlK .i64 1 (i:Int)) 0)]).length) c4,.slice B5 ((ZImages++[(Aa.mk 0 0 (shlK .i64 1 (i:Int)))]).length) c5] H K4) ?_ aN
  rintro _ bd ⟨rfl,V⟩
  refine ⟨(V.se [0]),?_⟩
  refine ra_done (by kernel_rfl) ?_
  refine cr ?_
  refine sQ 27 (zP rfl (D.g 8 3))<|sQ 8 yv (rn ?_)
  obtain rfl:=sI hb
  exact ⟨K13,Nat.lt_succ_self _,i+1,(XImages++[(Aa.mk 0 (shlK .i64 1 (i:Int)) 0)]),(ZImages++[(Aa.mk 0 0 (shlK .i64 1 (i:Int)))]),B4,c4,B5,c5,(D.a 2 0 (D.a 3 1 (D.a 7 2 (fc (congrArg (Value.int .i64) (wr_succ ai hN)) fn_)))),(V.sel [0,1,2,3] rfl rfl),(by omega),aI⟩
 ·skip
  obtain rfl:k_=0:=by have h:=of_decide_eq_false ac; omega
  refine cw_exit rfl ?_
  obtain rfl:=sI hL
  refine cq (cr ?_)
  refine sQ 28 (yw 0 K11 K3 (Q.c 1) rfl (D.g 3 1)) ?_
  refine s0 (yK 0 3 0 Q K3 rfl (D.g 2 0)) ?_
  rintro _ be ⟨rfl,W⟩
  refine rn (ct_ ?_)
  obtain rfl:=sI aA
  exact ret1 Tryz.results43 (rX K11 K3 (W.c 0) (D.g 2 0)) ⟨B2,c2,O,P,rfl,(W.sN [2,3])⟩
end Go.VK
