/- Walks: each Go function returns what its Lean function says. By program. -/
import Derived.Test.YtjjhmbpannlkaaaGreatLCliffordsFa
import Derived.Test.YtjjhmbpannlkaaaGreatLCliffordsShelf
import Derived.Test.YtjjhmbpannlkaaaGreatLibQ
import Derived.Test.YtjjhmbpannlkaaaGreatLibU
import Derived.Test.YtjjhmbpannlkaaaGreatLibZ
import Derived.Test.YtjjhmbpannlkaaaGreatLibW
import Derived.Test.YtjjhmbpannlkaaaGreatLCliffordsW3
set_option linter.unusedVariables false
set_option maxRecDepth 100000
set_option maxHeartbeats 4000000
namespace Go.VK
open Go.RowKit
open Go.Proofs
open Go.IntKind
attribute [local irreducible] CW RW RA CV Y Yw Yc Ys RetOf
attribute [local irreducible] Eh A0 DH AU C0 CB Bb Bh AX CS El E2 Ec Bi CN E3 Ed Ck F6 Cc AR Ds DI BU BW BF Dv Fd AK AT Du EQ Bg Gv Ey BS Dk Fr Fh Dx E4 Fe Fi EJ DZ ED DO Cs Dl FM F0 Eb Fz Fm Fq ER GM
theorem Qg (x:Ac) (y:Ac)  (P:World)  (hS:ST P [] P [] []) {r_:Ac} {H:Bool} (Q:Dv x y=some (r_,H)) :
  CV Tryz.prog 130 #[gR_ x,gR_ y] P (fun v w'=>v=.tuple #[gR_ r_,.bool H]∧ST P [] w' [] []):=by
 unfold Dv at Q
 refine cv_of_cw 105 Tryz.func130 rfl Tryz.ntmps130 rfl ?_
 refine cq (cr ?_)
 refine sS 2 (yV (kR_ x) 4 hS) ?_
 rintro _ w_ ⟨b,rfl,S⟩
 refine sS 3 (yV (kR_ y) 4 S) ?_
 rintro _ ae ⟨u,rfl,U⟩
 refine sS 4 (yN [vi 0,vi 0,vi 0,vi 0] 4 U K37) ?_
 rintro _ af ⟨b2,rfl,o⟩
 refine sQ 5 yu (rn (cq (cr ?_)))
 refine sQ 6 (yd (aD b) 0 0 K51 K1)<|sQ 7 (yz 0 K0 (o.c 0))<|sQ 8 (yd (aD u) 0 0 K51 K1)<|sQ 9 (yz 0 K0 (o.c 1))<|sQ 10 zX<|sQ 11 (yd (aD b) 0 0 K53 K1) ?_
 refine sQ 12 (yz 1 K0 (o.c 0))<|sQ 13 (yd (aD u) 0 0 K55 K1)<|sQ 14 (yz 3 K0 (o.c 1))<|sQ 15 zX<|sQ 16 zM<|sQ 17 (yd (aD b) 0 0 K54 K1) ?_
 refine sQ 18 (yz 2 K0 (o.c 0))<|sQ 19 (yd (aD u) 0 0 K54 K1)<|sQ 20 (yz 2 K0 (o.c 1))<|sQ 21 zX<|sQ 22 zM<|sQ 23 (yd (aD b) 0 0 K55 K1) ?_
 refine sQ 24 (yz 3 K0 (o.c 0))<|sQ 25 (yd (aD u) 0 0 K53 K1)<|sQ 26 (yz 1 K0 (o.c 1))<|sQ 27 zX<|sQ 28 zM<|sQ 29 (yd (aD b) 0 0 K51 K1) ?_
 refine sQ 30 (yz 0 K0 (o.c 0))<|sQ 31 (yd (aD u) 0 0 K53 K1)<|sQ 32 (yz 1 K0 (o.c 1))<|sQ 33 zX<|sQ 34 (yd (aD b) 0 0 K53 K1)<|sQ 35 (yz 1 K0 (o.c 0)) ?_
 refine sQ 36 (yd (aD u) 0 0 K51 K1)<|sQ 37 (yz 0 K0 (o.c 1))<|sQ 38 zX<|sQ 39 zP<|sQ 40 (yd (aD b) 0 0 K54 K1)<|sQ 41 (yz 2 K0 (o.c 0)) ?_
 refine sQ 42 (yd (aD u) 0 0 K55 K1)<|sQ 43 (yz 3 K0 (o.c 1))<|sQ 44 zX<|sQ 45 zM<|sQ 46 (yd (aD b) 0 0 K55 K1)<|sQ 47 (yz 3 K0 (o.c 0)) ?_
 refine sQ 48 (yd (aD u) 0 0 K54 K1)<|sQ 49 (yz 2 K0 (o.c 1))<|sQ 50 zX<|sQ 51 zM<|sQ 52 (yd (aD b) 0 0 K51 K1)<|sQ 53 (yz 0 K0 (o.c 0)) ?_
 refine sQ 54 (yd (aD u) 0 0 K54 K1)<|sQ 55 (yz 2 K0 (o.c 1))<|sQ 56 zX<|sQ 57 (yd (aD b) 0 0 K53 K1)<|sQ 58 (yz 1 K0 (o.c 0))<|sQ 59 (yd (aD u) 0 0 K53 K1) ?_
 refine sQ 60 (yz 1 K0 (o.c 1))<|sQ 61 zX<|sQ 62 zP<|sQ 63 (yd (aD b) 0 0 K54 K1)<|sQ 64 (yz 2 K0 (o.c 0))<|sQ 65 (yd (aD u) 0 0 K51 K1) ?_
 refine sQ 66 (yz 0 K0 (o.c 1))<|sQ 67 zX<|sQ 68 zP<|sQ 69 (yd (aD b) 0 0 K55 K1)<|sQ 70 (yz 3 K0 (o.c 0))<|sQ 71 (yd (aD u) 0 0 K55 K1) ?_
 refine sQ 72 (yz 3 K0 (o.c 1))<|sQ 73 zX<|sQ 74 zM<|sQ 75 (yd (aD b) 0 0 K51 K1)<|sQ 76 (yz 0 K0 (o.c 0))<|sQ 77 (yd (aD u) 0 0 K55 K1) ?_
 refine sQ 78 (yz 3 K0 (o.c 1))<|sQ 79 zX<|sQ 80 (yd (aD b) 0 0 K53 K1)<|sQ 81 (yz 1 K0 (o.c 0))<|sQ 82 (yd (aD u) 0 0 K54 K1)<|sQ 83 (yz 2 K0 (o.c 1)) ?_
 refine sQ 84 zX<|sQ 85 zP<|sQ 86 (yd (aD b) 0 0 K54 K1)<|sQ 87 (yz 2 K0 (o.c 0))<|sQ 88 (yd (aD u) 0 0 K53 K1)<|sQ 89 (yz 1 K0 (o.c 1)) ?_
 refine sQ 90 zX<|sQ 91 zP<|sQ 92 (yd (aD b) 0 0 K55 K1)<|sQ 93 (yz 3 K0 (o.c 0))<|sQ 94 (yd (aD u) 0 0 K51 K1)<|sQ 95 (yz 0 K0 (o.c 1)) ?_
 refine sQ 96 zX<|sQ 97 zP<|sQ 98 (Y_buildS (zs:=[vi 0,vi 0,vi 0,vi 0]) (vs:=[(0,vi (i64.wrap ((i64.wrap ((i64.wrap ((i64.wrap (x.A*y.A))-(i64.wrap (x.B*y.D))))-(i64.wrap (x.C*y.C))))-(i64.wrap (x.D*y.B))))),(1,vi (i64.wrap ((i64.wrap ((i64.wrap ((i64.wrap (x.A*y.B))+(i64.wrap (x.B*y.A))))-(i64.wrap (x.C*y.D))))-(i64.wrap (x.D*y.C))))),(2,vi (i64.wrap ((i64.wrap ((i64.wrap ((i64.wrap (x.A*y.C))+(i64.wrap (x.B*y.B))))+(i64.wrap (x.C*y.A))))-(i64.wrap (x.D*y.D))))),(3,vi (i64.wrap ((i64.wrap ((i64.wrap ((i64.wrap (x.A*y.D))+(i64.wrap (x.B*y.C))))+(i64.wrap (x.C*y.B))))+(i64.wrap (x.D*y.A)))))]) (cs:=[vi (i64.wrap ((i64.wrap ((i64.wrap ((i64.wrap (x.A*y.A))-(i64.wrap (x.B*y.D))))-(i64.wrap (x.C*y.C))))-(i64.wrap (x.D*y.B)))),vi (i64.wrap ((i64.wrap ((i64.wrap ((i64.wrap (x.A*y.B))+(i64.wrap (x.B*y.A))))-(i64.wrap (x.C*y.D))))-(i64.wrap (x.D*y.C)))),vi (i64.wrap ((i64.wrap ((i64.wrap ((i64.wrap (x.A*y.C))+(i64.wrap (x.B*y.B))))+(i64.wrap (x.C*y.A))))-(i64.wrap (x.D*y.D)))),vi (i64.wrap ((i64.wrap ((i64.wrap ((i64.wrap (x.A*y.D))+(i64.wrap (x.B*y.C))))+(i64.wrap (x.C*y.B))))+(i64.wrap (x.D*y.A))))]) K67 K37 rfl (mpc rfl (mpc rfl (mpc rfl (mpc rfl mpn)))) rfl)<|sQ 99 (yw 0 K25 K12 (o.c 0))<|sQ 100 (yw 0 K25 K12 (o.c 1)) ?_
 refine sS 101 (yF 4 2 [vi x.A,vi x.B,vi x.C,vi x.D,vi y.A,vi y.B,vi y.C,vi y.D] 8 o K78 K12 GC rfl (mpc rfl (mpc rfl mpn))) ?_
 rintro _ ag ⟨b3,rfl,J⟩
 obtain ⟨⟨V,W⟩,hc,Q⟩:=bI Q
 refine sc 102 rfl rfl (yc H0 (Hz (Ac.mk (i64.wrap ((i64.wrap ((i64.wrap ((i64.wrap (x.A*y.A))-(i64.wrap (x.B*y.D))))-(i64.wrap (x.C*y.C))))-(i64.wrap (x.D*y.B)))) (i64.wrap ((i64.wrap ((i64.wrap ((i64.wrap (x.A*y.B))+(i64.wrap (x.B*y.A))))-(i64.wrap (x.C*y.D))))-(i64.wrap (x.D*y.C)))) (i64.wrap ((i64.wrap ((i64.wrap ((i64.wrap (x.A*y.C))+(i64.wrap (x.B*y.B))))+(i64.wrap (x.C*y.A))))-(i64.wrap (x.D*y.D)))) (i64.wrap ((i64.wrap ((i64.wrap ((i64.wrap (x.A*y.D))+(i64.wrap (x.B*y.C))))+(i64.wrap (x.C*y.B))))+(i64.wrap (x.D*y.A))))) [x,y] (aD b3) 2 2 _ rfl (J.inn [false,false,false,true] rfl [] rfl) hc)) ?_
 rintro _ ai ⟨rfl,hd⟩
 have Z:=J.out [false,false,false,true] rfl hd
 refine sQ 103 (ye (gR_ V))<|sQ 104 (ye (.bool W)) ?_
 refine s0 (yK 2 4 0 Z K12) ?_
 rintro _ aj ⟨rfl,O⟩
 refine sQ 5 yu (rn (ct_ ?_))
 obtain ⟨rfl,rfl⟩:=pr2 (sI Q)
 exact ret2 Tryz.results130 (rX K25 K12 (O.c 2)) rT ⟨rfl,(O.sN [])⟩

theorem Nw (x:Ac)  (W:World)  (hS:ST W [] W [] []) {r_:Ac} {P:Bool} (H:Fd x=some (r_,P)) :
  CV Tryz.prog 136 #[gR_ x] W (fun v w'=>v=.tuple #[gR_ r_,.bool P]∧ST W [] w' [] []):=by
 unfold Fd at H
 refine cv_of_cw 43 Tryz.func136 rfl Tryz.ntmps136 rfl ?_
 refine cq (cr ?_)
 refine sS 1 (yV (kR_ x) 4 hS) ?_
 rintro _ w_ ⟨b,rfl,Z⟩
 refine sS 2 (yN [vi 0,vi 0,vi 0,vi 0] 4 Z K37) ?_
 rintro _ an ⟨b1,rfl,J⟩
 refine sQ 3 yu (rn (cq (cq (cr ?_))))
 refine sQ 4 (yw 0 K25 K12 (J.c 0)) ?_
 obtain ⟨ao,hc,H⟩:=bI H
 refine sc 5 rfl rfl (yc FS (Gk x _  (J.inn0 [] rfl) hc)) ?_
 rintro _ ap ⟨rfl,hd⟩
 have u:=J.out00 hd
 refine sQ 6 yn<|sQ 7 yv ?_
 refine sgq 8 rfl rfl (uF_ 7) (fun hg=>(yw 0 K25 K12 (u.c 0))) ?_
 obtain ⟨aa,ab,H⟩:=bI H
 refine sgc 9 (v:=.bool aa) (F:=u.fn) rfl rfl (uF_ 7) u (fun Q=>(yc JC (CV.mono (Ix x _  (u.inn0 [] rfl) (gb_inv ab Q)) (by rintro _ _ ⟨rfl,h⟩; exact ⟨rfl,u.out00 h⟩)) rfl (mc (gv_of Q) mn))) ?_
 rintro aq o
 refine sgq 10 rfl rfl (uF_ 7) (fun ac=>(yn rfl (gv_of ac))) ?_
 refine sQ 11 yO (rn ?_)
 refine cw_cond rfl (fun hb=>?_) (fun hb=>?_)
 ·skip
  have ae:=ct H hb
  refine cq (cr ?_)
  refine sQ 12 (Y_buildS (zs:=[vi 0,vi 0,vi 0,vi 0]) (vs:=[]) (cs:=[vi 0,vi 0,vi 0,vi 0]) K67 K37 rfl mpn rfl) ?_
  refine s0 (yK 1 4 0 o K12) ?_
  rintro _ ar ⟨rfl,S⟩
  refine sQ 3 yu (rn (ct_ ?_))
  obtain ⟨rfl,rfl⟩:=pr2 (sI ae)
  exact ret2 Tryz.results136 (rX K25 K12 (S.c 1)) rT ⟨rfl,(S.sN [])⟩
 ·skip
  have O:=cf' H hb
  refine cw_skip (cq (cr ?_))
  refine sQ 13 (yd (aD b) 0 0 K53 K1)<|sQ 14 (yz 1 K0 (o.c 0))<|sQ 15 (yd (aD b) 0 0 K55 K1)<|sQ 16 (yz 3 K0 (o.c 0))<|sQ 17 zM<|sQ 18 (Y_quo (k:=.i64) (a:=(i64.wrap (x.B-x.D))) (b:=2) rfl rfl rfl (by decide)) ?_
  refine sQ 19 (yd (aD b) 0 0 K51 K1)<|sQ 20 (yz 0 K0 (o.c 0))<|sQ 21 (yd (aD b) 0 0 K54 K1)<|sQ 22 (yz 2 K0 (o.c 0))<|sQ 23 zP<|sQ 24 (Y_quo (k:=.i64) (a:=(i64.wrap (x.A+x.C))) (b:=2) rfl rfl rfl (by decide)) ?_
  refine sQ 25 (yd (aD b) 0 0 K53 K1)<|sQ 26 (yz 1 K0 (o.c 0))<|sQ 27 (yd (aD b) 0 0 K55 K1)<|sQ 28 (yz 3 K0 (o.c 0))<|sQ 29 zP<|sQ 30 (Y_quo (k:=.i64) (a:=(i64.wrap (x.B+x.D))) (b:=2) rfl rfl rfl (by decide)) ?_
  refine sQ 31 (yd (aD b) 0 0 K54 K1)<|sQ 32 (yz 2 K0 (o.c 0))<|sQ 33 (yd (aD b) 0 0 K51 K1)<|sQ 34 (yz 0 K0 (o.c 0))<|sQ 35 zM<|sQ 36 (Y_quo (k:=.i64) (a:=(i64.wrap (x.C-x.A))) (b:=2) rfl rfl rfl (by decide)) ?_
  refine sQ 37 (Y_buildS (zs:=[vi 0,vi 0,vi 0,vi 0]) (vs:=[(0,vi (i64.wrap (Int.tdiv (i64.wrap (x.B-x.D)) 2))),(1,vi (i64.wrap (Int.tdiv (i64.wrap (x.A+x.C)) 2))),(2,vi (i64.wrap (Int.tdiv (i64.wrap (x.B+x.D)) 2))),(3,vi (i64.wrap (Int.tdiv (i64.wrap (x.C-x.A)) 2)))]) (cs:=[vi (i64.wrap (Int.tdiv (i64.wrap (x.B-x.D)) 2)),vi (i64.wrap (Int.tdiv (i64.wrap (x.A+x.C)) 2)),vi (i64.wrap (Int.tdiv (i64.wrap (x.B+x.D)) 2)),vi (i64.wrap (Int.tdiv (i64.wrap (x.C-x.A)) 2))]) K67 K37 rfl (mpc rfl (mpc rfl (mpc rfl (mpc rfl mpn)))) rfl)<|sQ 38 (yw 0 K25 K12 (o.c 0)) ?_
  refine sS 39 (yF 4 1 (kR_ x) 4 o K78 K12 GC rfl (mpc rfl mpn)) ?_
  rintro _ au ⟨b2,rfl,U⟩
  obtain ⟨⟨af,ag⟩,ah,O⟩:=bI O
  refine sc 40 rfl rfl (yc H0 (Hz (Ac.mk (i64.wrap (Int.tdiv (i64.wrap (x.B-x.D)) 2)) (i64.wrap (Int.tdiv (i64.wrap (x.A+x.C)) 2)) (i64.wrap (Int.tdiv (i64.wrap (x.B+x.D)) 2)) (i64.wrap (Int.tdiv (i64.wrap (x.C-x.A)) 2))) [x] (aD b2) 1 1 _ rfl (U.inn [false,false,true] rfl [] rfl) ah)) ?_
  rintro _ aw ⟨rfl,ai⟩
  have aj:=U.out [false,false,true] rfl ai
  refine sQ 41 (ye (gR_ af))<|sQ 42 (ye (.bool ag)) ?_
  refine s0 (yK 1 4 0 aj K12) ?_
  rintro _ ay ⟨rfl,V⟩
  refine sQ 3 yu (rn (ct_ ?_))
  obtain ⟨rfl,rfl⟩:=pr2 (sI O)
  exact ret2 Tryz.results136 (rX K25 K12 (V.c 1)) rT ⟨rfl,(V.sN [])⟩

theorem LJ (u:Ac) (S:Int)  (w0:World)  (hS:ST w0 [] w0 [] []) {r_:Ad} {ae:Bool} (W:AK u S=some (r_,ae)) :
  CV Tryz.prog 131 #[gR_ u,vi S] w0 (fun v w'=>v=.tuple #[gD_ r_,.bool ae]∧ST w0 [] w' [] []):=by
 unfold AK at W
 refine cv_of_cw 31 Tryz.func131 rfl Tryz.ntmps131 rfl ?_
 refine cq (cr ?_)
 refine sS 2 (yV (kR_ u) 4 hS) ?_
 rintro _ w_ ⟨b,rfl,ak⟩
 refine sS 4 (yN kZ_ 5 ak K33) ?_
 rintro _ aK ⟨b1,rfl,Z⟩
 refine sQ 5 yu (rn (cq (cq (cr ?_))))
 refine sQ 6 (yw 0 K25 K12 (Z.c 0)) ?_
 obtain ⟨aL,hc,W⟩:=bI W
 refine sc 7 rfl rfl (yc FS (Gk u _  (Z.inn0 [] rfl) hc)) ?_
 rintro _ aM ⟨rfl,hd⟩
 have U:=Z.out00 hd
 refine sQ 8 yn<|sQ 9 yv ?_
 refine sgq 10 rfl rfl (uF_ 9) (fun hg=>yv) ?_
 obtain ⟨al,am,W⟩:=bI W
 refine sgc 11 (v:=.bool al) (F:=U.fn) rfl rfl (uF_ 9) U (fun af=>(yc K49 (CV.mono (AW S 0 60 _  (U.inn0 [] rfl) (gb_inv am af)) (by rintro _ _ ⟨rfl,h⟩; exact ⟨rfl,U.out00 h⟩)) rfl (mc (gv_of af) (mc rfl (mc rfl mn))))) ?_
 rintro aO ag
 refine sgq 12 rfl rfl (uF_ 9) (fun an=>(yn rfl (gv_of an))) ?_
 refine sQ 13 yO (rn ?_)
 refine cw_cond rfl (fun hb=>?_) (fun hb=>?_)
 ·skip
  have ao:=ct W hb
  refine cq (cr ?_)
  refine sQ 14 (Y_buildS (zs:=kZ_) (vs:=[]) (cs:=kZ_) K61 K33 rfl mpn rfl) ?_
  refine s0 (yK 1 5 0 ag K10) ?_
  rintro _ aQ ⟨rfl,ah⟩
  refine sQ 5 yu (rn (ct_ ?_))
  obtain ⟨rfl,rfl⟩:=pr2 (sI ao)
  exact ret2 Tryz.results131 (rX K21 K10 (ah.c 1)) rT ⟨rfl,(ah.sN [])⟩
 ·skip
  have ap:=cf' W hb
  refine cw_skip (cq ?_)
  obtain ⟨z,hz,aq⟩:=bI ap
  refine cw_block ?_
  refine cw_loop (fun k f w=>∃ (o:Int) (A:Int) (B:Int) (C:Int) (D:Int),FF f [(1,vi o),(2,pt (aD b) 0),(4,pt (aD b1) 0)]∧ST w0 [] w [⟨aD b,110,[vi A,vi B,vi C,vi D],4⟩,⟨aD b1,112,kZ_,5⟩] []∧whX Cy k (o,A,B,C,D)=some z) fuel ⟨S,u.A,u.B,u.C,u.D,(fc rfl (fc rfl (fc rfl fn_))),(ag.sel [0,1] rfl rfl),hz⟩ ?_
  rintro k_ f w ⟨o,A,B,C,D,H,J,hL⟩
  obtain ⟨K13,y,rfl,O,ai⟩:=whX_go hL
  unfold Cy at O
  refine cq (cq (cr ?_))
  refine sQ 15 (yv rfl (H.g 1 0))<|sQ 16 (Y_gt rfl rfl rfl)<|sQ 17 yv ?_
  refine sgq 18 rfl rfl (uT_ 17) (fun aU=>(yw 0 K25 K12 (J.c 0) rfl (H.g 2 1))) ?_
  obtain ⟨ar,au,O⟩:=bI O
  refine sgc 19 (v:=.bool ar) (F:=J.fn) rfl rfl (uT_ 17) J (fun aj=>(yc JC (CV.mono (Ix (Ac.mk A B C D) _  (J.inn0 [] rfl) (gb_inv au aj)) (by rintro _ _ ⟨rfl,h⟩; exact ⟨rfl,J.out00 h⟩)) rfl (mc (gv_of aj) mn))) ?_
  rintro aV P
  refine sQ 20 yA (rn ?_)
  refine cw_cond rfl (fun aa=>?_) (fun aa=>?_)
  ·skip
   have ab:=ct O aa
   refine cw_skip (cw_block (cq (cr ?_)))
   refine sQ 22 (yw 0 K25 K12 (P.c 0) rfl (H.g 2 1)) ?_
   obtain ⟨⟨Q,av⟩,aw,ab⟩:=bI ab
   refine sc 23 rfl rfl (yc QZ (Nw (Ac.mk A B C D) _  (P.inn0 [] rfl) aw)) ?_
   rintro _ aY ⟨rfl,ay⟩
   have aA:=P.out00 ay
   refine sQ 21 yv<|sQ 24 (ye (gR_ Q))<|sQ 25 (ye (.bool av)) ?_
   refine s0 (yK 0 4 0 aA K12 rfl (H.g 2 1)) ?_
   rintro _ a0 ⟨rfl,aB⟩
   refine rn (cr ?_)
   refine sQ 26 (yv rfl (H.g 1 0))<|sQ 27 zM<|sQ 1 yu (rn ?_)
   obtain rfl:=sI ab
   exact ⟨K13,Nat.lt_succ_self _,(i64.wrap (o-1)),Q.A,Q.B,Q.C,Q.D,(fc rfl (H.a 2 1 (H.a 4 2 fn_))),(aB.sel [0,1] rfl rfl),ai⟩
  ·skip
   have aE:=cf' O aa
   refine cw_exit rfl ?_
   obtain rfl:=sI aE
   obtain rfl:=sI ai
   refine cq (cr ?_)
   refine sQ 28 (yw 0 K25 K12 (P.c 0) rfl (H.g 2 1))<|sQ 29 (yv rfl (H.g 1 0))<|sQ 30 (Y_buildS (zs:=kZ_) (vs:=[(0,.agg #[vi A,vi B,vi C,vi D]),(1,vi o)]) (cs:=[vi A,vi B,vi C,vi D,vi o]) K61 K33 rfl (mpc rfl (mpc rfl mpn)) rfl) ?_
   refine s0 (yK 1 5 0 P K10 rfl (H.g 4 2)) ?_
   rintro _ a1 ⟨rfl,V⟩
   refine sQ 5 yu (rn (ct_ ?_))
   obtain ⟨rfl,rfl⟩:=pr2 (sI aq)
   exact ret2 Tryz.results131 (rX K21 K10 (V.c 1) (H.g 4 2)) rT ⟨rfl,(V.sN [])⟩

theorem Lw (x:Ad) (y:Ad)  (Z:World)  (hS:ST Z [] Z [] []) {r_:Ad} {Q:Bool} (D:AT x y=some (r_,Q)) :
  CV Tryz.prog 109 #[gD_ x,gD_ y] Z (fun v w'=>v=.tuple #[gD_ r_,.bool Q]∧ST Z [] w' [] []):=by
 unfold AT at D
 refine cv_of_cw 38 Tryz.func109 rfl Tryz.ntmps109 rfl ?_
 refine cq (cr ?_)
 refine sS 2 (yV (kD_ x) 5 hS) ?_
 rintro _ w_ ⟨b,rfl,aa⟩
 refine sS 3 (yV (kD_ y) 5 aa) ?_
 rintro _ aA ⟨b1,rfl,ac⟩
 refine sS 4 (yN kZ_ 5 ac K33) ?_
 rintro _ aB ⟨b2,rfl,H⟩
 refine sQ 5 yu (rn (cq (cr ?_)))
 refine sQ 9 (yd (aD b) 0 3 K97 K12)<|sQ 10 (ya (aD b) 0 (kD_ x) (kR_ x.Num) K25 K12 (H.c 0))<|sQ 11 (yd (aD b1) 0 3 K97 K12)<|sQ 12 (ya (aD b1) 0 (kD_ y) (kR_ y.Num) K25 K12 (H.c 1)) ?_
 obtain ⟨⟨S,ae⟩,hc,D⟩:=bI D
 refine sc 13 rfl rfl (yc SW (Qg x.Num y.Num _  (H.inn0 [] rfl) hc)) ?_
 rintro _ aE ⟨rfl,hd⟩
 have af:=H.out00 hd
 refine sQ 8 yv<|sQ 14 (ye (gR_ S))<|sQ 15 (ye (.bool ae)) ?_
 refine sS 6 (yN [vi 0,vi 0,vi 0,vi 0] 4 af K37) ?_
 rintro _ aF ⟨b3,rfl,ag⟩
 refine s0 (yK 3 4 0 ag K12) ?_
 rintro _ aG ⟨rfl,O⟩
 refine sQ 7 yu (rn (cq (cq (cr ?_))))
 refine sQ 16 (yw 0 K21 K10 (O.c 0)) ?_
 obtain ⟨aI,ah,D⟩:=bI D
 refine sc 17 rfl rfl (yc K98 (F9 x _  (O.inn0 [] rfl) ah)) ?_
 rintro _ aJ ⟨rfl,ai⟩
 have u:=O.out00 ai
 refine sQ 18 yn<|sQ 19 yv ?_
 refine sgq 20 rfl rfl (uF_ 19) (fun hg=>(yw 0 K21 K10 (u.c 1))) ?_
 obtain ⟨aj,ak,D⟩:=bI D
 refine sgc 21 (v:=.bool aj) (F:=u.fn) rfl rfl (uF_ 19) u (fun U=>(yc K98 (CV.mono (F9 y _  (u.inn0 [] rfl) (gb_inv ak U)) (by rintro _ _ ⟨rfl,h⟩; exact ⟨rfl,u.out00 h⟩)) rfl (mc (gv_of U) mn))) ?_
 rintro aK o
 refine sgq 22 rfl rfl (uF_ 19) (fun al=>(yn rfl (gv_of al))) ?_
 refine sQ 23 yO<|sQ 24 yv ?_
 refine sgq 25 rfl rfl (uF_ 24) (fun aL=>yv) ?_
 refine sgq 26 rfl rfl (uF_ 24) (fun am=>(yn rfl (gv_of am))) ?_
 refine sQ 27 yO (rn ?_)
 refine cw_cond rfl (fun hb=>?_) (fun hb=>?_)
 ·skip
  have an:=ct D hb
  refine cq (cr ?_)
  refine sQ 28 (Y_buildS (zs:=kZ_) (vs:=[]) (cs:=kZ_) K61 K33 rfl mpn rfl) ?_
  refine s0 (yK 2 5 0 o K10) ?_
  rintro _ aM ⟨rfl,V⟩
  refine sQ 5 yu (rn (ct_ ?_))
  obtain ⟨rfl,rfl⟩:=pr2 (sI an)
  exact ret2 Tryz.results109 (rX K21 K10 (V.c 2)) rT ⟨rfl,(V.sN [])⟩
 ·skip
  have P:=cf' D hb
  refine cw_skip (cq (cr ?_))
  refine sQ 29 (yw 0 K25 K12 (o.c 3))<|sQ 30 (yd (aD b) 0 0 K86 K1)<|sQ 31 (yz 4 K0 (o.c 0))<|sQ 32 (yd (aD b1) 0 0 K86 K1)<|sQ 33 (yz 4 K0 (o.c 1))<|sQ 34 zP ?_
  obtain ⟨⟨ao,ap⟩,aq,P⟩:=bI P
  refine sc 35 rfl rfl (yc Lb (LJ S (i64.wrap (x.Exp+y.Exp)) _  (o.inn0 [] rfl) aq)) ?_
  rintro _ aO ⟨rfl,ar⟩
  have W:=o.out00 ar
  refine sQ 36 (ye (gD_ ao))<|sQ 37 (ye (.bool ap)) ?_
  refine s0 (yK 2 5 0 W K10) ?_
  rintro _ av ⟨rfl,J⟩
  refine sQ 5 yu (rn (ct_ ?_))
  obtain ⟨rfl,rfl⟩:=pr2 (sI P)
  exact ret2 Tryz.results109 (rX K21 K10 (J.c 2)) rT ⟨rfl,(J.sN [])⟩

theorem Jh (m:Ag) (i:Int) (j:Int) (B:Option Addr) (c n:Nat) (D:World) (Q:m.Cells.length=n) (S:ST D [] D [] [⟨B,(m.Cells.flatMap Au)⟩]) {P:Ad} (H:Du m i j=some P) :
  CV Tryz.prog 110 #[.agg #[vi m.Rows,vi m.Cols,.slice B n c],vi i,vi j] D (fun v U=>v=(gD_ P)∧ST D [] U [] []):=by
 subst Q
 unfold Du at H
 refine cv_of_cw 17 Tryz.func110 rfl Tryz.ntmps110 rfl ?_
 refine cq (cr ?_)
 refine sS 3 (yV (kM_ m B c) 3 S) ?_
 rintro _ Z ⟨b,rfl,O⟩
 refine sS 6 (yN kZ_ 5 O K33) ?_
 rintro _ V ⟨b1,rfl,o⟩
 refine rn (cq (cr ?_))
 refine sQ 7 (yd (aD b) 0 0 K85 K77)<|sQ 8 (yz 2 K94 (o.c 0))<|sQ 9 yv<|sQ 10 (yd (aD b) 0 0 K71 K1)<|sQ 11 (yz 1 K0 (o.c 0))<|sQ 12 zX ?_
 refine sQ 13 yv<|sQ 14 zP ?_
 obtain ⟨x,J,H⟩:=bI H
 refine sQ 15 (yI B (i64.wrap ((i64.wrap (i*m.Cols))+j)) K66 K10 (gi_isSome BA rfl (o.rf (i:=0) rfl) J) (getI_nn J) (getI_ltI J rfl))<|sQ 16 (ya B ((i64.wrap ((i64.wrap (i*m.Cols))+j)).toNat*5) (m.Cells.flatMap Au) (kD_ x) K21 K10 (o.rf (i:=0) rfl) rfl rfl (BA x) (gi_seg BA J)) ?_
 refine s0 (yK 1 5 0 o K10) ?_
 rintro _ W ⟨rfl,u⟩
 refine rn (ct_ ?_)
 obtain rfl:=sI H
 exact ret1 Tryz.results110 (rX K21 K10 (u.c 1)) ⟨rfl,(u.sN [])⟩

theorem TA (x:Ac)  (O:World)  (Z:ST O [] O [] []) {W:Ac} {u:Bool} (P:EQ x=some (W,u)) :
  CV Tryz.prog 138 #[gR_ x] O (fun v w'=>v=.tuple #[gR_ W,.bool u]∧ST O [] w' [] []):=by
 unfold EQ at P
 refine cv_of_cw 30 Tryz.func138 rfl Tryz.ntmps138 rfl ?_
 refine cq (cr ?_)
 refine sS 1 (yV (kR_ x) 4 Z) ?_
 rintro _ w_ ⟨b,rfl,Q⟩
 refine sS 2 (yN [vi 0,vi 0,vi 0,vi 0] 4 Q K37) ?_
 rintro _ ab ⟨b1,rfl,o⟩
 refine sQ 3 yu (rn (cq (cr ?_)))
 refine sQ 4 (yd (aD b) 0 0 K53 K1)<|sQ 5 (yz 1 K0 (o.c 0))<|sQ 6 (yd (aD b) 0 0 K55 K1)<|sQ 7 (yz 3 K0 (o.c 0))<|sQ 8 zM<|sQ 9 (yd (aD b) 0 0 K51 K1) ?_
 refine sQ 10 (yz 0 K0 (o.c 0))<|sQ 11 (yd (aD b) 0 0 K54 K1)<|sQ 12 (yz 2 K0 (o.c 0))<|sQ 13 zP<|sQ 14 (yd (aD b) 0 0 K53 K1)<|sQ 15 (yz 1 K0 (o.c 0)) ?_
 refine sQ 16 (yd (aD b) 0 0 K55 K1)<|sQ 17 (yz 3 K0 (o.c 0))<|sQ 18 zP<|sQ 19 (yd (aD b) 0 0 K54 K1)<|sQ 20 (yz 2 K0 (o.c 0))<|sQ 21 (yd (aD b) 0 0 K51 K1) ?_
 refine sQ 22 (yz 0 K0 (o.c 0))<|sQ 23 zM<|sQ 24 (Y_buildS (zs:=[vi 0,vi 0,vi 0,vi 0]) (vs:=[(0,vi (i64.wrap (x.B-x.D))),(1,vi (i64.wrap (x.A+x.C))),(2,vi (i64.wrap (x.B+x.D))),(3,vi (i64.wrap (x.C-x.A)))]) (cs:=[vi (i64.wrap (x.B-x.D)),vi (i64.wrap (x.A+x.C)),vi (i64.wrap (x.B+x.D)),vi (i64.wrap (x.C-x.A))]) K67 K37 rfl (mpc rfl (mpc rfl (mpc rfl (mpc rfl mpn)))) rfl)<|sQ 25 (yw 0 K25 K12 (o.c 0)) ?_
 refine sS 26 (yF 4 1 (kR_ x) 4 o K78 K12 GC rfl (mpc rfl mpn)) ?_
 rintro _ ac ⟨b2,rfl,H⟩
 obtain ⟨⟨S,U⟩,hc,P⟩:=bI P
 refine sc 27 rfl rfl (yc H0 (Hz (Ac.mk (i64.wrap (x.B-x.D)) (i64.wrap (x.A+x.C)) (i64.wrap (x.B+x.D)) (i64.wrap (x.C-x.A))) [x] (aD b2) 1 1 _ rfl (H.inn [false,false,true] rfl [] rfl) hc)) ?_
 rintro _ af ⟨rfl,hd⟩
 have V:=H.out [false,false,true] rfl hd
 refine sQ 28 (ye (gR_ S))<|sQ 29 (ye (.bool U)) ?_
 refine s0 (yK 1 4 0 V K12) ?_
 rintro _ ag ⟨rfl,J⟩
 refine sQ 3 yu (rn (ct_ ?_))
 obtain ⟨rfl,rfl⟩:=pr2 (sI P)
 exact ret2 Tryz.results138 (rX K25 K12 (J.c 1)) rT ⟨rfl,(J.sN [])⟩

theorem LQ (x:Ad) (J:Int)  (Q:World)  (hS:ST Q [] Q [] []) {r_:Ac} {S:Bool} (hF:Bg x J=some (r_,S)) :
  CV Tryz.prog 137 #[gD_ x,vi J] Q (fun v w'=>v=.tuple #[gR_ r_,.bool S]∧ST Q [] w' [] []):=by
 unfold Bg at hF
 refine cv_of_cw 28 Tryz.func137 rfl Tryz.ntmps137 rfl ?_
 refine cq (cr ?_)
 refine sS 2 (yV (kD_ x) 5 hS) ?_
 rintro _ w_ ⟨b,rfl,ac⟩
 refine sS 4 (yN [vi 0,vi 0,vi 0,vi 0] 4 ac K37) ?_
 rintro _ ap ⟨b1,rfl,U⟩
 refine sQ 5 yu (rn (cq (cr ?_)))
 refine sQ 9 (yd (aD b) 0 3 K97 K12)<|sQ 10 (ya (aD b) 0 (kD_ x) (kR_ x.Num) K25 K12 (U.c 0)) ?_
 refine sS 6 (yN [vi 0,vi 0,vi 0,vi 0] 4 U K37) ?_
 rintro _ aq ⟨b2,rfl,ae⟩
 refine s0 (yK 2 4 0 ae K12) ?_
 rintro _ ar ⟨rfl,V⟩
 refine sQ 7 yu (rn (cq (cq (cr ?_))))
 refine sQ 11 (yd (aD b) 0 0 K86 K1)<|sQ 12 (yz 4 K0 (V.c 0))<|sQ 8 yu (rn ?_)
 obtain ⟨z,hz,af⟩:=bI hF
 refine cw_block ?_
 refine cw_loop (fun k f w=>∃ (A:Int) (B:Int) (C:Int) (D:Int) (ok:Bool) (k_:Int),FF f [(1,vi J),(4,pt (aD b1) 0),(6,pt (aD b2) 0),(7,.bool ok),(8,vi k_)]∧ST Q [] w [⟨aD b1,110,[vi 0,vi 0,vi 0,vi 0],4⟩,⟨aD b2,110,[vi A,vi B,vi C,vi D],4⟩] []∧whX (Cw J) k (A,B,C,D,ok,k_)=some z) fuel ⟨x.Num.A,x.Num.B,x.Num.C,x.Num.D,true,x.Exp,(fc rfl (fc rfl (fc rfl (fc rfl (fc rfl fn_))))),(V.sel [1,2] rfl rfl),hz⟩ ?_
 rintro K13 f w ⟨A,B,C,D,ok,k_,o,u,hL⟩
 obtain ⟨K35,y,rfl,hb,W⟩:=whX_go hL
 unfold Cw at hb
 refine cq (cq (cr ?_))
 refine sQ 13 (yv rfl (o.g 8 4))<|sQ 14 (yv rfl (o.g 1 0))<|sQ 15 zL<|sQ 16 yv ?_
 refine sgq 17 rfl rfl (uT_ 16) (fun hg=>(yv rfl (o.g 7 3))) ?_
 refine sQ 18 yA (rn ?_)
 refine cw_cond rfl (fun O=>?_) (fun O=>?_)
 ·skip
  have P:=ct hb O
  refine cw_skip (cq (cw_block (cr ?_)))
  refine sQ 22 (yw 0 K25 K12 (u.c 1) rfl (o.g 6 2)) ?_
  obtain ⟨⟨H,Z⟩,hc,P⟩:=bI P
  refine sc 23 rfl rfl (yc Qb (TA (Ac.mk A B C D) _  (u.inn0 [] rfl) hc)) ?_
  rintro _ aw ⟨rfl,hd⟩
  have ag:=u.out00 hd
  refine sQ 21 yv<|sQ 24 (ye (gR_ H))<|sQ 25 (ye (.bool Z)) ?_
  refine s0 (yK 1 4 0 ag K12 rfl (o.g 6 2)) ?_
  rintro _ ay ⟨rfl,ah⟩
  refine sQ 7 yu (rn (cr ?_))
  refine sQ 19 (yv rfl (o.g 8 4))<|sQ 20 zP<|sQ 8 yu (rn ?_)
  obtain rfl:=sI P
  exact ⟨K35,Nat.lt_succ_self _,H.A,H.B,H.C,H.D,Z,(i64.wrap (k_+1)),(o.a 1 0 (o.a 4 1 (o.a 6 2 (fc rfl (fc rfl fn_))))),(ah.sel [0,1] rfl rfl),W⟩
 ·skip
  have ai:=cf' hb O
  refine cw_exit rfl ?_
  obtain rfl:=sI ai
  obtain rfl:=sI W
  refine cq (cr ?_)
  refine sQ 26 (yw 0 K25 K12 (u.c 1) rfl (o.g 6 2))<|sQ 27 (yv rfl (o.g 7 3)) ?_
  refine s0 (yK 0 4 0 u K12 rfl (o.g 4 1)) ?_
  rintro _ aA ⟨rfl,aa⟩
  refine sQ 5 yu (rn (ct_ ?_))
  obtain ⟨rfl,rfl⟩:=pr2 (sI af)
  exact ret2 Tryz.results137 (rX K25 K12 (aa.c 0) (o.g 4 1)) rT ⟨rfl,(aa.sN [])⟩

theorem RJ (x:Ad) (y:Ad) (o:Ac→Ac→Option (Ac×Bool)) (kf:Nat) (D:Array Value) (Rf:List Ro) (w0:World) (hk:callB Tryz.prog kf=true) (hp:∀ (w:World),ST w [] w [] Rf→∀ (x1:Ac) (x2:Ac) (y2:Ac) (y3:Bool),o x1 x2=some (y2,y3)→CV Tryz.prog kf ((gR_ x1)::(gR_ x2)::D.toList).toArray w (fun v w'=>v=.tuple #[gR_ y2,.bool y3]∧ST w [] w' [] [])) (hS:ST w0 [] w0 [] (Rf)) {r_:Ad} {ak:Bool} (hF:Gv x y o=some (r_,ak)) :
  CV Tryz.prog 132 #[gD_ x,gD_ y,.func (.func kf) #[] D] w0 (fun v w'=>v=.tuple #[gD_ r_,.bool ak]∧ST w0 [] w' [] []):=by
 unfold Gv at hF
 refine cv_of_cw 64 Tryz.func132 rfl Tryz.ntmps132 rfl ?_
 refine cq (cr ?_)
 refine sS 3 (yV (kD_ x) 5 hS) ?_
 rintro _ w_ ⟨b,rfl,ay⟩
 refine sS 4 (yV (kD_ y) 5 ay) ?_
 rintro _ bj ⟨b1,rfl,aA⟩
 refine sS 6 (yN kZ_ 5 aA K33) ?_
 rintro _ bm ⟨b2,rfl,af⟩
 refine sQ 7 (yg (.bool false)) (rn (cq (cq (cr ?_))))
 refine sQ 15 (yw 0 K21 K10 (af.c 0)) ?_
 obtain ⟨aB,hc,hF⟩:=bI hF
 refine sc 16 rfl rfl (yc K98 (F9 x _  (af.inn0 [] rfl) hc)) ?_
 rintro _ bn ⟨rfl,hd⟩
 have Q:=af.out00 hd
 refine sQ 17 yn<|sQ 18 (ym (.bool (!aB))) ?_
 refine sgq 19 rfl rfl (uF_ 18) (fun hg=>(yw 0 K21 K10 (Q.c 1))) ?_
 obtain ⟨aE,aF,hF⟩:=bI hF
 refine sgc 20 (v:=.bool aE) (F:=Q.fn) rfl rfl (uF_ 18) Q (fun al=>(yc K98 (CV.mono (F9 y _  (Q.inn0 [] rfl) (gb_inv aF al)) (by rintro _ _ ⟨rfl,h⟩; exact ⟨rfl,Q.out00 h⟩)) rfl (mc (gv_of al) mn))) ?_
 rintro bo O
 refine sgq 21 rfl rfl (uF_ 18) (fun aG=>(yn rfl (gv_of aG))) ?_
 refine sQ 22 yO (rn ?_)
 refine cw_cond rfl (fun hb=>?_) (fun hb=>?_)
 ·skip
  have aI:=ct hF hb
  refine cq (cr ?_)
  refine sQ 23 (Y_buildS (zs:=kZ_) (vs:=[]) (cs:=kZ_) K61 K33 rfl mpn rfl) ?_
  refine s0 (yK 2 5 0 O K10) ?_
  rintro _ bp ⟨rfl,am⟩
  refine sQ 7 (yg (.bool false)) (rn (ct_ ?_))
  obtain ⟨rfl,rfl⟩:=pr2 (sI aI)
  exact ret2 Tryz.results132 (rX K21 K10 (am.c 2)) rT ⟨rfl,(am.sN [])⟩
 ·skip
  have u:=cf' hF hb
  refine cw_skip (cq (cr ?_))
  refine sQ 24 (yd (aD b) 0 0 K86 K1)<|sQ 25 (yz 4 K0 (O.c 0))<|sQ 26 (yd (aD b1) 0 0 K86 K1)<|sQ 27 (yz 4 K0 (O.c 1))<|sQ 28 (Y_max2 (k:=.i64) (a:=x.Exp) (b:=y.Exp) rfl rfl rfl)<|sQ 8 (yg (vi (if x.Exp<y.Exp then y.Exp else x.Exp))) (rn (cq (cr ?_)))
  refine sQ 30 (yw 0 K21 K10 (O.c 0))<|sQ 31 (ym (vi (if x.Exp<y.Exp then y.Exp else x.Exp))) ?_
  obtain ⟨⟨V,P⟩,aJ,u⟩:=bI u
  refine sc 32 rfl rfl (yc L2 (LQ x (if x.Exp<y.Exp then y.Exp else x.Exp) _  (O.inn0 [] rfl) aJ)) ?_
  rintro _ bq ⟨rfl,aK⟩
  have aL:=O.out00 aK
  refine sQ 29 (ym (.tuple #[gR_ V,.bool P]))<|sQ 33 (ye (gR_ V))<|sQ 34 (ye (.bool P)) ?_
  refine sS 9 (yN [vi 0,vi 0,vi 0,vi 0] 4 aL K37) ?_
  rintro _ bt ⟨b3,rfl,aM⟩
  refine s0 (yK 3 4 0 aM K12) ?_
  rintro _ bu ⟨rfl,ag⟩
  refine sQ 10 (yg (.bool P)) (rn (cq (cr ?_)))
  refine sQ 36 (yw 0 K21 K10 (ag.c 1))<|sQ 37 (ym (vi (if x.Exp<y.Exp then y.Exp else x.Exp))) ?_
  obtain ⟨⟨W,S⟩,aO,u⟩:=bI u
  refine sc 38 rfl rfl (yc L2 (LQ y (if x.Exp<y.Exp then y.Exp else x.Exp) _  (ag.inn0 [] rfl) aO)) ?_
  rintro _ bv ⟨rfl,aQ⟩
  have an:=ag.out00 aQ
  refine sQ 35 (ym (.tuple #[gR_ W,.bool S]))<|sQ 39 (ye (gR_ W))<|sQ 40 (ye (.bool S)) ?_
  refine sS 11 (yN [vi 0,vi 0,vi 0,vi 0] 4 an K37) ?_
  rintro _ a8 ⟨b4,rfl,ao⟩
  refine s0 (yK 4 4 0 ao K12) ?_
  rintro _ a9 ⟨rfl,H⟩
  refine sQ 12 (yg (.bool S)) (rn (cq (cr ?_)))
  refine sQ 42 (ym (.func (.func kf) #[] D))<|sQ 43 (yw 0 K25 K12 (H.c 3))<|sQ 44 (yw 0 K25 K12 (H.c 4)) ?_
  obtain ⟨⟨Z,U⟩,aR,u⟩:=bI u
  refine sc 45 rfl rfl (Yc_clos (g:=kf) (vs:=(gR_ V)::(gR_ W)::D.toList) hk rfl rfl (clo_args (mc rfl (mc rfl mn))) (hp _ (H.innS (fun _ h=>mOd (i:=0) h)) V W Z U aR)) ?_
  rintro _ ba ⟨rfl,aT⟩
  have ap:=H.out00 aT
  refine sQ 41 (ym (.tuple #[gR_ Z,.bool U]))<|sQ 46 (ye (gR_ Z))<|sQ 47 (ye (.bool U)) ?_
  refine sS 13 (yN [vi 0,vi 0,vi 0,vi 0] 4 ap K37) ?_
  rintro _ bb ⟨b5,rfl,aq⟩
  refine s0 (yK 5 4 0 aq K12) ?_
  rintro _ bc ⟨rfl,J⟩
  refine sQ 14 (yg (.bool U)) (rn (cq (cq (cr ?_))))
  refine sQ 48 (ym (.bool P))<|sQ 49 yn<|sQ 50 (ym (.bool (!P))) ?_
  refine sgq 51 rfl rfl (uF_ 50) (fun bw=>(ym (.bool S))) ?_
  refine sgq 52 rfl rfl (uF_ 50) (fun aU=>(yn rfl (gv_of aU))) ?_
  refine sQ 53 yO<|sQ 54 (ym (.bool ((!P)||(!S)))) ?_
  refine sgq 55 rfl rfl (uF_ 54) (fun bA=>(ym (.bool U))) ?_
  refine sgq 56 rfl rfl (uF_ 54) (fun aV=>(yn rfl (gv_of aV))) ?_
  refine sQ 57 yO (rn ?_)
  refine cw_cond rfl (fun ah=>?_) (fun ah=>?_)
  ·skip
   have aY:=ct u ah
   refine cq (cr ?_)
   refine sQ 58 (Y_buildS (zs:=kZ_) (vs:=[]) (cs:=kZ_) K61 K33 rfl mpn rfl) ?_
   refine s0 (yK 2 5 0 J K10) ?_
   rintro _ bd ⟨rfl,aa⟩
   refine sQ 7 (yg (.bool false)) (rn (ct_ ?_))
   obtain ⟨rfl,rfl⟩:=pr2 (sI aY)
   exact ret2 Tryz.results132 (rX K21 K10 (aa.c 2)) rT ⟨rfl,(aa.sN [])⟩
  ·skip
   have ai:=cf' u ah
   refine cw_skip (cq (cr ?_))
   refine sQ 59 (yw 0 K25 K12 (J.c 5))<|sQ 60 (ym (vi (if x.Exp<y.Exp then y.Exp else x.Exp))) ?_
   obtain ⟨⟨ar,ab⟩,a0,ai⟩:=bI ai
   refine sc 61 rfl rfl (yc Lb (LJ Z (if x.Exp<y.Exp then y.Exp else x.Exp) _  (J.inn0 [] rfl) a0)) ?_
   rintro _ be ⟨rfl,a1⟩
   have au:=J.out00 a1
   refine sQ 62 (ye (gD_ ar))<|sQ 63 (ye (.bool ab)) ?_
   refine s0 (yK 2 5 0 au K10) ?_
   rintro _ bf ⟨rfl,ac⟩
   refine sQ 7 (yg (.bool ab)) (rn (ct_ ?_))
   obtain ⟨rfl,rfl⟩:=pr2 (sI ai)
   exact ret2 Tryz.results132 (rX K21 K10 (ac.c 2)) rT ⟨rfl,(ac.sN [])⟩

theorem Rn (x:Ac) (y:Ac)  (O:World)  (hS:ST O [] O [] []) {r_:Ac} {u:Bool} (P:Ey x y=some (r_,u)) :
  CV Tryz.prog 133 #[gR_ x,gR_ y] O (fun v w'=>v=.tuple #[gR_ r_,.bool u]∧ST O [] w' [] []):=by
 unfold Ey at P
 refine cv_of_cw 33 Tryz.func133 rfl Tryz.ntmps133 rfl ?_
 refine cq (cr ?_)
 refine sS 2 (yV (kR_ x) 4 hS) ?_
 rintro _ w_ ⟨b,rfl,S⟩
 refine sS 3 (yV (kR_ y) 4 S) ?_
 rintro _ ae ⟨Q,rfl,U⟩
 refine sS 4 (yN [vi 0,vi 0,vi 0,vi 0] 4 U K37) ?_
 rintro _ af ⟨b2,rfl,o⟩
 refine sQ 5 yu (rn (cq (cr ?_)))
 refine sQ 6 (yd (aD b) 0 0 K51 K1)<|sQ 7 (yz 0 K0 (o.c 0))<|sQ 8 (yd (aD Q) 0 0 K51 K1)<|sQ 9 (yz 0 K0 (o.c 1))<|sQ 10 zP<|sQ 11 (yd (aD b) 0 0 K53 K1) ?_
 refine sQ 12 (yz 1 K0 (o.c 0))<|sQ 13 (yd (aD Q) 0 0 K53 K1)<|sQ 14 (yz 1 K0 (o.c 1))<|sQ 15 zP<|sQ 16 (yd (aD b) 0 0 K54 K1)<|sQ 17 (yz 2 K0 (o.c 0)) ?_
 refine sQ 18 (yd (aD Q) 0 0 K54 K1)<|sQ 19 (yz 2 K0 (o.c 1))<|sQ 20 zP<|sQ 21 (yd (aD b) 0 0 K55 K1)<|sQ 22 (yz 3 K0 (o.c 0))<|sQ 23 (yd (aD Q) 0 0 K55 K1) ?_
 refine sQ 24 (yz 3 K0 (o.c 1))<|sQ 25 zP<|sQ 26 (Y_buildS (zs:=[vi 0,vi 0,vi 0,vi 0]) (vs:=[(0,vi (i64.wrap (x.A+y.A))),(1,vi (i64.wrap (x.B+y.B))),(2,vi (i64.wrap (x.C+y.C))),(3,vi (i64.wrap (x.D+y.D)))]) (cs:=[vi (i64.wrap (x.A+y.A)),vi (i64.wrap (x.B+y.B)),vi (i64.wrap (x.C+y.C)),vi (i64.wrap (x.D+y.D))]) K67 K37 rfl (mpc rfl (mpc rfl (mpc rfl (mpc rfl mpn)))) rfl)<|sQ 27 (yw 0 K25 K12 (o.c 0))<|sQ 28 (yw 0 K25 K12 (o.c 1)) ?_
 refine sS 29 (yF 4 2 [vi x.A,vi x.B,vi x.C,vi x.D,vi y.A,vi y.B,vi y.C,vi y.D] 8 o K78 K12 GC rfl (mpc rfl (mpc rfl mpn))) ?_
 rintro _ ag ⟨b3,rfl,H⟩
 obtain ⟨⟨V,W⟩,hc,P⟩:=bI P
 refine sc 30 rfl rfl (yc H0 (Hz (Ac.mk (i64.wrap (x.A+y.A)) (i64.wrap (x.B+y.B)) (i64.wrap (x.C+y.C)) (i64.wrap (x.D+y.D))) [x,y] (aD b3) 2 2 _ rfl (H.inn [false,false,false,true] rfl [] rfl) hc)) ?_
 rintro _ ai ⟨rfl,hd⟩
 have Z:=H.out [false,false,false,true] rfl hd
 refine sQ 31 (ye (gR_ V))<|sQ 32 (ye (.bool W)) ?_
 refine s0 (yK 2 4 0 Z K12) ?_
 rintro _ aj ⟨rfl,J⟩
 refine sQ 5 yu (rn (ct_ ?_))
 obtain ⟨rfl,rfl⟩:=pr2 (sI P)
 exact ret2 Tryz.results133 (rX K25 K12 (J.c 2)) rT ⟨rfl,(J.sN [])⟩

theorem Sz (x:Ad) (y:Ad)  (H:World)  (hS:ST H [] H [] []) {Z:Ad} {u:Bool} (J:BS x y=some (Z,u)) :
  CV Tryz.prog 126 #[gD_ x,gD_ y] H (fun v w'=>v=.tuple #[gD_ Z,.bool u]∧ST H [] w' [] []):=by
 unfold BS at J
 refine cv_of_cw 11 Tryz.func126 rfl Tryz.ntmps126 rfl ?_
 refine cq (cr ?_)
 refine sS 2 (yV (kD_ x) 5 hS) ?_
 rintro _ w_ ⟨b,rfl,O⟩
 refine sS 3 (yV (kD_ y) 5 O) ?_
 rintro _ ac ⟨b1,rfl,P⟩
 refine sS 4 (yN kZ_ 5 P K33) ?_
 rintro _ ae ⟨b2,rfl,o⟩
 refine sQ 5 yu (rn (cq (cr ?_)))
 refine sQ 6 (yw 0 K21 K10 (o.c 0))<|sQ 7 (yw 0 K21 K10 (o.c 1)) ?_
 obtain ⟨⟨Q,S⟩,hc,J⟩:=bI J
 refine sc 8 rfl rfl (yc SJ (RJ x y Ey 133 (#[]) [] _ TB (fun w hw U V ag ah h_=>Rn U V  w  hw h_) (o.inn0 [] rfl) hc)) ?_
 rintro _ aj ⟨rfl,hd⟩
 have W:=o.out00 hd
 refine sQ 9 (ye (gD_ Q))<|sQ 10 (ye (.bool S)) ?_
 refine s0 (yK 2 5 0 W K10) ?_
 rintro _ ak ⟨rfl,D⟩
 refine sQ 5 yu (rn (ct_ ?_))
 obtain ⟨rfl,rfl⟩:=pr2 (sI J)
 exact ret2 Tryz.results126 (rX K21 K10 (D.c 2)) rT ⟨rfl,(D.sN [])⟩

theorem Qt (i:Int) (j:Int) (p:Ag) (P:Ag) (B:Option Addr) (B1:Option Addr) (c n:Nat) (B2:Option Addr) (B3:Option Addr) (c1 n1:Nat) (w0:World) (hn:p.Cells.length=n) (aK:P.Cells.length=n1) (hS:ST w0 [] w0 [] [⟨B,[vi p.Rows,vi p.Cols,.slice B1 n c]⟩,⟨B1,(p.Cells.flatMap Au)⟩,⟨B2,[vi P.Rows,vi P.Cols,.slice B3 n1 c1]⟩,⟨B3,(P.Cells.flatMap Au)⟩]) {r_:Ad} {aj:Bool} (hF:Dk i j p P=some (r_,aj)) :
  CV Tryz.prog 125 #[vi i,vi j,pt B 0,pt B2 0] w0 (fun v w'=>v=.tuple #[gD_ r_,.bool aj]∧ST w0 [] w' [] []):=by
 subst hn
 subst aK
 unfold Dk at hF
 refine cv_of_cw 48 Tryz.func125 rfl Tryz.ntmps125 rfl ?_
 refine cq (cr ?_)
 refine sS 6 (yN kZ_ 5 hS K33) ?_
 rintro _ w_ ⟨b,rfl,aL⟩
 refine sQ 7 yu (rn (cq (cr ?_)))
 refine sQ 14 (Y_buildS (zs:=kZ_) (vs:=[]) (cs:=kZ_) K61 K33 rfl mpn rfl) ?_
 refine sS 8 (yN kZ_ 5 aL K33) ?_
 rintro _ bq ⟨b1,rfl,aO⟩
 refine s0 (yK 1 5 0 aO K10) ?_
 rintro _ bt ⟨rfl,ak⟩
 refine rn (cq (cq (cr ?_)))
 refine sQ 15 (yd B 0 0 K71 K1)<|sQ 16 (yz 1 K0 (ak.rf (i:=0) rfl))<|sQ 17 yv (rn ?_)
 obtain ⟨hN,hF⟩:=chk_inv hF
 obtain ⟨z,hz,al⟩:=bI hF
 refine cw_block ?_
 refine cw_loop (fun k f w=>∃ (U:Nat) (A:Int) (B4:Int) (C:Int) (D:Int) (Exp:Int),FF f [(0,vi i),(1,vi j),(2,pt B 0),(3,pt B2 0),(6,pt (aD b) 0),(8,pt (aD b1) 0),(16,vi p.Cols),(17,vi (U:Int))]∧ST w0 [] w [⟨aD b,112,kZ_,5⟩,⟨aD b1,112,[vi A,vi B4,vi C,vi D,vi Exp],5⟩] [⟨B,kM_ p B1 c⟩,⟨B1,(p.Cells.flatMap Au)⟩,⟨B2,kM_ P B3 c1⟩,⟨B3,(P.Cells.flatMap Au)⟩]∧U+k=p.Cols.toNat∧forX (EM p i P j) k U (A,B4,C,D,Exp)=some z) p.Cols.toNat ⟨0,0,0,0,0,0,(fc rfl (fc rfl (fc rfl (fc rfl (fc rfl (fc rfl (fc rfl (fc rfl fn_)))))))),(ak.sel [0,1] rfl rfl),Nat.zero_add _,hz⟩ ?_
 rintro k_ f w ⟨U,A,B4,C,D,Exp,o,Q,bw,hL⟩
 refine cq (cr ?_)
 refine sQ 18 (zL rfl (o.g 17 7) (o.g 16 6)) (rn (cq ?_))
 refine cw_cond rfl (fun ac=>?_) (fun ac=>?_)
 ·skip
  have an:U<p.Cols.toNat:=by have h:=of_decide_eq_true ac; omega
  obtain ⟨K13,rfl⟩:∃ k2,k_=k2+1:=⟨k_-1,by omega⟩
  obtain ⟨y,hb,ao⟩:=forX_go hL
  unfold EM at hb
  refine cw_skip (cq (cw_block (cq (cr ?_))))
  refine sQ 19 (yv rfl (o.g 17 7))<|sQ 9 yu (rn (cq ?_))
  obtain ⟨aR,hc,hb⟩:=bI hb
  obtain ⟨aT,aU,hb⟩:=bI hb
  obtain ⟨⟨S,ae⟩,aV,hb⟩:=bI hb
  refine ra_start (Q.se [0,1]).fn (by kernel_rfl) ?_
  have ap:=Q.drew
  have H:=ap.se [0,1]
  refine rq 0 21 rfl H (fun _ q=>(yw 0 K32 K19 (ST.rf q (i:=0) rfl) rfl (o.g 2 2)))<|rq 1 22 rfl H (fun _ q=>(yv rfl (o.g 0 0)))<|rq 2 23 rfl H (fun _ q=>yv)<|rq 4 25 rfl H (fun _ q=>(yw 0 K32 K19 (ST.rf q (i:=2) rfl) rfl (o.g 3 3)))<|rq 5 26 rfl H (fun _ q=>yv) ?_
  refine rq 6 27 rfl H (fun _ q=>(yv rfl (o.g 1 1))) ?_
  let O0:Ob:=⟨aD b1,112,[vi A,vi B4,vi C,vi D,vi Exp],5⟩
  let P1:List Ob:=[⟨aD b,112,kZ_,5⟩,O0]
  refine rf_in (k:=8) (ts:=[]) (L:=P1) (G:=[]) [fN 12 10 112 kZ_ 5] ap (flc rfl rfl rfl (fun _ _ _ _ bC h _=>(yN kZ_ 5 h K33)) fln) (fun hJ=>?_)
  refine rf_all [3] hJ (fun Z w h=>(ST.sel (ST.noF h) [0,1] rfl rfl)) (fun Z bD aY aq=>?_)
  refine rC 24 3 rfl (yc Iq (Jh p i (U:Int) B1 c p.Cells.length _ rfl (aq.inn0 [(true,1)] rfl) hc)) ?_ aN
  rintro _ bE ⟨rfl,hd⟩
  have ar:=aq.out00 hd
  refine rf_k (L:=P1) aY ar (fun Z w h=>(ST.sel (ST.noF h) [0,1] rfl rfl)) ?_
  refine rf_all [7] hJ (fun Z w h=>(ST.sel (ST.noF h) [0,1] rfl rfl)) (fun Z1 bF a0 V=>?_)
  refine rC 28 7 rfl (yc Iq (Jh P (U:Int) j B3 c1 P.Cells.length _ rfl (V.inn0 [(true,3)] rfl) aU)) ?_ aN
  rintro _ bH ⟨rfl,a1⟩
  have au:=V.out00 a1
  refine rf_k (L:=P1) a0 au (fun Z w h=>(ST.sel (ST.noF h) [0,1] rfl rfl)) ?_
  refine rf_all [8] hJ (fun Z w h=>(ST.sel (ST.noF h) [0,1] rfl rfl)) (fun Z2 bJ a2 W=>?_)
  refine rC 29 8 rfl (yc Ks (Lw aR aT _  (W.inn0 [] rfl) aV)) ?_ aN
  rintro _ bK ⟨rfl,a3⟩
  have av:=W.out00 a3
  refine rf_k (L:=P1) a2 av (fun Z w h=>(ST.sel (ST.noF h) [0,1] rfl rfl)) ?_
  refine rf_q 9 20 (v:=.tuple #[gD_ S,.bool ae]) rfl (fun Z w h=>(ST.sel (ST.noF h) [0,1] rfl rfl)) (fun Z _ q=>yv) ?_
  refine rf_q 10 30 (v:=gD_ S) rfl (fun Z w h=>(ST.sel (ST.noF h) [0,1] rfl rfl)) (fun Z _ q=>(ye (gD_ S))) ?_
  refine rf_q 11 31 (v:=.bool ae) rfl (fun Z w h=>(ST.sel (ST.noF h) [0,1] rfl rfl)) (fun Z _ q=>(ye (.bool ae))) ?_
  refine rf_force hJ (fun Z w h=>(ST.sel (ST.noF h) [0,1] rfl rfl)) (fun b2=>?_)
  refine rf_out (fun bL aw=>?_)
  refine rA [13] ?_
  refine rZ 13 rfl (yK 2 5 0 aw K10) ?_ aN
  rintro _ be ⟨rfl,u⟩
  refine ⟨(u.se [0,1]),?_⟩
  refine rq 14 11 rfl (u.se [0,1]) (fun _ q=>yu) ?_
  refine ra_done (by kernel_rfl) ?_
  refine cq (cr ?_)
  refine sQ 33 (yw 0 K21 K10 (u.c 1) rfl (o.g 8 5))<|sQ 34 (yw 0 K21 K10 (u.c 2)) ?_
  obtain ⟨⟨J,a5⟩,a6,hb⟩:=bI hb
  refine sc 35 rfl rfl (yc Sl (Sz (Ad.mk (Ac.mk A B4 C D) Exp) S _  (u.inn0 [] rfl) a6)) ?_
  rintro _ bf ⟨rfl,a7⟩
  have ay:=u.out00 a7
  refine sQ 32 yv<|sQ 36 (ye (gD_ J))<|sQ 37 (ye (.bool a5)) ?_
  refine sS 12 (yN kZ_ 5 ay K33) ?_
  rintro _ bg ⟨b3,rfl,aA⟩
  refine s0 (yK 3 5 0 aA K10) ?_
  rintro _ bh ⟨rfl,O⟩
  refine sQ 13 yu (rn (cq (cq (cr ?_))))
  refine sQ 38 yv<|sQ 39 yn<|sQ 40 yv ?_
  refine sgq 41 rfl rfl (uF_ 40) (fun hg=>yv) ?_
  refine sgq 42 rfl rfl (uF_ 40) (fun a8=>(yn rfl (gv_of a8))) ?_
  refine sQ 43 yO (rn ?_)
  refine cw_cond rfl (fun af=>?_) (fun af=>?_)
  ·skip
   have a9:=ct hb af
   refine cq (cr ?_)
   refine sQ 44 (Y_buildS (zs:=kZ_) (vs:=[]) (cs:=kZ_) K61 K33 rfl mpn rfl) ?_
   refine s0 (yK 0 5 0 O K10 rfl (o.g 6 4)) ?_
   rintro _ bj ⟨rfl,aa⟩
   refine sQ 7 yu (rn (ct_ ?_))
   obtain rfl:=sI a9
   obtain rfl:=sI ao
   obtain ⟨rfl,rfl⟩:=pr2 (sI al)
   exact ret2 Tryz.results125 (rX K21 K10 (aa.c 0) (o.g 6 4)) rT ⟨rfl,(aa.sN [])⟩
  ·skip
   have ba:=cf' hb af
   refine cw_skip (cr ?_)
   refine sQ 45 (yw 0 K21 K10 (O.c 3)) ?_
   refine s0 (yK 1 5 0 O K10 rfl (o.g 8 5)) ?_
   rintro _ bk ⟨rfl,aB⟩
   refine rn (cr ?_)
   refine sQ 46 (zP rfl (o.g 17 7))<|sQ 17 yv (rn ?_)
   obtain rfl:=sI ba
   exact ⟨K13,Nat.lt_succ_self _,U+1,J.Num.A,J.Num.B,J.Num.C,J.Num.D,J.Exp,(o.a 0 0 (o.a 1 1 (o.a 2 2 (o.a 3 3 (o.a 6 4 (o.a 8 5 (o.a 16 6 (fc (congrArg (Value.int .i64) (wr_succ an hN)) fn_)))))))),(aB.sel [0,1] rfl rfl),(by omega),ao⟩
 ·skip
  obtain rfl:k_=0:=by have h:=of_decide_eq_false ac; omega
  refine cw_exit rfl ?_
  obtain rfl:=sI hL
  refine cq (cr ?_)
  refine sQ 47 (yw 0 K21 K10 (Q.c 1) rfl (o.g 8 5)) ?_
  refine s0 (yK 0 5 0 Q K10 rfl (o.g 6 4)) ?_
  rintro _ bm ⟨rfl,ab⟩
  refine sQ 7 yu (rn (ct_ ?_))
  obtain ⟨rfl,rfl⟩:=pr2 (sI al)
  exact ret2 Tryz.results125 (rX K21 K10 (ab.c 0) (o.g 6 4)) rT ⟨rfl,(ab.sN [])⟩

theorem PX (a:Ag) (b:Ag) (B:Option Addr) (c n:Nat) (D:Option Addr) (V n1:Nat) (w0:World) (hn:a.Cells.length=n) (af:b.Cells.length=n1) (hS:ST w0 [] w0 [] [⟨B,(a.Cells.flatMap Au)⟩,⟨D,(b.Cells.flatMap Au)⟩]) {r_:Ag} {W:Bool} (H:Fr a b=some (r_,W)) :
  CV Tryz.prog 103 #[.agg #[vi a.Rows,vi a.Cols,.slice B n c],.agg #[vi b.Rows,vi b.Cols,.slice D n1 V]] w0 (fun v w'=>∃ (B2:Option Addr) (c2:Nat),v=.tuple #[gM_ r_ B2 c2,.bool W]∧ST w0 [] w' [⟨B2,112,(r_.Cells.flatMap Au),c2*5⟩] []):=by
 subst hn
 subst af
 unfold Fr at H
 refine cv_of_cw 30 Tryz.func103 rfl Tryz.ntmps103 rfl ?_
 refine cq (cr ?_)
 refine sS 2 (yV (kM_ a B c) 3 hS) ?_
 rintro _ w_ ⟨S,rfl,ah⟩
 refine sS 3 (yV (kM_ b D V) 3 ah) ?_
 rintro _ aK ⟨U,rfl,ai⟩
 refine sS 4 (yN kN_ 3 ai K45) ?_
 rintro _ aL ⟨b3,rfl,J⟩
 refine sQ 5 yu (rn (cq (cq (cr ?_))))
 refine sQ 6 (yw 0 K32 K19 (J.c 0)) ?_
 obtain ⟨aM,hc,H⟩:=bI H
 refine sc 7 rfl rfl (yc FK (FY a B c a.Cells.length _ rfl (J.inn0 [(true,0)] rfl) hc)) ?_
 rintro _ aO ⟨rfl,hd⟩
 have u:=J.out00 hd
 refine sQ 8 yn<|sQ 9 yv ?_
 refine sgq 10 rfl rfl (uF_ 9) (fun hg=>(yw 0 K32 K19 (u.c 1))) ?_
 obtain ⟨aj,ak,H⟩:=bI H
 refine sgc 11 (v:=.bool aj) (F:=u.fn) rfl rfl (uF_ 9) u (fun Z=>(yc FK (CV.mono (FY b D V b.Cells.length _ rfl (u.inn0 [(true,1)] rfl) (gb_inv ak Z)) (by rintro _ _ ⟨rfl,h⟩; exact ⟨rfl,u.out00 h⟩)) rfl (mc (gv_of Z) mn))) ?_
 rintro aQ o
 refine sgq 12 rfl rfl (uF_ 9) (fun al=>(yn rfl (gv_of al))) ?_
 refine sQ 13 yO<|sQ 14 yv ?_
 refine sgq 15 rfl rfl (uF_ 14) (fun aR=>(yd (aD S) 0 0 K71 K1)) ?_
 refine sgq 16 rfl rfl (uF_ 14) (fun am=>(yz 1 K0 (o.c 0) rfl (gv_of am))) ?_
 refine sgq 17 rfl rfl (uF_ 14) (fun aT=>(yd (aD U) 0 0 K87 K1)) ?_
 refine sgq 18 rfl rfl (uF_ 14) (fun an=>(yz 0 K0 (o.c 1) rfl (gv_of an))) ?_
 refine sgq 19 rfl rfl (uF_ 14) (fun aa=>(Y_ne rfl (gv_of aa) (gv_of aa))) ?_
 refine sQ 20 yO (rn ?_)
 refine cw_cond rfl (fun hb=>?_) (fun hb=>?_)
 ·skip
  have ao:=ct H hb
  refine cq (cr ?_)
  refine sQ 21 (Y_buildS (zs:=kN_) (vs:=[]) (cs:=kN_) K84 K45 rfl mpn rfl) ?_
  refine s0 (yK 2 3 0 o K19) ?_
  rintro _ aU ⟨rfl,ap⟩
  refine sQ 5 yu (rn (ct_ ?_))
  have ab:=ap.addNil 112
  obtain ⟨rfl,rfl⟩:=pr2 (sI ao)
  exact ret2 Tryz.results103 (rX K32 K19 (ab.c 2)) rT ⟨none,0,rfl,(ab.sN [3])⟩
 ·skip
  have O:=cf' H hb
  refine cw_skip (cq (cr ?_))
  refine sQ 22 (yd (aD S) 0 0 K87 K1)<|sQ 23 (yz 0 K0 (o.c 0))<|sQ 24 (yd (aD U) 0 0 K71 K1)<|sQ 25 (yz 1 K0 (o.c 1))<|sQ 26 (Y_makeFunc (cs:=[pt (aD S) 0,pt (aD U) 0]) rfl rfl (mc rfl (mc rfl mn))) ?_
  obtain ⟨⟨aq,ar⟩,au,O⟩:=bI O
  refine sc 27 rfl rfl (yc HT (GV a.Rows b.Cols (fun P Q=>Dk P Q a b) 125 (#[pt (aD S) 0,pt (aD U) 0]) [⟨aD S,kM_ a B c⟩,⟨B,(a.Cells.flatMap Au)⟩,⟨aD U,kM_ b D V⟩,⟨D,(b.Cells.flatMap Au)⟩] _ Sx (fun w hw P Q aY a0 h_=>Qt P Q a b (aD S) B c a.Cells.length (aD U) D V b.Cells.length w rfl rfl hw h_) (o.inn0 [(false,0),(true,0),(false,1),(true,1)] rfl) au)) ?_
  rintro _ a2 ⟨B3,c3,rfl,av⟩
  have aw:=o.out0 av
  refine sQ 28 (ye (gM_ aq B3 c3))<|sQ 29 (ye (.bool ar)) ?_
  refine s0 (yK 2 3 0 aw K19) ?_
  rintro _ a3 ⟨rfl,ac⟩
  refine sQ 5 yu (rn (ct_ ?_))
  obtain ⟨rfl,rfl⟩:=pr2 (sI O)
  exact ret2 Tryz.results103 (rX K32 K19 (ac.c 2)) rT ⟨B3,c3,rfl,(ac.sN [3])⟩

theorem TO (c:Aj) (m:Ag) (ok:Bool) (B:Option Addr) (c1 n:Nat) (Q:Option Addr) (S n1:Nat) (w0:World) (hn:c.Gates.length=n) (aw:m.Cells.length=n1) (hS:ST w0 (bl [⟨Q,112,(m.Cells.flatMap Au),S*5⟩]) w0 [⟨Q,112,(m.Cells.flatMap Au),S*5⟩] [⟨B,(c.Gates.flatMap eN1)⟩]) {r_:Ag} {af:Bool} (hF:Fh c m ok=some (r_,af)) :
  CV Tryz.prog 74 #[.agg #[vi c.Qubits,.slice B n c1],.agg #[vi m.Rows,vi m.Cols,.slice Q n1 S],.bool ok] w0 (fun v w'=>∃ (B2:Option Addr) (c3:Nat),v=.tuple #[gM_ r_ B2 c3,.bool af]∧ST w0 (bl [⟨Q,112,(m.Cells.flatMap Au),S*5⟩]) w' [⟨B2,112,(r_.Cells.flatMap Au),c3*5⟩] []):=by
 subst hn
 subst aw
 unfold Fh at hF
 refine cv_of_cw 40 Tryz.func74 rfl Tryz.ntmps74 rfl ?_
 refine cq (cr ?_)
 refine sS 3 (yV [vi c.Qubits,.slice B c.Gates.length c1] 2 hS) ?_
 rintro _ w_ ⟨b,rfl,aA⟩
 refine sS 4 (yV (kM_ m Q S) 3 aA) ?_
 rintro _ a6 ⟨b1,rfl,aE⟩
 refine sS 6 (yN kN_ 3 aE K45) ?_
 rintro _ a7 ⟨b2,rfl,aF⟩
 refine sQ 7 yu (rn (cq (cq (cr ?_))))
 refine sQ 8 yu (rn ?_)
 obtain ⟨z,hz,aG⟩:=bI hF
 refine cw_block ?_
 let O1:Ob:=⟨aD b,29,[vi c.Qubits,.slice B c.Gates.length c1],2⟩
 refine cw_loop (fun k f w=>∃ (V:Bool) (Rows:Int) (Cols:Int) (Cells:List Ad) (i:Int) (W:Option Addr) (c4:Nat),FF f [(2,.bool V),(3,pt (aD b) 0),(4,pt (aD b1) 0),(6,pt (aD b2) 0),(8,vi i)]∧ST w0 (bl [⟨Q,112,(m.Cells.flatMap Au),S*5⟩]) w [O1,⟨aD b1,76,[vi Rows,vi Cols,.slice W Cells.length c4],3⟩,⟨W,112,(Cells.flatMap Au),c4*5⟩,⟨aD b2,76,kN_,3⟩] [⟨B,(c.Gates.flatMap eN1)⟩]∧whX (C6 c) k (V,Rows,Cols,Cells,i)=some z) fuel ⟨ok,m.Rows,m.Cols,m.Cells,0,Q,S,(fc rfl (fc rfl (fc rfl (fc rfl (fc rfl fn_))))),(aF.sel [1,2,0,3] rfl rfl),hz⟩ ?_
 rintro k_ f w ⟨V,Rows,Cols,Cells,i,W,c4,u,O,hL⟩
 obtain ⟨K13,y,rfl,hb,ah⟩:=whX_go hL
 unfold C6 at hb
 refine cq (cq (cr ?_))
 refine sQ 11 (yv rfl (u.g 8 4))<|sQ 12 (yd (aD b) 0 0 K40 K23 rfl (u.g 3 1))<|sQ 13 (yz 1 K29 (O.c 0))<|sQ 14 (Y_len K15 rfl rfl)<|sQ 15 zL<|sQ 16 yv ?_
 refine sgq 17 rfl rfl (uT_ 16) (fun hg=>(yv rfl (u.g 2 0))) ?_
 refine sQ 18 yA (rn ?_)
 refine cw_cond rfl (fun aa=>?_) (fun aa=>?_)
 ·skip
  have D:=ct hb aa
  refine cw_skip (cq (cw_block (cq ?_)))
  obtain ⟨x,hx,D⟩:=bI D
  obtain ⟨⟨J,ab⟩,hc,D⟩:=bI D
  refine ra_start (O.se [0,1,2,3]).fn (by kernel_rfl) ?_
  have ai:=O.drew
  have H:=ai.se [0,1,2,3]
  refine rq 0 22 rfl H (fun _ q=>(yd (aD b) 0 0 K44 K1 rfl (u.g 3 1)))<|rq 1 23 rfl H (fun _ q=>(yz 0 K0 (ST.c q 0)))<|rq 2 24 rfl H (fun _ q=>(yd (aD b) 0 0 K40 K23 rfl (u.g 3 1)))<|rq 3 25 rfl H (fun _ q=>(yz 1 K29 (ST.c q 0)))<|rq 4 26 rfl H (fun _ q=>(yv rfl (u.g 8 4))) ?_
  refine rq 5 27 rfl H (fun _ q=>(yI B i K15 K8 (gi_isSome eN4 rfl (ST.rf q (i:=0) rfl) hx) (getI_nn hx) (getI_ltI hx rfl)))<|rq 6 28 rfl H (fun _ q=>(ya B (i.toNat*3) (c.Gates.flatMap eN1) [vi x.Kind,vi x.A,vi x.B] K27 K8 (ST.rf q (i:=0) rfl) rfl rfl (eN4 x) (gi_seg eN4 hx))) ?_
  let O0:Ob:=⟨aD b1,76,[vi Rows,vi Cols,.slice W Cells.length c4],3⟩
  let O2:Ob:=⟨W,112,(Cells.flatMap Au),c4*5⟩
  refine rf_in (k:=6) (ts:=[]) (L:=[O1,O0,O2,⟨aD b2,76,kN_,3⟩]) (G:=[]) [fN 11 9 76 kN_ 3] ai (flc rfl rfl rfl (fun _ _ _ _ ba h _=>(yN kN_ 3 h K45)) fln) (fun hJ=>?_)
  refine rf_all [7] hJ (fun Z w h=>(ST.sel (ST.noF h) [0,1,2,3] rfl rfl)) (fun Z bb aI aj=>?_)
  refine rC 29 7 rfl (yc OF (Tt c.Qubits x _  (aj.inn0 [] rfl) hc)) ?_ aN
  rintro _ bc ⟨B4,c5,rfl,hd⟩
  have aJ:=aj.out0 hd
  let O3:Ob:=⟨B4,112,(J.Cells.flatMap Au),c5*5⟩
  have aL:ST w0 (bl [⟨Q,112,(m.Cells.flatMap Au),S*5⟩]) _ (O1::O0::O2::⟨aD b2,76,kN_,3⟩::O3::(flL [fN 11 9 76 kN_ 3] Z++[])) [⟨B,(c.Gates.flatMap eN1)⟩]:=ST.rot (pre:=[O1,O0,O2,⟨aD b2,76,kN_,3⟩]) (G:=(flL [fN 11 9 76 kN_ 3] Z++[])) (xs:=[O3]) aJ
  refine rf_k (L:=[O1,O0,O2,⟨aD b2,76,kN_,3⟩,O3]) aI aL (fun Z w h=>(ST.sel (ST.noF h) [0,1,2,3] rfl rfl)) ?_
  refine rf_q 8 21 (v:=.tuple #[gM_ J B4 c5,.bool ab]) rfl (fun Z w h=>(ST.sel (ST.noF h) [0,1,2,3] rfl rfl)) (fun Z _ q=>yv) ?_
  refine rf_q 9 30 (v:=gM_ J B4 c5) rfl (fun Z w h=>(ST.sel (ST.noF h) [0,1,2,3] rfl rfl)) (fun Z _ q=>(ye (gM_ J B4 c5))) ?_
  refine rf_q 10 31 (v:=.bool ab) rfl (fun Z w h=>(ST.sel (ST.noF h) [0,1,2,3] rfl rfl)) (fun Z _ q=>(ye (.bool ab))) ?_
  refine rf_force hJ (fun Z w h=>(ST.sel (ST.noF h) [0,1,2,3] rfl rfl)) (fun b3=>?_)
  refine rf_out (fun bd am=>?_)
  refine rA [12] ?_
  refine rZ 12 rfl (yK 5 3 0 am K19) ?_ aN
  rintro _ be ⟨rfl,o⟩
  refine ⟨(o.se [0,1,2,3]),?_⟩
  refine rq 13 10 rfl (o.se [0,1,2,3]) (fun _ q=>yu) ?_
  refine ra_done (by kernel_rfl) ?_
  refine cr ?_
  refine sQ 33 (yw 0 K32 K19 (o.c 5))<|sQ 34 (yw 0 K32 K19 (o.c 1) rfl (u.g 4 2)) ?_
  obtain ⟨⟨P,an⟩,aM,D⟩:=bI D
  refine sc 35 rfl rfl (yc TF (PX J (Ag.mk Rows Cols Cells) B4 c5 J.Cells.length W c4 Cells.length _ rfl rfl (o.inn0 [(false,4),(false,2)] rfl) aM)) ?_
  rintro _ bf ⟨B5,c6,rfl,aO⟩
  have ao:=o.out0 aO
  refine sQ 32 yv<|sQ 36 (ye (gM_ P B5 c6))<|sQ 37 (ye (.bool an)) ?_
  refine s0 (yK 1 3 0 ao K19 rfl (u.g 4 2)) ?_
  rintro _ bg ⟨rfl,ap⟩
  refine sQ 2 yu (rn (cr ?_))
  refine sQ 19 (yv rfl (u.g 8 4))<|sQ 20 zP<|sQ 8 yu (rn ?_)
  obtain rfl:=sI D
  exact ⟨K13,Nat.lt_succ_self _,an,P.Rows,P.Cols,P.Cells,(i64.wrap (i+1)),B5,c6,(fc rfl (u.a 3 1 (u.a 4 2 (u.a 6 3 (fc rfl fn_))))),(ap.sel [0,1,6,3] rfl rfl),ah⟩
 ·skip
  have aQ:=cf' hb aa
  refine cw_exit rfl ?_
  obtain rfl:=sI aQ
  obtain rfl:=sI ah
  refine cq (cr ?_)
  refine sQ 38 (yw 0 K32 K19 (O.c 1) rfl (u.g 4 2))<|sQ 39 (yv rfl (u.g 2 0)) ?_
  refine s0 (yK 3 3 0 O K19 rfl (u.g 6 3)) ?_
  rintro _ bh ⟨rfl,U⟩
  refine sQ 7 yu (rn (ct_ ?_))
  obtain ⟨rfl,rfl⟩:=pr2 (sI aG)
  exact ret2 Tryz.results74 (rX K32 K19 (U.c 3) (u.g 6 3)) rT ⟨W,c4,rfl,(U.sN [2])⟩

theorem LB (c:Aj) (B:Option Addr) (V n:Nat) (W:World) (hn:c.Gates.length=n) (hS:ST W [] W [] [⟨B,(c.Gates.flatMap eN1)⟩]) {Z:Ag} {P:Bool} (Q:Dx c=some (Z,P)) :
  CV Tryz.prog 40 #[.agg #[vi c.Qubits,.slice B n V]] W (fun v w'=>∃ (B1:Option Addr) (c2:Nat),v=.tuple #[gM_ Z B1 c2,.bool P]∧ST W [] w' [⟨B1,112,(Z.Cells.flatMap Au),c2*5⟩] []):=by
 subst hn
 unfold Dx at Q
 refine cv_of_cw 23 Tryz.func40 rfl Tryz.ntmps40 rfl ?_
 refine cq (cr ?_)
 refine sS 1 (yV [vi c.Qubits,.slice B c.Gates.length V] 2 hS) ?_
 rintro _ w_ ⟨b,rfl,aa⟩
 refine sS 2 (yN kN_ 3 aa K45) ?_
 rintro _ aA ⟨b1,rfl,J⟩
 refine sQ 3 yu (rn (cq (cq (cr ?_))))
 refine sQ 6 (yw 0 K17 K9 (J.c 0)) ?_
 obtain ⟨aB,hc,Q⟩:=bI Q
 refine sc 7 rfl rfl (yc JE (IC c B V c.Gates.length _ rfl (J.inn0 [(true,0)] rfl) hc)) ?_
 rintro _ aE ⟨rfl,hd⟩
 have u:=J.out00 hd
 refine sQ 8 yn (rn ?_)
 refine cw_cond rfl (fun hb=>?_) (fun hb=>?_)
 ·skip
  have ab:=ct Q hb
  refine cq (cr ?_)
  refine sQ 9 (Y_buildS (zs:=kN_) (vs:=[]) (cs:=kN_) K84 K45 rfl mpn rfl) ?_
  refine s0 (yK 1 3 0 u K19) ?_
  rintro _ aF ⟨rfl,ac⟩
  refine sQ 3 yu (rn (ct_ ?_))
  have S:=ac.addNil 112
  obtain ⟨rfl,rfl⟩:=pr2 (sI ab)
  exact ret2 Tryz.results40 (rX K32 K19 (S.c 1)) rT ⟨none,0,rfl,(S.sN [2])⟩
 ·skip
  have o:=cf' Q hb
  refine cw_skip (cq (cr ?_))
  refine sQ 11 (yd (aD b) 0 0 K44 K1)<|sQ 12 (yz 0 K0 (u.c 0)) ?_
  obtain ⟨ae,o⟩:=chk_inv o
  refine sQ 13 (Y_shl (k:=.i64) (a:=1) (k':=.i64) (b:=c.Qubits) rfl rfl rfl ae) ?_
  obtain ⟨⟨O,U⟩,af,o⟩:=bI o
  refine sc 14 rfl rfl (yc P6 (QK (shlK .i64 1 c.Qubits) _  (u.inn0 [] rfl) af)) ?_
  rintro _ aG ⟨B2,c3,rfl,ag⟩
  have ah:=u.out0 ag
  refine sQ 10 yv<|sQ 15 (ye (gM_ O B2 c3))<|sQ 16 (ye (.bool U)) ?_
  refine sS 4 (yN kN_ 3 ah K45) ?_
  rintro _ aI ⟨b2,rfl,ai⟩
  refine s0 (yK 3 3 0 ai K19) ?_
  rintro _ aJ ⟨rfl,D⟩
  refine sQ 5 yu (rn (cq (cr ?_)))
  refine sQ 17 (yw 0 K17 K9 (D.c 0))<|sQ 18 (yw 0 K32 K19 (D.c 3))<|sQ 19 yv ?_
  obtain ⟨⟨aj,ak⟩,al,o⟩:=bI o
  refine sc 20 rfl rfl (yc SB (TO c O U B V c.Gates.length B2 c3 O.Cells.length _ rfl rfl (D.inn [false,false,true,false] rfl [(true,0)] rfl) al)) ?_
  rintro _ aK ⟨B3,c4,rfl,am⟩
  have an:=D.out [false,false,true,false] rfl am
  refine sQ 21 (ye (gM_ aj B3 c4))<|sQ 22 (ye (.bool ak)) ?_
  refine s0 (yK 1 3 0 an K19) ?_
  rintro _ aL ⟨rfl,H⟩
  refine sQ 3 yu (rn (ct_ ?_))
  obtain ⟨rfl,rfl⟩:=pr2 (sI o)
  exact ret2 Tryz.results40 (rX K32 K19 (H.c 1)) rT ⟨B3,c4,rfl,(H.sN [3])⟩

theorem Pm (i:Int) (j:Int) (p:Ag) (V:Ad) (B:Option Addr) (W:Option Addr) (c n:Nat) (B2:Option Addr) (U:World) (hn:p.Cells.length=n) (hS:ST U [] U [] [⟨B,[vi p.Rows,vi p.Cols,.slice W n c]⟩,⟨W,(p.Cells.flatMap Au)⟩,⟨B2,kD_ V⟩]) {r_:Ad} {P:Bool} (O:E4 i j p V=some (r_,P)) :
  CV Tryz.prog 108 #[vi i,vi j,pt B 0,pt B2 0] U (fun v w'=>v=.tuple #[gD_ r_,.bool P]∧ST U [] w' [] []):=by
 subst hn
 unfold E4 at O
 refine cv_of_cw 16 Tryz.func108 rfl Tryz.ntmps108 rfl ?_
 refine cq (cr ?_)
 refine sS 6 (yN kZ_ 5 hS K33) ?_
 rintro _ w_ ⟨b,rfl,Q⟩
 refine sQ 7 yu (rn (cq ?_))
 obtain ⟨Z,hc,O⟩:=bI O
 obtain ⟨⟨aa,ab⟩,ac,O⟩:=bI O
 refine ra_start (Q.se []).fn (by kernel_rfl) ?_
 have D:=Q.drew
 have o:=D.se []
 refine rq 0 8 rfl o (fun _ q=>(yw 0 K32 K19 (ST.rf q (i:=0) rfl)))<|rq 1 9 rfl o (fun _ q=>yv)<|rq 2 10 rfl o (fun _ q=>yv)<|rq 4 12 rfl o (fun _ q=>(yw 0 K21 K10 (ST.rf q (i:=2) rfl))) ?_
 refine rA [3] ?_
 refine rC 11 3 rfl (yc Iq (Jh p i j W c p.Cells.length _ rfl (D.inn0 [(true,1)] rfl) hc)) ?_ aN
 rintro _ ak ⟨rfl,hd⟩
 have H:=D.out00 hd
 refine ⟨(H.se []),?_⟩
 refine rA [5] ?_
 refine rC 13 5 rfl (yc Ks (Lw Z V _  (H.inn0 [] rfl) ac)) ?_ aN
 rintro _ al ⟨rfl,ae⟩
 have S:=H.out00 ae
 have J:=S.se []
 refine ⟨J,?_⟩
 refine rq 6 14 rfl J (fun _ q=>(ye (gD_ aa)))<|rq 7 15 rfl J (fun _ q=>(ye (.bool ab))) ?_
 refine rA [8] ?_
 refine rZ 8 rfl (yK 0 5 0 S K10) ?_ aN
 rintro _ am ⟨rfl,u⟩
 refine ⟨(u.se []),?_⟩
 refine rq 9 7 rfl (u.se []) (fun _ q=>yu) ?_
 refine ra_done (by kernel_rfl) ?_
 refine ct_ ?_
 obtain ⟨rfl,rfl⟩:=pr2 (sI O)
 exact ret2 Tryz.results108 (rX K21 K10 (u.c 0)) rT ⟨rfl,(u.sN [])⟩

theorem OR (m:Ag) (x:Ad) (B:Option Addr) (c n:Nat) (W:World) (hn:m.Cells.length=n) (hS:ST W [] W [] [⟨B,(m.Cells.flatMap Au)⟩]) {r_:Ag} {Q:Bool} (D:Fe m x=some (r_,Q)) :
  CV Tryz.prog 76 #[.agg #[vi m.Rows,vi m.Cols,.slice B n c],gD_ x] W (fun v w'=>∃ (B1:Option Addr) (c1:Nat),v=.tuple #[gM_ r_ B1 c1,.bool Q]∧ST W [] w' [⟨B1,112,(r_.Cells.flatMap Au),c1*5⟩] []):=by
 subst hn
 unfold Fe at D
 refine cv_of_cw 23 Tryz.func76 rfl Tryz.ntmps76 rfl ?_
 refine cq (cr ?_)
 refine sS 2 (yV (kM_ m B c) 3 hS) ?_
 rintro _ w_ ⟨b,rfl,ab⟩
 refine sS 3 (yV (kD_ x) 5 ab) ?_
 rintro _ ay ⟨Z,rfl,ac⟩
 refine sS 4 (yN kN_ 3 ac K45) ?_
 rintro _ aA ⟨b2,rfl,H⟩
 refine sQ 5 yu (rn (cq (cq (cr ?_))))
 refine sQ 6 (yw 0 K32 K19 (H.c 0)) ?_
 obtain ⟨aB,hc,D⟩:=bI D
 refine sc 7 rfl rfl (yc FK (FY m B c m.Cells.length _ rfl (H.inn0 [(true,0)] rfl) hc)) ?_
 rintro _ aE ⟨rfl,hd⟩
 have o:=H.out00 hd
 refine sQ 8 yn<|sQ 9 yv ?_
 refine sgq 10 rfl rfl (uF_ 9) (fun hg=>(yw 0 K21 K10 (o.c 1))) ?_
 obtain ⟨ae,af,D⟩:=bI D
 refine sgc 11 (v:=.bool ae) (F:=o.fn) rfl rfl (uF_ 9) o (fun S=>(yc K98 (CV.mono (F9 x _  (o.inn0 [] rfl) (gb_inv af S)) (by rintro _ _ ⟨rfl,h⟩; exact ⟨rfl,o.out00 h⟩)) rfl (mc (gv_of S) mn))) ?_
 rintro aF u
 refine sgq 12 rfl rfl (uF_ 9) (fun ag=>(yn rfl (gv_of ag))) ?_
 refine sQ 13 yO (rn ?_)
 refine cw_cond rfl (fun hb=>?_) (fun hb=>?_)
 ·skip
  have ah:=ct D hb
  refine cq (cr ?_)
  refine sQ 14 (Y_buildS (zs:=kN_) (vs:=[]) (cs:=kN_) K84 K45 rfl mpn rfl) ?_
  refine s0 (yK 2 3 0 u K19) ?_
  rintro _ aG ⟨rfl,ai⟩
  refine sQ 5 yu (rn (ct_ ?_))
  have U:=ai.addNil 112
  obtain ⟨rfl,rfl⟩:=pr2 (sI ah)
  exact ret2 Tryz.results76 (rX K32 K19 (U.c 2)) rT ⟨none,0,rfl,(U.sN [3])⟩
 ·skip
  have J:=cf' D hb
  refine cw_skip (cq (cr ?_))
  refine sQ 15 (yd (aD b) 0 0 K87 K1)<|sQ 16 (yz 0 K0 (u.c 0))<|sQ 17 (yd (aD b) 0 0 K71 K1)<|sQ 18 (yz 1 K0 (u.c 0))<|sQ 19 (Y_makeFunc (cs:=[pt (aD b) 0,pt (aD Z) 0]) rfl rfl (mc rfl (mc rfl mn))) ?_
  obtain ⟨⟨aj,ak⟩,al,J⟩:=bI J
  refine sc 20 rfl rfl (yc HT (GV m.Rows m.Cols (fun O P=>E4 O P m x) 108 (#[pt (aD b) 0,pt (aD Z) 0]) [⟨aD b,kM_ m B c⟩,⟨B,(m.Cells.flatMap Au)⟩,⟨aD Z,kD_ x⟩] _ PD (fun w hw O P aJ aK h_=>Pm O P m x (aD b) B c m.Cells.length (aD Z) w rfl hw h_) (u.inn0 [(false,0),(true,0),(false,1)] rfl) al)) ?_
  rintro _ aM ⟨B2,c2,rfl,am⟩
  have an:=u.out0 am
  refine sQ 21 (ye (gM_ aj B2 c2))<|sQ 22 (ye (.bool ak)) ?_
  refine s0 (yK 2 3 0 an K19) ?_
  rintro _ aO ⟨rfl,V⟩
  refine sQ 5 yu (rn (ct_ ?_))
  obtain ⟨rfl,rfl⟩:=pr2 (sI J)
  exact ret2 Tryz.results76 (rX K32 K19 (V.c 2)) rT ⟨B2,c2,rfl,(V.sN [3])⟩

theorem OL (J:List Ad) (s2:List Ad) (B:Option Addr) (c n:Nat) (Z:Option Addr) (c1 n1:Nat) (w0:World) (hn:J.length=n) (ag:s2.length=n1) (hS:ST w0 [] w0 [] [⟨B,(J.flatMap Au)⟩,⟨Z,(s2.flatMap Au)⟩]) {r_:Bool} (hF:Fi J s2=some r_) :
  CV Tryz.prog 112 #[.slice B n c,.slice Z n1 c1] w0 (fun v w'=>v=.bool r_∧ST w0 [] w' [] []):=by
 subst hn
 subst ag
 unfold Fi at hF
 refine cv_of_cw 26 Tryz.func112 rfl Tryz.ntmps112 rfl ?_
 refine cq (cr ?_)
 refine sQ 4 yu (rn (cq (cq (cr ?_))))
 refine sQ 6 yv<|sQ 7 (Y_len K66 rfl rfl)<|sQ 8 yv<|sQ 9 (Y_len K66 rfl rfl)<|sQ 10 (Y_ne rfl rfl rfl) (rn ?_)
 refine cw_cond rfl (fun hb=>?_) (fun hb=>?_)
 ·skip
  have ai:=ct hF hb
  refine cq (cr ?_)
  refine sQ 4 yu (rn (ct_ ?_))
  obtain rfl:=sI ai
  exact e1 Tryz.results112 (hS.sN [])
 ·skip
  have Q:=cf' hF hb
  refine cw_skip (cq (cq (cr ?_)))
  refine sQ 11 yv<|sQ 12 (Y_len K66 rfl rfl)<|sQ 13 yv (rn ?_)
  obtain ⟨hN,Q⟩:=chk_inv Q
  obtain ⟨z,hz,ab⟩:=bI Q
  refine cw_block ?_
  refine cw_loop (fun k f w=>∃ (i:Nat),FF f [(0,.slice B J.length c),(1,.slice Z s2.length c1),(12,vi (J.length:Int)),(13,vi (i:Int))]∧ST w0 [] w [] [⟨B,(J.flatMap Au)⟩,⟨Z,(s2.flatMap Au)⟩]∧i+k=J.length∧forX (FI J s2) k i ()=some z) J.length ⟨0,(fc rfl (fc rfl (fc rfl (fc rfl fn_)))),(hS.sel [] rfl rfl),Nat.zero_add _,hz⟩ ?_
  rintro k_ f w ⟨i,O,S,ay,hL⟩
  refine cq (cr ?_)
  refine sQ 14 (zL rfl (O.g 13 3) (O.g 12 2)) (rn (cq ?_))
  refine cw_cond rfl (fun U=>?_) (fun U=>?_)
  ·skip
   have ac:i<J.length:=by have h:=of_decide_eq_true U; omega
   obtain ⟨K13,rfl⟩:∃ k2,k_=k2+1:=⟨k_-1,by omega⟩
   obtain ⟨y,H,ae⟩:=forX_go hL
   unfold FI at H
   refine cw_skip (cq (cw_block (cq (cr ?_))))
   refine sQ 15 (yv rfl (O.g 13 3))<|sQ 5 yu (rn (cq ?_))
   obtain ⟨x,hx,H⟩:=bI H
   obtain ⟨o,P,H⟩:=bI H
   refine ra_start (S.se []).fn (by kernel_rfl) ?_
   have V:=S.drew
   have u:=V.se []
   refine rq 0 16 rfl u (fun _ q=>(yv rfl (O.g 0 0)))<|rq 1 17 rfl u (fun _ q=>yv)<|rq 2 18 rfl u (fun _ q=>(yI B (i:Int) K66 K10 (gi_isSome BA rfl (ST.rf q (i:=0) rfl) hx) (getI_nn hx) (getI_ltI hx rfl)))<|rq 3 19 rfl u (fun _ q=>(ya B ((i:Int).toNat*5) (J.flatMap Au) (kD_ x) K21 K10 (ST.rf q (i:=0) rfl) rfl rfl (BA x) (gi_seg BA hx)))<|rq 4 20 rfl u (fun _ q=>(yv rfl (O.g 1 1))) ?_
   refine rq 5 21 rfl u (fun _ q=>yv)<|rq 6 22 rfl u (fun _ q=>(yI Z (i:Int) K66 K10 (gi_isSome BA rfl (ST.rf q (i:=1) rfl) P) (getI_nn P) (getI_ltI P rfl)))<|rq 7 23 rfl u (fun _ q=>(ya Z ((i:Int).toNat*5) (s2.flatMap Au) (kD_ o) K21 K10 (ST.rf q (i:=1) rfl) rfl rfl (BA o) (gi_seg BA P))) ?_
   refine ra_q 8 24 (v:=.bool (!(((x.Num.A==o.Num.A)&&((x.Num.B==o.Num.B)&&((x.Num.C==o.Num.C)&&((x.Num.D==o.Num.D)&&true))))&&((x.Exp==o.Exp)&&true)))) rfl rfl rfl (by kernel_rfl) (by kernel_rfl) (by kernel_rfl) u (fun _ q=>(Y_neA (xs:=#[vi x.Num.A,vi x.Num.B,vi x.Num.C,vi x.Num.D,vi x.Exp]) (ys:=#[vi o.Num.A,vi o.Num.B,vi o.Num.C,vi o.Num.D,vi o.Exp]) (b:=(((x.Num.A==o.Num.A)&&((x.Num.B==o.Num.B)&&((x.Num.C==o.Num.C)&&((x.Num.D==o.Num.D)&&true))))&&((x.Exp==o.Exp)&&true))) Nf rfl rfl rfl (eqr_struct (xs:=kD_ x) (ys:=kD_ o) QE Na (pts_ag (us:=kR_ x.Num) (vs:=kR_ o.Num) K25 K12 rfl rfl (eqr_struct (xs:=kR_ x.Num) (ys:=kR_ o.Num) QB NT (pts_sc K0 rfl rfl (eqr_int K16) (pts_sc K0 rfl rfl (eqr_int K16) (pts_sc K0 rfl rfl (eqr_int K16) (pts_sc K0 rfl rfl (eqr_int K16) pts_nil))))) (pts_sc K0 rfl rfl (eqr_int K16) pts_nil))))) ?_
   refine ra_done (by kernel_rfl) ?_
   refine cw_cond rfl (fun W=>?_) (fun W=>?_)
   ·skip
    have ak:=ct H W
    refine cq (cr ?_)
    refine sQ 4 yu (rn (ct_ ?_))
    obtain rfl:=sI ak
    obtain rfl:=sI ae
    obtain rfl:=sI ab
    exact e1 Tryz.results112 (V.sN [])
   ·skip
    have al:=cf' H W
    refine cw_skip (cr ?_)
    refine sQ 25 (zP rfl (O.g 13 3))<|sQ 13 yv (rn ?_)
    obtain rfl:=sI al
    exact ⟨K13,Nat.lt_succ_self _,i+1,(O.a 0 0 (O.a 1 1 (O.a 12 2 (fc (congrArg (Value.int .i64) (wr_succ ac hN)) fn_)))),(V.sel [] rfl rfl),(by omega),ae⟩
  ·skip
   obtain rfl:k_=0:=by have h:=of_decide_eq_false U; omega
   refine cw_exit rfl ?_
   obtain rfl:=sI hL
   refine cq (cr ?_)
   refine sQ 4 yu (rn (ct_ ?_))
   obtain rfl:=sI ab
   exact e1 Tryz.results112 (S.sN [])

theorem RI (a:Ag) (b:Ag) (B:Option Addr) (c n:Nat) (H:Option Addr) (P n1:Nat) (J:World) (hn:a.Cells.length=n) (Q:b.Cells.length=n1) (hS:ST J [] J [] [⟨B,(a.Cells.flatMap Au)⟩,⟨H,(b.Cells.flatMap Au)⟩]) {r_:Bool} (O:EJ a b=some r_) :
  CV Tryz.prog 78 #[.agg #[vi a.Rows,vi a.Cols,.slice B n c],.agg #[vi b.Rows,vi b.Cols,.slice H n1 P]] J (fun v w'=>v=.bool r_∧ST J [] w' [] []):=by
 subst hn
 subst Q
 unfold EJ at O
 refine cv_of_cw 24 Tryz.func78 rfl Tryz.ntmps78 rfl ?_
 refine cq (cr ?_)
 refine sS 2 (yV (kM_ a B c) 3 hS) ?_
 rintro _ w_ ⟨S,rfl,U⟩
 refine sS 3 (yV (kM_ b H P) 3 U) ?_
 rintro _ ak ⟨V,rfl,o⟩
 refine sQ 4 yu (rn (cq (cr ?_)))
 refine sQ 5 (yd (aD S) 0 0 K87 K1)<|sQ 6 (yz 0 K0 (o.c 0))<|sQ 7 (yd (aD V) 0 0 K87 K1)<|sQ 8 (yz 0 K0 (o.c 1))<|sQ 9 zE<|sQ 10 yv ?_
 refine sgq 11 rfl rfl (uT_ 10) (fun hg=>(yd (aD S) 0 0 K71 K1)) ?_
 refine sgq 12 rfl rfl (uT_ 10) (fun W=>(yz 1 K0 (o.c 0) rfl (gv_of W))) ?_
 refine sgq 13 rfl rfl (uT_ 10) (fun al=>(yd (aD V) 0 0 K71 K1)) ?_
 refine sgq 14 rfl rfl (uT_ 10) (fun Z=>(yz 1 K0 (o.c 1) rfl (gv_of Z))) ?_
 refine sgq 15 rfl rfl (uT_ 10) (fun D=>(zE rfl (gv_of D) (gv_of D))) ?_
 refine sQ 16 yA<|sQ 17 yv ?_
 refine sgq 18 rfl rfl (uT_ 17) (fun am=>(yd (aD S) 0 0 K85 K77)) ?_
 refine sgq 19 rfl rfl (uT_ 17) (fun aa=>(yz 2 K94 (o.c 0) rfl (gv_of aa))) ?_
 refine sgq 20 rfl rfl (uT_ 17) (fun an=>(yd (aD V) 0 0 K85 K77)) ?_
 refine sgq 21 rfl rfl (uT_ 17) (fun ab=>(yz 2 K94 (o.c 1) rfl (gv_of ab))) ?_
 obtain ⟨ac,hc,O⟩:=bI O
 refine sgc 22 (v:=.bool ac) (F:=o.fn) rfl rfl (uT_ 17) o (fun u=>(yc OA (CV.mono (OL a.Cells b.Cells B c a.Cells.length H P b.Cells.length _ rfl rfl (o.inn0 [(true,0),(true,1)] rfl) (gb_inv hc u)) (by rintro _ _ ⟨rfl,h⟩; exact ⟨rfl,o.out00 h⟩)) rfl (mc (gv_of u) (mc (gv_of u) mn)))) ?_
 rintro ao ae
 refine sQ 23 yA<|sQ 4 yu (rn (ct_ ?_))
 obtain rfl:=sI O
 exact e1 Tryz.results78 (ae.sN [])

theorem TH (a:Ag) (b:Ag) (B:Option Addr) (c n:Nat) (J:Option Addr) (c1 n1:Nat) (w0:World) (hn:a.Cells.length=n) (aB:b.Cells.length=n1) (hS:ST w0 [] w0 [] [⟨B,(a.Cells.flatMap Au)⟩,⟨J,(b.Cells.flatMap Au)⟩]) {r_:Int} {aj:Bool} {ak:Bool} (Q:DZ a b=some (r_,aj,ak)) :
  CV Tryz.prog 41 #[.agg #[vi a.Rows,vi a.Cols,.slice B n c],.agg #[vi b.Rows,vi b.Cols,.slice J n1 c1]] w0 (fun v w'=>v=.tuple #[vi r_,.bool aj,.bool ak]∧ST w0 [] w' [] []):=by
 subst hn
 subst aB
 unfold DZ at Q
 refine cv_of_cw 36 Tryz.func41 rfl Tryz.ntmps41 rfl ?_
 refine cq (cr ?_)
 refine sS 2 (yV (kM_ a B c) 3 hS) ?_
 rintro _ w_ ⟨b1,rfl,aE⟩
 refine sS 3 (yV (kM_ b J c1) 3 aE) ?_
 rintro _ bg ⟨b2,rfl,S⟩
 refine sQ 4 yu<|sQ 5 yu<|sQ 6 yu (rn (cq (cq (cr ?_))))
 refine sQ 10 (yw 0 K32 K19 (S.c 0)) ?_
 obtain ⟨bh,hc,Q⟩:=bI Q
 refine sc 11 rfl rfl (yc FK (FY a B c a.Cells.length _ rfl (S.inn0 [(true,0)] rfl) hc)) ?_
 rintro _ bj ⟨rfl,hd⟩
 have H:=S.out00 hd
 refine sQ 12 yn<|sQ 13 yv ?_
 refine sgq 14 rfl rfl (uF_ 13) (fun hg=>(yw 0 K32 K19 (H.c 1))) ?_
 obtain ⟨aF,aG,Q⟩:=bI Q
 refine sgc 15 (v:=.bool aF) (F:=H.fn) rfl rfl (uF_ 13) H (fun al=>(yc FK (CV.mono (FY b J c1 b.Cells.length _ rfl (H.inn0 [(true,1)] rfl) (gb_inv aG al)) (by rintro _ _ ⟨rfl,h⟩; exact ⟨rfl,H.out00 h⟩)) rfl (mc (gv_of al) mn))) ?_
 rintro bk am
 refine sgq 16 rfl rfl (uF_ 13) (fun aI=>(yn rfl (gv_of aI))) ?_
 refine sQ 17 yO (rn ?_)
 refine cw_cond rfl (fun hb=>?_) (fun hb=>?_)
 ·skip
  have aJ:=ct Q hb
  refine cq (cr ?_)
  refine sQ 4 yu<|sQ 5 yu<|sQ 6 yu (rn (ct_ ?_))
  obtain ⟨rfl,rfl,rfl⟩:=pr3 (sI aJ)
  exact e3 Tryz.results41 (am.sN [])
 ·skip
  have aK:=cf' Q hb
  refine cw_skip (cq (cq (cr ?_)))
  refine sQ 18 yv (rn ?_)
  obtain ⟨z,hz,an⟩:=bI aK
  refine cw_block ?_
  let O0:Ob:=⟨aD b2,76,kM_ b J c1,3⟩
  let O1:Ob:=⟨aD b1,76,kM_ a B c,3⟩
  refine cw_loop (fun k f w=>∃ (i:Nat),FF f [(2,pt (aD b1) 0),(3,pt (aD b2) 0),(18,vi (i:Int))]∧ST w0 [] w [O1,O0] [⟨B,(a.Cells.flatMap Au)⟩,⟨J,(b.Cells.flatMap Au)⟩]∧i+k=8∧forX (Gw b a) k i ()=some z) 8 ⟨0,(fc rfl (fc rfl (fc rfl fn_))),(am.sel [0,1] rfl rfl),Nat.zero_add _,hz⟩ ?_
  rintro k_ f w ⟨i,U,V,bn,hL⟩
  refine cq (cr ?_)
  refine sQ 19 (zL rfl (U.g 18 2)) (rn (cq ?_))
  refine cw_cond rfl (fun W=>?_) (fun W=>?_)
  ·skip
   have ao:i<8:=by have h:=of_decide_eq_true W; omega
   obtain ⟨K13,rfl⟩:∃ k2,k_=k2+1:=⟨k_-1,by omega⟩
   obtain ⟨y,u,ap⟩:=forX_go hL
   unfold Gw at u
   refine cw_skip (cq (cw_block (cq (cr ?_))))
   refine sQ 20 (yv rfl (U.g 18 2))<|sQ 7 yu (rn (cq ?_))
   obtain ⟨aM,aO,u⟩:=bI u
   obtain ⟨⟨D,aa⟩,aQ,u⟩:=bI u
   refine ra_start (V.se [0,1]).fn (by kernel_rfl) ?_
   have ab:=V.drew
   refine rq 0 22 rfl (ab.se [0,1]) (fun _ q=>(yw 0 K32 K19 (ST.c q 1) rfl (U.g 3 1)))<|rq 1 23 rfl (ab.se [0,1]) (fun _ q=>yv) ?_
   refine rf_in (k:=7) (ts:=[]) (L:=[O1,O0]) (G:=[]) [fN 7 8 76 kN_ 3] ab (flc rfl rfl rfl (fun _ _ _ _ bp h _=>(yN kN_ 3 h K45)) fln) (fun hJ=>?_)
   refine rf_all [2] hJ (fun Z w h=>(ST.sel (ST.noF h) [0,1] rfl rfl)) (fun Z bq aT aq=>?_)
   refine rC 24 2 rfl (yc G9 (GN (i:Int) _  (aq.inn0 [] rfl) aO)) ?_ aN
   rintro _ bt ⟨rfl,aU⟩
   have ar:=aq.out00 aU
   refine rf_k (L:=[O1,O0]) aT ar (fun Z w h=>(ST.sel (ST.noF h) [0,1] rfl rfl)) ?_
   refine rf_all [3] hJ (fun Z w h=>(ST.sel (ST.noF h) [0,1] rfl rfl)) (fun Z1 bu aV O=>?_)
   refine rC 25 3 rfl (yc Ts (OR b aM J c1 b.Cells.length _ rfl (O.inn0 [(true,1)] rfl) aQ)) ?_ aN
   rintro _ bv ⟨B2,c2,rfl,aY⟩
   have aw:=O.out0 aY
   let O2:Ob:=⟨B2,112,(D.Cells.flatMap Au),c2*5⟩
   have ay:ST w0 [] _ (O1::O0::O2::(flL [fN 7 8 76 kN_ 3] Z1++[])) [⟨B,(a.Cells.flatMap Au)⟩,⟨J,(b.Cells.flatMap Au)⟩]:=ST.rot (pre:=[O1,O0]) (G:=(flL [fN 7 8 76 kN_ 3] Z1++[])) (xs:=[O2]) aw
   refine rf_k (L:=[O1,O0,O2]) aV ay (fun Z w h=>(ST.sel (ST.noF h) [0,1] rfl rfl)) ?_
   refine rf_q 4 21 (v:=.tuple #[gM_ D B2 c2,.bool aa]) rfl (fun Z w h=>(ST.sel (ST.noF h) [0,1] rfl rfl)) (fun Z _ q=>yv) ?_
   refine rf_q 5 26 (v:=gM_ D B2 c2) rfl (fun Z w h=>(ST.sel (ST.noF h) [0,1] rfl rfl)) (fun Z _ q=>(ye (gM_ D B2 c2))) ?_
   refine rf_q 6 27 (v:=.bool aa) rfl (fun Z w h=>(ST.sel (ST.noF h) [0,1] rfl rfl)) (fun Z _ q=>(ye (.bool aa))) ?_
   refine rf_force hJ (fun Z w h=>(ST.sel (ST.noF h) [0,1] rfl rfl)) (fun b3=>?_)
   refine rf_out (fun bw aA=>?_)
   refine rA [8] ?_
   refine rZ 8 rfl (yK 3 3 0 aA K19) ?_ aN
   rintro _ bA ⟨rfl,o⟩
   refine ⟨(o.se [0,1]),?_⟩
   refine rq 9 9 rfl (o.se [0,1]) (fun _ q=>yu) ?_
   refine ra_done (by kernel_rfl) ?_
   refine cq (cr ?_)
   refine sQ 28 yv<|sQ 29 yv ?_
   refine sgq 30 rfl rfl (uT_ 29) (fun bB=>(yw 0 K32 K19 (o.c 0) rfl (U.g 2 0))) ?_
   refine sgq 31 rfl rfl (uT_ 29) (fun bC=>(yw 0 K32 K19 (o.c 3))) ?_
   obtain ⟨a1,a2,u⟩:=bI u
   refine sgc 32 (v:=.bool a1) (F:=o.fn) rfl rfl (uT_ 29) o (fun ac=>(yc Pe (CV.mono (RI a D B c a.Cells.length B2 c2 D.Cells.length _ rfl rfl (o.inn0 [(true,0),(false,2)] rfl) (gb_inv a2 ac)) (by rintro _ _ ⟨rfl,h⟩; exact ⟨rfl,o.out00 h⟩)) rfl (mc (gv_of ac) (mc (gv_of ac) mn)))) ?_
   rintro bc P
   refine sQ 33 yA (rn ?_)
   refine cw_cond rfl (fun ae=>?_) (fun ae=>?_)
   ·skip
    have a3:=ct u ae
    refine cq (cr ?_)
    refine sQ 34 yv<|sQ 4 yu<|sQ 5 yu<|sQ 6 yu (rn (ct_ ?_))
    obtain rfl:=sI a3
    obtain rfl:=sI ap
    obtain ⟨rfl,rfl,rfl⟩:=pr3 (sI an)
    exact e3 Tryz.results41 (P.sN [])
   ·skip
    have a5:=cf' u ae
    refine cw_skip (cr ?_)
    refine sQ 35 (zP rfl (U.g 18 2))<|sQ 18 yv (rn ?_)
    obtain rfl:=sI a5
    exact ⟨K13,Nat.lt_succ_self _,i+1,(U.a 2 0 (U.a 3 1 (fc (congrArg (Value.int .i64) (wr_succ ao (show 8≤9223372036854775807 by decide))) fn_))),(P.sel [0,1] rfl rfl),(by omega),ap⟩
  ·skip
   obtain rfl:k_=0:=by have h:=of_decide_eq_false W; omega
   refine cw_exit rfl ?_
   obtain rfl:=sI hL
   refine cq (cr ?_)
   refine sQ 4 yu<|sQ 5 yu<|sQ 6 yu (rn (ct_ ?_))
   obtain ⟨rfl,rfl,rfl⟩:=pr3 (sI an)
   exact e3 Tryz.results41 (V.sN [])

theorem Ns (a:Aj) (b:Aj) (B:Option Addr) (c n:Nat) (U:Option Addr) (W n1:Nat) (V:World) (hn:a.Gates.length=n) (Z:b.Gates.length=n1) (hS:ST V [] V [] [⟨B,(a.Gates.flatMap eN1)⟩,⟨U,(b.Gates.flatMap eN1)⟩]) {r_:Bool} {Q:Bool} (u:ED a b=some (r_,Q)) :
  CV Tryz.prog 12 #[.agg #[vi a.Qubits,.slice B n c],.agg #[vi b.Qubits,.slice U n1 W]] V (fun v w'=>v=.tuple #[.bool r_,.bool Q]∧ST V [] w' [] []):=by
 subst hn
 subst Z
 unfold ED at u
 refine cv_of_cw 45 Tryz.func12 rfl Tryz.ntmps12 rfl ?_
 refine cq (cr ?_)
 refine sS 2 (yV [vi a.Qubits,.slice B a.Gates.length c] 2 hS) ?_
 rintro _ w_ ⟨b1,rfl,aa⟩
 refine sS 3 (yV [vi b.Qubits,.slice U b.Gates.length W] 2 aa) ?_
 rintro _ aL ⟨b2,rfl,D⟩
 refine sQ 4 yu<|sQ 5 yu (rn (cq (cr ?_)))
 refine sQ 14 (yw 0 K17 K9 (D.c 0)) ?_
 obtain ⟨⟨H,ab⟩,hc,u⟩:=bI u
 refine sc 15 rfl rfl (yc LY (LB a B c a.Gates.length _ rfl (D.inn0 [(true,0)] rfl) hc)) ?_
 rintro _ aO ⟨B2,c2,rfl,hd⟩
 have ac:=D.out0 hd
 refine sQ 13 yv<|sQ 16 (ye (gM_ H B2 c2))<|sQ 17 (ye (.bool ab)) ?_
 refine sS 6 (yN kN_ 3 ac K45) ?_
 rintro _ aQ ⟨b3,rfl,ae⟩
 refine s0 (yK 3 3 0 ae K19) ?_
 rintro _ aR ⟨rfl,J⟩
 refine sQ 7 yu (rn (cq (cr ?_)))
 refine sQ 19 (yw 0 K17 K9 (J.c 1)) ?_
 obtain ⟨⟨O,af⟩,ag,u⟩:=bI u
 refine sc 20 rfl rfl (yc LY (LB b U W b.Gates.length _ rfl (J.inn0 [(true,1)] rfl) ag)) ?_
 rintro _ aT ⟨B3,c3,rfl,ah⟩
 have ai:=J.out0 ah
 refine sQ 18 yv<|sQ 21 (ye (gM_ O B3 c3))<|sQ 22 (ye (.bool af)) ?_
 refine sS 8 (yN kN_ 3 ai K45) ?_
 rintro _ aU ⟨b4,rfl,aj⟩
 refine s0 (yK 5 3 0 aj K19) ?_
 rintro _ aV ⟨rfl,o⟩
 refine sQ 9 yu (rn (cq (cq (cr ?_))))
 refine sQ 23 yv<|sQ 24 yn<|sQ 25 yv ?_
 refine sgq 26 rfl rfl (uF_ 25) (fun hg=>yv) ?_
 refine sgq 27 rfl rfl (uF_ 25) (fun ak=>(yn rfl (gv_of ak))) ?_
 refine sQ 28 yO<|sQ 29 yv ?_
 refine sgq 30 rfl rfl (uF_ 29) (fun aY=>(yd (aD b1) 0 0 K44 K1)) ?_
 refine sgq 31 rfl rfl (uF_ 29) (fun al=>(yz 0 K0 (o.c 0) rfl (gv_of al))) ?_
 refine sgq 32 rfl rfl (uF_ 29) (fun a0=>(yd (aD b2) 0 0 K44 K1)) ?_
 refine sgq 33 rfl rfl (uF_ 29) (fun am=>(yz 0 K0 (o.c 1) rfl (gv_of am))) ?_
 refine sgq 34 rfl rfl (uF_ 29) (fun S=>(Y_ne rfl (gv_of S) (gv_of S))) ?_
 refine sQ 35 yO (rn ?_)
 refine cw_cond rfl (fun hb=>?_) (fun hb=>?_)
 ·skip
  have an:=ct u hb
  refine cq (cr ?_)
  refine sQ 4 yu<|sQ 5 yu (rn (ct_ ?_))
  obtain ⟨rfl,rfl⟩:=pr2 (sI an)
  exact e2 Tryz.results12 (o.sN [])
 ·skip
  have P:=cf' u hb
  refine cw_skip (cq (cr ?_))
  refine sQ 37 (yw 0 K32 K19 (o.c 3))<|sQ 38 (yw 0 K32 K19 (o.c 5)) ?_
  obtain ⟨⟨ao,ap,aq⟩,ar,P⟩:=bI P
  refine sc 39 rfl rfl (yc Qh (TH H O B2 c2 H.Cells.length B3 c3 O.Cells.length _ rfl rfl (o.inn0 [(false,2),(false,4)] rfl) ar)) ?_
  rintro _ a1 ⟨rfl,au⟩
  have av:=o.out00 au
  refine sQ 36 yv<|sQ 40 (ye (vi ao))<|sQ 41 (ye (.bool ap))<|sQ 42 (ye (.bool aq))<|sQ 10 yu<|sQ 11 yu ?_
  refine sQ 12 yu (rn (cq (cr ?_)))
  refine sQ 43 yv<|sQ 44 yv<|sQ 4 yu<|sQ 5 yu (rn (ct_ ?_))
  obtain ⟨rfl,rfl⟩:=pr2 (sI P)
  exact e2 Tryz.results12 (av.sN [])

theorem M1 (a:List Aa) (b:List Aa) (B:Option Addr) (c n:Nat) (V:Option Addr) (c1 n1:Nat) (W:World) (hn:a.length=n) (af:b.length=n1) (hS:ST W [] W [] [⟨B,(a.flatMap eN0)⟩,⟨V,(b.flatMap eN0)⟩]) {r_:Bool} (hF:DO a b=some r_) :
  CV Tryz.prog 46 #[.slice B n c,.slice V n1 c1] W (fun v w'=>v=.bool r_∧ST W [] w' [] []):=by
 subst hn
 subst af
 unfold DO at hF
 refine cv_of_cw 26 Tryz.func46 rfl Tryz.ntmps46 rfl ?_
 refine cq (cr ?_)
 refine sQ 4 yu (rn (cq (cq (cr ?_))))
 refine sQ 6 yv<|sQ 7 (Y_len K5 rfl rfl)<|sQ 8 yv<|sQ 9 (Y_len K5 rfl rfl)<|sQ 10 (Y_ne rfl rfl rfl) (rn ?_)
 refine cw_cond rfl (fun hb=>?_) (fun hb=>?_)
 ·skip
  have ah:=ct hF hb
  refine cq (cr ?_)
  refine sQ 4 yu (rn (ct_ ?_))
  obtain rfl:=sI ah
  exact e1 Tryz.results46 (hS.sN [])
 ·skip
  have O:=cf' hF hb
  refine cw_skip (cq (cq (cr ?_)))
  refine sQ 11 yv<|sQ 12 (Y_len K5 rfl rfl)<|sQ 13 yv (rn ?_)
  obtain ⟨hN,O⟩:=chk_inv O
  obtain ⟨z,hz,aa⟩:=bI O
  refine cw_block ?_
  refine cw_loop (fun k f w=>∃ (i:Nat),FF f [(0,.slice B a.length c),(1,.slice V b.length c1),(12,vi (a.length:Int)),(13,vi (i:Int))]∧ST W [] w [] [⟨B,(a.flatMap eN0)⟩,⟨V,(b.flatMap eN0)⟩]∧i+k=a.length∧forX (FZ a b) k i ()=some z) a.length ⟨0,(fc rfl (fc rfl (fc rfl (fc rfl fn_)))),(hS.sel [] rfl rfl),Nat.zero_add _,hz⟩ ?_
  rintro k_ f w ⟨i,H,P,aw,hL⟩
  refine cq (cr ?_)
  refine sQ 14 (zL rfl (H.g 13 3) (H.g 12 2)) (rn (cq ?_))
  refine cw_cond rfl (fun Q=>?_) (fun Q=>?_)
  ·skip
   have ab:i<a.length:=by have h:=of_decide_eq_true Q; omega
   obtain ⟨K13,rfl⟩:∃ k2,k_=k2+1:=⟨k_-1,by omega⟩
   obtain ⟨y,u,ac⟩:=forX_go hL
   unfold FZ at u
   refine cw_skip (cq (cw_block (cq (cr ?_))))
   refine sQ 15 (yv rfl (H.g 13 3))<|sQ 5 yu (rn (cq ?_))
   obtain ⟨x,hx,u⟩:=bI u
   obtain ⟨D,J,u⟩:=bI u
   refine ra_start (P.se []).fn (by kernel_rfl) ?_
   have S:=P.drew
   have o:=S.se []
   refine rq 0 16 rfl o (fun _ q=>(yv rfl (H.g 0 0)))<|rq 1 17 rfl o (fun _ q=>yv)<|rq 2 18 rfl o (fun _ q=>(yI B (i:Int) K5 K2 (gi_isSome eN2 rfl (ST.rf q (i:=0) rfl) hx) (getI_nn hx) (getI_ltI hx rfl)))<|rq 3 19 rfl o (fun _ q=>(ya B ((i:Int).toNat*3) (a.flatMap eN0) [vi x.Phase,vi x.X,vi x.Z] K6 K2 (ST.rf q (i:=0) rfl) rfl rfl (eN2 x) (gi_seg eN2 hx)))<|rq 4 20 rfl o (fun _ q=>(yv rfl (H.g 1 1))) ?_
   refine rq 5 21 rfl o (fun _ q=>yv)<|rq 6 22 rfl o (fun _ q=>(yI V (i:Int) K5 K2 (gi_isSome eN2 rfl (ST.rf q (i:=1) rfl) J) (getI_nn J) (getI_ltI J rfl)))<|rq 7 23 rfl o (fun _ q=>(ya V ((i:Int).toNat*3) (b.flatMap eN0) [vi D.Phase,vi D.X,vi D.Z] K6 K2 (ST.rf q (i:=1) rfl) rfl rfl (eN2 D) (gi_seg eN2 J)))<|rq 8 24 rfl o (fun _ q=>(Y_neA (xs:=#[vi x.Phase,vi x.X,vi x.Z]) (ys:=#[vi D.Phase,vi D.X,vi D.Z]) (b:=((x.Phase==D.Phase)&&((x.X==D.X)&&((x.Z==D.Z)&&true)))) GK rfl rfl rfl (eqr_struct (xs:=[vi x.Phase,vi x.X,vi x.Z]) (ys:=[vi D.Phase,vi D.X,vi D.Z]) K60 K70 (pts_sc K0 rfl rfl (eqr_int K16) (pts_sc K0 rfl rfl (eqr_int K16) (pts_sc K0 rfl rfl (eqr_int K16) pts_nil)))))) ?_
   refine ra_done (by kernel_rfl) ?_
   refine cw_cond rfl (fun U=>?_) (fun U=>?_)
   ·skip
    have aj:=ct u U
    refine cq (cr ?_)
    refine sQ 4 yu (rn (ct_ ?_))
    obtain rfl:=sI aj
    obtain rfl:=sI ac
    obtain rfl:=sI aa
    exact e1 Tryz.results46 (S.sN [])
   ·skip
    have ak:=cf' u U
    refine cw_skip (cr ?_)
    refine sQ 25 (zP rfl (H.g 13 3))<|sQ 13 yv (rn ?_)
    obtain rfl:=sI ak
    exact ⟨K13,Nat.lt_succ_self _,i+1,(H.a 0 0 (H.a 1 1 (H.a 12 2 (fc (congrArg (Value.int .i64) (wr_succ ab hN)) fn_)))),(S.sel [] rfl rfl),(by omega),ac⟩
  ·skip
   obtain rfl:k_=0:=by have h:=of_decide_eq_false Q; omega
   refine cw_exit rfl ?_
   obtain rfl:=sI hL
   refine cq (cr ?_)
   refine sQ 4 yu (rn (ct_ ?_))
   obtain rfl:=sI aa
   exact e1 Tryz.results46 (P.sN [])

theorem Ih (t:Ae) (u:Ae) (B:Option Addr) (c n:Nat) (P:Option Addr) (V n1:Nat) (Q:Option Addr) (W n2:Nat) (S:Option Addr) (Z n3:Nat) (U:World) (hn:t.XImages.length=n) (aa:t.ZImages.length=n1) (ab:u.XImages.length=n2) (ac:u.ZImages.length=n3) (hS:ST U [] U [] [⟨B,(t.XImages.flatMap eN0)⟩,⟨P,(t.ZImages.flatMap eN0)⟩,⟨Q,(u.XImages.flatMap eN0)⟩,⟨S,(u.ZImages.flatMap eN0)⟩]) {r_:Bool} (O:Cs t u=some r_) :
  CV Tryz.prog 14 #[.agg #[vi t.Qubits,.slice B n c,.slice P n1 V],.agg #[vi u.Qubits,.slice Q n2 W,.slice S n3 Z]] U (fun v w'=>v=.bool r_∧ST U [] w' [] []):=by
 subst hn
 subst aa
 subst ab
 subst ac
 unfold Cs at O
 refine cv_of_cw 24 Tryz.func14 rfl Tryz.ntmps14 rfl ?_
 refine cq (cr ?_)
 refine sS 2 (yV [vi t.Qubits,.slice B t.XImages.length c,.slice P t.ZImages.length V] 3 hS) ?_
 rintro _ w_ ⟨b,rfl,ae⟩
 refine sS 3 (yV [vi u.Qubits,.slice Q u.XImages.length W,.slice S u.ZImages.length Z] 3 ae) ?_
 rintro _ ay ⟨b1,rfl,o⟩
 refine sQ 4 yu (rn (cq (cr ?_)))
 refine sQ 5 (yd (aD b) 0 0 K22 K1)<|sQ 6 (yz 0 K0 (o.c 0))<|sQ 7 (yd (aD b1) 0 0 K22 K1)<|sQ 8 (yz 0 K0 (o.c 1))<|sQ 9 zE<|sQ 10 yv ?_
 refine sgq 11 rfl rfl (uT_ 10) (fun hg=>(yd (aD b) 0 0 K18 K4)) ?_
 refine sgq 12 rfl rfl (uT_ 10) (fun ag=>(yz 1 K7 (o.c 0) rfl (gv_of ag))) ?_
 refine sgq 13 rfl rfl (uT_ 10) (fun aA=>(yd (aD b1) 0 0 K18 K4)) ?_
 refine sgq 14 rfl rfl (uT_ 10) (fun ah=>(yz 1 K7 (o.c 1) rfl (gv_of ah))) ?_
 obtain ⟨ai,hc,O⟩:=bI O
 refine sgc 15 (v:=.bool ai) (F:=o.fn) rfl rfl (uT_ 10) o (fun H=>(yc KX (CV.mono (M1 t.XImages u.XImages B c t.XImages.length Q W u.XImages.length _ rfl rfl (o.inn0 [(true,0),(true,2)] rfl) (gb_inv hc H)) (by rintro _ _ ⟨rfl,h⟩; exact ⟨rfl,o.out00 h⟩)) rfl (mc (gv_of H) (mc (gv_of H) mn)))) ?_
 rintro aB D
 refine sQ 16 yA<|sQ 17 yv ?_
 refine sgq 18 rfl rfl (uT_ 17) (fun aE=>(yd (aD b) 0 0 K20 K4)) ?_
 refine sgq 19 rfl rfl (uT_ 17) (fun aj=>(yz 2 K7 (D.c 0) rfl (gv_of aj))) ?_
 refine sgq 20 rfl rfl (uT_ 17) (fun aF=>(yd (aD b1) 0 0 K20 K4)) ?_
 refine sgq 21 rfl rfl (uT_ 17) (fun ak=>(yz 2 K7 (D.c 1) rfl (gv_of ak))) ?_
 obtain ⟨al,am,O⟩:=bI O
 refine sgc 22 (v:=.bool al) (F:=D.fn) rfl rfl (uT_ 17) D (fun J=>(yc KX (CV.mono (M1 t.ZImages u.ZImages P V t.ZImages.length S Z u.ZImages.length _ rfl rfl (D.inn0 [(true,1),(true,3)] rfl) (gb_inv am J)) (by rintro _ _ ⟨rfl,h⟩; exact ⟨rfl,D.out00 h⟩)) rfl (mc (gv_of J) (mc (gv_of J) mn)))) ?_
 rintro aG an
 refine sQ 23 yA<|sQ 4 yu (rn (ct_ ?_))
 obtain rfl:=sI O
 exact e1 Tryz.results14 (an.sN [])

theorem IJ (t:Ae) (B:Option Addr) (c n:Nat) (D:Option Addr) (H n1:Nat) (V:World) (hn:t.XImages.length=n) (ae:t.ZImages.length=n1) (hS:ST V [] V [] [⟨B,(t.XImages.flatMap eN0)⟩,⟨D,(t.ZImages.flatMap eN0)⟩]) {u:A7} (hF:Dl t=some u) :
  CV Tryz.prog 82 #[.agg #[vi t.Qubits,.slice B n c,.slice D n1 H]] V (fun v w'=>v=.agg #[vi u.e0.Phase,vi u.e0.X,vi u.e0.Z,vi u.e1.Phase,vi u.e1.X,vi u.e1.Z,vi u.e2.Phase,vi u.e2.X,vi u.e2.Z,vi u.e3.Phase,vi u.e3.X,vi u.e3.Z]∧ST V [] w' [] []):=by
 subst hn
 subst ae
 unfold Dl at hF
 refine cv_of_cw 14 Tryz.func82 rfl Tryz.ntmps82 rfl ?_
 refine cq (cr ?_)
 let V3:List Value:=[vi t.Qubits,.slice B t.XImages.length c,.slice D t.ZImages.length H]
 refine sS 1 (yV V3 3 hS) ?_
 rintro _ w_ ⟨b,rfl,af⟩
 let Q:List Value:=[vi 0,vi 0,vi 0,vi 0,vi 0,vi 0,vi 0,vi 0,vi 0,vi 0,vi 0,vi 0]
 refine sS 2 (yN Q 12 af Js) ?_
 rintro _ av ⟨b1,rfl,ag⟩
 refine rn (cq (cr ?_))
 refine sQ 4 (show Y _ _ _ _ _ (.agg Q.toArray) from Y_buildA (zs:=Q) (vs:=[]) (cs:=Q) GY K2 Js rfl rfl rfl) ?_
 refine sS 3 (yN Q 12 ag Js) ?_
 rintro _ ay ⟨b2,rfl,ai⟩
 refine s0 (yK 2 12 0 ai HJ) ?_
 rintro _ aA ⟨rfl,aa⟩
 refine rn (cq ?_)
 obtain ⟨o,hc,hF⟩:=bI hF
 refine ra_start (aa.se [0,1]).fn (by kernel_rfl) ?_
 have ab:=aa.drew
 have J:=ab.se [0,1]
 refine rq 0 5 rfl J (fun _ W=>(Y_sliceArr (B:=aD b2) (k:=0) GY K2 rfl rfl))<|rq 1 6 rfl J (fun _ W=>(yd (aD b) 0 0 K18 K4))<|rq 2 7 rfl J (fun _ W=>(yz 1 K7 (ST.c W 0)))<|rq 3 8 rfl J (fun _ W=>(yd (aD b) 0 0 K20 K4))<|rq 4 9 rfl J (fun _ W=>(yz 2 K7 (ST.c W 0))) ?_
 refine rA [5] ?_
 refine rS 10 5 rfl (yF 1 2 [.slice B t.XImages.length c,.slice D t.ZImages.length H] 2 ab K90 K4 JP rfl (mpc rfl (mpc rfl mpn))) ?_ aN
 rintro _ aB ⟨b3,rfl,aj⟩
 let R0:Ro:=⟨D,(t.ZImages.flatMap eN0)⟩
 let R1:Ro:=⟨B,(t.XImages.flatMap eN0)⟩
 have am:∀ r∈(([((B,c),t.XImages),((D,H),t.ZImages)]:List (Hd×(List Aa))).flatMap AF),r∈([R1,R0]:List Ro):=(fsub_cons (sk 0 (fun _ h=>by cases h)) (fsub_cons (sk 1 (fun _ h=>by cases h)) fsub_nil))
 have aE:Org V [] [R1,R0] (([((B,c),t.XImages),((D,H),t.ZImages)]:List (Hd×(List Aa))).flatMap AF):=(forg_cons (org_cons (org_mem (i:=0) rfl) org_nil) (forg_cons (org_cons (org_mem (i:=1) rfl) org_nil) forg_nil))
 have U:ST V [] _ [⟨aD b,25,V3,3⟩,⟨aD b1,121,Q,12⟩,⟨aD b2,121,Q,12⟩,⟨aD b3,23,(([((B,c),t.XImages),((D,H),t.ZImages)]:List (Hd×(List Aa))).flatMap CE),2*1⟩] (R1::R0::((([((B,c),t.XImages),((D,H),t.ZImages)]:List (Hd×(List Aa))).flatMap AF)++[])):=ST.subR aj (sk 0 (sk 1 (suba am (fun _ h=>by cases h))))
 refine ⟨((U.se [0,1]).sT [0,1]),?_⟩
 refine rA [6] ?_
 refine rC 11 6 rfl (yc Lf (L5 ([t.XImages,t.ZImages]:List (List Aa)) (aD b3) 2 2 ([((B,c),t.XImages),((D,H),t.ZImages)]:List (Hd×(List Aa))) _ (dl_fl (show List.map Prod.snd ([((B,c),t.XImages),((D,H),t.ZImages)]:List (Hd×(List Aa)))=([t.XImages,t.ZImages]:List (List Aa)) from rfl) rfl) (show List.map Prod.snd ([((B,c),t.XImages),((D,H),t.ZImages)]:List (Hd×(List Aa)))=([t.XImages,t.ZImages]:List (List Aa)) from rfl) (U.innR0 (srcO (i:=3) rfl (srcG (fun u (h:u∈((([((B,c),t.XImages),((D,H),t.ZImages)]:List (Hd×(List Aa))).flatMap AF):List Ro))=>mOd (i:=2) (show u∈((((([((B,c),t.XImages),((D,H),t.ZImages)]:List (Hd×(List Aa))).flatMap AF)++[])):List Ro) from mAl _ h)) (fun _ h=>by cases h)))) hc)) ?_ aN
 rintro _ aF ⟨B2,c2,rfl,hd⟩
 have O:=U.out0 hd
 refine ⟨((O.se [0,1]).sT [0,1]),?_⟩
 refine rA [7] ?_
 refine rS 12 7 rfl (Ys_copyArrS (enc:=eN0) (Aa.mk 0 0 0) (i:=2) (m:=12) (na:=4) (k:=0) (q:=o.length) (B:=aD b2) (A:=[]) (C:=[]) (cs:=Q) (cs':=[vi ((o.getD 0 (Aa.mk 0 0 0)).Phase),vi ((o.getD 0 (Aa.mk 0 0 0)).X),vi ((o.getD 0 (Aa.mk 0 0 0)).Z),vi ((o.getD 1 (Aa.mk 0 0 0)).Phase),vi ((o.getD 1 (Aa.mk 0 0 0)).X),vi ((o.getD 1 (Aa.mk 0 0 0)).Z),vi ((o.getD 2 (Aa.mk 0 0 0)).Phase),vi ((o.getD 2 (Aa.mk 0 0 0)).X),vi ((o.getD 2 (Aa.mk 0 0 0)).Z),vi ((o.getD 3 (Aa.mk 0 0 0)).Phase),vi ((o.getD 3 (Aa.mk 0 0 0)).X),vi ((o.getD 3 (Aa.mk 0 0 0)).Z)]) (l':=o) (old:=[(Aa.mk 0 0 0),(Aa.mk 0 0 0),(Aa.mk 0 0 0),(Aa.mk 0 0 0)]) O K5 K2 eN2 BR rfl rfl rfl rfl rfl rfl rfl (O.c 4) rfl rfl rfl) ?_ aN
 rintro _ aG ⟨rfl,P⟩
 refine ⟨((P.se [0,1]).sT [0,1]),?_⟩
 refine ra_done (by kernel_rfl) ?_
 refine cq (cr ?_)
 refine sQ 13 (yw 0 IS HJ (P.c 2)) ?_
 refine s0 (yK 1 12 0 P HJ) ?_
 rintro _ aI ⟨rfl,S⟩
 refine rn (ct_ ?_)
 obtain rfl:=sI hF
 exact ret1 Tryz.results82 (rX IS HJ (S.c 1)) ⟨rfl,(S.sN [])⟩

theorem Qi (s:List Ab) (B:Option Addr) (c n:Nat) (H:World) (Z:s.length=n) (O:ST H [] H [] [⟨B,(s.flatMap eN1)⟩]) {J:List Ab} (o:FM s=some J) :
  CV Tryz.prog 83 #[.slice B n c] H (fun v w'=>∃ (U:Option Addr) (V:Nat),v=.slice U J.length V∧ST H [] w' [⟨U,57,(J.flatMap eN1),V*3⟩] []):=by
 subst Z
 unfold FM at o
 refine cv_of_cw 8 Tryz.func83 rfl Tryz.ntmps83 rfl ?_
 refine cq (cr ?_)
 refine sQ 2 yu (rn (cq (cq (cr ?_))))
 refine sQ 3 yv<|sQ 4 (Y_nileql (B:=B) (m:=s.length) (c:=c) K15 rfl rfl rfl) (rn ?_)
 refine cw_cond rfl (fun hb=>?_) (fun hb=>?_)
 ·skip
  have W:s=[]:=nil_cont eN4 (O.rf (i:=0) rfl) rfl hb
  rw [W] at o
  have P:(some ([]))=some J:=by simpa [chk] using o
  subst W
  refine cq (cr ?_)
  refine sQ 2 yu (rn (ct_ ?_))
  have Q:=O.addNil 57
  obtain rfl:=sI P
  exact ret1 Tryz.results83 rT ⟨none,0,rfl,(Q.sN [0])⟩
 ·skip
  refine cw_skip (cq (cr ?_))
  refine sS 5 (Ys_bslice0 (s:=3) (e:=57) O K15 K8 rfl) ?_
  rintro _ w_ ⟨b,rfl,u⟩
  refine sQ 6 yv ?_
  obtain ⟨D,o⟩:=chk_inv o
  refine sS 7 (Ys_append (s:=3) (by':=24) (i:=0) (nn:=0) (c:=0) (k:=s.length) (len:=s.length) (B:=aD b) (xs:=(s.flatMap eN1)) (cs':=(s.flatMap eN1)) u K15 K8 K59 K28 rfl (by decide) rfl rfl rfl rfl (fm_lenn (l:=[]) eN4 rfl) rfl (u.rf (i:=0) rfl) (fm_lenn (l:=s) eN4 rfl) (fm_one' (enc:=eN1) BK s) (by have:=D; omega) (by have:=D; simp only [maxLen]; omega) rfl (app_len0 (l:=s) rfl)) ?_
  rintro _ ab ⟨B2,c2,rfl,S⟩
  refine sQ 2 yu (rn (ct_ ?_))
  obtain rfl:=sI o
  exact ret1 Tryz.results83 rT ⟨B2,c2,rfl,(S.sN [0])⟩

theorem Jq:KeyE Tryz.prog 121 A2 :=
 keyAgg IS (fun a=>⟨_,rfl⟩)
  (fun a b h=>by
   obtain ⟨⟨o,u,D⟩,⟨H,J,O⟩,⟨P,Q,S⟩,⟨U,V,W⟩⟩:=a
   obtain ⟨⟨aa,ab,ac⟩,⟨ae,af,ag⟩,⟨ah,ai,aj⟩,⟨ak,al,am⟩⟩:=b
   unfold A2 at h
   injection h with h
   have h:=congrArg Array.toList h
   simp only [List.cons.injEq,Value.int.injEq,true_and,and_true] at h
   simp only [A7.mk.injEq,Aa.mk.injEq,Prod.mk.injEq]
   simp only [h,and_self])
  (fun a b=>⟨_,(eqr_arr (xs:=[vi a.e0.Phase,vi a.e0.X,vi a.e0.Z,vi a.e1.Phase,vi a.e1.X,vi a.e1.Z,vi a.e2.Phase,vi a.e2.X,vi a.e2.Z,vi a.e3.Phase,vi a.e3.X,vi a.e3.Z]) (ys:=[vi b.e0.Phase,vi b.e0.X,vi b.e0.Z,vi b.e1.Phase,vi b.e1.X,vi b.e1.Z,vi b.e2.Phase,vi b.e2.X,vi b.e2.Z,vi b.e3.Phase,vi b.e3.X,vi b.e3.Z]) GY K2 rfl (itm_ag (us:=[vi a.e0.Phase,vi a.e0.X,vi a.e0.Z]) (vs:=[vi b.e0.Phase,vi b.e0.X,vi b.e0.Z]) K6 K2 rfl rfl (eqr_struct (xs:=[vi a.e0.Phase,vi a.e0.X,vi a.e0.Z]) (ys:=[vi b.e0.Phase,vi b.e0.X,vi b.e0.Z]) K60 K70 (pts_sc K0 rfl rfl (eqr_int K16) (pts_sc K0 rfl rfl (eqr_int K16) (pts_sc K0 rfl rfl (eqr_int K16) pts_nil)))) (itm_ag (us:=[vi a.e1.Phase,vi a.e1.X,vi a.e1.Z]) (vs:=[vi b.e1.Phase,vi b.e1.X,vi b.e1.Z]) K6 K2 rfl rfl (eqr_struct (xs:=[vi a.e1.Phase,vi a.e1.X,vi a.e1.Z]) (ys:=[vi b.e1.Phase,vi b.e1.X,vi b.e1.Z]) K60 K70 (pts_sc K0 rfl rfl (eqr_int K16) (pts_sc K0 rfl rfl (eqr_int K16) (pts_sc K0 rfl rfl (eqr_int K16) pts_nil)))) (itm_ag (us:=[vi a.e2.Phase,vi a.e2.X,vi a.e2.Z]) (vs:=[vi b.e2.Phase,vi b.e2.X,vi b.e2.Z]) K6 K2 rfl rfl (eqr_struct (xs:=[vi a.e2.Phase,vi a.e2.X,vi a.e2.Z]) (ys:=[vi b.e2.Phase,vi b.e2.X,vi b.e2.Z]) K60 K70 (pts_sc K0 rfl rfl (eqr_int K16) (pts_sc K0 rfl rfl (eqr_int K16) (pts_sc K0 rfl rfl (eqr_int K16) pts_nil)))) (itm_ag (us:=[vi a.e3.Phase,vi a.e3.X,vi a.e3.Z]) (vs:=[vi b.e3.Phase,vi b.e3.X,vi b.e3.Z]) K6 K2 rfl rfl (eqr_struct (xs:=[vi a.e3.Phase,vi a.e3.X,vi a.e3.Z]) (ys:=[vi b.e3.Phase,vi b.e3.X,vi b.e3.Z]) K60 K70 (pts_sc K0 rfl rfl (eqr_int K16) (pts_sc K0 rfl rfl (eqr_int K16) (pts_sc K0 rfl rfl (eqr_int K16) pts_nil)))) itm_nil))))),by
   obtain ⟨⟨o,u,D⟩,⟨H,J,O⟩,⟨P,Q,S⟩,⟨U,V,W⟩⟩:=a
   obtain ⟨⟨aa,ab,ac⟩,⟨ae,af,ag⟩,⟨ah,ai,aj⟩,⟨ak,al,am⟩⟩:=b
   simp only [Bool.and_eq_true,beq_iff_eq,A7.mk.injEq,Aa.mk.injEq,Prod.mk.injEq,and_true]
   try simp only [and_assoc]⟩)
  (fun a=>(chk_arrA (xs:=[vi a.e0.Phase,vi a.e0.X,vi a.e0.Z,vi a.e1.Phase,vi a.e1.X,vi a.e1.Z,vi a.e2.Phase,vi a.e2.X,vi a.e2.Z,vi a.e3.Phase,vi a.e3.X,vi a.e3.Z]) GY K2 rfl (ica_ag (us:=[vi a.e0.Phase,vi a.e0.X,vi a.e0.Z]) K6 K2 rfl (chk_struct (xs:=[vi a.e0.Phase,vi a.e0.X,vi a.e0.Z]) K60 (pck_sc K0 rfl (chk_int K16) (pck_sc K0 rfl (chk_int K16) (pck_sc K0 rfl (chk_int K16) pck_nil)))) (ica_ag (us:=[vi a.e1.Phase,vi a.e1.X,vi a.e1.Z]) K6 K2 rfl (chk_struct (xs:=[vi a.e1.Phase,vi a.e1.X,vi a.e1.Z]) K60 (pck_sc K0 rfl (chk_int K16) (pck_sc K0 rfl (chk_int K16) (pck_sc K0 rfl (chk_int K16) pck_nil)))) (ica_ag (us:=[vi a.e2.Phase,vi a.e2.X,vi a.e2.Z]) K6 K2 rfl (chk_struct (xs:=[vi a.e2.Phase,vi a.e2.X,vi a.e2.Z]) K60 (pck_sc K0 rfl (chk_int K16) (pck_sc K0 rfl (chk_int K16) (pck_sc K0 rfl (chk_int K16) pck_nil)))) (ica_ag (us:=[vi a.e3.Phase,vi a.e3.X,vi a.e3.Z]) K6 K2 rfl (chk_struct (xs:=[vi a.e3.Phase,vi a.e3.X,vi a.e3.Z]) K60 (pck_sc K0 rfl (chk_int K16) (pck_sc K0 rfl (chk_int K16) (pck_sc K0 rfl (chk_int K16) pck_nil)))) ica_nil))))))
  (fun a=>bits_agg (xs:=[vi a.e0.Phase,vi a.e0.X,vi a.e0.Z,vi a.e1.Phase,vi a.e1.X,vi a.e1.Z,vi a.e2.Phase,vi a.e2.X,vi a.e2.Z,vi a.e3.Phase,vi a.e3.X,vi a.e3.Z]) (fun v hv=>by
   simp only [List.mem_cons,List.not_mem_nil,or_false] at hv
   rcases hv with rfl | rfl | rfl | rfl | rfl | rfl | rfl | rfl | rfl | rfl | rfl | rfl <;> simp [Instr.sameBits]))
theorem Th (t:Ae) (B:Option Addr) (c n:Nat) (B1:Option Addr) (c1 n1:Nat) (w0:World) (hn:t.XImages.length=n) (eA:t.ZImages.length=n1) (hS:ST w0 [] w0 [] [⟨B,(t.XImages.flatMap eN0)⟩,⟨B1,(t.ZImages.flatMap eN0)⟩]) {r_:List Ab} {dd:Bool} (hF:F0 t=some (r_,dd)) :
  CV Tryz.prog 47 #[.agg #[vi t.Qubits,.slice B n c,.slice B1 n1 c1]] w0 (fun v w'=>∃ (B2:Option Addr) (c2:Nat),v=.tuple #[.slice B2 r_.length c2,.bool dd]∧r_.length≤c2∧Org w0 [] [⟨B,(t.XImages.flatMap eN0)⟩,⟨B1,(t.ZImages.flatMap eN0)⟩] [⟨B2,(r_.flatMap eN1)⟩]∧ST w0 [] w' [] [⟨B2,(r_.flatMap eN1)⟩]):=by
 subst hn
 subst eA
 unfold F0 at hF
 refine cv_of_cw 101 Tryz.func47 rfl Tryz.ntmps47 rfl ?_
 refine cq (cr ?_)
 refine sS 1 (yV [vi t.Qubits,.slice B t.XImages.length c,.slice B1 t.ZImages.length c1] 3 hS) ?_
 rintro _ w_ ⟨b,rfl,eC⟩
 refine sQ 2 yu<|sQ 3 yu (rn (cq (cr ?_)))
 refine sS 15 (Ys_bslice0 (s:=3) (e:=57) eC K15 K8 rfl) ?_
 rintro _ gl ⟨b1,rfl,de⟩
 refine sQ 4 yu (rn (cq (cq (cr ?_))))
 refine sQ 16 (yd (aD b) 0 0 K22 K1)<|sQ 17 (yz 0 K0 (de.c 0))<|sQ 18 yv (rn ?_)
 obtain ⟨hN,hF⟩:=chk_inv hF
 obtain ⟨z,hz,eD⟩:=bI hF
 refine cw_block ?_
 let O0:Ob:=⟨aD b,25,[vi t.Qubits,.slice B t.XImages.length c,.slice B1 t.ZImages.length c1],3⟩
 let H:Ro:=⟨B1,(t.ZImages.flatMap eN0)⟩
 let J:Ro:=⟨B,(t.XImages.flatMap eN0)⟩
 refine cw_loop (fun k f w=>∃ (i:Nat) (ap:List Ab) (B3:Option Addr) (c3:Nat),FF f [(1,pt (aD b) 0),(4,.slice B3 ap.length c3),(17,vi t.Qubits),(18,vi (i:Int))]∧ST w0 [] w [O0,⟨B3,57,(ap.flatMap eN1),c3*3⟩] [J,H]∧i+k=t.Qubits.toNat∧forN GW k i ap=some z) t.Qubits.toNat ⟨0,[],aD b1,0,(fc rfl (fc rfl (fc rfl (fc rfl fn_)))),(de.sel [0,1] rfl rfl),Nat.zero_add _,hz⟩ ?_
 rintro k_ f w ⟨i,ap,B3,c3,hf,b0,gq,hL⟩
 refine cq (cr ?_)
 refine sQ 19 (zL rfl (hf.g 18 3) (hf.g 17 2)) (rn (cq ?_))
 refine cw_cond rfl (fun cC=>?_) (fun cC=>?_)
 ·skip
  have df:i<t.Qubits.toNat:=by have h:=of_decide_eq_true cC; omega
  obtain ⟨K13,rfl⟩:∃ k2,k_=k2+1:=⟨k_-1,by omega⟩
  obtain ⟨y,hb,eF⟩:=forN_go hL
  unfold GW at hb
  refine cw_skip (cq (cw_block (cq (cr ?_))))
  refine sQ 20 (yv rfl (hf.g 18 3))<|sQ 5 yu (rn (cr ?_))
  refine sQ 21 (yv rfl (hf.g 4 1))<|sQ 22 yv<|sQ 23 (Y_buildS (zs:=[vi 0,vi 0,vi 0]) (vs:=[(0,vi 1),(1,vi (i:Int)),(2,vi 0)]) (cs:=[vi 1,vi (i:Int),vi 0]) K69 K28 rfl (mpc rfl (mpc rfl (mpc rfl mpn))) rfl)<|sQ 24 yv<|sQ 25 (Y_buildS (zs:=[vi 0,vi 0,vi 0]) (vs:=[(0,vi 5),(1,vi (i:Int)),(2,vi 0)]) (cs:=[vi 5,vi (i:Int),vi 0]) K69 K28 rfl (mpc rfl (mpc rfl (mpc rfl mpn))) rfl) ?_
  refine sS 26 (yF 3 2 [vi 1,vi (i:Int),vi 0,vi 5,vi (i:Int),vi 0] 6 b0 K15 K8 K64 rfl (mpc rfl (mpc rfl mpn))) ?_
  rintro _ gr ⟨b2,rfl,dh⟩
  obtain ⟨eG,hb⟩:=chk_inv hb
  refine sS 27 (aP 3 24 1 ap [(Ab.mk 1 (i:Int) 0),(Ab.mk 5 (i:Int) 0)] dh K15 K8 K59 K28 eN4 BK (dh.c 2) eG) ?_
  rintro _ gs ⟨B4,c4,rfl,eH⟩
  refine sQ 4 yu (rn (cr ?_))
  refine sQ 28 (zP rfl (hf.g 18 3))<|sQ 18 yv (rn ?_)
  obtain rfl:=sI hb
  exact ⟨K13,Nat.lt_succ_self _,i+1,(ap++[(Ab.mk 1 (i:Int) 0),(Ab.mk 5 (i:Int) 0)]),B4,c4,(hf.a 1 0 (fc rfl (hf.a 17 2 (fc (congrArg (Value.int .i64) (wr_succ df hN)) fn_)))),(eH.sel [0,1] rfl rfl),(by omega),eF⟩
 ·skip
  obtain rfl:k_=0:=by have h:=of_decide_eq_false cC; omega
  refine cw_exit rfl ?_
  obtain rfl:=sI hL
  refine cq ?_
  obtain ⟨z1,di,bn⟩:=bI eD
  refine cw_mid (fun f w=>∃ (u:List Ab) (B5:Option Addr) (c5:Nat),u=z1∧FF f [(1,pt (aD b) 0),(4,.slice B5 u.length c5)]∧ST w0 [] w [O0,⟨B5,57,(u.flatMap eN1),c5*3⟩] [J,H]) ?_ ?_
  ·skip
   refine cq (cr ?_)
   refine sQ 29 (yd (aD b) 0 0 K22 K1 rfl (hf.g 1 0))<|sQ 30 (yz 0 K0 (b0.c 0))<|sQ 31 zE (rn ?_)
   refine cw_cond rfl (fun cD=>?_) (fun cD=>?_)
   ·skip
    have cE:=ct di cD
    refine cr ?_
    refine sQ 32 (yv rfl (hf.g 4 1))<|sQ 33 (Y_buildS (zs:=[vi 0,vi 0,vi 0]) (vs:=[(0,vi 9),(1,vi 0),(2,vi 1)]) (cs:=[vi 9,vi 0,vi 1]) K69 K28 rfl (mpc rfl (mpc rfl (mpc rfl mpn))) rfl)<|sQ 34 (Y_buildS (zs:=[vi 0,vi 0,vi 0]) (vs:=[(0,vi 9),(1,vi 1),(2,vi 0)]) (cs:=[vi 9,vi 1,vi 0]) K69 K28 rfl (mpc rfl (mpc rfl (mpc rfl mpn))) rfl) ?_
    refine sS 35 (yF 3 2 [vi 9,vi 0,vi 1,vi 9,vi 1,vi 0] 6 b0 K15 K8 K64 rfl (mpc rfl (mpc rfl mpn))) ?_
    rintro _ gx ⟨b3,rfl,dj⟩
    obtain ⟨dk,cE⟩:=chk_inv cE
    refine sS 36 (aP 3 24 1 ap [(Ab.mk 9 0 1),(Ab.mk 9 1 0)] dj K15 K8 K59 K28 eN4 BK (dj.c 2) dk) ?_
    rintro _ gy ⟨B6,c6,rfl,eI⟩
    refine sQ 4 yu (rn ?_)
    exact ⟨(ap++[(Ab.mk 9 0 1),(Ab.mk 9 1 0)]),B6,c6,(sI cE),(hf.a 1 0 (fc rfl fn_)),(eI.sel [0,1] rfl rfl)⟩
   ·skip
    have eJ:=cf' di cD
    refine cw_skip ?_
    exact ⟨ap,B3,c3,(sI eJ),(hf.a 1 0 (hf.a 4 1 fn_)),(b0.sel [0,1] rfl rfl)⟩
  rintro f w ⟨u,B5,c5,rfl,cF,cG⟩
  refine cq (cr ?_)
  refine sQ 37 (yd (aD b) 0 0 K22 K1 rfl (cF.g 1 0))<|sQ 38 (yz 0 K0 (cG.c 0)) ?_
  obtain ⟨W,hc,bn⟩:=bI bn
  refine sc 39 rfl rfl (yc Gl (Ge t.Qubits _  (cG.inn0 [] rfl) hc)) ?_
  rintro _ gB ⟨B7,c7,B8,c8,rfl,hd⟩
  have cH:=cG.out0 hd
  refine sQ 40 (Y_buildS (zs:=[vi 0,.slice none 0 0,.slice none 0 0,.slice none 0 0]) (vs:=[(0,.agg #[vi W.Qubits,.slice B7 W.XImages.length c7,.slice B8 W.ZImages.length c8])]) (cs:=[vi W.Qubits,.slice B7 W.XImages.length c7,.slice B8 W.ZImages.length c8,.slice none 0 0]) KZ HR rfl (mpc rfl mpn) rfl) ?_
  let aa:Ro:=⟨B7,(W.XImages.flatMap eN0)⟩
  have ho:Org w0 [] [J,H] [aa]:=ST.orgOwn cH (i:=2) rfl
  have dl:W.XImages.length≤c7:=(cH.lencap (i:=2) rfl (fm_lenn (l:=W.XImages) eN2 rfl) rfl rfl)
  let O2:Ob:=⟨B5,57,(u.flatMap eN1),c5*3⟩
  have bH:ST w0 [] _ [O0,O2,⟨B8,64,(W.ZImages.flatMap eN0),c8*3⟩] [aa,J,H]:=cH.freeze (i:=2) rfl
  let ac:Ro:=⟨B8,(W.ZImages.flatMap eN0)⟩
  have eK:Org w0 [] [J,H] [ac]:=ST.orgOwn bH (i:=2) rfl
  have cI:W.ZImages.length≤c8:=(bH.lencap (i:=2) rfl (fm_lenn (l:=W.ZImages) eN2 rfl) rfl rfl)
  have dm:ST w0 [] _ [O0,O2] [ac,aa,J,H]:=bH.freeze (i:=2) rfl
  have dn:ST w0 [] _ [O0,O2] [⟨none,([].flatMap eN1)⟩,ac,aa,J,H]:=ST.nilRo dm
  refine sS 41 (yF 4 1 [vi W.Qubits,.slice B7 W.XImages.length c7,.slice B8 W.ZImages.length c8,.slice none 0 0] 4 dn K88 K79 MD rfl (mpc rfl mpn)) ?_
  rintro _ gD ⟨b4,rfl,dp⟩
  have hm:∀ r∈(([(((B7,c7),(B8,c8),(none,0)),(Af.mk W []))]:List ((Hd×Hd×Hd)×Af)).flatMap eN3),r∈([⟨none,([].flatMap eN1)⟩,ac,aa,J,H]:List Ro):=(fsub_cons (sk 2 (sk 1 (sk 0 (fun _ h=>by cases h)))) fsub_nil)
  have eL:Org w0 [] [J,H] (([(((B7,c7),(B8,c8),(none,0)),(Af.mk W []))]:List ((Hd×Hd×Hd)×Af)).flatMap eN3):=(forg_cons (org_cons ho (org_cons eK (org_cons org_none org_nil))) forg_nil)
  have eM:∀ p_∈([(((B7,c7),(B8,c8),(none,0)),(Af.mk W []))]:List ((Hd×Hd×Hd)×Af)),Bm p_:=fun p_ bJ=>by rw [List.mem_singleton.1 bJ]; exact ⟨dl,cI,(Nat.le_refl 0)⟩
  have dq:ST w0 [] _ [O0,O2,⟨aD b4,118,(([(((B7,c7),(B8,c8),(none,0)),(Af.mk W []))]:List ((Hd×Hd×Hd)×Af)).flatMap eN5),1*4⟩] (⟨none,([].flatMap eN1)⟩::ac::aa::J::H::((([(((B7,c7),(B8,c8),(none,0)),(Af.mk W []))]:List ((Hd×Hd×Hd)×Af)).flatMap eN3)++[])):=ST.subR dp (sk 0 (sk 1 (sk 2 (sk 3 (sk 4 (suba hm (fun _ h=>by cases h)))))))
  refine sQ 6 yu (rn (cq (cr ?_)))
  refine sS 42 (Ys_mkMap (T:=123) dq rfl) ?_
  rintro _ gF ⟨g,rfl,ch⟩
  refine sQ 43 yv ?_
  obtain ⟨x,hx,bn⟩:=bI bn
  obtain ⟨⟨⟨B9,c9⟩,⟨cJ,dr⟩,⟨eO,gH⟩⟩,hp⟩:=getI_snd (show List.map Prod.snd ([(((B7,c7),(B8,c8),(none,0)),(Af.mk W []))]:List ((Hd×Hd×Hd)×Af))=([(Af.mk W [])]:List Af) from rfl) hx
  refine sQ 44 (yI (aD b4) 0 K88 K79 (gi_isSome E6 rfl (ch.c 2) hp) (getI_nn hp) (getI_ltI hp rfl))<|sQ 45 (yd (aD b4) ((0:Int).toNat*4) 2 I3 K3) ?_
  let ae:Ro:=⟨B9,(x.t.XImages.flatMap eN0)⟩
  have eP:(ae:Ro)∈((⟨none,([].flatMap eN1)⟩::⟨B8,(W.ZImages.flatMap eN0)⟩::⟨B7,(W.XImages.flatMap eN0)⟩::J::H::((([(((B7,c7),(B8,c8),(none,0)),(Af.mk W []))]:List ((Hd×Hd×Hd)×Af)).flatMap eN3)++[])):List Ro):=app_mem (fun r_ (h:r_∈((([(((B7,c7),(B8,c8),(none,0)),(Af.mk W []))]:List ((Hd×Hd×Hd)×Af)).flatMap eN3):List Ro))=>mOd (i:=5) (show r_∈((((([(((B7,c7),(B8,c8),(none,0)),(Af.mk W []))]:List ((Hd×Hd×Hd)×Af)).flatMap eN3)++[])):List Ro) from mAl _ h)) (row_mem (rw_:=eN3) hp _ (mt 0))
  have ds:ST w0 [] _ [O0,O2,⟨aD b4,118,(([(((B7,c7),(B8,c8),(none,0)),(Af.mk W []))]:List ((Hd×Hd×Hd)×Af)).flatMap eN5),1*4⟩,⟨(aD g),.mp (mpE A2 Value.bool ([]:List (A7×Bool))),[],0⟩] (ae::⟨none,([].flatMap eN1)⟩::ac::aa::J::H::((([(((B7,c7),(B8,c8),(none,0)),(Af.mk W []))]:List ((Hd×Hd×Hd)×Af)).flatMap eN3)++[])):=ST.subR ch (subc eP (fun _ h=>h))
  let ag:Ro:=⟨cJ,(x.t.ZImages.flatMap eN0)⟩
  have eQ:(ag:Ro)∈((ae::⟨none,([].flatMap eN1)⟩::⟨B8,(W.ZImages.flatMap eN0)⟩::⟨B7,(W.XImages.flatMap eN0)⟩::J::H::((([(((B7,c7),(B8,c8),(none,0)),(Af.mk W []))]:List ((Hd×Hd×Hd)×Af)).flatMap eN3)++[])):List Ro):=app_mem (fun r_ (h:r_∈((([(((B7,c7),(B8,c8),(none,0)),(Af.mk W []))]:List ((Hd×Hd×Hd)×Af)).flatMap eN3):List Ro))=>mOd (i:=6) (show r_∈((((([(((B7,c7),(B8,c8),(none,0)),(Af.mk W []))]:List ((Hd×Hd×Hd)×Af)).flatMap eN3)++[])):List Ro) from mAl _ h)) (row_mem (rw_:=eN3) hp _ (mt 1))
  have dt:ST w0 [] _ [O0,O2,⟨aD b4,118,(([(((B7,c7),(B8,c8),(none,0)),(Af.mk W []))]:List ((Hd×Hd×Hd)×Af)).flatMap eN5),1*4⟩,⟨(aD g),.mp (mpE A2 Value.bool ([]:List (A7×Bool))),[],0⟩] (ag::ae::⟨none,([].flatMap eN1)⟩::ac::aa::J::H::((([(((B7,c7),(B8,c8),(none,0)),(Af.mk W []))]:List ((Hd×Hd×Hd)×Af)).flatMap eN3)++[])):=ST.subR ds (subc eQ (fun _ h=>h))
  let ai:Ro:=⟨eO,(x.word.flatMap eN1)⟩
  have eR:(ai:Ro)∈((ag::ae::⟨none,([].flatMap eN1)⟩::⟨B8,(W.ZImages.flatMap eN0)⟩::⟨B7,(W.XImages.flatMap eN0)⟩::J::H::((([(((B7,c7),(B8,c8),(none,0)),(Af.mk W []))]:List ((Hd×Hd×Hd)×Af)).flatMap eN3)++[])):List Ro):=app_mem (fun r_ (h:r_∈((([(((B7,c7),(B8,c8),(none,0)),(Af.mk W []))]:List ((Hd×Hd×Hd)×Af)).flatMap eN3):List Ro))=>mOd (i:=7) (show r_∈((((([(((B7,c7),(B8,c8),(none,0)),(Af.mk W []))]:List ((Hd×Hd×Hd)×Af)).flatMap eN3)++[])):List Ro) from mAl _ h)) (row_mem (rw_:=eN3) hp _ (mt 2))
  have bK:ST w0 [] _ [O0,O2,⟨aD b4,118,(([(((B7,c7),(B8,c8),(none,0)),(Af.mk W []))]:List ((Hd×Hd×Hd)×Af)).flatMap eN5),1*4⟩,⟨(aD g),.mp (mpE A2 Value.bool ([]:List (A7×Bool))),[],0⟩] (ai::ag::ae::⟨none,([].flatMap eN1)⟩::ac::aa::J::H::((([(((B7,c7),(B8,c8),(none,0)),(Af.mk W []))]:List ((Hd×Hd×Hd)×Af)).flatMap eN3)++[])):=ST.subR dt (subc eR (fun _ h=>h))
  refine sQ 46 (ya (aD b4) ((0:Int).toNat*4+0) (([(((B7,c7),(B8,c8),(none,0)),(Af.mk W []))]:List ((Hd×Hd×Hd)×Af)).flatMap eN5) [vi x.t.Qubits,.slice B9 x.t.XImages.length c9,.slice cJ x.t.ZImages.length dr] K11 K3 (bK.c 2) rfl rfl rfl (gi_segf E6 hp (s2:=3) rfl (by decide))) ?_
  obtain ⟨du,eS,bn⟩:=bI bn
  refine sc 47 rfl rfl (yc JA (IJ x.t B9 c9 x.t.XImages.length cJ dr x.t.ZImages.length _ rfl rfl (bK.inn0 [(true,2),(true,1)] rfl) eS)) ?_
  rintro _ gJ ⟨rfl,eT⟩
  have dv:=bK.out00 eT
  refine s0 (Ys_mapIns (kE:=A2) (vE:=Value.bool) (l:=([]:List (A7×Bool))) (a:=du) (b:=true) (g:=g) (i:=3) dv Jq JD rfl rfl rfl rfl rfl rfl) ?_
  rintro _ fJ ⟨rfl,dw⟩
  refine sQ 48 yv<|sQ 7 yu (rn (cq (cq (cr ?_))))
  refine sQ 8 yu (rn ?_)
  obtain ⟨z2,eU,dx⟩:=bI bn
  refine cw_block ?_
  refine cw_loop (fun k f w=>∃ (am:List Af) (a7:List (A7×Bool)) (length:Int) (aA:Option Addr) (aG:Nat) (D:List ((Hd×Hd×Hd)×Af)),FF f [(1,pt (aD b) 0),(4,.slice B5 u.length c5),(6,.slice aA am.length aG),(7,.map (some g)),(8,vi length)]∧D.map Prod.snd=am∧(∀ p_∈D,Bm p_)∧Org w0 [] [J,H] (D.flatMap eN3)∧ST w0 [] w [O0,O2,⟨aA,118,(D.flatMap eN5),aG*4⟩,⟨(aD g),.mp (mpE A2 Value.bool a7),[],0⟩] (ai::ag::ae::⟨none,([].flatMap eN1)⟩::ac::aa::J::H::((D.flatMap eN3)++[]))∧whX (FX t u) k (am,a7,length)=some z2) fuel ⟨([(Af.mk W [])]:List Af),(mput ([]:List (A7×Bool)) du true),0,aD b4,1,([(((B7,c7),(B8,c8),(none,0)),(Af.mk W []))]:List ((Hd×Hd×Hd)×Af)),(cF.a 1 0 (cF.a 4 1 (fc rfl (fc rfl (fc rfl fn_))))),(show List.map Prod.snd ([(((B7,c7),(B8,c8),(none,0)),(Af.mk W []))]:List ((Hd×Hd×Hd)×Af))=([(Af.mk W [])]:List Af) from rfl),eM,eL,(dw.sel [0,1,2,3] rfl rfl),eU⟩ ?_
  rintro K35 f w ⟨am,a7,length,aA,aG,D,bC,hD,dy,eW,ci,eX⟩
  obtain ⟨K68,y1,rfl,cM,cN⟩:=whX_go eX
  unfold FX at cM
  refine cq (cq (cr ?_))
  refine sQ 49 (yv rfl (bC.g 8 4))<|sQ 50 (Y_le rfl rfl rfl) (rn ?_)
  refine cw_cond rfl (fun cO=>?_) (fun cO=>?_)
  ·skip
   have cP:=ct cM cO
   refine cw_skip (cq (cw_block (cq (cr ?_))))
   refine sS 53 (Ys_bslice0 (s:=4) (e:=118) ci K88 K79 rfl) ?_
   rintro _ fK ⟨b5,rfl,dz⟩
   have dA:ST w0 [] _ [O0,O2,⟨aA,118,(D.flatMap eN5),aG*4⟩,⟨(aD g),.mp (mpE A2 Value.bool a7),[],0⟩,⟨aD b5,118,(([]:List ((Hd×Hd×Hd)×Af)).flatMap eN5),0*4⟩] (ai::ag::ae::⟨none,([].flatMap eN1)⟩::ac::aa::J::H::((([]:List ((Hd×Hd×Hd)×Af)).flatMap eN3)++((D.flatMap eN3)++[]))):=ST.subR dz (sk 0 (sk 1 (sk 2 (sk 3 (sk 4 (sk 5 (sk 6 (sk 7 (suba fsub_nil (suba (fun r_ (h:r_∈((D.flatMap eN3):List Ro))=>mOd (i:=8) (show r_∈((((D.flatMap eN3)++[])):List Ro) from mAl _ h)) (fun _ h=>by cases h)))))))))))
   refine sQ 9 yu (rn (cq (cq (cr ?_))))
   refine sQ 54 (yv rfl (bC.g 6 2))<|sQ 55 (Y_len K88 rfl rfl)<|sQ 56 yv (rn ?_)
   obtain ⟨eY,cP⟩:=chk_inv cP
   obtain ⟨z3,eZ,dC⟩:=bI cP
   refine cw_block ?_
   refine cw_loop (fun k f w=>∃ (i1:Nat) (aB:List (A7×Bool)) (aT:List Af) (bo:Option Addr) (bp:Nat) (D1:List ((Hd×Hd×Hd)×Af)) (D2:List ((Hd×Hd×Hd)×Af)),FF f [(1,pt (aD b) 0),(4,.slice B5 u.length c5),(7,.map (some g)),(8,vi length),(9,.slice bo aT.length bp),(54,.slice aA am.length aG),(55,vi (am.length:Int)),(56,vi (i1:Int))]∧D1.map Prod.snd=aT∧(∀ p_∈D1,Bm p_)∧Org w0 [] [J,H] (D1.flatMap eN3)∧D2.map Prod.snd=am∧(∀ p_∈D2,Bm p_)∧Org w0 [] [J,H] (D2.flatMap eN3)∧ST w0 [] w [O0,O2,⟨(aD g),.mp (mpE A2 Value.bool aB),[],0⟩,⟨bo,118,(D1.flatMap eN5),bp*4⟩,⟨aA,118,(D2.flatMap eN5),aG*4⟩] (ai::ag::ae::⟨none,([].flatMap eN1)⟩::ac::aa::J::H::((D1.flatMap eN3)++((D2.flatMap eN3)++[])))∧i1+k=am.length∧forX (E9 am t u) k i1 (aB,aT)=some z3) am.length ⟨0,a7,([]:List Af),aD b5,0,([]:List ((Hd×Hd×Hd)×Af)),D,(bC.a 1 0 (bC.a 4 1 (bC.a 7 3 (bC.a 8 4 (fc rfl (fc rfl (fc rfl (fc rfl fn_)))))))),rfl,(fun _ h=>(by cases h)),forg_nil,hD,dy,eW,(dA.sel [0,1,3,4,2] rfl rfl),Nat.zero_add _,eZ⟩ ?_
   rintro K126 f w ⟨i1,aB,aT,bo,bp,D1,D2,aE,dD,cj,dE,cQ,ck,dF,bL,fO,dH⟩
   refine cq (cr ?_)
   refine sQ 57 (zL rfl (aE.g 56 7) (aE.g 55 6)) (rn (cq ?_))
   refine cw_cond rfl (fun bM=>?_) (fun bM=>?_)
   ·skip
    have dI:i1<am.length:=by have h:=of_decide_eq_true bM; omega
    obtain ⟨e0,rfl⟩:∃ k2,K126=k2+1:=⟨K126-1,by omega⟩
    obtain ⟨y2,bq,dJ⟩:=forX_go dH
    unfold E9 at bq
    refine cw_skip (cq (cw_block (cq (cr ?_))))
    obtain ⟨x1,e4,bq⟩:=bI bq
    obtain ⟨⟨⟨a2,a8⟩,⟨a3,a9⟩,⟨be,bt⟩⟩,ba⟩:=getI_snd cQ e4
    refine sQ 58 (yI aA (i1:Int) K88 K79 (gi_isSome E6 rfl (bL.c 4) ba) (getI_nn ba) (getI_ltI ba (dl_len cQ)) rfl (aE.g 54 5) (aE.g 56 7)) ?_
    let an:Ro:=⟨a2,(x1.t.XImages.flatMap eN0)⟩
    have e5:(an:Ro)∈((ai::ag::ae::⟨none,([].flatMap eN1)⟩::ac::aa::J::H::((D1.flatMap eN3)++((D2.flatMap eN3)++[]))):List Ro):=app_mem (fun r_ (h:r_∈((D2.flatMap eN3):List Ro))=>mOd (i:=8) (show r_∈((((D1.flatMap eN3)++((D2.flatMap eN3)++[]))):List Ro) from mAr _ (mAl _ h))) (row_mem (rw_:=eN3) ba _ (mt 0))
    let O8:Ob:=⟨aA,118,(D2.flatMap eN5),aG*4⟩
    let O9:Ob:=⟨bo,118,(D1.flatMap eN5),bp*4⟩
    have dK:ST w0 [] _ [O0,O2,⟨(aD g),.mp (mpE A2 Value.bool aB),[],0⟩,O9,O8] (an::ai::ag::ae::⟨none,([].flatMap eN1)⟩::ac::aa::J::H::((D1.flatMap eN3)++((D2.flatMap eN3)++[]))):=ST.subR bL (subc e5 (fun _ h=>h))
    let ao:Ro:=⟨a3,(x1.t.ZImages.flatMap eN0)⟩
    have e8:(ao:Ro)∈((an::ai::ag::ae::⟨none,([].flatMap eN1)⟩::ac::aa::J::H::((D1.flatMap eN3)++((D2.flatMap eN3)++[]))):List Ro):=app_mem (fun r_ (h:r_∈((D2.flatMap eN3):List Ro))=>mOd (i:=9) (show r_∈((((D1.flatMap eN3)++((D2.flatMap eN3)++[]))):List Ro) from mAr _ (mAl _ h))) (row_mem (rw_:=eN3) ba _ (mt 1))
    have dL:ST w0 [] _ [O0,O2,⟨(aD g),.mp (mpE A2 Value.bool aB),[],0⟩,O9,O8] (ao::an::ai::ag::ae::⟨none,([].flatMap eN1)⟩::ac::aa::J::H::((D1.flatMap eN3)++((D2.flatMap eN3)++[]))):=ST.subR dK (subc e8 (fun _ h=>h))
    let aq:Ro:=⟨be,(x1.word.flatMap eN1)⟩
    have e9:(aq:Ro)∈((ao::an::ai::ag::ae::⟨none,([].flatMap eN1)⟩::ac::aa::J::H::((D1.flatMap eN3)++((D2.flatMap eN3)++[]))):List Ro):=app_mem (fun r_ (h:r_∈((D2.flatMap eN3):List Ro))=>mOd (i:=10) (show r_∈((((D1.flatMap eN3)++((D2.flatMap eN3)++[]))):List Ro) from mAr _ (mAl _ h))) (row_mem (rw_:=eN3) ba _ (mt 2))
    have cl:ST w0 [] _ [O0,O2,⟨(aD g),.mp (mpE A2 Value.bool aB),[],0⟩,O9,O8] (aq::ao::an::ai::ag::ae::⟨none,([].flatMap eN1)⟩::ac::aa::J::H::((D1.flatMap eN3)++((D2.flatMap eN3)++[]))):=ST.subR dL (subc e9 (fun _ h=>h))
    refine sQ 59 (ya aA ((i1:Int).toNat*4) (D2.flatMap eN5) [vi x1.t.Qubits,.slice a2 x1.t.XImages.length a8,.slice a3 x1.t.ZImages.length a9,.slice be x1.word.length bt] TL K79 (cl.c 4) rfl rfl (E6 (((a2,a8),(a3,a9),(be,bt)),x1)) (gi_seg E6 ba)) ?_
    refine sS 11 (yN [vi 0,.slice none 0 0,.slice none 0 0,.slice none 0 0] 4 cl HR) ?_
    rintro _ fP ⟨b6,rfl,dM⟩
    refine s0 (yK 5 4 0 dM K79) ?_
    rintro _ fS ⟨rfl,bw⟩
    refine rn (cq (cq (cr ?_)))
    refine sQ 60 (yd (aD b6) 0 2 I3 K3)<|sQ 61 (ya (aD b6) 0 [vi x1.t.Qubits,.slice a2 x1.t.XImages.length a8,.slice a3 x1.t.ZImages.length a9,.slice be x1.word.length bt] [vi x1.t.Qubits,.slice a2 x1.t.XImages.length a8,.slice a3 x1.t.ZImages.length a9] K11 K3 (bw.c 5))<|sQ 62 (yw 0 K11 K3 (bw.c 0) rfl (aE.g 1 0)) ?_
    obtain ⟨gP,fa,bq⟩:=bI bq
    refine sc 63 rfl rfl (yc Ie (Ik x1.t t a2 a8 x1.t.XImages.length a3 a9 x1.t.ZImages.length B c t.XImages.length B1 c1 t.ZImages.length _ rfl rfl rfl rfl (bw.inn0 [(true,2),(true,1),(true,9),(true,10)] rfl) fa)) ?_
    rintro _ fT ⟨rfl,fb⟩
    have bN:=bw.out00 fb
    refine rn ?_
    refine cw_cond rfl (fun cR=>?_) (fun cR=>?_)
    ·skip
     have fd:=ct bq cR
     refine cq (cr ?_)
     refine sQ 64 (yd (aD b6) 0 0 KG K23)<|sQ 65 (yz 3 K29 (bN.c 5))<|sQ 2 yu<|sQ 3 yu (rn (ct_ ?_))
     obtain rfl:=sI fd
     obtain rfl:=sI dJ
     obtain rfl:=sI dC
     obtain rfl:=sI cN
     obtain ⟨rfl,rfl⟩:=pr2 (sI dx)
     exact ret2 Tryz.results47 rT rT ⟨be,bt,rfl,(len_le rfl (SD (ck _ (List.mem_of_getElem? (getI_some ba))))),(org_cons (org_sub dF (subc (row_mem (rw_:=eN3) ba _ (mt 2)) (fun _ h=>by cases h))) org_nil),((bN.sel [] rfl rfl).sT [0])⟩
    ·skip
     have cS:=cf' bq cR
     refine cw_skip (cq (cr ?_))
     refine sQ 66 (yv rfl (aE.g 4 1))<|sQ 67 (Y_len K15 rfl rfl)<|sQ 68 yv (rn ?_)
     obtain ⟨fe,cS⟩:=chk_inv cS
     obtain ⟨z4,ff,dN⟩:=bI cS
     refine cw_block ?_
     let O1:Ob:=⟨aD b6,118,[vi x1.t.Qubits,.slice a2 x1.t.XImages.length a8,.slice a3 x1.t.ZImages.length a9,.slice be x1.word.length bt],4⟩
     refine cw_loop (fun k f w=>∃ (i2:Nat) (U:List (A7×Bool)) (av:List Af) (bb:Option Addr) (bc:Nat) (D3:List ((Hd×Hd×Hd)×Af)) (D4:List ((Hd×Hd×Hd)×Af)),FF f [(1,pt (aD b) 0),(4,.slice B5 u.length c5),(7,.map (some g)),(8,vi length),(9,.slice bb av.length bc),(11,pt (aD b6) 0),(54,.slice aA am.length aG),(55,vi (am.length:Int)),(56,vi (i1:Int)),(66,.slice B5 u.length c5),(67,vi (u.length:Int)),(68,vi (i2:Int))]∧D3.map Prod.snd=av∧(∀ p_∈D3,Bm p_)∧Org w0 [] [J,H] (D3.flatMap eN3)∧D4.map Prod.snd=am∧(∀ p_∈D4,Bm p_)∧Org w0 [] [J,H] (D4.flatMap eN3)∧ST w0 [] w [O0,O2,⟨(aD g),.mp (mpE A2 Value.bool U),[],0⟩,⟨bb,118,(D3.flatMap eN5),bc*4⟩,O1,⟨aA,118,(D4.flatMap eN5),aG*4⟩] (aq::ao::an::ai::ag::ae::⟨none,([].flatMap eN1)⟩::ac::aa::J::H::((D3.flatMap eN3)++((D4.flatMap eN3)++[])))∧i2+k=u.length∧forN (F4 u t x1) k i2 (U,av)=some z4) u.length ⟨0,aB,aT,bo,bp,D1,D2,(aE.a 1 0 (aE.a 4 1 (aE.a 7 2 (aE.a 8 3 (aE.a 9 4 (fc rfl (aE.a 54 5 (aE.a 55 6 (aE.a 56 7 (fc rfl (fc rfl (fc rfl fn_)))))))))))),dD,cj,dE,cQ,ck,dF,(bN.sel [0,1,2,3,5,4] rfl rfl),Nat.zero_add _,ff⟩ ?_
     rintro K127 f w ⟨i2,U,av,bb,bc,D3,D4,aj,bD,bO,cT,dO,cm,dP,bA,fU,dQ⟩
     refine cq (cr ?_)
     refine sQ 69 (zL rfl (aj.g 68 11) (aj.g 67 10)) (rn (cq ?_))
     refine cw_cond rfl (fun bP=>?_) (fun bP=>?_)
     ·skip
      have dS:i2<u.length:=by have h:=of_decide_eq_true bP; omega
      obtain ⟨fg,rfl⟩:∃ k2,K127=k2+1:=⟨K127-1,by omega⟩
      obtain ⟨y3,dU,fh⟩:=forN_go dQ
      unfold F4 at dU
      refine cw_skip (cq ?_)
      obtain ⟨z5,a6,dV⟩:=bI dU
      let O4:Ob:=⟨aA,118,(D4.flatMap eN5),aG*4⟩
      refine cw_mid (fun f w=>∃ (bd:List (A7×Bool)) (aO:List Af) (cb:Option Addr) (cc:Nat) (D5:List ((Hd×Hd×Hd)×Af)),(bd,aO)=z5∧FF f [(1,pt (aD b) 0),(4,.slice B5 u.length c5),(7,.map (some g)),(8,vi length),(9,.slice cb aO.length cc),(11,pt (aD b6) 0),(54,.slice aA am.length aG),(55,vi (am.length:Int)),(56,vi (i1:Int)),(66,.slice B5 u.length c5),(67,vi (u.length:Int)),(68,vi (i2:Int))]∧D5.map Prod.snd=aO∧(∀ p_∈D5,Bm p_)∧Org w0 [] [J,H] (D5.flatMap eN3)∧ST w0 [] w [O0,O2,⟨(aD g),.mp (mpE A2 Value.bool bd),[],0⟩,⟨cb,118,(D5.flatMap eN5),cc*4⟩,O1,O4] (aq::ao::an::ai::ag::ae::⟨none,([].flatMap eN1)⟩::ac::aa::J::H::((D5.flatMap eN3)++((D4.flatMap eN3)++[])))) ?_ ?_
      ·skip
       refine cw_block (cq (cr ?_))
       obtain ⟨x2,cd,a6⟩:=bI a6
       refine sQ 70 (yI B5 (i2:Int) K15 K8 (gi_isSome eN4 rfl (bA.c 1) cd) (getI_nn cd) (getI_ltI cd rfl) rfl (aj.g 66 9) (aj.g 68 11))<|sQ 71 (ya B5 ((i2:Int).toNat*3) (u.flatMap eN1) [vi x2.Kind,vi x2.A,vi x2.B] K27 K8 (bA.c 1) rfl rfl (eN4 x2) (gi_seg eN4 cd)) ?_
       refine sS 13 (yN [vi 0,vi 0,vi 0] 3 bA K28) ?_
       rintro _ fV ⟨b7,rfl,dW⟩
       refine s0 (yK 6 3 0 dW K8) ?_
       rintro _ fW ⟨rfl,cn⟩
       refine rn (cq ?_)
       obtain ⟨bQ,fj,a6⟩:=bI a6
       obtain ⟨o,fk,a6⟩:=bI a6
       refine ra_start (cn.se [0,1,2,3,4,5,6]).fn (by kernel_rfl) ?_
       have co:=cn.drew
       have bR:=co.se [0,1,2,3,4,5,6]
       refine rq 0 72 rfl bR (fun _ q=>(yd (aD b6) 0 2 I3 K3 rfl (aj.g 11 5)))<|rq 1 73 rfl bR (fun _ q=>(ya (aD b6) 0 [vi x1.t.Qubits,.slice a2 x1.t.XImages.length a8,.slice a3 x1.t.ZImages.length a9,.slice be x1.word.length bt] [vi x1.t.Qubits,.slice a2 x1.t.XImages.length a8,.slice a3 x1.t.ZImages.length a9] K11 K3 (ST.c q 4)))<|rq 2 74 rfl bR (fun _ q=>(yd (aD b) 0 0 K22 K1 rfl (aj.g 1 0)))<|rq 3 75 rfl bR (fun _ q=>(yz 0 K0 (ST.c q 0)))<|rq 4 76 rfl bR (fun _ q=>(yw 0 K27 K8 (ST.c q 6))) ?_
       let O3:Ob:=⟨aD b7,57,[vi x2.Kind,vi x2.A,vi x2.B],3⟩
       let O7:Ob:=⟨bb,118,(D3.flatMap eN5),bc*4⟩
       refine rf_in (k:=3) (ts:=[]) (L:=[O0,O2,⟨(aD g),.mp (mpE A2 Value.bool U),[],0⟩,O7,O1,O4,O3]) (G:=[]) [fN 7 14 25 [vi 0,.slice none 0 0,.slice none 0 0] 3] co (flc rfl rfl rfl (fun _ _ _ _ dX h _=>(yN [vi 0,.slice none 0 0,.slice none 0 0] 3 h K26)) fln) (fun hJ=>?_)
       refine rf_all [5] hJ (fun Z w h=>(ST.sel (ST.noF h) [0,1,2,3,4,5,6] rfl rfl)) (fun Z fX fo cp=>?_)
       refine rC 77 5 rfl (yc Ig (JG t.Qubits x2 _  (cp.inn0 [] rfl) fj)) ?_ aN
       rintro _ fY ⟨dY,dZ,d0,d1,rfl,fp⟩
       have d2:=cp.out0 fp
       let O5:Ob:=⟨dY,64,(bQ.XImages.flatMap eN0),dZ*3⟩
       let O6:Ob:=⟨d0,64,(bQ.ZImages.flatMap eN0),d1*3⟩
       have d3:ST w0 [] _ (O0::O2::⟨(aD g),.mp (mpE A2 Value.bool U),[],0⟩::O7::O1::O4::O3::O5::O6::(flL [fN 7 14 25 [vi 0,.slice none 0 0,.slice none 0 0] 3] Z++[])) (aq::ao::an::ai::ag::ae::⟨none,([].flatMap eN1)⟩::ac::aa::J::H::((D3.flatMap eN3)++((D4.flatMap eN3)++[]))):=ST.rot (pre:=[O0,O2,⟨(aD g),.mp (mpE A2 Value.bool U),[],0⟩,O7,O1,O4,O3]) (G:=(flL [fN 7 14 25 [vi 0,.slice none 0 0,.slice none 0 0] 3] Z++[])) (xs:=[O5,O6]) d2
       refine rf_k (L:=[O0,O2,⟨(aD g),.mp (mpE A2 Value.bool U),[],0⟩,O7,O1,O4,O3,O5,O6]) fo d3 (fun Z w h=>(ST.sel (ST.noF h) [0,1,2,3,4,5,6] rfl rfl)) ?_
       refine rf_all [6] hJ (fun Z w h=>(ST.sel (ST.noF h) [0,1,2,3,4,5,6] rfl rfl)) (fun Z1 f1 fq cu=>?_)
       refine rC 78 6 rfl (yc G8 (GF x1.t bQ a2 a8 x1.t.XImages.length a3 a9 x1.t.ZImages.length dY dZ bQ.XImages.length d0 d1 bQ.ZImages.length _ rfl rfl rfl rfl (cu.inn0 [(true,2),(true,1),(false,7),(false,8)] rfl) fk)) ?_ aN
       rintro _ f2 ⟨O,Q,P,S,rfl,fr⟩
       have d4:=cu.out0 fr
       let ce:Ob:=⟨P,64,(o.ZImages.flatMap eN0),S*3⟩
       let cV:Ob:=⟨O,64,(o.XImages.flatMap eN0),Q*3⟩
       have d5:ST w0 [] _ (O0::O2::⟨(aD g),.mp (mpE A2 Value.bool U),[],0⟩::O7::O1::O4::O3::O5::O6::cV::ce::(flL [fN 7 14 25 [vi 0,.slice none 0 0,.slice none 0 0] 3] Z1++[])) (aq::ao::an::ai::ag::ae::⟨none,([].flatMap eN1)⟩::ac::aa::J::H::((D3.flatMap eN3)++((D4.flatMap eN3)++[]))):=ST.rot (pre:=[O0,O2,⟨(aD g),.mp (mpE A2 Value.bool U),[],0⟩,O7,O1,O4,O3,O5,O6]) (G:=(flL [fN 7 14 25 [vi 0,.slice none 0 0,.slice none 0 0] 3] Z1++[])) (xs:=[cV,ce]) d4
       refine rf_k (L:=[O0,O2,⟨(aD g),.mp (mpE A2 Value.bool U),[],0⟩,O7,O1,O4,O3,O5,O6,cV,ce]) fq d5 (fun Z w h=>(ST.sel (ST.noF h) [0,1,2,3,4,5,6] rfl rfl)) ?_
       refine rf_force hJ (fun Z w h=>(ST.sel (ST.noF h) [0,1,2,3,4,5,6] rfl rfl)) (fun b8=>?_)
       refine rf_out (fun f3 d6=>?_)
       refine rA [8] ?_
       refine rZ 8 rfl (yK 11 3 0 d6 K3) ?_ aN
       rintro _ f4 ⟨rfl,bB⟩
       refine ⟨(bB.se [0,1,2,3,4,5,6]),?_⟩
       refine ra_done (by kernel_rfl) ?_
       refine cq (cr ?_)
       refine sQ 79 (yv rfl (aj.g 7 2))<|sQ 80 (yw 0 K11 K3 (bB.c 11)) ?_
       obtain ⟨fs,ft,a6⟩:=bI a6
       refine sc 81 rfl rfl (yc JA (IJ o O Q o.XImages.length P S o.ZImages.length _ rfl rfl (bB.inn0 [(false,9),(false,10)] rfl) ft)) ?_
       rintro _ f5 ⟨rfl,fu⟩
       have bh:=bB.out00 fu
       refine sQ 82 (Y_mapGet (kE:=A2) (vE:=Value.bool) (l:=U) (a:=fs) (d:=false) (g:=g) (i:=2) bh Jq JD Q8 rfl rfl rfl rfl)<|sQ 83 yn (rn ?_)
       refine cw_cond rfl (fun cW=>?_) (fun cW=>?_)
       ·skip
        have aQ:=ct a6 cW
        refine cq (cr ?_)
        refine sQ 84 (yv rfl (aj.g 7 2))<|sQ 85 (yw 0 K11 K3 (bh.c 11)) ?_
        obtain ⟨aU,fv,aQ⟩:=bI aQ
        refine sc 86 rfl rfl (yc JA (IJ o O Q o.XImages.length P S o.ZImages.length _ rfl rfl (bh.inn0 [(false,9),(false,10)] rfl) fv)) ?_
        rintro _ f6 ⟨rfl,fw⟩
        have d7:=bh.out00 fw
        refine s0 (Ys_mapPut (kE:=A2) (vE:=Value.bool) (l:=U) (a:=aU) (b:=true) (g:=g) (i:=2) d7 Jq JD rfl rfl rfl rfl rfl rfl) ?_
        rintro _ f7 ⟨rfl,bT⟩
        refine rn ?_
        obtain ⟨V,fx,aQ⟩:=bI aQ
        obtain ⟨d8,aQ⟩:=chk_inv aQ
        obtain ⟨cv,aQ⟩:=chk_inv aQ
        let aw:Ro:=⟨O,(o.XImages.flatMap eN0)⟩
        have d9:Org w0 [] [J,H] [aw]:=ST.orgOwn bT (i:=9) rfl
        have cX:o.XImages.length≤Q:=(bT.lencap (i:=9) rfl (fm_lenn (l:=o.XImages) eN2 rfl) rfl rfl)
        have bU:ST w0 [] _ [O0,O2,⟨(aD g),.mp (mpE A2 Value.bool (mput U aU true)),[],0⟩,O7,O1,O4,O3,O5,O6,ce,⟨aD b8,25,[vi o.Qubits,.slice O o.XImages.length Q,.slice P o.ZImages.length S],3⟩] (aw::aq::ao::an::ai::ag::ae::⟨none,([].flatMap eN1)⟩::ac::aa::J::H::((D3.flatMap eN3)++((D4.flatMap eN3)++[]))):=bT.freeze (i:=9) rfl
        let ay:Ro:=⟨P,(o.ZImages.flatMap eN0)⟩
        have ea:Org w0 [] [J,H] [ay]:=ST.orgOwn bU (i:=9) rfl
        have cY:o.ZImages.length≤S:=(bU.lencap (i:=9) rfl (fm_lenn (l:=o.ZImages) eN2 rfl) rfl rfl)
        have cw:ST w0 [] _ [O0,O2,⟨(aD g),.mp (mpE A2 Value.bool (mput U aU true)),[],0⟩,O7,O1,O4,O3,O5,O6,⟨aD b8,25,[vi o.Qubits,.slice O o.XImages.length Q,.slice P o.ZImages.length S],3⟩] (ay::aw::aq::ao::an::ai::ag::ae::⟨none,([].flatMap eN1)⟩::ac::aa::J::H::((D3.flatMap eN3)++((D4.flatMap eN3)++[]))):=bU.freeze (i:=9) rfl
        refine ra_start (ST.subR (cw.se [0,1,2,4,5,6,7,8,9]) (R':=(ay::aw::aq::ao::an::ai::ag::ae::⟨none,([].flatMap eN1)⟩::ac::aa::J::H::((D4.flatMap eN3)++[]))) (sk 0 (sk 1 (sk 2 (sk 3 (sk 4 (sk 5 (sk 6 (sk 7 (sk 8 (sk 9 (sk 10 (sk 11 (sk 12 (suba (fun r_ (h:r_∈((D4.flatMap eN3):List Ro))=>mOd (i:=13) (show r_∈((((D3.flatMap eN3)++((D4.flatMap eN3)++[]))):List Ro) from mAr _ (mAl _ h))) (fun _ h=>by cases h)))))))))))))))).fn (by kernel_rfl) ?_
        have cx:=cw.drew
        have bV:=cx.se [0,1,2,4,5,6,7,8,9]
        refine rq 0 87 rfl (ST.subR bV (R':=(ay::aw::aq::ao::an::ai::ag::ae::⟨none,([].flatMap eN1)⟩::ac::aa::J::H::((D4.flatMap eN3)++[]))) (sk 0 (sk 1 (sk 2 (sk 3 (sk 4 (sk 5 (sk 6 (sk 7 (sk 8 (sk 9 (sk 10 (sk 11 (sk 12 (suba (fun r_ (h:r_∈((D4.flatMap eN3):List Ro))=>mOd (i:=13) (show r_∈((((D3.flatMap eN3)++((D4.flatMap eN3)++[]))):List Ro) from mAr _ (mAl _ h))) (fun _ h=>by cases h)))))))))))))))) (fun _ q=>(yv rfl (aj.g 9 4)))<|rq 1 88 rfl (ST.subR bV (R':=(ay::aw::aq::ao::an::ai::ag::ae::⟨none,([].flatMap eN1)⟩::ac::aa::J::H::((D4.flatMap eN3)++[]))) (sk 0 (sk 1 (sk 2 (sk 3 (sk 4 (sk 5 (sk 6 (sk 7 (sk 8 (sk 9 (sk 10 (sk 11 (sk 12 (suba (fun r_ (h:r_∈((D4.flatMap eN3):List Ro))=>mOd (i:=13) (show r_∈((((D3.flatMap eN3)++((D4.flatMap eN3)++[]))):List Ro) from mAr _ (mAl _ h))) (fun _ h=>by cases h)))))))))))))))) (fun _ q=>(yw 0 K11 K3 (ST.c q 8)))<|rq 2 89 rfl (ST.subR bV (R':=(ay::aw::aq::ao::an::ai::ag::ae::⟨none,([].flatMap eN1)⟩::ac::aa::J::H::((D4.flatMap eN3)++[]))) (sk 0 (sk 1 (sk 2 (sk 3 (sk 4 (sk 5 (sk 6 (sk 7 (sk 8 (sk 9 (sk 10 (sk 11 (sk 12 (suba (fun r_ (h:r_∈((D4.flatMap eN3):List Ro))=>mOd (i:=13) (show r_∈((((D3.flatMap eN3)++((D4.flatMap eN3)++[]))):List Ro) from mAr _ (mAl _ h))) (fun _ h=>by cases h)))))))))))))))) (fun _ q=>(yd (aD b6) 0 0 KG K23 rfl (aj.g 11 5)))<|rq 3 90 rfl (ST.subR bV (R':=(ay::aw::aq::ao::an::ai::ag::ae::⟨none,([].flatMap eN1)⟩::ac::aa::J::H::((D4.flatMap eN3)++[]))) (sk 0 (sk 1 (sk 2 (sk 3 (sk 4 (sk 5 (sk 6 (sk 7 (sk 8 (sk 9 (sk 10 (sk 11 (sk 12 (suba (fun r_ (h:r_∈((D4.flatMap eN3):List Ro))=>mOd (i:=13) (show r_∈((((D3.flatMap eN3)++((D4.flatMap eN3)++[]))):List Ro) from mAr _ (mAl _ h))) (fun _ h=>by cases h)))))))))))))))) (fun _ q=>(yz 3 K29 (ST.c q 3)))<|rq 5 92 rfl (ST.subR bV (R':=(ay::aw::aq::ao::an::ai::ag::ae::⟨none,([].flatMap eN1)⟩::ac::aa::J::H::((D4.flatMap eN3)++[]))) (sk 0 (sk 1 (sk 2 (sk 3 (sk 4 (sk 5 (sk 6 (sk 7 (sk 8 (sk 9 (sk 10 (sk 11 (sk 12 (suba (fun r_ (h:r_∈((D4.flatMap eN3):List Ro))=>mOd (i:=13) (show r_∈((((D3.flatMap eN3)++((D4.flatMap eN3)++[]))):List Ro) from mAr _ (mAl _ h))) (fun _ h=>by cases h)))))))))))))))) (fun _ q=>(yw 0 K27 K8 (ST.c q 5))) ?_
        refine rf_in (k:=6) (ts:=[92]) (L:=[O0,O2,⟨(aD g),.mp (mpE A2 Value.bool (mput U aU true)),[],0⟩,O7,O1,O4,O3,O5,O6,⟨aD b8,25,[vi o.Qubits,.slice O o.XImages.length Q,.slice P o.ZImages.length S],3⟩]) (G:=[]) [fM 6 93 57 ([x2].flatMap eN1) (1*3) 1 1] cx (flc rfl rfl rfl (fun _ _ _ _ dX h _=>(Ys_bslice (s:=3) (len:=1) (vs:=[(0,.agg #[vi x2.Kind,vi x2.A,vi x2.B])]) (cs:=[vi x2.Kind,vi x2.A,vi x2.B]) (zs:=[vi 0,vi 0,vi 0]) (m:=3) h K15 K8 K64 rfl (mpc ((dX 92 (List.Mem.head _)).trans rfl) mpn) rfl rfl rfl (by kernel_rfl) (by kernel_rfl) rfl)) fln) (fun eb=>?_)
        refine rf_all [4] eb (fun Z w h=>(ST.subR (ST.sel (ST.noF h) [0,1,2,4,5,6,7,8,9] rfl rfl) (R':=(ay::aw::aq::ao::an::ai::ag::ae::⟨none,([].flatMap eN1)⟩::ac::aa::J::H::((D4.flatMap eN3)++[]))) (sk 0 (sk 1 (sk 2 (sk 3 (sk 4 (sk 5 (sk 6 (sk 7 (sk 8 (sk 9 (sk 10 (sk 11 (sk 12 (suba (fun r_ (h:r_∈((D4.flatMap eN3):List Ro))=>mOd (i:=13) (show r_∈((((D3.flatMap eN3)++((D4.flatMap eN3)++[]))):List Ro) from mAr _ (mAl _ h))) (fun _ h=>by cases h))))))))))))))))) (fun Z2 f9 fy cy=>?_)
        refine rC 91 4 rfl (yc NG (Qi x1.word be bt x1.word.length _ rfl (cy.inn0 [(true,2)] rfl) fx)) ?_ aN
        rintro _ ga ⟨fz,fA,rfl,fB⟩
        have ec:=cy.out0 fB
        let cZ:Ob:=⟨fz,57,(V.flatMap eN1),fA*3⟩
        have ed:ST w0 [] _ (O0::O2::⟨(aD g),.mp (mpE A2 Value.bool (mput U aU true)),[],0⟩::O7::O1::O4::O3::O5::O6::⟨aD b8,25,[vi o.Qubits,.slice O o.XImages.length Q,.slice P o.ZImages.length S],3⟩::cZ::(flL [fM 6 93 57 ([x2].flatMap eN1) (1*3) 1 1] Z2++[])) (ay::aw::aq::ao::an::ai::ag::ae::⟨none,([].flatMap eN1)⟩::ac::aa::J::H::((D3.flatMap eN3)++((D4.flatMap eN3)++[]))):=ST.rot (pre:=[O0,O2,⟨(aD g),.mp (mpE A2 Value.bool (mput U aU true)),[],0⟩,O7,O1,O4,O3,O5,O6,⟨aD b8,25,[vi o.Qubits,.slice O o.XImages.length Q,.slice P o.ZImages.length S],3⟩]) (G:=(flL [fM 6 93 57 ([x2].flatMap eN1) (1*3) 1 1] Z2++[])) (xs:=[cZ]) ec
        refine rf_k (L:=[O0,O2,⟨(aD g),.mp (mpE A2 Value.bool (mput U aU true)),[],0⟩,O7,O1,⟨aA,118,(D4.flatMap eN5),aG*4⟩,O3,O5,O6,⟨aD b8,25,[vi o.Qubits,.slice O o.XImages.length Q,.slice P o.ZImages.length S],3⟩,cZ]) fy ed (fun Z w h=>(ST.subR (ST.sel (ST.noF h) [0,1,2,4,5,6,7,8,9] rfl rfl) (R':=(ay::aw::aq::ao::an::ai::ag::ae::⟨none,([].flatMap eN1)⟩::ac::aa::J::H::((D4.flatMap eN3)++[]))) (sk 0 (sk 1 (sk 2 (sk 3 (sk 4 (sk 5 (sk 6 (sk 7 (sk 8 (sk 9 (sk 10 (sk 11 (sk 12 (suba (fun r_ (h:r_∈((D4.flatMap eN3):List Ro))=>mOd (i:=13) (show r_∈((((D3.flatMap eN3)++((D4.flatMap eN3)++[]))):List Ro) from mAr _ (mAl _ h))) (fun _ h=>by cases h))))))))))))))))) ?_
        refine rf_force eb (fun Z w h=>(ST.subR (ST.sel (ST.noF h) [0,1,2,4,5,6,7,8,9] rfl rfl) (R':=(ay::aw::aq::ao::an::ai::ag::ae::⟨none,([].flatMap eN1)⟩::ac::aa::J::H::((D4.flatMap eN3)++[]))) (sk 0 (sk 1 (sk 2 (sk 3 (sk 4 (sk 5 (sk 6 (sk 7 (sk 8 (sk 9 (sk 10 (sk 11 (sk 12 (suba (fun r_ (h:r_∈((D4.flatMap eN3):List Ro))=>mOd (i:=13) (show r_∈((((D3.flatMap eN3)++((D4.flatMap eN3)++[]))):List Ro) from mAr _ (mAl _ h))) (fun _ h=>by cases h))))))))))))))))) (fun b9=>?_)
        refine rf_out (fun gc cz=>?_)
        refine rA [7] ?_
        refine rS 94 7 rfl (aP 3 24 10 V [x2] cz K15 K8 K59 K28 eN4 BK (cz.c 11) d8) ?_ aN
        rintro _ gf ⟨af,ah,rfl,bj⟩
        refine ⟨(ST.subR (bj.se [0,1,2,4,5,6,7,8,9]) (R':=(ay::aw::aq::ao::an::ai::ag::ae::⟨none,([].flatMap eN1)⟩::ac::aa::J::H::((D4.flatMap eN3)++[]))) (sk 0 (sk 1 (sk 2 (sk 3 (sk 4 (sk 5 (sk 6 (sk 7 (sk 8 (sk 9 (sk 10 (sk 11 (sk 12 (suba (fun r_ (h:r_∈((D4.flatMap eN3):List Ro))=>mOd (i:=13) (show r_∈((((D3.flatMap eN3)++((D4.flatMap eN3)++[]))):List Ro) from mAr _ (mAl _ h))) (fun _ h=>by cases h)))))))))))))))),?_⟩
        refine rq 8 95 rfl (ST.subR (bj.se [0,1,2,4,5,6,7,8,9]) (R':=(ay::aw::aq::ao::an::ai::ag::ae::⟨none,([].flatMap eN1)⟩::ac::aa::J::H::((D4.flatMap eN3)++[]))) (sk 0 (sk 1 (sk 2 (sk 3 (sk 4 (sk 5 (sk 6 (sk 7 (sk 8 (sk 9 (sk 10 (sk 11 (sk 12 (suba (fun r_ (h:r_∈((D4.flatMap eN3):List Ro))=>mOd (i:=13) (show r_∈((((D3.flatMap eN3)++((D4.flatMap eN3)++[]))):List Ro) from mAr _ (mAl _ h))) (fun _ h=>by cases h)))))))))))))))) (fun _ q=>(Y_buildS (zs:=[vi 0,.slice none 0 0,.slice none 0 0,.slice none 0 0]) (vs:=[(0,.agg #[vi o.Qubits,.slice O o.XImages.length Q,.slice P o.ZImages.length S]),(1,.slice af ((V++[x2]).length) ah)]) (cs:=[vi o.Qubits,.slice O o.XImages.length Q,.slice P o.ZImages.length S,.slice af ((V++[x2]).length) ah]) KZ HR rfl (mpc rfl (mpc rfl mpn)) rfl)) ?_
        refine rA [9] ?_
        let bW:Ro:=⟨af,((V++[x2]).flatMap eN1)⟩
        have ef:Org w0 [] [J,H] [bW]:=ST.orgOwn bj (i:=10) rfl
        have c0:(V++[x2]).length≤ah:=(bj.lencap (i:=10) rfl (fm_lenn (l:=(V++[x2])) eN4 rfl) rfl rfl)
        have eg:ST w0 [] _ [O0,O2,⟨(aD g),.mp (mpE A2 Value.bool (mput U aU true)),[],0⟩,O7,O1,O4,O3,O5,O6,⟨aD b8,25,[vi o.Qubits,.slice O o.XImages.length Q,.slice P o.ZImages.length S],3⟩,⟨aD b9,57,([x2].flatMap eN1),1*3⟩] (bW::ay::aw::aq::ao::an::ai::ag::ae::⟨none,([].flatMap eN1)⟩::ac::aa::J::H::((D3.flatMap eN3)++((D4.flatMap eN3)++[]))):=bj.freeze (i:=10) rfl
        refine rS 96 9 rfl (yF 4 1 [vi o.Qubits,.slice O o.XImages.length Q,.slice P o.ZImages.length S,.slice af ((V++[x2]).length) ah] 4 eg K88 K79 MD rfl (mpc rfl mpn)) ?_ aN
        rintro _ gg ⟨cg,rfl,eh⟩
        have fC:∀ r∈(([(((O,Q),(P,S),(af,ah)),(Af.mk o (V++[x2])))]:List ((Hd×Hd×Hd)×Af)).flatMap eN3),r∈((bW::ay::aw::aq::ao::an::ai::ag::ae::⟨none,([].flatMap eN1)⟩::ac::aa::J::H::((D3.flatMap eN3)++((D4.flatMap eN3)++[]))):List Ro):=(fsub_cons (sk 2 (sk 1 (sk 0 (fun _ h=>by cases h)))) fsub_nil)
        have ei:Org w0 [] [J,H] (([(((O,Q),(P,S),(af,ah)),(Af.mk o (V++[x2])))]:List ((Hd×Hd×Hd)×Af)).flatMap eN3):=(forg_cons (org_cons d9 (org_cons ea (org_cons ef org_nil))) forg_nil)
        have ej:∀ p_∈([(((O,Q),(P,S),(af,ah)),(Af.mk o (V++[x2])))]:List ((Hd×Hd×Hd)×Af)),Bm p_:=fun p_ bJ=>by rw [List.mem_singleton.1 bJ]; exact ⟨cX,cY,c0⟩
        have bk:ST w0 [] _ [O0,O2,⟨(aD g),.mp (mpE A2 Value.bool (mput U aU true)),[],0⟩,⟨bb,118,(D3.flatMap eN5),bc*4⟩,O1,⟨aA,118,(D4.flatMap eN5),aG*4⟩,O3,O5,O6,⟨aD b8,25,[vi o.Qubits,.slice O o.XImages.length Q,.slice P o.ZImages.length S],3⟩,⟨aD b9,57,([x2].flatMap eN1),1*3⟩,⟨aD cg,118,(([(((O,Q),(P,S),(af,ah)),(Af.mk o (V++[x2])))]:List ((Hd×Hd×Hd)×Af)).flatMap eN5),1*4⟩] (bW::ay::aw::aq::ao::an::ai::ag::ae::⟨none,([].flatMap eN1)⟩::ac::aa::J::H::((([(((O,Q),(P,S),(af,ah)),(Af.mk o (V++[x2])))]:List ((Hd×Hd×Hd)×Af)).flatMap eN3)++((D3.flatMap eN3)++((D4.flatMap eN3)++[])))):=ST.subR eh (sk 0 (sk 1 (sk 2 (sk 3 (sk 4 (sk 5 (sk 6 (sk 7 (sk 8 (sk 9 (sk 10 (sk 11 (sk 12 (sk 13 (suba fC (suba (fun r_ (h:r_∈((D3.flatMap eN3):List Ro))=>mOd (i:=14) (show r_∈((((D3.flatMap eN3)++((D4.flatMap eN3)++[]))):List Ro) from mAl _ h)) (suba (fun r_ (h:r_∈((D4.flatMap eN3):List Ro))=>mOd (i:=14) (show r_∈((((D3.flatMap eN3)++((D4.flatMap eN3)++[]))):List Ro) from mAr _ (mAl _ h))) (fun _ h=>by cases h))))))))))))))))))
        have bk:ST w0 [] _ [O0,O2,⟨(aD g),.mp (mpE A2 Value.bool (mput U aU true)),[],0⟩,O7,O1,O4,O3,O5,O6,⟨aD b8,25,[vi o.Qubits,.slice O o.XImages.length Q,.slice P o.ZImages.length S],3⟩,⟨aD b9,57,([x2].flatMap eN1),1*3⟩,⟨aD cg,118,(([(((O,Q),(P,S),(af,ah)),(Af.mk o (V++[x2])))]:List ((Hd×Hd×Hd)×Af)).flatMap eN5),1*4⟩] (bW::ay::aw::aq::ao::an::ai::ag::ae::⟨none,([].flatMap eN1)⟩::ac::aa::J::H::((([(((O,Q),(P,S),(af,ah)),(Af.mk o (V++[x2])))]:List ((Hd×Hd×Hd)×Af)).flatMap eN3)++((D3.flatMap eN3)++((D4.flatMap eN3)++[])))):=bk
        refine ⟨(ST.subR (bk.se [0,1,2,4,5,6,7,8,9]) (R':=(ay::aw::aq::ao::an::ai::ag::ae::⟨none,([].flatMap eN1)⟩::ac::aa::J::H::((D4.flatMap eN3)++[]))) (sk 1 (sk 2 (sk 3 (sk 4 (sk 5 (sk 6 (sk 7 (sk 8 (sk 9 (sk 10 (sk 11 (sk 12 (sk 13 (suba (fun r_ (h:r_∈((D4.flatMap eN3):List Ro))=>mOd (i:=14) (show r_∈((((([(((O,Q),(P,S),(af,ah)),(Af.mk o (V++[x2])))]:List ((Hd×Hd×Hd)×Af)).flatMap eN3)++((D3.flatMap eN3)++((D4.flatMap eN3)++[])))):List Ro) from mAr _ (mAr _ (mAl _ h)))) (fun _ h=>by cases h)))))))))))))))),?_⟩
        refine rA [10] ?_
        refine rS 97 10 rfl (Ys_append (s:=4) (by':=80) (i:=3) (nn:=av.length) (c:=bc) (k:=1) (len:=(av++([(Af.mk o (V++[x2]))]:List Af)).length) (B:=bb) (xs:=(([(((O,Q),(P,S),(af,ah)),(Af.mk o (V++[x2])))]:List ((Hd×Hd×Hd)×Af)).flatMap eN5)) (cs':=((D3++([(((O,Q),(P,S),(af,ah)),(Af.mk o (V++[x2])))]:List ((Hd×Hd×Hd)×Af))).flatMap eN5)) bk K88 K79 T4 HR rfl (by decide) rfl rfl rfl rfl (fm_lenn (l:=D3) E6 (dl_len bD)) rfl (bk.c 11) (fm_lenn (l:=([(((O,Q),(P,S),(af,ah)),(Af.mk o (V++[x2])))]:List ((Hd×Hd×Hd)×Af))) E6 rfl) (fm_one' (enc:=eN5) N9 ([(((O,Q),(P,S),(af,ah)),(Af.mk o (V++[x2])))]:List ((Hd×Hd×Hd)×Af))) (by have:=cv; omega) (by have:=cv; simp only [maxLen]; omega) (fm_app _ _) (dl_sum (dl_len bD) rfl (dl_app bD (show List.map Prod.snd ([(((O,Q),(P,S),(af,ah)),(Af.mk o (V++[x2])))]:List ((Hd×Hd×Hd)×Af))=([(Af.mk o (V++[x2]))]:List Af) from rfl)))) ?_ aN
        rintro _ gh ⟨da,db,rfl,ek⟩
        have el:Org w0 [] [J,H] ((D3++([(((O,Q),(P,S),(af,ah)),(Af.mk o (V++[x2])))]:List ((Hd×Hd×Hd)×Af))).flatMap eN3):=(forg_app cT ei)
        have dc:∀ p_∈(D3++([(((O,Q),(P,S),(af,ah)),(Af.mk o (V++[x2])))]:List ((Hd×Hd×Hd)×Af))),Bm p_:=fun p_ bJ=>(List.mem_append.1 bJ).elim (fun h=>bO p_ h) (fun h=>ej p_ h)
        have bX:ST w0 [] _ [O0,O2,⟨(aD g),.mp (mpE A2 Value.bool (mput U aU true)),[],0⟩,⟨da,118,((D3++([(((O,Q),(P,S),(af,ah)),(Af.mk o (V++[x2])))]:List ((Hd×Hd×Hd)×Af))).flatMap eN5),db*4⟩,O1,⟨aA,118,(D4.flatMap eN5),aG*4⟩,⟨aD b7,57,[vi x2.Kind,vi x2.A,vi x2.B],3⟩,O5,O6,⟨aD b8,25,[vi o.Qubits,.slice O o.XImages.length Q,.slice P o.ZImages.length S],3⟩,⟨aD b9,57,([x2].flatMap eN1),1*3⟩,⟨aD cg,118,(([(((O,Q),(P,S),(af,ah)),(Af.mk o (V++[x2])))]:List ((Hd×Hd×Hd)×Af)).flatMap eN5),1*4⟩] (⟨af,((V++[x2]).flatMap eN1)⟩::⟨P,(o.ZImages.flatMap eN0)⟩::⟨O,(o.XImages.flatMap eN0)⟩::aq::ao::an::ai::ag::ae::⟨none,([].flatMap eN1)⟩::ac::aa::J::H::(((D3++([(((O,Q),(P,S),(af,ah)),(Af.mk o (V++[x2])))]:List ((Hd×Hd×Hd)×Af))).flatMap eN3)++((([(((O,Q),(P,S),(af,ah)),(Af.mk o (V++[x2])))]:List ((Hd×Hd×Hd)×Af)).flatMap eN3)++((D4.flatMap eN3)++[])))):=ST.subR ek (sk 0 (sk 1 (sk 2 (sk 3 (sk 4 (sk 5 (sk 6 (sk 7 (sk 8 (sk 9 (sk 10 (sk 11 (sk 12 (sk 13 (suba (fsub_app (fun r_ (h:r_∈((D3.flatMap eN3):List Ro))=>mOd (i:=14) (show r_∈((((([(((O,Q),(P,S),(af,ah)),(Af.mk o (V++[x2])))]:List ((Hd×Hd×Hd)×Af)).flatMap eN3)++((D3.flatMap eN3)++((D4.flatMap eN3)++[])))):List Ro) from mAr _ (mAl _ h))) (fun r_ (h:r_∈((([(((O,Q),(P,S),(af,ah)),(Af.mk o (V++[x2])))]:List ((Hd×Hd×Hd)×Af)).flatMap eN3):List Ro))=>mOd (i:=14) (show r_∈((((([(((O,Q),(P,S),(af,ah)),(Af.mk o (V++[x2])))]:List ((Hd×Hd×Hd)×Af)).flatMap eN3)++((D3.flatMap eN3)++((D4.flatMap eN3)++[])))):List Ro) from mAl _ h))) (suba (fun r_ (h:r_∈((([(((O,Q),(P,S),(af,ah)),(Af.mk o (V++[x2])))]:List ((Hd×Hd×Hd)×Af)).flatMap eN3):List Ro))=>mOd (i:=14) (show r_∈((((([(((O,Q),(P,S),(af,ah)),(Af.mk o (V++[x2])))]:List ((Hd×Hd×Hd)×Af)).flatMap eN3)++((D3.flatMap eN3)++((D4.flatMap eN3)++[])))):List Ro) from mAl _ h)) (suba (fun r_ (h:r_∈((D4.flatMap eN3):List Ro))=>mOd (i:=14) (show r_∈((((([(((O,Q),(P,S),(af,ah)),(Af.mk o (V++[x2])))]:List ((Hd×Hd×Hd)×Af)).flatMap eN3)++((D3.flatMap eN3)++((D4.flatMap eN3)++[])))):List Ro) from mAr _ (mAr _ (mAl _ h)))) (fun _ h=>by cases h))))))))))))))))))
        refine ⟨(ST.subR (bX.se [0,1,2,4,5,6,7,8,9]) (R':=(ay::aw::aq::ao::an::ai::ag::ae::⟨none,([].flatMap eN1)⟩::ac::aa::J::H::((D4.flatMap eN3)++[]))) (sk 1 (sk 2 (sk 3 (sk 4 (sk 5 (sk 6 (sk 7 (sk 8 (sk 9 (sk 10 (sk 11 (sk 12 (sk 13 (suba (fun r_ (h:r_∈((D4.flatMap eN3):List Ro))=>mOd (i:=14) (show r_∈(((((D3++([(((O,Q),(P,S),(af,ah)),(Af.mk o (V++[x2])))]:List ((Hd×Hd×Hd)×Af))).flatMap eN3)++((([(((O,Q),(P,S),(af,ah)),(Af.mk o (V++[x2])))]:List ((Hd×Hd×Hd)×Af)).flatMap eN3)++((D4.flatMap eN3)++[])))):List Ro) from mAr _ (mAr _ (mAl _ h)))) (fun _ h=>by cases h)))))))))))))))),?_⟩
        refine rq 11 9 rfl (ST.subR (bX.se [0,1,2,4,5,6,7,8,9]) (R':=(ay::aw::aq::ao::an::ai::ag::ae::⟨none,([].flatMap eN1)⟩::ac::aa::J::H::((D4.flatMap eN3)++[]))) (sk 1 (sk 2 (sk 3 (sk 4 (sk 5 (sk 6 (sk 7 (sk 8 (sk 9 (sk 10 (sk 11 (sk 12 (sk 13 (suba (fun r_ (h:r_∈((D4.flatMap eN3):List Ro))=>mOd (i:=14) (show r_∈(((((D3++([(((O,Q),(P,S),(af,ah)),(Af.mk o (V++[x2])))]:List ((Hd×Hd×Hd)×Af))).flatMap eN3)++((([(((O,Q),(P,S),(af,ah)),(Af.mk o (V++[x2])))]:List ((Hd×Hd×Hd)×Af)).flatMap eN3)++((D4.flatMap eN3)++[])))):List Ro) from mAr _ (mAr _ (mAl _ h)))) (fun _ h=>by cases h)))))))))))))))) (fun _ q=>yu) ?_
        refine ra_done (by kernel_rfl) ?_
        have em:ST w0 [] _ [O0,O2,⟨(aD g),.mp (mpE A2 Value.bool (mput U aU true)),[],0⟩,⟨da,118,((D3++([(((O,Q),(P,S),(af,ah)),(Af.mk o (V++[x2])))]:List ((Hd×Hd×Hd)×Af))).flatMap eN5),db*4⟩,O1,⟨aA,118,(D4.flatMap eN5),aG*4⟩,⟨aD b7,57,[vi x2.Kind,vi x2.A,vi x2.B],3⟩,O5,O6,⟨aD b8,25,[vi o.Qubits,.slice O o.XImages.length Q,.slice P o.ZImages.length S],3⟩,⟨aD b9,57,([x2].flatMap eN1),1*3⟩,⟨aD cg,118,(([(((O,Q),(P,S),(af,ah)),(Af.mk o (V++[x2])))]:List ((Hd×Hd×Hd)×Af)).flatMap eN5),1*4⟩] (aq::ao::an::ai::ag::ae::⟨none,([].flatMap eN1)⟩::ac::aa::J::H::(((D3++([(((O,Q),(P,S),(af,ah)),(Af.mk o (V++[x2])))]:List ((Hd×Hd×Hd)×Af))).flatMap eN3)++((D4.flatMap eN3)++[]))):=ST.subR bX (sk 3 (sk 4 (sk 5 (sk 6 (sk 7 (sk 8 (sk 9 (sk 10 (sk 11 (sk 12 (sk 13 (suba (fun r_ (h:r_∈(((D3++([(((O,Q),(P,S),(af,ah)),(Af.mk o (V++[x2])))]:List ((Hd×Hd×Hd)×Af))).flatMap eN3):List Ro))=>mOd (i:=14) (show r_∈(((((D3++([(((O,Q),(P,S),(af,ah)),(Af.mk o (V++[x2])))]:List ((Hd×Hd×Hd)×Af))).flatMap eN3)++((([(((O,Q),(P,S),(af,ah)),(Af.mk o (V++[x2])))]:List ((Hd×Hd×Hd)×Af)).flatMap eN3)++((D4.flatMap eN3)++[])))):List Ro) from mAl _ h)) (suba (fun r_ (h:r_∈((D4.flatMap eN3):List Ro))=>mOd (i:=14) (show r_∈(((((D3++([(((O,Q),(P,S),(af,ah)),(Af.mk o (V++[x2])))]:List ((Hd×Hd×Hd)×Af))).flatMap eN3)++((([(((O,Q),(P,S),(af,ah)),(Af.mk o (V++[x2])))]:List ((Hd×Hd×Hd)×Af)).flatMap eN3)++((D4.flatMap eN3)++[])))):List Ro) from mAr _ (mAr _ (mAl _ h)))) (fun _ h=>by cases h))))))))))))))
        exact ⟨(mput U aU true),(av++([(Af.mk o (V++[x2]))]:List Af)),da,db,(D3++([(((O,Q),(P,S),(af,ah)),(Af.mk o (V++[x2])))]:List ((Hd×Hd×Hd)×Af))),(sI aQ),(aj.a 1 0 (aj.a 4 1 (aj.a 7 2 (aj.a 8 3 (fc rfl (aj.a 11 5 (aj.a 54 6 (aj.a 55 7 (aj.a 56 8 (aj.a 66 9 (aj.a 67 10 (aj.a 68 11 fn_)))))))))))),(dl_app bD (show List.map Prod.snd ([(((O,Q),(P,S),(af,ah)),(Af.mk o (V++[x2])))]:List ((Hd×Hd×Hd)×Af))=([(Af.mk o (V++[x2]))]:List Af) from rfl)),dc,el,(em.sel [0,1,2,3,4,5] rfl rfl)⟩
       ·skip
        have en:=cf' a6 cW
        refine cw_skip ?_
        exact ⟨U,av,bb,bc,D3,(sI en),(aj.a 1 0 (aj.a 4 1 (aj.a 7 2 (aj.a 8 3 (aj.a 9 4 (aj.a 11 5 (aj.a 54 6 (aj.a 55 7 (aj.a 56 8 (aj.a 66 9 (aj.a 67 10 (aj.a 68 11 fn_)))))))))))),bD,bO,cT,(bh.sel [0,1,2,3,4,5] rfl rfl)⟩
      rintro f w ⟨bd,aO,cb,cc,D5,rfl,aV,fD,eo,fE,ep⟩
      refine cr ?_
      refine sQ 98 (zP rfl (aV.g 68 11))<|sQ 68 yv (rn ?_)
      obtain rfl:=sI dV
      exact ⟨fg,Nat.lt_succ_self _,i2+1,bd,aO,cb,cc,D5,D4,(aV.a 1 0 (aV.a 4 1 (aV.a 7 2 (aV.a 8 3 (aV.a 9 4 (aV.a 11 5 (aV.a 54 6 (aV.a 55 7 (aV.a 56 8 (aV.a 66 9 (aV.a 67 10 (fc (congrArg (Value.int .i64) (wr_succ dS fe)) fn_)))))))))))),fD,eo,fE,dO,cm,dP,(ep.sel [0,1,2,3,4,5] rfl rfl),(by omega),fh⟩
     ·skip
      obtain rfl:K127=0:=by have h:=of_decide_eq_false bP; omega
      refine cw_exit rfl ?_
      obtain rfl:=sI dQ
      refine cr ?_
      refine sQ 99 (zP rfl (aj.g 56 8))<|sQ 56 yv (rn ?_)
      obtain rfl:=sI dN
      have er:ST w0 [] _ [O0,O2,⟨(aD g),.mp (mpE A2 Value.bool U),[],0⟩,⟨bb,118,(D3.flatMap eN5),bc*4⟩,O1,⟨aA,118,(D4.flatMap eN5),aG*4⟩] (ai::ag::ae::⟨none,([].flatMap eN1)⟩::ac::aa::J::H::((D3.flatMap eN3)++((D4.flatMap eN3)++[]))):=bA.sR 11 [3,4,5,6,7,8,9,10]
      exact ⟨e0,Nat.lt_succ_self _,i1+1,U,av,bb,bc,D3,D4,(aj.a 1 0 (aj.a 4 1 (aj.a 7 2 (aj.a 8 3 (aj.a 9 4 (aj.a 54 6 (aj.a 55 7 (fc (congrArg (Value.int .i64) (wr_succ dI eY)) fn_)))))))),bD,bO,cT,dO,cm,dP,(er.sel [0,1,2,3,5] rfl rfl),(by omega),dJ⟩
   ·skip
    obtain rfl:K126=0:=by have h:=of_decide_eq_false bM; omega
    refine cw_exit rfl ?_
    obtain rfl:=sI dH
    refine cr ?_
    refine sQ 100 (yv rfl (aE.g 9 4))<|sQ 6 yu (rn (cr ?_))
    refine sQ 51 (yv rfl (aE.g 8 3))<|sQ 52 zP<|sQ 8 yu (rn ?_)
    obtain rfl:=sI dC
    have es:ST w0 [] _ [O0,O2,⟨(aD g),.mp (mpE A2 Value.bool aB),[],0⟩,⟨bo,118,(D1.flatMap eN5),bp*4⟩,⟨aA,118,(D2.flatMap eN5),aG*4⟩] (ai::ag::ae::⟨none,([].flatMap eN1)⟩::ac::aa::J::H::((D1.flatMap eN3)++[])):=ST.subR bL (sk 0 (sk 1 (sk 2 (sk 3 (sk 4 (sk 5 (sk 6 (sk 7 (suba (fun r_ (h:r_∈((D1.flatMap eN3):List Ro))=>mOd (i:=8) (show r_∈((((D1.flatMap eN3)++((D2.flatMap eN3)++[]))):List Ro) from mAl _ h)) (fun _ h=>by cases h))))))))))
    exact ⟨K68,Nat.lt_succ_self _,aT,aB,(i64.wrap (length+1)),bo,bp,D1,(aE.a 1 0 (aE.a 4 1 (fc rfl (aE.a 7 2 (fc rfl fn_))))),dD,cj,dE,(es.sel [0,1,3,2] rfl rfl),cN⟩
  ·skip
   have et:=cf' cM cO
   refine cw_exit rfl ?_
   obtain rfl:=sI et
   obtain rfl:=sI cN
   refine cq (cr ?_)
   refine sQ 2 yu<|sQ 3 yu (rn (ct_ ?_))
   have eu:ST w0 [] _ [O0,O2,⟨aA,118,(D.flatMap eN5),aG*4⟩,⟨(aD g),.mp (mpE A2 Value.bool a7),[],0⟩] (⟨none,([].flatMap eN1)⟩::ai::ag::ae::⟨none,([].flatMap eN1)⟩::ac::aa::J::H::((D.flatMap eN3)++[])):=ST.nilRo ci
   obtain ⟨rfl,rfl⟩:=pr2 (sI dx)
   exact ret2 Tryz.results47 rT rT ⟨none,0,rfl,(len_le rfl (Nat.le_refl 0)),(org_cons org_none org_nil),((eu.sel [] rfl rfl).sT [0])⟩

theorem Kk (t:Ae) (B:Option Addr) (c n:Nat) (O:Option Addr) (c1 n1:Nat) (U:World) (hn:t.XImages.length=n) (ai:t.ZImages.length=n1) (hS:ST U [] U [] [⟨B,(t.XImages.flatMap eN0)⟩,⟨O,(t.ZImages.flatMap eN0)⟩]) {r_:Aj} {W:Bool} (Z:Eb t=some (r_,W)) :
  CV Tryz.prog 15 #[.agg #[vi t.Qubits,.slice B n c,.slice O n1 c1]] U (fun v w'=>∃ (B2:Option Addr) (c2:Nat),v=.tuple #[.agg #[vi r_.Qubits,.slice B2 r_.Gates.length c2],.bool W]∧ST U [] w' [⟨B2,57,(r_.Gates.flatMap eN1),c2*3⟩] []):=by
 subst hn
 subst ai
 unfold Eb at Z
 refine cv_of_cw 29 Tryz.func15 rfl Tryz.ntmps15 rfl ?_
 refine cq (cr ?_)
 let V0:List Value:=[vi t.Qubits,.slice B t.XImages.length c,.slice O t.ZImages.length c1]
 refine sS 1 (yV V0 3 hS) ?_
 rintro _ w_ ⟨b,rfl,aj⟩
 let V:List Value:=[vi 0,.slice none 0 0]
 refine sS 2 (yN V 2 aj K34) ?_
 rintro _ aQ ⟨b1,rfl,P⟩
 refine sQ 3 yu (rn (cq (cq (cr ?_))))
 refine sQ 6 (yw 0 K11 K3 (P.c 0)) ?_
 obtain ⟨aT,hc,Z⟩:=bI Z
 refine sc 7 rfl rfl (yc K91 (EL t B c t.XImages.length O c1 t.ZImages.length _ rfl rfl (P.inn0 [(true,0),(true,1)] rfl) hc)) ?_
 rintro _ aU ⟨rfl,hd⟩
 have o:=P.out00 hd
 refine sQ 8 yn<|sQ 9 yv ?_
 refine sgq 10 rfl rfl (uF_ 9) (fun hg=>(yd (aD b) 0 0 K22 K1)) ?_
 refine sgq 11 rfl rfl (uF_ 9) (fun ak=>(yz 0 K0 (o.c 0) rfl (gv_of ak))) ?_
 refine sgq 12 rfl rfl (uF_ 9) (fun al=>(Y_gt rfl (gv_of al) rfl)) ?_
 refine sQ 13 yO (rn ?_)
 refine cw_cond rfl (fun hb=>?_) (fun hb=>?_)
 ·skip
  have am:=ct Z hb
  refine cq (cr ?_)
  refine sQ 14 (Y_buildS (zs:=V) (vs:=[]) (cs:=V) K72 K34 rfl mpn rfl) ?_
  refine s0 (yK 1 2 0 o K9) ?_
  rintro _ aV ⟨rfl,an⟩
  refine sQ 3 yu (rn (ct_ ?_))
  have aa:=an.addNil 57
  obtain ⟨rfl,rfl⟩:=pr2 (sI am)
  exact ret2 Tryz.results15 (rX K17 K9 (aa.c 1)) rT ⟨none,0,rfl,(aa.sN [2])⟩
 ·skip
  have D:=cf' Z hb
  refine cw_skip (cq (cr ?_))
  refine sQ 16 (yw 0 K11 K3 (o.c 0)) ?_
  obtain ⟨⟨u,ao⟩,ap,D⟩:=bI D
  refine sc 17 rfl rfl (yc S5 (Th t B c t.XImages.length O c1 t.ZImages.length _ rfl rfl (o.inn0 [(true,0),(true,1)] rfl) ap)) ?_
  rintro _ aY ⟨B3,c3,rfl,hq,ho,aq⟩
  have ar:=ST.outR00 o aq ho (sk 0 (sk 1 (fun _ h=>by cases h)))
  have a0:Org U [] [⟨B,(t.XImages.flatMap eN0)⟩,⟨O,(t.ZImages.flatMap eN0)⟩] [⟨B3,(u.flatMap eN1)⟩]:=org_trans0 o ho (org_cons (org_mem (i:=0) rfl) (org_cons (org_mem (i:=1) rfl) org_nil))
  have H:ST U [] _ [⟨aD b,25,V0,3⟩,⟨aD b1,29,V,2⟩] [⟨B3,(u.flatMap eN1)⟩,⟨B,(t.XImages.flatMap eN0)⟩,⟨O,(t.ZImages.flatMap eN0)⟩]:=ar
  refine sQ 15 yv<|sQ 18 (ye (.slice B3 u.length c3))<|sQ 19 (ye (.bool ao))<|sQ 4 yu<|sQ 5 yu (rn (cq (cq (cr ?_))))
  refine sQ 20 yv<|sQ 21 yn (rn ?_)
  refine cw_cond rfl (fun Q=>?_) (fun Q=>?_)
  ·skip
   have au:=ct D Q
   refine cq (cr ?_)
   refine sQ 22 (Y_buildS (zs:=V) (vs:=[]) (cs:=V) K72 K34 rfl mpn rfl) ?_
   refine s0 (yK 1 2 0 H K9) ?_
   rintro _ a1 ⟨rfl,av⟩
   refine sQ 3 yu (rn (ct_ ?_))
   have ab:=av.addNil 57
   obtain ⟨rfl,rfl⟩:=pr2 (sI au)
   exact ret2 Tryz.results15 (rX K17 K9 (ab.c 1)) rT ⟨none,0,rfl,(ab.sN [2])⟩
  ·skip
   have S:=cf' D Q
   refine cw_skip (cq (cr ?_))
   refine sQ 23 (yd (aD b) 0 0 K22 K1)<|sQ 24 (yz 0 K0 (H.c 0))<|sQ 25 yv ?_
   obtain ⟨⟨ac,aw⟩,ay,S⟩:=bI S
   refine sc 26 rfl rfl (yc Mh (M9 t.Qubits u B3 c3 u.length _ rfl (H.inn0 [(true,0)] rfl) ay)) ?_
   rintro _ a2 ⟨B4,c4,rfl,aA⟩
   have ae:=H.out0 aA
   refine sQ 27 (ye (.agg #[vi ac.Qubits,.slice B4 ac.Gates.length c4]))<|sQ 28 (ye (.bool aw)) ?_
   refine s0 (yK 1 2 0 ae K9) ?_
   rintro _ a3 ⟨rfl,J⟩
   refine sQ 3 yu (rn (ct_ ?_))
   obtain ⟨rfl,rfl⟩:=pr2 (sI S)
   exact ret2 Tryz.results15 (rX K17 K9 (J.c 1)) rT ⟨B4,c4,rfl,(J.sN [2])⟩

theorem RL (t:Ae) (B:Option Addr) (c n:Nat) (J:Option Addr) (Q Z:Nat) (O:World) (hn:t.XImages.length=n) (S:t.ZImages.length=Z) (hS:ST O [] O [] [⟨B,(t.XImages.flatMap eN0)⟩,⟨J,(t.ZImages.flatMap eN0)⟩]) {r_:Int} {u:Bool} (P:Fz t=some (r_,u)) :
  CV Tryz.prog 16 #[.agg #[vi t.Qubits,.slice B n c,.slice J Z Q]] O (fun v w'=>v=.tuple #[vi r_,.bool u]∧ST O [] w' [] []):=by
 subst hn
 subst S
 unfold Fz at P
 refine cv_of_cw 15 Tryz.func16 rfl Tryz.ntmps16 rfl ?_
 refine cq (cr ?_)
 refine sS 1 (yV [vi t.Qubits,.slice B t.XImages.length c,.slice J t.ZImages.length Q] 3 hS) ?_
 rintro _ w_ ⟨b,rfl,o⟩
 refine sQ 2 yu<|sQ 3 yu (rn (cq (cr ?_)))
 refine sQ 7 (yw 0 K11 K3 (o.c 0)) ?_
 obtain ⟨⟨D,U⟩,hc,P⟩:=bI P
 refine sc 8 rfl rfl (yc LR (Kk t B c t.XImages.length J Q t.ZImages.length _ rfl rfl (o.inn0 [(true,0),(true,1)] rfl) hc)) ?_
 rintro _ af ⟨B2,c2,rfl,hd⟩
 have V:=o.out0 hd
 refine sQ 6 yv<|sQ 9 (ye (.agg #[vi D.Qubits,.slice B2 D.Gates.length c2]))<|sQ 10 (ye (.bool U)) ?_
 refine sS 4 (yN [vi 0,.slice none 0 0] 2 V K34) ?_
 rintro _ ai ⟨b1,rfl,W⟩
 refine s0 (yK 2 2 0 W K9) ?_
 rintro _ ak ⟨rfl,H⟩
 refine sQ 5 yu (rn (cq (cr ?_)))
 refine sQ 11 (yd (aD b1) 0 0 K40 K23)<|sQ 12 (yz 1 K29 (H.c 2))<|sQ 13 (Y_len K15 rfl rfl)<|sQ 14 yv<|sQ 2 yu<|sQ 3 yu (rn (ct_ ?_))
 obtain ⟨rfl,rfl⟩:=pr2 (sI P)
 exact e2 Tryz.results16 (H.sN [])

theorem Ov (t:Ae) (B:Option Addr) (c n:Nat) (B1:Option Addr) (c1 n1:Nat) (J:World) (hn:t.XImages.length=n) (hq:n≤c) (a1:t.ZImages.length=n1) (a2:n1≤c1) (hS:ST J [] J [] [⟨B,(t.XImages.flatMap eN0)⟩,⟨B1,(t.ZImages.flatMap eN0)⟩]) {r_:Int} {aA:Bool} (hF:Fm t=some (r_,aA)) :
  CV Tryz.prog 17 #[.agg #[vi t.Qubits,.slice B n c,.slice B1 n1 c1]] J (fun v w'=>v=.tuple #[vi r_,.bool aA]∧ST J [] w' [] []):=by
 subst hn
 subst a1
 unfold Fm at hF
 refine cv_of_cw 25 Tryz.func17 rfl Tryz.ntmps17 rfl ?_
 refine cq (cr ?_)
 let ai:List Value:=[vi t.Qubits,.slice B t.XImages.length c,.slice B1 t.ZImages.length c1]
 refine sS 1 (yV ai 3 hS) ?_
 rintro _ w_ ⟨b,rfl,aj⟩
 refine sQ 2 yu<|sQ 3 yu (rn (cq (cq (cr ?_))))
 refine sQ 7 (yw 0 K11 K3 (aj.c 0)) ?_
 obtain ⟨bF,hc,hF⟩:=bI hF
 refine sc 8 rfl rfl (yc K91 (EL t B c t.XImages.length B1 c1 t.ZImages.length _ rfl rfl (aj.inn0 [(true,0),(true,1)] rfl) hc)) ?_
 rintro _ bH ⟨rfl,hd⟩
 have ak:=aj.out00 hd
 refine sQ 9 yn (rn ?_)
 refine cw_cond rfl (fun hb=>?_) (fun hb=>?_)
 ·skip
  have a3:=ct hF hb
  refine cq (cr ?_)
  refine sQ 2 yu<|sQ 3 yu (rn (ct_ ?_))
  obtain ⟨rfl,rfl⟩:=pr2 (sI a3)
  exact e2 Tryz.results17 (ak.sN [])
 ·skip
  have al:=cf' hF hb
  refine cw_skip (cq ?_)
  obtain ⟨u,a5,al⟩:=bI al
  refine ra_start (ak.se [0]).fn (by kernel_rfl) ?_
  have aE:=ak.drew
  have am:=aE.se [0]
  refine rq 0 10 rfl am (fun _ q=>(yd (aD b) 0 0 K22 K1))<|rq 1 11 rfl am (fun _ q=>(yz 0 K0 (ST.c q 0)))<|rq 3 13 rfl am (fun _ q=>(yw 0 K11 K3 (ST.c q 0))) ?_
  let V:Ob:=⟨aD b,25,ai,3⟩
  let V8:List Value:=[vi 0,.slice none 0 0,.slice none 0 0]
  refine rf_in (k:=3) (ts:=[]) (L:=[V]) (G:=[]) [fN 4 4 25 V8 3,fN 5 5 25 V8 3] aE (flc rfl rfl rfl (fun _ _ _ _ a6 h _=>(yN V8 3 h K26)) (flc rfl rfl rfl (fun _ _ _ _ a6 h _=>(yN V8 3 h K26)) fln)) (fun hJ=>?_)
  refine rf_all [2] hJ (fun Z w h=>(ST.sel (ST.noF h) [0] rfl rfl)) (fun Z bJ hz aF=>?_)
  refine rC 12 2 rfl (yc Gl (Ge t.Qubits _  (aF.inn0 [] rfl) a5)) ?_ aN
  rintro _ bL ⟨B2,c2,B3,c3,rfl,bc⟩
  have bd:=aF.out0 bc
  let O1:Ob:=⟨B2,64,(u.XImages.flatMap eN0),c2*3⟩
  let O2:Ob:=⟨B3,64,(u.ZImages.flatMap eN0),c3*3⟩
  let O:Ro:=⟨B1,(t.ZImages.flatMap eN0)⟩
  let P:Ro:=⟨B,(t.XImages.flatMap eN0)⟩
  have be:ST J [] _ (V::O1::O2::(flL [fN 4 4 25 V8 3,fN 5 5 25 V8 3] Z++[])) [P,O]:=ST.rot (pre:=[V]) (G:=(flL [fN 4 4 25 V8 3,fN 5 5 25 V8 3] Z++[])) (xs:=[O1,O2]) bd
  refine rf_k (L:=[V,O1,O2]) hz be (fun Z w h=>(ST.sel (ST.noF h) [0] rfl rfl)) ?_
  refine rf_force hJ (fun Z w h=>(ST.sel (ST.noF h) [0] rfl rfl)) (fun b1=>?_)
  refine rf_force (FlOK.nx hJ) (fun Z w h=>(ST.sel (ST.noF h) [0] rfl rfl)) (fun b2=>?_)
  refine rf_out (fun bM bf=>?_)
  refine rA [6] ?_
  refine rZ 6 rfl (yK 3 3 0 bf K3) ?_ aN
  rintro _ bN ⟨rfl,aG⟩
  refine ⟨(aG.se [0]),?_⟩
  refine rA [7] ?_
  refine rZ 7 rfl (yK 4 3 0 aG K3) ?_ aN
  rintro _ bO ⟨rfl,ae⟩
  refine ⟨(ae.se [0]),?_⟩
  refine ra_done (by kernel_rfl) ?_
  refine cq (cq (cr ?_))
  refine sQ 6 yu (rn ?_)
  obtain ⟨z,bg,aI⟩:=bI al
  let V7:List Value:=[vi u.Qubits,.slice B2 u.XImages.length c2,.slice B3 u.ZImages.length c3]
  have aK:ST J [] _ [V,O1,O2,⟨aD b1,25,V7,3⟩,⟨aD b2,25,ai,3⟩] [O,P,P,O]:=ae.sT [1,0,0,1]
  refine cw_block ?_
  refine cw_loop (fun k f w=>∃ (Qubits:Int) (XImages:List Aa) (ZImages:List Aa) (k_:Int) (B4:Option Addr) (c4:Nat) (B5:Option Addr) (c5:Nat),FF f [(1,pt (aD b) 0),(4,pt (aD b1) 0),(5,pt (aD b2) 0),(6,vi k_)]∧Org J [] [P,O] [⟨B4,(XImages.flatMap eN0)⟩]∧XImages.length≤c4∧Org J [] [P,O] [⟨B5,(ZImages.flatMap eN0)⟩]∧ZImages.length≤c5∧ST J [] w [V,⟨aD b1,25,V7,3⟩,O1,O2,⟨aD b2,25,[vi Qubits,.slice B4 XImages.length c4,.slice B5 ZImages.length c5],3⟩] [⟨B5,(ZImages.flatMap eN0)⟩,⟨B4,(XImages.flatMap eN0)⟩,P,O]∧whX (G4 u t) k (Qubits,XImages,ZImages,k_)=some z) fuel ⟨t.Qubits,t.XImages,t.ZImages,1,B,c,B1,c1,(fc rfl (fc rfl (fc rfl (fc rfl fn_)))),(org_mem (i:=0) rfl),(len_le rfl hq),(org_mem (i:=1) rfl),(len_le rfl a2),(aK.sel [0,3,1,2,4] rfl rfl),bg⟩ ?_
  rintro K13 f w ⟨Qubits,XImages,ZImages,k_,B4,c4,B5,c5,Q,ho,bP,bQ,bR,D,hL⟩
  obtain ⟨K35,y,rfl,an,ao⟩:=whX_go hL
  unfold G4 at an
  refine cq (cq (cr ?_))
  refine sQ 14 (yv rfl (Q.g 6 3))<|sQ 15 (Y_le rfl rfl rfl) (rn ?_)
  refine cw_cond rfl (fun ap=>?_) (fun ap=>?_)
  ·skip
   have W:=ct an ap
   refine cw_skip (cq (cw_block (cq (cq (cr ?_)))))
   refine sQ 18 (yw 0 K11 K3 (D.c 4) rfl (Q.g 5 2))<|sQ 19 (yw 0 K11 K3 (D.c 1) rfl (Q.g 4 1)) ?_
   obtain ⟨bT,bh,W⟩:=bI W
   refine sc 20 rfl rfl (yc Ie (Ik (Ae.mk Qubits XImages ZImages) u B4 c4 XImages.length B5 c5 ZImages.length B2 c2 u.XImages.length B3 c3 u.ZImages.length _ rfl rfl rfl rfl (D.inn0 [(true,1),(true,0),(false,2),(false,3)] rfl) bh)) ?_
   rintro _ bU ⟨rfl,bj⟩
   have H:=D.out00 bj
   refine rn ?_
   refine cw_cond rfl (fun aq=>?_) (fun aq=>?_)
   ·skip
    have bk:=ct W aq
    refine cq (cr ?_)
    refine sQ 21 (yv rfl (Q.g 6 3))<|sQ 2 yu<|sQ 3 yu (rn (ct_ ?_))
    obtain rfl:=sI bk
    obtain rfl:=sI ao
    obtain ⟨rfl,rfl⟩:=pr2 (sI aI)
    exact e2 Tryz.results17 (H.sN [])
   ·skip
    have ar:=cf' W aq
    refine cw_skip (cr ?_)
    refine sQ 22 (yw 0 K11 K3 (H.c 4) rfl (Q.g 5 2))<|sQ 23 (yw 0 K11 K3 (H.c 0) rfl (Q.g 1 0)) ?_
    obtain ⟨o,bm,ar⟩:=bI ar
    refine sc 24 rfl rfl (yc G8 (GF (Ae.mk Qubits XImages ZImages) t B4 c4 XImages.length B5 c5 ZImages.length B c t.XImages.length B1 c1 t.ZImages.length _ rfl rfl rfl rfl (H.inn0 [(true,1),(true,0),(true,2),(true,3)] rfl) bm)) ?_
    rintro _ bV ⟨B6,c6,B7,c7,rfl,bp⟩
    have aM:=H.out0 bp
    refine s0 (yK 4 3 0 aM K3 rfl (Q.g 5 2)) ?_
    rintro _ bW ⟨rfl,S⟩
    refine rn (cr ?_)
    refine sQ 16 (yv rfl (Q.g 6 3))<|sQ 17 zP<|sQ 6 yu (rn ?_)
    obtain rfl:=sI ar
    let R5:Ro:=⟨B6,(o.XImages.flatMap eN0)⟩
    have bq:Org J [] [P,O] [R5]:=ST.orgOwn S (i:=5) rfl
    have aO:o.XImages.length≤c6:=(S.lencap (i:=5) rfl (fm_lenn (l:=o.XImages) eN2 rfl) rfl rfl)
    let V9:List Value:=[vi o.Qubits,.slice B6 o.XImages.length c6,.slice B7 o.ZImages.length c7]
    have U:ST J [] _ [V,⟨aD b1,25,V7,3⟩,O1,O2,⟨aD b2,25,V9,3⟩,⟨B7,64,(o.ZImages.flatMap eN0),c7*3⟩] [R5,⟨B5,(ZImages.flatMap eN0)⟩,⟨B4,(XImages.flatMap eN0)⟩,P,O]:=S.freeze (i:=5) rfl
    let R6:Ro:=⟨B7,(o.ZImages.flatMap eN0)⟩
    have bv:Org J [] [P,O] [R6]:=ST.orgOwn U (i:=5) rfl
    have au:o.ZImages.length≤c7:=(U.lencap (i:=5) rfl (fm_lenn (l:=o.ZImages) eN2 rfl) rfl rfl)
    have aQ:ST J [] _ [V,⟨aD b1,25,V7,3⟩,O1,O2,⟨aD b2,25,V9,3⟩] [R6,R5,⟨B5,(ZImages.flatMap eN0)⟩,⟨B4,(XImages.flatMap eN0)⟩,P,O]:=U.freeze (i:=5) rfl
    have aR:ST J [] _ [V,⟨aD b1,25,V7,3⟩,O1,O2,⟨aD b2,25,V9,3⟩] [R6,R5,P,O]:=aQ.sT [0,1,4,5]
    exact ⟨K35,Nat.lt_succ_self _,o.Qubits,o.XImages,o.ZImages,(i64.wrap (k_+1)),B6,c6,B7,c7,(Q.a 1 0 (Q.a 4 1 (Q.a 5 2 (fc rfl fn_)))),bq,(len_le rfl aO),bv,(len_le rfl au),(aR.sel [0,1,2,3,4] rfl rfl),ao⟩
  ·skip
   have bw:=cf' an ap
   refine cw_exit rfl ?_
   obtain rfl:=sI bw
   obtain rfl:=sI ao
   refine cq (cr ?_)
   refine sQ 2 yu<|sQ 3 yu (rn (ct_ ?_))
   obtain ⟨rfl,rfl⟩:=pr2 (sI aI)
   exact e2 Tryz.results17 (D.sN [])

theorem QQ (n:Int)  (S:World)  (hS:ST S [] S [] []) {D:Ae} {H:Bool} (J:Fq n=some (D,H)) :
  CV Tryz.prog 18 #[vi n] S (fun v w'=>∃ (B:Option Addr) (c:Nat) (B1:Option Addr) (c1:Nat),v=.tuple #[.agg #[vi D.Qubits,.slice B D.XImages.length c,.slice B1 D.ZImages.length c1],.bool H]∧ST S [] w' [⟨B,64,(D.XImages.flatMap eN0),c*3⟩,⟨B1,64,(D.ZImages.flatMap eN0),c1*3⟩] []):=by
 unfold Fq at J
 refine cv_of_cw 10 Tryz.func18 rfl Tryz.ntmps18 rfl ?_
 refine cq (cr ?_)
 let U:List Value:=[vi 0,.slice none 0 0,.slice none 0 0]
 refine sS 2 (yN U 3 hS K26) ?_
 rintro _ w_ ⟨b,rfl,O⟩
 refine sQ 3 yu (rn (cq (cq (cr ?_))))
 refine sQ 4 yv ?_
 obtain ⟨ai,hc,J⟩:=bI J
 refine sc 5 rfl rfl (yc K49 (AW n 1 5 _  (O.inn0 [] rfl) hc)) ?_
 rintro _ aj ⟨rfl,hd⟩
 have o:=O.out00 hd
 refine sQ 6 yn (rn ?_)
 refine cw_cond rfl (fun hb=>?_) (fun hb=>?_)
 ·skip
  have V:=ct J hb
  refine cq (cr ?_)
  refine sQ 7 (Y_buildS (zs:=U) (vs:=[]) (cs:=U) K80 K26 rfl mpn rfl) ?_
  refine s0 (yK 0 3 0 o K3) ?_
  rintro _ ak ⟨rfl,W⟩
  refine sQ 3 yu (rn (ct_ ?_))
  have Z:=W.addNil 64
  have P:=Z.addNil 64
  obtain ⟨rfl,rfl⟩:=pr2 (sI V)
  exact ret2 Tryz.results18 (rX K11 K3 (P.c 0)) rT ⟨none,0,none,0,rfl,(P.sN [1,2])⟩
 ·skip
  have u:=cf' J hb
  refine cw_skip (cq (cr ?_))
  refine sQ 8 yv ?_
  obtain ⟨al,aa,u⟩:=bI u
  refine sc 9 rfl rfl (yc Gl (Ge n _  (o.inn0 [] rfl) aa)) ?_
  rintro _ am ⟨B2,c2,B3,c3,rfl,ab⟩
  have ac:=o.out0 ab
  refine s0 (yK 0 3 0 ac K3) ?_
  rintro _ ar ⟨rfl,Q⟩
  refine sQ 3 yu (rn (ct_ ?_))
  obtain ⟨rfl,rfl⟩:=pr2 (sI u)
  exact ret2 Tryz.results18 (rX K11 K3 (Q.c 0)) rT ⟨B2,c2,B3,c3,rfl,(Q.sN [1,2])⟩

theorem P5 (first:Ae) (o:Ae) (B:Option Addr) (c n:Nat) (S:Option Addr) (c1 n1:Nat) (U:Option Addr) (c2 n2:Nat) (V:Option Addr) (c3 n3:Nat) (w0:World) (hn:first.XImages.length=n) (ah:first.ZImages.length=n1) (ai:o.XImages.length=n2) (aj:o.ZImages.length=n3) (hS:ST w0 [] w0 [] [⟨B,(first.XImages.flatMap eN0)⟩,⟨S,(first.ZImages.flatMap eN0)⟩,⟨U,(o.XImages.flatMap eN0)⟩,⟨V,(o.ZImages.flatMap eN0)⟩]) {Q:Ae} {W:Bool} (J:ER first o=some (Q,W)) :
  CV Tryz.prog 19 #[.agg #[vi first.Qubits,.slice B n c,.slice S n1 c1],.agg #[vi o.Qubits,.slice U n2 c2,.slice V n3 c3]] w0 (fun v w'=>∃ (B4:Option Addr) (c4:Nat) (B5:Option Addr) (c5:Nat),v=.tuple #[.agg #[vi Q.Qubits,.slice B4 Q.XImages.length c4,.slice B5 Q.ZImages.length c5],.bool W]∧ST w0 [] w' [⟨B4,64,(Q.XImages.flatMap eN0),c4*3⟩,⟨B5,64,(Q.ZImages.flatMap eN0),c5*3⟩] []):=by
 subst hn
 subst ah
 subst ai
 subst aj
 unfold ER at J
 refine cv_of_cw 25 Tryz.func19 rfl Tryz.ntmps19 rfl ?_
 refine cq (cr ?_)
 refine sS 2 (yV [vi first.Qubits,.slice B first.XImages.length c,.slice S first.ZImages.length c1] 3 hS) ?_
 rintro _ w_ ⟨b,rfl,ak⟩
 refine sS 3 (yV [vi o.Qubits,.slice U o.XImages.length c2,.slice V o.ZImages.length c3] 3 ak) ?_
 rintro _ aQ ⟨b1,rfl,al⟩
 let V0:List Value:=[vi 0,.slice none 0 0,.slice none 0 0]
 refine sS 4 (yN V0 3 al K26) ?_
 rintro _ aT ⟨b2,rfl,O⟩
 refine sQ 5 yu (rn (cq (cq (cr ?_))))
 refine sQ 6 (yw 0 K11 K3 (O.c 0)) ?_
 obtain ⟨aU,hc,J⟩:=bI J
 refine sc 7 rfl rfl (yc K91 (EL first B c first.XImages.length S c1 first.ZImages.length _ rfl rfl (O.inn0 [(true,0),(true,1)] rfl) hc)) ?_
 rintro _ aV ⟨rfl,hd⟩
 have D:=O.out00 hd
 refine sQ 8 yn<|sQ 9 yv ?_
 refine sgq 10 rfl rfl (uF_ 9) (fun hg=>(yw 0 K11 K3 (D.c 1))) ?_
 obtain ⟨an,ao,J⟩:=bI J
 refine sgc 11 (v:=.bool an) (F:=D.fn) rfl rfl (uF_ 9) D (fun Z=>(yc K91 (CV.mono (EL o U c2 o.XImages.length V c3 o.ZImages.length _ rfl rfl (D.inn0 [(true,2),(true,3)] rfl) (gb_inv ao Z)) (by rintro _ _ ⟨rfl,h⟩; exact ⟨rfl,D.out00 h⟩)) rfl (mc (gv_of Z) mn))) ?_
 rintro aY u
 refine sgq 12 rfl rfl (uF_ 9) (fun ap=>(yn rfl (gv_of ap))) ?_
 refine sQ 13 yO<|sQ 14 yv ?_
 refine sgq 15 rfl rfl (uF_ 14) (fun a0=>(yd (aD b) 0 0 K22 K1)) ?_
 refine sgq 16 rfl rfl (uF_ 14) (fun aq=>(yz 0 K0 (u.c 0) rfl (gv_of aq))) ?_
 refine sgq 17 rfl rfl (uF_ 14) (fun a1=>(yd (aD b1) 0 0 K22 K1)) ?_
 refine sgq 18 rfl rfl (uF_ 14) (fun ar=>(yz 0 K0 (u.c 1) rfl (gv_of ar))) ?_
 refine sgq 19 rfl rfl (uF_ 14) (fun aa=>(Y_ne rfl (gv_of aa) (gv_of aa))) ?_
 refine sQ 20 yO (rn ?_)
 refine cw_cond rfl (fun hb=>?_) (fun hb=>?_)
 ·skip
  have au:=ct J hb
  refine cq (cr ?_)
  refine sQ 21 (Y_buildS (zs:=V0) (vs:=[]) (cs:=V0) K80 K26 rfl mpn rfl) ?_
  refine s0 (yK 2 3 0 u K3) ?_
  rintro _ a2 ⟨rfl,av⟩
  refine sQ 5 yu (rn (ct_ ?_))
  have aw:=av.addNil 64
  have ab:=aw.addNil 64
  obtain ⟨rfl,rfl⟩:=pr2 (sI au)
  exact ret2 Tryz.results19 (rX K11 K3 (ab.c 2)) rT ⟨none,0,none,0,rfl,(ab.sN [3,4])⟩
 ·skip
  have P:=cf' J hb
  refine cw_skip (cq (cr ?_))
  refine sQ 22 (yw 0 K11 K3 (u.c 0))<|sQ 23 (yw 0 K11 K3 (u.c 1)) ?_
  obtain ⟨a3,ay,P⟩:=bI P
  refine sc 24 rfl rfl (yc G8 (GF first o B c first.XImages.length S c1 first.ZImages.length U c2 o.XImages.length V c3 o.ZImages.length _ rfl rfl rfl rfl (u.inn0 [(true,0),(true,1),(true,2),(true,3)] rfl) ay)) ?_
  rintro _ a5 ⟨B6,c6,B7,c7,rfl,aA⟩
  have aB:=u.out0 aA
  refine s0 (yK 2 3 0 aB K3) ?_
  rintro _ ba ⟨rfl,H⟩
  refine sQ 5 yu (rn (ct_ ?_))
  obtain ⟨rfl,rfl⟩:=pr2 (sI P)
  exact ret2 Tryz.results19 (rX K11 K3 (H.c 2)) rT ⟨B6,c6,B7,c7,rfl,(H.sN [3,4])⟩

theorem N5 (Q:List Int) (S:List Int) (B:Option Addr) (c n:Nat) (B1:Option Addr) (c1 n1:Nat) (P:World) (hn:Q.length=n) (ef:S.length=n1) (hS:ST P [] P [] [⟨B,(Q.flatMap enc_u8)⟩,⟨B1,(S.flatMap enc_u8)⟩]) {r_:Bool} (hF:GM Q S=some r_) :
  CV Tryz.prog 3 #[.slice B n c,.slice B1 n1 c1] P (fun v w'=>v=.bool r_∧ST P [] w' [] []):=by
 subst hn
 subst ef
 unfold GM at hF
 refine cv_of_cw 184 Tryz.func3 rfl Tryz.ntmps3 rfl ?_
 refine cq (cr ?_)
 refine sQ 4 (yg (.bool false)) (rn (cq (cq (cr ?_))))
 refine sQ 31 (ym (.slice B Q.length c))<|sQ 32 (Y_len DW rfl rfl)<|sQ 33 (ym (.slice B1 S.length c1))<|sQ 34 (Y_len DW rfl rfl)<|sQ 35 zP<|sQ 36 (Y_gt rfl rfl rfl) (rn ?_)
 refine cw_cond rfl (fun hb=>?_) (fun hb=>?_)
 ·skip
  have eh:=ct hF hb
  refine cq (cr ?_)
  refine sQ 4 (yg (.bool true)) (rn (ct_ ?_))
  obtain rfl:=sI eh
  exact e1 Tryz.results3 (hS.sN [])
 ·skip
  have ab:=cf' hF hb
  refine cw_skip (cq (cr ?_))
  refine sQ 37 (ym (.slice B Q.length c)) ?_
  obtain ⟨o,hc,ab⟩:=bI ab
  refine sc 38 rfl rfl (yc OY (Tq Q B c Q.length _ rfl (hS.inn0 [(true,0)] rfl) hc)) ?_
  rintro _ w_ ⟨B2,c2,B3,c3,rfl,hq,ho,hd⟩
  have ej:=ST.outR0 hS hd ho (sk 0 (fun _ h=>by cases h))
  let u:Ro:=⟨B1,(S.flatMap enc_u8)⟩
  let D:Ro:=⟨B,(Q.flatMap enc_u8)⟩
  let O:Ro:=⟨B3,(o.ZImages.flatMap eN0)⟩
  have f3:Org P [] [D,u] [O]:=org_trans0 hS ho (org_cons (org_mem (i:=0) rfl) org_nil)
  let O2:Ob:=⟨B2,64,(o.XImages.flatMap eN0),c2*3⟩
  have ek:ST P [] _ [O2] [O,D,u]:=ej
  let aU:List Value:=[vi 0,.slice none 0 0,.slice none 0 0]
  refine sS 5 (yN aU 3 ek K26) ?_
  rintro _ f4 ⟨b,rfl,el⟩
  refine s0 (yK 1 3 0 el K3) ?_
  rintro _ f5 ⟨rfl,bQ⟩
  refine rn (cq (cr ?_))
  refine sQ 40 (yw 0 K11 K3 (bQ.c 1)) ?_
  obtain ⟨⟨aV,ac⟩,em,ab⟩:=bI ab
  refine sc 41 rfl rfl (yc Td (RX o B2 c2 o.XImages.length B3 c3 o.ZImages.length _ rfl (bQ.lencap (i:=0) rfl (fm_lenn (l:=o.XImages) eN2 rfl) rfl rfl) rfl hq (bQ.inn0 [(false,0),(true,0)] rfl) em)) ?_
  rintro _ f6 ⟨B4,c4,rfl,en⟩
  have eo:=bQ.out0 en
  let ci:List Value:=[vi aV.Qubits,.slice B4 aV.Gates.length c4]
  refine sQ 39 (ym (.tuple #[.agg ci.toArray,.bool ac]))<|sQ 42 (ye (.agg ci.toArray))<|sQ 43 (ye (.bool ac)) ?_
  let aA:List Value:=[vi 0,.slice none 0 0]
  refine sS 6 (yN aA 2 eo K34) ?_
  rintro _ f7 ⟨b1,rfl,cj⟩
  let O0:Ob:=⟨aD b,25,[vi o.Qubits,.slice B2 o.XImages.length c2,.slice B3 o.ZImages.length c3],3⟩
  let O5:Ob:=⟨B4,57,(aV.Gates.flatMap eN1),c4*3⟩
  have cj:ST P [] _ [O2,O0,O5,⟨aD b1,29,aA,2⟩] [O,D,u]:=cj
  refine s0 (yK 3 2 0 cj K9) ?_
  rintro _ f8 ⟨rfl,bR⟩
  refine sQ 7 (yg (.bool ac)) (rn (cq (cr ?_)))
  refine sQ 45 (yw 0 K11 K3 (bR.c 1)) ?_
  obtain ⟨⟨be,aY⟩,er,ab⟩:=bI ab
  refine sc 46 rfl rfl (yc Ta (Rq o B2 c2 o.XImages.length B3 c3 o.ZImages.length _ rfl (bR.lencap (i:=0) rfl (fm_lenn (l:=o.XImages) eN2 rfl) rfl rfl) rfl hq (bR.inn0 [(false,0),(true,0)] rfl) er)) ?_
  rintro _ f9 ⟨B5,c5,rfl,eu⟩
  have ew:=bR.out0 eu
  let ck:List Value:=[vi be.Qubits,.slice B5 be.Gates.length c5]
  refine sQ 44 (ym (.tuple #[.agg ck.toArray,.bool aY]))<|sQ 47 (ye (.agg ck.toArray))<|sQ 48 (ye (.bool aY)) ?_
  refine sS 8 (yN aA 2 ew K34) ?_
  rintro _ ga ⟨b2,rfl,ex⟩
  refine s0 (yK 5 2 0 ex K9) ?_
  rintro _ gf ⟨rfl,U⟩
  let O4:Ob:=⟨aD b1,29,ci,2⟩
  let O9:Ob:=⟨aD b2,29,ck,2⟩
  let cm:Ob:=⟨B5,57,(be.Gates.flatMap eN1),c5*3⟩
  have U:ST P [] _ [O2,O0,O5,O4,cm,O9] [O,D,u]:=U
  refine sQ 9 (yg (.bool aY)) (rn (cq (cq (cr ?_))))
  refine sQ 49 (ym (.bool ac))<|sQ 50 (ym (.bool aY))<|sQ 51 (Y_bne (p:=ac) (q:=aY) K76 rfl rfl rfl)<|sQ 52 (ym (.bool (!(ac==aY)))) ?_
  refine sgq 53 rfl rfl (uF_ 52) (fun hg=>(yw 0 K17 K9 (U.c 3))) ?_
  refine sgq 54 rfl rfl (uF_ 52) (fun gg=>(yw 0 K17 K9 (U.c 5))) ?_
  obtain ⟨dc,ez,ab⟩:=bI ab
  refine sgc 55 (v:=.bool dc) (F:=U.fn) rfl rfl (uF_ 52) U (fun cn=>(yc PH (CV.mono (Pd aV be B4 c4 aV.Gates.length B5 c5 be.Gates.length _ rfl rfl (U.inn0 [(false,2),(false,4)] rfl) (gb_inv ez cn)) (by rintro _ _ ⟨rfl,h⟩; exact ⟨rfl,U.out00 h⟩)) rfl (mc (gv_of cn) (mc (gv_of cn) mn)))) ?_
  rintro gh aB
  refine sgq 56 rfl rfl (uF_ 52) (fun eA=>(yn rfl (gv_of eA))) ?_
  refine sQ 57 yO<|sQ 58 (ym (.bool ((!(ac==aY))||(!dc)))) ?_
  refine sgq 59 rfl rfl (uF_ 58) (fun gi=>(yw 0 K11 K3 (aB.c 1))) ?_
  obtain ⟨dd,eB,ab⟩:=bI ab
  refine sgc 60 (v:=.bool dd) (F:=aB.fn) rfl rfl (uF_ 58) aB (fun de=>(yc K91 (CV.mono (EL o B2 c2 o.XImages.length B3 c3 o.ZImages.length _ rfl rfl (aB.inn0 [(false,0),(true,0)] rfl) (gb_inv eB de)) (by rintro _ _ ⟨rfl,h⟩; exact ⟨rfl,aB.out00 h⟩)) rfl (mc (gv_of de) mn))) ?_
  rintro fb bf
  refine sgq 61 rfl rfl (uF_ 58) (fun gj=>(ym (.bool ac))) ?_
  refine sgq 62 rfl rfl (uF_ 58) (fun df=>(Y_bne (p:=dd) (q:=ac) K76 rfl (gv_of df) (gv_of df))) ?_
  refine sQ 63 yO (rn ?_)
  refine cw_cond rfl (fun co=>?_) (fun co=>?_)
  ·skip
   have eC:=ct ab co
   refine cq (cr ?_)
   refine sQ 4 (yg (.bool false)) (rn (ct_ ?_))
   obtain rfl:=sI eC
   exact e1 Tryz.results3 (bf.sN [])
  ·skip
   have aE:=cf' ab co
   refine cw_skip (cq (cr ?_))
   refine sQ 65 (ym (.slice B1 S.length c1)) ?_
   obtain ⟨⟨ag,ah⟩,eD,aE⟩:=bI aE
   refine sc 66 rfl rfl (yc OH (Oa S B1 c1 S.length _ rfl (bf.inn0 [(true,2)] rfl) eD)) ?_
   rintro _ fd ⟨B6,c6,B7,c7,rfl,eE⟩
   have dg:=bf.out0 eE
   let cp:List Value:=[vi ag.Qubits,.slice B6 ag.Gates.length c6]
   let cu:List Value:=[vi ah.Qubits,.slice B7 ah.Gates.length c7]
   refine sQ 64 (ym (.tuple #[.agg cp.toArray,.agg cu.toArray]))<|sQ 67 (ye (.agg cp.toArray))<|sQ 68 (ye (.agg cu.toArray)) ?_
   refine sS 10 (yN aA 2 dg K34) ?_
   rintro _ fe ⟨b3,rfl,bg⟩
   have bg:ST P [] _ [O2,O0,O5,O4,cm,O9,⟨B6,57,(ag.Gates.flatMap eN1),c6*3⟩,⟨B7,57,(ah.Gates.flatMap eN1),c7*3⟩,⟨aD b3,29,aA,2⟩] [O,D,u]:=bg
   refine sS 11 (yN aA 2 bg K34) ?_
   rintro _ ff ⟨b4,rfl,dh⟩
   refine s0 (yK 8 2 0 dh K9) ?_
   rintro _ fg ⟨rfl,di⟩
   refine s0 (yK 9 2 0 di K9) ?_
   rintro _ fh ⟨rfl,a0⟩
   refine rn (cq (cr ?_))
   refine sQ 70 (yw 0 K17 K9 (a0.c 8))<|sQ 71 (yw 0 K17 K9 (a0.c 9)) ?_
   obtain ⟨⟨ae,V⟩,eG,aE⟩:=bI aE
   refine sc 72 rfl rfl (yc OG (Qe ag ah B6 c6 ag.Gates.length B7 c7 ah.Gates.length _ rfl rfl (a0.inn0 [(false,6),(false,7)] rfl) eG)) ?_
   rintro _ fi ⟨rfl,eH⟩
   have aj:=a0.out00 eH
   have aj:ST P [] _ [O2,O0,O5,O4,cm,O9,⟨B6,57,(ag.Gates.flatMap eN1),c6*3⟩,⟨B7,57,(ah.Gates.flatMap eN1),c7*3⟩,⟨aD b3,29,cp,2⟩,⟨aD b4,29,cu,2⟩] [O,D,u]:=aj
   refine sQ 69 (ym (.tuple #[.bool ae,.bool V]))<|sQ 73 (ye (.bool ae))<|sQ 74 (ye (.bool V))<|sQ 12 (yg (.bool ae))<|sQ 13 (yg (.bool V)) (rn (cq (cr ?_)))
   refine sQ 76 (yw 0 K17 K9 (aj.c 8))<|sQ 77 (yw 0 K17 K9 (aj.c 9)) ?_
   obtain ⟨⟨aF,ak⟩,eI,aE⟩:=bI aE
   refine sc 78 rfl rfl (yc Nr (NN ag ah B6 c6 ag.Gates.length B7 c7 ah.Gates.length _ rfl rfl (aj.inn0 [(false,6),(false,7)] rfl) eI)) ?_
   rintro _ fj ⟨rfl,eJ⟩
   have af:=aj.out00 eJ
   refine sQ 75 (ym (.tuple #[.bool aF,.bool ak]))<|sQ 79 (ye (.bool aF))<|sQ 80 (ye (.bool ak))<|sQ 14 (yg (.bool aF))<|sQ 15 (yg (.bool ak)) (rn (cq (cq (cr ?_))))
   refine sQ 81 (ym (.bool V))<|sQ 82 (ym (.bool ak))<|sQ 83 (Y_bne (p:=V) (q:=ak) K76 rfl rfl rfl)<|sQ 84 (ym (.bool (!(V==ak)))) ?_
   refine sgq 85 rfl rfl (uF_ 84) (fun gk=>(ym (.bool ae))) ?_
   refine sgq 86 rfl rfl (uF_ 84) (fun gl=>(ym (.bool aF))) ?_
   refine sgq 87 rfl rfl (uF_ 84) (fun b0=>(Y_bne (p:=ae) (q:=aF) K76 rfl (gv_of b0) (gv_of b0))) ?_
   refine sQ 88 yO (rn ?_)
   refine cw_cond rfl (fun cv=>?_) (fun cv=>?_)
   ·skip
    have eK:=ct aE cv
    refine cq (cr ?_)
    refine sQ 4 (yg (.bool false)) (rn (ct_ ?_))
    obtain rfl:=sI eK
    exact e1 Tryz.results3 (af.sN [])
   ·skip
    have eL:=cf' aE cv
    refine cw_skip (cq ?_)
    obtain ⟨z,hz,cw⟩:=bI eL
    refine cw_mid (fun f w=>.inl ()=z∧FF f [(5,pt (aD b) 0),(6,pt (aD b1) 0),(7,.bool ac)]∧ST P [] w [O0,O2,O4,O5] [O,D,u]) ?_ ?_
    ·skip
     refine cq (cr ?_)
     refine sQ 89 (ym (.bool V))<|sQ 90 (ym (.bool V)) ?_
     refine sgq 91 rfl rfl (uT_ 90) (fun fm=>(yd (aD b3) 0 0 K44 K1)) ?_
     refine sgq 92 rfl rfl (uT_ 90) (fun dj=>(yz 0 K0 (af.c 8) rfl (gv_of dj))) ?_
     refine sgq 93 rfl rfl (uT_ 90) (fun dk=>(Y_le rfl (gv_of dk) rfl)) ?_
     refine sQ 94 yA (rn ?_)
     refine cw_cond rfl (fun cx=>?_) (fun cx=>?_)
     ·skip
      have bS:=ct hz cx
      refine cq (cr ?_)
      refine sQ 96 (yw 0 K17 K9 (af.c 8))<|sQ 97 (yw 0 K17 K9 (af.c 9)) ?_
      obtain ⟨⟨aG,aI⟩,eM,bS⟩:=bI bS
      refine sc 98 rfl rfl (yc Ox (Ns ag ah B6 c6 ag.Gates.length B7 c7 ah.Gates.length _ rfl rfl (af.inn0 [(false,6),(false,7)] rfl) eM)) ?_
      rintro _ fo ⟨rfl,eN⟩
      have ca:=af.out00 eN
      refine sQ 95 (ym (.tuple #[.bool aG,.bool aI]))<|sQ 99 (ye (.bool aG))<|sQ 100 (ye (.bool aI))<|sQ 16 (yg (.bool aG))<|sQ 17 (yg (.bool aI)) (rn (cq (cr ?_)))
      refine sQ 101 (ym (.bool aI))<|sQ 102 yn<|sQ 103 (ym (.bool (!aI))) ?_
      refine sgq 104 rfl rfl (uF_ 103) (fun fp=>(ym (.bool aG))) ?_
      refine sgq 105 rfl rfl (uF_ 103) (fun fq=>(ym (.bool ae))) ?_
      refine sgq 106 rfl rfl (uF_ 103) (fun cb=>(Y_bne (p:=aG) (q:=ae) K76 rfl (gv_of cb) (gv_of cb))) ?_
      refine sQ 107 yO (rn ?_)
      refine cw_cond rfl (fun cy=>?_) (fun cy=>?_)
      ·skip
       have eO:=ct bS cy
       refine cq (cr ?_)
       refine sQ 4 (yg (.bool false)) (rn (ct_ ?_))
       obtain rfl:=sI eO
       obtain rfl:=sI cw
       exact e1 Tryz.results3 (ca.sN [])
      ·skip
       have dl:=cf' bS cy
       refine cw_skip ?_
       exact ⟨(sI dl),(fc rfl (fc rfl (fc rfl fn_))),(ca.sel [1,0,3,2] rfl rfl)⟩
     ·skip
      have dm:=cf' hz cx
      refine cw_skip ?_
      exact ⟨(sI dm),(fc rfl (fc rfl (fc rfl fn_))),(af.sel [1,0,3,2] rfl rfl)⟩
    rintro f w ⟨rfl,hf,a1⟩
    refine cq (cq (cr ?_))
    refine sQ 108 (ym (.bool ac) rfl (hf.g 7 2))<|sQ 109 yn (rn ?_)
    refine cw_cond rfl (fun cz=>?_) (fun cz=>?_)
    ·skip
     have dn:=ct cw cz
     refine cq (cr ?_)
     refine sQ 4 (yg (.bool true)) (rn (ct_ ?_))
     obtain rfl:=sI dn
     exact e1 Tryz.results3 (a1.sN [])
    ·skip
     have al:=cf' cw cz
     refine cw_skip (cq (cr ?_))
     refine sQ 111 (yw 0 K17 K9 (a1.c 2) rfl (hf.g 6 1)) ?_
     obtain ⟨⟨W,aJ⟩,eP,al⟩:=bI al
     refine sc 112 rfl rfl (yc GU (Hk aV B4 c4 aV.Gates.length _ rfl (a1.inn0 [(false,3)] rfl) eP)) ?_
     rintro _ fr ⟨B8,c8,B9,c9,rfl,eU⟩
     have dp:=a1.out0 eU
     let cA:List Value:=[vi W.Qubits,.slice B8 W.XImages.length c8,.slice B9 W.ZImages.length c9]
     refine sQ 110 (ym (.tuple #[.agg cA.toArray,.bool aJ]))<|sQ 113 (ye (.agg cA.toArray))<|sQ 114 (ye (.bool aJ)) ?_
     refine sS 18 (yN aU 3 dp K26) ?_
     rintro _ fs ⟨b5,rfl,bh⟩
     let cC:Ob:=⟨B8,64,(W.XImages.flatMap eN0),c8*3⟩
     let cD:Ob:=⟨B9,64,(W.ZImages.flatMap eN0),c9*3⟩
     have bh:ST P [] _ [O0,O2,O4,O5,cC,cD,⟨aD b5,25,aU,3⟩] [O,D,u]:=bh
     refine s0 (yK 6 3 0 bh K3) ?_
     rintro _ fu ⟨rfl,am⟩
     refine sQ 19 (yg (.bool aJ)) (rn (cq (cq (cr ?_))))
     refine sQ 115 (ym (.bool aJ))<|sQ 116 yn<|sQ 117 (ym (.bool (!aJ))) ?_
     refine sgq 118 rfl rfl (uF_ 117) (fun fv=>(yw 0 K11 K3 (am.c 6))) ?_
     refine sgq 119 rfl rfl (uF_ 117) (fun fw=>(yw 0 K11 K3 (am.c 0) rfl (hf.g 5 0))) ?_
     obtain ⟨dq,dr,al⟩:=bI al
     refine sgc 120 (v:=.bool dq) (F:=am.fn) rfl rfl (uF_ 117) am (fun bj=>(yc II (CV.mono (Ih W o B8 c8 W.XImages.length B9 c9 W.ZImages.length B2 c2 o.XImages.length B3 c3 o.ZImages.length _ rfl rfl rfl rfl (am.inn0 [(false,4),(false,5),(false,1),(true,0)] rfl) (gb_inv dr bj)) (by rintro _ _ ⟨rfl,h⟩; exact ⟨rfl,am.out00 h⟩)) rfl (mc (gv_of bj) (mc (gv_of bj) mn)))) ?_
     rintro fx a2
     refine sgq 121 rfl rfl (uF_ 117) (fun ds=>(yn rfl (gv_of ds))) ?_
     refine sQ 122 yO (rn ?_)
     refine cw_cond rfl (fun cE=>?_) (fun cE=>?_)
     ·skip
      have dt:=ct al cE
      refine cq (cr ?_)
      refine sQ 4 (yg (.bool false)) (rn (ct_ ?_))
      obtain rfl:=sI dt
      exact e1 Tryz.results3 (a2.sN [])
     ·skip
      have an:=cf' al cE
      refine cw_skip (cq (cr ?_))
      refine sQ 124 (yw 0 K11 K3 (a2.c 0) rfl (hf.g 5 0)) ?_
      obtain ⟨⟨ao,ap⟩,du,an⟩:=bI an
      refine sc 125 rfl rfl (yc LR (Kk o B2 c2 o.XImages.length B3 c3 o.ZImages.length _ rfl rfl (a2.inn0 [(false,1),(true,0)] rfl) du)) ?_
      rintro _ fy ⟨bT,bU,rfl,eW⟩
      have dv:=a2.out0 eW
      let cF:List Value:=[vi ao.Qubits,.slice bT ao.Gates.length bU]
      refine sQ 123 (ym (.tuple #[.agg cF.toArray,.bool ap]))<|sQ 126 (ye (.agg cF.toArray))<|sQ 127 (ye (.bool ap)) ?_
      refine sS 20 (yN aA 2 dv K34) ?_
      rintro _ fz ⟨b6,rfl,bk⟩
      let O7:Ob:=⟨aD b5,25,cA,3⟩
      have bk:ST P [] _ [O0,O2,O4,O5,cC,cD,O7,⟨bT,57,(ao.Gates.flatMap eN1),bU*3⟩,⟨aD b6,29,aA,2⟩] [O,D,u]:=bk
      refine s0 (yK 8 2 0 bk K9) ?_
      rintro _ fB ⟨rfl,bm⟩
      refine sQ 21 (yg (.bool ap)) (rn (cq (cr ?_)))
      refine sQ 129 (yw 0 K11 K3 (bm.c 0) rfl (hf.g 5 0)) ?_
      obtain ⟨⟨a3,aK⟩,dw,an⟩:=bI an
      refine sc 130 rfl rfl (yc NR (RL o B2 c2 o.XImages.length B3 c3 o.ZImages.length _ rfl rfl (bm.inn0 [(false,1),(true,0)] rfl) dw)) ?_
      rintro _ fC ⟨rfl,eY⟩
      have aL:=bm.out00 eY
      refine sQ 128 (ym (.tuple #[vi a3,.bool aK]))<|sQ 131 (ye (vi a3))<|sQ 132 (ye (.bool aK))<|sQ 22 (yg (vi a3))<|sQ 23 (yg (.bool aK)) (rn (cq (cq (cr ?_))))
      refine sQ 133 (ym (.bool ap))<|sQ 134 (ym (.bool aK))<|sQ 135 (Y_bne (p:=ap) (q:=aK) K76 rfl rfl rfl) (rn ?_)
      refine cw_cond rfl (fun cG=>?_) (fun cG=>?_)
      ·skip
       have dx:=ct an cG
       refine cq (cr ?_)
       refine sQ 4 (yg (.bool false)) (rn (ct_ ?_))
       obtain rfl:=sI dx
       exact e1 Tryz.results3 (aL.sN [])
      ·skip
       have dy:=cf' an cG
       refine cw_skip (cq ?_)
       obtain ⟨z1,dz,aM⟩:=bI dy
       refine cw_mid (fun f w=>.inl ()=z1∧FF f [(5,pt (aD b) 0)]∧ST P [] w [O0,O2] [O,D,u]) ?_ ?_
       ·skip
        refine cq (cr ?_)
        refine sQ 136 (ym (.bool ap)) (rn ?_)
        refine cw_cond rfl (fun cH=>?_) (fun cH=>?_)
        ·skip
         have aq:=ct dz cH
         refine cq (cr ?_)
         refine sQ 138 (yw 0 K17 K9 (aL.c 8)) ?_
         obtain ⟨⟨Z,ar⟩,dA,aq⟩:=bI aq
         refine sc 139 rfl rfl (yc GU (Hk ao bT bU ao.Gates.length _ rfl (aL.inn0 [(false,7)] rfl) dA)) ?_
         rintro _ fD ⟨cI,cJ,cL,cM,rfl,dC⟩
         have dD:=aL.out0 dC
         let dE:List Value:=[vi Z.Qubits,.slice cI Z.XImages.length cJ,.slice cL Z.ZImages.length cM]
         refine sQ 137 (ym (.tuple #[.agg dE.toArray,.bool ar]))<|sQ 140 (ye (.agg dE.toArray))<|sQ 141 (ye (.bool ar)) ?_
         refine sS 24 (yN aU 3 dD K26) ?_
         rintro _ fE ⟨b7,rfl,bn⟩
         have bn:ST P [] _ [O0,O2,O4,O5,cC,cD,O7,⟨bT,57,(ao.Gates.flatMap eN1),bU*3⟩,⟨aD b6,29,cF,2⟩,⟨cI,64,(Z.XImages.flatMap eN0),cJ*3⟩,⟨cL,64,(Z.ZImages.flatMap eN0),cM*3⟩,⟨aD b7,25,aU,3⟩] [O,D,u]:=bn
         refine s0 (yK 11 3 0 bn K3) ?_
         rintro _ fF ⟨rfl,au⟩
         refine sQ 25 (yg (.bool ar)) (rn (cq (cr ?_)))
         refine sQ 142 (ym (.bool ar))<|sQ 143 yn<|sQ 144 (ym (.bool (!ar))) ?_
         refine sgq 145 rfl rfl (uF_ 144) (fun fG=>(yw 0 K11 K3 (au.c 11))) ?_
         refine sgq 146 rfl rfl (uF_ 144) (fun fH=>(yw 0 K11 K3 (au.c 0) rfl (hf.g 5 0))) ?_
         obtain ⟨cd,dF,aq⟩:=bI aq
         refine sgc 147 (v:=.bool cd) (F:=au.fn) rfl rfl (uF_ 144) au (fun bo=>(yc II (CV.mono (Ih Z o cI cJ Z.XImages.length cL cM Z.ZImages.length B2 c2 o.XImages.length B3 c3 o.ZImages.length _ rfl rfl rfl rfl (au.inn0 [(false,9),(false,10),(false,1),(true,0)] rfl) (gb_inv dF bo)) (by rintro _ _ ⟨rfl,h⟩; exact ⟨rfl,au.out00 h⟩)) rfl (mc (gv_of bo) (mc (gv_of bo) mn)))) ?_
         rintro fI bp
         refine sgq 148 rfl rfl (uF_ 144) (fun dH=>(yn rfl (gv_of dH))) ?_
         refine sQ 149 yO<|sQ 150 (ym (.bool ((!ar)||(!cd)))) ?_
         refine sgq 151 rfl rfl (uF_ 150) (fun fJ=>(yd (aD b6) 0 0 K40 K23)) ?_
         refine sgq 152 rfl rfl (uF_ 150) (fun dI=>(yz 1 K29 (bp.c 8) rfl (gv_of dI))) ?_
         refine sgq 153 rfl rfl (uF_ 150) (fun dJ=>(Y_len K15 rfl (gv_of dJ))) ?_
         refine sgq 154 rfl rfl (uF_ 150) (fun fK=>(ym (vi a3))) ?_
         refine sgq 155 rfl rfl (uF_ 150) (fun ce=>(Y_ne rfl (gv_of ce) (gv_of ce))) ?_
         refine sQ 156 yO (rn ?_)
         refine cw_cond rfl (fun cN=>?_) (fun cN=>?_)
         ·skip
          have dK:=ct aq cN
          refine cq (cr ?_)
          refine sQ 4 (yg (.bool false)) (rn (ct_ ?_))
          obtain rfl:=sI dK
          obtain rfl:=sI aM
          exact e1 Tryz.results3 (bp.sN [])
         ·skip
          have dL:=cf' aq cN
          refine cw_skip ?_
          exact ⟨(sI dL),(hf.a 5 0 fn_),(bp.sel [0,1] rfl rfl)⟩
        ·skip
         have dM:=cf' dz cH
         refine cw_skip ?_
         exact ⟨(sI dM),(hf.a 5 0 fn_),(aL.sel [0,1] rfl rfl)⟩
       rintro f w ⟨rfl,cO,a5⟩
       refine cq (cr ?_)
       refine sQ 158 (yw 0 K11 K3 (a5.c 0) rfl (cO.g 5 0)) ?_
       obtain ⟨⟨a6,a7⟩,dN,aM⟩:=bI aM
       refine sc 159 rfl rfl (yc Q5 (Ov o B2 c2 o.XImages.length B3 c3 o.ZImages.length _ rfl (a5.lencap (i:=1) rfl (fm_lenn (l:=o.XImages) eN2 rfl) rfl rfl) rfl hq (a5.inn0 [(false,1),(true,0)] rfl) dN)) ?_
       rintro _ fL ⟨rfl,dO⟩
       have a8:=a5.out00 dO
       refine sQ 157 (ym (.tuple #[vi a6,.bool a7]))<|sQ 160 (ye (vi a6))<|sQ 161 (ye (.bool a7))<|sQ 26 (yg (vi a6))<|sQ 27 (yg (.bool a7)) (rn (cq (cq (cr ?_))))
       refine sQ 162 (ym (.bool a7))<|sQ 163 yn (rn ?_)
       refine cw_cond rfl (fun bq=>?_) (fun bq=>?_)
       ·skip
        have dP:=ct aM bq
        refine cq (cr ?_)
        refine sQ 4 (yg (.bool true)) (rn (ct_ ?_))
        obtain rfl:=sI dP
        exact e1 Tryz.results3 (a8.sN [])
       ·skip
        have bt:=cf' aM bq
        refine cw_skip (cq (cr ?_))
        refine sQ 165 (yd (aD b) 0 0 K22 K1 rfl (cO.g 5 0))<|sQ 166 (yz 0 K0 (a8.c 0)) ?_
        obtain ⟨⟨H,bu⟩,dQ,bt⟩:=bI bt
        refine sc 167 rfl rfl (yc Qq (QQ o.Qubits _  (a8.inn0 [] rfl) dQ)) ?_
        rintro _ fO ⟨bv,bw,bA,bB,rfl,dS⟩
        have bC:=a8.out0 dS
        let O8:Ob:=⟨bA,64,(H.ZImages.flatMap eN0),bB*3⟩
        let cP:Ob:=⟨bv,64,(H.XImages.flatMap eN0),bw*3⟩
        have bC:ST P [] _ [O0,O2,cP,O8] [O,D,u]:=bC
        let bV:List Value:=[vi H.Qubits,.slice bv H.XImages.length bw,.slice bA H.ZImages.length bB]
        refine sQ 164 (ym (.tuple #[.agg bV.toArray,.bool bu]))<|sQ 168 (ye (.agg bV.toArray))<|sQ 169 (ye (.bool bu)) ?_
        refine sS 28 (yN aU 3 bC K26) ?_
        rintro _ fP ⟨b8,rfl,dU⟩
        refine s0 (yK 4 3 0 dU K3) ?_
        rintro _ fT ⟨rfl,cg⟩
        refine sQ 29 (yg (.bool bu)) (rn (cq (cr ?_)))
        refine sQ 170 (yw 0 K11 K3 (cg.c 4)) ?_
        refine sS 30 (yN aU 3 cg K26) ?_
        rintro _ fU ⟨b9,rfl,dV⟩
        refine s0 (yK 5 3 0 dV K3) ?_
        rintro _ fV ⟨rfl,aO⟩
        let O1:Ob:=⟨aD b8,25,bV,3⟩
        let O3:Ob:=⟨aD b9,25,bV,3⟩
        have aO:ST P [] _ [O0,O2,cP,O8,O1,O3] [O,D,u]:=aO
        refine rn (cq ?_)
        let aw:Ro:=⟨B2,(o.XImages.flatMap eN0)⟩
        have gp:Org P [] [D,u] [aw]:=ST.orgOwn aO (i:=1) rfl
        have fW:o.XImages.length≤c2:=(aO.lencap (i:=1) rfl (fm_lenn (l:=o.XImages) eN2 rfl) rfl rfl)
        have bD:ST P [] _ [O0,cP,O8,O1,O3] [aw,O,D,u]:=aO.freeze (i:=1) rfl
        let ay:Ro:=⟨bv,(H.XImages.flatMap eN0)⟩
        have eZ:Org P [] [D,u] [ay]:=ST.orgOwn bD (i:=1) rfl
        have cQ:H.XImages.length≤bw:=(bD.lencap (i:=1) rfl (fm_lenn (l:=H.XImages) eN2 rfl) rfl rfl)
        have bE:ST P [] _ [O0,O8,O1,O3] [ay,aw,O,D,u]:=bD.freeze (i:=1) rfl
        let aQ:Ro:=⟨bA,(H.ZImages.flatMap eN0)⟩
        have e0:Org P [] [D,u] [aQ]:=ST.orgOwn bE (i:=1) rfl
        have cR:H.ZImages.length≤bB:=(bE.lencap (i:=1) rfl (fm_lenn (l:=H.ZImages) eN2 rfl) rfl rfl)
        have dX:ST P [] _ [O0,O1,O3] [aQ,ay,aw,O,D,u]:=bE.freeze (i:=1) rfl
        obtain ⟨z2,e4,bF⟩:=bI bt
        have dY:ST P [] _ [O0,O1,O3] [aQ,ay,aQ,ay,aw,O,D,u]:=dX.sT [0,1,0,1,2,3,4,5]
        refine cw_block ?_
        refine cw_loop (fun k f w=>∃ (k_:Int) (Qubits:Int) (XImages:List Aa) (ZImages:List Aa) (aR:Option Addr) (bH:Nat) (aT:Option Addr) (bJ:Nat),FF f [(5,pt (aD b) 0),(26,vi k_),(28,pt (aD b8) 0),(30,pt (aD b9) 0)]∧Org P [] [D,u] [⟨aR,(XImages.flatMap eN0)⟩]∧XImages.length≤bH∧Org P [] [D,u] [⟨aT,(ZImages.flatMap eN0)⟩]∧ZImages.length≤bJ∧ST P [] w [O0,O1,⟨aD b9,25,[vi Qubits,.slice aR XImages.length bH,.slice aT ZImages.length bJ],3⟩] [⟨aT,(ZImages.flatMap eN0)⟩,⟨aR,(XImages.flatMap eN0)⟩,aQ,ay,aw,O,D,u]∧whX (F5 o) k (k_,Qubits,XImages,ZImages)=some z2) fuel ⟨a6,H.Qubits,H.XImages,H.ZImages,bv,bw,bA,bB,(cO.a 5 0 (fc rfl (fc rfl (fc rfl fn_)))),eZ,(len_le rfl cQ),e0,(len_le rfl cR),(dY.sel [0,1,2] rfl rfl),e4⟩ ?_
        rintro K13 f w ⟨k_,Qubits,XImages,ZImages,aR,bH,aT,bJ,ai,gr,gs,gu,gw,aa,hL⟩
        obtain ⟨K35,y,rfl,bK,dZ⟩:=whX_go hL
        unfold F5 at bK
        refine cq (cq (cr ?_))
        refine sQ 171 (ym (vi k_) rfl (ai.g 26 1))<|sQ 172 (Y_gt rfl rfl rfl) (rn ?_)
        refine cw_cond rfl (fun bL=>?_) (fun bL=>?_)
        ·skip
         have bM:=ct bK bL
         refine cw_skip (cq (cw_block (cr ?_)))
         refine sQ 176 (yw 0 K11 K3 (aa.c 2) rfl (ai.g 30 3))<|sQ 177 (yw 0 K11 K3 (aa.c 0) rfl (ai.g 5 0)) ?_
         obtain ⟨⟨J,ch⟩,d0,bM⟩:=bI bM
         refine sc 178 rfl rfl (yc PJ (P5 (Ae.mk Qubits XImages ZImages) o aR bH XImages.length aT bJ ZImages.length B2 c2 o.XImages.length B3 c3 o.ZImages.length _ rfl rfl rfl rfl (aa.inn0 [(true,1),(true,0),(true,4),(true,5)] rfl) d0)) ?_
         rintro _ fX ⟨cT,cU,a9,bX,rfl,d1⟩
         have d2:=aa.out0 d1
         let cV:List Value:=[vi J.Qubits,.slice cT J.XImages.length cU,.slice a9 J.ZImages.length bX]
         refine sQ 175 (ym (.tuple #[.agg cV.toArray,.bool ch]))<|sQ 179 (ye (.agg cV.toArray))<|sQ 180 (ye (.bool ch)) ?_
         refine s0 (yK 2 3 0 d2 K3 rfl (ai.g 30 3)) ?_
         rintro _ fY ⟨rfl,bN⟩
         refine rn (cr ?_)
         refine sQ 173 (ym (vi k_) rfl (ai.g 26 1))<|sQ 174 zM<|sQ 26 (yg (vi (i64.wrap (k_-1)))) (rn ?_)
         obtain rfl:=sI bM
         let bY:Ro:=⟨cT,(J.XImages.flatMap eN0)⟩
         have e5:Org P [] [D,u] [bY]:=ST.orgOwn bN (i:=3) rfl
         have cW:J.XImages.length≤cU:=(bN.lencap (i:=3) rfl (fm_lenn (l:=J.XImages) eN2 rfl) rfl rfl)
         let O6:Ob:=⟨aD b9,25,cV,3⟩
         have bO:ST P [] _ [O0,O1,O6,⟨a9,64,(J.ZImages.flatMap eN0),bX*3⟩] [bY,⟨aT,(ZImages.flatMap eN0)⟩,⟨aR,(XImages.flatMap eN0)⟩,aQ,ay,aw,O,D,u]:=bN.freeze (i:=3) rfl
         have e7:Org P [] [D,u] [⟨a9,(J.ZImages.flatMap eN0)⟩]:=ST.orgOwn bO (i:=3) rfl
         have cX:J.ZImages.length≤bX:=(bO.lencap (i:=3) rfl (fm_lenn (l:=J.ZImages) eN2 rfl) rfl rfl)
         have d3:ST P [] _ [O0,O1,O6] [⟨a9,(J.ZImages.flatMap eN0)⟩,bY,⟨aT,(ZImages.flatMap eN0)⟩,⟨aR,(XImages.flatMap eN0)⟩,aQ,ay,aw,O,D,u]:=bO.freeze (i:=3) rfl
         have d4:ST P [] _ [O0,O1,O6] [⟨a9,(J.ZImages.flatMap eN0)⟩,bY,aQ,ay,aw,O,D,u]:=d3.sT [0,1,4,5,6,7,8,9]
         exact ⟨K35,Nat.lt_succ_self _,(i64.wrap (k_-1)),J.Qubits,J.XImages,J.ZImages,cT,cU,a9,bX,(ai.a 5 0 (fc rfl (ai.a 28 2 (ai.a 30 3 fn_)))),e5,(len_le rfl cW),e7,(len_le rfl cX),(d4.sel [0,1,2] rfl rfl),dZ⟩
        ·skip
         have d5:=cf' bK bL
         refine cw_exit rfl ?_
         obtain rfl:=sI d5
         obtain rfl:=sI dZ
         refine cq (cr ?_)
         refine sQ 181 (yw 0 K11 K3 (aa.c 2) rfl (ai.g 30 3))<|sQ 182 (yw 0 K11 K3 (aa.c 1) rfl (ai.g 28 2)) ?_
         obtain ⟨d6,d7,bF⟩:=bI bF
         refine sc 183 rfl rfl (yc II (Ih (Ae.mk Qubits XImages ZImages) H aR bH XImages.length aT bJ ZImages.length bv bw H.XImages.length bA bB H.ZImages.length _ rfl rfl rfl rfl (aa.inn0 [(true,1),(true,0),(true,3),(true,2)] rfl) d7)) ?_
         rintro _ fZ ⟨rfl,d8⟩
         have d9:=aa.out00 d8
         refine sQ 4 (yg (.bool d6)) (rn (ct_ ?_))
         obtain rfl:=sI bF
         exact e1 Tryz.results3 (d9.sN [])
end Go.VK
