/- Walks: each Go function returns what its Lean function says. By program. -/
import Derived.Test.YtboiaghjocmpiaaGreatLBestRoutesFa
import Derived.Test.YtboiaghjocmpiaaGreatLBestRoutesShelf
import Derived.Test.YtboiaghjocmpiaaGreatLibQ
import Derived.Test.YtboiaghjocmpiaaGreatLibU
import Derived.Test.YtboiaghjocmpiaaGreatLibX
import Derived.Test.YtboiaghjocmpiaaGreatLibZ
import Derived.Test.YtboiaghjocmpiaaGreatLibY
import Derived.Test.YtboiaghjocmpiaaGreatLibW
import Derived.Test.YtboiaghjocmpiaaGreatLBestRoutesW3
set_option linter.unusedVariables false
set_option maxRecDepth 100000
set_option maxHeartbeats 4000000
namespace Go.VK
open Go.RowKit
open Go.Proofs
open Go.IntKind
attribute [local irreducible] CW RW RA CV Y Yw Yc Ys RetOf
attribute [local irreducible] Fi A2 Ck DD AW C8 BH C4 BP E5 DQ ES EC F4 BU Ct Ge DG Eu DY EK EP E1 C6 CL Gj Hk GY Ds CC IE Bf Cr CE Gx Fg Cy Eh Fv FT EE Cg FA Cv BY DH FS AS Bg Du F3 BB Hb Ee BX DK F0 FZ Dz EV Gn Fm Gb FO DR EX E6 GP
theorem Iu (rows:Int) (cols:Int) (cell:Int→Int→Option (Ab×Bool)) (kf:Nat) (caps:Array Value) (Rf:List Ro) (w0:World) (hk:callB Tryz.prog kf=true) (hp:∀ (w:World),ST w [] w [] Rf→∀ (x:Int) (x1:Int) (y1:Ab) (y2:Bool),cell x x1=some (y1,y2)→CV Tryz.prog kf ((vi x)::(vi x1)::caps.toList).toArray w (fun v w'=>v=.tuple #[gD_ y1,.bool y2]∧ST w [] w' [] [])) (hS:ST w0 [] w0 [] (Rf)) {r_:Af} {r_1:Bool} (hF:CL rows cols cell=some (r_,r_1)) :
  CV Tryz.prog 106 #[vi rows,vi cols,.func (.func kf) #[] caps] w0 (fun v w'=>∃ (B:Option Addr) (c:Nat),v=.tuple #[gM_ r_ B c,.bool r_1]∧ST w0 [] w' [⟨B,140,(r_.Cells.flatMap Aw),c*5⟩] []):=by
 unfold CL at hF
 refine cv_of_cw 52 Tryz.func106 rfl Tryz.ntmps106 rfl ?_
 refine cq (cr ?_)
 refine sS 6 (yN kN_ 3 hS K48) ?_
 rintro _ w_ ⟨b,rfl,hS1⟩
 refine sQ 7 yu (rn (cq (cr ?_)))
 refine sQ 13 yv<|sQ 14 yv<|sQ 15 (Y_buildS (zs:=kN_) (vs:=[(0,vi rows),(1,vi cols)]) (cs:=[vi rows,vi cols,.slice none 0 0]) E7 K48 rfl (mpc rfl (mpc rfl mpn)) rfl) ?_
 refine sS 8 (yN kN_ 3 hS1 K48) ?_
 rintro _ w_1 ⟨b1,rfl,hS2⟩
 refine s0 (yK 1 3 0 hS2 K14) ?_
 rintro _ w_2 ⟨rfl,hS3⟩
 refine rn (cq (cq (cr ?_)))
 refine sQ 16 yv ?_
 obtain ⟨r_2,hc,hF⟩:=bI hF
 refine sc 17 rfl rfl (yc If (IX rows _  (hS3.inn0 [] rfl) hc)) ?_
 rintro _ w_3 ⟨rfl,hd⟩
 have hS4:=hS3.out00 hd
 refine sQ 18 yn<|sQ 19 yv ?_
 refine sgq 20 rfl rfl (uF_ 19) (fun hg=>yv) ?_
 obtain ⟨r_3,hc1,hF⟩:=bI hF
 refine sgc 21 (v:=.bool r_3) (F:=hS4.fn) rfl rfl (uF_ 19) hS4 (fun hg1=>(yc If (CV.mono (IX cols _  (hS4.inn0 [] rfl) (gb_inv hc1 hg1)) (by rintro _ _ ⟨rfl,h⟩; exact ⟨rfl,hS4.out00 h⟩)) rfl (mc (gv_of hg1) mn))) ?_
 rintro w_4 hS5
 refine sgq 22 rfl rfl (uF_ 19) (fun hg2=>(yn rfl (gv_of hg2))) ?_
 refine sQ 23 yO (rn ?_)
 refine cw_cond rfl (fun hb=>?_) (fun hb=>?_)
 ·skip
  have hF1:=ct hF hb
  refine cq (cr ?_)
  refine sQ 24 (Y_buildS (zs:=kN_) (vs:=[]) (cs:=kN_) E7 K48 rfl mpn rfl) ?_
  refine s0 (yK 0 3 0 hS5 K14) ?_
  rintro _ w_5 ⟨rfl,hS6⟩
  refine sQ 7 yu (rn (ct_ ?_))
  have hS7:=hS6.addNil 140
  obtain ⟨rfl,rfl⟩:=pr2 (sI hF1)
  exact ret2 Tryz.results106 (rX K32 K14 (hS7.c 0)) rT ⟨none,0,rfl,(hS7.sN [2])⟩
 ·skip
  have hF2:=cf' hF hb
  refine cw_skip (cq (cq (cr ?_)))
  refine sQ 25 yv<|sQ 26 yv (rn ?_)
  obtain ⟨hN,hF2⟩:=chk_inv hF2
  obtain ⟨z,hz,hF3⟩:=bI hF2
  have hS9:=hS5.addNil 140
  refine cw_block ?_
  refine cw_loop (fun k f w=>∃ (i:Nat) (Cells:List Ab) (B1:Option Addr) (c1:Nat),FF f [(1,vi cols),(2,.func (.func kf) #[] caps),(6,pt (aD b) 0),(8,pt (aD b1) 0),(25,vi rows),(26,vi (i:Int))]∧ST w0 [] w [⟨aD b,94,kN_,3⟩,⟨aD b1,94,[vi rows,vi cols,.slice B1 Cells.length c1],3⟩,⟨B1,140,(Cells.flatMap Aw),c1*5⟩] (Rf)∧i+k=rows.toNat∧forX (Gf cols cell) k i Cells=some z) rows.toNat ⟨0,[],none,0,(fc rfl (fc rfl (fc rfl (fc rfl (fc rfl (fc rfl fn_)))))),(hS9.sel [0,1,2] rfl rfl),Nat.zero_add _,hz⟩ ?_
  rintro k_ f w ⟨i,Cells,B1,c1,hf,hS8,hik,hL⟩
  refine cq (cr ?_)
  refine sQ 27 (zL rfl (hf.g 26 5) (hf.g 25 4)) (rn (cq ?_))
  refine cw_cond rfl (fun hlt=>?_) (fun hlt=>?_)
  ·skip
   have hlt1:i<rows.toNat:=by have h:=of_decide_eq_true hlt; omega
   obtain ⟨K2,rfl⟩:∃ k2,k_=k2+1:=⟨k_-1,by omega⟩
   obtain ⟨y3,hb1,hL1⟩:=forX_go hL
   unfold Gf at hb1
   refine cw_skip (cq (cw_block (cq (cr ?_))))
   refine sQ 28 (yv rfl (hf.g 26 5))<|sQ 9 yu (rn (cq (cr ?_)))
   refine sQ 29 (yv rfl (hf.g 1 0))<|sQ 30 yv (rn ?_)
   obtain ⟨hN1,hb1⟩:=chk_inv hb1
   obtain ⟨z1,hz1,hF4⟩:=bI hb1
   refine cw_block ?_
   refine cw_loop (fun k f w=>∃ (i1:Nat) (Cells1:List Ab) (B2:Option Addr) (c2:Nat),FF f [(1,vi cols),(2,.func (.func kf) #[] caps),(6,pt (aD b) 0),(8,pt (aD b1) 0),(9,vi (i:Int)),(25,vi rows),(26,vi (i:Int)),(29,vi cols),(30,vi (i1:Int))]∧ST w0 [] w [⟨aD b,94,kN_,3⟩,⟨aD b1,94,[vi rows,vi cols,.slice B2 Cells1.length c2],3⟩,⟨B2,140,(Cells1.flatMap Aw),c2*5⟩] (Rf)∧i1+k=cols.toNat∧forX (F7 cell i) k i1 Cells1=some z1) cols.toNat ⟨0,Cells,B1,c1,(hf.a 1 0 (hf.a 2 1 (hf.a 6 2 (hf.a 8 3 (fc rfl (hf.a 25 4 (hf.a 26 5 (fc rfl (fc rfl fn_))))))))),(hS8.sel [0,1,2] rfl rfl),Nat.zero_add _,hz1⟩ ?_
   rintro K11 f w ⟨i1,Cells1,B2,c2,hf1,hS10,hik1,hL2⟩
   refine cq (cr ?_)
   refine sQ 31 (zL rfl (hf1.g 30 8) (hf1.g 29 7)) (rn (cq ?_))
   refine cw_cond rfl (fun hlt2=>?_) (fun hlt2=>?_)
   ·skip
    have hlt3:i1<cols.toNat:=by have h:=of_decide_eq_true hlt2; omega
    obtain ⟨K22,rfl⟩:∃ k2,K11=k2+1:=⟨K11-1,by omega⟩
    obtain ⟨y4,hb2,hL3⟩:=forX_go hL2
    unfold F7 at hb2
    refine cw_skip (cq (cw_block (cq (cr ?_))))
    refine sQ 32 (yv rfl (hf1.g 30 8))<|sQ 10 yu (rn (cq (cr ?_)))
    refine sQ 34 (yv rfl (hf1.g 2 1))<|sQ 35 (yv rfl (hf1.g 9 4))<|sQ 36 yv ?_
    obtain ⟨⟨r_4,r_5⟩,hc2,hb2⟩:=bI hb2
    refine sc 37 rfl rfl (Yc_clos (g:=kf) (vs:=(vi (i:Int))::(vi (i1:Int))::caps.toList) hk rfl rfl (clo_args (mc rfl (mc rfl mn))) (hp _ (hS10.innS (fun _ h=>mOd (i:=0) h)) (i:Int) (i1:Int) r_4 r_5 hc2)) ?_
    rintro _ w_6 ⟨rfl,hd1⟩
    have hS11:=hS10.out00 hd1
    refine sQ 33 yv<|sQ 38 (ye (gD_ r_4))<|sQ 39 (ye (.bool r_5)) ?_
    refine sS 11 (yN kZ_ 5 hS11 K33) ?_
    rintro _ w_7 ⟨b2,rfl,hS12⟩
    refine s0 (yK 3 5 0 hS12 K6) ?_
    rintro _ w_8 ⟨rfl,hS13⟩
    refine sQ 12 yu (rn (cq (cq (cr ?_))))
    refine sQ 40 yv<|sQ 41 yn (rn ?_)
    refine cw_cond rfl (fun hb3=>?_) (fun hb3=>?_)
    ·skip
     have hF5:=ct hb2 hb3
     refine cq (cr ?_)
     refine sQ 42 (Y_buildS (zs:=kN_) (vs:=[]) (cs:=kN_) E7 K48 rfl mpn rfl) ?_
     refine s0 (yK 0 3 0 hS13 K14 rfl (hf1.g 6 2)) ?_
     rintro _ w_9 ⟨rfl,hS14⟩
     refine sQ 7 yu (rn (ct_ ?_))
     have hS15:=hS14.addNil 140
     obtain rfl:=sI hF5
     obtain rfl:=sI hL3
     obtain rfl:=sI hF4
     obtain rfl:=sI hL1
     obtain ⟨rfl,rfl⟩:=pr2 (sI hF3)
     exact ret2 Tryz.results106 (rX K32 K14 (hS15.c 0) (hf1.g 6 2)) rT ⟨none,0,rfl,(hS15.sN [4])⟩
    ·skip
     have hF6:=cf' hb2 hb3
     refine cw_skip (cr ?_)
     refine sQ 43 (yd (aD b1) 0 0 EU K98 rfl (hf1.g 8 3))<|sQ 44 (yz 2 FG (hS13.c 1))<|sQ 45 (yw 0 K17 K6 (hS13.c 3)) ?_
     refine sS 46 (yF 5 1 (kD_ r_4) 5 hS13 K78 K6 QV rfl (mpc rfl mpn)) ?_
     rintro _ w_10 ⟨b3,rfl,hS16⟩
     obtain ⟨hap,hF6⟩:=chk_inv hF6
     refine sS 47 (aP 5 40 2 Cells1 [r_4] hS16 K78 K6 QM K33 BR S0 (hS16.c 4) hap) ?_
     rintro _ w_11 ⟨B3,c3,rfl,hS17⟩
     refine sQ 48 (yd (aD b1) 0 0 EU K98 rfl (hf1.g 8 3)) ?_
     refine s0 (yS 1 1 (aD b1) 94 (.slice B3 ((Cells1++[r_4]).length) c3) [.slice B3 ((Cells1++[r_4]).length) c3] 2 [vi rows,vi cols,.slice B3 ((Cells1++[r_4]).length) c3] hS17 K98) ?_
     rintro _ w_12 ⟨rfl,hS18⟩
     refine rn (cr ?_)
     refine sQ 49 (zP rfl (hf1.g 30 8))<|sQ 30 yv (rn ?_)
     obtain rfl:=sI hF6
     exact ⟨K22,Nat.lt_succ_self _,i1+1,(Cells1++[r_4]),B3,c3,(hf1.a 1 0 (hf1.a 2 1 (hf1.a 6 2 (hf1.a 8 3 (hf1.a 9 4 (hf1.a 25 5 (hf1.a 26 6 (hf1.a 29 7 (fc (congrArg (Value.int .i64) (wr_succ hlt3 hN1)) fn_))))))))),(hS18.sel [0,1,2] rfl rfl),(by omega),hL3⟩
   ·skip
    obtain rfl:K11=0:=by have h:=of_decide_eq_false hlt2; omega
    refine cw_exit rfl ?_
    obtain rfl:=sI hL2
    refine cr ?_
    refine sQ 50 (zP rfl (hf1.g 26 6))<|sQ 26 yv (rn ?_)
    obtain rfl:=sI hF4
    exact ⟨K2,Nat.lt_succ_self _,i+1,Cells1,B2,c2,(hf1.a 1 0 (hf1.a 2 1 (hf1.a 6 2 (hf1.a 8 3 (hf1.a 25 5 (fc (congrArg (Value.int .i64) (wr_succ hlt1 hN)) fn_)))))),(hS10.sel [0,1,2] rfl rfl),(by omega),hL1⟩
  ·skip
   obtain rfl:k_=0:=by have h:=of_decide_eq_false hlt; omega
   refine cw_exit rfl ?_
   obtain rfl:=sI hL
   refine cq (cr ?_)
   refine sQ 51 (yw 0 K32 K14 (hS8.c 1) rfl (hf.g 8 3)) ?_
   refine s0 (yK 0 3 0 hS8 K14 rfl (hf.g 6 2)) ?_
   rintro _ w_13 ⟨rfl,hS19⟩
   refine sQ 7 yu (rn (ct_ ?_))
   obtain ⟨rfl,rfl⟩:=pr2 (sI hF3)
   exact ret2 Tryz.results106 (rX K32 K14 (hS19.c 0) (hf.g 6 2)) rT ⟨B1,c1,rfl,(hS19.sN [2])⟩

theorem JE (n:Int)  (w0:World)  (hS:ST w0 [] w0 [] []) {r_:Ab} (hF:Gj n=some r_) :
  CV Tryz.prog 108 #[vi n] w0 (fun v w'=>v=(gD_ r_)∧ST w0 [] w' [] []):=by
 unfold Gj at hF
 refine cv_of_cw 6 Tryz.func108 rfl Tryz.ntmps108 rfl ?_
 refine cq (cr ?_)
 refine sS 2 (yN kZ_ 5 hS K33) ?_
 rintro _ w_ ⟨b,rfl,hS1⟩
 refine rn (cq (cr ?_))
 refine sQ 3 yv<|sQ 4 (Y_buildS (zs:=[vi 0,vi 0,vi 0,vi 0]) (vs:=[(0,vi n)]) (cs:=[vi n,vi 0,vi 0,vi 0]) K79 K37 rfl (mpc rfl mpn) rfl)<|sQ 5 (Y_buildS (zs:=kZ_) (vs:=[(0,.agg #[vi n,vi 0,vi 0,vi 0])]) (cs:=[vi n,vi 0,vi 0,vi 0,vi 0]) K72 K33 rfl (mpc rfl mpn) rfl) ?_
 refine s0 (yK 0 5 0 hS1 K6) ?_
 rintro _ w_1 ⟨rfl,hS2⟩
 refine rn (ct_ ?_)
 obtain rfl:=sI hF
 exact ret1 Tryz.results108 (rX K17 K6 (hS2.c 0)) ⟨rfl,(hS2.sN [])⟩

theorem VJ (i:Int) (j:Int)  (w0:World)  (hS:ST w0 [] w0 [] []) {r_:Ab} {r_1:Bool} (hF:Hk i j=some (r_,r_1)) :
  CV Tryz.prog 107 #[vi i,vi j] w0 (fun v w'=>v=.tuple #[gD_ r_,.bool r_1]∧ST w0 [] w' [] []):=by
 unfold Hk at hF
 refine cv_of_cw 11 Tryz.func107 rfl Tryz.ntmps107 rfl ?_
 refine cq (cr ?_)
 refine sS 4 (yN kZ_ 5 hS K33) ?_
 rintro _ w_ ⟨b,rfl,hS1⟩
 refine sQ 5 yu (rn (cq (cq (cr ?_))))
 refine sQ 6 yv<|sQ 7 yv<|sQ 8 zE (rn ?_)
 refine cw_cond rfl (fun hb=>?_) (fun hb=>?_)
 ·skip
  have hF1:=ct hF hb
  refine cq (cr ?_)
  obtain ⟨r_2,hc,hF1⟩:=bI hF1
  refine sc 9 rfl rfl (yc KS (JE 1 _  (hS1.inn0 [] rfl) hc)) ?_
  rintro _ w_1 ⟨rfl,hd⟩
  have hS2:=hS1.out00 hd
  refine s0 (yK 0 5 0 hS2 K6) ?_
  rintro _ w_2 ⟨rfl,hS3⟩
  refine sQ 5 yu (rn (ct_ ?_))
  obtain ⟨rfl,rfl⟩:=pr2 (sI hF1)
  exact ret2 Tryz.results107 (rX K17 K6 (hS3.c 0)) rT ⟨rfl,(hS3.sN [])⟩
 ·skip
  have hF2:=cf' hF hb
  refine cw_skip (cq (cr ?_))
  refine sQ 10 (Y_buildS (zs:=kZ_) (vs:=[]) (cs:=kZ_) K72 K33 rfl mpn rfl) ?_
  refine s0 (yK 0 5 0 hS1 K6) ?_
  rintro _ w_3 ⟨rfl,hS4⟩
  refine sQ 5 yu (rn (ct_ ?_))
  obtain ⟨rfl,rfl⟩:=pr2 (sI hF2)
  exact ret2 Tryz.results107 (rX K17 K6 (hS4.c 0)) rT ⟨rfl,(hS4.sN [])⟩

theorem Ru (n:Int)  (w0:World)  (hS:ST w0 [] w0 [] []) {r_:Af} {r_1:Bool} (hF:GY n=some (r_,r_1)) :
  CV Tryz.prog 83 #[vi n] w0 (fun v w'=>∃ (B:Option Addr) (c:Nat),v=.tuple #[gM_ r_ B c,.bool r_1]∧ST w0 [] w' [⟨B,140,(r_.Cells.flatMap Aw),c*5⟩] []):=by
 unfold GY at hF
 refine cv_of_cw 9 Tryz.func83 rfl Tryz.ntmps83 rfl ?_
 refine cq (cr ?_)
 refine sS 2 (yN kN_ 3 hS K48) ?_
 rintro _ w_ ⟨b,rfl,hS1⟩
 refine sQ 3 yu (rn (cq (cr ?_)))
 refine sQ 4 yv<|sQ 5 yv ?_
 obtain ⟨⟨r_2,r_3⟩,hc,hF⟩:=bI hF
 refine sc 6 rfl rfl (yc Ig (Iu n n Hk 107 (#[]) [] _ Sq (fun w hw x_0 x_1 y_0 y_1 h_=>VJ x_0 x_1  w  hw h_) (hS1.inn0 [] rfl) hc)) ?_
 rintro _ w_1 ⟨B1,c1,rfl,hd⟩
 have hS2:=hS1.out0 hd
 refine sQ 7 (ye (gM_ r_2 B1 c1))<|sQ 8 (ye (.bool r_3)) ?_
 refine s0 (yK 0 3 0 hS2 K14) ?_
 rintro _ w_2 ⟨rfl,hS3⟩
 refine sQ 3 yu (rn (ct_ ?_))
 obtain ⟨rfl,rfl⟩:=pr2 (sI hF)
 exact ret2 Tryz.results83 (rX K32 K14 (hS3.c 0)) rT ⟨B1,c1,rfl,(hS3.sN [1])⟩

theorem Ie (n:Int)  (w0:World)  (hS:ST w0 [] w0 [] []) {r_:Bool} (hF:Ds n=some r_) :
  CV Tryz.prog 142 #[vi n] w0 (fun v w'=>v=.bool r_∧ST w0 [] w' [] []):=by
 unfold Ds at hF
 refine cv_of_cw 5 Tryz.func142 rfl Tryz.ntmps142 rfl ?_
 refine cq (cr ?_)
 refine sQ 2 yu (rn (cq (cr ?_)))
 refine sQ 3 yv ?_
 obtain ⟨r_1,hc,hF⟩:=bI hF
 refine sc 4 rfl rfl (yc K53 (Bm n (-1000000000) 1000000000 _  (hS.inn0 [] rfl) hc)) ?_
 rintro _ w_ ⟨rfl,hd⟩
 have hS1:=hS.out00 hd
 refine sQ 2 yu (rn (ct_ ?_))
 obtain rfl:=sI hF
 exact e1 Tryz.results142 (hS1.sN [])

theorem GW (x:Aa)  (w0:World)  (hS:ST w0 [] w0 [] []) {r_:Bool} (hF:CC x=some r_) :
  CV Tryz.prog 135 #[gR_ x] w0 (fun v w'=>v=.bool r_∧ST w0 [] w' [] []):=by
 unfold CC at hF
 refine cv_of_cw 21 Tryz.func135 rfl Tryz.ntmps135 rfl ?_
 refine cq (cr ?_)
 refine sS 1 (yV (kR_ x) 4 hS) ?_
 rintro _ w_ ⟨b,rfl,hS1⟩
 refine sQ 2 yu (rn (cq (cr ?_)))
 refine sQ 3 (yd (aD b) 0 0 K58 K0)<|sQ 4 (yz 0 K1 (hS1.c 0)) ?_
 obtain ⟨r_1,hc,hF⟩:=bI hF
 refine sc 5 rfl rfl (yc Je (Ie x.A _  (hS1.inn0 [] rfl) hc)) ?_
 rintro _ w_1 ⟨rfl,hd⟩
 have hS2:=hS1.out00 hd
 refine sQ 6 yv ?_
 refine sgq 7 rfl rfl (uT_ 6) (fun hg=>(yd (aD b) 0 0 K63 K0)) ?_
 refine sgq 8 rfl rfl (uT_ 6) (fun hg1=>(yz 1 K1 (hS2.c 0) rfl (gv_of hg1))) ?_
 obtain ⟨r_2,hc1,hF⟩:=bI hF
 refine sgc 9 (v:=.bool r_2) (F:=hS2.fn) rfl rfl (uT_ 6) hS2 (fun hg2=>(yc Je (CV.mono (Ie x.B _  (hS2.inn0 [] rfl) (gb_inv hc1 hg2)) (by rintro _ _ ⟨rfl,h⟩; exact ⟨rfl,hS2.out00 h⟩)) rfl (mc (gv_of hg2) mn))) ?_
 rintro w_2 hS3
 refine sQ 10 yA<|sQ 11 yv ?_
 refine sgq 12 rfl rfl (uT_ 11) (fun hg3=>(yd (aD b) 0 0 K64 K0)) ?_
 refine sgq 13 rfl rfl (uT_ 11) (fun hg4=>(yz 2 K1 (hS3.c 0) rfl (gv_of hg4))) ?_
 obtain ⟨r_3,hc2,hF⟩:=bI hF
 refine sgc 14 (v:=.bool r_3) (F:=hS3.fn) rfl rfl (uT_ 11) hS3 (fun hg5=>(yc Je (CV.mono (Ie x.C _  (hS3.inn0 [] rfl) (gb_inv hc2 hg5)) (by rintro _ _ ⟨rfl,h⟩; exact ⟨rfl,hS3.out00 h⟩)) rfl (mc (gv_of hg5) mn))) ?_
 rintro w_3 hS4
 refine sQ 15 yA<|sQ 16 yv ?_
 refine sgq 17 rfl rfl (uT_ 16) (fun hg6=>(yd (aD b) 0 0 K65 K0)) ?_
 refine sgq 18 rfl rfl (uT_ 16) (fun hg7=>(yz 3 K1 (hS4.c 0) rfl (gv_of hg7))) ?_
 obtain ⟨r_4,hc3,hF⟩:=bI hF
 refine sgc 19 (v:=.bool r_4) (F:=hS4.fn) rfl rfl (uT_ 16) hS4 (fun hg8=>(yc Je (CV.mono (Ie x.D _  (hS4.inn0 [] rfl) (gb_inv hc3 hg8)) (by rintro _ _ ⟨rfl,h⟩; exact ⟨rfl,hS4.out00 h⟩)) rfl (mc (gv_of hg8) mn))) ?_
 rintro w_4 hS5
 refine sQ 20 yA<|sQ 2 yu (rn (ct_ ?_))
 obtain rfl:=sI hF
 exact e1 Tryz.results135 (hS5.sN [])

theorem Vq (x:Aa) (k_:Int)  (w0:World)  (hS:ST w0 [] w0 [] []) {r_:Aa} {r_1:Bool} (hF:IE x k_=some (r_,r_1)) :
  CV Tryz.prog 118 #[gR_ x,vi k_] w0 (fun v w'=>v=.tuple #[gR_ r_,.bool r_1]∧ST w0 [] w' [] []):=by
 unfold IE at hF
 refine cv_of_cw 33 Tryz.func118 rfl Tryz.ntmps118 rfl ?_
 refine cq (cr ?_)
 refine sS 2 (yV (kR_ x) 4 hS) ?_
 rintro _ w_ ⟨b,rfl,hS1⟩
 let V0:List Value:=[vi 0,vi 0,vi 0,vi 0]
 refine sS 4 (yN V0 4 hS1 K37) ?_
 rintro _ w_1 ⟨b1,rfl,hS2⟩
 refine sQ 5 yu (rn (cq (cq (cr ?_))))
 refine sQ 6 yv ?_
 obtain ⟨r_2,hc,hF⟩:=bI hF
 refine sc 7 rfl rfl (yc K53 (Bm k_ (-1000) 1000 _  (hS2.inn0 [] rfl) hc)) ?_
 rintro _ w_2 ⟨rfl,hd⟩
 have hS3:=hS2.out00 hd
 refine sQ 8 yn<|sQ 9 yv ?_
 refine sgq 10 rfl rfl (uF_ 9) (fun hg=>(yw 0 K18 K9 (hS3.c 0))) ?_
 obtain ⟨r_3,hc1,hF⟩:=bI hF
 refine sgc 11 (v:=.bool r_3) (F:=hS3.fn) rfl rfl (uF_ 9) hS3 (fun hg1=>(yc Hz (CV.mono (GW x _  (hS3.inn0 [] rfl) (gb_inv hc1 hg1)) (by rintro _ _ ⟨rfl,h⟩; exact ⟨rfl,hS3.out00 h⟩)) rfl (mc (gv_of hg1) mn))) ?_
 rintro w_3 hS4
 refine sgq 12 rfl rfl (uF_ 9) (fun hg2=>(yn rfl (gv_of hg2))) ?_
 refine sQ 13 yO (rn ?_)
 refine cw_cond rfl (fun hb=>?_) (fun hb=>?_)
 ·skip
  have hF1:=ct hF hb
  refine cq (cr ?_)
  refine sQ 14 (Y_buildS (zs:=V0) (vs:=[]) (cs:=V0) K79 K37 rfl mpn rfl) ?_
  refine s0 (yK 1 4 0 hS4 K9) ?_
  rintro _ w_4 ⟨rfl,hS5⟩
  refine sQ 5 yu (rn (ct_ ?_))
  obtain ⟨rfl,rfl⟩:=pr2 (sI hF1)
  exact ret2 Tryz.results118 (rX K18 K9 (hS5.c 1)) rT ⟨rfl,(hS5.sN [])⟩
 ·skip
  have hF2:=cf' hF hb
  refine cw_skip (cq (cq (cr ?_)))
  refine sQ 15 yv<|sQ 16 (Y_rem (k:=.i64) (a:=k_) (b:=8) rfl rfl rfl (by decide))<|sQ 17 zP<|sQ 18 (Y_rem (k:=.i64) (a:=(i64.wrap ((Int.tmod k_ 8)+8))) (b:=8) rfl rfl rfl (by decide))<|sQ 19 yv (rn ?_)
  obtain ⟨hN,hF2⟩:=chk_inv hF2
  obtain ⟨z,hz,hF3⟩:=bI hF2
  refine cw_block ?_
  refine cw_loop (fun k f w=>∃ (i:Nat) (A:Int) (B:Int) (C:Int) (D:Int),FF f [(2,pt (aD b) 0),(4,pt (aD b1) 0),(18,vi (Int.tmod (i64.wrap ((Int.tmod k_ 8)+8)) 8)),(19,vi (i:Int))]∧ST w0 [] w [⟨aD b,138,[vi A,vi B,vi C,vi D],4⟩,⟨aD b1,138,V0,4⟩] []∧i+k=(Int.tmod (i64.wrap ((Int.tmod k_ 8)+8)) 8).toNat∧forN Lj k i (A,B,C,D)=some z) ((Int.tmod (i64.wrap ((Int.tmod k_ 8)+8)) 8).toNat) ⟨0,x.A,x.B,x.C,x.D,(fc rfl (fc rfl (fc rfl (fc rfl fn_)))),(hS4.sel [0,1] rfl rfl),Nat.zero_add _,hz⟩ ?_
  rintro K2 f w ⟨i,A,B,C,D,hf,hS6,hik,hL⟩
  refine cq (cr ?_)
  refine sQ 20 (zL rfl (hf.g 19 3) (hf.g 18 2)) (rn (cq ?_))
  refine cw_cond rfl (fun hlt=>?_) (fun hlt=>?_)
  ·skip
   have hlt1:i<(Int.tmod (i64.wrap ((Int.tmod k_ 8)+8)) 8).toNat:=by have h:=of_decide_eq_true hlt; omega
   obtain ⟨K11,rfl⟩:∃ k2,K2=k2+1:=⟨K2-1,by omega⟩
   obtain ⟨y,hb1,hL1⟩:=forN_go hL
   unfold Lj at hb1
   refine cw_skip (cq (cw_block (cr ?_)))
   refine sQ 21 (yd (aD b) 0 0 K65 K0 rfl (hf.g 2 0))<|sQ 22 (yz 3 K1 (hS6.c 0))<|sQ 23 (Y_neg (k:=.i64) (a:=D) rfl rfl)<|sQ 24 (yd (aD b) 0 0 K58 K0 rfl (hf.g 2 0))<|sQ 25 (yz 0 K1 (hS6.c 0))<|sQ 26 (yd (aD b) 0 0 K63 K0 rfl (hf.g 2 0)) ?_
   refine sQ 27 (yz 1 K1 (hS6.c 0))<|sQ 28 (yd (aD b) 0 0 K64 K0 rfl (hf.g 2 0))<|sQ 29 (yz 2 K1 (hS6.c 0))<|sQ 30 (Y_buildS (zs:=V0) (vs:=[(0,vi (i64.wrap (-D))),(1,vi A),(2,vi B),(3,vi C)]) (cs:=[vi (i64.wrap (-D)),vi A,vi B,vi C]) K79 K37 rfl (mpc rfl (mpc rfl (mpc rfl (mpc rfl mpn)))) rfl) ?_
   refine s0 (yK 0 4 0 hS6 K9 rfl (hf.g 2 0)) ?_
   rintro _ w_5 ⟨rfl,hS7⟩
   refine rn (cr ?_)
   refine sQ 31 (zP rfl (hf.g 19 3))<|sQ 19 yv (rn ?_)
   obtain rfl:=sI hb1
   exact ⟨K11,Nat.lt_succ_self _,i+1,(i64.wrap (-D)),A,B,C,(hf.a 2 0 (hf.a 4 1 (hf.a 18 2 (fc (congrArg (Value.int .i64) (wr_succ hlt1 hN)) fn_)))),(hS7.sel [0,1] rfl rfl),(by omega),hL1⟩
  ·skip
   obtain rfl:K2=0:=by have h:=of_decide_eq_false hlt; omega
   refine cw_exit rfl ?_
   obtain rfl:=sI hL
   refine cq (cr ?_)
   refine sQ 32 (yw 0 K18 K9 (hS6.c 0) rfl (hf.g 2 0)) ?_
   refine s0 (yK 1 4 0 hS6 K9 rfl (hf.g 4 1)) ?_
   rintro _ w_6 ⟨rfl,hS8⟩
   refine sQ 5 yu (rn (ct_ ?_))
   obtain ⟨rfl,rfl⟩:=pr2 (sI hF3)
   exact ret2 Tryz.results118 (rX K18 K9 (hS8.c 1) (hf.g 4 1)) rT ⟨rfl,(hS8.sN [])⟩

theorem G6 (k_:Int)  (w0:World)  (hS:ST w0 [] w0 [] []) {r_:Ab} (hF:Bf k_=some r_) :
  CV Tryz.prog 87 #[vi k_] w0 (fun v w'=>v=(gD_ r_)∧ST w0 [] w' [] []):=by
 unfold Bf at hF
 refine cv_of_cw 13 Tryz.func87 rfl Tryz.ntmps87 rfl ?_
 refine cq (cr ?_)
 refine sS 2 (yN kZ_ 5 hS K33) ?_
 rintro _ w_ ⟨b,rfl,hS1⟩
 refine rn (cq (cr ?_))
 refine sQ 6 (Y_buildS (zs:=[vi 0,vi 0,vi 0,vi 0]) (vs:=[(0,vi 1)]) (cs:=[vi 1,vi 0,vi 0,vi 0]) K79 K37 rfl (mpc rfl mpn) rfl)<|sQ 7 yv ?_
 obtain ⟨⟨r_1,r_2⟩,hc,hF⟩:=bI hF
 refine sc 8 rfl rfl (yc Uo (Vq (Aa.mk 1 0 0 0) k_ _  (hS1.inn0 [] rfl) hc)) ?_
 rintro _ w_1 ⟨rfl,hd⟩
 have hS2:=hS1.out00 hd
 refine sQ 5 yv<|sQ 9 (ye (gR_ r_1))<|sQ 10 (ye (.bool r_2)) ?_
 refine sS 3 (yN [vi 0,vi 0,vi 0,vi 0] 4 hS2 K37) ?_
 rintro _ w_2 ⟨b1,rfl,hS3⟩
 refine s0 (yK 1 4 0 hS3 K9) ?_
 rintro _ w_3 ⟨rfl,hS4⟩
 refine sQ 4 yu (rn (cq (cr ?_)))
 refine sQ 11 (yw 0 K18 K9 (hS4.c 1))<|sQ 12 (Y_buildS (zs:=kZ_) (vs:=[(0,gR_ r_1)]) (cs:=[vi r_1.A,vi r_1.B,vi r_1.C,vi r_1.D,vi 0]) K72 K33 rfl (mpc rfl mpn) rfl) ?_
 refine s0 (yK 0 5 0 hS4 K6) ?_
 rintro _ w_4 ⟨rfl,hS5⟩
 refine rn (ct_ ?_)
 obtain rfl:=sI hF
 exact ret1 Tryz.results87 (rX K17 K6 (hS5.c 0)) ⟨rfl,(hS5.sN [])⟩

theorem FK (n:Int) (state:Int) (q:Int)  (w0:World)  (hS:ST w0 [] w0 [] []) {r_:Int} (hF:Cr n state q=some r_) :
  CV Tryz.prog 129 #[vi n,vi state,vi q] w0 (fun v w'=>v=vi r_∧ST w0 [] w' [] []):=by
 unfold Cr at hF
 refine cv_of_cw 14 Tryz.func129 rfl Tryz.ntmps129 rfl ?_
 refine cq (cr ?_)
 refine sQ 6 yu (rn (cq (cr ?_)))
 refine sQ 7 yv<|sQ 8 yv<|sQ 9 zM<|sQ 10 yv<|sQ 11 zM ?_
 obtain ⟨hsh,hF⟩:=chk_inv hF
 refine sQ 12 (Y_shr (k:=.i64) (a:=state) (k':=.i64) (b:=(i64.wrap ((i64.wrap (n-1))-q))) rfl rfl rfl hsh)<|sQ 13 (Y_band (k:=.i64) (a:=(shrK .i64 state (i64.wrap ((i64.wrap (n-1))-q)))) (b:=1) rfl rfl rfl)<|sQ 6 yu (rn (ct_ ?_))
 obtain rfl:=sI hF
 exact e1 Tryz.results129 (hS.sN [])

theorem Im (n:Int) (state:Int) (q:Int)  (w0:World)  (hS:ST w0 [] w0 [] []) {r_:Int} (hF:CE n state q=some r_) :
  CV Tryz.prog 130 #[vi n,vi state,vi q] w0 (fun v w'=>v=vi r_∧ST w0 [] w' [] []):=by
 unfold CE at hF
 refine cv_of_cw 14 Tryz.func130 rfl Tryz.ntmps130 rfl ?_
 refine cq (cr ?_)
 refine sQ 6 yu (rn (cq (cr ?_)))
 refine sQ 7 yv<|sQ 8 yv<|sQ 9 zM<|sQ 10 yv<|sQ 11 zM ?_
 obtain ⟨hsh,hF⟩:=chk_inv hF
 refine sQ 12 (Y_shl (k:=.i64) (a:=1) (k':=.i64) (b:=(i64.wrap ((i64.wrap (n-1))-q))) rfl rfl rfl hsh)<|sQ 13 (Y_bxor (k:=.i64) (a:=state) (b:=(shlK .i64 1 (i64.wrap ((i64.wrap (n-1))-q)))) rfl rfl rfl)<|sQ 6 yu (rn (ct_ ?_))
 obtain rfl:=sI hF
 exact e1 Tryz.results130 (hS.sN [])

theorem Vj (n:Int) (g:Ac) (state:Int)  (w0:World)  (hS:ST w0 [] w0 [] []) {r_:Int} (hF:Gx n g state=some r_) :
  CV Tryz.prog 128 #[vi n,.agg #[vi g.Kind,vi g.A,vi g.B],vi state] w0 (fun v w'=>v=vi r_∧ST w0 [] w' [] []):=by
 unfold Gx at hF
 refine cv_of_cw 51 Tryz.func128 rfl Tryz.ntmps128 rfl ?_
 refine cq (cr ?_)
 refine sS 4 (yV [vi g.Kind,vi g.A,vi g.B] 3 hS) ?_
 rintro _ w_ ⟨b,rfl,hS1⟩
 refine sQ 6 yu (rn (cq ?_))
 obtain ⟨r_1,hc,hF⟩:=bI hF
 obtain ⟨r_2,hc1,hF⟩:=bI hF
 refine ra_start (hS1.se [0]).fn (by kernel_rfl) ?_
 have hS4:=hS1.drew
 have hQ0:=hS4.se [0]
 refine rq 0 9 rfl hQ0 (fun _ q=>yv)<|rq 1 10 rfl hQ0 (fun _ q=>yv)<|rq 2 11 rfl hQ0 (fun _ q=>(yd (aD b) 0 0 K39 K0))<|rq 3 12 rfl hQ0 (fun _ q=>(yz 1 K1 (ST.c q 0)))<|rq 5 14 rfl hQ0 (fun _ q=>yv) ?_
 refine rq 6 15 rfl hQ0 (fun _ q=>yv)<|rq 7 16 rfl hQ0 (fun _ q=>(yd (aD b) 0 0 K43 K0))<|rq 8 17 rfl hQ0 (fun _ q=>(yz 2 K1 (ST.c q 0))) ?_
 refine rA [4] ?_
 refine rC 13 4 rfl (yc EZ (FK n state g.A _  (hS4.inn0 [] rfl) hc)) ?_ aN
 rintro _ w_1 ⟨rfl,hd⟩
 have hS5:=hS4.out00 hd
 refine ⟨(hS5.se [0]),?_⟩
 refine rA [9] ?_
 refine rC 18 9 rfl (yc EZ (FK n state g.B _  (hS5.inn0 [] rfl) hc1)) ?_ aN
 rintro _ w_2 ⟨rfl,hd1⟩
 have hS6:=hS5.out00 hd1
 have hQ1:=hS6.se [0]
 refine ⟨hQ1,?_⟩
 refine rq 10 7 rfl hQ1 (fun _ q=>yu)<|rq 11 8 rfl hQ1 (fun _ q=>yu) ?_
 refine ra_done (by kernel_rfl) ?_
 refine cq (cw_block (cq (cr ?_)))
 refine sQ 20 (yd (aD b) 0 0 K38 K0)<|sQ 21 (yz 0 K1 (hS6.c 0))<|sQ 22 zE<|sQ 23 yv ?_
 refine sgq 24 rfl rfl (uT_ 23) (fun hg=>yv) ?_
 refine sgq 25 rfl rfl (uT_ 23) (fun hg1=>(zE rfl (gv_of hg1))) ?_
 refine sQ 26 yA<|sQ 19 yu (rn ?_)
 refine cw_cond rfl (fun hb=>?_) (fun hb=>?_)
 ·skip
  have hF1:=ct hF hb
  refine cq (cr ?_)
  refine sQ 27 yv<|sQ 28 yv<|sQ 29 (yd (aD b) 0 0 K43 K0)<|sQ 30 (yz 2 K1 (hS6.c 0)) ?_
  obtain ⟨r_3,hc2,hF1⟩:=bI hF1
  refine sc 31 rfl rfl (yc Iw (Im n state g.B _  (hS6.inn0 [] rfl) hc2)) ?_
  rintro _ w_3 ⟨rfl,hd2⟩
  have hS7:=hS6.out00 hd2
  refine sQ 6 yu (rn (ct_ ?_))
  obtain rfl:=sI hF1
  exact e1 Tryz.results128 (hS7.sN [])
 ·skip
  have hF2:=cf' hF hb
  refine cq (cr ?_)
  refine sQ 33 (yd (aD b) 0 0 K38 K0)<|sQ 34 (yz 0 K1 (hS6.c 0))<|sQ 35 zE<|sQ 36 yv ?_
  refine sgq 37 rfl rfl (uT_ 36) (fun hg2=>yv) ?_
  refine sgq 38 rfl rfl (uT_ 36) (fun hg3=>yv) ?_
  refine sgq 39 rfl rfl (uT_ 36) (fun hg4=>(Y_ne rfl (gv_of hg4) (gv_of hg4))) ?_
  refine sQ 40 yA<|sQ 32 yu (rn ?_)
  refine cw_cond rfl (fun hb1=>?_) (fun hb1=>?_)
  ·skip
   have hF3:=ct hF2 hb1
   refine cq ?_
   obtain ⟨r_4,hc3,hF3⟩:=bI hF3
   obtain ⟨r_5,hc4,hF3⟩:=bI hF3
   refine ra_start hQ1.fn (by kernel_rfl) ?_
   have hS10:=hS6.drew
   have hQ2:=hS10.se [0]
   refine rq 0 41 rfl hQ2 (fun _ q=>yv)<|rq 1 42 rfl hQ2 (fun _ q=>yv)<|rq 2 43 rfl hQ2 (fun _ q=>yv)<|rq 3 44 rfl hQ2 (fun _ q=>(yd (aD b) 0 0 K39 K0))<|rq 4 45 rfl hQ2 (fun _ q=>(yz 1 K1 (ST.c q 0))) ?_
   refine rq 6 47 rfl hQ2 (fun _ q=>(yd (aD b) 0 0 K43 K0))<|rq 7 48 rfl hQ2 (fun _ q=>(yz 2 K1 (ST.c q 0))) ?_
   refine rA [5] ?_
   refine rC 46 5 rfl (yc Iw (Im n state g.A _  (hS10.inn0 [] rfl) hc3)) ?_ aN
   rintro _ w_4 ⟨rfl,hd3⟩
   have hS11:=hS10.out00 hd3
   refine ⟨(hS11.se [0]),?_⟩
   refine rA [8] ?_
   refine rC 49 8 rfl (yc Iw (Im n r_4 g.B _  (hS11.inn0 [] rfl) hc4)) ?_ aN
   rintro _ w_5 ⟨rfl,hd4⟩
   have hS12:=hS11.out00 hd4
   refine ⟨(hS12.se [0]),?_⟩
   refine rq 9 6 rfl (hS12.se [0]) (fun _ q=>yu) ?_
   refine ra_done (by kernel_rfl) ?_
   refine ct_ ?_
   obtain rfl:=sI hF3
   exact e1 Tryz.results128 (hS12.sN [])
  ·skip
   have hF4:=cf' hF2 hb1
   refine cw_skip (cq (cr ?_))
   refine sQ 50 yv<|sQ 6 yu (rn (ct_ ?_))
   obtain rfl:=sI hF4
   exact e1 Tryz.results128 (hS6.sN [])

theorem QY (kind:Int) (i:Int) (j:Int)  (w0:World)  (hS:ST w0 [] w0 [] []) {r_:Ab} (hF:Fg kind i j=some r_) :
  CV Tryz.prog 131 #[vi kind,vi i,vi j] w0 (fun v w'=>v=(gD_ r_)∧ST w0 [] w' [] []):=by
 unfold Fg at hF
 refine cv_of_cw 67 Tryz.func131 rfl Tryz.ntmps131 rfl ?_
 refine cq (cr ?_)
 refine sS 6 (yN kZ_ 5 hS K33) ?_
 rintro _ w_ ⟨b,rfl,hS1⟩
 refine rn (cq (cr ?_))
 refine sQ 9 (Y_buildS (zs:=[vi 0,vi 0,vi 0,vi 0]) (vs:=[(0,vi 1)]) (cs:=[vi 1,vi 0,vi 0,vi 0]) K79 K37 rfl (mpc rfl mpn) rfl)<|sQ 10 (Y_buildS (zs:=kZ_) (vs:=[(0,.agg #[vi 1,vi 0,vi 0,vi 0]),(1,vi 1)]) (cs:=[vi 1,vi 0,vi 0,vi 0,vi 1]) K72 K33 rfl (mpc rfl (mpc rfl mpn)) rfl) ?_
 refine sS 7 (yN kZ_ 5 hS1 K33) ?_
 rintro _ w_1 ⟨b1,rfl,hS2⟩
 refine s0 (yK 1 5 0 hS2 K6) ?_
 rintro _ w_2 ⟨rfl,hS3⟩
 refine rn (cq (cr ?_))
 refine sS 11 (Ys_mkMap (T:=184) hS3 rfl) ?_
 rintro _ w_3 ⟨g,rfl,hS4⟩
 refine s0 (Ys_mapIns (kE:=(Value.int .i64)) (vE:=(Value.int .i64)) (l:=([]:List (Int×Int))) (a:=4) (b:=4) (g:=g) (i:=2) hS4 (keyInt K29) Gk rfl rfl rfl rfl rfl rfl) ?_
 rintro _ w_4 ⟨rfl,hS5⟩
 refine s0 (Ys_mapIns (kE:=(Value.int .i64)) (vE:=(Value.int .i64)) (l:=(mput ([]:List (Int×Int)) 4 4)) (a:=5) (b:=2) (g:=g) (i:=2) hS5 (keyInt K29) Gk rfl rfl rfl rfl rfl rfl) ?_
 rintro _ w_5 ⟨rfl,hS6⟩
 refine s0 (Ys_mapIns (kE:=(Value.int .i64)) (vE:=(Value.int .i64)) (l:=(mput (mput ([]:List (Int×Int)) 4 4) 5 2)) (a:=6) (b:=6) (g:=g) (i:=2) hS6 (keyInt K29) Gk rfl rfl rfl rfl rfl rfl) ?_
 rintro _ w_6 ⟨rfl,hS7⟩
 refine s0 (Ys_mapIns (kE:=(Value.int .i64)) (vE:=(Value.int .i64)) (l:=(mput (mput (mput ([]:List (Int×Int)) 4 4) 5 2) 6 6)) (a:=7) (b:=1) (g:=g) (i:=2) hS7 (keyInt K29) Gk rfl rfl rfl rfl rfl rfl) ?_
 rintro _ w_7 ⟨rfl,hS8⟩
 refine s0 (Ys_mapIns (kE:=(Value.int .i64)) (vE:=(Value.int .i64)) (l:=(mput (mput (mput (mput ([]:List (Int×Int)) 4 4) 5 2) 6 6) 7 1)) (a:=8) (b:=7) (g:=g) (i:=2) hS8 (keyInt K29) Gk rfl rfl rfl rfl rfl rfl) ?_
 rintro _ w_8 ⟨rfl,hS9⟩
 refine sQ 12 (ym (.map (some g)))<|sQ 8 (yg (.map (some g))) (rn (cq (cw_block (cq (cr ?_)))))
 refine sQ 14 (ym (vi kind))<|sQ 15 zE<|sQ 13 (yg (.bool (kind==1))) (rn ?_)
 refine cw_cond rfl (fun hb=>?_) (fun hb=>?_)
 ·skip
  have hF1:=ct hF hb
  refine cq ?_
  obtain ⟨z,hz,hF2⟩:=bI hF1
  refine cw_mid (fun f w=>∃ (A:Int),A=z∧FF f [(6,pt (aD b) 0),(7,pt (aD b1) 0)]∧ST w0 [] w [⟨aD b,140,kZ_,5⟩,⟨aD b1,140,[vi A,vi 0,vi 0,vi 0,vi 1],5⟩] []) ?_ ?_
  ·skip
   refine cq (cr ?_)
   refine sQ 16 (ym (vi i))<|sQ 17 zE<|sQ 18 (ym (.bool (i==1))) ?_
   refine sgq 19 rfl rfl (uT_ 18) (fun hg=>(ym (vi j))) ?_
   refine sgq 20 rfl rfl (uT_ 18) (fun hg1=>(zE rfl (gv_of hg1))) ?_
   refine sQ 21 yA (rn ?_)
   refine cw_cond rfl (fun hb1=>?_) (fun hb1=>?_)
   ·skip
    have hF3:=ct hz hb1
    refine cr ?_
    refine sQ 22 (yd (aD b1) 0 3 FI K9)<|sQ 23 (yd (aD b1) 0 0 K58 K0) ?_
    refine s0 (yS 1 1 (aD b1) 140 (vi (-1)) [vi (-1)] 0 [vi (-1),vi 0,vi 0,vi 0,vi 1] hS9 K0) ?_
    rintro _ w_9 ⟨rfl,hS11⟩
    refine rn ?_
    exact ⟨(-1),(sI hF3),(fc rfl (fc rfl fn_)),(hS11.sel [0,1] rfl rfl)⟩
   ·skip
    have hF4:=cf' hz hb1
    refine cw_skip ?_
    exact ⟨1,(sI hF4),(fc rfl (fc rfl fn_)),(hS9.sel [0,1] rfl rfl)⟩
  rintro f w ⟨A,rfl,hf,hS10⟩
  refine cq (cr ?_)
  refine sQ 24 (yw 0 K17 K6 (hS10.c 1) rfl (hf.g 7 1)) ?_
  refine s0 (yK 0 5 0 hS10 K6 rfl (hf.g 6 0)) ?_
  rintro _ w_10 ⟨rfl,hS12⟩
  refine rn (ct_ ?_)
  obtain rfl:=sI hF2
  exact ret1 Tryz.results131 (rX K17 K6 (hS12.c 0) (hf.g 6 0)) ⟨rfl,(hS12.sN [])⟩
 ·skip
  have hF5:=cf' hF hb
  refine cq (cr ?_)
  refine sQ 26 (ym (vi kind))<|sQ 27 zE<|sQ 28 (ym (.bool (kind==2))) ?_
  refine sgq 29 rfl rfl (uT_ 28) (fun hg2=>(ym (vi i))) ?_
  refine sgq 30 rfl rfl (uT_ 28) (fun hg3=>(ym (vi j))) ?_
  refine sgq 31 rfl rfl (uT_ 28) (fun hg4=>(Y_ne rfl (gv_of hg4) (gv_of hg4))) ?_
  refine sQ 32 yA<|sQ 25 (yg (.bool ((kind==2)&&(i != j)))) (rn ?_)
  refine cw_cond rfl (fun hb2=>?_) (fun hb2=>?_)
  ·skip
   have hF6:=ct hF5 hb2
   refine cq (cr ?_)
   obtain ⟨r_1,hc,hF6⟩:=bI hF6
   refine sc 33 rfl rfl (yc KS (JE 1 _  (hS9.inn0 [] rfl) hc)) ?_
   rintro _ w_11 ⟨rfl,hd⟩
   have hS13:=hS9.out00 hd
   refine s0 (yK 0 5 0 hS13 K6) ?_
   rintro _ w_12 ⟨rfl,hS14⟩
   refine rn (ct_ ?_)
   obtain rfl:=sI hF6
   exact ret1 Tryz.results131 (rX K17 K6 (hS14.c 0)) ⟨rfl,(hS14.sN [])⟩
  ·skip
   have hF7:=cf' hF5 hb2
   refine cq (cr ?_)
   refine sQ 35 (ym (vi kind))<|sQ 36 zE<|sQ 37 (ym (.bool (kind==3))) ?_
   refine sgq 38 rfl rfl (uT_ 37) (fun hg5=>(ym (vi i))) ?_
   refine sgq 39 rfl rfl (uT_ 37) (fun hg6=>(ym (vi j))) ?_
   refine sgq 40 rfl rfl (uT_ 37) (fun hg7=>(Y_ne rfl (gv_of hg7) (gv_of hg7))) ?_
   refine sQ 41 yA<|sQ 34 (yg (.bool ((kind==3)&&(i != j)))) (rn ?_)
   refine cw_cond rfl (fun hb3=>?_) (fun hb3=>?_)
   ·skip
    have hF8:=ct hF7 hb3
    refine cq (cr ?_)
    refine sQ 42 (ym (vi j))<|sQ 43 zX<|sQ 44 zP ?_
    obtain ⟨r_2,hc1,hF8⟩:=bI hF8
    refine sc 45 rfl rfl (yc HJ (G6 (i64.wrap (2+(i64.wrap (4*j)))) _  (hS9.inn0 [] rfl) hc1)) ?_
    rintro _ w_13 ⟨rfl,hd1⟩
    have hS15:=hS9.out00 hd1
    refine s0 (yK 0 5 0 hS15 K6) ?_
    rintro _ w_14 ⟨rfl,hS16⟩
    refine rn (ct_ ?_)
    obtain rfl:=sI hF8
    exact ret1 Tryz.results131 (rX K17 K6 (hS16.c 0)) ⟨rfl,(hS16.sN [])⟩
   ·skip
    have hF9:=cf' hF7 hb3
    refine cq (cr ?_)
    refine sQ 47 (ym (vi kind))<|sQ 48 zE<|sQ 49 (ym (.bool (kind==2))) ?_
    refine sgq 50 rfl rfl (uF_ 49) (fun hg8=>(ym (vi kind))) ?_
    refine sgq 51 rfl rfl (uF_ 49) (fun hg9=>(zE rfl (gv_of hg9))) ?_
    refine sQ 52 yO<|sQ 53 (ym (.bool ((kind==2)||(kind==3)))) ?_
    refine sgq 54 rfl rfl (uF_ 53) (fun hg10=>(ym (vi i))) ?_
    refine sgq 55 rfl rfl (uF_ 53) (fun hg11=>(ym (vi j))) ?_
    refine sgq 56 rfl rfl (uF_ 53) (fun hg12=>(Y_ne rfl (gv_of hg12) (gv_of hg12))) ?_
    refine sQ 57 yO<|sQ 46 (yg (.bool (((kind==2)||(kind==3))||(i != j)))) (rn ?_)
    refine cw_cond rfl (fun hb4=>?_) (fun hb4=>?_)
    ·skip
     have hF10:=ct hF9 hb4
     refine cq (cr ?_)
     refine sQ 58 (Y_buildS (zs:=kZ_) (vs:=[]) (cs:=kZ_) K72 K33 rfl mpn rfl) ?_
     refine s0 (yK 0 5 0 hS9 K6) ?_
     rintro _ w_15 ⟨rfl,hS17⟩
     refine rn (ct_ ?_)
     obtain rfl:=sI hF10
     exact ret1 Tryz.results131 (rX K17 K6 (hS17.c 0)) ⟨rfl,(hS17.sN [])⟩
    ·skip
     have hF11:=cf' hF9 hb4
     refine cq (cr ?_)
     refine sQ 60 (ym (vi i))<|sQ 61 zE<|sQ 59 (yg (.bool (i==0))) (rn ?_)
     refine cw_cond rfl (fun hb5=>?_) (fun hb5=>?_)
     ·skip
      have hF12:=ct hF11 hb5
      refine cq (cr ?_)
      obtain ⟨r_3,hc2,hF12⟩:=bI hF12
      refine sc 62 rfl rfl (yc KS (JE 1 _  (hS9.inn0 [] rfl) hc2)) ?_
      rintro _ w_16 ⟨rfl,hd2⟩
      have hS18:=hS9.out00 hd2
      refine s0 (yK 0 5 0 hS18 K6) ?_
      rintro _ w_17 ⟨rfl,hS19⟩
      refine rn (ct_ ?_)
      obtain rfl:=sI hF12
      exact ret1 Tryz.results131 (rX K17 K6 (hS19.c 0)) ⟨rfl,(hS19.sN [])⟩
     ·skip
      have hF13:=cf' hF11 hb5
      refine cw_skip (cq (cr ?_))
      refine sQ 63 (ym (.map (some g)))<|sQ 64 (ym (vi kind))<|sQ 65 (Y_mapGet (kE:=(Value.int .i64)) (vE:=(Value.int .i64)) (l:=(mput (mput (mput (mput (mput ([]:List (Int×Int)) 4 4) 5 2) 6 6) 7 1) 8 7)) (a:=kind) (d:=0) (g:=g) (i:=2) hS9 (keyInt K29) Gk K75 rfl rfl rfl rfl) ?_
      obtain ⟨r_4,hc3,hF13⟩:=bI hF13
      refine sc 66 rfl rfl (yc HJ (G6 (mgt (mput (mput (mput (mput (mput ([]:List (Int×Int)) 4 4) 5 2) 6 6) 7 1) 8 7) kind 0) _  (hS9.inn0 [] rfl) hc3)) ?_
      rintro _ w_18 ⟨rfl,hd3⟩
      have hS20:=hS9.out00 hd3
      refine s0 (yK 0 5 0 hS20 K6) ?_
      rintro _ w_19 ⟨rfl,hS21⟩
      refine rn (ct_ ?_)
      obtain rfl:=sI hF13
      exact ret1 Tryz.results131 (rX K17 K6 (hS21.c 0)) ⟨rfl,(hS21.sN [])⟩

theorem Qy (i:Int) (j:Int) (p:Ac) (p1:Int) (B:Option Addr) (B1:Option Addr) (w0:World)  (hS:ST w0 [] w0 [] [⟨B,[vi p.Kind,vi p.A,vi p.B]⟩,⟨B1,[vi p1]⟩]) {r_:Ab} {r_1:Bool} (hF:Cy i j p p1=some (r_,r_1)) :
  CV Tryz.prog 127 #[vi i,vi j,pt B 0,pt B1 0] w0 (fun v w'=>v=.tuple #[gD_ r_,.bool r_1]∧ST w0 [] w' [] []):=by
 unfold Cy at hF
 refine cv_of_cw 75 Tryz.func127 rfl Tryz.ntmps127 rfl ?_
 refine cq (cr ?_)
 refine sS 6 (yN kZ_ 5 hS K33) ?_
 rintro _ w_ ⟨b,rfl,hS1⟩
 refine sQ 7 yu (rn (cq ?_))
 obtain ⟨z,hz,hF1⟩:=bI hF
 refine cw_mid (fun f w=>.inl ()=z∧FF f [(6,pt (aD b) 0)]∧ST w0 [] w [⟨aD b,140,kZ_,5⟩] [⟨B,[vi p.Kind,vi p.A,vi p.B]⟩,⟨B1,[vi p1]⟩]) ?_ ?_
 ·skip
  refine cw_block (cq (cr ?_))
  refine sQ 9 (yd B 0 0 K38 K0)<|sQ 10 (yz 0 K1 (hS1.rf (i:=0) rfl))<|sQ 11 zE<|sQ 8 yu (rn ?_)
  refine cw_cond rfl (fun hb=>?_) (fun hb=>?_)
  ·skip
   have hF2:=ct hz hb
   refine cq (cr ?_)
   refine sQ 12 yv<|sQ 13 yv<|sQ 14 zE (rn ?_)
   refine cw_cond rfl (fun hb1=>?_) (fun hb1=>?_)
   ·skip
    have hF3:=ct hF2 hb1
    refine cq (cr ?_)
    obtain ⟨r_2,hc,hF3⟩:=bI hF3
    refine sc 15 rfl rfl (yc HJ (G6 1 _  (hS1.inn0 [] rfl) hc)) ?_
    rintro _ w_1 ⟨rfl,hd⟩
    have hS3:=hS1.out00 hd
    refine s0 (yK 0 5 0 hS3 K6) ?_
    rintro _ w_2 ⟨rfl,hS4⟩
    refine sQ 7 yu (rn (ct_ ?_))
    obtain rfl:=sI hF3
    obtain ⟨rfl,rfl⟩:=pr2 (sI hF1)
    exact ret2 Tryz.results127 (rX K17 K6 (hS4.c 0)) rT ⟨rfl,(hS4.sN [])⟩
   ·skip
    have hF4:=cf' hF2 hb1
    refine cw_skip ?_
    exact ⟨(sI hF4),(fc rfl fn_),(hS1.sel [0] rfl rfl)⟩
  ·skip
   have hF5:=cf' hz hb
   refine cq (cr ?_)
   refine sQ 17 (yd B 0 0 K38 K0)<|sQ 18 (yz 0 K1 (hS1.rf (i:=0) rfl)) ?_
   obtain ⟨r_3,hc1,hF5⟩:=bI hF5
   refine sc 19 rfl rfl (yc Eb (EN p.Kind _  (hS1.inn0 [] rfl) hc1)) ?_
   rintro _ w_3 ⟨rfl,hd1⟩
   have hS5:=hS1.out00 hd1
   refine sQ 16 yu (rn ?_)
   refine cw_cond rfl (fun hb2=>?_) (fun hb2=>?_)
   ·skip
    have hF6:=ct hF5 hb2
    refine cq (cr ?_)
    refine sQ 20 (yz 0 K1 (hS5.rf (i:=1) rfl))<|sQ 21 (yw 0 K35 K7 (hS5.rf (i:=0) rfl))<|sQ 22 yv ?_
    obtain ⟨r_4,hc2,hF6⟩:=bI hF6
    refine sc 23 rfl rfl (yc SY (Vj p1 p i _  (hS5.inn0 [] rfl) hc2)) ?_
    rintro _ w_4 ⟨rfl,hd2⟩
    have hS6:=hS5.out00 hd2
    refine sQ 24 yv<|sQ 25 zE (rn ?_)
    refine cw_cond rfl (fun hb3=>?_) (fun hb3=>?_)
    ·skip
     have hF7:=ct hF6 hb3
     refine cq (cr ?_)
     refine sQ 26 (yd B 0 0 K38 K0)<|sQ 27 (yz 0 K1 (hS6.rf (i:=0) rfl))<|sQ 28 zE<|sQ 29 yv ?_
     refine sgq 30 rfl rfl (uT_ 29) (fun hg=>(yz 0 K1 (hS6.rf (i:=1) rfl))) ?_
     refine sgq 31 rfl rfl (uT_ 29) (fun hg1=>yv) ?_
     refine sgq 32 rfl rfl (uT_ 29) (fun hg2=>(yd B 0 0 K39 K0)) ?_
     refine sgq 33 rfl rfl (uT_ 29) (fun hg3=>(yz 1 K1 (hS6.rf (i:=0) rfl) rfl (gv_of hg3))) ?_
     obtain ⟨r_5,hc3,hF7⟩:=bI hF7
     refine sgc 34 (v:=vi r_5) (F:=hS6.fn) rfl rfl (uT_ 29) hS6 (fun hg4=>(yc EZ (CV.mono (FK p1 i p.A _  (hS6.inn0 [] rfl) (gb_inv hc3 hg4)) (by rintro _ _ ⟨rfl,h⟩; exact ⟨rfl,hS6.out00 h⟩)) rfl (mc (gv_of hg4) (mc (gv_of hg4) (mc (gv_of hg4) mn))))) ?_
     rintro w_5 hS7
     refine sgq 35 rfl rfl (uT_ 29) (fun hg5=>(zE rfl (gv_of hg5))) ?_
     refine sQ 36 yA<|sQ 37 yv ?_
     refine sgq 38 rfl rfl (uT_ 37) (fun hg6=>(yz 0 K1 (hS7.rf (i:=1) rfl))) ?_
     refine sgq 39 rfl rfl (uT_ 37) (fun hg7=>yv) ?_
     refine sgq 40 rfl rfl (uT_ 37) (fun hg8=>(yd B 0 0 K43 K0)) ?_
     refine sgq 41 rfl rfl (uT_ 37) (fun hg9=>(yz 2 K1 (hS7.rf (i:=0) rfl) rfl (gv_of hg9))) ?_
     obtain ⟨r_6,hc4,hF7⟩:=bI hF7
     refine sgc 42 (v:=vi r_6) (F:=hS7.fn) rfl rfl (uT_ 37) hS7 (fun hg10=>(yc EZ (CV.mono (FK p1 i p.B _  (hS7.inn0 [] rfl) (gb_inv hc4 hg10)) (by rintro _ _ ⟨rfl,h⟩; exact ⟨rfl,hS7.out00 h⟩)) rfl (mc (gv_of hg10) (mc (gv_of hg10) (mc (gv_of hg10) mn))))) ?_
     rintro w_6 hS8
     refine sgq 43 rfl rfl (uT_ 37) (fun hg11=>(zE rfl (gv_of hg11))) ?_
     refine sQ 44 yA ?_
     obtain ⟨r_7,hc5,hF7⟩:=bI hF7
     refine sc 45 rfl rfl (yc L5 (Mr (((p.Kind==10)&&(r_5==1))&&(r_6==1)) _  (hS8.inn0 [] rfl) hc5)) ?_
     rintro _ w_7 ⟨rfl,hd3⟩
     have hS9:=hS8.out00 hd3
     refine sQ 46 zX ?_
     obtain ⟨r_8,hc6,hF7⟩:=bI hF7
     refine sc 47 rfl rfl (yc HJ (G6 (i64.wrap (4*r_7)) _  (hS9.inn0 [] rfl) hc6)) ?_
     rintro _ w_8 ⟨rfl,hd4⟩
     have hS10:=hS9.out00 hd4
     refine s0 (yK 0 5 0 hS10 K6) ?_
     rintro _ w_9 ⟨rfl,hS11⟩
     refine sQ 7 yu (rn (ct_ ?_))
     obtain rfl:=sI hF7
     obtain ⟨rfl,rfl⟩:=pr2 (sI hF1)
     exact ret2 Tryz.results127 (rX K17 K6 (hS11.c 0)) rT ⟨rfl,(hS11.sN [])⟩
    ·skip
     have hF8:=cf' hF6 hb3
     refine cw_skip ?_
     exact ⟨(sI hF8),(fc rfl fn_),(hS6.sel [0] rfl rfl)⟩
   ·skip
    have hF9:=cf' hF5 hb2
    refine cq (cr ?_)
    refine sQ 49 yv<|sQ 50 yv<|sQ 51 zE<|sQ 52 yv ?_
    refine sgq 53 rfl rfl (uF_ 52) (fun hg12=>(yz 0 K1 (hS5.rf (i:=1) rfl))) ?_
    refine sgq 54 rfl rfl (uF_ 52) (fun hg13=>yv) ?_
    refine sgq 55 rfl rfl (uF_ 52) (fun hg14=>(yd B 0 0 K39 K0)) ?_
    refine sgq 56 rfl rfl (uF_ 52) (fun hg15=>(yz 1 K1 (hS5.rf (i:=0) rfl) rfl (gv_of hg15))) ?_
    obtain ⟨r_9,hc7,hF9⟩:=bI hF9
    refine sgc 57 (v:=vi r_9) (F:=hS5.fn) rfl rfl (uF_ 52) hS5 (fun hg16=>(yc Iw (CV.mono (Im p1 i p.A _  (hS5.inn0 [] rfl) (gb_inv hc7 hg16)) (by rintro _ _ ⟨rfl,h⟩; exact ⟨rfl,hS5.out00 h⟩)) rfl (mc (gv_of hg16) (mc (gv_of hg16) (mc (gv_of hg16) mn))))) ?_
    rintro w_10 hS12
    refine sgq 58 rfl rfl (uF_ 52) (fun hg17=>yv) ?_
    refine sgq 59 rfl rfl (uF_ 52) (fun hg18=>(zE rfl (gv_of hg18) (gv_of hg18))) ?_
    refine sQ 60 yO<|sQ 48 yu (rn ?_)
    refine cw_cond rfl (fun hb4=>?_) (fun hb4=>?_)
    ·skip
     have hF10:=ct hF9 hb4
     refine cq ?_
     obtain ⟨r_10,hc8,hF10⟩:=bI hF10
     obtain ⟨r_11,hc9,hF10⟩:=bI hF10
     obtain ⟨r_12,hc10,hF10⟩:=bI hF10
     refine ra_start (hS12.se []).fn (by kernel_rfl) ?_
     have hS16:=hS12.drew
     have hQ0:=hS16.se []
     refine rq 0 61 rfl hQ0 (fun _ q=>(yd B 0 0 K38 K0))<|rq 1 62 rfl hQ0 (fun _ q=>(yz 0 K1 (ST.rf q (i:=0) rfl)))<|rq 2 63 rfl hQ0 (fun _ q=>(yz 0 K1 (ST.rf q (i:=1) rfl)))<|rq 3 64 rfl hQ0 (fun _ q=>yv)<|rq 4 65 rfl hQ0 (fun _ q=>(yd B 0 0 K39 K0)) ?_
     refine rq 5 66 rfl hQ0 (fun _ q=>(yz 1 K1 (ST.rf q (i:=0) rfl)))<|rq 7 68 rfl hQ0 (fun _ q=>(yz 0 K1 (ST.rf q (i:=1) rfl)))<|rq 8 69 rfl hQ0 (fun _ q=>yv)<|rq 9 70 rfl hQ0 (fun _ q=>(yd B 0 0 K39 K0))<|rq 10 71 rfl hQ0 (fun _ q=>(yz 1 K1 (ST.rf q (i:=0) rfl))) ?_
     refine rA [6] ?_
     refine rC 67 6 rfl (yc EZ (FK p1 i p.A _  (hS16.inn0 [] rfl) hc8)) ?_ aN
     rintro _ w_11 ⟨rfl,hd5⟩
     have hS17:=hS16.out00 hd5
     refine ⟨(hS17.se []),?_⟩
     refine rA [11] ?_
     refine rC 72 11 rfl (yc EZ (FK p1 j p.A _  (hS17.inn0 [] rfl) hc9)) ?_ aN
     rintro _ w_12 ⟨rfl,hd6⟩
     have hS18:=hS17.out00 hd6
     refine ⟨(hS18.se []),?_⟩
     refine rA [12] ?_
     refine rC 73 12 rfl (yc RU (QY p.Kind r_10 r_11 _  (hS18.inn0 [] rfl) hc10)) ?_ aN
     rintro _ w_13 ⟨rfl,hd7⟩
     have hS19:=hS18.out00 hd7
     refine ⟨(hS19.se []),?_⟩
     refine rA [13] ?_
     refine rZ 13 rfl (yK 0 5 0 hS19 K6) ?_ aN
     rintro _ w_14 ⟨rfl,hS20⟩
     refine ⟨(hS20.se []),?_⟩
     refine rq 14 7 rfl (hS20.se []) (fun _ q=>yu) ?_
     refine ra_done (by kernel_rfl) ?_
     refine ct_ ?_
     obtain rfl:=sI hF10
     obtain ⟨rfl,rfl⟩:=pr2 (sI hF1)
     exact ret2 Tryz.results127 (rX K17 K6 (hS20.c 0)) rT ⟨rfl,(hS20.sN [])⟩
    ·skip
     have hF11:=cf' hF9 hb4
     refine cw_skip ?_
     exact ⟨(sI hF11),(fc rfl fn_),(hS12.sel [0] rfl rfl)⟩
 rintro f w ⟨rfl,hf,hS2⟩
 refine cq (cr ?_)
 refine sQ 74 (Y_buildS (zs:=kZ_) (vs:=[]) (cs:=kZ_) K72 K33 rfl mpn rfl) ?_
 refine s0 (yK 0 5 0 hS2 K6 rfl (hf.g 6 0)) ?_
 rintro _ w_15 ⟨rfl,hS21⟩
 refine sQ 7 yu (rn (ct_ ?_))
 obtain ⟨rfl,rfl⟩:=pr2 (sI hF1)
 exact ret2 Tryz.results127 (rX K17 K6 (hS21.c 0) (hf.g 6 0)) rT ⟨rfl,(hS21.sN [])⟩

theorem UT (n:Int) (g:Ac)  (w0:World)  (hS:ST w0 [] w0 [] []) {r_:Af} {r_1:Bool} (hF:Eh n g=some (r_,r_1)) :
  CV Tryz.prog 109 #[vi n,.agg #[vi g.Kind,vi g.A,vi g.B]] w0 (fun v w'=>∃ (B:Option Addr) (c:Nat),v=.tuple #[gM_ r_ B c,.bool r_1]∧ST w0 [] w' [⟨B,140,(r_.Cells.flatMap Aw),c*5⟩] []):=by
 unfold Eh at hF
 refine cv_of_cw 19 Tryz.func109 rfl Tryz.ntmps109 rfl ?_
 refine cq (cr ?_)
 refine sS 2 (yB 3 (vi n) [vi n] 1 hS) ?_
 rintro _ w_ ⟨b,rfl,hS1⟩
 refine sS 3 (yV [vi g.Kind,vi g.A,vi g.B] 3 hS1) ?_
 rintro _ w_1 ⟨b1,rfl,hS2⟩
 refine sS 4 (yN kN_ 3 hS2 K48) ?_
 rintro _ w_2 ⟨b2,rfl,hS3⟩
 refine sQ 5 yu (rn (cq (cq (cr ?_))))
 refine sQ 6 (yz 0 K1 (hS3.c 0))<|sQ 7 (yw 0 K35 K7 (hS3.c 1)) ?_
 obtain ⟨r_2,hc,hF⟩:=bI hF
 refine sc 8 rfl rfl (yc NT (Ph n g _  (hS3.inn0 [] rfl) hc)) ?_
 rintro _ w_3 ⟨rfl,hd⟩
 have hS4:=hS3.out00 hd
 refine sQ 9 yn (rn ?_)
 refine cw_cond rfl (fun hb=>?_) (fun hb=>?_)
 ·skip
  have hF1:=ct hF hb
  refine cq (cr ?_)
  refine sQ 10 (Y_buildS (zs:=kN_) (vs:=[]) (cs:=kN_) E7 K48 rfl mpn rfl) ?_
  refine s0 (yK 2 3 0 hS4 K14) ?_
  rintro _ w_4 ⟨rfl,hS5⟩
  refine sQ 5 yu (rn (ct_ ?_))
  have hS6:=hS5.addNil 140
  obtain ⟨rfl,rfl⟩:=pr2 (sI hF1)
  exact ret2 Tryz.results109 (rX K32 K14 (hS6.c 2)) rT ⟨none,0,rfl,(hS6.sN [3])⟩
 ·skip
  have hF2:=cf' hF hb
  refine cw_skip (cq ?_)
  obtain ⟨hsh,hF2⟩:=chk_inv hF2
  obtain ⟨hsh1,hF2⟩:=chk_inv hF2
  obtain ⟨⟨r_3,r_4⟩,hc1,hF2⟩:=bI hF2
  refine ra_start (hS4.se [0,1]).fn (by kernel_rfl) ?_
  have hS8:=hS4.drew
  have hQ0:=hS8.se [0,1]
  refine rq 0 11 rfl hQ0 (fun _ q=>(yz 0 K1 (ST.c q 0)))<|rq 1 12 rfl hQ0 (fun _ q=>(Y_shl (k:=.i64) (a:=1) (k':=.i64) (b:=n) rfl rfl rfl hsh))<|rq 2 13 rfl hQ0 (fun _ q=>(yz 0 K1 (ST.c q 0)))<|rq 3 14 rfl hQ0 (fun _ q=>(Y_shl (k:=.i64) (a:=1) (k':=.i64) (b:=n) rfl rfl rfl hsh1))<|rq 4 15 rfl hQ0 (fun _ q=>(Y_makeFunc (cs:=[pt (aD b1) 0,pt (aD b) 0]) rfl rfl (mc rfl (mc rfl mn)))) ?_
  refine rA [5] ?_
  refine rC 16 5 rfl (yc Ig (Iu (shlK .i64 1 n) (shlK .i64 1 n) (fun x_0 x_1=>Cy x_0 x_1 g n) 127 (#[pt (aD b1) 0,pt (aD b) 0]) [⟨aD b1,[vi g.Kind,vi g.A,vi g.B]⟩,⟨aD b,[vi n]⟩] _ Wp (fun w hw x_0 x_1 y_0 y_1 h_=>Qy x_0 x_1 g n (aD b1) (aD b) w  hw h_) (hS8.inn0 [(false,1),(false,0)] rfl) hc1)) ?_ aN
  rintro _ w_5 ⟨B1,c1,rfl,hd1⟩
  have hS9:=hS8.out0 hd1
  have hQ1:=hS9.se [0,1]
  refine ⟨hQ1,?_⟩
  refine rq 6 17 rfl hQ1 (fun _ q=>(ye (gM_ r_3 B1 c1)))<|rq 7 18 rfl hQ1 (fun _ q=>(ye (.bool r_4))) ?_
  refine rA [8] ?_
  refine rZ 8 rfl (yK 2 3 0 hS9 K14) ?_ aN
  rintro _ w_6 ⟨rfl,hS10⟩
  refine ⟨(hS10.se [0,1]),?_⟩
  refine rq 9 5 rfl (hS10.se [0,1]) (fun _ q=>yu) ?_
  refine ra_done (by kernel_rfl) ?_
  refine ct_ ?_
  obtain ⟨rfl,rfl⟩:=pr2 (sI hF2)
  exact ret2 Tryz.results109 (rX K32 K14 (hS10.c 2)) rT ⟨B1,c1,rfl,(hS10.sN [3])⟩

theorem Vf (s:List Ab) (f_:Ab→Option (Bool)) (B:Option Addr) (c n:Nat) (kf:Nat) (caps:Array Value) (Rf:List Ro) (w0:World) (hn:s.length=n) (hk:callB Tryz.prog kf=true) (hp:∀ (w:World),ST w [] w [] Rf→∀ (x:Ab) (y:Bool),f_ x=some y→CV Tryz.prog kf ((gD_ x)::caps.toList).toArray w (fun v w'=>v=.bool y∧ST w [] w' [] [])) (hS:ST w0 [] w0 [] (⟨B,(s.flatMap Aw)⟩::Rf)) {r_:Int} (hF:Fv s f_=some r_) :
  CV Tryz.prog 134 #[.slice B n c,.func (.func kf) #[] caps] w0 (fun v w'=>v=vi r_∧ST w0 [] w' [] []):=by
 subst hn
 unfold Fv at hF
 refine cv_of_cw 19 Tryz.func134 rfl Tryz.ntmps134 rfl ?_
 refine cq (cr ?_)
 refine sQ 4 yu (rn (cq (cq (cr ?_))))
 refine sQ 6 yv<|sQ 7 (Y_len K78 rfl rfl)<|sQ 8 yv (rn ?_)
 obtain ⟨hN,hF⟩:=chk_inv hF
 obtain ⟨z,hz,hF1⟩:=bI hF
 refine cw_block ?_
 refine cw_loop (fun k f w=>∃ (i:Nat),FF f [(0,.slice B s.length c),(1,.func (.func kf) #[] caps),(7,vi (s.length:Int)),(8,vi (i:Int))]∧ST w0 [] w [] (⟨B,(s.flatMap Aw)⟩::Rf)∧i+k=s.length∧forX (HP s f_) k i ()=some z) s.length ⟨0,(fc rfl (fc rfl (fc rfl (fc rfl fn_)))),(hS.sel [] rfl rfl),Nat.zero_add _,hz⟩ ?_
 rintro k_ f w ⟨i,hf,hS1,hik,hL⟩
 refine cq (cr ?_)
 refine sQ 9 (zL rfl (hf.g 8 3) (hf.g 7 2)) (rn (cq ?_))
 refine cw_cond rfl (fun hlt=>?_) (fun hlt=>?_)
 ·skip
  have hlt1:i<s.length:=by have h:=of_decide_eq_true hlt; omega
  obtain ⟨K2,rfl⟩:∃ k2,k_=k2+1:=⟨k_-1,by omega⟩
  obtain ⟨y1,hb,hL1⟩:=forX_go hL
  unfold HP at hb
  refine cw_skip (cq (cw_block (cq (cr ?_))))
  refine sQ 10 (yv rfl (hf.g 8 3))<|sQ 5 yu (rn (cq (cr ?_)))
  refine sQ 11 (yv rfl (hf.g 1 1))<|sQ 12 (yv rfl (hf.g 0 0))<|sQ 13 yv ?_
  obtain ⟨x1,hx,hb⟩:=bI hb
  refine sQ 14 (yI B (i:Int) K78 K6 (gi_isSome BR rfl (hS1.rf (i:=0) rfl) hx) (getI_nn hx) (getI_ltI hx rfl))<|sQ 15 (ya B ((i:Int).toNat*5) (s.flatMap Aw) (kD_ x1) K17 K6 (hS1.rf (i:=0) rfl) rfl rfl (BR x1) (gi_seg BR hx)) ?_
  obtain ⟨r_1,hc,hb⟩:=bI hb
  refine sc 16 rfl rfl (Yc_clos (g:=kf) (vs:=(gD_ x1)::caps.toList) hk rfl rfl (clo_args (mc rfl mn)) (hp _ (hS1.innS (fun _ h=>mOd (i:=1) h)) x1 r_1 hc)) ?_
  rintro _ w_ ⟨rfl,hd⟩
  have hS2:=hS1.out00 hd
  refine rn ?_
  refine cw_cond rfl (fun hb1=>?_) (fun hb1=>?_)
  ·skip
   have hF2:=ct hb hb1
   refine cq (cr ?_)
   refine sQ 17 yv<|sQ 4 yu (rn (ct_ ?_))
   obtain rfl:=sI hF2
   obtain rfl:=sI hL1
   obtain rfl:=sI hF1
   exact e1 Tryz.results134 (hS2.sN [])
  ·skip
   have hF3:=cf' hb hb1
   refine cw_skip (cr ?_)
   refine sQ 18 (zP rfl (hf.g 8 3))<|sQ 8 yv (rn ?_)
   obtain rfl:=sI hF3
   exact ⟨K2,Nat.lt_succ_self _,i+1,(hf.a 0 0 (hf.a 1 1 (hf.a 7 2 (fc (congrArg (Value.int .i64) (wr_succ hlt1 hN)) fn_)))),(hS2.sel [] rfl rfl),(by omega),hL1⟩
 ·skip
  obtain rfl:k_=0:=by have h:=of_decide_eq_false hlt; omega
  refine cw_exit rfl ?_
  obtain rfl:=sI hL
  refine cq (cr ?_)
  refine sQ 4 yu (rn (ct_ ?_))
  obtain rfl:=sI hF1
  exact e1 Tryz.results134 (hS1.sN [])

theorem SZ (s:List Ab) (f_:Ab→Option (Bool)) (B:Option Addr) (c n:Nat) (kf:Nat) (caps:Array Value) (Rf:List Ro) (w0:World) (hn:s.length=n) (hk:callB Tryz.prog kf=true) (hp:∀ (w:World),ST w [] w [] Rf→∀ (x:Ab) (y:Bool),f_ x=some y→CV Tryz.prog kf ((gD_ x)::caps.toList).toArray w (fun v w'=>v=.bool y∧ST w [] w' [] [])) (hS:ST w0 [] w0 [] (⟨B,(s.flatMap Aw)⟩::Rf)) {r_:Bool} (hF:FT s f_=some r_) :
  CV Tryz.prog 112 #[.slice B n c,.func (.func kf) #[] caps] w0 (fun v w'=>v=.bool r_∧ST w0 [] w' [] []):=by
 subst hn
 unfold FT at hF
 refine cv_of_cw 9 Tryz.func112 rfl Tryz.ntmps112 rfl ?_
 refine cq (cr ?_)
 refine sQ 4 yu (rn (cq (cr ?_)))
 refine sQ 5 yv<|sQ 6 yv ?_
 obtain ⟨r_1,hc,hF⟩:=bI hF
 refine sc 7 rfl rfl (yc QQ (Vf s f_ B c s.length kf caps Rf _ rfl hk hp (hS.innS (sk 0 (fun _ h=>mOd (i:=1) h))) hc)) ?_
 rintro _ w_ ⟨rfl,hd⟩
 have hS1:=hS.out00 hd
 refine sQ 8 (Y_ge rfl rfl rfl)<|sQ 4 yu (rn (ct_ ?_))
 obtain rfl:=sI hF
 exact e1 Tryz.results112 (hS1.sN [])

theorem Kg (x:Aa)  (w0:World)  (hS:ST w0 [] w0 [] []) {r_:Bool} (hF:EE x=some r_) :
  CV Tryz.prog 136 #[gR_ x] w0 (fun v w'=>v=.bool r_∧ST w0 [] w' [] []):=by
 unfold EE at hF
 refine cv_of_cw 19 Tryz.func136 rfl Tryz.ntmps136 rfl ?_
 refine cq (cr ?_)
 refine sS 1 (yV (kR_ x) 4 hS) ?_
 rintro _ w_ ⟨b,rfl,hS1⟩
 refine sQ 2 yu (rn (cq (cr ?_)))
 refine sQ 3 (yd (aD b) 0 0 K58 K0)<|sQ 4 (yz 0 K1 (hS1.c 0))<|sQ 5 (yd (aD b) 0 0 K64 K0)<|sQ 6 (yz 2 K1 (hS1.c 0))<|sQ 7 zP<|sQ 8 (Y_rem (k:=.i64) (a:=(i64.wrap (x.A+x.C))) (b:=2) rfl rfl rfl (by decide)) ?_
 refine sQ 9 zE<|sQ 10 yv ?_
 refine sgq 11 rfl rfl (uT_ 10) (fun hg=>(yd (aD b) 0 0 K63 K0)) ?_
 refine sgq 12 rfl rfl (uT_ 10) (fun hg1=>(yz 1 K1 (hS1.c 0) rfl (gv_of hg1))) ?_
 refine sgq 13 rfl rfl (uT_ 10) (fun hg2=>(yd (aD b) 0 0 K65 K0)) ?_
 refine sgq 14 rfl rfl (uT_ 10) (fun hg3=>(yz 3 K1 (hS1.c 0) rfl (gv_of hg3))) ?_
 refine sgq 15 rfl rfl (uT_ 10) (fun hg4=>(zP rfl (gv_of hg4) (gv_of hg4))) ?_
 refine sgq 16 rfl rfl (uT_ 10) (fun hg5=>(Y_rem (k:=.i64) (a:=(i64.wrap (x.B+x.D))) (b:=2) rfl (gv_of hg5) rfl (by decide))) ?_
 refine sgq 17 rfl rfl (uT_ 10) (fun hg6=>(zE rfl (gv_of hg6))) ?_
 refine sQ 18 yA<|sQ 2 yu (rn (ct_ ?_))
 obtain rfl:=sI hF
 exact e1 Tryz.results136 (hS1.sN [])

theorem F9 (x:Ab)  (w0:World)  (hS:ST w0 [] w0 [] []) {r_:Bool} (hF:Cg x=some r_) :
  CV Tryz.prog 114 #[gD_ x] w0 (fun v w'=>v=.bool r_∧ST w0 [] w' [] []):=by
 unfold Cg at hF
 refine cv_of_cw 22 Tryz.func114 rfl Tryz.ntmps114 rfl ?_
 refine cq (cr ?_)
 refine sS 1 (yV (kD_ x) 5 hS) ?_
 rintro _ w_ ⟨b,rfl,hS1⟩
 refine sQ 2 yu (rn (cq (cr ?_)))
 refine sQ 3 (yd (aD b) 0 3 FI K9)<|sQ 4 (ya (aD b) 0 (kD_ x) (kR_ x.Num) K18 K9 (hS1.c 0)) ?_
 obtain ⟨r_1,hc,hF⟩:=bI hF
 refine sc 5 rfl rfl (yc Hz (GW x.Num _  (hS1.inn0 [] rfl) hc)) ?_
 rintro _ w_1 ⟨rfl,hd⟩
 have hS2:=hS1.out00 hd
 refine sQ 6 yv ?_
 refine sgq 7 rfl rfl (uT_ 6) (fun hg=>(yd (aD b) 0 0 Er K0)) ?_
 refine sgq 8 rfl rfl (uT_ 6) (fun hg1=>(yz 4 K1 (hS2.c 0) rfl (gv_of hg1))) ?_
 obtain ⟨r_2,hc1,hF⟩:=bI hF
 refine sgc 9 (v:=.bool r_2) (F:=hS2.fn) rfl rfl (uT_ 6) hS2 (fun hg2=>(yc K53 (CV.mono (Bm x.Exp 0 60 _  (hS2.inn0 [] rfl) (gb_inv hc1 hg2)) (by rintro _ _ ⟨rfl,h⟩; exact ⟨rfl,hS2.out00 h⟩)) rfl (mc (gv_of hg2) (mc rfl (mc rfl mn))))) ?_
 rintro w_2 hS3
 refine sQ 10 yA<|sQ 11 yv ?_
 refine sgq 12 rfl rfl (uT_ 11) (fun hg3=>(yd (aD b) 0 0 Er K0)) ?_
 refine sgq 13 rfl rfl (uT_ 11) (fun hg4=>(yz 4 K1 (hS3.c 0) rfl (gv_of hg4))) ?_
 refine sgq 14 rfl rfl (uT_ 11) (fun hg5=>(zE rfl (gv_of hg5))) ?_
 refine sgq 15 rfl rfl (uT_ 11) (fun hg6=>(yv rfl (gv_of hg6))) ?_
 refine sgq 16 rfl rfl (uH_ 15) (fun hg7=>(yd (aD b) 0 3 FI K9)) ?_
 refine sgq 17 rfl rfl (uH_ 15) (fun hg8=>(ya (aD b) 0 (kD_ x) (kR_ x.Num) K18 K9 (hS3.c 0) rfl (gv_of hg8))) ?_
 obtain ⟨r_3,hc2,hF⟩:=bI hF
 refine sgc 18 (v:=.bool r_3) (F:=hS3.fn) rfl rfl (uH_ 15) hS3 (fun hg9=>(yc J0 (CV.mono (Kg x.Num _  (hS3.inn0 [] rfl) (gb_inv hc2 hg9)) (by rintro _ _ ⟨rfl,h⟩; exact ⟨rfl,hS3.out00 h⟩)) rfl (mc (gv_of hg9) mn))) ?_
 rintro w_3 hS4
 refine sgq 19 rfl rfl (uH_ 15) (fun hg10=>(yn rfl (gv_of hg10))) ?_
 refine sgq 20 rfl rfl (uT_ 11) (fun hg11=>(yO rfl (gv_of hg11) rfl (gv_and hg11))) ?_
 refine sQ 21 yA<|sQ 2 yu (rn (ct_ ?_))
 obtain rfl:=sI hF
 exact e1 Tryz.results114 (hS4.sN [])

theorem Rm (x:Ab)  (w0:World)  (hS:ST w0 [] w0 [] []) {r_:Bool} (hF:FA x=some r_) :
  CV Tryz.prog 113 #[gD_ x] w0 (fun v w'=>v=.bool r_∧ST w0 [] w' [] []):=by
 unfold FA at hF
 refine cv_of_cw 6 Tryz.func113 rfl Tryz.ntmps113 rfl ?_
 refine cq (cr ?_)
 refine sS 1 (yV (kD_ x) 5 hS) ?_
 rintro _ w_ ⟨b,rfl,hS1⟩
 refine sQ 2 yu (rn (cq (cr ?_)))
 refine sQ 3 (yw 0 K17 K6 (hS1.c 0)) ?_
 obtain ⟨r_1,hc,hF⟩:=bI hF
 refine sc 4 rfl rfl (yc FH (F9 x _  (hS1.inn0 [] rfl) hc)) ?_
 rintro _ w_1 ⟨rfl,hd⟩
 have hS2:=hS1.out00 hd
 refine sQ 5 yn<|sQ 2 yu (rn (ct_ ?_))
 obtain rfl:=sI hF
 exact e1 Tryz.results113 (hS2.sN [])

theorem GI (m:Af) (B:Option Addr) (c n:Nat) (w0:World) (hn:m.Cells.length=n) (hS:ST w0 [] w0 [] [⟨B,(m.Cells.flatMap Aw)⟩]) {r_:Bool} (hF:Cv m=some r_) :
  CV Tryz.prog 85 #[.agg #[vi m.Rows,vi m.Cols,.slice B n c]] w0 (fun v w'=>v=.bool r_∧ST w0 [] w' [] []):=by
 subst hn
 unfold Cv at hF
 refine cv_of_cw 28 Tryz.func85 rfl Tryz.ntmps85 rfl ?_
 refine cq (cr ?_)
 refine sS 1 (yV (kM_ m B c) 3 hS) ?_
 rintro _ w_ ⟨b,rfl,hS1⟩
 refine sQ 2 yu (rn (cq (cr ?_)))
 refine sQ 3 (yd (aD b) 0 0 DX K0)<|sQ 4 (yz 0 K1 (hS1.c 0)) ?_
 obtain ⟨r_1,hc,hF⟩:=bI hF
 refine sc 5 rfl rfl (yc If (IX m.Rows _  (hS1.inn0 [] rfl) hc)) ?_
 rintro _ w_1 ⟨rfl,hd⟩
 have hS2:=hS1.out00 hd
 refine sQ 6 yv ?_
 refine sgq 7 rfl rfl (uT_ 6) (fun hg=>(yd (aD b) 0 0 K91 K0)) ?_
 refine sgq 8 rfl rfl (uT_ 6) (fun hg1=>(yz 1 K1 (hS2.c 0) rfl (gv_of hg1))) ?_
 obtain ⟨r_2,hc1,hF⟩:=bI hF
 refine sgc 9 (v:=.bool r_2) (F:=hS2.fn) rfl rfl (uT_ 6) hS2 (fun hg2=>(yc If (CV.mono (IX m.Cols _  (hS2.inn0 [] rfl) (gb_inv hc1 hg2)) (by rintro _ _ ⟨rfl,h⟩; exact ⟨rfl,hS2.out00 h⟩)) rfl (mc (gv_of hg2) mn))) ?_
 rintro w_2 hS3
 refine sQ 10 yA<|sQ 11 yv ?_
 refine sgq 12 rfl rfl (uT_ 11) (fun hg3=>(yd (aD b) 0 0 EU K98)) ?_
 refine sgq 13 rfl rfl (uT_ 11) (fun hg4=>(yz 2 FG (hS3.c 0) rfl (gv_of hg4))) ?_
 refine sgq 14 rfl rfl (uT_ 11) (fun hg5=>(Y_len K78 rfl (gv_of hg5))) ?_
 refine sgq 15 rfl rfl (uT_ 11) (fun hg6=>(yd (aD b) 0 0 DX K0)) ?_
 refine sgq 16 rfl rfl (uT_ 11) (fun hg7=>(yz 0 K1 (hS3.c 0) rfl (gv_of hg7))) ?_
 refine sgq 17 rfl rfl (uT_ 11) (fun hg8=>(yd (aD b) 0 0 K91 K0)) ?_
 refine sgq 18 rfl rfl (uT_ 11) (fun hg9=>(yz 1 K1 (hS3.c 0) rfl (gv_of hg9))) ?_
 refine sgq 19 rfl rfl (uT_ 11) (fun hg10=>(zX rfl (gv_of hg10) (gv_of hg10))) ?_
 refine sgq 20 rfl rfl (uT_ 11) (fun hg11=>(zE rfl (gv_of hg11) (gv_of hg11))) ?_
 refine sQ 21 yA<|sQ 22 yv ?_
 refine sgq 23 rfl rfl (uT_ 22) (fun hg12=>(yd (aD b) 0 0 EU K98)) ?_
 refine sgq 24 rfl rfl (uT_ 22) (fun hg13=>(yz 2 FG (hS3.c 0) rfl (gv_of hg13))) ?_
 obtain ⟨r_3,hc2,hF⟩:=bI hF
 refine sgc 25 (v:=.bool r_3) (F:=hS3.fn) rfl rfl (uT_ 22) hS3 (fun hg14=>(yc VY (CV.mono (SZ m.Cells FA B c m.Cells.length 113 (#[]) [] _ rfl UD (fun w hw x_0 y_0 h_=>Rm x_0  w  hw h_) (hS3.inn0 [(true,0)] rfl) (gb_inv hc2 hg14)) (by rintro _ _ ⟨rfl,h⟩; exact ⟨rfl,hS3.out00 h⟩)) rfl (mc (gv_of hg14) (mc rfl mn)))) ?_
 rintro w_3 hS4
 refine sgq 26 rfl rfl (uT_ 22) (fun hg15=>(yn rfl (gv_of hg15))) ?_
 refine sQ 27 yA<|sQ 2 yu (rn (ct_ ?_))
 obtain rfl:=sI hF
 exact e1 Tryz.results85 (hS4.sN [])

theorem IY (out:Aa) (args:List Aa) (B:Option Addr) (c n:Nat) (w0:World) (hn:args.length=n) (hS:ST w0 (bl [⟨B,138,(args.flatMap DF),c*4⟩]) w0 [⟨B,138,(args.flatMap DF),c*4⟩] []) {r_:Aa} {r_1:Bool} (hF:BY out args=some (r_,r_1)) :
  CV Tryz.prog 143 #[gR_ out,.slice B n c] w0 (fun v w'=>v=.tuple #[gR_ r_,.bool r_1]∧ST w0 (bl [⟨B,138,(args.flatMap DF),c*4⟩]) w' [] []):=by
 subst hn
 unfold BY at hF
 refine cv_of_cw 23 Tryz.func143 rfl Tryz.ntmps143 rfl ?_
 refine cq (cr ?_)
 refine sS 2 (yV (kR_ out) 4 hS) ?_
 rintro _ w_ ⟨b,rfl,hS1⟩
 let V0:List Value:=[vi 0,vi 0,vi 0,vi 0]
 refine sS 4 (yN V0 4 hS1 K37) ?_
 rintro _ w_1 ⟨b1,rfl,hS2⟩
 refine sQ 5 yu (rn (cq (cq (cr ?_))))
 refine sQ 8 yv<|sQ 9 (yw 0 K18 K9 (hS2.c 1)) ?_
 refine sS 10 (yF 4 1 (kR_ out) 4 hS2 K99 K9 Hn rfl (mpc rfl mpn)) ?_
 rintro _ w_2 ⟨b2,rfl,hS3⟩
 obtain ⟨hap,hF⟩:=chk_inv hF
 refine sS 11 (aP 4 32 0 args [out] hS3 K99 K9 T3 K37 IR Vz (hS3.c 3) hap) ?_
 rintro _ w_3 ⟨B1,c1,rfl,hS4⟩
 refine sQ 12 (Y_len K99 rfl rfl)<|sQ 13 yv (rn ?_)
 obtain ⟨hN,hF⟩:=chk_inv hF
 obtain ⟨z,hz,hF1⟩:=bI hF
 refine cw_block ?_
 refine cw_loop (fun k f w=>∃ (i:Nat),FF f [(2,pt (aD b) 0),(4,pt (aD b1) 0),(11,.slice B1 ((args++[out]).length) c1),(12,vi ((args++[out]).length:Int)),(13,vi (i:Int))]∧ST w0 (bl [⟨B,138,(args.flatMap DF),c*4⟩]) w [⟨aD b,138,kR_ out,4⟩,⟨aD b1,138,V0,4⟩,⟨B1,138,((args++[out]).flatMap DF),c1*4⟩] []∧i+k=(args++[out]).length∧forX (GN args out) k i ()=some z) ((args++[out]).length) ⟨0,(fc rfl (fc rfl (fc rfl (fc rfl (fc rfl fn_))))),(hS4.sel [1,2,0] rfl rfl),Nat.zero_add _,hz⟩ ?_
 rintro k_ f w ⟨i,hf,hS5,hik,hL⟩
 refine cq (cr ?_)
 refine sQ 14 (zL rfl (hf.g 13 4) (hf.g 12 3)) (rn (cq ?_))
 refine cw_cond rfl (fun hlt=>?_) (fun hlt=>?_)
 ·skip
  have hlt1:i<(args++[out]).length:=by have h:=of_decide_eq_true hlt; omega
  obtain ⟨K2,rfl⟩:∃ k2,k_=k2+1:=⟨k_-1,by omega⟩
  obtain ⟨y,hb,hL1⟩:=forX_go hL
  unfold GN at hb
  refine cw_skip (cq (cw_block (cq (cr ?_))))
  obtain ⟨x,hx,hb⟩:=bI hb
  refine sQ 15 (yI B1 (i:Int) K99 K9 (gi_isSome IR rfl (hS5.c 2) hx) (getI_nn hx) (getI_ltI hx rfl) rfl (hf.g 11 2) (hf.g 13 4))<|sQ 16 (ya B1 ((i:Int).toNat*4) ((args++[out]).flatMap DF) (kR_ x) K18 K9 (hS5.c 2) rfl rfl (IR x) (gi_seg IR hx)) ?_
  refine sS 7 (yN V0 4 hS5 K37) ?_
  rintro _ w_4 ⟨b3,rfl,hS6⟩
  refine s0 (yK 3 4 0 hS6 K9) ?_
  rintro _ w_5 ⟨rfl,hS7⟩
  refine rn (cq (cr ?_))
  refine sQ 17 (yw 0 K18 K9 (hS7.c 3)) ?_
  obtain ⟨r_2,hc,hb⟩:=bI hb
  refine sc 18 rfl rfl (yc Hz (GW x _  (hS7.inn0 [] rfl) hc)) ?_
  rintro _ w_6 ⟨rfl,hd⟩
  have hS8:=hS7.out00 hd
  refine sQ 19 yn (rn ?_)
  refine cw_cond rfl (fun hb1=>?_) (fun hb1=>?_)
  ·skip
   have hF2:=ct hb hb1
   refine cq (cr ?_)
   refine sQ 20 (Y_buildS (zs:=V0) (vs:=[]) (cs:=V0) K79 K37 rfl mpn rfl) ?_
   refine s0 (yK 1 4 0 hS8 K9 rfl (hf.g 4 1)) ?_
   rintro _ w_7 ⟨rfl,hS9⟩
   refine sQ 5 yu (rn (ct_ ?_))
   obtain rfl:=sI hF2
   obtain rfl:=sI hL1
   obtain ⟨rfl,rfl⟩:=pr2 (sI hF1)
   exact ret2 Tryz.results143 (rX K18 K9 (hS9.c 1) (hf.g 4 1)) rT ⟨rfl,(hS9.sN [])⟩
  ·skip
   have hF3:=cf' hb hb1
   refine cw_skip (cr ?_)
   refine sQ 21 (zP rfl (hf.g 13 4))<|sQ 13 yv (rn ?_)
   obtain rfl:=sI hF3
   exact ⟨K2,Nat.lt_succ_self _,i+1,(hf.a 2 0 (hf.a 4 1 (hf.a 11 2 (hf.a 12 3 (fc (congrArg (Value.int .i64) (wr_succ hlt1 hN)) fn_))))),(hS8.sel [0,1,2] rfl rfl),(by omega),hL1⟩
 ·skip
  obtain rfl:k_=0:=by have h:=of_decide_eq_false hlt; omega
  refine cw_exit rfl ?_
  obtain rfl:=sI hL
  refine cq (cr ?_)
  refine sQ 22 (yw 0 K18 K9 (hS5.c 0) rfl (hf.g 2 0)) ?_
  refine s0 (yK 1 4 0 hS5 K9 rfl (hf.g 4 1)) ?_
  rintro _ w_8 ⟨rfl,hS10⟩
  refine sQ 5 yu (rn (ct_ ?_))
  obtain ⟨rfl,rfl⟩:=pr2 (sI hF1)
  exact ret2 Tryz.results143 (rX K18 K9 (hS10.c 1) (hf.g 4 1)) rT ⟨rfl,(hS10.sN [])⟩

theorem Qe (x:Aa) (y:Aa)  (w0:World)  (hS:ST w0 [] w0 [] []) {r_:Aa} {r_1:Bool} (hF:DH x y=some (r_,r_1)) :
  CV Tryz.prog 137 #[gR_ x,gR_ y] w0 (fun v w'=>v=.tuple #[gR_ r_,.bool r_1]∧ST w0 [] w' [] []):=by
 unfold DH at hF
 refine cv_of_cw 105 Tryz.func137 rfl Tryz.ntmps137 rfl ?_
 refine cq (cr ?_)
 refine sS 2 (yV (kR_ x) 4 hS) ?_
 rintro _ w_ ⟨b,rfl,hS1⟩
 refine sS 3 (yV (kR_ y) 4 hS1) ?_
 rintro _ w_1 ⟨b1,rfl,hS2⟩
 refine sS 4 (yN [vi 0,vi 0,vi 0,vi 0] 4 hS2 K37) ?_
 rintro _ w_2 ⟨b2,rfl,hS3⟩
 refine sQ 5 yu (rn (cq (cr ?_)))
 refine sQ 6 (yd (aD b) 0 0 K58 K0)<|sQ 7 (yz 0 K1 (hS3.c 0))<|sQ 8 (yd (aD b1) 0 0 K58 K0)<|sQ 9 (yz 0 K1 (hS3.c 1))<|sQ 10 zX<|sQ 11 (yd (aD b) 0 0 K63 K0) ?_
 refine sQ 12 (yz 1 K1 (hS3.c 0))<|sQ 13 (yd (aD b1) 0 0 K65 K0)<|sQ 14 (yz 3 K1 (hS3.c 1))<|sQ 15 zX<|sQ 16 zM<|sQ 17 (yd (aD b) 0 0 K64 K0) ?_
 refine sQ 18 (yz 2 K1 (hS3.c 0))<|sQ 19 (yd (aD b1) 0 0 K64 K0)<|sQ 20 (yz 2 K1 (hS3.c 1))<|sQ 21 zX<|sQ 22 zM<|sQ 23 (yd (aD b) 0 0 K65 K0) ?_
 refine sQ 24 (yz 3 K1 (hS3.c 0))<|sQ 25 (yd (aD b1) 0 0 K63 K0)<|sQ 26 (yz 1 K1 (hS3.c 1))<|sQ 27 zX<|sQ 28 zM<|sQ 29 (yd (aD b) 0 0 K58 K0) ?_
 refine sQ 30 (yz 0 K1 (hS3.c 0))<|sQ 31 (yd (aD b1) 0 0 K63 K0)<|sQ 32 (yz 1 K1 (hS3.c 1))<|sQ 33 zX<|sQ 34 (yd (aD b) 0 0 K63 K0)<|sQ 35 (yz 1 K1 (hS3.c 0)) ?_
 refine sQ 36 (yd (aD b1) 0 0 K58 K0)<|sQ 37 (yz 0 K1 (hS3.c 1))<|sQ 38 zX<|sQ 39 zP<|sQ 40 (yd (aD b) 0 0 K64 K0)<|sQ 41 (yz 2 K1 (hS3.c 0)) ?_
 refine sQ 42 (yd (aD b1) 0 0 K65 K0)<|sQ 43 (yz 3 K1 (hS3.c 1))<|sQ 44 zX<|sQ 45 zM<|sQ 46 (yd (aD b) 0 0 K65 K0)<|sQ 47 (yz 3 K1 (hS3.c 0)) ?_
 refine sQ 48 (yd (aD b1) 0 0 K64 K0)<|sQ 49 (yz 2 K1 (hS3.c 1))<|sQ 50 zX<|sQ 51 zM<|sQ 52 (yd (aD b) 0 0 K58 K0)<|sQ 53 (yz 0 K1 (hS3.c 0)) ?_
 refine sQ 54 (yd (aD b1) 0 0 K64 K0)<|sQ 55 (yz 2 K1 (hS3.c 1))<|sQ 56 zX<|sQ 57 (yd (aD b) 0 0 K63 K0)<|sQ 58 (yz 1 K1 (hS3.c 0))<|sQ 59 (yd (aD b1) 0 0 K63 K0) ?_
 refine sQ 60 (yz 1 K1 (hS3.c 1))<|sQ 61 zX<|sQ 62 zP<|sQ 63 (yd (aD b) 0 0 K64 K0)<|sQ 64 (yz 2 K1 (hS3.c 0))<|sQ 65 (yd (aD b1) 0 0 K58 K0) ?_
 refine sQ 66 (yz 0 K1 (hS3.c 1))<|sQ 67 zX<|sQ 68 zP<|sQ 69 (yd (aD b) 0 0 K65 K0)<|sQ 70 (yz 3 K1 (hS3.c 0))<|sQ 71 (yd (aD b1) 0 0 K65 K0) ?_
 refine sQ 72 (yz 3 K1 (hS3.c 1))<|sQ 73 zX<|sQ 74 zM<|sQ 75 (yd (aD b) 0 0 K58 K0)<|sQ 76 (yz 0 K1 (hS3.c 0))<|sQ 77 (yd (aD b1) 0 0 K65 K0) ?_
 refine sQ 78 (yz 3 K1 (hS3.c 1))<|sQ 79 zX<|sQ 80 (yd (aD b) 0 0 K63 K0)<|sQ 81 (yz 1 K1 (hS3.c 0))<|sQ 82 (yd (aD b1) 0 0 K64 K0)<|sQ 83 (yz 2 K1 (hS3.c 1)) ?_
 refine sQ 84 zX<|sQ 85 zP<|sQ 86 (yd (aD b) 0 0 K64 K0)<|sQ 87 (yz 2 K1 (hS3.c 0))<|sQ 88 (yd (aD b1) 0 0 K63 K0)<|sQ 89 (yz 1 K1 (hS3.c 1)) ?_
 refine sQ 90 zX<|sQ 91 zP<|sQ 92 (yd (aD b) 0 0 K65 K0)<|sQ 93 (yz 3 K1 (hS3.c 0))<|sQ 94 (yd (aD b1) 0 0 K58 K0)<|sQ 95 (yz 0 K1 (hS3.c 1)) ?_
 refine sQ 96 zX<|sQ 97 zP<|sQ 98 (Y_buildS (zs:=[vi 0,vi 0,vi 0,vi 0]) (vs:=[(0,vi (i64.wrap ((i64.wrap ((i64.wrap ((i64.wrap (x.A*y.A))-(i64.wrap (x.B*y.D))))-(i64.wrap (x.C*y.C))))-(i64.wrap (x.D*y.B))))),(1,vi (i64.wrap ((i64.wrap ((i64.wrap ((i64.wrap (x.A*y.B))+(i64.wrap (x.B*y.A))))-(i64.wrap (x.C*y.D))))-(i64.wrap (x.D*y.C))))),(2,vi (i64.wrap ((i64.wrap ((i64.wrap ((i64.wrap (x.A*y.C))+(i64.wrap (x.B*y.B))))+(i64.wrap (x.C*y.A))))-(i64.wrap (x.D*y.D))))),(3,vi (i64.wrap ((i64.wrap ((i64.wrap ((i64.wrap (x.A*y.D))+(i64.wrap (x.B*y.C))))+(i64.wrap (x.C*y.B))))+(i64.wrap (x.D*y.A)))))]) (cs:=[vi (i64.wrap ((i64.wrap ((i64.wrap ((i64.wrap (x.A*y.A))-(i64.wrap (x.B*y.D))))-(i64.wrap (x.C*y.C))))-(i64.wrap (x.D*y.B)))),vi (i64.wrap ((i64.wrap ((i64.wrap ((i64.wrap (x.A*y.B))+(i64.wrap (x.B*y.A))))-(i64.wrap (x.C*y.D))))-(i64.wrap (x.D*y.C)))),vi (i64.wrap ((i64.wrap ((i64.wrap ((i64.wrap (x.A*y.C))+(i64.wrap (x.B*y.B))))+(i64.wrap (x.C*y.A))))-(i64.wrap (x.D*y.D)))),vi (i64.wrap ((i64.wrap ((i64.wrap ((i64.wrap (x.A*y.D))+(i64.wrap (x.B*y.C))))+(i64.wrap (x.C*y.B))))+(i64.wrap (x.D*y.A))))]) K79 K37 rfl (mpc rfl (mpc rfl (mpc rfl (mpc rfl mpn)))) rfl)<|sQ 99 (yw 0 K18 K9 (hS3.c 0))<|sQ 100 (yw 0 K18 K9 (hS3.c 1)) ?_
 refine sS 101 (yF 4 2 [vi x.A,vi x.B,vi x.C,vi x.D,vi y.A,vi y.B,vi y.C,vi y.D] 8 hS3 K99 K9 Hn rfl (mpc rfl (mpc rfl mpn))) ?_
 rintro _ w_3 ⟨b3,rfl,hS4⟩
 obtain ⟨⟨r_2,r_3⟩,hc,hF⟩:=bI hF
 refine sc 102 rfl rfl (yc IT (IY (Aa.mk (i64.wrap ((i64.wrap ((i64.wrap ((i64.wrap (x.A*y.A))-(i64.wrap (x.B*y.D))))-(i64.wrap (x.C*y.C))))-(i64.wrap (x.D*y.B)))) (i64.wrap ((i64.wrap ((i64.wrap ((i64.wrap (x.A*y.B))+(i64.wrap (x.B*y.A))))-(i64.wrap (x.C*y.D))))-(i64.wrap (x.D*y.C)))) (i64.wrap ((i64.wrap ((i64.wrap ((i64.wrap (x.A*y.C))+(i64.wrap (x.B*y.B))))+(i64.wrap (x.C*y.A))))-(i64.wrap (x.D*y.D)))) (i64.wrap ((i64.wrap ((i64.wrap ((i64.wrap (x.A*y.D))+(i64.wrap (x.B*y.C))))+(i64.wrap (x.C*y.B))))+(i64.wrap (x.D*y.A))))) [x,y] (aD b3) 2 2 _ rfl (hS4.inn [false,false,false,true] rfl [] rfl) hc)) ?_
 rintro _ w_4 ⟨rfl,hd⟩
 have hS5:=hS4.out [false,false,false,true] rfl hd
 refine sQ 103 (ye (gR_ r_2))<|sQ 104 (ye (.bool r_3)) ?_
 refine s0 (yK 2 4 0 hS5 K9) ?_
 rintro _ w_5 ⟨rfl,hS6⟩
 refine sQ 5 yu (rn (ct_ ?_))
 obtain ⟨rfl,rfl⟩:=pr2 (sI hF)
 exact ret2 Tryz.results137 (rX K18 K9 (hS6.c 2)) rT ⟨rfl,(hS6.sN [])⟩

theorem UY (x:Aa)  (w0:World)  (hS:ST w0 [] w0 [] []) {r_:Aa} {r_1:Bool} (hF:FS x=some (r_,r_1)) :
  CV Tryz.prog 144 #[gR_ x] w0 (fun v w'=>v=.tuple #[gR_ r_,.bool r_1]∧ST w0 [] w' [] []):=by
 unfold FS at hF
 refine cv_of_cw 43 Tryz.func144 rfl Tryz.ntmps144 rfl ?_
 refine cq (cr ?_)
 refine sS 1 (yV (kR_ x) 4 hS) ?_
 rintro _ w_ ⟨b,rfl,hS1⟩
 refine sS 2 (yN [vi 0,vi 0,vi 0,vi 0] 4 hS1 K37) ?_
 rintro _ w_1 ⟨b1,rfl,hS2⟩
 refine sQ 3 yu (rn (cq (cq (cr ?_))))
 refine sQ 4 (yw 0 K18 K9 (hS2.c 0)) ?_
 obtain ⟨r_2,hc,hF⟩:=bI hF
 refine sc 5 rfl rfl (yc Hz (GW x _  (hS2.inn0 [] rfl) hc)) ?_
 rintro _ w_2 ⟨rfl,hd⟩
 have hS3:=hS2.out00 hd
 refine sQ 6 yn<|sQ 7 yv ?_
 refine sgq 8 rfl rfl (uF_ 7) (fun hg=>(yw 0 K18 K9 (hS3.c 0))) ?_
 obtain ⟨r_3,hc1,hF⟩:=bI hF
 refine sgc 9 (v:=.bool r_3) (F:=hS3.fn) rfl rfl (uF_ 7) hS3 (fun hg1=>(yc J0 (CV.mono (Kg x _  (hS3.inn0 [] rfl) (gb_inv hc1 hg1)) (by rintro _ _ ⟨rfl,h⟩; exact ⟨rfl,hS3.out00 h⟩)) rfl (mc (gv_of hg1) mn))) ?_
 rintro w_3 hS4
 refine sgq 10 rfl rfl (uF_ 7) (fun hg2=>(yn rfl (gv_of hg2))) ?_
 refine sQ 11 yO (rn ?_)
 refine cw_cond rfl (fun hb=>?_) (fun hb=>?_)
 ·skip
  have hF1:=ct hF hb
  refine cq (cr ?_)
  refine sQ 12 (Y_buildS (zs:=[vi 0,vi 0,vi 0,vi 0]) (vs:=[]) (cs:=[vi 0,vi 0,vi 0,vi 0]) K79 K37 rfl mpn rfl) ?_
  refine s0 (yK 1 4 0 hS4 K9) ?_
  rintro _ w_4 ⟨rfl,hS5⟩
  refine sQ 3 yu (rn (ct_ ?_))
  obtain ⟨rfl,rfl⟩:=pr2 (sI hF1)
  exact ret2 Tryz.results144 (rX K18 K9 (hS5.c 1)) rT ⟨rfl,(hS5.sN [])⟩
 ·skip
  have hF2:=cf' hF hb
  refine cw_skip (cq (cr ?_))
  refine sQ 13 (yd (aD b) 0 0 K63 K0)<|sQ 14 (yz 1 K1 (hS4.c 0))<|sQ 15 (yd (aD b) 0 0 K65 K0)<|sQ 16 (yz 3 K1 (hS4.c 0))<|sQ 17 zM<|sQ 18 (Y_quo (k:=.i64) (a:=(i64.wrap (x.B-x.D))) (b:=2) rfl rfl rfl (by decide)) ?_
  refine sQ 19 (yd (aD b) 0 0 K58 K0)<|sQ 20 (yz 0 K1 (hS4.c 0))<|sQ 21 (yd (aD b) 0 0 K64 K0)<|sQ 22 (yz 2 K1 (hS4.c 0))<|sQ 23 zP<|sQ 24 (Y_quo (k:=.i64) (a:=(i64.wrap (x.A+x.C))) (b:=2) rfl rfl rfl (by decide)) ?_
  refine sQ 25 (yd (aD b) 0 0 K63 K0)<|sQ 26 (yz 1 K1 (hS4.c 0))<|sQ 27 (yd (aD b) 0 0 K65 K0)<|sQ 28 (yz 3 K1 (hS4.c 0))<|sQ 29 zP<|sQ 30 (Y_quo (k:=.i64) (a:=(i64.wrap (x.B+x.D))) (b:=2) rfl rfl rfl (by decide)) ?_
  refine sQ 31 (yd (aD b) 0 0 K64 K0)<|sQ 32 (yz 2 K1 (hS4.c 0))<|sQ 33 (yd (aD b) 0 0 K58 K0)<|sQ 34 (yz 0 K1 (hS4.c 0))<|sQ 35 zM<|sQ 36 (Y_quo (k:=.i64) (a:=(i64.wrap (x.C-x.A))) (b:=2) rfl rfl rfl (by decide)) ?_
  refine sQ 37 (Y_buildS (zs:=[vi 0,vi 0,vi 0,vi 0]) (vs:=[(0,vi (i64.wrap (Int.tdiv (i64.wrap (x.B-x.D)) 2))),(1,vi (i64.wrap (Int.tdiv (i64.wrap (x.A+x.C)) 2))),(2,vi (i64.wrap (Int.tdiv (i64.wrap (x.B+x.D)) 2))),(3,vi (i64.wrap (Int.tdiv (i64.wrap (x.C-x.A)) 2)))]) (cs:=[vi (i64.wrap (Int.tdiv (i64.wrap (x.B-x.D)) 2)),vi (i64.wrap (Int.tdiv (i64.wrap (x.A+x.C)) 2)),vi (i64.wrap (Int.tdiv (i64.wrap (x.B+x.D)) 2)),vi (i64.wrap (Int.tdiv (i64.wrap (x.C-x.A)) 2))]) K79 K37 rfl (mpc rfl (mpc rfl (mpc rfl (mpc rfl mpn)))) rfl)<|sQ 38 (yw 0 K18 K9 (hS4.c 0)) ?_
  refine sS 39 (yF 4 1 (kR_ x) 4 hS4 K99 K9 Hn rfl (mpc rfl mpn)) ?_
  rintro _ w_5 ⟨b2,rfl,hS6⟩
  obtain ⟨⟨r_4,r_5⟩,hc2,hF2⟩:=bI hF2
  refine sc 40 rfl rfl (yc IT (IY (Aa.mk (i64.wrap (Int.tdiv (i64.wrap (x.B-x.D)) 2)) (i64.wrap (Int.tdiv (i64.wrap (x.A+x.C)) 2)) (i64.wrap (Int.tdiv (i64.wrap (x.B+x.D)) 2)) (i64.wrap (Int.tdiv (i64.wrap (x.C-x.A)) 2))) [x] (aD b2) 1 1 _ rfl (hS6.inn [false,false,true] rfl [] rfl) hc2)) ?_
  rintro _ w_6 ⟨rfl,hd1⟩
  have hS7:=hS6.out [false,false,true] rfl hd1
  refine sQ 41 (ye (gR_ r_4))<|sQ 42 (ye (.bool r_5)) ?_
  refine s0 (yK 1 4 0 hS7 K9) ?_
  rintro _ w_7 ⟨rfl,hS8⟩
  refine sQ 3 yu (rn (ct_ ?_))
  obtain ⟨rfl,rfl⟩:=pr2 (sI hF2)
  exact ret2 Tryz.results144 (rX K18 K9 (hS8.c 1)) rT ⟨rfl,(hS8.sN [])⟩

theorem M8 (num:Aa) (exp:Int)  (w0:World)  (hS:ST w0 [] w0 [] []) {r_:Ab} {r_1:Bool} (hF:AS num exp=some (r_,r_1)) :
  CV Tryz.prog 138 #[gR_ num,vi exp] w0 (fun v w'=>v=.tuple #[gD_ r_,.bool r_1]∧ST w0 [] w' [] []):=by
 unfold AS at hF
 refine cv_of_cw 31 Tryz.func138 rfl Tryz.ntmps138 rfl ?_
 refine cq (cr ?_)
 refine sS 2 (yV (kR_ num) 4 hS) ?_
 rintro _ w_ ⟨b,rfl,hS1⟩
 refine sS 4 (yN kZ_ 5 hS1 K33) ?_
 rintro _ w_1 ⟨b1,rfl,hS2⟩
 refine sQ 5 yu (rn (cq (cq (cr ?_))))
 refine sQ 6 (yw 0 K18 K9 (hS2.c 0)) ?_
 obtain ⟨r_2,hc,hF⟩:=bI hF
 refine sc 7 rfl rfl (yc Hz (GW num _  (hS2.inn0 [] rfl) hc)) ?_
 rintro _ w_2 ⟨rfl,hd⟩
 have hS3:=hS2.out00 hd
 refine sQ 8 yn<|sQ 9 yv ?_
 refine sgq 10 rfl rfl (uF_ 9) (fun hg=>yv) ?_
 obtain ⟨r_3,hc1,hF⟩:=bI hF
 refine sgc 11 (v:=.bool r_3) (F:=hS3.fn) rfl rfl (uF_ 9) hS3 (fun hg1=>(yc K53 (CV.mono (Bm exp 0 60 _  (hS3.inn0 [] rfl) (gb_inv hc1 hg1)) (by rintro _ _ ⟨rfl,h⟩; exact ⟨rfl,hS3.out00 h⟩)) rfl (mc (gv_of hg1) (mc rfl (mc rfl mn))))) ?_
 rintro w_3 hS4
 refine sgq 12 rfl rfl (uF_ 9) (fun hg2=>(yn rfl (gv_of hg2))) ?_
 refine sQ 13 yO (rn ?_)
 refine cw_cond rfl (fun hb=>?_) (fun hb=>?_)
 ·skip
  have hF1:=ct hF hb
  refine cq (cr ?_)
  refine sQ 14 (Y_buildS (zs:=kZ_) (vs:=[]) (cs:=kZ_) K72 K33 rfl mpn rfl) ?_
  refine s0 (yK 1 5 0 hS4 K6) ?_
  rintro _ w_4 ⟨rfl,hS5⟩
  refine sQ 5 yu (rn (ct_ ?_))
  obtain ⟨rfl,rfl⟩:=pr2 (sI hF1)
  exact ret2 Tryz.results138 (rX K17 K6 (hS5.c 1)) rT ⟨rfl,(hS5.sN [])⟩
 ·skip
  have hF2:=cf' hF hb
  refine cw_skip (cq ?_)
  obtain ⟨z,hz,hF3⟩:=bI hF2
  refine cw_block ?_
  refine cw_loop (fun k f w=>∃ (exp1:Int) (A:Int) (B:Int) (C:Int) (D:Int),FF f [(1,vi exp1),(2,pt (aD b) 0),(4,pt (aD b1) 0)]∧ST w0 [] w [⟨aD b,138,[vi A,vi B,vi C,vi D],4⟩,⟨aD b1,140,kZ_,5⟩] []∧whX C5 k (exp1,A,B,C,D)=some z) fuel ⟨exp,num.A,num.B,num.C,num.D,(fc rfl (fc rfl (fc rfl fn_))),(hS4.sel [0,1] rfl rfl),hz⟩ ?_
  rintro k_ f w ⟨exp1,A,B,C,D,hf,hS6,hL⟩
  obtain ⟨K2,y,rfl,hb1,hL1⟩:=whX_go hL
  unfold C5 at hb1
  refine cq (cq (cr ?_))
  refine sQ 15 (yv rfl (hf.g 1 0))<|sQ 16 (Y_gt rfl rfl rfl)<|sQ 17 yv ?_
  refine sgq 18 rfl rfl (uT_ 17) (fun hg3=>(yw 0 K18 K9 (hS6.c 0) rfl (hf.g 2 1))) ?_
  obtain ⟨r_4,hc2,hb1⟩:=bI hb1
  refine sgc 19 (v:=.bool r_4) (F:=hS6.fn) rfl rfl (uT_ 17) hS6 (fun hg4=>(yc J0 (CV.mono (Kg (Aa.mk A B C D) _  (hS6.inn0 [] rfl) (gb_inv hc2 hg4)) (by rintro _ _ ⟨rfl,h⟩; exact ⟨rfl,hS6.out00 h⟩)) rfl (mc (gv_of hg4) mn))) ?_
  rintro w_5 hS7
  refine sQ 20 yA (rn ?_)
  refine cw_cond rfl (fun hb2=>?_) (fun hb2=>?_)
  ·skip
   have hF4:=ct hb1 hb2
   refine cw_skip (cw_block (cq (cr ?_)))
   refine sQ 22 (yw 0 K18 K9 (hS7.c 0) rfl (hf.g 2 1)) ?_
   obtain ⟨⟨r_5,r_6⟩,hc3,hF4⟩:=bI hF4
   refine sc 23 rfl rfl (yc Rt (UY (Aa.mk A B C D) _  (hS7.inn0 [] rfl) hc3)) ?_
   rintro _ w_6 ⟨rfl,hd1⟩
   have hS8:=hS7.out00 hd1
   refine sQ 21 yv<|sQ 24 (ye (gR_ r_5))<|sQ 25 (ye (.bool r_6)) ?_
   refine s0 (yK 0 4 0 hS8 K9 rfl (hf.g 2 1)) ?_
   rintro _ w_7 ⟨rfl,hS9⟩
   refine rn (cr ?_)
   refine sQ 26 (yv rfl (hf.g 1 0))<|sQ 27 zM<|sQ 1 yu (rn ?_)
   obtain rfl:=sI hF4
   exact ⟨K2,Nat.lt_succ_self _,(i64.wrap (exp1-1)),r_5.A,r_5.B,r_5.C,r_5.D,(fc rfl (hf.a 2 1 (hf.a 4 2 fn_))),(hS9.sel [0,1] rfl rfl),hL1⟩
  ·skip
   have hF5:=cf' hb1 hb2
   refine cw_exit rfl ?_
   obtain rfl:=sI hF5
   obtain rfl:=sI hL1
   refine cq (cr ?_)
   refine sQ 28 (yw 0 K18 K9 (hS7.c 0) rfl (hf.g 2 1))<|sQ 29 (yv rfl (hf.g 1 0))<|sQ 30 (Y_buildS (zs:=kZ_) (vs:=[(0,.agg #[vi A,vi B,vi C,vi D]),(1,vi exp1)]) (cs:=[vi A,vi B,vi C,vi D,vi exp1]) K72 K33 rfl (mpc rfl (mpc rfl mpn)) rfl) ?_
   refine s0 (yK 1 5 0 hS7 K6 rfl (hf.g 4 2)) ?_
   rintro _ w_8 ⟨rfl,hS10⟩
   refine sQ 5 yu (rn (ct_ ?_))
   obtain ⟨rfl,rfl⟩:=pr2 (sI hF3)
   exact ret2 Tryz.results138 (rX K17 K6 (hS10.c 1) (hf.g 4 2)) rT ⟨rfl,(hS10.sN [])⟩

theorem Ou (x:Ab) (y:Ab)  (w0:World)  (hS:ST w0 [] w0 [] []) {r_:Ab} {r_1:Bool} (hF:Bg x y=some (r_,r_1)) :
  CV Tryz.prog 116 #[gD_ x,gD_ y] w0 (fun v w'=>v=.tuple #[gD_ r_,.bool r_1]∧ST w0 [] w' [] []):=by
 unfold Bg at hF
 refine cv_of_cw 38 Tryz.func116 rfl Tryz.ntmps116 rfl ?_
 refine cq (cr ?_)
 refine sS 2 (yV (kD_ x) 5 hS) ?_
 rintro _ w_ ⟨b,rfl,hS1⟩
 refine sS 3 (yV (kD_ y) 5 hS1) ?_
 rintro _ w_1 ⟨b1,rfl,hS2⟩
 refine sS 4 (yN kZ_ 5 hS2 K33) ?_
 rintro _ w_2 ⟨b2,rfl,hS3⟩
 refine sQ 5 yu (rn (cq (cr ?_)))
 refine sQ 9 (yd (aD b) 0 3 FI K9)<|sQ 10 (ya (aD b) 0 (kD_ x) (kR_ x.Num) K18 K9 (hS3.c 0))<|sQ 11 (yd (aD b1) 0 3 FI K9)<|sQ 12 (ya (aD b1) 0 (kD_ y) (kR_ y.Num) K18 K9 (hS3.c 1)) ?_
 obtain ⟨⟨r_2,r_3⟩,hc,hF⟩:=bI hF
 refine sc 13 rfl rfl (yc T5 (Qe x.Num y.Num _  (hS3.inn0 [] rfl) hc)) ?_
 rintro _ w_3 ⟨rfl,hd⟩
 have hS4:=hS3.out00 hd
 refine sQ 8 yv<|sQ 14 (ye (gR_ r_2))<|sQ 15 (ye (.bool r_3)) ?_
 refine sS 6 (yN [vi 0,vi 0,vi 0,vi 0] 4 hS4 K37) ?_
 rintro _ w_4 ⟨b3,rfl,hS5⟩
 refine s0 (yK 3 4 0 hS5 K9) ?_
 rintro _ w_5 ⟨rfl,hS6⟩
 refine sQ 7 yu (rn (cq (cq (cr ?_))))
 refine sQ 16 (yw 0 K17 K6 (hS6.c 0)) ?_
 obtain ⟨r_4,hc1,hF⟩:=bI hF
 refine sc 17 rfl rfl (yc FH (F9 x _  (hS6.inn0 [] rfl) hc1)) ?_
 rintro _ w_6 ⟨rfl,hd1⟩
 have hS7:=hS6.out00 hd1
 refine sQ 18 yn<|sQ 19 yv ?_
 refine sgq 20 rfl rfl (uF_ 19) (fun hg=>(yw 0 K17 K6 (hS7.c 1))) ?_
 obtain ⟨r_5,hc2,hF⟩:=bI hF
 refine sgc 21 (v:=.bool r_5) (F:=hS7.fn) rfl rfl (uF_ 19) hS7 (fun hg1=>(yc FH (CV.mono (F9 y _  (hS7.inn0 [] rfl) (gb_inv hc2 hg1)) (by rintro _ _ ⟨rfl,h⟩; exact ⟨rfl,hS7.out00 h⟩)) rfl (mc (gv_of hg1) mn))) ?_
 rintro w_7 hS8
 refine sgq 22 rfl rfl (uF_ 19) (fun hg2=>(yn rfl (gv_of hg2))) ?_
 refine sQ 23 yO<|sQ 24 yv ?_
 refine sgq 25 rfl rfl (uF_ 24) (fun hg3=>yv) ?_
 refine sgq 26 rfl rfl (uF_ 24) (fun hg4=>(yn rfl (gv_of hg4))) ?_
 refine sQ 27 yO (rn ?_)
 refine cw_cond rfl (fun hb=>?_) (fun hb=>?_)
 ·skip
  have hF1:=ct hF hb
  refine cq (cr ?_)
  refine sQ 28 (Y_buildS (zs:=kZ_) (vs:=[]) (cs:=kZ_) K72 K33 rfl mpn rfl) ?_
  refine s0 (yK 2 5 0 hS8 K6) ?_
  rintro _ w_8 ⟨rfl,hS9⟩
  refine sQ 5 yu (rn (ct_ ?_))
  obtain ⟨rfl,rfl⟩:=pr2 (sI hF1)
  exact ret2 Tryz.results116 (rX K17 K6 (hS9.c 2)) rT ⟨rfl,(hS9.sN [])⟩
 ·skip
  have hF2:=cf' hF hb
  refine cw_skip (cq (cr ?_))
  refine sQ 29 (yw 0 K18 K9 (hS8.c 3))<|sQ 30 (yd (aD b) 0 0 Er K0)<|sQ 31 (yz 4 K1 (hS8.c 0))<|sQ 32 (yd (aD b1) 0 0 Er K0)<|sQ 33 (yz 4 K1 (hS8.c 1))<|sQ 34 zP ?_
  obtain ⟨⟨r_6,r_7⟩,hc3,hF2⟩:=bI hF2
  refine sc 35 rfl rfl (yc Pf (M8 r_2 (i64.wrap (x.Exp+y.Exp)) _  (hS8.inn0 [] rfl) hc3)) ?_
  rintro _ w_9 ⟨rfl,hd2⟩
  have hS10:=hS8.out00 hd2
  refine sQ 36 (ye (gD_ r_6))<|sQ 37 (ye (.bool r_7)) ?_
  refine s0 (yK 2 5 0 hS10 K6) ?_
  rintro _ w_10 ⟨rfl,hS11⟩
  refine sQ 5 yu (rn (ct_ ?_))
  obtain ⟨rfl,rfl⟩:=pr2 (sI hF2)
  exact ret2 Tryz.results116 (rX K17 K6 (hS11.c 2)) rT ⟨rfl,(hS11.sN [])⟩

theorem JQ (m:Af) (i:Int) (j:Int) (B:Option Addr) (c n:Nat) (w0:World) (hn:m.Cells.length=n) (hS:ST w0 [] w0 [] [⟨B,(m.Cells.flatMap Aw)⟩]) {r_:Ab} (hF:Du m i j=some r_) :
  CV Tryz.prog 117 #[.agg #[vi m.Rows,vi m.Cols,.slice B n c],vi i,vi j] w0 (fun v w'=>v=(gD_ r_)∧ST w0 [] w' [] []):=by
 subst hn
 unfold Du at hF
 refine cv_of_cw 17 Tryz.func117 rfl Tryz.ntmps117 rfl ?_
 refine cq (cr ?_)
 refine sS 3 (yV (kM_ m B c) 3 hS) ?_
 rintro _ w_ ⟨b,rfl,hS1⟩
 refine sS 6 (yN kZ_ 5 hS1 K33) ?_
 rintro _ w_1 ⟨b1,rfl,hS2⟩
 refine rn (cq (cr ?_))
 refine sQ 7 (yd (aD b) 0 0 EU K98)<|sQ 8 (yz 2 FG (hS2.c 0))<|sQ 9 yv<|sQ 10 (yd (aD b) 0 0 K91 K0)<|sQ 11 (yz 1 K1 (hS2.c 0))<|sQ 12 zX ?_
 refine sQ 13 yv<|sQ 14 zP ?_
 obtain ⟨x,hx,hF⟩:=bI hF
 refine sQ 15 (yI B (i64.wrap ((i64.wrap (i*m.Cols))+j)) K78 K6 (gi_isSome BR rfl (hS2.rf (i:=0) rfl) hx) (getI_nn hx) (getI_ltI hx rfl))<|sQ 16 (ya B ((i64.wrap ((i64.wrap (i*m.Cols))+j)).toNat*5) (m.Cells.flatMap Aw) (kD_ x) K17 K6 (hS2.rf (i:=0) rfl) rfl rfl (BR x) (gi_seg BR hx)) ?_
 refine s0 (yK 1 5 0 hS2 K6) ?_
 rintro _ w_2 ⟨rfl,hS3⟩
 refine rn (ct_ ?_)
 obtain rfl:=sI hF
 exact ret1 Tryz.results117 (rX K17 K6 (hS3.c 1)) ⟨rfl,(hS3.sN [])⟩

theorem UO (x:Aa)  (w0:World)  (hS:ST w0 [] w0 [] []) {r_:Aa} {r_1:Bool} (hF:F3 x=some (r_,r_1)) :
  CV Tryz.prog 146 #[gR_ x] w0 (fun v w'=>v=.tuple #[gR_ r_,.bool r_1]∧ST w0 [] w' [] []):=by
 unfold F3 at hF
 refine cv_of_cw 30 Tryz.func146 rfl Tryz.ntmps146 rfl ?_
 refine cq (cr ?_)
 refine sS 1 (yV (kR_ x) 4 hS) ?_
 rintro _ w_ ⟨b,rfl,hS1⟩
 refine sS 2 (yN [vi 0,vi 0,vi 0,vi 0] 4 hS1 K37) ?_
 rintro _ w_1 ⟨b1,rfl,hS2⟩
 refine sQ 3 yu (rn (cq (cr ?_)))
 refine sQ 4 (yd (aD b) 0 0 K63 K0)<|sQ 5 (yz 1 K1 (hS2.c 0))<|sQ 6 (yd (aD b) 0 0 K65 K0)<|sQ 7 (yz 3 K1 (hS2.c 0))<|sQ 8 zM<|sQ 9 (yd (aD b) 0 0 K58 K0) ?_
 refine sQ 10 (yz 0 K1 (hS2.c 0))<|sQ 11 (yd (aD b) 0 0 K64 K0)<|sQ 12 (yz 2 K1 (hS2.c 0))<|sQ 13 zP<|sQ 14 (yd (aD b) 0 0 K63 K0)<|sQ 15 (yz 1 K1 (hS2.c 0)) ?_
 refine sQ 16 (yd (aD b) 0 0 K65 K0)<|sQ 17 (yz 3 K1 (hS2.c 0))<|sQ 18 zP<|sQ 19 (yd (aD b) 0 0 K64 K0)<|sQ 20 (yz 2 K1 (hS2.c 0))<|sQ 21 (yd (aD b) 0 0 K58 K0) ?_
 refine sQ 22 (yz 0 K1 (hS2.c 0))<|sQ 23 zM<|sQ 24 (Y_buildS (zs:=[vi 0,vi 0,vi 0,vi 0]) (vs:=[(0,vi (i64.wrap (x.B-x.D))),(1,vi (i64.wrap (x.A+x.C))),(2,vi (i64.wrap (x.B+x.D))),(3,vi (i64.wrap (x.C-x.A)))]) (cs:=[vi (i64.wrap (x.B-x.D)),vi (i64.wrap (x.A+x.C)),vi (i64.wrap (x.B+x.D)),vi (i64.wrap (x.C-x.A))]) K79 K37 rfl (mpc rfl (mpc rfl (mpc rfl (mpc rfl mpn)))) rfl)<|sQ 25 (yw 0 K18 K9 (hS2.c 0)) ?_
 refine sS 26 (yF 4 1 (kR_ x) 4 hS2 K99 K9 Hn rfl (mpc rfl mpn)) ?_
 rintro _ w_2 ⟨b2,rfl,hS3⟩
 obtain ⟨⟨r_2,r_3⟩,hc,hF⟩:=bI hF
 refine sc 27 rfl rfl (yc IT (IY (Aa.mk (i64.wrap (x.B-x.D)) (i64.wrap (x.A+x.C)) (i64.wrap (x.B+x.D)) (i64.wrap (x.C-x.A))) [x] (aD b2) 1 1 _ rfl (hS3.inn [false,false,true] rfl [] rfl) hc)) ?_
 rintro _ w_3 ⟨rfl,hd⟩
 have hS4:=hS3.out [false,false,true] rfl hd
 refine sQ 28 (ye (gR_ r_2))<|sQ 29 (ye (.bool r_3)) ?_
 refine s0 (yK 1 4 0 hS4 K9) ?_
 rintro _ w_4 ⟨rfl,hS5⟩
 refine sQ 3 yu (rn (ct_ ?_))
 obtain ⟨rfl,rfl⟩:=pr2 (sI hF)
 exact ret2 Tryz.results146 (rX K18 K9 (hS5.c 1)) rT ⟨rfl,(hS5.sN [])⟩

theorem OQ (x:Ab) (exp:Int)  (w0:World)  (hS:ST w0 [] w0 [] []) {r_:Aa} {r_1:Bool} (hF:BB x exp=some (r_,r_1)) :
  CV Tryz.prog 145 #[gD_ x,vi exp] w0 (fun v w'=>v=.tuple #[gR_ r_,.bool r_1]∧ST w0 [] w' [] []):=by
 unfold BB at hF
 refine cv_of_cw 28 Tryz.func145 rfl Tryz.ntmps145 rfl ?_
 refine cq (cr ?_)
 refine sS 2 (yV (kD_ x) 5 hS) ?_
 rintro _ w_ ⟨b,rfl,hS1⟩
 refine sS 4 (yN [vi 0,vi 0,vi 0,vi 0] 4 hS1 K37) ?_
 rintro _ w_1 ⟨b1,rfl,hS2⟩
 refine sQ 5 yu (rn (cq (cr ?_)))
 refine sQ 9 (yd (aD b) 0 3 FI K9)<|sQ 10 (ya (aD b) 0 (kD_ x) (kR_ x.Num) K18 K9 (hS2.c 0)) ?_
 refine sS 6 (yN [vi 0,vi 0,vi 0,vi 0] 4 hS2 K37) ?_
 rintro _ w_2 ⟨b2,rfl,hS3⟩
 refine s0 (yK 2 4 0 hS3 K9) ?_
 rintro _ w_3 ⟨rfl,hS4⟩
 refine sQ 7 yu (rn (cq (cq (cr ?_))))
 refine sQ 11 (yd (aD b) 0 0 Er K0)<|sQ 12 (yz 4 K1 (hS4.c 0))<|sQ 8 yu (rn ?_)
 obtain ⟨z,hz,hF1⟩:=bI hF
 refine cw_block ?_
 refine cw_loop (fun k f w=>∃ (A:Int) (B:Int) (C:Int) (D:Int) (ok:Bool) (k_:Int),FF f [(1,vi exp),(4,pt (aD b1) 0),(6,pt (aD b2) 0),(7,.bool ok),(8,vi k_)]∧ST w0 [] w [⟨aD b1,138,[vi 0,vi 0,vi 0,vi 0],4⟩,⟨aD b2,138,[vi A,vi B,vi C,vi D],4⟩] []∧whX (C7 exp) k (A,B,C,D,ok,k_)=some z) fuel ⟨x.Num.A,x.Num.B,x.Num.C,x.Num.D,true,x.Exp,(fc rfl (fc rfl (fc rfl (fc rfl (fc rfl fn_))))),(hS4.sel [1,2] rfl rfl),hz⟩ ?_
 rintro K2 f w ⟨A,B,C,D,ok,k_,hf,hS5,hL⟩
 obtain ⟨K11,y,rfl,hb,hL1⟩:=whX_go hL
 unfold C7 at hb
 refine cq (cq (cr ?_))
 refine sQ 13 (yv rfl (hf.g 8 4))<|sQ 14 (yv rfl (hf.g 1 0))<|sQ 15 zL<|sQ 16 yv ?_
 refine sgq 17 rfl rfl (uT_ 16) (fun hg=>(yv rfl (hf.g 7 3))) ?_
 refine sQ 18 yA (rn ?_)
 refine cw_cond rfl (fun hb1=>?_) (fun hb1=>?_)
 ·skip
  have hF2:=ct hb hb1
  refine cw_skip (cq (cw_block (cr ?_)))
  refine sQ 22 (yw 0 K18 K9 (hS5.c 1) rfl (hf.g 6 2)) ?_
  obtain ⟨⟨r_2,r_3⟩,hc,hF2⟩:=bI hF2
  refine sc 23 rfl rfl (yc TM (UO (Aa.mk A B C D) _  (hS5.inn0 [] rfl) hc)) ?_
  rintro _ w_4 ⟨rfl,hd⟩
  have hS6:=hS5.out00 hd
  refine sQ 21 yv<|sQ 24 (ye (gR_ r_2))<|sQ 25 (ye (.bool r_3)) ?_
  refine s0 (yK 1 4 0 hS6 K9 rfl (hf.g 6 2)) ?_
  rintro _ w_5 ⟨rfl,hS7⟩
  refine sQ 7 yu (rn (cr ?_))
  refine sQ 19 (yv rfl (hf.g 8 4))<|sQ 20 zP<|sQ 8 yu (rn ?_)
  obtain rfl:=sI hF2
  exact ⟨K11,Nat.lt_succ_self _,r_2.A,r_2.B,r_2.C,r_2.D,r_3,(i64.wrap (k_+1)),(hf.a 1 0 (hf.a 4 1 (hf.a 6 2 (fc rfl (fc rfl fn_))))),(hS7.sel [0,1] rfl rfl),hL1⟩
 ·skip
  have hF3:=cf' hb hb1
  refine cw_exit rfl ?_
  obtain rfl:=sI hF3
  obtain rfl:=sI hL1
  refine cq (cr ?_)
  refine sQ 26 (yw 0 K18 K9 (hS5.c 1) rfl (hf.g 6 2))<|sQ 27 (yv rfl (hf.g 7 3)) ?_
  refine s0 (yK 0 4 0 hS5 K9 rfl (hf.g 4 1)) ?_
  rintro _ w_6 ⟨rfl,hS8⟩
  refine sQ 5 yu (rn (ct_ ?_))
  obtain ⟨rfl,rfl⟩:=pr2 (sI hF1)
  exact ret2 Tryz.results145 (rX K18 K9 (hS8.c 0) (hf.g 4 1)) rT ⟨rfl,(hS8.sN [])⟩

theorem TE (x:Ab) (y:Ab) (operation:Aa→Aa→Option (Aa×Bool)) (kf:Nat) (caps:Array Value) (Rf:List Ro) (w0:World) (hk:callB Tryz.prog kf=true) (hp:∀ (w:World),ST w [] w [] Rf→∀ (x1:Aa) (x2:Aa) (y2:Aa) (y3:Bool),operation x1 x2=some (y2,y3)→CV Tryz.prog kf ((gR_ x1)::(gR_ x2)::caps.toList).toArray w (fun v w'=>v=.tuple #[gR_ y2,.bool y3]∧ST w [] w' [] [])) (hS:ST w0 [] w0 [] (Rf)) {r_:Ab} {r_1:Bool} (hF:Hb x y operation=some (r_,r_1)) :
  CV Tryz.prog 140 #[gD_ x,gD_ y,.func (.func kf) #[] caps] w0 (fun v w'=>v=.tuple #[gD_ r_,.bool r_1]∧ST w0 [] w' [] []):=by
 unfold Hb at hF
 refine cv_of_cw 64 Tryz.func140 rfl Tryz.ntmps140 rfl ?_
 refine cq (cr ?_)
 refine sS 3 (yV (kD_ x) 5 hS) ?_
 rintro _ w_ ⟨b,rfl,hS1⟩
 refine sS 4 (yV (kD_ y) 5 hS1) ?_
 rintro _ w_1 ⟨b1,rfl,hS2⟩
 refine sS 6 (yN kZ_ 5 hS2 K33) ?_
 rintro _ w_2 ⟨b2,rfl,hS3⟩
 refine sQ 7 (yg (.bool false)) (rn (cq (cq (cr ?_))))
 refine sQ 15 (yw 0 K17 K6 (hS3.c 0)) ?_
 obtain ⟨r_2,hc,hF⟩:=bI hF
 refine sc 16 rfl rfl (yc FH (F9 x _  (hS3.inn0 [] rfl) hc)) ?_
 rintro _ w_3 ⟨rfl,hd⟩
 have hS4:=hS3.out00 hd
 refine sQ 17 yn<|sQ 18 (ym (.bool (!r_2))) ?_
 refine sgq 19 rfl rfl (uF_ 18) (fun hg=>(yw 0 K17 K6 (hS4.c 1))) ?_
 obtain ⟨r_3,hc1,hF⟩:=bI hF
 refine sgc 20 (v:=.bool r_3) (F:=hS4.fn) rfl rfl (uF_ 18) hS4 (fun hg1=>(yc FH (CV.mono (F9 y _  (hS4.inn0 [] rfl) (gb_inv hc1 hg1)) (by rintro _ _ ⟨rfl,h⟩; exact ⟨rfl,hS4.out00 h⟩)) rfl (mc (gv_of hg1) mn))) ?_
 rintro w_4 hS5
 refine sgq 21 rfl rfl (uF_ 18) (fun hg2=>(yn rfl (gv_of hg2))) ?_
 refine sQ 22 yO (rn ?_)
 refine cw_cond rfl (fun hb=>?_) (fun hb=>?_)
 ·skip
  have hF1:=ct hF hb
  refine cq (cr ?_)
  refine sQ 23 (Y_buildS (zs:=kZ_) (vs:=[]) (cs:=kZ_) K72 K33 rfl mpn rfl) ?_
  refine s0 (yK 2 5 0 hS5 K6) ?_
  rintro _ w_5 ⟨rfl,hS6⟩
  refine sQ 7 (yg (.bool false)) (rn (ct_ ?_))
  obtain ⟨rfl,rfl⟩:=pr2 (sI hF1)
  exact ret2 Tryz.results140 (rX K17 K6 (hS6.c 2)) rT ⟨rfl,(hS6.sN [])⟩
 ·skip
  have hF2:=cf' hF hb
  refine cw_skip (cq (cr ?_))
  refine sQ 24 (yd (aD b) 0 0 Er K0)<|sQ 25 (yz 4 K1 (hS5.c 0))<|sQ 26 (yd (aD b1) 0 0 Er K0)<|sQ 27 (yz 4 K1 (hS5.c 1))<|sQ 28 (Y_max2 (k:=.i64) (a:=x.Exp) (b:=y.Exp) rfl rfl rfl)<|sQ 8 (yg (vi (if x.Exp<y.Exp then y.Exp else x.Exp))) (rn (cq (cr ?_)))
  refine sQ 30 (yw 0 K17 K6 (hS5.c 0))<|sQ 31 (ym (vi (if x.Exp<y.Exp then y.Exp else x.Exp))) ?_
  obtain ⟨⟨r_4,r_5⟩,hc2,hF2⟩:=bI hF2
  refine sc 32 rfl rfl (yc MW (OQ x (if x.Exp<y.Exp then y.Exp else x.Exp) _  (hS5.inn0 [] rfl) hc2)) ?_
  rintro _ w_6 ⟨rfl,hd1⟩
  have hS7:=hS5.out00 hd1
  refine sQ 29 (ym (.tuple #[gR_ r_4,.bool r_5]))<|sQ 33 (ye (gR_ r_4))<|sQ 34 (ye (.bool r_5)) ?_
  refine sS 9 (yN [vi 0,vi 0,vi 0,vi 0] 4 hS7 K37) ?_
  rintro _ w_7 ⟨b3,rfl,hS8⟩
  refine s0 (yK 3 4 0 hS8 K9) ?_
  rintro _ w_8 ⟨rfl,hS9⟩
  refine sQ 10 (yg (.bool r_5)) (rn (cq (cr ?_)))
  refine sQ 36 (yw 0 K17 K6 (hS9.c 1))<|sQ 37 (ym (vi (if x.Exp<y.Exp then y.Exp else x.Exp))) ?_
  obtain ⟨⟨r_6,r_7⟩,hc3,hF2⟩:=bI hF2
  refine sc 38 rfl rfl (yc MW (OQ y (if x.Exp<y.Exp then y.Exp else x.Exp) _  (hS9.inn0 [] rfl) hc3)) ?_
  rintro _ w_9 ⟨rfl,hd2⟩
  have hS10:=hS9.out00 hd2
  refine sQ 35 (ym (.tuple #[gR_ r_6,.bool r_7]))<|sQ 39 (ye (gR_ r_6))<|sQ 40 (ye (.bool r_7)) ?_
  refine sS 11 (yN [vi 0,vi 0,vi 0,vi 0] 4 hS10 K37) ?_
  rintro _ w_10 ⟨b4,rfl,hS11⟩
  refine s0 (yK 4 4 0 hS11 K9) ?_
  rintro _ w_11 ⟨rfl,hS12⟩
  refine sQ 12 (yg (.bool r_7)) (rn (cq (cr ?_)))
  refine sQ 42 (ym (.func (.func kf) #[] caps))<|sQ 43 (yw 0 K18 K9 (hS12.c 3))<|sQ 44 (yw 0 K18 K9 (hS12.c 4)) ?_
  obtain ⟨⟨r_8,r_9⟩,hc4,hF2⟩:=bI hF2
  refine sc 45 rfl rfl (Yc_clos (g:=kf) (vs:=(gR_ r_4)::(gR_ r_6)::caps.toList) hk rfl rfl (clo_args (mc rfl (mc rfl mn))) (hp _ (hS12.innS (fun _ h=>mOd (i:=0) h)) r_4 r_6 r_8 r_9 hc4)) ?_
  rintro _ w_12 ⟨rfl,hd3⟩
  have hS13:=hS12.out00 hd3
  refine sQ 41 (ym (.tuple #[gR_ r_8,.bool r_9]))<|sQ 46 (ye (gR_ r_8))<|sQ 47 (ye (.bool r_9)) ?_
  refine sS 13 (yN [vi 0,vi 0,vi 0,vi 0] 4 hS13 K37) ?_
  rintro _ w_13 ⟨b5,rfl,hS14⟩
  refine s0 (yK 5 4 0 hS14 K9) ?_
  rintro _ w_14 ⟨rfl,hS15⟩
  refine sQ 14 (yg (.bool r_9)) (rn (cq (cq (cr ?_))))
  refine sQ 48 (ym (.bool r_5))<|sQ 49 yn<|sQ 50 (ym (.bool (!r_5))) ?_
  refine sgq 51 rfl rfl (uF_ 50) (fun hg3=>(ym (.bool r_7))) ?_
  refine sgq 52 rfl rfl (uF_ 50) (fun hg4=>(yn rfl (gv_of hg4))) ?_
  refine sQ 53 yO<|sQ 54 (ym (.bool ((!r_5)||(!r_7)))) ?_
  refine sgq 55 rfl rfl (uF_ 54) (fun hg5=>(ym (.bool r_9))) ?_
  refine sgq 56 rfl rfl (uF_ 54) (fun hg6=>(yn rfl (gv_of hg6))) ?_
  refine sQ 57 yO (rn ?_)
  refine cw_cond rfl (fun hb1=>?_) (fun hb1=>?_)
  ·skip
   have hF3:=ct hF2 hb1
   refine cq (cr ?_)
   refine sQ 58 (Y_buildS (zs:=kZ_) (vs:=[]) (cs:=kZ_) K72 K33 rfl mpn rfl) ?_
   refine s0 (yK 2 5 0 hS15 K6) ?_
   rintro _ w_15 ⟨rfl,hS16⟩
   refine sQ 7 (yg (.bool false)) (rn (ct_ ?_))
   obtain ⟨rfl,rfl⟩:=pr2 (sI hF3)
   exact ret2 Tryz.results140 (rX K17 K6 (hS16.c 2)) rT ⟨rfl,(hS16.sN [])⟩
  ·skip
   have hF4:=cf' hF2 hb1
   refine cw_skip (cq (cr ?_))
   refine sQ 59 (yw 0 K18 K9 (hS15.c 5))<|sQ 60 (ym (vi (if x.Exp<y.Exp then y.Exp else x.Exp))) ?_
   obtain ⟨⟨r_10,r_11⟩,hc5,hF4⟩:=bI hF4
   refine sc 61 rfl rfl (yc Pf (M8 r_8 (if x.Exp<y.Exp then y.Exp else x.Exp) _  (hS15.inn0 [] rfl) hc5)) ?_
   rintro _ w_16 ⟨rfl,hd4⟩
   have hS17:=hS15.out00 hd4
   refine sQ 62 (ye (gD_ r_10))<|sQ 63 (ye (.bool r_11)) ?_
   refine s0 (yK 2 5 0 hS17 K6) ?_
   rintro _ w_17 ⟨rfl,hS18⟩
   refine sQ 7 (yg (.bool r_11)) (rn (ct_ ?_))
   obtain ⟨rfl,rfl⟩:=pr2 (sI hF4)
   exact ret2 Tryz.results140 (rX K17 K6 (hS18.c 2)) rT ⟨rfl,(hS18.sN [])⟩

theorem Qo (x:Aa) (y:Aa)  (w0:World)  (hS:ST w0 [] w0 [] []) {r_:Aa} {r_1:Bool} (hF:Ee x y=some (r_,r_1)) :
  CV Tryz.prog 141 #[gR_ x,gR_ y] w0 (fun v w'=>v=.tuple #[gR_ r_,.bool r_1]∧ST w0 [] w' [] []):=by
 unfold Ee at hF
 refine cv_of_cw 33 Tryz.func141 rfl Tryz.ntmps141 rfl ?_
 refine cq (cr ?_)
 refine sS 2 (yV (kR_ x) 4 hS) ?_
 rintro _ w_ ⟨b,rfl,hS1⟩
 refine sS 3 (yV (kR_ y) 4 hS1) ?_
 rintro _ w_1 ⟨b1,rfl,hS2⟩
 refine sS 4 (yN [vi 0,vi 0,vi 0,vi 0] 4 hS2 K37) ?_
 rintro _ w_2 ⟨b2,rfl,hS3⟩
 refine sQ 5 yu (rn (cq (cr ?_)))
 refine sQ 6 (yd (aD b) 0 0 K58 K0)<|sQ 7 (yz 0 K1 (hS3.c 0))<|sQ 8 (yd (aD b1) 0 0 K58 K0)<|sQ 9 (yz 0 K1 (hS3.c 1))<|sQ 10 zP<|sQ 11 (yd (aD b) 0 0 K63 K0) ?_
 refine sQ 12 (yz 1 K1 (hS3.c 0))<|sQ 13 (yd (aD b1) 0 0 K63 K0)<|sQ 14 (yz 1 K1 (hS3.c 1))<|sQ 15 zP<|sQ 16 (yd (aD b) 0 0 K64 K0)<|sQ 17 (yz 2 K1 (hS3.c 0)) ?_
 refine sQ 18 (yd (aD b1) 0 0 K64 K0)<|sQ 19 (yz 2 K1 (hS3.c 1))<|sQ 20 zP<|sQ 21 (yd (aD b) 0 0 K65 K0)<|sQ 22 (yz 3 K1 (hS3.c 0))<|sQ 23 (yd (aD b1) 0 0 K65 K0) ?_
 refine sQ 24 (yz 3 K1 (hS3.c 1))<|sQ 25 zP<|sQ 26 (Y_buildS (zs:=[vi 0,vi 0,vi 0,vi 0]) (vs:=[(0,vi (i64.wrap (x.A+y.A))),(1,vi (i64.wrap (x.B+y.B))),(2,vi (i64.wrap (x.C+y.C))),(3,vi (i64.wrap (x.D+y.D)))]) (cs:=[vi (i64.wrap (x.A+y.A)),vi (i64.wrap (x.B+y.B)),vi (i64.wrap (x.C+y.C)),vi (i64.wrap (x.D+y.D))]) K79 K37 rfl (mpc rfl (mpc rfl (mpc rfl (mpc rfl mpn)))) rfl)<|sQ 27 (yw 0 K18 K9 (hS3.c 0))<|sQ 28 (yw 0 K18 K9 (hS3.c 1)) ?_
 refine sS 29 (yF 4 2 [vi x.A,vi x.B,vi x.C,vi x.D,vi y.A,vi y.B,vi y.C,vi y.D] 8 hS3 K99 K9 Hn rfl (mpc rfl (mpc rfl mpn))) ?_
 rintro _ w_3 ⟨b3,rfl,hS4⟩
 obtain ⟨⟨r_2,r_3⟩,hc,hF⟩:=bI hF
 refine sc 30 rfl rfl (yc IT (IY (Aa.mk (i64.wrap (x.A+y.A)) (i64.wrap (x.B+y.B)) (i64.wrap (x.C+y.C)) (i64.wrap (x.D+y.D))) [x,y] (aD b3) 2 2 _ rfl (hS4.inn [false,false,false,true] rfl [] rfl) hc)) ?_
 rintro _ w_4 ⟨rfl,hd⟩
 have hS5:=hS4.out [false,false,false,true] rfl hd
 refine sQ 31 (ye (gR_ r_2))<|sQ 32 (ye (.bool r_3)) ?_
 refine s0 (yK 2 4 0 hS5 K9) ?_
 rintro _ w_5 ⟨rfl,hS6⟩
 refine sQ 5 yu (rn (ct_ ?_))
 obtain ⟨rfl,rfl⟩:=pr2 (sI hF)
 exact ret2 Tryz.results141 (rX K18 K9 (hS6.c 2)) rT ⟨rfl,(hS6.sN [])⟩

theorem QA (x:Ab) (y:Ab)  (w0:World)  (hS:ST w0 [] w0 [] []) {r_:Ab} {r_1:Bool} (hF:BX x y=some (r_,r_1)) :
  CV Tryz.prog 133 #[gD_ x,gD_ y] w0 (fun v w'=>v=.tuple #[gD_ r_,.bool r_1]∧ST w0 [] w' [] []):=by
 unfold BX at hF
 refine cv_of_cw 11 Tryz.func133 rfl Tryz.ntmps133 rfl ?_
 refine cq (cr ?_)
 refine sS 2 (yV (kD_ x) 5 hS) ?_
 rintro _ w_ ⟨b,rfl,hS1⟩
 refine sS 3 (yV (kD_ y) 5 hS1) ?_
 rintro _ w_1 ⟨b1,rfl,hS2⟩
 refine sS 4 (yN kZ_ 5 hS2 K33) ?_
 rintro _ w_2 ⟨b2,rfl,hS3⟩
 refine sQ 5 yu (rn (cq (cr ?_)))
 refine sQ 6 (yw 0 K17 K6 (hS3.c 0))<|sQ 7 (yw 0 K17 K6 (hS3.c 1)) ?_
 obtain ⟨⟨r_2,r_3⟩,hc,hF⟩:=bI hF
 refine sc 8 rfl rfl (yc W6 (TE x y Ee 141 (#[]) [] _ Uh (fun w hw x_0 x_1 y_0 y_1 h_=>Qo x_0 x_1  w  hw h_) (hS3.inn0 [] rfl) hc)) ?_
 rintro _ w_3 ⟨rfl,hd⟩
 have hS4:=hS3.out00 hd
 refine sQ 9 (ye (gD_ r_2))<|sQ 10 (ye (.bool r_3)) ?_
 refine s0 (yK 2 5 0 hS4 K6) ?_
 rintro _ w_4 ⟨rfl,hS5⟩
 refine sQ 5 yu (rn (ct_ ?_))
 obtain ⟨rfl,rfl⟩:=pr2 (sI hF)
 exact ret2 Tryz.results133 (rX K17 K6 (hS5.c 2)) rT ⟨rfl,(hS5.sN [])⟩

theorem Sp (i:Int) (j:Int) (p:Af) (p1:Af) (B:Option Addr) (B1:Option Addr) (c n:Nat) (B2:Option Addr) (B3:Option Addr) (c1 n1:Nat) (w0:World) (hn:p.Cells.length=n) (hn1:p1.Cells.length=n1) (hS:ST w0 [] w0 [] [⟨B,[vi p.Rows,vi p.Cols,.slice B1 n c]⟩,⟨B1,(p.Cells.flatMap Aw)⟩,⟨B2,[vi p1.Rows,vi p1.Cols,.slice B3 n1 c1]⟩,⟨B3,(p1.Cells.flatMap Aw)⟩]) {r_:Ab} {r_1:Bool} (hF:DK i j p p1=some (r_,r_1)) :
  CV Tryz.prog 132 #[vi i,vi j,pt B 0,pt B2 0] w0 (fun v w'=>v=.tuple #[gD_ r_,.bool r_1]∧ST w0 [] w' [] []):=by
 subst hn
 subst hn1
 unfold DK at hF
 refine cv_of_cw 48 Tryz.func132 rfl Tryz.ntmps132 rfl ?_
 refine cq (cr ?_)
 refine sS 6 (yN kZ_ 5 hS K33) ?_
 rintro _ w_ ⟨b,rfl,hS1⟩
 refine sQ 7 yu (rn (cq (cr ?_)))
 refine sQ 14 (Y_buildS (zs:=kZ_) (vs:=[]) (cs:=kZ_) K72 K33 rfl mpn rfl) ?_
 refine sS 8 (yN kZ_ 5 hS1 K33) ?_
 rintro _ w_1 ⟨b1,rfl,hS2⟩
 refine s0 (yK 1 5 0 hS2 K6) ?_
 rintro _ w_2 ⟨rfl,hS3⟩
 refine rn (cq (cq (cr ?_)))
 refine sQ 15 (yd B 0 0 K91 K0)<|sQ 16 (yz 1 K1 (hS3.rf (i:=0) rfl))<|sQ 17 yv (rn ?_)
 obtain ⟨hN,hF⟩:=chk_inv hF
 obtain ⟨z,hz,hF1⟩:=bI hF
 refine cw_block ?_
 refine cw_loop (fun k f w=>∃ (i1:Nat) (A:Int) (B4:Int) (C:Int) (D:Int) (Exp:Int),FF f [(0,vi i),(1,vi j),(2,pt B 0),(3,pt B2 0),(6,pt (aD b) 0),(8,pt (aD b1) 0),(16,vi p.Cols),(17,vi (i1:Int))]∧ST w0 [] w [⟨aD b,140,kZ_,5⟩,⟨aD b1,140,[vi A,vi B4,vi C,vi D,vi Exp],5⟩] [⟨B,kM_ p B1 c⟩,⟨B1,(p.Cells.flatMap Aw)⟩,⟨B2,kM_ p1 B3 c1⟩,⟨B3,(p1.Cells.flatMap Aw)⟩]∧i1+k=p.Cols.toNat∧forX (Fp p i p1 j) k i1 (A,B4,C,D,Exp)=some z) p.Cols.toNat ⟨0,0,0,0,0,0,(fc rfl (fc rfl (fc rfl (fc rfl (fc rfl (fc rfl (fc rfl (fc rfl fn_)))))))),(hS3.sel [0,1] rfl rfl),Nat.zero_add _,hz⟩ ?_
 rintro k_ f w ⟨i1,A,B4,C,D,Exp,hf,hS4,hik,hL⟩
 refine cq (cr ?_)
 refine sQ 18 (zL rfl (hf.g 17 7) (hf.g 16 6)) (rn (cq ?_))
 refine cw_cond rfl (fun hlt=>?_) (fun hlt=>?_)
 ·skip
  have hlt1:i1<p.Cols.toNat:=by have h:=of_decide_eq_true hlt; omega
  obtain ⟨K2,rfl⟩:∃ k2,k_=k2+1:=⟨k_-1,by omega⟩
  obtain ⟨y,hb,hL1⟩:=forX_go hL
  unfold Fp at hb
  refine cw_skip (cq (cw_block (cq (cr ?_))))
  refine sQ 19 (yv rfl (hf.g 17 7))<|sQ 9 yu (rn (cq ?_))
  obtain ⟨r_2,hc,hb⟩:=bI hb
  obtain ⟨r_3,hc1,hb⟩:=bI hb
  obtain ⟨⟨r_4,r_5⟩,hc2,hb⟩:=bI hb
  refine ra_start (hS4.se [0,1]).fn (by kernel_rfl) ?_
  have hS8:=hS4.drew
  have hQ0:=hS8.se [0,1]
  refine rq 0 21 rfl hQ0 (fun _ q=>(yw 0 K32 K14 (ST.rf q (i:=0) rfl) rfl (hf.g 2 2)))<|rq 1 22 rfl hQ0 (fun _ q=>(yv rfl (hf.g 0 0)))<|rq 2 23 rfl hQ0 (fun _ q=>yv)<|rq 4 25 rfl hQ0 (fun _ q=>(yw 0 K32 K14 (ST.rf q (i:=2) rfl) rfl (hf.g 3 3)))<|rq 5 26 rfl hQ0 (fun _ q=>yv) ?_
  refine rq 6 27 rfl hQ0 (fun _ q=>(yv rfl (hf.g 1 1))) ?_
  let O0:Ob:=⟨aD b1,140,[vi A,vi B4,vi C,vi D,vi Exp],5⟩
  let P1:List Ob:=[⟨aD b,140,kZ_,5⟩,O0]
  refine rf_in (k:=8) (ts:=[]) (L:=P1) (G:=[]) [fN 12 10 140 kZ_ 5] hS8 (flc rfl rfl rfl (fun _ _ _ _ hf_ h=>(yN kZ_ 5 h K33)) fln) (fun hJ=>?_)
  refine rf_all [3] hJ (fun Z w h=>(ST.sel (ST.noF h) [0,1] rfl rfl)) (fun Z w_3 hz1 hS9=>?_)
  refine rC 24 3 rfl (yc KY (JQ p i (i1:Int) B1 c p.Cells.length _ rfl (hS9.inn0 [(true,1)] rfl) hc)) ?_ aN
  rintro _ w_4 ⟨rfl,hd⟩
  have hS10:=hS9.out00 hd
  refine rf_k (L:=P1) hz1 hS10 (fun Z w h=>(ST.sel (ST.noF h) [0,1] rfl rfl)) ?_
  refine rf_all [7] hJ (fun Z w h=>(ST.sel (ST.noF h) [0,1] rfl rfl)) (fun Z1 w_5 hz2 hS11=>?_)
  refine rC 28 7 rfl (yc KY (JQ p1 (i1:Int) j B3 c1 p1.Cells.length _ rfl (hS11.inn0 [(true,3)] rfl) hc1)) ?_ aN
  rintro _ w_6 ⟨rfl,hd1⟩
  have hS12:=hS11.out00 hd1
  refine rf_k (L:=P1) hz2 hS12 (fun Z w h=>(ST.sel (ST.noF h) [0,1] rfl rfl)) ?_
  refine rf_all [8] hJ (fun Z w h=>(ST.sel (ST.noF h) [0,1] rfl rfl)) (fun Z2 w_7 hz3 hS13=>?_)
  refine rC 29 8 rfl (yc N9 (Ou r_2 r_3 _  (hS13.inn0 [] rfl) hc2)) ?_ aN
  rintro _ w_8 ⟨rfl,hd2⟩
  have hS14:=hS13.out00 hd2
  refine rf_k (L:=P1) hz3 hS14 (fun Z w h=>(ST.sel (ST.noF h) [0,1] rfl rfl)) ?_
  refine rf_q 9 20 (v:=.tuple #[gD_ r_4,.bool r_5]) rfl (fun Z w h=>(ST.sel (ST.noF h) [0,1] rfl rfl)) (fun Z _ q=>yv) ?_
  refine rf_q 10 30 (v:=gD_ r_4) rfl (fun Z w h=>(ST.sel (ST.noF h) [0,1] rfl rfl)) (fun Z _ q=>(ye (gD_ r_4))) ?_
  refine rf_q 11 31 (v:=.bool r_5) rfl (fun Z w h=>(ST.sel (ST.noF h) [0,1] rfl rfl)) (fun Z _ q=>(ye (.bool r_5))) ?_
  refine rf_force hJ (fun Z w h=>(ST.sel (ST.noF h) [0,1] rfl rfl)) (fun b2=>?_)
  refine rf_out (fun w_9 hS15=>?_)
  refine rA [13] ?_
  refine rZ 13 rfl (yK 2 5 0 hS15 K6) ?_ aN
  rintro _ w_10 ⟨rfl,hS16⟩
  refine ⟨(hS16.se [0,1]),?_⟩
  refine rq 14 11 rfl (hS16.se [0,1]) (fun _ q=>yu) ?_
  refine ra_done (by kernel_rfl) ?_
  refine cq (cr ?_)
  refine sQ 33 (yw 0 K17 K6 (hS16.c 1) rfl (hf.g 8 5))<|sQ 34 (yw 0 K17 K6 (hS16.c 2)) ?_
  obtain ⟨⟨r_6,r_7⟩,hc3,hb⟩:=bI hb
  refine sc 35 rfl rfl (yc TU (QA (Ab.mk (Aa.mk A B4 C D) Exp) r_4 _  (hS16.inn0 [] rfl) hc3)) ?_
  rintro _ w_11 ⟨rfl,hd3⟩
  have hS17:=hS16.out00 hd3
  refine sQ 32 yv<|sQ 36 (ye (gD_ r_6))<|sQ 37 (ye (.bool r_7)) ?_
  refine sS 12 (yN kZ_ 5 hS17 K33) ?_
  rintro _ w_12 ⟨b3,rfl,hS18⟩
  refine s0 (yK 3 5 0 hS18 K6) ?_
  rintro _ w_13 ⟨rfl,hS19⟩
  refine sQ 13 yu (rn (cq (cq (cr ?_))))
  refine sQ 38 yv<|sQ 39 yn<|sQ 40 yv ?_
  refine sgq 41 rfl rfl (uF_ 40) (fun hg=>yv) ?_
  refine sgq 42 rfl rfl (uF_ 40) (fun hg1=>(yn rfl (gv_of hg1))) ?_
  refine sQ 43 yO (rn ?_)
  refine cw_cond rfl (fun hb1=>?_) (fun hb1=>?_)
  ·skip
   have hF2:=ct hb hb1
   refine cq (cr ?_)
   refine sQ 44 (Y_buildS (zs:=kZ_) (vs:=[]) (cs:=kZ_) K72 K33 rfl mpn rfl) ?_
   refine s0 (yK 0 5 0 hS19 K6 rfl (hf.g 6 4)) ?_
   rintro _ w_14 ⟨rfl,hS20⟩
   refine sQ 7 yu (rn (ct_ ?_))
   obtain rfl:=sI hF2
   obtain rfl:=sI hL1
   obtain ⟨rfl,rfl⟩:=pr2 (sI hF1)
   exact ret2 Tryz.results132 (rX K17 K6 (hS20.c 0) (hf.g 6 4)) rT ⟨rfl,(hS20.sN [])⟩
  ·skip
   have hF3:=cf' hb hb1
   refine cw_skip (cr ?_)
   refine sQ 45 (yw 0 K17 K6 (hS19.c 3)) ?_
   refine s0 (yK 1 5 0 hS19 K6 rfl (hf.g 8 5)) ?_
   rintro _ w_15 ⟨rfl,hS21⟩
   refine rn (cr ?_)
   refine sQ 46 (zP rfl (hf.g 17 7))<|sQ 17 yv (rn ?_)
   obtain rfl:=sI hF3
   exact ⟨K2,Nat.lt_succ_self _,i1+1,r_6.Num.A,r_6.Num.B,r_6.Num.C,r_6.Num.D,r_6.Exp,(hf.a 0 0 (hf.a 1 1 (hf.a 2 2 (hf.a 3 3 (hf.a 6 4 (hf.a 8 5 (hf.a 16 6 (fc (congrArg (Value.int .i64) (wr_succ hlt1 hN)) fn_)))))))),(hS21.sel [0,1] rfl rfl),(by omega),hL1⟩
 ·skip
  obtain rfl:k_=0:=by have h:=of_decide_eq_false hlt; omega
  refine cw_exit rfl ?_
  obtain rfl:=sI hL
  refine cq (cr ?_)
  refine sQ 47 (yw 0 K17 K6 (hS4.c 1) rfl (hf.g 8 5)) ?_
  refine s0 (yK 0 5 0 hS4 K6 rfl (hf.g 6 4)) ?_
  rintro _ w_16 ⟨rfl,hS22⟩
  refine sQ 7 yu (rn (ct_ ?_))
  obtain ⟨rfl,rfl⟩:=pr2 (sI hF1)
  exact ret2 Tryz.results132 (rX K17 K6 (hS22.c 0) (hf.g 6 4)) rT ⟨rfl,(hS22.sN [])⟩

theorem Wg (a:Af) (b:Af) (B:Option Addr) (c n:Nat) (B1:Option Addr) (c1 n1:Nat) (w0:World) (hn:a.Cells.length=n) (hn1:b.Cells.length=n1) (hS:ST w0 [] w0 [] [⟨B,(a.Cells.flatMap Aw)⟩,⟨B1,(b.Cells.flatMap Aw)⟩]) {r_:Af} {r_1:Bool} (hF:F0 a b=some (r_,r_1)) :
  CV Tryz.prog 110 #[.agg #[vi a.Rows,vi a.Cols,.slice B n c],.agg #[vi b.Rows,vi b.Cols,.slice B1 n1 c1]] w0 (fun v w'=>∃ (B2:Option Addr) (c2:Nat),v=.tuple #[gM_ r_ B2 c2,.bool r_1]∧ST w0 [] w' [⟨B2,140,(r_.Cells.flatMap Aw),c2*5⟩] []):=by
 subst hn
 subst hn1
 unfold F0 at hF
 refine cv_of_cw 30 Tryz.func110 rfl Tryz.ntmps110 rfl ?_
 refine cq (cr ?_)
 refine sS 2 (yV (kM_ a B c) 3 hS) ?_
 rintro _ w_ ⟨b1,rfl,hS1⟩
 refine sS 3 (yV (kM_ b B1 c1) 3 hS1) ?_
 rintro _ w_1 ⟨b2,rfl,hS2⟩
 refine sS 4 (yN kN_ 3 hS2 K48) ?_
 rintro _ w_2 ⟨b3,rfl,hS3⟩
 refine sQ 5 yu (rn (cq (cq (cr ?_))))
 refine sQ 6 (yw 0 K32 K14 (hS3.c 0)) ?_
 obtain ⟨r_2,hc,hF⟩:=bI hF
 refine sc 7 rfl rfl (yc GS (GI a B c a.Cells.length _ rfl (hS3.inn0 [(true,0)] rfl) hc)) ?_
 rintro _ w_3 ⟨rfl,hd⟩
 have hS4:=hS3.out00 hd
 refine sQ 8 yn<|sQ 9 yv ?_
 refine sgq 10 rfl rfl (uF_ 9) (fun hg=>(yw 0 K32 K14 (hS4.c 1))) ?_
 obtain ⟨r_3,hc1,hF⟩:=bI hF
 refine sgc 11 (v:=.bool r_3) (F:=hS4.fn) rfl rfl (uF_ 9) hS4 (fun hg1=>(yc GS (CV.mono (GI b B1 c1 b.Cells.length _ rfl (hS4.inn0 [(true,1)] rfl) (gb_inv hc1 hg1)) (by rintro _ _ ⟨rfl,h⟩; exact ⟨rfl,hS4.out00 h⟩)) rfl (mc (gv_of hg1) mn))) ?_
 rintro w_4 hS5
 refine sgq 12 rfl rfl (uF_ 9) (fun hg2=>(yn rfl (gv_of hg2))) ?_
 refine sQ 13 yO<|sQ 14 yv ?_
 refine sgq 15 rfl rfl (uF_ 14) (fun hg3=>(yd (aD b1) 0 0 K91 K0)) ?_
 refine sgq 16 rfl rfl (uF_ 14) (fun hg4=>(yz 1 K1 (hS5.c 0) rfl (gv_of hg4))) ?_
 refine sgq 17 rfl rfl (uF_ 14) (fun hg5=>(yd (aD b2) 0 0 DX K0)) ?_
 refine sgq 18 rfl rfl (uF_ 14) (fun hg6=>(yz 0 K1 (hS5.c 1) rfl (gv_of hg6))) ?_
 refine sgq 19 rfl rfl (uF_ 14) (fun hg7=>(Y_ne rfl (gv_of hg7) (gv_of hg7))) ?_
 refine sQ 20 yO (rn ?_)
 refine cw_cond rfl (fun hb=>?_) (fun hb=>?_)
 ·skip
  have hF1:=ct hF hb
  refine cq (cr ?_)
  refine sQ 21 (Y_buildS (zs:=kN_) (vs:=[]) (cs:=kN_) E7 K48 rfl mpn rfl) ?_
  refine s0 (yK 2 3 0 hS5 K14) ?_
  rintro _ w_5 ⟨rfl,hS6⟩
  refine sQ 5 yu (rn (ct_ ?_))
  have hS7:=hS6.addNil 140
  obtain ⟨rfl,rfl⟩:=pr2 (sI hF1)
  exact ret2 Tryz.results110 (rX K32 K14 (hS7.c 2)) rT ⟨none,0,rfl,(hS7.sN [3])⟩
 ·skip
  have hF2:=cf' hF hb
  refine cw_skip (cq (cr ?_))
  refine sQ 22 (yd (aD b1) 0 0 DX K0)<|sQ 23 (yz 0 K1 (hS5.c 0))<|sQ 24 (yd (aD b2) 0 0 K91 K0)<|sQ 25 (yz 1 K1 (hS5.c 1))<|sQ 26 (Y_makeFunc (cs:=[pt (aD b1) 0,pt (aD b2) 0]) rfl rfl (mc rfl (mc rfl mn))) ?_
  obtain ⟨⟨r_4,r_5⟩,hc2,hF2⟩:=bI hF2
  refine sc 27 rfl rfl (yc Ig (Iu a.Rows b.Cols (fun x_0 x_1=>DK x_0 x_1 a b) 132 (#[pt (aD b1) 0,pt (aD b2) 0]) [⟨aD b1,kM_ a B c⟩,⟨B,(a.Cells.flatMap Aw)⟩,⟨aD b2,kM_ b B1 c1⟩,⟨B1,(b.Cells.flatMap Aw)⟩] _ RS (fun w hw x_0 x_1 y_0 y_1 h_=>Sp x_0 x_1 a b (aD b1) B c a.Cells.length (aD b2) B1 c1 b.Cells.length w rfl rfl hw h_) (hS5.inn0 [(false,0),(true,0),(false,1),(true,1)] rfl) hc2)) ?_
  rintro _ w_6 ⟨B3,c3,rfl,hd1⟩
  have hS8:=hS5.out0 hd1
  refine sQ 28 (ye (gM_ r_4 B3 c3))<|sQ 29 (ye (.bool r_5)) ?_
  refine s0 (yK 2 3 0 hS8 K14) ?_
  rintro _ w_7 ⟨rfl,hS9⟩
  refine sQ 5 yu (rn (ct_ ?_))
  obtain ⟨rfl,rfl⟩:=pr2 (sI hF2)
  exact ret2 Tryz.results110 (rX K32 K14 (hS9.c 2)) rT ⟨B3,c3,rfl,(hS9.sN [3])⟩

theorem U0 (c:Ad) (m:Af) (ok:Bool) (B:Option Addr) (c1 n:Nat) (B1:Option Addr) (c2 n1:Nat) (w0:World) (hn:c.Gates.length=n) (hn1:m.Cells.length=n1) (hS:ST w0 (bl [⟨B1,140,(m.Cells.flatMap Aw),c2*5⟩]) w0 [⟨B1,140,(m.Cells.flatMap Aw),c2*5⟩] [⟨B,(c.Gates.flatMap eN0)⟩]) {r_:Af} {r_1:Bool} (hF:FZ c m ok=some (r_,r_1)) :
  CV Tryz.prog 84 #[.agg #[vi c.Qubits,.slice B n c1],.agg #[vi m.Rows,vi m.Cols,.slice B1 n1 c2],.bool ok] w0 (fun v w'=>∃ (B2:Option Addr) (c3:Nat),v=.tuple #[gM_ r_ B2 c3,.bool r_1]∧ST w0 (bl [⟨B1,140,(m.Cells.flatMap Aw),c2*5⟩]) w' [⟨B2,140,(r_.Cells.flatMap Aw),c3*5⟩] []):=by
 subst hn
 subst hn1
 unfold FZ at hF
 refine cv_of_cw 40 Tryz.func84 rfl Tryz.ntmps84 rfl ?_
 refine cq (cr ?_)
 refine sS 3 (yV [vi c.Qubits,.slice B c.Gates.length c1] 2 hS) ?_
 rintro _ w_ ⟨b,rfl,hS1⟩
 refine sS 4 (yV (kM_ m B1 c2) 3 hS1) ?_
 rintro _ w_1 ⟨b1,rfl,hS2⟩
 refine sS 6 (yN kN_ 3 hS2 K48) ?_
 rintro _ w_2 ⟨b2,rfl,hS3⟩
 refine sQ 7 yu (rn (cq (cq (cr ?_))))
 refine sQ 8 yu (rn ?_)
 obtain ⟨z,hz,hF1⟩:=bI hF
 refine cw_block ?_
 let O1:Ob:=⟨aD b,28,[vi c.Qubits,.slice B c.Gates.length c1],2⟩
 refine cw_loop (fun k f w=>∃ (ok1:Bool) (Rows:Int) (Cols:Int) (Cells:List Ab) (i:Int) (B3:Option Addr) (c4:Nat),FF f [(2,.bool ok1),(3,pt (aD b) 0),(4,pt (aD b1) 0),(6,pt (aD b2) 0),(8,vi i)]∧ST w0 (bl [⟨B1,140,(m.Cells.flatMap Aw),c2*5⟩]) w [O1,⟨aD b1,94,[vi Rows,vi Cols,.slice B3 Cells.length c4],3⟩,⟨B3,140,(Cells.flatMap Aw),c4*5⟩,⟨aD b2,94,kN_,3⟩] [⟨B,(c.Gates.flatMap eN0)⟩]∧whX (CH c) k (ok1,Rows,Cols,Cells,i)=some z) fuel ⟨ok,m.Rows,m.Cols,m.Cells,0,B1,c2,(fc rfl (fc rfl (fc rfl (fc rfl (fc rfl fn_))))),(hS3.sel [1,2,0,3] rfl rfl),hz⟩ ?_
 rintro k_ f w ⟨ok1,Rows,Cols,Cells,i,B3,c4,hf,hS4,hL⟩
 obtain ⟨K2,y,rfl,hb,hL1⟩:=whX_go hL
 unfold CH at hb
 refine cq (cq (cr ?_))
 refine sQ 11 (yv rfl (hf.g 8 4))<|sQ 12 (yd (aD b) 0 0 K19 K15 rfl (hf.g 3 1))<|sQ 13 (yz 1 K21 (hS4.c 0))<|sQ 14 (Y_len K12 rfl rfl)<|sQ 15 zL<|sQ 16 yv ?_
 refine sgq 17 rfl rfl (uT_ 16) (fun hg=>(yv rfl (hf.g 2 0))) ?_
 refine sQ 18 yA (rn ?_)
 refine cw_cond rfl (fun hb1=>?_) (fun hb1=>?_)
 ·skip
  have hF2:=ct hb hb1
  refine cw_skip (cq (cw_block (cq ?_)))
  obtain ⟨x,hx,hF2⟩:=bI hF2
  obtain ⟨⟨r_2,r_3⟩,hc,hF2⟩:=bI hF2
  refine ra_start (hS4.se [0,1,2,3]).fn (by kernel_rfl) ?_
  have hS6:=hS4.drew
  have hQ0:=hS6.se [0,1,2,3]
  refine rq 0 22 rfl hQ0 (fun _ q=>(yd (aD b) 0 0 K42 K0 rfl (hf.g 3 1)))<|rq 1 23 rfl hQ0 (fun _ q=>(yz 0 K1 (ST.c q 0)))<|rq 2 24 rfl hQ0 (fun _ q=>(yd (aD b) 0 0 K19 K15 rfl (hf.g 3 1)))<|rq 3 25 rfl hQ0 (fun _ q=>(yz 1 K21 (ST.c q 0)))<|rq 4 26 rfl hQ0 (fun _ q=>(yv rfl (hf.g 8 4))) ?_
  refine rq 5 27 rfl hQ0 (fun _ q=>(yI B i K12 K7 (gi_isSome eN8 rfl (ST.rf q (i:=0) rfl) hx) (getI_nn hx) (getI_ltI hx rfl)))<|rq 6 28 rfl hQ0 (fun _ q=>(ya B (i.toNat*3) (c.Gates.flatMap eN0) [vi x.Kind,vi x.A,vi x.B] K35 K7 (ST.rf q (i:=0) rfl) rfl rfl (eN8 x) (gi_seg eN8 hx))) ?_
  let O0:Ob:=⟨aD b1,94,[vi Rows,vi Cols,.slice B3 Cells.length c4],3⟩
  let O2:Ob:=⟨B3,140,(Cells.flatMap Aw),c4*5⟩
  refine rf_in (k:=6) (ts:=[]) (L:=[O1,O0,O2,⟨aD b2,94,kN_,3⟩]) (G:=[]) [fN 11 9 94 kN_ 3] hS6 (flc rfl rfl rfl (fun _ _ _ _ hf_ h=>(yN kN_ 3 h K48)) fln) (fun hJ=>?_)
  refine rf_all [7] hJ (fun Z w h=>(ST.sel (ST.noF h) [0,1,2,3] rfl rfl)) (fun Z w_3 hz1 hS7=>?_)
  refine rC 29 7 rfl (yc Wv (UT c.Qubits x _  (hS7.inn0 [] rfl) hc)) ?_ aN
  rintro _ w_4 ⟨B4,c5,rfl,hd⟩
  have hS8:=hS7.out0 hd
  let O3:Ob:=⟨B4,140,(r_2.Cells.flatMap Aw),c5*5⟩
  have hS9:ST w0 (bl [⟨B1,140,(m.Cells.flatMap Aw),c2*5⟩]) _ (O1::O0::O2::⟨aD b2,94,kN_,3⟩::O3::(flL [fN 11 9 94 kN_ 3] Z++[])) [⟨B,(c.Gates.flatMap eN0)⟩]:=ST.rot (pre:=[O1,O0,O2,⟨aD b2,94,kN_,3⟩]) (G:=(flL [fN 11 9 94 kN_ 3] Z++[])) (xs:=[O3]) hS8
  refine rf_k (L:=[O1,O0,O2,⟨aD b2,94,kN_,3⟩,O3]) hz1 hS9 (fun Z w h=>(ST.sel (ST.noF h) [0,1,2,3] rfl rfl)) ?_
  refine rf_q 8 21 (v:=.tuple #[gM_ r_2 B4 c5,.bool r_3]) rfl (fun Z w h=>(ST.sel (ST.noF h) [0,1,2,3] rfl rfl)) (fun Z _ q=>yv) ?_
  refine rf_q 9 30 (v:=gM_ r_2 B4 c5) rfl (fun Z w h=>(ST.sel (ST.noF h) [0,1,2,3] rfl rfl)) (fun Z _ q=>(ye (gM_ r_2 B4 c5))) ?_
  refine rf_q 10 31 (v:=.bool r_3) rfl (fun Z w h=>(ST.sel (ST.noF h) [0,1,2,3] rfl rfl)) (fun Z _ q=>(ye (.bool r_3))) ?_
  refine rf_force hJ (fun Z w h=>(ST.sel (ST.noF h) [0,1,2,3] rfl rfl)) (fun b3=>?_)
  refine rf_out (fun w_5 hS10=>?_)
  refine rA [12] ?_
  refine rZ 12 rfl (yK 5 3 0 hS10 K14) ?_ aN
  rintro _ w_6 ⟨rfl,hS11⟩
  refine ⟨(hS11.se [0,1,2,3]),?_⟩
  refine rq 13 10 rfl (hS11.se [0,1,2,3]) (fun _ q=>yu) ?_
  refine ra_done (by kernel_rfl) ?_
  refine cr ?_
  refine sQ 33 (yw 0 K32 K14 (hS11.c 5))<|sQ 34 (yw 0 K32 K14 (hS11.c 1) rfl (hf.g 4 2)) ?_
  obtain ⟨⟨r_4,r_5⟩,hc1,hF2⟩:=bI hF2
  refine sc 35 rfl rfl (yc RP (Wg r_2 (Af.mk Rows Cols Cells) B4 c5 r_2.Cells.length B3 c4 Cells.length _ rfl rfl (hS11.inn0 [(false,4),(false,2)] rfl) hc1)) ?_
  rintro _ w_7 ⟨B5,c6,rfl,hd1⟩
  have hS12:=hS11.out0 hd1
  refine sQ 32 yv<|sQ 36 (ye (gM_ r_4 B5 c6))<|sQ 37 (ye (.bool r_5)) ?_
  refine s0 (yK 1 3 0 hS12 K14 rfl (hf.g 4 2)) ?_
  rintro _ w_8 ⟨rfl,hS13⟩
  refine sQ 2 yu (rn (cr ?_))
  refine sQ 19 (yv rfl (hf.g 8 4))<|sQ 20 zP<|sQ 8 yu (rn ?_)
  obtain rfl:=sI hF2
  exact ⟨K2,Nat.lt_succ_self _,r_5,r_4.Rows,r_4.Cols,r_4.Cells,(i64.wrap (i+1)),B5,c6,(fc rfl (hf.a 3 1 (hf.a 4 2 (hf.a 6 3 (fc rfl fn_))))),(hS13.sel [0,1,6,3] rfl rfl),hL1⟩
 ·skip
  have hF3:=cf' hb hb1
  refine cw_exit rfl ?_
  obtain rfl:=sI hF3
  obtain rfl:=sI hL1
  refine cq (cr ?_)
  refine sQ 38 (yw 0 K32 K14 (hS4.c 1) rfl (hf.g 4 2))<|sQ 39 (yv rfl (hf.g 2 0)) ?_
  refine s0 (yK 3 3 0 hS4 K14 rfl (hf.g 6 3)) ?_
  rintro _ w_9 ⟨rfl,hS14⟩
  refine sQ 7 yu (rn (ct_ ?_))
  obtain ⟨rfl,rfl⟩:=pr2 (sI hF1)
  exact ret2 Tryz.results84 (rX K32 K14 (hS14.c 3) (hf.g 6 3)) rT ⟨B3,c4,rfl,(hS14.sN [2])⟩

theorem Pu (c:Ad) (B:Option Addr) (c1 n:Nat) (w0:World) (hn:c.Gates.length=n) (hS:ST w0 [] w0 [] [⟨B,(c.Gates.flatMap eN0)⟩]) {r_:Af} {r_1:Bool} (hF:Dz c=some (r_,r_1)) :
  CV Tryz.prog 51 #[.agg #[vi c.Qubits,.slice B n c1]] w0 (fun v w'=>∃ (B1:Option Addr) (c2:Nat),v=.tuple #[gM_ r_ B1 c2,.bool r_1]∧ST w0 [] w' [⟨B1,140,(r_.Cells.flatMap Aw),c2*5⟩] []):=by
 subst hn
 unfold Dz at hF
 refine cv_of_cw 23 Tryz.func51 rfl Tryz.ntmps51 rfl ?_
 refine cq (cr ?_)
 refine sS 1 (yV [vi c.Qubits,.slice B c.Gates.length c1] 2 hS) ?_
 rintro _ w_ ⟨b,rfl,hS1⟩
 refine sS 2 (yN kN_ 3 hS1 K48) ?_
 rintro _ w_1 ⟨b1,rfl,hS2⟩
 refine sQ 3 yu (rn (cq (cq (cr ?_))))
 refine sQ 6 (yw 0 K10 K3 (hS2.c 0)) ?_
 obtain ⟨r_2,hc,hF⟩:=bI hF
 refine sc 7 rfl rfl (yc K93 (D0 c B c1 c.Gates.length _ rfl (hS2.inn0 [(true,0)] rfl) hc)) ?_
 rintro _ w_2 ⟨rfl,hd⟩
 have hS3:=hS2.out00 hd
 refine sQ 8 yn (rn ?_)
 refine cw_cond rfl (fun hb=>?_) (fun hb=>?_)
 ·skip
  have hF1:=ct hF hb
  refine cq (cr ?_)
  refine sQ 9 (Y_buildS (zs:=kN_) (vs:=[]) (cs:=kN_) E7 K48 rfl mpn rfl) ?_
  refine s0 (yK 1 3 0 hS3 K14) ?_
  rintro _ w_3 ⟨rfl,hS4⟩
  refine sQ 3 yu (rn (ct_ ?_))
  have hS5:=hS4.addNil 140
  obtain ⟨rfl,rfl⟩:=pr2 (sI hF1)
  exact ret2 Tryz.results51 (rX K32 K14 (hS5.c 1)) rT ⟨none,0,rfl,(hS5.sN [2])⟩
 ·skip
  have hF2:=cf' hF hb
  refine cw_skip (cq (cr ?_))
  refine sQ 11 (yd (aD b) 0 0 K42 K0)<|sQ 12 (yz 0 K1 (hS3.c 0)) ?_
  obtain ⟨hsh,hF2⟩:=chk_inv hF2
  refine sQ 13 (Y_shl (k:=.i64) (a:=1) (k':=.i64) (b:=c.Qubits) rfl rfl rfl hsh) ?_
  obtain ⟨⟨r_3,r_4⟩,hc1,hF2⟩:=bI hF2
  refine sc 14 rfl rfl (yc RR (Ru (shlK .i64 1 c.Qubits) _  (hS3.inn0 [] rfl) hc1)) ?_
  rintro _ w_4 ⟨B2,c3,rfl,hd1⟩
  have hS6:=hS3.out0 hd1
  refine sQ 10 yv<|sQ 15 (ye (gM_ r_3 B2 c3))<|sQ 16 (ye (.bool r_4)) ?_
  refine sS 4 (yN kN_ 3 hS6 K48) ?_
  rintro _ w_5 ⟨b2,rfl,hS7⟩
  refine s0 (yK 3 3 0 hS7 K14) ?_
  rintro _ w_6 ⟨rfl,hS8⟩
  refine sQ 5 yu (rn (cq (cr ?_)))
  refine sQ 17 (yw 0 K10 K3 (hS8.c 0))<|sQ 18 (yw 0 K32 K14 (hS8.c 3))<|sQ 19 yv ?_
  obtain ⟨⟨r_5,r_6⟩,hc2,hF2⟩:=bI hF2
  refine sc 20 rfl rfl (yc Vh (U0 c r_3 r_4 B c1 c.Gates.length B2 c3 r_3.Cells.length _ rfl rfl (hS8.inn [false,false,true,false] rfl [(true,0)] rfl) hc2)) ?_
  rintro _ w_7 ⟨B3,c4,rfl,hd2⟩
  have hS9:=hS8.out [false,false,true,false] rfl hd2
  refine sQ 21 (ye (gM_ r_5 B3 c4))<|sQ 22 (ye (.bool r_6)) ?_
  refine s0 (yK 1 3 0 hS9 K14) ?_
  rintro _ w_8 ⟨rfl,hS10⟩
  refine sQ 3 yu (rn (ct_ ?_))
  obtain ⟨rfl,rfl⟩:=pr2 (sI hF2)
  exact ret2 Tryz.results51 (rX K32 K14 (hS10.c 1)) rT ⟨B3,c4,rfl,(hS10.sN [3])⟩

theorem Rp (i:Int) (j:Int) (p:Af) (p1:Ab) (B:Option Addr) (B1:Option Addr) (c n:Nat) (B2:Option Addr) (w0:World) (hn:p.Cells.length=n) (hS:ST w0 [] w0 [] [⟨B,[vi p.Rows,vi p.Cols,.slice B1 n c]⟩,⟨B1,(p.Cells.flatMap Aw)⟩,⟨B2,kD_ p1⟩]) {r_:Ab} {r_1:Bool} (hF:EV i j p p1=some (r_,r_1)) :
  CV Tryz.prog 115 #[vi i,vi j,pt B 0,pt B2 0] w0 (fun v w'=>v=.tuple #[gD_ r_,.bool r_1]∧ST w0 [] w' [] []):=by
 subst hn
 unfold EV at hF
 refine cv_of_cw 16 Tryz.func115 rfl Tryz.ntmps115 rfl ?_
 refine cq (cr ?_)
 refine sS 6 (yN kZ_ 5 hS K33) ?_
 rintro _ w_ ⟨b,rfl,hS1⟩
 refine sQ 7 yu (rn (cq ?_))
 obtain ⟨r_2,hc,hF⟩:=bI hF
 obtain ⟨⟨r_3,r_4⟩,hc1,hF⟩:=bI hF
 refine ra_start (hS1.se []).fn (by kernel_rfl) ?_
 have hS4:=hS1.drew
 have hQ0:=hS4.se []
 refine rq 0 8 rfl hQ0 (fun _ q=>(yw 0 K32 K14 (ST.rf q (i:=0) rfl)))<|rq 1 9 rfl hQ0 (fun _ q=>yv)<|rq 2 10 rfl hQ0 (fun _ q=>yv)<|rq 4 12 rfl hQ0 (fun _ q=>(yw 0 K17 K6 (ST.rf q (i:=2) rfl))) ?_
 refine rA [3] ?_
 refine rC 11 3 rfl (yc KY (JQ p i j B1 c p.Cells.length _ rfl (hS4.inn0 [(true,1)] rfl) hc)) ?_ aN
 rintro _ w_1 ⟨rfl,hd⟩
 have hS5:=hS4.out00 hd
 refine ⟨(hS5.se []),?_⟩
 refine rA [5] ?_
 refine rC 13 5 rfl (yc N9 (Ou r_2 p1 _  (hS5.inn0 [] rfl) hc1)) ?_ aN
 rintro _ w_2 ⟨rfl,hd1⟩
 have hS6:=hS5.out00 hd1
 have hQ1:=hS6.se []
 refine ⟨hQ1,?_⟩
 refine rq 6 14 rfl hQ1 (fun _ q=>(ye (gD_ r_3)))<|rq 7 15 rfl hQ1 (fun _ q=>(ye (.bool r_4))) ?_
 refine rA [8] ?_
 refine rZ 8 rfl (yK 0 5 0 hS6 K6) ?_ aN
 rintro _ w_3 ⟨rfl,hS7⟩
 refine ⟨(hS7.se []),?_⟩
 refine rq 9 7 rfl (hS7.se []) (fun _ q=>yu) ?_
 refine ra_done (by kernel_rfl) ?_
 refine ct_ ?_
 obtain ⟨rfl,rfl⟩:=pr2 (sI hF)
 exact ret2 Tryz.results115 (rX K17 K6 (hS7.c 0)) rT ⟨rfl,(hS7.sN [])⟩

theorem Qu (m:Af) (x:Ab) (B:Option Addr) (c n:Nat) (w0:World) (hn:m.Cells.length=n) (hS:ST w0 [] w0 [] [⟨B,(m.Cells.flatMap Aw)⟩]) {r_:Af} {r_1:Bool} (hF:Gn m x=some (r_,r_1)) :
  CV Tryz.prog 86 #[.agg #[vi m.Rows,vi m.Cols,.slice B n c],gD_ x] w0 (fun v w'=>∃ (B1:Option Addr) (c1:Nat),v=.tuple #[gM_ r_ B1 c1,.bool r_1]∧ST w0 [] w' [⟨B1,140,(r_.Cells.flatMap Aw),c1*5⟩] []):=by
 subst hn
 unfold Gn at hF
 refine cv_of_cw 23 Tryz.func86 rfl Tryz.ntmps86 rfl ?_
 refine cq (cr ?_)
 refine sS 2 (yV (kM_ m B c) 3 hS) ?_
 rintro _ w_ ⟨b,rfl,hS1⟩
 refine sS 3 (yV (kD_ x) 5 hS1) ?_
 rintro _ w_1 ⟨b1,rfl,hS2⟩
 refine sS 4 (yN kN_ 3 hS2 K48) ?_
 rintro _ w_2 ⟨b2,rfl,hS3⟩
 refine sQ 5 yu (rn (cq (cq (cr ?_))))
 refine sQ 6 (yw 0 K32 K14 (hS3.c 0)) ?_
 obtain ⟨r_2,hc,hF⟩:=bI hF
 refine sc 7 rfl rfl (yc GS (GI m B c m.Cells.length _ rfl (hS3.inn0 [(true,0)] rfl) hc)) ?_
 rintro _ w_3 ⟨rfl,hd⟩
 have hS4:=hS3.out00 hd
 refine sQ 8 yn<|sQ 9 yv ?_
 refine sgq 10 rfl rfl (uF_ 9) (fun hg=>(yw 0 K17 K6 (hS4.c 1))) ?_
 obtain ⟨r_3,hc1,hF⟩:=bI hF
 refine sgc 11 (v:=.bool r_3) (F:=hS4.fn) rfl rfl (uF_ 9) hS4 (fun hg1=>(yc FH (CV.mono (F9 x _  (hS4.inn0 [] rfl) (gb_inv hc1 hg1)) (by rintro _ _ ⟨rfl,h⟩; exact ⟨rfl,hS4.out00 h⟩)) rfl (mc (gv_of hg1) mn))) ?_
 rintro w_4 hS5
 refine sgq 12 rfl rfl (uF_ 9) (fun hg2=>(yn rfl (gv_of hg2))) ?_
 refine sQ 13 yO (rn ?_)
 refine cw_cond rfl (fun hb=>?_) (fun hb=>?_)
 ·skip
  have hF1:=ct hF hb
  refine cq (cr ?_)
  refine sQ 14 (Y_buildS (zs:=kN_) (vs:=[]) (cs:=kN_) E7 K48 rfl mpn rfl) ?_
  refine s0 (yK 2 3 0 hS5 K14) ?_
  rintro _ w_5 ⟨rfl,hS6⟩
  refine sQ 5 yu (rn (ct_ ?_))
  have hS7:=hS6.addNil 140
  obtain ⟨rfl,rfl⟩:=pr2 (sI hF1)
  exact ret2 Tryz.results86 (rX K32 K14 (hS7.c 2)) rT ⟨none,0,rfl,(hS7.sN [3])⟩
 ·skip
  have hF2:=cf' hF hb
  refine cw_skip (cq (cr ?_))
  refine sQ 15 (yd (aD b) 0 0 DX K0)<|sQ 16 (yz 0 K1 (hS5.c 0))<|sQ 17 (yd (aD b) 0 0 K91 K0)<|sQ 18 (yz 1 K1 (hS5.c 0))<|sQ 19 (Y_makeFunc (cs:=[pt (aD b) 0,pt (aD b1) 0]) rfl rfl (mc rfl (mc rfl mn))) ?_
  obtain ⟨⟨r_4,r_5⟩,hc2,hF2⟩:=bI hF2
  refine sc 20 rfl rfl (yc Ig (Iu m.Rows m.Cols (fun x_0 x_1=>EV x_0 x_1 m x) 115 (#[pt (aD b) 0,pt (aD b1) 0]) [⟨aD b,kM_ m B c⟩,⟨B,(m.Cells.flatMap Aw)⟩,⟨aD b1,kD_ x⟩] _ VX (fun w hw x_0 x_1 y_0 y_1 h_=>Rp x_0 x_1 m x (aD b) B c m.Cells.length (aD b1) w rfl hw h_) (hS5.inn0 [(false,0),(true,0),(false,1)] rfl) hc2)) ?_
  rintro _ w_6 ⟨B2,c2,rfl,hd1⟩
  have hS8:=hS5.out0 hd1
  refine sQ 21 (ye (gM_ r_4 B2 c2))<|sQ 22 (ye (.bool r_5)) ?_
  refine s0 (yK 2 3 0 hS8 K14) ?_
  rintro _ w_7 ⟨rfl,hS9⟩
  refine sQ 5 yu (rn (ct_ ?_))
  obtain ⟨rfl,rfl⟩:=pr2 (sI hF2)
  exact ret2 Tryz.results86 (rX K32 K14 (hS9.c 2)) rT ⟨B2,c2,rfl,(hS9.sN [3])⟩

theorem S8 (s1:List Ab) (s2:List Ab) (B:Option Addr) (c n:Nat) (B1:Option Addr) (c1 n1:Nat) (w0:World) (hn:s1.length=n) (hn1:s2.length=n1) (hS:ST w0 [] w0 [] [⟨B,(s1.flatMap Aw)⟩,⟨B1,(s2.flatMap Aw)⟩]) {r_:Bool} (hF:Fm s1 s2=some r_) :
  CV Tryz.prog 119 #[.slice B n c,.slice B1 n1 c1] w0 (fun v w'=>v=.bool r_∧ST w0 [] w' [] []):=by
 subst hn
 subst hn1
 unfold Fm at hF
 refine cv_of_cw 26 Tryz.func119 rfl Tryz.ntmps119 rfl ?_
 refine cq (cr ?_)
 refine sQ 4 yu (rn (cq (cq (cr ?_))))
 refine sQ 6 yv<|sQ 7 (Y_len K78 rfl rfl)<|sQ 8 yv<|sQ 9 (Y_len K78 rfl rfl)<|sQ 10 (Y_ne rfl rfl rfl) (rn ?_)
 refine cw_cond rfl (fun hb=>?_) (fun hb=>?_)
 ·skip
  have hF1:=ct hF hb
  refine cq (cr ?_)
  refine sQ 4 yu (rn (ct_ ?_))
  obtain rfl:=sI hF1
  exact e1 Tryz.results119 (hS.sN [])
 ·skip
  have hF2:=cf' hF hb
  refine cw_skip (cq (cq (cr ?_)))
  refine sQ 11 yv<|sQ 12 (Y_len K78 rfl rfl)<|sQ 13 yv (rn ?_)
  obtain ⟨hN,hF2⟩:=chk_inv hF2
  obtain ⟨z,hz,hF3⟩:=bI hF2
  refine cw_block ?_
  refine cw_loop (fun k f w=>∃ (i:Nat),FF f [(0,.slice B s1.length c),(1,.slice B1 s2.length c1),(12,vi (s1.length:Int)),(13,vi (i:Int))]∧ST w0 [] w [] [⟨B,(s1.flatMap Aw)⟩,⟨B1,(s2.flatMap Aw)⟩]∧i+k=s1.length∧forX (H4 s1 s2) k i ()=some z) s1.length ⟨0,(fc rfl (fc rfl (fc rfl (fc rfl fn_)))),(hS.sel [] rfl rfl),Nat.zero_add _,hz⟩ ?_
  rintro k_ f w ⟨i,hf,hS1,hik,hL⟩
  refine cq (cr ?_)
  refine sQ 14 (zL rfl (hf.g 13 3) (hf.g 12 2)) (rn (cq ?_))
  refine cw_cond rfl (fun hlt=>?_) (fun hlt=>?_)
  ·skip
   have hlt1:i<s1.length:=by have h:=of_decide_eq_true hlt; omega
   obtain ⟨K2,rfl⟩:∃ k2,k_=k2+1:=⟨k_-1,by omega⟩
   obtain ⟨y,hb1,hL1⟩:=forX_go hL
   unfold H4 at hb1
   refine cw_skip (cq (cw_block (cq (cr ?_))))
   refine sQ 15 (yv rfl (hf.g 13 3))<|sQ 5 yu (rn (cq ?_))
   obtain ⟨x,hx,hb1⟩:=bI hb1
   obtain ⟨x1,hx1,hb1⟩:=bI hb1
   refine ra_start (hS1.se []).fn (by kernel_rfl) ?_
   have hS2:=hS1.drew
   have hQ0:=hS2.se []
   refine rq 0 16 rfl hQ0 (fun _ q=>(yv rfl (hf.g 0 0)))<|rq 1 17 rfl hQ0 (fun _ q=>yv)<|rq 2 18 rfl hQ0 (fun _ q=>(yI B (i:Int) K78 K6 (gi_isSome BR rfl (ST.rf q (i:=0) rfl) hx) (getI_nn hx) (getI_ltI hx rfl)))<|rq 3 19 rfl hQ0 (fun _ q=>(ya B ((i:Int).toNat*5) (s1.flatMap Aw) (kD_ x) K17 K6 (ST.rf q (i:=0) rfl) rfl rfl (BR x) (gi_seg BR hx)))<|rq 4 20 rfl hQ0 (fun _ q=>(yv rfl (hf.g 1 1))) ?_
   refine rq 5 21 rfl hQ0 (fun _ q=>yv)<|rq 6 22 rfl hQ0 (fun _ q=>(yI B1 (i:Int) K78 K6 (gi_isSome BR rfl (ST.rf q (i:=1) rfl) hx1) (getI_nn hx1) (getI_ltI hx1 rfl)))<|rq 7 23 rfl hQ0 (fun _ q=>(ya B1 ((i:Int).toNat*5) (s2.flatMap Aw) (kD_ x1) K17 K6 (ST.rf q (i:=1) rfl) rfl rfl (BR x1) (gi_seg BR hx1))) ?_
   refine ra_q 8 24 (v:=.bool (!(((x.Num.A==x1.Num.A)&&((x.Num.B==x1.Num.B)&&((x.Num.C==x1.Num.C)&&((x.Num.D==x1.Num.D)&&true))))&&((x.Exp==x1.Exp)&&true)))) rfl rfl rfl (by kernel_rfl) (by kernel_rfl) (by kernel_rfl) hQ0 (fun _ q=>(Y_neA (xs:=#[vi x.Num.A,vi x.Num.B,vi x.Num.C,vi x.Num.D,vi x.Exp]) (ys:=#[vi x1.Num.A,vi x1.Num.B,vi x1.Num.C,vi x1.Num.D,vi x1.Exp]) (b:=(((x.Num.A==x1.Num.A)&&((x.Num.B==x1.Num.B)&&((x.Num.C==x1.Num.C)&&((x.Num.D==x1.Num.D)&&true))))&&((x.Exp==x1.Exp)&&true))) Vd rfl rfl rfl (eqr_struct (xs:=kD_ x) (ys:=kD_ x1) Vm Rz (pts_ag (us:=kR_ x.Num) (vs:=kR_ x1.Num) K18 K9 rfl rfl (eqr_struct (xs:=kR_ x.Num) (ys:=kR_ x1.Num) Ui QG (pts_sc K1 rfl rfl (eqr_int K29) (pts_sc K1 rfl rfl (eqr_int K29) (pts_sc K1 rfl rfl (eqr_int K29) (pts_sc K1 rfl rfl (eqr_int K29) pts_nil))))) (pts_sc K1 rfl rfl (eqr_int K29) pts_nil))))) ?_
   refine ra_done (by kernel_rfl) ?_
   refine cw_cond rfl (fun hb2=>?_) (fun hb2=>?_)
   ·skip
    have hF4:=ct hb1 hb2
    refine cq (cr ?_)
    refine sQ 4 yu (rn (ct_ ?_))
    obtain rfl:=sI hF4
    obtain rfl:=sI hL1
    obtain rfl:=sI hF3
    exact e1 Tryz.results119 (hS2.sN [])
   ·skip
    have hF5:=cf' hb1 hb2
    refine cw_skip (cr ?_)
    refine sQ 25 (zP rfl (hf.g 13 3))<|sQ 13 yv (rn ?_)
    obtain rfl:=sI hF5
    exact ⟨K2,Nat.lt_succ_self _,i+1,(hf.a 0 0 (hf.a 1 1 (hf.a 12 2 (fc (congrArg (Value.int .i64) (wr_succ hlt1 hN)) fn_)))),(hS2.sel [] rfl rfl),(by omega),hL1⟩
  ·skip
   obtain rfl:k_=0:=by have h:=of_decide_eq_false hlt; omega
   refine cw_exit rfl ?_
   obtain rfl:=sI hL
   refine cq (cr ?_)
   refine sQ 4 yu (rn (ct_ ?_))
   obtain rfl:=sI hF3
   exact e1 Tryz.results119 (hS1.sN [])

theorem QF (a:Af) (b:Af) (B:Option Addr) (c n:Nat) (B1:Option Addr) (c1 n1:Nat) (w0:World) (hn:a.Cells.length=n) (hn1:b.Cells.length=n1) (hS:ST w0 [] w0 [] [⟨B,(a.Cells.flatMap Aw)⟩,⟨B1,(b.Cells.flatMap Aw)⟩]) {r_:Bool} (hF:Gb a b=some r_) :
  CV Tryz.prog 88 #[.agg #[vi a.Rows,vi a.Cols,.slice B n c],.agg #[vi b.Rows,vi b.Cols,.slice B1 n1 c1]] w0 (fun v w'=>v=.bool r_∧ST w0 [] w' [] []):=by
 subst hn
 subst hn1
 unfold Gb at hF
 refine cv_of_cw 24 Tryz.func88 rfl Tryz.ntmps88 rfl ?_
 refine cq (cr ?_)
 refine sS 2 (yV (kM_ a B c) 3 hS) ?_
 rintro _ w_ ⟨b1,rfl,hS1⟩
 refine sS 3 (yV (kM_ b B1 c1) 3 hS1) ?_
 rintro _ w_1 ⟨b2,rfl,hS2⟩
 refine sQ 4 yu (rn (cq (cr ?_)))
 refine sQ 5 (yd (aD b1) 0 0 DX K0)<|sQ 6 (yz 0 K1 (hS2.c 0))<|sQ 7 (yd (aD b2) 0 0 DX K0)<|sQ 8 (yz 0 K1 (hS2.c 1))<|sQ 9 zE<|sQ 10 yv ?_
 refine sgq 11 rfl rfl (uT_ 10) (fun hg=>(yd (aD b1) 0 0 K91 K0)) ?_
 refine sgq 12 rfl rfl (uT_ 10) (fun hg1=>(yz 1 K1 (hS2.c 0) rfl (gv_of hg1))) ?_
 refine sgq 13 rfl rfl (uT_ 10) (fun hg2=>(yd (aD b2) 0 0 K91 K0)) ?_
 refine sgq 14 rfl rfl (uT_ 10) (fun hg3=>(yz 1 K1 (hS2.c 1) rfl (gv_of hg3))) ?_
 refine sgq 15 rfl rfl (uT_ 10) (fun hg4=>(zE rfl (gv_of hg4) (gv_of hg4))) ?_
 refine sQ 16 yA<|sQ 17 yv ?_
 refine sgq 18 rfl rfl (uT_ 17) (fun hg5=>(yd (aD b1) 0 0 EU K98)) ?_
 refine sgq 19 rfl rfl (uT_ 17) (fun hg6=>(yz 2 FG (hS2.c 0) rfl (gv_of hg6))) ?_
 refine sgq 20 rfl rfl (uT_ 17) (fun hg7=>(yd (aD b2) 0 0 EU K98)) ?_
 refine sgq 21 rfl rfl (uT_ 17) (fun hg8=>(yz 2 FG (hS2.c 1) rfl (gv_of hg8))) ?_
 obtain ⟨r_1,hc,hF⟩:=bI hF
 refine sgc 22 (v:=.bool r_1) (F:=hS2.fn) rfl rfl (uT_ 17) hS2 (fun hg9=>(yc UG (CV.mono (S8 a.Cells b.Cells B c a.Cells.length B1 c1 b.Cells.length _ rfl rfl (hS2.inn0 [(true,0),(true,1)] rfl) (gb_inv hc hg9)) (by rintro _ _ ⟨rfl,h⟩; exact ⟨rfl,hS2.out00 h⟩)) rfl (mc (gv_of hg9) (mc (gv_of hg9) mn)))) ?_
 rintro w_2 hS3
 refine sQ 23 yA<|sQ 4 yu (rn (ct_ ?_))
 obtain rfl:=sI hF
 exact e1 Tryz.results88 (hS3.sN [])

theorem UU (a:Af) (b:Af) (B:Option Addr) (c n:Nat) (B1:Option Addr) (c1 n1:Nat) (w0:World) (hn:a.Cells.length=n) (hn1:b.Cells.length=n1) (hS:ST w0 [] w0 [] [⟨B,(a.Cells.flatMap Aw)⟩,⟨B1,(b.Cells.flatMap Aw)⟩]) {r_:Int} {r_1:Bool} {r_2:Bool} (hF:FO a b=some (r_,r_1,r_2)) :
  CV Tryz.prog 52 #[.agg #[vi a.Rows,vi a.Cols,.slice B n c],.agg #[vi b.Rows,vi b.Cols,.slice B1 n1 c1]] w0 (fun v w'=>v=.tuple #[vi r_,.bool r_1,.bool r_2]∧ST w0 [] w' [] []):=by
 subst hn
 subst hn1
 unfold FO at hF
 refine cv_of_cw 36 Tryz.func52 rfl Tryz.ntmps52 rfl ?_
 refine cq (cr ?_)
 refine sS 2 (yV (kM_ a B c) 3 hS) ?_
 rintro _ w_ ⟨b1,rfl,hS1⟩
 refine sS 3 (yV (kM_ b B1 c1) 3 hS1) ?_
 rintro _ w_1 ⟨b2,rfl,hS2⟩
 refine sQ 4 yu<|sQ 5 yu<|sQ 6 yu (rn (cq (cq (cr ?_))))
 refine sQ 10 (yw 0 K32 K14 (hS2.c 0)) ?_
 obtain ⟨r_3,hc,hF⟩:=bI hF
 refine sc 11 rfl rfl (yc GS (GI a B c a.Cells.length _ rfl (hS2.inn0 [(true,0)] rfl) hc)) ?_
 rintro _ w_2 ⟨rfl,hd⟩
 have hS3:=hS2.out00 hd
 refine sQ 12 yn<|sQ 13 yv ?_
 refine sgq 14 rfl rfl (uF_ 13) (fun hg=>(yw 0 K32 K14 (hS3.c 1))) ?_
 obtain ⟨r_4,hc1,hF⟩:=bI hF
 refine sgc 15 (v:=.bool r_4) (F:=hS3.fn) rfl rfl (uF_ 13) hS3 (fun hg1=>(yc GS (CV.mono (GI b B1 c1 b.Cells.length _ rfl (hS3.inn0 [(true,1)] rfl) (gb_inv hc1 hg1)) (by rintro _ _ ⟨rfl,h⟩; exact ⟨rfl,hS3.out00 h⟩)) rfl (mc (gv_of hg1) mn))) ?_
 rintro w_3 hS4
 refine sgq 16 rfl rfl (uF_ 13) (fun hg2=>(yn rfl (gv_of hg2))) ?_
 refine sQ 17 yO (rn ?_)
 refine cw_cond rfl (fun hb=>?_) (fun hb=>?_)
 ·skip
  have hF1:=ct hF hb
  refine cq (cr ?_)
  refine sQ 4 yu<|sQ 5 yu<|sQ 6 yu (rn (ct_ ?_))
  obtain ⟨rfl,rfl,rfl⟩:=pr3 (sI hF1)
  exact e3 Tryz.results52 (hS4.sN [])
 ·skip
  have hF2:=cf' hF hb
  refine cw_skip (cq (cq (cr ?_)))
  refine sQ 18 yv (rn ?_)
  obtain ⟨z,hz,hF3⟩:=bI hF2
  refine cw_block ?_
  let O0:Ob:=⟨aD b2,94,kM_ b B1 c1,3⟩
  let O1:Ob:=⟨aD b1,94,kM_ a B c,3⟩
  refine cw_loop (fun k f w=>∃ (i:Nat),FF f [(2,pt (aD b1) 0),(3,pt (aD b2) 0),(18,vi (i:Int))]∧ST w0 [] w [O1,O0] [⟨B,(a.Cells.flatMap Aw)⟩,⟨B1,(b.Cells.flatMap Aw)⟩]∧i+k=8∧forX (H3 b a) k i ()=some z) 8 ⟨0,(fc rfl (fc rfl (fc rfl fn_))),(hS4.sel [0,1] rfl rfl),Nat.zero_add _,hz⟩ ?_
  rintro k_ f w ⟨i,hf,hS5,hik,hL⟩
  refine cq (cr ?_)
  refine sQ 19 (zL rfl (hf.g 18 2)) (rn (cq ?_))
  refine cw_cond rfl (fun hlt=>?_) (fun hlt=>?_)
  ·skip
   have hlt1:i<8:=by have h:=of_decide_eq_true hlt; omega
   obtain ⟨K2,rfl⟩:∃ k2,k_=k2+1:=⟨k_-1,by omega⟩
   obtain ⟨y,hb1,hL1⟩:=forX_go hL
   unfold H3 at hb1
   refine cw_skip (cq (cw_block (cq (cr ?_))))
   refine sQ 20 (yv rfl (hf.g 18 2))<|sQ 7 yu (rn (cq ?_))
   obtain ⟨r_5,hc2,hb1⟩:=bI hb1
   obtain ⟨⟨r_6,r_7⟩,hc3,hb1⟩:=bI hb1
   refine ra_start (hS5.se [0,1]).fn (by kernel_rfl) ?_
   have hS8:=hS5.drew
   refine rq 0 22 rfl (hS8.se [0,1]) (fun _ q=>(yw 0 K32 K14 (ST.c q 1) rfl (hf.g 3 1)))<|rq 1 23 rfl (hS8.se [0,1]) (fun _ q=>yv) ?_
   refine rf_in (k:=7) (ts:=[]) (L:=[O1,O0]) (G:=[]) [fN 7 8 94 kN_ 3] hS8 (flc rfl rfl rfl (fun _ _ _ _ hf_ h=>(yN kN_ 3 h K48)) fln) (fun hJ=>?_)
   refine rf_all [2] hJ (fun Z w h=>(ST.sel (ST.noF h) [0,1] rfl rfl)) (fun Z w_4 hz1 hS9=>?_)
   refine rC 24 2 rfl (yc HJ (G6 (i:Int) _  (hS9.inn0 [] rfl) hc2)) ?_ aN
   rintro _ w_5 ⟨rfl,hd1⟩
   have hS10:=hS9.out00 hd1
   refine rf_k (L:=[O1,O0]) hz1 hS10 (fun Z w h=>(ST.sel (ST.noF h) [0,1] rfl rfl)) ?_
   refine rf_all [3] hJ (fun Z w h=>(ST.sel (ST.noF h) [0,1] rfl rfl)) (fun Z1 w_6 hz2 hS11=>?_)
   refine rC 25 3 rfl (yc RB (Qu b r_5 B1 c1 b.Cells.length _ rfl (hS11.inn0 [(true,1)] rfl) hc3)) ?_ aN
   rintro _ w_7 ⟨B2,c2,rfl,hd2⟩
   have hS12:=hS11.out0 hd2
   let O2:Ob:=⟨B2,140,(r_6.Cells.flatMap Aw),c2*5⟩
   have hS13:ST w0 [] _ (O1::O0::O2::(flL [fN 7 8 94 kN_ 3] Z1++[])) [⟨B,(a.Cells.flatMap Aw)⟩,⟨B1,(b.Cells.flatMap Aw)⟩]:=ST.rot (pre:=[O1,O0]) (G:=(flL [fN 7 8 94 kN_ 3] Z1++[])) (xs:=[O2]) hS12
   refine rf_k (L:=[O1,O0,O2]) hz2 hS13 (fun Z w h=>(ST.sel (ST.noF h) [0,1] rfl rfl)) ?_
   refine rf_q 4 21 (v:=.tuple #[gM_ r_6 B2 c2,.bool r_7]) rfl (fun Z w h=>(ST.sel (ST.noF h) [0,1] rfl rfl)) (fun Z _ q=>yv) ?_
   refine rf_q 5 26 (v:=gM_ r_6 B2 c2) rfl (fun Z w h=>(ST.sel (ST.noF h) [0,1] rfl rfl)) (fun Z _ q=>(ye (gM_ r_6 B2 c2))) ?_
   refine rf_q 6 27 (v:=.bool r_7) rfl (fun Z w h=>(ST.sel (ST.noF h) [0,1] rfl rfl)) (fun Z _ q=>(ye (.bool r_7))) ?_
   refine rf_force hJ (fun Z w h=>(ST.sel (ST.noF h) [0,1] rfl rfl)) (fun b3=>?_)
   refine rf_out (fun w_8 hS14=>?_)
   refine rA [8] ?_
   refine rZ 8 rfl (yK 3 3 0 hS14 K14) ?_ aN
   rintro _ w_9 ⟨rfl,hS15⟩
   refine ⟨(hS15.se [0,1]),?_⟩
   refine rq 9 9 rfl (hS15.se [0,1]) (fun _ q=>yu) ?_
   refine ra_done (by kernel_rfl) ?_
   refine cq (cr ?_)
   refine sQ 28 yv<|sQ 29 yv ?_
   refine sgq 30 rfl rfl (uT_ 29) (fun hg3=>(yw 0 K32 K14 (hS15.c 0) rfl (hf.g 2 0))) ?_
   refine sgq 31 rfl rfl (uT_ 29) (fun hg4=>(yw 0 K32 K14 (hS15.c 3))) ?_
   obtain ⟨r_8,hc4,hb1⟩:=bI hb1
   refine sgc 32 (v:=.bool r_8) (F:=hS15.fn) rfl rfl (uT_ 29) hS15 (fun hg5=>(yc Vc (CV.mono (QF a r_6 B c a.Cells.length B2 c2 r_6.Cells.length _ rfl rfl (hS15.inn0 [(true,0),(false,2)] rfl) (gb_inv hc4 hg5)) (by rintro _ _ ⟨rfl,h⟩; exact ⟨rfl,hS15.out00 h⟩)) rfl (mc (gv_of hg5) (mc (gv_of hg5) mn)))) ?_
   rintro w_10 hS16
   refine sQ 33 yA (rn ?_)
   refine cw_cond rfl (fun hb2=>?_) (fun hb2=>?_)
   ·skip
    have hF4:=ct hb1 hb2
    refine cq (cr ?_)
    refine sQ 34 yv<|sQ 4 yu<|sQ 5 yu<|sQ 6 yu (rn (ct_ ?_))
    obtain rfl:=sI hF4
    obtain rfl:=sI hL1
    obtain ⟨rfl,rfl,rfl⟩:=pr3 (sI hF3)
    exact e3 Tryz.results52 (hS16.sN [])
   ·skip
    have hF5:=cf' hb1 hb2
    refine cw_skip (cr ?_)
    refine sQ 35 (zP rfl (hf.g 18 2))<|sQ 18 yv (rn ?_)
    obtain rfl:=sI hF5
    exact ⟨K2,Nat.lt_succ_self _,i+1,(hf.a 2 0 (hf.a 3 1 (fc (congrArg (Value.int .i64) (wr_succ hlt1 (show 8≤9223372036854775807 by decide))) fn_))),(hS16.sel [0,1] rfl rfl),(by omega),hL1⟩
  ·skip
   obtain rfl:k_=0:=by have h:=of_decide_eq_false hlt; omega
   refine cw_exit rfl ?_
   obtain rfl:=sI hL
   refine cq (cr ?_)
   refine sQ 4 yu<|sQ 5 yu<|sQ 6 yu (rn (ct_ ?_))
   obtain ⟨rfl,rfl,rfl⟩:=pr3 (sI hF3)
   exact e3 Tryz.results52 (hS5.sN [])

theorem Ra (a:Ad) (b:Ad) (B:Option Addr) (c n:Nat) (B1:Option Addr) (c1 n1:Nat) (w0:World) (hn:a.Gates.length=n) (hn1:b.Gates.length=n1) (hS:ST w0 [] w0 [] [⟨B,(a.Gates.flatMap eN0)⟩,⟨B1,(b.Gates.flatMap eN0)⟩]) {r_:Bool} {r_1:Bool} (hF:DR a b=some (r_,r_1)) :
  CV Tryz.prog 20 #[.agg #[vi a.Qubits,.slice B n c],.agg #[vi b.Qubits,.slice B1 n1 c1]] w0 (fun v w'=>v=.tuple #[.bool r_,.bool r_1]∧ST w0 [] w' [] []):=by
 subst hn
 subst hn1
 unfold DR at hF
 refine cv_of_cw 45 Tryz.func20 rfl Tryz.ntmps20 rfl ?_
 refine cq (cr ?_)
 refine sS 2 (yV [vi a.Qubits,.slice B a.Gates.length c] 2 hS) ?_
 rintro _ w_ ⟨b1,rfl,hS1⟩
 refine sS 3 (yV [vi b.Qubits,.slice B1 b.Gates.length c1] 2 hS1) ?_
 rintro _ w_1 ⟨b2,rfl,hS2⟩
 refine sQ 4 yu<|sQ 5 yu (rn (cq (cr ?_)))
 refine sQ 14 (yw 0 K10 K3 (hS2.c 0)) ?_
 obtain ⟨⟨r_2,r_3⟩,hc,hF⟩:=bI hF
 refine sc 15 rfl rfl (yc PP (Pu a B c a.Gates.length _ rfl (hS2.inn0 [(true,0)] rfl) hc)) ?_
 rintro _ w_2 ⟨B2,c2,rfl,hd⟩
 have hS3:=hS2.out0 hd
 refine sQ 13 yv<|sQ 16 (ye (gM_ r_2 B2 c2))<|sQ 17 (ye (.bool r_3)) ?_
 refine sS 6 (yN kN_ 3 hS3 K48) ?_
 rintro _ w_3 ⟨b3,rfl,hS4⟩
 refine s0 (yK 3 3 0 hS4 K14) ?_
 rintro _ w_4 ⟨rfl,hS5⟩
 refine sQ 7 yu (rn (cq (cr ?_)))
 refine sQ 19 (yw 0 K10 K3 (hS5.c 1)) ?_
 obtain ⟨⟨r_4,r_5⟩,hc1,hF⟩:=bI hF
 refine sc 20 rfl rfl (yc PP (Pu b B1 c1 b.Gates.length _ rfl (hS5.inn0 [(true,1)] rfl) hc1)) ?_
 rintro _ w_5 ⟨B3,c3,rfl,hd1⟩
 have hS6:=hS5.out0 hd1
 refine sQ 18 yv<|sQ 21 (ye (gM_ r_4 B3 c3))<|sQ 22 (ye (.bool r_5)) ?_
 refine sS 8 (yN kN_ 3 hS6 K48) ?_
 rintro _ w_6 ⟨b4,rfl,hS7⟩
 refine s0 (yK 5 3 0 hS7 K14) ?_
 rintro _ w_7 ⟨rfl,hS8⟩
 refine sQ 9 yu (rn (cq (cq (cr ?_))))
 refine sQ 23 yv<|sQ 24 yn<|sQ 25 yv ?_
 refine sgq 26 rfl rfl (uF_ 25) (fun hg=>yv) ?_
 refine sgq 27 rfl rfl (uF_ 25) (fun hg1=>(yn rfl (gv_of hg1))) ?_
 refine sQ 28 yO<|sQ 29 yv ?_
 refine sgq 30 rfl rfl (uF_ 29) (fun hg2=>(yd (aD b1) 0 0 K42 K0)) ?_
 refine sgq 31 rfl rfl (uF_ 29) (fun hg3=>(yz 0 K1 (hS8.c 0) rfl (gv_of hg3))) ?_
 refine sgq 32 rfl rfl (uF_ 29) (fun hg4=>(yd (aD b2) 0 0 K42 K0)) ?_
 refine sgq 33 rfl rfl (uF_ 29) (fun hg5=>(yz 0 K1 (hS8.c 1) rfl (gv_of hg5))) ?_
 refine sgq 34 rfl rfl (uF_ 29) (fun hg6=>(Y_ne rfl (gv_of hg6) (gv_of hg6))) ?_
 refine sQ 35 yO (rn ?_)
 refine cw_cond rfl (fun hb=>?_) (fun hb=>?_)
 ·skip
  have hF1:=ct hF hb
  refine cq (cr ?_)
  refine sQ 4 yu<|sQ 5 yu (rn (ct_ ?_))
  obtain ⟨rfl,rfl⟩:=pr2 (sI hF1)
  exact e2 Tryz.results20 (hS8.sN [])
 ·skip
  have hF2:=cf' hF hb
  refine cw_skip (cq (cr ?_))
  refine sQ 37 (yw 0 K32 K14 (hS8.c 3))<|sQ 38 (yw 0 K32 K14 (hS8.c 5)) ?_
  obtain ⟨⟨r_6,r_7,r_8⟩,hc2,hF2⟩:=bI hF2
  refine sc 39 rfl rfl (yc VT (UU r_2 r_4 B2 c2 r_2.Cells.length B3 c3 r_4.Cells.length _ rfl rfl (hS8.inn0 [(false,2),(false,4)] rfl) hc2)) ?_
  rintro _ w_8 ⟨rfl,hd2⟩
  have hS9:=hS8.out00 hd2
  refine sQ 36 yv<|sQ 40 (ye (vi r_6))<|sQ 41 (ye (.bool r_7))<|sQ 42 (ye (.bool r_8))<|sQ 10 yu<|sQ 11 yu ?_
  refine sQ 12 yu (rn (cq (cr ?_)))
  refine sQ 43 yv<|sQ 44 yv<|sQ 4 yu<|sQ 5 yu (rn (ct_ ?_))
  obtain ⟨rfl,rfl⟩:=pr2 (sI hF2)
  exact e2 Tryz.results20 (hS9.sN [])

theorem Ws (own:Ac) (p:Ae) (B:Option Addr) (B1:Option Addr) (c n:Nat) (w0:World) (hn:p.Edges.length=n) (hS:ST w0 [] w0 [] [⟨B,[vi p.Nodes,.slice B1 n c]⟩,⟨B1,(p.Edges.flatMap eN1)⟩]) {r_:Bool} (hF:EX own p=some r_) :
  CV Tryz.prog 54 #[.agg #[vi own.Kind,vi own.A,vi own.B],pt B 0] w0 (fun v w'=>v=.bool r_∧ST w0 [] w' [] []):=by
 subst hn
 unfold EX at hF
 refine cv_of_cw 16 Tryz.func54 rfl Tryz.ntmps54 rfl ?_
 refine cq (cr ?_)
 refine sS 2 (yV [vi own.Kind,vi own.A,vi own.B] 3 hS) ?_
 rintro _ w_ ⟨b,rfl,hS1⟩
 refine sQ 3 yu (rn (cq (cr ?_)))
 refine sQ 4 (yd (aD b) 0 0 K38 K0)<|sQ 5 (yz 0 K1 (hS1.c 0)) ?_
 obtain ⟨r_1,hc,hF⟩:=bI hF
 refine sc 6 rfl rfl (yc Eb (EN own.Kind _  (hS1.inn0 [] rfl) hc)) ?_
 rintro _ w_1 ⟨rfl,hd⟩
 have hS2:=hS1.out00 hd
 refine sQ 7 yv ?_
 refine sgq 8 rfl rfl (uT_ 7) (fun hg=>(yw 0 K13 K8 (hS2.rf (i:=0) rfl))) ?_
 refine sgq 9 rfl rfl (uT_ 7) (fun hg1=>(yd (aD b) 0 0 K39 K0)) ?_
 refine sgq 10 rfl rfl (uT_ 7) (fun hg2=>(yz 1 K1 (hS2.c 0) rfl (gv_of hg2))) ?_
 refine sgq 11 rfl rfl (uT_ 7) (fun hg3=>(yd (aD b) 0 0 K43 K0)) ?_
 refine sgq 12 rfl rfl (uT_ 7) (fun hg4=>(yz 2 K1 (hS2.c 0) rfl (gv_of hg4))) ?_
 obtain ⟨r_2,hc1,hF⟩:=bI hF
 refine sgc 13 (v:=.bool r_2) (F:=hS2.fn) rfl rfl (uT_ 7) hS2 (fun hg5=>(yc KN (CV.mono (Jj p own.A own.B B1 c p.Edges.length _ rfl (hS2.inn0 [(true,1)] rfl) (gb_inv hc1 hg5)) (by rintro _ _ ⟨rfl,h⟩; exact ⟨rfl,hS2.out00 h⟩)) rfl (mc (gv_of hg5) (mc (gv_of hg5) (mc (gv_of hg5) mn))))) ?_
 rintro w_2 hS3
 refine sgq 14 rfl rfl (uT_ 7) (fun hg6=>(yn rfl (gv_of hg6))) ?_
 refine sQ 15 yA<|sQ 3 yu (rn (ct_ ?_))
 obtain rfl:=sI hF
 exact e1 Tryz.results54 (hS3.sN [])

theorem RD (g:Ae) (c1:Ad) (B:Option Addr) (c n:Nat) (B1:Option Addr) (c2 n1:Nat) (w0:World) (hn:g.Edges.length=n) (hn1:c1.Gates.length=n1) (hS:ST w0 [] w0 [] [⟨B,(g.Edges.flatMap eN1)⟩,⟨B1,(c1.Gates.flatMap eN0)⟩]) {r_:Bool} {r_1:Bool} (hF:E6 g c1=some (r_,r_1)) :
  CV Tryz.prog 21 #[.agg #[vi g.Nodes,.slice B n c],.agg #[vi c1.Qubits,.slice B1 n1 c2]] w0 (fun v w'=>v=.tuple #[.bool r_,.bool r_1]∧ST w0 [] w' [] []):=by
 subst hn
 subst hn1
 unfold E6 at hF
 refine cv_of_cw 26 Tryz.func21 rfl Tryz.ntmps21 rfl ?_
 refine cq (cr ?_)
 refine sS 2 (yV [vi g.Nodes,.slice B g.Edges.length c] 2 hS) ?_
 rintro _ w_ ⟨b,rfl,hS1⟩
 refine sS 3 (yV [vi c1.Qubits,.slice B1 c1.Gates.length c2] 2 hS1) ?_
 rintro _ w_1 ⟨b1,rfl,hS2⟩
 refine sQ 4 yu<|sQ 5 yu (rn (cq (cq (cr ?_))))
 refine sQ 6 (yw 0 K13 K8 (hS2.c 0)) ?_
 obtain ⟨r_2,hc,hF⟩:=bI hF
 refine sc 7 rfl rfl (yc JC (JB g B c g.Edges.length _ rfl (hS2.inn0 [(true,0)] rfl) hc)) ?_
 rintro _ w_2 ⟨rfl,hd⟩
 have hS3:=hS2.out00 hd
 refine sQ 8 yn<|sQ 9 yv ?_
 refine sgq 10 rfl rfl (uF_ 9) (fun hg=>(yw 0 K10 K3 (hS3.c 1))) ?_
 obtain ⟨r_3,hc1,hF⟩:=bI hF
 refine sgc 11 (v:=.bool r_3) (F:=hS3.fn) rfl rfl (uF_ 9) hS3 (fun hg1=>(yc K93 (CV.mono (D0 c1 B1 c2 c1.Gates.length _ rfl (hS3.inn0 [(true,1)] rfl) (gb_inv hc1 hg1)) (by rintro _ _ ⟨rfl,h⟩; exact ⟨rfl,hS3.out00 h⟩)) rfl (mc (gv_of hg1) mn))) ?_
 rintro w_3 hS4
 refine sgq 12 rfl rfl (uF_ 9) (fun hg2=>(yn rfl (gv_of hg2))) ?_
 refine sQ 13 yO<|sQ 14 yv ?_
 refine sgq 15 rfl rfl (uF_ 14) (fun hg3=>(yd (aD b1) 0 0 K42 K0)) ?_
 refine sgq 16 rfl rfl (uF_ 14) (fun hg4=>(yz 0 K1 (hS4.c 1) rfl (gv_of hg4))) ?_
 refine sgq 17 rfl rfl (uF_ 14) (fun hg5=>(yd (aD b) 0 0 K45 K0)) ?_
 refine sgq 18 rfl rfl (uF_ 14) (fun hg6=>(yz 0 K1 (hS4.c 0) rfl (gv_of hg6))) ?_
 refine sgq 19 rfl rfl (uF_ 14) (fun hg7=>(Y_gt rfl (gv_of hg7) (gv_of hg7))) ?_
 refine sQ 20 yO (rn ?_)
 refine cw_cond rfl (fun hb=>?_) (fun hb=>?_)
 ·skip
  have hF1:=ct hF hb
  refine cq (cr ?_)
  refine sQ 4 yu<|sQ 5 yu (rn (ct_ ?_))
  obtain ⟨rfl,rfl⟩:=pr2 (sI hF1)
  exact e2 Tryz.results21 (hS4.sN [])
 ·skip
  have hF2:=cf' hF hb
  refine cw_skip (cq (cr ?_))
  refine sQ 21 (yd (aD b1) 0 0 K19 K15)<|sQ 22 (yz 1 K21 (hS4.c 1))<|sQ 23 (Y_makeFunc (cs:=[pt (aD b) 0]) rfl rfl (mc rfl mn)) ?_
  obtain ⟨r_4,hc2,hF2⟩:=bI hF2
  refine sc 24 rfl rfl (yc PG (Nq c1.Gates (fun x_0=>EX x_0 g) B1 c2 c1.Gates.length 54 (#[pt (aD b) 0]) [⟨aD b,[vi g.Nodes,.slice B g.Edges.length c]⟩,⟨B,(g.Edges.flatMap eN1)⟩] _ rfl Wq (fun w hw x_0 y_0 h_=>Ws x_0 g (aD b) B c g.Edges.length w rfl hw h_) (hS4.inn0 [(true,1),(false,0),(true,0)] rfl) hc2)) ?_
  rintro _ w_4 ⟨rfl,hd1⟩
  have hS5:=hS4.out00 hd1
  refine sQ 25 yn<|sQ 4 yu<|sQ 5 yu (rn (ct_ ?_))
  obtain ⟨rfl,rfl⟩:=pr2 (sI hF2)
  exact e2 Tryz.results21 (hS5.sN [])

theorem Um (code:List Int) (more:List Int) (B:Option Addr) (c n:Nat) (B1:Option Addr) (c1 n1:Nat) (w0:World) (hn:code.length=n) (hn1:more.length=n1) (hS:ST w0 [] w0 [] [⟨B,(code.flatMap enc_u8)⟩,⟨B1,(more.flatMap enc_u8)⟩]) {r_:Bool} (hF:GP code more=some r_) :
  CV Tryz.prog 3 #[.slice B n c,.slice B1 n1 c1] w0 (fun v w'=>v=.bool r_∧ST w0 [] w' [] []):=by
 subst hn
 subst hn1
 unfold GP at hF
 refine cv_of_cw 275 Tryz.func3 rfl Tryz.ntmps3 rfl ?_
 refine cq (cr ?_)
 refine sQ 4 yu (rn (cq (cq (cr ?_))))
 refine sQ 42 yv<|sQ 43 (Y_len EW rfl rfl)<|sQ 44 yv<|sQ 45 (Y_len EW rfl rfl)<|sQ 46 zP<|sQ 47 (Y_gt rfl rfl rfl) (rn ?_)
 refine cw_cond rfl (fun hb=>?_) (fun hb=>?_)
 ·skip
  have hF1:=ct hF hb
  refine cq (cr ?_)
  refine sQ 4 yu (rn (ct_ ?_))
  obtain rfl:=sI hF1
  exact e1 Tryz.results3 (hS.sN [])
 ·skip
  have hF2:=cf' hF hb
  refine cw_skip (cq (cr ?_))
  refine sQ 49 yv ?_
  obtain ⟨⟨r_1,r_2⟩,hc,hF2⟩:=bI hF2
  refine sc 50 rfl rfl (yc Tf (Sx code B c code.length _ rfl (hS.inn0 [(true,0)] rfl) hc)) ?_
  rintro _ w_ ⟨B2,c2,B3,c3,rfl,hd⟩
  have hS1:=hS.out0 hd
  refine sQ 48 yv<|sQ 51 (ye (.agg #[vi r_1.Nodes,.slice B2 r_1.Edges.length c2]))<|sQ 52 (ye (.agg #[vi r_2.Qubits,.slice B3 r_2.Gates.length c3])) ?_
  let V14:List Value:=[vi 0,.slice none 0 0]
  refine sS 5 (yN V14 2 hS1 K44) ?_
  rintro _ w_1 ⟨b,rfl,hS2⟩
  refine sS 6 (yN V14 2 hS2 K27) ?_
  rintro _ w_2 ⟨b1,rfl,hS3⟩
  refine s0 (yK 2 2 0 hS3 K8) ?_
  rintro _ w_3 ⟨rfl,hS4⟩
  refine s0 (yK 3 2 0 hS4 K3) ?_
  rintro _ w_4 ⟨rfl,hS5⟩
  refine rn (cq (cr ?_))
  refine sQ 54 (yw 0 K13 K8 (hS5.c 2))<|sQ 55 (yw 0 K10 K3 (hS5.c 3)) ?_
  obtain ⟨⟨r_3,r_4⟩,hc1,hF2⟩:=bI hF2
  let R7:Ro:=⟨B1,(more.flatMap enc_u8)⟩
  let R8:Ro:=⟨B,(code.flatMap enc_u8)⟩
  let R9:Ro:=⟨B2,(r_1.Edges.flatMap eN1)⟩
  have ho1:Org w0 [] [R8,R7] [R9]:=ST.orgOwn hS5 (i:=0) rfl
  have hcap:r_1.Edges.length≤c2:=(hS5.lencap (i:=0) rfl (fm_lenn (l:=r_1.Edges) A6 rfl) rfl rfl)
  let O0:Ob:=⟨aD b1,28,[vi r_2.Qubits,.slice B3 r_2.Gates.length c3],2⟩
  let O1:Ob:=⟨aD b,25,[vi r_1.Nodes,.slice B2 r_1.Edges.length c2],2⟩
  have hS6:ST w0 [] _ [⟨B3,73,(r_2.Gates.flatMap eN0),c3*3⟩,O1,O0] [R9,R8,R7]:=hS5.freeze (i:=0) rfl
  let R10:Ro:=⟨B3,(r_2.Gates.flatMap eN0)⟩
  have ho2:Org w0 [] [R8,R7] [R10]:=ST.orgOwn hS6 (i:=0) rfl
  have hcap1:r_2.Gates.length≤c3:=(hS6.lencap (i:=0) rfl (fm_lenn (l:=r_2.Gates) eN8 rfl) rfl rfl)
  have hS7:ST w0 [] _ [O1,O0] [R10,R9,R8,R7]:=hS6.freeze (i:=0) rfl
  refine sc 56 rfl rfl (yc Sl (Vo r_1 r_2 B2 c2 r_1.Edges.length B3 c3 r_2.Gates.length _ rfl hcap rfl hcap1 (hS7.inn0 [(true,1),(true,0)] rfl) hc1)) ?_
  rintro _ w_5 ⟨B4,c4,B5,c5,rfl,hq,ho,hd1⟩
  have hS8:=ST.outR0 hS7 hd1 ho (sk 1 (sk 0 (fun _ h=>by cases h)))
  let R11:Ro:=⟨B5,(r_3.Steps.flatMap eN2)⟩
  have ho3:Org w0 [] [R8,R7] [R11]:=org_trans0 hS7 ho (org_cons ho1 (org_cons ho2 org_nil))
  let O3:Ob:=⟨B4,3,(r_3.Start.flatMap encI),c4*1⟩
  have hS9:ST w0 [] _ [O1,O0,O3] [R11,R10,R9,R8,R7]:=hS8
  refine sQ 53 yv<|sQ 57 (ye (.agg #[.slice B4 r_3.Start.length c4,.slice B5 r_3.Steps.length c5]))<|sQ 58 (ye (.bool r_4)) ?_
  refine sS 7 (yN [.slice none 0 0,.slice none 0 0] 2 hS9 K61) ?_
  rintro _ w_6 ⟨b2,rfl,hS10⟩
  refine s0 (yK 3 2 0 hS10 K25) ?_
  rintro _ w_7 ⟨rfl,hS11⟩
  refine sQ 8 yu (rn (cq (cr ?_)))
  refine sQ 60 (yw 0 K13 K8 (hS11.c 0))<|sQ 61 (yw 0 K10 K3 (hS11.c 1)) ?_
  obtain ⟨⟨r_5,r_6⟩,hc2,hF2⟩:=bI hF2
  refine sc 62 rfl rfl (yc RL (RE r_1 r_2 B2 c2 r_1.Edges.length B3 c3 r_2.Gates.length _ rfl rfl (hS11.inn0 [(true,2),(true,1)] rfl) hc2)) ?_
  rintro _ w_8 ⟨B6,c6,B7,c7,rfl,hd2⟩
  have hS12:=hS11.out0 hd2
  refine sQ 59 yv<|sQ 63 (ye (.agg #[.slice B6 r_5.Start.length c6,.slice B7 r_5.Steps.length c7]))<|sQ 64 (ye (.bool r_6)) ?_
  refine sS 9 (yN [.slice none 0 0,.slice none 0 0] 2 hS12 K61) ?_
  rintro _ w_9 ⟨b3,rfl,hS13⟩
  refine s0 (yK 6 2 0 hS13 K25) ?_
  rintro _ w_10 ⟨rfl,hS14⟩
  refine sQ 10 yu (rn (cq (cq (cr ?_))))
  refine sQ 65 yv<|sQ 66 yv<|sQ 67 (Y_bne (p:=r_4) (q:=r_6) Is rfl rfl rfl)<|sQ 68 yv ?_
  refine sgq 69 rfl rfl (uF_ 68) (fun hg=>(yd (aD b2) 0 0 K90 K16)) ?_
  refine sgq 70 rfl rfl (uF_ 68) (fun hg1=>(yz 0 K23 (hS14.c 3) rfl (gv_of hg1))) ?_
  refine sgq 71 rfl rfl (uF_ 68) (fun hg2=>(yd (aD b3) 0 0 K90 K16)) ?_
  refine sgq 72 rfl rfl (uF_ 68) (fun hg3=>(yz 0 K23 (hS14.c 6) rfl (gv_of hg3))) ?_
  obtain ⟨r_7,hc3,hF2⟩:=bI hF2
  refine sgc 73 (v:=.bool r_7) (F:=hS14.fn) rfl rfl (uF_ 68) hS14 (fun hg4=>(yc W3 (CV.mono (Ud r_3.Start r_5.Start B4 c4 r_3.Start.length B6 c6 r_5.Start.length _ rfl rfl (hS14.inn0 [(false,2),(false,4)] rfl) (gb_inv hc3 hg4)) (by rintro _ _ ⟨rfl,h⟩; exact ⟨rfl,hS14.out00 h⟩)) rfl (mc (gv_of hg4) (mc (gv_of hg4) mn)))) ?_
  rintro w_11 hS15
  refine sgq 74 rfl rfl (uF_ 68) (fun hg5=>(yn rfl (gv_of hg5))) ?_
  refine sQ 75 yO<|sQ 76 yv ?_
  refine sgq 77 rfl rfl (uF_ 76) (fun hg6=>(yd (aD b2) 0 0 K71 K36)) ?_
  refine sgq 78 rfl rfl (uF_ 76) (fun hg7=>(yz 1 K55 (hS15.c 3) rfl (gv_of hg7))) ?_
  refine sgq 79 rfl rfl (uF_ 76) (fun hg8=>(Y_len K31 rfl (gv_of hg8))) ?_
  refine sgq 80 rfl rfl (uF_ 76) (fun hg9=>(yd (aD b3) 0 0 K71 K36)) ?_
  refine sgq 81 rfl rfl (uF_ 76) (fun hg10=>(yz 1 K55 (hS15.c 6) rfl (gv_of hg10))) ?_
  refine sgq 82 rfl rfl (uF_ 76) (fun hg11=>(Y_len K31 rfl (gv_of hg11))) ?_
  refine sgq 83 rfl rfl (uF_ 76) (fun hg12=>(Y_ne rfl (gv_of hg12) (gv_of hg12))) ?_
  refine sQ 84 yO (rn ?_)
  refine cw_cond rfl (fun hb1=>?_) (fun hb1=>?_)
  ·skip
   have hF3:=ct hF2 hb1
   refine cq (cr ?_)
   refine sQ 4 yu (rn (ct_ ?_))
   obtain rfl:=sI hF3
   exact e1 Tryz.results3 (hS15.sN [])
  ·skip
   have hF4:=cf' hF2 hb1
   refine cw_skip (cq (cq (cr ?_)))
   refine sQ 85 (yd (aD b2) 0 0 K71 K36)<|sQ 86 (yz 1 K55 (hS15.c 3))<|sQ 87 (Y_len K31 rfl rfl)<|sQ 88 yv (rn ?_)
   obtain ⟨hN,hF4⟩:=chk_inv hF4
   obtain ⟨z,hz,hF5⟩:=bI hF4
   refine cw_block ?_
   let O2:Ob:=⟨aD b2,34,[.slice B4 r_3.Start.length c4,.slice B5 r_3.Steps.length c5],2⟩
   let O4:Ob:=⟨aD b3,34,[.slice B6 r_5.Start.length c6,.slice B7 r_5.Steps.length c7],2⟩
   let O5:Ob:=⟨B6,3,(r_5.Start.flatMap encI),c6*1⟩
   let O6:Ob:=⟨B7,39,(r_5.Steps.flatMap eN2),c7*3⟩
   refine cw_loop (fun k f w=>∃ (i:Nat),FF f [(0,.slice B code.length c),(1,.slice B1 more.length c1),(5,pt (aD b) 0),(6,pt (aD b1) 0),(7,pt (aD b2) 0),(8,.bool r_4),(9,pt (aD b3) 0),(87,vi (r_3.Steps.length:Int)),(88,vi (i:Int))]∧ST w0 [] w [O1,O0,O2,O3,O4,O5,O6] [R11,R10,R9,R8,R7]∧i+k=r_3.Steps.length∧forX (Fb r_3 r_5) k i ()=some z) r_3.Steps.length ⟨0,(fc rfl (fc rfl (fc rfl (fc rfl (fc rfl (fc rfl (fc rfl (fc rfl (fc rfl fn_))))))))),(hS15.sel [0,1,3,2,6,4,5] rfl rfl),Nat.zero_add _,hz⟩ ?_
   rintro k_ f w ⟨i,hf,hS16,hik,hL⟩
   refine cq (cr ?_)
   refine sQ 89 (zL rfl (hf.g 88 8) (hf.g 87 7)) (rn (cq ?_))
   refine cw_cond rfl (fun hlt=>?_) (fun hlt=>?_)
   ·skip
    have hlt1:i<r_3.Steps.length:=by have h:=of_decide_eq_true hlt; omega
    obtain ⟨K2,rfl⟩:∃ k2,k_=k2+1:=⟨k_-1,by omega⟩
    obtain ⟨y,hb2,hL1⟩:=forX_go hL
    unfold Fb at hb2
    refine cw_skip (cq (cw_block (cq (cr ?_))))
    refine sQ 90 (yv rfl (hf.g 88 8))<|sQ 11 yu (rn (cq ?_))
    obtain ⟨x,hx,hb2⟩:=bI hb2
    obtain ⟨x1,hx1,hb2⟩:=bI hb2
    refine ra_start (hS16.se [0,1,2,3,4,5,6]).fn (by kernel_rfl) ?_
    have hS17:=hS16.drew
    have hQ0:=hS17.se [0,1,2,3,4,5,6]
    refine rq 0 91 rfl hQ0 (fun _ q=>(yd (aD b2) 0 0 K71 K36 rfl (hf.g 7 4)))<|rq 1 92 rfl hQ0 (fun _ q=>(yz 1 K55 (ST.c q 2)))<|rq 2 93 rfl hQ0 (fun _ q=>yv)<|rq 3 94 rfl hQ0 (fun _ q=>(yI B5 (i:Int) K31 K26 (gi_isSome A5 rfl (ST.rf q (i:=0) rfl) hx) (getI_nn hx) (getI_ltI hx rfl)))<|rq 4 95 rfl hQ0 (fun _ q=>(ya B5 ((i:Int).toNat*3) (r_3.Steps.flatMap eN2) [vi x.Gate,vi x.A,vi x.B] K96 K26 (ST.rf q (i:=0) rfl) rfl rfl (A5 x) (gi_seg A5 hx))) ?_
    refine rq 5 96 rfl hQ0 (fun _ q=>(yd (aD b3) 0 0 K71 K36 rfl (hf.g 9 6)))<|rq 6 97 rfl hQ0 (fun _ q=>(yz 1 K55 (ST.c q 4)))<|rq 7 98 rfl hQ0 (fun _ q=>yv)<|rq 8 99 rfl hQ0 (fun _ q=>(yI B7 (i:Int) K31 K26 (gi_isSome A5 rfl (ST.c q 6) hx1) (getI_nn hx1) (getI_ltI hx1 rfl)))<|rq 9 100 rfl hQ0 (fun _ q=>(ya B7 ((i:Int).toNat*3) (r_5.Steps.flatMap eN2) [vi x1.Gate,vi x1.A,vi x1.B] K96 K26 (ST.c q 6) rfl rfl (A5 x1) (gi_seg A5 hx1))) ?_
    refine rq 10 101 rfl hQ0 (fun _ q=>(Y_neA (xs:=#[vi x.Gate,vi x.A,vi x.B]) (ys:=#[vi x1.Gate,vi x1.A,vi x1.B]) (b:=((x.Gate==x1.Gate)&&((x.A==x1.A)&&((x.B==x1.B)&&true)))) SK rfl rfl rfl (eqr_struct (xs:=[vi x.Gate,vi x.A,vi x.B]) (ys:=[vi x1.Gate,vi x1.A,vi x1.B]) Wi Vp (pts_sc K1 rfl rfl (eqr_int K29) (pts_sc K1 rfl rfl (eqr_int K29) (pts_sc K1 rfl rfl (eqr_int K29) pts_nil)))))) ?_
    refine ra_done (by kernel_rfl) ?_
    refine cw_cond rfl (fun hb3=>?_) (fun hb3=>?_)
    ·skip
     have hF6:=ct hb2 hb3
     refine cq (cr ?_)
     refine sQ 4 yu (rn (ct_ ?_))
     obtain rfl:=sI hF6
     obtain rfl:=sI hL1
     obtain rfl:=sI hF5
     exact e1 Tryz.results3 (hS17.sN [])
    ·skip
     have hF7:=cf' hb2 hb3
     refine cw_skip (cr ?_)
     refine sQ 102 (zP rfl (hf.g 88 8))<|sQ 88 yv (rn ?_)
     obtain rfl:=sI hF7
     exact ⟨K2,Nat.lt_succ_self _,i+1,(hf.a 0 0 (hf.a 1 1 (hf.a 5 2 (hf.a 6 3 (hf.a 7 4 (hf.a 8 5 (hf.a 9 6 (hf.a 87 7 (fc (congrArg (Value.int .i64) (wr_succ hlt1 hN)) fn_))))))))),(hS17.sel [0,1,2,3,4,5,6] rfl rfl),(by omega),hL1⟩
   ·skip
    obtain rfl:k_=0:=by have h:=of_decide_eq_false hlt; omega
    refine cw_exit rfl ?_
    obtain rfl:=sI hL
    refine cq (cr ?_)
    refine sQ 104 (yv rfl (hf.g 1 1)) ?_
    obtain ⟨⟨r_8,r_9,r_10⟩,hc4,hF5⟩:=bI hF5
    refine sc 105 rfl rfl (yc Tc (SG more B1 c1 more.length _ rfl (hS16.inn0 [(true,4)] rfl) hc4)) ?_
    rintro _ w_12 ⟨B8,c8,B9,c9,B10,c10,rfl,hq1,ho4,hd3⟩
    have hS18:=ST.outR0 hS16 hd3 ho4 (sk 4 (fun _ h=>by cases h))
    let R12:Ro:=⟨B10,(r_10.flatMap encI)⟩
    have ho5:Org w0 [] [R8,R7] [R12]:=org_trans0 hS16 ho4 (org_cons (org_mem (i:=1) rfl) org_nil)
    have hS19:ST w0 [] _ [O1,O0,O2,O3,O4,O5,O6,⟨B8,118,(r_8.Edges.flatMap eN1),c8*2⟩,⟨B9,73,(r_9.Gates.flatMap eN0),c9*3⟩] [R12,R11,R10,R9,R8,R7]:=hS18
    refine sQ 103 yv<|sQ 106 (ye (.agg #[vi r_8.Nodes,.slice B8 r_8.Edges.length c8]))<|sQ 107 (ye (.agg #[vi r_9.Qubits,.slice B9 r_9.Gates.length c9]))<|sQ 108 (ye (.slice B10 r_10.length c10)) ?_
    refine sS 12 (yN V14 2 hS19 K44) ?_
    rintro _ w_13 ⟨b4,rfl,hS20⟩
    refine sS 13 (yN V14 2 hS20 K27) ?_
    rintro _ w_14 ⟨b5,rfl,hS21⟩
    refine s0 (yK 9 2 0 hS21 K8) ?_
    rintro _ w_15 ⟨rfl,hS22⟩
    refine s0 (yK 10 2 0 hS22 K3) ?_
    rintro _ w_16 ⟨rfl,hS23⟩
    refine sQ 14 yu (rn (cq (cr ?_)))
    refine sQ 110 (yv rfl (hf.g 0 0)) ?_
    obtain ⟨⟨r_11,r_12,r_13⟩,hc5,hF5⟩:=bI hF5
    refine sc 111 rfl rfl (yc NK (LD code B c code.length _ rfl (hS23.inn0 [(true,4)] rfl) hc5)) ?_
    rintro _ w_17 ⟨B11,c11,B12,c12,B13,c13,rfl,hq2,ho6,hd4⟩
    have hS24:=ST.outR0 hS23 hd4 ho6 (sk 4 (fun _ h=>by cases h))
    let R13:Ro:=⟨B13,(r_13.flatMap encI)⟩
    have ho7:Org w0 [] [R8,R7] [R13]:=org_trans0 hS23 ho6 (org_cons (org_mem (i:=0) rfl) org_nil)
    have hS25:ST w0 [] _ [O1,O0,O2,O3,O4,O5,O6,⟨B8,118,(r_8.Edges.flatMap eN1),c8*2⟩,⟨B9,73,(r_9.Gates.flatMap eN0),c9*3⟩,⟨aD b4,25,[vi r_8.Nodes,.slice B8 r_8.Edges.length c8],2⟩,⟨aD b5,28,[vi r_9.Qubits,.slice B9 r_9.Gates.length c9],2⟩,⟨B11,118,(r_11.Edges.flatMap eN1),c11*2⟩,⟨B12,73,(r_12.Gates.flatMap eN0),c12*3⟩] [R13,R12,R11,R10,R9,R8,R7]:=hS24
    refine sQ 109 yv<|sQ 112 (ye (.agg #[vi r_11.Nodes,.slice B11 r_11.Edges.length c11]))<|sQ 113 (ye (.agg #[vi r_12.Qubits,.slice B12 r_12.Gates.length c12]))<|sQ 114 (ye (.slice B13 r_13.length c13)) ?_
    refine sS 15 (yN V14 2 hS25 K44) ?_
    rintro _ w_18 ⟨b6,rfl,hS26⟩
    refine sS 16 (yN V14 2 hS26 K27) ?_
    rintro _ w_19 ⟨b7,rfl,hS27⟩
    refine s0 (yK 13 2 0 hS27 K8) ?_
    rintro _ w_20 ⟨rfl,hS28⟩
    refine s0 (yK 14 2 0 hS28 K3) ?_
    rintro _ w_21 ⟨rfl,hS29⟩
    refine sQ 17 yu (rn (cq (cr ?_)))
    refine sQ 116 yv<|sQ 117 yv ?_
    obtain ⟨⟨r_14,r_15⟩,hc6,hF5⟩:=bI hF5
    refine sc 118 rfl rfl (yc PK (Mp r_10 r_13 B10 c10 r_10.length B13 c13 r_13.length _ rfl hq1 rfl hq2 (hS29.inn0 [(true,1),(true,0)] rfl) hc6)) ?_
    rintro _ w_22 ⟨B14,c14,rfl,hd5⟩
    have hS30:=hS29.out0 hd5
    refine sQ 115 yv<|sQ 119 (ye (.slice B14 r_14.length c14))<|sQ 120 (ye (.bool r_15))<|sQ 18 yu<|sQ 19 yu (rn (cq (cr ?_)))
    refine sQ 122 yv<|sQ 123 yv ?_
    obtain ⟨⟨r_16,r_17⟩,hc7,hF5⟩:=bI hF5
    refine sc 124 rfl rfl (yc Wn (TH r_10 r_13 B10 c10 r_10.length B13 c13 r_13.length _ rfl hq1 rfl hq2 (hS30.inn0 [(true,1),(true,0)] rfl) hc7)) ?_
    rintro _ w_23 ⟨B15,c15,rfl,hd6⟩
    have hS31:=hS30.out0 hd6
    refine sQ 121 yv<|sQ 125 (ye (.slice B15 r_16.length c15))<|sQ 126 (ye (.bool r_17))<|sQ 20 yu<|sQ 21 yu (rn (cq (cq ?_)))
    obtain ⟨r_18,hc8,hF5⟩:=bI hF5
    obtain ⟨r_19,hc9,hF5⟩:=bI hF5
    refine ra_start (hS31.se [0,1,2,3,4,5,6,7,8,9,10,11,12,13,14,15,16]).fn (by kernel_rfl) ?_
    have hS34:=hS31.drew
    have hQ1:=hS34.se [0,1,2,3,4,5,6,7,8,9,10,11,12,13,14,15,16]
    refine rq 0 127 rfl hQ1 (fun _ q=>yv)<|rq 1 128 rfl hQ1 (fun _ q=>yv)<|rq 2 129 rfl hQ1 (fun _ q=>(Y_bne (p:=r_15) (q:=r_17) Is rfl rfl rfl))<|rq 3 130 rfl hQ1 (fun _ q=>yv)<|rG 4 131 rfl rfl rfl (uF_ 130) hQ1 (fun hg13 _ q=>yv) ?_
    refine rG 5 132 rfl rfl rfl (uF_ 130) hQ1 (fun hg14 _ q=>(Y_len K12 rfl (gv_of hg14)))<|rG 6 133 rfl rfl rfl (uF_ 130) hQ1 (fun hg15 _ q=>yv)<|rG 7 134 rfl rfl rfl (uF_ 130) hQ1 (fun hg16 _ q=>(Y_len K12 rfl (gv_of hg16)))<|rG 8 135 rfl rfl rfl (uF_ 130) hQ1 (fun hg17 _ q=>(Y_ne rfl (gv_of hg17) (gv_of hg17)))<|rq 9 136 rfl hQ1 (fun _ q=>yO) ?_
    refine rq 10 137 rfl hQ1 (fun _ q=>yv)<|rG 11 138 rfl rfl rfl (uF_ 137) hQ1 (fun hg18 _ q=>(yw 0 K13 K8 (ST.c q 9)))<|rG 13 140 rfl rfl rfl (uF_ 137) hQ1 (fun hg20 _ q=>(yw 0 K13 K8 (ST.c q 9))) ?_
    refine rA [12] ?_
    refine ra_gc 139 (i:=12) (B:=(!((!(r_15==r_17))||((r_14.length:Int) != (r_16.length:Int))))) (v:=.bool r_18) (F:=hS34.fn) rfl rfl rfl (uF_ 137) hS34 (fun hg19=>(yc JC (CV.mono (JB r_8 B8 c8 r_8.Edges.length _ rfl (hS34.inn0 [(false,7)] rfl) (gb_inv hc8 hg19)) (by rintro _ _ ⟨rfl,h⟩; exact ⟨rfl,hS34.out00 h⟩)) rfl (mc (gv_of hg19) mn))) ?_ ?_
    ·rintro w_24 hS35
     refine ⟨(hS35.se [0,1,2,3,4,5,6,7,8,9,10,11,12,13,14,15,16]),?_⟩
     refine rA [14] ?_
     refine ra_gc 141 (i:=14) (B:=(!((!(r_15==r_17))||((r_14.length:Int) != (r_16.length:Int))))) (v:=.bool r_19) (F:=hS35.fn) rfl rfl rfl (uF_ 137) hS35 (fun hg21=>(yc T6 (CV.mono (QE r_8 B8 c8 r_8.Edges.length _ rfl (hS35.inn0 [(false,7)] rfl) (gb_inv hc9 hg21)) (by rintro _ _ ⟨rfl,h⟩; exact ⟨rfl,hS35.out00 h⟩)) rfl (mc (gv_of hg21) mn))) ?_ ?_
     ·rintro w_25 hS36
      have hQ2:=hS36.se [0,1,2,3,4,5,6,7,8,9,10,11,12,13,14,15,16]
      refine ⟨hQ2,?_⟩
      refine rG 15 142 rfl rfl rfl (uF_ 137) hQ2 (fun hg22 _ q=>(Y_bne (p:=r_18) (q:=r_19) Is rfl (gv_of hg22) (gv_of hg22)))<|rq 16 143 rfl hQ2 (fun _ q=>yO) ?_
      refine ra_done (by kernel_rfl) ?_
      refine cw_cond rfl (fun hb4=>?_) (fun hb4=>?_)
      ·skip
       have hF8:=ct hF5 hb4
       refine cq (cr ?_)
       refine sQ 4 yu (rn (ct_ ?_))
       obtain rfl:=sI hF8
       exact e1 Tryz.results3 (hS36.sN [])
      ·skip
       have hF9:=cf' hF5 hb4
       refine cw_skip (cq (cq (cr ?_)))
       refine sQ 144 (yv rfl (hf.g 8 5))<|sQ 145 yn (rn ?_)
       refine cw_cond rfl (fun hb5=>?_) (fun hb5=>?_)
       ·skip
        have hF10:=ct hF9 hb5
        refine cq (cr ?_)
        refine sQ 4 yu (rn (ct_ ?_))
        obtain rfl:=sI hF10
        exact e1 Tryz.results3 (hS36.sN [])
       ·skip
        have hF11:=cf' hF9 hb5
        refine cw_skip (cq (cr ?_))
        refine sQ 147 (yw 0 K13 K8 (hS36.c 0) rfl (hf.g 5 2))<|sQ 148 (yw 0 K10 K3 (hS36.c 1) rfl (hf.g 6 3))<|sQ 149 (yd (aD b2) 0 0 K90 K16 rfl (hf.g 7 4))<|sQ 150 (yz 0 K23 (hS36.c 2)) ?_
        obtain ⟨⟨r_20,r_21⟩,hc10,hF11⟩:=bI hF11
        refine sc 151 rfl rfl (yc M7 (Pp r_1 r_2 r_3.Start B2 c2 r_1.Edges.length B3 c3 r_2.Gates.length B4 c4 r_3.Start.length _ rfl hcap rfl hcap1 rfl (hS36.lencap (i:=3) rfl (fm_lenn (l:=r_3.Start) encI_len rfl) rfl rfl) (hS36.inn0 [(true,4),(true,3),(false,3)] rfl) hc10)) ?_
        rintro _ w_26 ⟨rfl,hd7⟩
        have hS37:=hS36.out00 hd7
        refine sQ 146 yv<|sQ 152 (ye (vi r_20))<|sQ 153 (ye (.bool r_21))<|sQ 22 yu<|sQ 23 yu (rn (cq (cr ?_)))
        refine sQ 24 yu (rn (cq (cq (cr ?_))))
        refine sQ 25 yu (rn ?_)
        obtain ⟨hN1,hF11⟩:=chk_inv hF11
        obtain ⟨z1,hz1,hF12⟩:=bI hF11
        have hS39:=hS37.addNil 3
        refine cw_block ?_
        refine cw_loop (fun k f w=>∃ (q:Nat) (first:List Int) (B16:Option Addr) (c16:Nat),FF f [(5,pt (aD b) 0),(6,pt (aD b1) 0),(7,pt (aD b2) 0),(22,vi r_20),(23,.bool r_21),(24,.slice B16 first.length c16),(25,vi (q:Int))]∧ST w0 [] w [O1,O0,O2,O3,⟨B16,3,(first.flatMap encI),c16*1⟩] [R13,R12,R11,R10,R9,R8,R7]∧q+k=r_2.Qubits.toNat∧forN Gg k q first=some z1) r_2.Qubits.toNat ⟨0,[],none,0,(hf.a 5 2 (hf.a 6 3 (hf.a 7 4 (fc rfl (fc rfl (fc rfl (fc rfl fn_))))))),(hS39.sel [0,1,2,3,17] rfl rfl),Nat.zero_add _,hz1⟩ ?_
        rintro K11 f w ⟨q,first,B16,c16,hf1,hS38,hik1,hL2⟩
        refine cq (cq (cr ?_))
        refine sQ 154 (yv rfl (hf1.g 25 6))<|sQ 155 (yd (aD b1) 0 0 K42 K0 rfl (hf1.g 6 1))<|sQ 156 (yz 0 K1 (hS38.c 1))<|sQ 157 zL (rn ?_)
        refine cw_cond rfl (fun hlt2=>?_) (fun hlt2=>?_)
        ·skip
         have hlt3:q<r_2.Qubits.toNat:=by have h:=of_decide_eq_true hlt2; omega
         obtain ⟨K22,rfl⟩:∃ k2,K11=k2+1:=⟨K11-1,by omega⟩
         obtain ⟨y1,hb6,hL3⟩:=forN_go hL2
         unfold Gg at hb6
         refine cw_skip (cq (cw_block (cr ?_)))
         refine sQ 160 (yv rfl (hf1.g 24 5))<|sQ 161 (yv rfl (hf1.g 25 6)) ?_
         refine sS 162 (yF 1 1 [vi (q:Int)] 1 hS38 K5 K0 K52 rfl (mpc rfl mpn)) ?_
         rintro _ w_27 ⟨b8,rfl,hS40⟩
         obtain ⟨hap,hb6⟩:=chk_inv hb6
         refine sS 163 (aP 1 8 4 first [(q:Int)] hS40 K5 K0 K83 K75 encI_len encI_one (hS40.c 5) hap) ?_
         rintro _ w_28 ⟨B17,c17,rfl,hS41⟩
         refine sQ 24 yu (rn (cr ?_))
         refine sQ 158 (yv rfl (hf1.g 25 6))<|sQ 159 zP<|sQ 25 yu (rn ?_)
         obtain rfl:=sI hb6
         exact ⟨K22,Nat.lt_succ_self _,q+1,(first++[(q:Int)]),B17,c17,(hf1.a 5 0 (hf1.a 6 1 (hf1.a 7 2 (hf1.a 22 3 (hf1.a 23 4 (fc rfl (fc (congrArg (Value.int .i64) (wr_succ hlt3 hN1)) fn_))))))),(hS41.sel [0,1,2,3,4] rfl rfl),(by omega),hL3⟩
        ·skip
         obtain rfl:K11=0:=by have h:=of_decide_eq_false hlt2; omega
         refine cw_exit rfl ?_
         obtain rfl:=sI hL2
         refine cq (cr ?_)
         refine sQ 165 (yw 0 K13 K8 (hS38.c 0) rfl (hf1.g 5 0))<|sQ 166 (yw 0 K10 K3 (hS38.c 1) rfl (hf1.g 6 1))<|sQ 167 (yv rfl (hf1.g 24 5)) ?_
         obtain ⟨⟨r_22,r_23⟩,hc11,hF12⟩:=bI hF12
         refine sc 168 rfl rfl (yc M7 (Pp r_1 r_2 first B2 c2 r_1.Edges.length B3 c3 r_2.Gates.length B16 c16 first.length _ rfl hcap rfl hcap1 rfl (hS38.lencap (i:=4) rfl (fm_lenn (l:=first) encI_len rfl) rfl rfl) (hS38.inn0 [(true,4),(true,3),(false,4)] rfl) hc11)) ?_
         rintro _ w_29 ⟨rfl,hd8⟩
         have hS42:=hS38.out00 hd8
         have hS42:ST w0 [] _ [O1,O0,O2,O3,⟨B16,3,(first.flatMap encI),c16*1⟩] [R13,R12,R11,R10,R9,R8,R7]:=hS42
         refine sQ 164 yv<|sQ 169 (ye (vi r_22))<|sQ 170 (ye (.bool r_23))<|sQ 26 yu<|sQ 27 yu (rn (cq (cq (cr ?_))))
         refine sQ 171 (yv rfl (hf1.g 23 4))<|sQ 172 yn<|sQ 173 yv ?_
         refine sgq 174 rfl rfl (uF_ 173) (fun hg23=>(yv rfl (hf1.g 22 3))) ?_
         refine sgq 175 rfl rfl (uF_ 173) (fun hg24=>(yw 0 K46 K25 (hS42.c 2) rfl (hf1.g 7 2))) ?_
         obtain ⟨r_24,hc12,hF12⟩:=bI hF12
         refine sgc 176 (v:=vi r_24) (F:=hS42.fn) rfl rfl (uF_ 173) hS42 (fun hg25=>(yc Qz (CV.mono (Uq r_3 B4 c4 r_3.Start.length B5 c5 r_3.Steps.length _ rfl rfl (hS42.inn0 [(false,3),(true,2)] rfl) (gb_inv hc12 hg25)) (by rintro _ _ ⟨rfl,h⟩; exact ⟨rfl,hS42.out00 h⟩)) rfl (mc (gv_of hg25) mn))) ?_
         rintro w_30 hS43
         refine sgq 177 rfl rfl (uF_ 173) (fun hg26=>(Y_ne rfl (gv_of hg26) (gv_of hg26))) ?_
         refine sQ 178 yO<|sQ 179 yv ?_
         refine sgq 180 rfl rfl (uF_ 179) (fun hg27=>yv) ?_
         refine sgq 181 rfl rfl (uF_ 179) (fun hg28=>(yv rfl (gv_of hg28))) ?_
         refine sgq 182 rfl rfl (uG_ 181) (fun hg29=>yv) ?_
         refine sgq 183 rfl rfl (uG_ 181) (fun hg30=>(yv rfl (hf1.g 22 3))) ?_
         refine sgq 184 rfl rfl (uG_ 181) (fun hg31=>(zL rfl (gv_of hg31) (gv_of hg31))) ?_
         refine sgq 185 rfl rfl (uF_ 179) (fun hg32=>(yA rfl (gv_of hg32) (gv_and hg32))) ?_
         refine sQ 186 yO (rn ?_)
         refine cw_cond rfl (fun hb7=>?_) (fun hb7=>?_)
         ·skip
          have hF13:=ct hF12 hb7
          refine cq (cr ?_)
          refine sQ 4 yu (rn (ct_ ?_))
          obtain rfl:=sI hF13
          exact e1 Tryz.results3 (hS43.sN [])
         ·skip
          have hF14:=cf' hF12 hb7
          refine cw_skip (cq (cq (cr ?_)))
          refine sQ 187 (yd (aD b) 0 0 K45 K0 rfl (hf1.g 5 0))<|sQ 188 (yz 0 K1 (hS43.c 0))<|sQ 189 (Y_gt rfl rfl rfl)<|sQ 190 yv ?_
          refine sgq 191 rfl rfl (uF_ 190) (fun hg33=>(yd (aD b) 0 0 K45 K0 rfl (hf1.g 5 0))) ?_
          refine sgq 192 rfl rfl (uF_ 190) (fun hg34=>(yz 0 K1 (hS43.c 0) rfl (gv_of hg34))) ?_
          refine sgq 193 rfl rfl (uF_ 190) (fun hg35=>(yd (aD b1) 0 0 K42 K0 rfl (hf1.g 6 1))) ?_
          refine sgq 194 rfl rfl (uF_ 190) (fun hg36=>(yz 0 K1 (hS43.c 1) rfl (gv_of hg36))) ?_
          refine sgq 195 rfl rfl (uF_ 190) (fun hg37=>(zP rfl (gv_of hg37))) ?_
          refine sgq 196 rfl rfl (uF_ 190) (fun hg38=>(Y_gt rfl (gv_of hg38) (gv_of hg38))) ?_
          refine sQ 197 yO (rn ?_)
          refine cw_cond rfl (fun hb8=>?_) (fun hb8=>?_)
          ·skip
           have hF15:=ct hF14 hb8
           refine cq (cr ?_)
           refine sQ 4 yu (rn (ct_ ?_))
           obtain rfl:=sI hF15
           exact e1 Tryz.results3 (hS43.sN [])
          ·skip
           have hF16:=cf' hF14 hb8
           refine cw_skip (cq (cr ?_))
           refine sQ 199 (yw 0 K13 K8 (hS43.c 0) rfl (hf1.g 5 0))<|sQ 200 (yw 0 K10 K3 (hS43.c 1) rfl (hf1.g 6 1))<|sQ 201 (yw 0 K46 K25 (hS43.c 2) rfl (hf1.g 7 2)) ?_
           obtain ⟨⟨r_25,r_26⟩,hc13,hF16⟩:=bI hF16
           refine sc 202 rfl rfl (yc Tu (QX r_1 r_2 r_3 B2 c2 r_1.Edges.length B3 c3 r_2.Gates.length B4 c4 r_3.Start.length B5 c5 r_3.Steps.length _ rfl hcap rfl hcap1 rfl (hS43.lencap (i:=3) rfl (fm_lenn (l:=r_3.Start) encI_len rfl) rfl rfl) rfl (hS43.inn0 [(true,4),(true,3),(false,3),(true,2)] rfl) hc13)) ?_
           rintro _ w_31 ⟨B18,c18,rfl,hd9⟩
           have hS44:=hS43.out0 hd9
           refine sQ 198 yv<|sQ 203 (ye (.agg #[vi r_25.Qubits,.slice B18 r_25.Gates.length c18]))<|sQ 204 (ye (.bool r_26)) ?_
           refine sS 28 (yN V14 2 hS44 K27) ?_
           rintro _ w_32 ⟨b9,rfl,hS45⟩
           refine s0 (yK 6 2 0 hS45 K3) ?_
           rintro _ w_33 ⟨rfl,hS46⟩
           refine sQ 29 yu (rn (cq (cr ?_)))
           refine sQ 206 (yw 0 K13 K8 (hS46.c 0) rfl (hf1.g 5 0))<|sQ 207 (yw 0 K10 K3 (hS46.c 1) rfl (hf1.g 6 1))<|sQ 208 (yw 0 K46 K25 (hS46.c 2) rfl (hf1.g 7 2)) ?_
           obtain ⟨⟨r_27,r_28⟩,hc14,hF16⟩:=bI hF16
           refine sc 209 rfl rfl (yc UM (Tm r_1 r_2 r_3 B2 c2 r_1.Edges.length B3 c3 r_2.Gates.length B4 c4 r_3.Start.length B5 c5 r_3.Steps.length _ rfl hcap rfl hcap1 rfl (hS46.lencap (i:=3) rfl (fm_lenn (l:=r_3.Start) encI_len rfl) rfl rfl) rfl (hS46.inn0 [(true,4),(true,3),(false,3),(true,2)] rfl) hc14)) ?_
           rintro _ w_34 ⟨B19,c19,rfl,hd10⟩
           have hS47:=hS46.out0 hd10
           refine sQ 205 yv<|sQ 210 (ye (.slice B19 r_27.length c19))<|sQ 211 (ye (.bool r_28))<|sQ 30 yu<|sQ 31 yu (rn (cq (cr ?_)))
           refine sQ 213 yv<|sQ 214 (yd (aD b2) 0 0 K90 K16 rfl (hf1.g 7 2))<|sQ 215 (yz 0 K23 (hS47.c 2)) ?_
           obtain ⟨⟨r_29,r_30⟩,hc15,hF16⟩:=bI hF16
           refine sc 216 rfl rfl (yc PK (Mp r_27 r_3.Start B19 c19 r_27.length B4 c4 r_3.Start.length _ rfl (hS47.lencap (i:=7) rfl (fm_lenn (l:=r_27) encI_len rfl) rfl rfl) rfl (hS47.lencap (i:=3) rfl (fm_lenn (l:=r_3.Start) encI_len rfl) rfl rfl) (hS47.inn0 [(false,7),(false,3)] rfl) hc15)) ?_
           rintro _ w_35 ⟨B20,c20,rfl,hd11⟩
           have hS48:=hS47.out0 hd11
           refine sQ 212 yv<|sQ 217 (ye (.slice B20 r_29.length c20))<|sQ 218 (ye (.bool r_30))<|sQ 32 yu<|sQ 33 yu (rn (cq (cq (cr ?_))))
           refine sQ 219 yv<|sQ 220 yn<|sQ 221 yv ?_
           refine sgq 222 rfl rfl (uF_ 221) (fun hg39=>yv) ?_
           refine sgq 223 rfl rfl (uF_ 221) (fun hg40=>(yn rfl (gv_of hg40))) ?_
           refine sQ 224 yO<|sQ 225 yv ?_
           refine sgq 226 rfl rfl (uF_ 225) (fun hg41=>yv) ?_
           refine sgq 227 rfl rfl (uF_ 225) (fun hg42=>(yn rfl (gv_of hg42))) ?_
           refine sQ 228 yO (rn ?_)
           refine cw_cond rfl (fun hb9=>?_) (fun hb9=>?_)
           ·skip
            have hF17:=ct hF16 hb9
            refine cq (cr ?_)
            refine sQ 4 yu (rn (ct_ ?_))
            obtain rfl:=sI hF17
            exact e1 Tryz.results3 (hS48.sN [])
           ·skip
            have hF18:=cf' hF16 hb9
            refine cw_skip (cq (cr ?_))
            refine sQ 230 (yw 0 K10 K3 (hS48.c 6))<|sQ 231 (yd (aD b) 0 0 K45 K0 rfl (hf1.g 5 0))<|sQ 232 (yz 0 K1 (hS48.c 0))<|sQ 233 yv<|sQ 234 (Y_buildS (zs:=V14) (vs:=[(0,vi r_1.Nodes),(1,.slice B20 r_29.length c20)]) (cs:=[vi r_1.Nodes,.slice B20 r_29.length c20]) K81 K27 rfl (mpc rfl (mpc rfl mpn)) rfl) ?_
            obtain ⟨⟨r_31,r_32⟩,hc16,hF18⟩:=bI hF18
            refine sc 235 rfl rfl (yc Ts (SH r_25 (Ad.mk r_1.Nodes r_29) B18 c18 r_25.Gates.length B20 c20 r_29.length _ rfl rfl (hS48.inn0 [(false,5),(false,8)] rfl) hc16)) ?_
            rintro _ w_36 ⟨B21,c21,rfl,hd12⟩
            have hS49:=hS48.out0 hd12
            refine sQ 229 yv<|sQ 236 (ye (.agg #[vi r_31.Qubits,.slice B21 r_31.Gates.length c21]))<|sQ 237 (ye (.bool r_32)) ?_
            refine sS 34 (yN V14 2 hS49 K27) ?_
            rintro _ w_37 ⟨b10,rfl,hS50⟩
            refine s0 (yK 10 2 0 hS50 K3) ?_
            rintro _ w_38 ⟨rfl,hS51⟩
            refine sQ 35 yu (rn (cq (cr ?_)))
            refine sQ 239 (yw 0 K10 K3 (hS51.c 1) rfl (hf1.g 6 1))<|sQ 240 (yd (aD b2) 0 0 K90 K16 rfl (hf1.g 7 2))<|sQ 241 (yz 0 K23 (hS51.c 2))<|sQ 242 (yd (aD b) 0 0 K45 K0 rfl (hf1.g 5 0))<|sQ 243 (yz 0 K1 (hS51.c 0)) ?_
            obtain ⟨⟨r_33,r_34⟩,hc17,hF18⟩:=bI hF18
            refine sc 244 rfl rfl (yc TC (Td r_2 r_3.Start r_1.Nodes B3 c3 r_2.Gates.length B4 c4 r_3.Start.length _ rfl rfl (hS51.lencap (i:=3) rfl (fm_lenn (l:=r_3.Start) encI_len rfl) rfl rfl) (hS51.inn0 [(true,3),(false,3)] rfl) hc17)) ?_
            rintro _ w_39 ⟨B22,c22,rfl,hd13⟩
            have hS52:=hS51.out0 hd13
            refine sQ 238 yv<|sQ 245 (ye (.agg #[vi r_33.Qubits,.slice B22 r_33.Gates.length c22]))<|sQ 246 (ye (.bool r_34)) ?_
            refine sS 36 (yN V14 2 hS52 K27) ?_
            rintro _ w_40 ⟨b11,rfl,hS53⟩
            refine s0 (yK 12 2 0 hS53 K3) ?_
            rintro _ w_41 ⟨rfl,hS54⟩
            refine sQ 37 yu (rn (cq (cr ?_)))
            refine sQ 248 (yw 0 K10 K3 (hS54.c 10))<|sQ 249 (yw 0 K10 K3 (hS54.c 12)) ?_
            obtain ⟨⟨r_35,r_36⟩,hc18,hF18⟩:=bI hF18
            refine sc 250 rfl rfl (yc Ua (Ra r_31 r_33 B21 c21 r_31.Gates.length B22 c22 r_33.Gates.length _ rfl rfl (hS54.inn0 [(false,9),(false,11)] rfl) hc18)) ?_
            rintro _ w_42 ⟨rfl,hd14⟩
            have hS55:=hS54.out00 hd14
            refine sQ 247 yv<|sQ 251 (ye (.bool r_35))<|sQ 252 (ye (.bool r_36))<|sQ 38 yu<|sQ 39 yu (rn (cq (cr ?_)))
            refine sQ 254 (yw 0 K13 K8 (hS55.c 0) rfl (hf1.g 5 0))<|sQ 255 (yw 0 K10 K3 (hS55.c 6)) ?_
            obtain ⟨⟨r_37,r_38⟩,hc19,hF18⟩:=bI hF18
            refine sc 256 rfl rfl (yc Tn (RD r_1 r_25 B2 c2 r_1.Edges.length B18 c18 r_25.Gates.length _ rfl rfl (hS55.inn0 [(true,4),(false,5)] rfl) hc19)) ?_
            rintro _ w_43 ⟨rfl,hd15⟩
            have hS56:=hS55.out00 hd15
            refine sQ 253 yv<|sQ 257 (ye (.bool r_37))<|sQ 258 (ye (.bool r_38))<|sQ 40 yu<|sQ 41 yu (rn (cq (cr ?_)))
            refine sQ 259 yv<|sQ 260 yv ?_
            refine sgq 261 rfl rfl (uT_ 260) (fun hg43=>yv) ?_
            refine sQ 262 yA<|sQ 263 yv ?_
            refine sgq 264 rfl rfl (uT_ 263) (fun hg44=>yv) ?_
            refine sQ 265 yA<|sQ 266 yv ?_
            refine sgq 267 rfl rfl (uT_ 266) (fun hg45=>yv) ?_
            refine sQ 268 yA<|sQ 269 yv ?_
            refine sgq 270 rfl rfl (uT_ 269) (fun hg46=>yv) ?_
            refine sQ 271 yA<|sQ 272 yv ?_
            refine sgq 273 rfl rfl (uT_ 272) (fun hg47=>yv) ?_
            refine sQ 274 yA<|sQ 4 yu (rn (ct_ ?_))
            obtain rfl:=sI hF18
            exact e1 Tryz.results3 (hS56.sN [])
     exact aN
    exact aN
end Go.VK
