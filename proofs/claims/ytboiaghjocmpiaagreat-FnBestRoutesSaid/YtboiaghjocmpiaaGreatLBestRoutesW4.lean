/- Walks: each Go function returns what its Lean function says. By program. -/
import Derived.Test.YtboiaghjocmpiaaGreatLBestRoutesFa
import Derived.Test.YtboiaghjocmpiaaGreatLBestRoutesShelf
import Derived.Test.YtboiaghjocmpiaaGreatLibQ
import Derived.Test.YtboiaghjocmpiaaGreatLibU
import Derived.Test.YtboiaghjocmpiaaGreatLibX
import Derived.Test.YtboiaghjocmpiaaGreatLibZ
import Derived.Test.YtboiaghjocmpiaaGreatLibY
import Derived.Test.YtboiaghjocmpiaaGreatLibW
import Derived.Test.YtboiaghjocmpiaaGreatLBestRoutesW3
set_option linter.unusedVariables false
set_option maxRecDepth 100000
set_option maxHeartbeats 4000000
namespace Go.VK
open Go.RowKit
open Go.Proofs
open Go.IntKind
attribute [local irreducible] CW RW RA CV Y Yw Yc Ys RetOf
attribute [local irreducible] FG A2 Ck Du AX C7 BI C2 BN Eh Ee DX Eg F7 BS Ch Fv Dy DZ E8 Eb EV Ey Cz CE FZ H6 GW DF CD IM Bm Cl CG GO Gf Cv E4 F8 Gc EN Cp Fu C6 Ca Dh Gb AR Bf Dw Fr BE GA Ev Cc Dm Gh FK Dc E3 FO FL Fo Fj EX EE ED GZ
theorem I4 (rows:Int) (cols:Int) (cell:Int→Int→Option (Ab×Bool)) (kf:Nat) (caps:Array Value) (Rf:List Ro) (w0:World) (hk:callB Tryz.prog kf=true) (hp:∀ (w:World),ST w [] w [] Rf→∀ (x:Int) (x1:Int) (y1:Ab) (y2:Bool),cell x x1=some (y1,y2)→CV Tryz.prog kf ((vi x)::(vi x1)::caps.toList).toArray w (fun v w'=>v=.tuple #[gD_ y1,.bool y2]∧ST w [] w' [] [])) (hS:ST w0 [] w0 [] (Rf)) {r_:Af} {r_1:Bool} (hF:CE rows cols cell=some (r_,r_1)) :
  CV Tryz.prog 106 #[vi rows,vi cols,.func (.func kf) #[] caps] w0 (fun v w'=>∃ (B:Option Addr) (c:Nat),v=.tuple #[gM_ r_ B c,.bool r_1]∧ST w0 [] w' [⟨B,140,(r_.Cells.flatMap Aw),c*5⟩] []):=by
 unfold CE at hF
 refine cv_of_cw 52 Tryz.func106 rfl Tryz.ntmps106 rfl ?_
 refine cq (cr ?_)
 refine sS 6 (yN kN_ 3 hS K48) ?_
 rintro _ w_ ⟨b,rfl,hS1⟩
 refine sQ 7 yu (rn (cq (cr ?_)))
 refine sQ 13 yv<|sQ 14 yv<|sQ 15 (Y_buildS (zs:=kN_) (vs:=[(0,vi rows),(1,vi cols)]) (cs:=[vi rows,vi cols,.slice none 0 0]) DQ K48 rfl (mpc rfl (mpc rfl mpn)) rfl) ?_
 refine sS 8 (yN kN_ 3 hS1 K48) ?_
 rintro _ w_1 ⟨b1,rfl,hS2⟩
 refine s0 (yK 1 3 0 hS2 K14) ?_
 rintro _ w_2 ⟨rfl,hS3⟩
 refine rn (cq (cq (cr ?_)))
 refine sQ 16 yv ?_
 obtain ⟨r_2,hc,hF⟩:=bI hF
 refine sc 17 rfl rfl (yc IR (IC rows _  (hS3.inn0 [] rfl) hc)) ?_
 rintro _ w_3 ⟨rfl,hd⟩
 have hS4:=hS3.out00 hd
 refine sQ 18 yn<|sQ 19 yv ?_
 refine sgq 20 rfl rfl (uF_ 19) (fun hg=>yv) ?_
 obtain ⟨r_3,hc1,hF⟩:=bI hF
 refine sgc 21 (v:=.bool r_3) (F:=hS4.fn) rfl rfl (uF_ 19) hS4 (fun hg1=>(yc IR (CV.mono (IC cols _  (hS4.inn0 [] rfl) (gb_inv hc1 hg1)) (by rintro _ _ ⟨rfl,h⟩; exact ⟨rfl,hS4.out00 h⟩)) rfl (mc (gv_of hg1) mn))) ?_
 rintro w_4 hS5
 refine sgq 22 rfl rfl (uF_ 19) (fun hg2=>(yn rfl (gv_of hg2))) ?_
 refine sQ 23 yO (rn ?_)
 refine cw_cond rfl (fun hb=>?_) (fun hb=>?_)
 ·skip
  have hF1:=ct hF hb
  refine cq (cr ?_)
  refine sQ 24 (Y_buildS (zs:=kN_) (vs:=[]) (cs:=kN_) DQ K48 rfl mpn rfl) ?_
  refine s0 (yK 0 3 0 hS5 K14) ?_
  rintro _ w_5 ⟨rfl,hS6⟩
  refine sQ 7 yu (rn (ct_ ?_))
  have hS7:=hS6.addNil 140
  obtain ⟨rfl,rfl⟩:=pr2 (sI hF1)
  exact ret2 Tryz.results106 (rX K32 K14 (hS7.c 0)) rT ⟨none,0,rfl,(hS7.sN [2])⟩
 ·skip
  have hF2:=cf' hF hb
  refine cw_skip (cq (cq (cr ?_)))
  refine sQ 25 yv<|sQ 26 yv (rn ?_)
  obtain ⟨hN,hF2⟩:=chk_inv hF2
  obtain ⟨z,hz,hF3⟩:=bI hF2
  have hS9:=hS5.addNil 140
  refine cw_block ?_
  refine cw_loop (fun k f w=>∃ (i:Nat) (Cells:List Ab) (B1:Option Addr) (c1:Nat),FF f [(1,vi cols),(2,.func (.func kf) #[] caps),(6,pt (aD b) 0),(8,pt (aD b1) 0),(25,vi rows),(26,vi (i:Int))]∧ST w0 [] w [⟨aD b,94,kN_,3⟩,⟨aD b1,94,[vi rows,vi cols,.slice B1 Cells.length c1],3⟩,⟨B1,140,(Cells.flatMap Aw),c1*5⟩] (Rf)∧i+k=rows.toNat∧forX (FT cols cell) k i Cells=some z) rows.toNat ⟨0,[],none,0,(fc rfl (fc rfl (fc rfl (fc rfl (fc rfl (fc rfl fn_)))))),(hS9.sel [0,1,2] rfl rfl),Nat.zero_add _,hz⟩ ?_
  rintro k_ f w ⟨i,Cells,B1,c1,hf,hS8,hik,hL⟩
  refine cq (cr ?_)
  refine sQ 27 (zL rfl (hf.g 26 5) (hf.g 25 4)) (rn (cq ?_))
  refine cw_cond rfl (fun hlt=>?_) (fun hlt=>?_)
  ·skip
   have hlt1:i<rows.toNat:=by have h:=of_decide_eq_true hlt; omega
   obtain ⟨K2,rfl⟩:∃ k2,k_=k2+1:=⟨k_-1,by omega⟩
   obtain ⟨y3,hb1,hL1⟩:=forX_go hL
   unfold FT at hb1
   refine cw_skip (cq (cw_block (cq (cr ?_))))
   refine sQ 28 (yv rfl (hf.g 26 5))<|sQ 9 yu (rn (cq (cr ?_)))
   refine sQ 29 (yv rfl (hf.g 1 0))<|sQ 30 yv (rn ?_)
   obtain ⟨hN1,hb1⟩:=chk_inv hb1
   obtain ⟨z1,hz1,hF4⟩:=bI hb1
   refine cw_block ?_
   refine cw_loop (fun k f w=>∃ (i1:Nat) (Cells1:List Ab) (B2:Option Addr) (c2:Nat),FF f [(1,vi cols),(2,.func (.func kf) #[] caps),(6,pt (aD b) 0),(8,pt (aD b1) 0),(9,vi (i:Int)),(25,vi rows),(26,vi (i:Int)),(29,vi cols),(30,vi (i1:Int))]∧ST w0 [] w [⟨aD b,94,kN_,3⟩,⟨aD b1,94,[vi rows,vi cols,.slice B2 Cells1.length c2],3⟩,⟨B2,140,(Cells1.flatMap Aw),c2*5⟩] (Rf)∧i1+k=cols.toNat∧forX (Ga cell i) k i1 Cells1=some z1) cols.toNat ⟨0,Cells,B1,c1,(hf.a 1 0 (hf.a 2 1 (hf.a 6 2 (hf.a 8 3 (fc rfl (hf.a 25 4 (hf.a 26 5 (fc rfl (fc rfl fn_))))))))),(hS8.sel [0,1,2] rfl rfl),Nat.zero_add _,hz1⟩ ?_
   rintro K11 f w ⟨i1,Cells1,B2,c2,hf1,hS10,hik1,hL2⟩
   refine cq (cr ?_)
   refine sQ 31 (zL rfl (hf1.g 30 8) (hf1.g 29 7)) (rn (cq ?_))
   refine cw_cond rfl (fun hlt2=>?_) (fun hlt2=>?_)
   ·skip
    have hlt3:i1<cols.toNat:=by have h:=of_decide_eq_true hlt2; omega
    obtain ⟨K22,rfl⟩:∃ k2,K11=k2+1:=⟨K11-1,by omega⟩
    obtain ⟨y4,hb2,hL3⟩:=forX_go hL2
    unfold Ga at hb2
    refine cw_skip (cq (cw_block (cq (cr ?_))))
    refine sQ 32 (yv rfl (hf1.g 30 8))<|sQ 10 yu (rn (cq (cr ?_)))
    refine sQ 34 (yv rfl (hf1.g 2 1))<|sQ 35 (yv rfl (hf1.g 9 4))<|sQ 36 yv ?_
    obtain ⟨⟨r_4,r_5⟩,hc2,hb2⟩:=bI hb2
    refine sc 37 rfl rfl (Yc_clos (g:=kf) (vs:=(vi (i:Int))::(vi (i1:Int))::caps.toList) hk rfl rfl (clo_args (mc rfl (mc rfl mn))) (hp _ (hS10.innS (fun _ h=>mOd (i:=0) h)) (i:Int) (i1:Int) r_4 r_5 hc2)) ?_
    rintro _ w_6 ⟨rfl,hd1⟩
    have hS11:=hS10.out00 hd1
    refine sQ 33 yv<|sQ 38 (ye (gD_ r_4))<|sQ 39 (ye (.bool r_5)) ?_
    refine sS 11 (yN kZ_ 5 hS11 K33) ?_
    rintro _ w_7 ⟨b2,rfl,hS12⟩
    refine s0 (yK 3 5 0 hS12 K6) ?_
    rintro _ w_8 ⟨rfl,hS13⟩
    refine sQ 12 yu (rn (cq (cq (cr ?_))))
    refine sQ 40 yv<|sQ 41 yn (rn ?_)
    refine cw_cond rfl (fun hb3=>?_) (fun hb3=>?_)
    ·skip
     have hF5:=ct hb2 hb3
     refine cq (cr ?_)
     refine sQ 42 (Y_buildS (zs:=kN_) (vs:=[]) (cs:=kN_) DQ K48 rfl mpn rfl) ?_
     refine s0 (yK 0 3 0 hS13 K14 rfl (hf1.g 6 2)) ?_
     rintro _ w_9 ⟨rfl,hS14⟩
     refine sQ 7 yu (rn (ct_ ?_))
     have hS15:=hS14.addNil 140
     obtain rfl:=sI hF5
     obtain rfl:=sI hL3
     obtain rfl:=sI hF4
     obtain rfl:=sI hL1
     obtain ⟨rfl,rfl⟩:=pr2 (sI hF3)
     exact ret2 Tryz.results106 (rX K32 K14 (hS15.c 0) (hf1.g 6 2)) rT ⟨none,0,rfl,(hS15.sN [4])⟩
    ·skip
     have hF6:=cf' hb2 hb3
     refine cw_skip (cr ?_)
     refine sQ 43 (yd (aD b1) 0 0 EW K98 rfl (hf1.g 8 3))<|sQ 44 (yz 2 Fy (hS13.c 1))<|sQ 45 (yw 0 K17 K6 (hS13.c 3)) ?_
     refine sS 46 (yF 5 1 (kD_ r_4) 5 hS13 K78 K6 UT rfl (mpc rfl mpn)) ?_
     rintro _ w_10 ⟨b3,rfl,hS16⟩
     obtain ⟨hap,hF6⟩:=chk_inv hF6
     refine sS 47 (aP 5 40 2 Cells1 [r_4] hS16 K78 K6 SB K33 BV QU (hS16.c 4) hap) ?_
     rintro _ w_11 ⟨B3,c3,rfl,hS17⟩
     refine sQ 48 (yd (aD b1) 0 0 EW K98 rfl (hf1.g 8 3)) ?_
     refine s0 (yS 1 1 (aD b1) 94 (.slice B3 ((Cells1++[r_4]).length) c3) [.slice B3 ((Cells1++[r_4]).length) c3] 2 [vi rows,vi cols,.slice B3 ((Cells1++[r_4]).length) c3] hS17 K98) ?_
     rintro _ w_12 ⟨rfl,hS18⟩
     refine rn (cr ?_)
     refine sQ 49 (zP rfl (hf1.g 30 8))<|sQ 30 yv (rn ?_)
     obtain rfl:=sI hF6
     exact ⟨K22,Nat.lt_succ_self _,i1+1,(Cells1++[r_4]),B3,c3,(hf1.a 1 0 (hf1.a 2 1 (hf1.a 6 2 (hf1.a 8 3 (hf1.a 9 4 (hf1.a 25 5 (hf1.a 26 6 (hf1.a 29 7 (fc (congrArg (Value.int .i64) (wr_succ hlt3 hN1)) fn_))))))))),(hS18.sel [0,1,2] rfl rfl),(by omega),hL3⟩
   ·skip
    obtain rfl:K11=0:=by have h:=of_decide_eq_false hlt2; omega
    refine cw_exit rfl ?_
    obtain rfl:=sI hL2
    refine cr ?_
    refine sQ 50 (zP rfl (hf1.g 26 6))<|sQ 26 yv (rn ?_)
    obtain rfl:=sI hF4
    exact ⟨K2,Nat.lt_succ_self _,i+1,Cells1,B2,c2,(hf1.a 1 0 (hf1.a 2 1 (hf1.a 6 2 (hf1.a 8 3 (hf1.a 25 5 (fc (congrArg (Value.int .i64) (wr_succ hlt1 hN)) fn_)))))),(hS10.sel [0,1,2] rfl rfl),(by omega),hL1⟩
  ·skip
   obtain rfl:k_=0:=by have h:=of_decide_eq_false hlt; omega
   refine cw_exit rfl ?_
   obtain rfl:=sI hL
   refine cq (cr ?_)
   refine sQ 51 (yw 0 K32 K14 (hS8.c 1) rfl (hf.g 8 3)) ?_
   refine s0 (yK 0 3 0 hS8 K14 rfl (hf.g 6 2)) ?_
   rintro _ w_13 ⟨rfl,hS19⟩
   refine sQ 7 yu (rn (ct_ ?_))
   obtain ⟨rfl,rfl⟩:=pr2 (sI hF3)
   exact ret2 Tryz.results106 (rX K32 K14 (hS19.c 0) (hf.g 6 2)) rT ⟨B1,c1,rfl,(hS19.sN [2])⟩

theorem KK (n:Int)  (w0:World)  (hS:ST w0 [] w0 [] []) {r_:Ab} (hF:FZ n=some r_) :
  CV Tryz.prog 108 #[vi n] w0 (fun v w'=>v=(gD_ r_)∧ST w0 [] w' [] []):=by
 unfold FZ at hF
 refine cv_of_cw 6 Tryz.func108 rfl Tryz.ntmps108 rfl ?_
 refine cq (cr ?_)
 refine sS 2 (yN kZ_ 5 hS K33) ?_
 rintro _ w_ ⟨b,rfl,hS1⟩
 refine rn (cq (cr ?_))
 refine sQ 3 yv<|sQ 4 (Y_buildS (zs:=[vi 0,vi 0,vi 0,vi 0]) (vs:=[(0,vi n)]) (cs:=[vi n,vi 0,vi 0,vi 0]) K79 K37 rfl (mpc rfl mpn) rfl)<|sQ 5 (Y_buildS (zs:=kZ_) (vs:=[(0,.agg #[vi n,vi 0,vi 0,vi 0])]) (cs:=[vi n,vi 0,vi 0,vi 0,vi 0]) K72 K33 rfl (mpc rfl mpn) rfl) ?_
 refine s0 (yK 0 5 0 hS1 K6) ?_
 rintro _ w_1 ⟨rfl,hS2⟩
 refine rn (ct_ ?_)
 obtain rfl:=sI hF
 exact ret1 Tryz.results108 (rX K17 K6 (hS2.c 0)) ⟨rfl,(hS2.sN [])⟩

theorem Rm (i:Int) (j:Int)  (w0:World)  (hS:ST w0 [] w0 [] []) {r_:Ab} {r_1:Bool} (hF:H6 i j=some (r_,r_1)) :
  CV Tryz.prog 107 #[vi i,vi j] w0 (fun v w'=>v=.tuple #[gD_ r_,.bool r_1]∧ST w0 [] w' [] []):=by
 unfold H6 at hF
 refine cv_of_cw 11 Tryz.func107 rfl Tryz.ntmps107 rfl ?_
 refine cq (cr ?_)
 refine sS 4 (yN kZ_ 5 hS K33) ?_
 rintro _ w_ ⟨b,rfl,hS1⟩
 refine sQ 5 yu (rn (cq (cq (cr ?_))))
 refine sQ 6 yv<|sQ 7 yv<|sQ 8 zE (rn ?_)
 refine cw_cond rfl (fun hb=>?_) (fun hb=>?_)
 ·skip
  have hF1:=ct hF hb
  refine cq (cr ?_)
  obtain ⟨r_2,hc,hF1⟩:=bI hF1
  refine sc 9 rfl rfl (yc Lf (KK 1 _  (hS1.inn0 [] rfl) hc)) ?_
  rintro _ w_1 ⟨rfl,hd⟩
  have hS2:=hS1.out00 hd
  refine s0 (yK 0 5 0 hS2 K6) ?_
  rintro _ w_2 ⟨rfl,hS3⟩
  refine sQ 5 yu (rn (ct_ ?_))
  obtain ⟨rfl,rfl⟩:=pr2 (sI hF1)
  exact ret2 Tryz.results107 (rX K17 K6 (hS3.c 0)) rT ⟨rfl,(hS3.sN [])⟩
 ·skip
  have hF2:=cf' hF hb
  refine cw_skip (cq (cr ?_))
  refine sQ 10 (Y_buildS (zs:=kZ_) (vs:=[]) (cs:=kZ_) K72 K33 rfl mpn rfl) ?_
  refine s0 (yK 0 5 0 hS1 K6) ?_
  rintro _ w_3 ⟨rfl,hS4⟩
  refine sQ 5 yu (rn (ct_ ?_))
  obtain ⟨rfl,rfl⟩:=pr2 (sI hF2)
  exact ret2 Tryz.results107 (rX K17 K6 (hS4.c 0)) rT ⟨rfl,(hS4.sN [])⟩

theorem Uj (n:Int)  (w0:World)  (hS:ST w0 [] w0 [] []) {r_:Af} {r_1:Bool} (hF:GW n=some (r_,r_1)) :
  CV Tryz.prog 83 #[vi n] w0 (fun v w'=>∃ (B:Option Addr) (c:Nat),v=.tuple #[gM_ r_ B c,.bool r_1]∧ST w0 [] w' [⟨B,140,(r_.Cells.flatMap Aw),c*5⟩] []):=by
 unfold GW at hF
 refine cv_of_cw 9 Tryz.func83 rfl Tryz.ntmps83 rfl ?_
 refine cq (cr ?_)
 refine sS 2 (yN kN_ 3 hS K48) ?_
 rintro _ w_ ⟨b,rfl,hS1⟩
 refine sQ 3 yu (rn (cq (cr ?_)))
 refine sQ 4 yv<|sQ 5 yv ?_
 obtain ⟨⟨r_2,r_3⟩,hc,hF⟩:=bI hF
 refine sc 6 rfl rfl (yc Iu (I4 n n H6 107 (#[]) [] _ Wf (fun w hw x_0 x_1 y_0 y_1 h_=>Rm x_0 x_1  w  hw h_) (hS1.inn0 [] rfl) hc)) ?_
 rintro _ w_1 ⟨B1,c1,rfl,hd⟩
 have hS2:=hS1.out0 hd
 refine sQ 7 (ye (gM_ r_2 B1 c1))<|sQ 8 (ye (.bool r_3)) ?_
 refine s0 (yK 0 3 0 hS2 K14) ?_
 rintro _ w_2 ⟨rfl,hS3⟩
 refine sQ 3 yu (rn (ct_ ?_))
 obtain ⟨rfl,rfl⟩:=pr2 (sI hF)
 exact ret2 Tryz.results83 (rX K32 K14 (hS3.c 0)) rT ⟨B1,c1,rfl,(hS3.sN [1])⟩

theorem Ij (n:Int)  (w0:World)  (hS:ST w0 [] w0 [] []) {r_:Bool} (hF:DF n=some r_) :
  CV Tryz.prog 142 #[vi n] w0 (fun v w'=>v=.bool r_∧ST w0 [] w' [] []):=by
 unfold DF at hF
 refine cv_of_cw 5 Tryz.func142 rfl Tryz.ntmps142 rfl ?_
 refine cq (cr ?_)
 refine sQ 2 yu (rn (cq (cr ?_)))
 refine sQ 3 yv ?_
 obtain ⟨r_1,hc,hF⟩:=bI hF
 refine sc 4 rfl rfl (yc K53 (Bh n (-1000000000) 1000000000 _  (hS.inn0 [] rfl) hc)) ?_
 rintro _ w_ ⟨rfl,hd⟩
 have hS1:=hS.out00 hd
 refine sQ 2 yu (rn (ct_ ?_))
 obtain rfl:=sI hF
 exact e1 Tryz.results142 (hS1.sN [])

theorem HT (x:Aa)  (w0:World)  (hS:ST w0 [] w0 [] []) {r_:Bool} (hF:CD x=some r_) :
  CV Tryz.prog 135 #[gR_ x] w0 (fun v w'=>v=.bool r_∧ST w0 [] w' [] []):=by
 unfold CD at hF
 refine cv_of_cw 21 Tryz.func135 rfl Tryz.ntmps135 rfl ?_
 refine cq (cr ?_)
 refine sS 1 (yV (kR_ x) 4 hS) ?_
 rintro _ w_ ⟨b,rfl,hS1⟩
 refine sQ 2 yu (rn (cq (cr ?_)))
 refine sQ 3 (yd (aD b) 0 0 K58 K0)<|sQ 4 (yz 0 K1 (hS1.c 0)) ?_
 obtain ⟨r_1,hc,hF⟩:=bI hF
 refine sc 5 rfl rfl (yc II (Ij x.A _  (hS1.inn0 [] rfl) hc)) ?_
 rintro _ w_1 ⟨rfl,hd⟩
 have hS2:=hS1.out00 hd
 refine sQ 6 yv ?_
 refine sgq 7 rfl rfl (uT_ 6) (fun hg=>(yd (aD b) 0 0 K63 K0)) ?_
 refine sgq 8 rfl rfl (uT_ 6) (fun hg1=>(yz 1 K1 (hS2.c 0) rfl (gv_of hg1))) ?_
 obtain ⟨r_2,hc1,hF⟩:=bI hF
 refine sgc 9 (v:=.bool r_2) (F:=hS2.fn) rfl rfl (uT_ 6) hS2 (fun hg2=>(yc II (CV.mono (Ij x.B _  (hS2.inn0 [] rfl) (gb_inv hc1 hg2)) (by rintro _ _ ⟨rfl,h⟩; exact ⟨rfl,hS2.out00 h⟩)) rfl (mc (gv_of hg2) mn))) ?_
 rintro w_2 hS3
 refine sQ 10 yA<|sQ 11 yv ?_
 refine sgq 12 rfl rfl (uT_ 11) (fun hg3=>(yd (aD b) 0 0 K64 K0)) ?_
 refine sgq 13 rfl rfl (uT_ 11) (fun hg4=>(yz 2 K1 (hS3.c 0) rfl (gv_of hg4))) ?_
 obtain ⟨r_3,hc2,hF⟩:=bI hF
 refine sgc 14 (v:=.bool r_3) (F:=hS3.fn) rfl rfl (uT_ 11) hS3 (fun hg5=>(yc II (CV.mono (Ij x.C _  (hS3.inn0 [] rfl) (gb_inv hc2 hg5)) (by rintro _ _ ⟨rfl,h⟩; exact ⟨rfl,hS3.out00 h⟩)) rfl (mc (gv_of hg5) mn))) ?_
 rintro w_3 hS4
 refine sQ 15 yA<|sQ 16 yv ?_
 refine sgq 17 rfl rfl (uT_ 16) (fun hg6=>(yd (aD b) 0 0 K65 K0)) ?_
 refine sgq 18 rfl rfl (uT_ 16) (fun hg7=>(yz 3 K1 (hS4.c 0) rfl (gv_of hg7))) ?_
 obtain ⟨r_4,hc3,hF⟩:=bI hF
 refine sgc 19 (v:=.bool r_4) (F:=hS4.fn) rfl rfl (uT_ 16) hS4 (fun hg8=>(yc II (CV.mono (Ij x.D _  (hS4.inn0 [] rfl) (gb_inv hc3 hg8)) (by rintro _ _ ⟨rfl,h⟩; exact ⟨rfl,hS4.out00 h⟩)) rfl (mc (gv_of hg8) mn))) ?_
 rintro w_4 hS5
 refine sQ 20 yA<|sQ 2 yu (rn (ct_ ?_))
 obtain rfl:=sI hF
 exact e1 Tryz.results135 (hS5.sN [])

theorem Vu (x:Aa) (k_:Int)  (w0:World)  (hS:ST w0 [] w0 [] []) {r_:Aa} {r_1:Bool} (hF:IM x k_=some (r_,r_1)) :
  CV Tryz.prog 118 #[gR_ x,vi k_] w0 (fun v w'=>v=.tuple #[gR_ r_,.bool r_1]∧ST w0 [] w' [] []):=by
 unfold IM at hF
 refine cv_of_cw 33 Tryz.func118 rfl Tryz.ntmps118 rfl ?_
 refine cq (cr ?_)
 refine sS 2 (yV (kR_ x) 4 hS) ?_
 rintro _ w_ ⟨b,rfl,hS1⟩
 let V0:List Value:=[vi 0,vi 0,vi 0,vi 0]
 refine sS 4 (yN V0 4 hS1 K37) ?_
 rintro _ w_1 ⟨b1,rfl,hS2⟩
 refine sQ 5 yu (rn (cq (cq (cr ?_))))
 refine sQ 6 yv ?_
 obtain ⟨r_2,hc,hF⟩:=bI hF
 refine sc 7 rfl rfl (yc K53 (Bh k_ (-1000) 1000 _  (hS2.inn0 [] rfl) hc)) ?_
 rintro _ w_2 ⟨rfl,hd⟩
 have hS3:=hS2.out00 hd
 refine sQ 8 yn<|sQ 9 yv ?_
 refine sgq 10 rfl rfl (uF_ 9) (fun hg=>(yw 0 K18 K9 (hS3.c 0))) ?_
 obtain ⟨r_3,hc1,hF⟩:=bI hF
 refine sgc 11 (v:=.bool r_3) (F:=hS3.fn) rfl rfl (uF_ 9) hS3 (fun hg1=>(yc GK (CV.mono (HT x _  (hS3.inn0 [] rfl) (gb_inv hc1 hg1)) (by rintro _ _ ⟨rfl,h⟩; exact ⟨rfl,hS3.out00 h⟩)) rfl (mc (gv_of hg1) mn))) ?_
 rintro w_3 hS4
 refine sgq 12 rfl rfl (uF_ 9) (fun hg2=>(yn rfl (gv_of hg2))) ?_
 refine sQ 13 yO (rn ?_)
 refine cw_cond rfl (fun hb=>?_) (fun hb=>?_)
 ·skip
  have hF1:=ct hF hb
  refine cq (cr ?_)
  refine sQ 14 (Y_buildS (zs:=V0) (vs:=[]) (cs:=V0) K79 K37 rfl mpn rfl) ?_
  refine s0 (yK 1 4 0 hS4 K9) ?_
  rintro _ w_4 ⟨rfl,hS5⟩
  refine sQ 5 yu (rn (ct_ ?_))
  obtain ⟨rfl,rfl⟩:=pr2 (sI hF1)
  exact ret2 Tryz.results118 (rX K18 K9 (hS5.c 1)) rT ⟨rfl,(hS5.sN [])⟩
 ·skip
  have hF2:=cf' hF hb
  refine cw_skip (cq (cq (cr ?_)))
  refine sQ 15 yv<|sQ 16 (Y_rem (k:=.i64) (a:=k_) (b:=8) rfl rfl rfl (by decide))<|sQ 17 zP<|sQ 18 (Y_rem (k:=.i64) (a:=(i64.wrap ((Int.tmod k_ 8)+8))) (b:=8) rfl rfl rfl (by decide))<|sQ 19 yv (rn ?_)
  obtain ⟨hN,hF2⟩:=chk_inv hF2
  obtain ⟨z,hz,hF3⟩:=bI hF2
  refine cw_block ?_
  refine cw_loop (fun k f w=>∃ (i:Nat) (A:Int) (B:Int) (C:Int) (D:Int),FF f [(2,pt (aD b) 0),(4,pt (aD b1) 0),(18,vi (Int.tmod (i64.wrap ((Int.tmod k_ 8)+8)) 8)),(19,vi (i:Int))]∧ST w0 [] w [⟨aD b,138,[vi A,vi B,vi C,vi D],4⟩,⟨aD b1,138,V0,4⟩] []∧i+k=(Int.tmod (i64.wrap ((Int.tmod k_ 8)+8)) 8).toNat∧forN Lm k i (A,B,C,D)=some z) ((Int.tmod (i64.wrap ((Int.tmod k_ 8)+8)) 8).toNat) ⟨0,x.A,x.B,x.C,x.D,(fc rfl (fc rfl (fc rfl (fc rfl fn_)))),(hS4.sel [0,1] rfl rfl),Nat.zero_add _,hz⟩ ?_
  rintro K2 f w ⟨i,A,B,C,D,hf,hS6,hik,hL⟩
  refine cq (cr ?_)
  refine sQ 20 (zL rfl (hf.g 19 3) (hf.g 18 2)) (rn (cq ?_))
  refine cw_cond rfl (fun hlt=>?_) (fun hlt=>?_)
  ·skip
   have hlt1:i<(Int.tmod (i64.wrap ((Int.tmod k_ 8)+8)) 8).toNat:=by have h:=of_decide_eq_true hlt; omega
   obtain ⟨K11,rfl⟩:∃ k2,K2=k2+1:=⟨K2-1,by omega⟩
   obtain ⟨y,hb1,hL1⟩:=forN_go hL
   unfold Lm at hb1
   refine cw_skip (cq (cw_block (cr ?_)))
   refine sQ 21 (yd (aD b) 0 0 K65 K0 rfl (hf.g 2 0))<|sQ 22 (yz 3 K1 (hS6.c 0))<|sQ 23 (Y_neg (k:=.i64) (a:=D) rfl rfl)<|sQ 24 (yd (aD b) 0 0 K58 K0 rfl (hf.g 2 0))<|sQ 25 (yz 0 K1 (hS6.c 0))<|sQ 26 (yd (aD b) 0 0 K63 K0 rfl (hf.g 2 0)) ?_
   refine sQ 27 (yz 1 K1 (hS6.c 0))<|sQ 28 (yd (aD b) 0 0 K64 K0 rfl (hf.g 2 0))<|sQ 29 (yz 2 K1 (hS6.c 0))<|sQ 30 (Y_buildS (zs:=V0) (vs:=[(0,vi (i64.wrap (-D))),(1,vi A),(2,vi B),(3,vi C)]) (cs:=[vi (i64.wrap (-D)),vi A,vi B,vi C]) K79 K37 rfl (mpc rfl (mpc rfl (mpc rfl (mpc rfl mpn)))) rfl) ?_
   refine s0 (yK 0 4 0 hS6 K9 rfl (hf.g 2 0)) ?_
   rintro _ w_5 ⟨rfl,hS7⟩
   refine rn (cr ?_)
   refine sQ 31 (zP rfl (hf.g 19 3))<|sQ 19 yv (rn ?_)
   obtain rfl:=sI hb1
   exact ⟨K11,Nat.lt_succ_self _,i+1,(i64.wrap (-D)),A,B,C,(hf.a 2 0 (hf.a 4 1 (hf.a 18 2 (fc (congrArg (Value.int .i64) (wr_succ hlt1 hN)) fn_)))),(hS7.sel [0,1] rfl rfl),(by omega),hL1⟩
  ·skip
   obtain rfl:K2=0:=by have h:=of_decide_eq_false hlt; omega
   refine cw_exit rfl ?_
   obtain rfl:=sI hL
   refine cq (cr ?_)
   refine sQ 32 (yw 0 K18 K9 (hS6.c 0) rfl (hf.g 2 0)) ?_
   refine s0 (yK 1 4 0 hS6 K9 rfl (hf.g 4 1)) ?_
   rintro _ w_6 ⟨rfl,hS8⟩
   refine sQ 5 yu (rn (ct_ ?_))
   obtain ⟨rfl,rfl⟩:=pr2 (sI hF3)
   exact ret2 Tryz.results118 (rX K18 K9 (hS8.c 1) (hf.g 4 1)) rT ⟨rfl,(hS8.sN [])⟩

theorem H4 (k_:Int)  (w0:World)  (hS:ST w0 [] w0 [] []) {r_:Ab} (hF:Bm k_=some r_) :
  CV Tryz.prog 87 #[vi k_] w0 (fun v w'=>v=(gD_ r_)∧ST w0 [] w' [] []):=by
 unfold Bm at hF
 refine cv_of_cw 13 Tryz.func87 rfl Tryz.ntmps87 rfl ?_
 refine cq (cr ?_)
 refine sS 2 (yN kZ_ 5 hS K33) ?_
 rintro _ w_ ⟨b,rfl,hS1⟩
 refine rn (cq (cr ?_))
 refine sQ 6 (Y_buildS (zs:=[vi 0,vi 0,vi 0,vi 0]) (vs:=[(0,vi 1)]) (cs:=[vi 1,vi 0,vi 0,vi 0]) K79 K37 rfl (mpc rfl mpn) rfl)<|sQ 7 yv ?_
 obtain ⟨⟨r_1,r_2⟩,hc,hF⟩:=bI hF
 refine sc 8 rfl rfl (yc Ug (Vu (Aa.mk 1 0 0 0) k_ _  (hS1.inn0 [] rfl) hc)) ?_
 rintro _ w_1 ⟨rfl,hd⟩
 have hS2:=hS1.out00 hd
 refine sQ 5 yv<|sQ 9 (ye (gR_ r_1))<|sQ 10 (ye (.bool r_2)) ?_
 refine sS 3 (yN [vi 0,vi 0,vi 0,vi 0] 4 hS2 K37) ?_
 rintro _ w_2 ⟨b1,rfl,hS3⟩
 refine s0 (yK 1 4 0 hS3 K9) ?_
 rintro _ w_3 ⟨rfl,hS4⟩
 refine sQ 4 yu (rn (cq (cr ?_)))
 refine sQ 11 (yw 0 K18 K9 (hS4.c 1))<|sQ 12 (Y_buildS (zs:=kZ_) (vs:=[(0,gR_ r_1)]) (cs:=[vi r_1.A,vi r_1.B,vi r_1.C,vi r_1.D,vi 0]) K72 K33 rfl (mpc rfl mpn) rfl) ?_
 refine s0 (yK 0 5 0 hS4 K6) ?_
 rintro _ w_4 ⟨rfl,hS5⟩
 refine rn (ct_ ?_)
 obtain rfl:=sI hF
 exact ret1 Tryz.results87 (rX K17 K6 (hS5.c 0)) ⟨rfl,(hS5.sN [])⟩

theorem Ft (n:Int) (state:Int) (q:Int)  (w0:World)  (hS:ST w0 [] w0 [] []) {r_:Int} (hF:Cl n state q=some r_) :
  CV Tryz.prog 129 #[vi n,vi state,vi q] w0 (fun v w'=>v=vi r_∧ST w0 [] w' [] []):=by
 unfold Cl at hF
 refine cv_of_cw 14 Tryz.func129 rfl Tryz.ntmps129 rfl ?_
 refine cq (cr ?_)
 refine sQ 6 yu (rn (cq (cr ?_)))
 refine sQ 7 yv<|sQ 8 yv<|sQ 9 zM<|sQ 10 yv<|sQ 11 zM ?_
 obtain ⟨hsh,hF⟩:=chk_inv hF
 refine sQ 12 (Y_shr (k:=.i64) (a:=state) (k':=.i64) (b:=(i64.wrap ((i64.wrap (n-1))-q))) rfl rfl rfl hsh)<|sQ 13 (Y_band (k:=.i64) (a:=(shrK .i64 state (i64.wrap ((i64.wrap (n-1))-q)))) (b:=1) rfl rfl rfl)<|sQ 6 yu (rn (ct_ ?_))
 obtain rfl:=sI hF
 exact e1 Tryz.results129 (hS.sN [])

theorem Ig (n:Int) (state:Int) (q:Int)  (w0:World)  (hS:ST w0 [] w0 [] []) {r_:Int} (hF:CG n state q=some r_) :
  CV Tryz.prog 130 #[vi n,vi state,vi q] w0 (fun v w'=>v=vi r_∧ST w0 [] w' [] []):=by
 unfold CG at hF
 refine cv_of_cw 14 Tryz.func130 rfl Tryz.ntmps130 rfl ?_
 refine cq (cr ?_)
 refine sQ 6 yu (rn (cq (cr ?_)))
 refine sQ 7 yv<|sQ 8 yv<|sQ 9 zM<|sQ 10 yv<|sQ 11 zM ?_
 obtain ⟨hsh,hF⟩:=chk_inv hF
 refine sQ 12 (Y_shl (k:=.i64) (a:=1) (k':=.i64) (b:=(i64.wrap ((i64.wrap (n-1))-q))) rfl rfl rfl hsh)<|sQ 13 (Y_bxor (k:=.i64) (a:=state) (b:=(shlK .i64 1 (i64.wrap ((i64.wrap (n-1))-q)))) rfl rfl rfl)<|sQ 6 yu (rn (ct_ ?_))
 obtain rfl:=sI hF
 exact e1 Tryz.results130 (hS.sN [])

theorem VG (n:Int) (g:Ac) (state:Int)  (w0:World)  (hS:ST w0 [] w0 [] []) {r_:Int} (hF:GO n g state=some r_) :
  CV Tryz.prog 128 #[vi n,.agg #[vi g.Kind,vi g.A,vi g.B],vi state] w0 (fun v w'=>v=vi r_∧ST w0 [] w' [] []):=by
 unfold GO at hF
 refine cv_of_cw 51 Tryz.func128 rfl Tryz.ntmps128 rfl ?_
 refine cq (cr ?_)
 refine sS 4 (yV [vi g.Kind,vi g.A,vi g.B] 3 hS) ?_
 rintro _ w_ ⟨b,rfl,hS1⟩
 refine sQ 6 yu (rn (cq ?_))
 obtain ⟨r_1,hc,hF⟩:=bI hF
 obtain ⟨r_2,hc1,hF⟩:=bI hF
 refine ra_start (hS1.se [0]).fn (by kernel_rfl) ?_
 have hS4:=hS1.drew
 have hQ0:=hS4.se [0]
 refine rq 0 9 rfl hQ0 (fun _ q=>yv)<|rq 1 10 rfl hQ0 (fun _ q=>yv)<|rq 2 11 rfl hQ0 (fun _ q=>(yd (aD b) 0 0 K39 K0))<|rq 3 12 rfl hQ0 (fun _ q=>(yz 1 K1 (ST.c q 0)))<|rq 5 14 rfl hQ0 (fun _ q=>yv) ?_
 refine rq 6 15 rfl hQ0 (fun _ q=>yv)<|rq 7 16 rfl hQ0 (fun _ q=>(yd (aD b) 0 0 K43 K0))<|rq 8 17 rfl hQ0 (fun _ q=>(yz 2 K1 (ST.c q 0))) ?_
 refine rA [4] ?_
 refine rC 13 4 rfl (yc Gq (Ft n state g.A _  (hS4.inn0 [] rfl) hc)) ?_ aN
 rintro _ w_1 ⟨rfl,hd⟩
 have hS5:=hS4.out00 hd
 refine ⟨(hS5.se [0]),?_⟩
 refine rA [9] ?_
 refine rC 18 9 rfl (yc Gq (Ft n state g.B _  (hS5.inn0 [] rfl) hc1)) ?_ aN
 rintro _ w_2 ⟨rfl,hd1⟩
 have hS6:=hS5.out00 hd1
 have hQ1:=hS6.se [0]
 refine ⟨hQ1,?_⟩
 refine rq 10 7 rfl hQ1 (fun _ q=>yu)<|rq 11 8 rfl hQ1 (fun _ q=>yu) ?_
 refine ra_done (by kernel_rfl) ?_
 refine cq (cw_block (cq (cr ?_)))
 refine sQ 20 (yd (aD b) 0 0 K38 K0)<|sQ 21 (yz 0 K1 (hS6.c 0))<|sQ 22 zE<|sQ 23 yv ?_
 refine sgq 24 rfl rfl (uT_ 23) (fun hg=>yv) ?_
 refine sgq 25 rfl rfl (uT_ 23) (fun hg1=>(zE rfl (gv_of hg1))) ?_
 refine sQ 26 yA<|sQ 19 yu (rn ?_)
 refine cw_cond rfl (fun hb=>?_) (fun hb=>?_)
 ·skip
  have hF1:=ct hF hb
  refine cq (cr ?_)
  refine sQ 27 yv<|sQ 28 yv<|sQ 29 (yd (aD b) 0 0 K43 K0)<|sQ 30 (yz 2 K1 (hS6.c 0)) ?_
  obtain ⟨r_3,hc2,hF1⟩:=bI hF1
  refine sc 31 rfl rfl (yc Ib (Ig n state g.B _  (hS6.inn0 [] rfl) hc2)) ?_
  rintro _ w_3 ⟨rfl,hd2⟩
  have hS7:=hS6.out00 hd2
  refine sQ 6 yu (rn (ct_ ?_))
  obtain rfl:=sI hF1
  exact e1 Tryz.results128 (hS7.sN [])
 ·skip
  have hF2:=cf' hF hb
  refine cq (cr ?_)
  refine sQ 33 (yd (aD b) 0 0 K38 K0)<|sQ 34 (yz 0 K1 (hS6.c 0))<|sQ 35 zE<|sQ 36 yv ?_
  refine sgq 37 rfl rfl (uT_ 36) (fun hg2=>yv) ?_
  refine sgq 38 rfl rfl (uT_ 36) (fun hg3=>yv) ?_
  refine sgq 39 rfl rfl (uT_ 36) (fun hg4=>(Y_ne rfl (gv_of hg4) (gv_of hg4))) ?_
  refine sQ 40 yA<|sQ 32 yu (rn ?_)
  refine cw_cond rfl (fun hb1=>?_) (fun hb1=>?_)
  ·skip
   have hF3:=ct hF2 hb1
   refine cq ?_
   obtain ⟨r_4,hc3,hF3⟩:=bI hF3
   obtain ⟨r_5,hc4,hF3⟩:=bI hF3
   refine ra_start hQ1.fn (by kernel_rfl) ?_
   have hS10:=hS6.drew
   have hQ2:=hS10.se [0]
   refine rq 0 41 rfl hQ2 (fun _ q=>yv)<|rq 1 42 rfl hQ2 (fun _ q=>yv)<|rq 2 43 rfl hQ2 (fun _ q=>yv)<|rq 3 44 rfl hQ2 (fun _ q=>(yd (aD b) 0 0 K39 K0))<|rq 4 45 rfl hQ2 (fun _ q=>(yz 1 K1 (ST.c q 0))) ?_
   refine rq 6 47 rfl hQ2 (fun _ q=>(yd (aD b) 0 0 K43 K0))<|rq 7 48 rfl hQ2 (fun _ q=>(yz 2 K1 (ST.c q 0))) ?_
   refine rA [5] ?_
   refine rC 46 5 rfl (yc Ib (Ig n state g.A _  (hS10.inn0 [] rfl) hc3)) ?_ aN
   rintro _ w_4 ⟨rfl,hd3⟩
   have hS11:=hS10.out00 hd3
   refine ⟨(hS11.se [0]),?_⟩
   refine rA [8] ?_
   refine rC 49 8 rfl (yc Ib (Ig n r_4 g.B _  (hS11.inn0 [] rfl) hc4)) ?_ aN
   rintro _ w_5 ⟨rfl,hd4⟩
   have hS12:=hS11.out00 hd4
   refine ⟨(hS12.se [0]),?_⟩
   refine rq 9 6 rfl (hS12.se [0]) (fun _ q=>yu) ?_
   refine ra_done (by kernel_rfl) ?_
   refine ct_ ?_
   obtain rfl:=sI hF3
   exact e1 Tryz.results128 (hS12.sN [])
  ·skip
   have hF4:=cf' hF2 hb1
   refine cw_skip (cq (cr ?_))
   refine sQ 50 yv<|sQ 6 yu (rn (ct_ ?_))
   obtain rfl:=sI hF4
   exact e1 Tryz.results128 (hS6.sN [])

theorem Wi (kind:Int) (i:Int) (j:Int)  (w0:World)  (hS:ST w0 [] w0 [] []) {r_:Ab} (hF:Gf kind i j=some r_) :
  CV Tryz.prog 131 #[vi kind,vi i,vi j] w0 (fun v w'=>v=(gD_ r_)∧ST w0 [] w' [] []):=by
 unfold Gf at hF
 refine cv_of_cw 67 Tryz.func131 rfl Tryz.ntmps131 rfl ?_
 refine cq (cr ?_)
 refine sS 6 (yN kZ_ 5 hS K33) ?_
 rintro _ w_ ⟨b,rfl,hS1⟩
 refine rn (cq (cr ?_))
 refine sQ 9 (Y_buildS (zs:=[vi 0,vi 0,vi 0,vi 0]) (vs:=[(0,vi 1)]) (cs:=[vi 1,vi 0,vi 0,vi 0]) K79 K37 rfl (mpc rfl mpn) rfl)<|sQ 10 (Y_buildS (zs:=kZ_) (vs:=[(0,.agg #[vi 1,vi 0,vi 0,vi 0]),(1,vi 1)]) (cs:=[vi 1,vi 0,vi 0,vi 0,vi 1]) K72 K33 rfl (mpc rfl (mpc rfl mpn)) rfl) ?_
 refine sS 7 (yN kZ_ 5 hS1 K33) ?_
 rintro _ w_1 ⟨b1,rfl,hS2⟩
 refine s0 (yK 1 5 0 hS2 K6) ?_
 rintro _ w_2 ⟨rfl,hS3⟩
 refine rn (cq (cr ?_))
 refine sS 11 (Ys_mkMap (T:=184) hS3 rfl) ?_
 rintro _ w_3 ⟨g,rfl,hS4⟩
 refine s0 (Ys_mapIns (kE:=(Value.int .i64)) (vE:=(Value.int .i64)) (l:=([]:List (Int×Int))) (a:=4) (b:=4) (g:=g) (i:=2) hS4 (keyInt K29) Fg rfl rfl rfl rfl rfl rfl) ?_
 rintro _ w_4 ⟨rfl,hS5⟩
 refine s0 (Ys_mapIns (kE:=(Value.int .i64)) (vE:=(Value.int .i64)) (l:=(mput ([]:List (Int×Int)) 4 4)) (a:=5) (b:=2) (g:=g) (i:=2) hS5 (keyInt K29) Fg rfl rfl rfl rfl rfl rfl) ?_
 rintro _ w_5 ⟨rfl,hS6⟩
 refine s0 (Ys_mapIns (kE:=(Value.int .i64)) (vE:=(Value.int .i64)) (l:=(mput (mput ([]:List (Int×Int)) 4 4) 5 2)) (a:=6) (b:=6) (g:=g) (i:=2) hS6 (keyInt K29) Fg rfl rfl rfl rfl rfl rfl) ?_
 rintro _ w_6 ⟨rfl,hS7⟩
 refine s0 (Ys_mapIns (kE:=(Value.int .i64)) (vE:=(Value.int .i64)) (l:=(mput (mput (mput ([]:List (Int×Int)) 4 4) 5 2) 6 6)) (a:=7) (b:=1) (g:=g) (i:=2) hS7 (keyInt K29) Fg rfl rfl rfl rfl rfl rfl) ?_
 rintro _ w_7 ⟨rfl,hS8⟩
 refine s0 (Ys_mapIns (kE:=(Value.int .i64)) (vE:=(Value.int .i64)) (l:=(mput (mput (mput (mput ([]:List (Int×Int)) 4 4) 5 2) 6 6) 7 1)) (a:=8) (b:=7) (g:=g) (i:=2) hS8 (keyInt K29) Fg rfl rfl rfl rfl rfl rfl) ?_
 rintro _ w_8 ⟨rfl,hS9⟩
 refine sQ 12 (ym (.map (some g)))<|sQ 8 (yg (.map (some g))) (rn (cq (cw_block (cq (cr ?_)))))
 refine sQ 14 (ym (vi kind))<|sQ 15 zE<|sQ 13 (yg (.bool (kind==1))) (rn ?_)
 refine cw_cond rfl (fun hb=>?_) (fun hb=>?_)
 ·skip
  have hF1:=ct hF hb
  refine cq ?_
  obtain ⟨z,hz,hF2⟩:=bI hF1
  refine cw_mid (fun f w=>∃ (A:Int),A=z∧FF f [(6,pt (aD b) 0),(7,pt (aD b1) 0)]∧ST w0 [] w [⟨aD b,140,kZ_,5⟩,⟨aD b1,140,[vi A,vi 0,vi 0,vi 0,vi 1],5⟩] []) ?_ ?_
  ·skip
   refine cq (cr ?_)
   refine sQ 16 (ym (vi i))<|sQ 17 zE<|sQ 18 (ym (.bool (i==1))) ?_
   refine sgq 19 rfl rfl (uT_ 18) (fun hg=>(ym (vi j))) ?_
   refine sgq 20 rfl rfl (uT_ 18) (fun hg1=>(zE rfl (gv_of hg1))) ?_
   refine sQ 21 yA (rn ?_)
   refine cw_cond rfl (fun hb1=>?_) (fun hb1=>?_)
   ·skip
    have hF3:=ct hz hb1
    refine cr ?_
    refine sQ 22 (yd (aD b1) 0 3 Fw K9)<|sQ 23 (yd (aD b1) 0 0 K58 K0) ?_
    refine s0 (yS 1 1 (aD b1) 140 (vi (-1)) [vi (-1)] 0 [vi (-1),vi 0,vi 0,vi 0,vi 1] hS9 K0) ?_
    rintro _ w_9 ⟨rfl,hS11⟩
    refine rn ?_
    exact ⟨(-1),(sI hF3),(fc rfl (fc rfl fn_)),(hS11.sel [0,1] rfl rfl)⟩
   ·skip
    have hF4:=cf' hz hb1
    refine cw_skip ?_
    exact ⟨1,(sI hF4),(fc rfl (fc rfl fn_)),(hS9.sel [0,1] rfl rfl)⟩
  rintro f w ⟨A,rfl,hf,hS10⟩
  refine cq (cr ?_)
  refine sQ 24 (yw 0 K17 K6 (hS10.c 1) rfl (hf.g 7 1)) ?_
  refine s0 (yK 0 5 0 hS10 K6 rfl (hf.g 6 0)) ?_
  rintro _ w_10 ⟨rfl,hS12⟩
  refine rn (ct_ ?_)
  obtain rfl:=sI hF2
  exact ret1 Tryz.results131 (rX K17 K6 (hS12.c 0) (hf.g 6 0)) ⟨rfl,(hS12.sN [])⟩
 ·skip
  have hF5:=cf' hF hb
  refine cq (cr ?_)
  refine sQ 26 (ym (vi kind))<|sQ 27 zE<|sQ 28 (ym (.bool (kind==2))) ?_
  refine sgq 29 rfl rfl (uT_ 28) (fun hg2=>(ym (vi i))) ?_
  refine sgq 30 rfl rfl (uT_ 28) (fun hg3=>(ym (vi j))) ?_
  refine sgq 31 rfl rfl (uT_ 28) (fun hg4=>(Y_ne rfl (gv_of hg4) (gv_of hg4))) ?_
  refine sQ 32 yA<|sQ 25 (yg (.bool ((kind==2)&&(i != j)))) (rn ?_)
  refine cw_cond rfl (fun hb2=>?_) (fun hb2=>?_)
  ·skip
   have hF6:=ct hF5 hb2
   refine cq (cr ?_)
   obtain ⟨r_1,hc,hF6⟩:=bI hF6
   refine sc 33 rfl rfl (yc Lf (KK 1 _  (hS9.inn0 [] rfl) hc)) ?_
   rintro _ w_11 ⟨rfl,hd⟩
   have hS13:=hS9.out00 hd
   refine s0 (yK 0 5 0 hS13 K6) ?_
   rintro _ w_12 ⟨rfl,hS14⟩
   refine rn (ct_ ?_)
   obtain rfl:=sI hF6
   exact ret1 Tryz.results131 (rX K17 K6 (hS14.c 0)) ⟨rfl,(hS14.sN [])⟩
  ·skip
   have hF7:=cf' hF5 hb2
   refine cq (cr ?_)
   refine sQ 35 (ym (vi kind))<|sQ 36 zE<|sQ 37 (ym (.bool (kind==3))) ?_
   refine sgq 38 rfl rfl (uT_ 37) (fun hg5=>(ym (vi i))) ?_
   refine sgq 39 rfl rfl (uT_ 37) (fun hg6=>(ym (vi j))) ?_
   refine sgq 40 rfl rfl (uT_ 37) (fun hg7=>(Y_ne rfl (gv_of hg7) (gv_of hg7))) ?_
   refine sQ 41 yA<|sQ 34 (yg (.bool ((kind==3)&&(i != j)))) (rn ?_)
   refine cw_cond rfl (fun hb3=>?_) (fun hb3=>?_)
   ·skip
    have hF8:=ct hF7 hb3
    refine cq (cr ?_)
    refine sQ 42 (ym (vi j))<|sQ 43 zX<|sQ 44 zP ?_
    obtain ⟨r_2,hc1,hF8⟩:=bI hF8
    refine sc 45 rfl rfl (yc He (H4 (i64.wrap (2+(i64.wrap (4*j)))) _  (hS9.inn0 [] rfl) hc1)) ?_
    rintro _ w_13 ⟨rfl,hd1⟩
    have hS15:=hS9.out00 hd1
    refine s0 (yK 0 5 0 hS15 K6) ?_
    rintro _ w_14 ⟨rfl,hS16⟩
    refine rn (ct_ ?_)
    obtain rfl:=sI hF8
    exact ret1 Tryz.results131 (rX K17 K6 (hS16.c 0)) ⟨rfl,(hS16.sN [])⟩
   ·skip
    have hF9:=cf' hF7 hb3
    refine cq (cr ?_)
    refine sQ 47 (ym (vi kind))<|sQ 48 zE<|sQ 49 (ym (.bool (kind==2))) ?_
    refine sgq 50 rfl rfl (uF_ 49) (fun hg8=>(ym (vi kind))) ?_
    refine sgq 51 rfl rfl (uF_ 49) (fun hg9=>(zE rfl (gv_of hg9))) ?_
    refine sQ 52 yO<|sQ 53 (ym (.bool ((kind==2)||(kind==3)))) ?_
    refine sgq 54 rfl rfl (uF_ 53) (fun hg10=>(ym (vi i))) ?_
    refine sgq 55 rfl rfl (uF_ 53) (fun hg11=>(ym (vi j))) ?_
    refine sgq 56 rfl rfl (uF_ 53) (fun hg12=>(Y_ne rfl (gv_of hg12) (gv_of hg12))) ?_
    refine sQ 57 yO<|sQ 46 (yg (.bool (((kind==2)||(kind==3))||(i != j)))) (rn ?_)
    refine cw_cond rfl (fun hb4=>?_) (fun hb4=>?_)
    ·skip
     have hF10:=ct hF9 hb4
     refine cq (cr ?_)
     refine sQ 58 (Y_buildS (zs:=kZ_) (vs:=[]) (cs:=kZ_) K72 K33 rfl mpn rfl) ?_
     refine s0 (yK 0 5 0 hS9 K6) ?_
     rintro _ w_15 ⟨rfl,hS17⟩
     refine rn (ct_ ?_)
     obtain rfl:=sI hF10
     exact ret1 Tryz.results131 (rX K17 K6 (hS17.c 0)) ⟨rfl,(hS17.sN [])⟩
    ·skip
     have hF11:=cf' hF9 hb4
     refine cq (cr ?_)
     refine sQ 60 (ym (vi i))<|sQ 61 zE<|sQ 59 (yg (.bool (i==0))) (rn ?_)
     refine cw_cond rfl (fun hb5=>?_) (fun hb5=>?_)
     ·skip
      have hF12:=ct hF11 hb5
      refine cq (cr ?_)
      obtain ⟨r_3,hc2,hF12⟩:=bI hF12
      refine sc 62 rfl rfl (yc Lf (KK 1 _  (hS9.inn0 [] rfl) hc2)) ?_
      rintro _ w_16 ⟨rfl,hd2⟩
      have hS18:=hS9.out00 hd2
      refine s0 (yK 0 5 0 hS18 K6) ?_
      rintro _ w_17 ⟨rfl,hS19⟩
      refine rn (ct_ ?_)
      obtain rfl:=sI hF12
      exact ret1 Tryz.results131 (rX K17 K6 (hS19.c 0)) ⟨rfl,(hS19.sN [])⟩
     ·skip
      have hF13:=cf' hF11 hb5
      refine cw_skip (cq (cr ?_))
      refine sQ 63 (ym (.map (some g)))<|sQ 64 (ym (vi kind))<|sQ 65 (Y_mapGet (kE:=(Value.int .i64)) (vE:=(Value.int .i64)) (l:=(mput (mput (mput (mput (mput ([]:List (Int×Int)) 4 4) 5 2) 6 6) 7 1) 8 7)) (a:=kind) (d:=0) (g:=g) (i:=2) hS9 (keyInt K29) Fg K75 rfl rfl rfl rfl) ?_
      obtain ⟨r_4,hc3,hF13⟩:=bI hF13
      refine sc 66 rfl rfl (yc He (H4 (mgt (mput (mput (mput (mput (mput ([]:List (Int×Int)) 4 4) 5 2) 6 6) 7 1) 8 7) kind 0) _  (hS9.inn0 [] rfl) hc3)) ?_
      rintro _ w_18 ⟨rfl,hd3⟩
      have hS20:=hS9.out00 hd3
      refine s0 (yK 0 5 0 hS20 K6) ?_
      rintro _ w_19 ⟨rfl,hS21⟩
      refine rn (ct_ ?_)
      obtain rfl:=sI hF13
      exact ret1 Tryz.results131 (rX K17 K6 (hS21.c 0)) ⟨rfl,(hS21.sN [])⟩

theorem WI (i:Int) (j:Int) (p:Ac) (p1:Int) (B:Option Addr) (B1:Option Addr) (w0:World)  (hS:ST w0 [] w0 [] [⟨B,[vi p.Kind,vi p.A,vi p.B]⟩,⟨B1,[vi p1]⟩]) {r_:Ab} {r_1:Bool} (hF:Cv i j p p1=some (r_,r_1)) :
  CV Tryz.prog 127 #[vi i,vi j,pt B 0,pt B1 0] w0 (fun v w'=>v=.tuple #[gD_ r_,.bool r_1]∧ST w0 [] w' [] []):=by
 unfold Cv at hF
 refine cv_of_cw 75 Tryz.func127 rfl Tryz.ntmps127 rfl ?_
 refine cq (cr ?_)
 refine sS 6 (yN kZ_ 5 hS K33) ?_
 rintro _ w_ ⟨b,rfl,hS1⟩
 refine sQ 7 yu (rn (cq ?_))
 obtain ⟨z,hz,hF1⟩:=bI hF
 refine cw_mid (fun f w=>.inl ()=z∧FF f [(6,pt (aD b) 0)]∧ST w0 [] w [⟨aD b,140,kZ_,5⟩] [⟨B,[vi p.Kind,vi p.A,vi p.B]⟩,⟨B1,[vi p1]⟩]) ?_ ?_
 ·skip
  refine cw_block (cq (cr ?_))
  refine sQ 9 (yd B 0 0 K38 K0)<|sQ 10 (yz 0 K1 (hS1.rf (i:=0) rfl))<|sQ 11 zE<|sQ 8 yu (rn ?_)
  refine cw_cond rfl (fun hb=>?_) (fun hb=>?_)
  ·skip
   have hF2:=ct hz hb
   refine cq (cr ?_)
   refine sQ 12 yv<|sQ 13 yv<|sQ 14 zE (rn ?_)
   refine cw_cond rfl (fun hb1=>?_) (fun hb1=>?_)
   ·skip
    have hF3:=ct hF2 hb1
    refine cq (cr ?_)
    obtain ⟨r_2,hc,hF3⟩:=bI hF3
    refine sc 15 rfl rfl (yc He (H4 1 _  (hS1.inn0 [] rfl) hc)) ?_
    rintro _ w_1 ⟨rfl,hd⟩
    have hS3:=hS1.out00 hd
    refine s0 (yK 0 5 0 hS3 K6) ?_
    rintro _ w_2 ⟨rfl,hS4⟩
    refine sQ 7 yu (rn (ct_ ?_))
    obtain rfl:=sI hF3
    obtain ⟨rfl,rfl⟩:=pr2 (sI hF1)
    exact ret2 Tryz.results127 (rX K17 K6 (hS4.c 0)) rT ⟨rfl,(hS4.sN [])⟩
   ·skip
    have hF4:=cf' hF2 hb1
    refine cw_skip ?_
    exact ⟨(sI hF4),(fc rfl fn_),(hS1.sel [0] rfl rfl)⟩
  ·skip
   have hF5:=cf' hz hb
   refine cq (cr ?_)
   refine sQ 17 (yd B 0 0 K38 K0)<|sQ 18 (yz 0 K1 (hS1.rf (i:=0) rfl)) ?_
   obtain ⟨r_3,hc1,hF5⟩:=bI hF5
   refine sc 19 rfl rfl (yc Er (EH p.Kind _  (hS1.inn0 [] rfl) hc1)) ?_
   rintro _ w_3 ⟨rfl,hd1⟩
   have hS5:=hS1.out00 hd1
   refine sQ 16 yu (rn ?_)
   refine cw_cond rfl (fun hb2=>?_) (fun hb2=>?_)
   ·skip
    have hF6:=ct hF5 hb2
    refine cq (cr ?_)
    refine sQ 20 (yz 0 K1 (hS5.rf (i:=1) rfl))<|sQ 21 (yw 0 K35 K7 (hS5.rf (i:=0) rfl))<|sQ 22 yv ?_
    obtain ⟨r_4,hc2,hF6⟩:=bI hF6
    refine sc 23 rfl rfl (yc WC (VG p1 p i _  (hS5.inn0 [] rfl) hc2)) ?_
    rintro _ w_4 ⟨rfl,hd2⟩
    have hS6:=hS5.out00 hd2
    refine sQ 24 yv<|sQ 25 zE (rn ?_)
    refine cw_cond rfl (fun hb3=>?_) (fun hb3=>?_)
    ·skip
     have hF7:=ct hF6 hb3
     refine cq (cr ?_)
     refine sQ 26 (yd B 0 0 K38 K0)<|sQ 27 (yz 0 K1 (hS6.rf (i:=0) rfl))<|sQ 28 zE<|sQ 29 yv ?_
     refine sgq 30 rfl rfl (uT_ 29) (fun hg=>(yz 0 K1 (hS6.rf (i:=1) rfl))) ?_
     refine sgq 31 rfl rfl (uT_ 29) (fun hg1=>yv) ?_
     refine sgq 32 rfl rfl (uT_ 29) (fun hg2=>(yd B 0 0 K39 K0)) ?_
     refine sgq 33 rfl rfl (uT_ 29) (fun hg3=>(yz 1 K1 (hS6.rf (i:=0) rfl) rfl (gv_of hg3))) ?_
     obtain ⟨r_5,hc3,hF7⟩:=bI hF7
     refine sgc 34 (v:=vi r_5) (F:=hS6.fn) rfl rfl (uT_ 29) hS6 (fun hg4=>(yc Gq (CV.mono (Ft p1 i p.A _  (hS6.inn0 [] rfl) (gb_inv hc3 hg4)) (by rintro _ _ ⟨rfl,h⟩; exact ⟨rfl,hS6.out00 h⟩)) rfl (mc (gv_of hg4) (mc (gv_of hg4) (mc (gv_of hg4) mn))))) ?_
     rintro w_5 hS7
     refine sgq 35 rfl rfl (uT_ 29) (fun hg5=>(zE rfl (gv_of hg5))) ?_
     refine sQ 36 yA<|sQ 37 yv ?_
     refine sgq 38 rfl rfl (uT_ 37) (fun hg6=>(yz 0 K1 (hS7.rf (i:=1) rfl))) ?_
     refine sgq 39 rfl rfl (uT_ 37) (fun hg7=>yv) ?_
     refine sgq 40 rfl rfl (uT_ 37) (fun hg8=>(yd B 0 0 K43 K0)) ?_
     refine sgq 41 rfl rfl (uT_ 37) (fun hg9=>(yz 2 K1 (hS7.rf (i:=0) rfl) rfl (gv_of hg9))) ?_
     obtain ⟨r_6,hc4,hF7⟩:=bI hF7
     refine sgc 42 (v:=vi r_6) (F:=hS7.fn) rfl rfl (uT_ 37) hS7 (fun hg10=>(yc Gq (CV.mono (Ft p1 i p.B _  (hS7.inn0 [] rfl) (gb_inv hc4 hg10)) (by rintro _ _ ⟨rfl,h⟩; exact ⟨rfl,hS7.out00 h⟩)) rfl (mc (gv_of hg10) (mc (gv_of hg10) (mc (gv_of hg10) mn))))) ?_
     rintro w_6 hS8
     refine sgq 43 rfl rfl (uT_ 37) (fun hg11=>(zE rfl (gv_of hg11))) ?_
     refine sQ 44 yA ?_
     obtain ⟨r_7,hc5,hF7⟩:=bI hF7
     refine sc 45 rfl rfl (yc M0 (NO (((p.Kind==10)&&(r_5==1))&&(r_6==1)) _  (hS8.inn0 [] rfl) hc5)) ?_
     rintro _ w_7 ⟨rfl,hd3⟩
     have hS9:=hS8.out00 hd3
     refine sQ 46 zX ?_
     obtain ⟨r_8,hc6,hF7⟩:=bI hF7
     refine sc 47 rfl rfl (yc He (H4 (i64.wrap (4*r_7)) _  (hS9.inn0 [] rfl) hc6)) ?_
     rintro _ w_8 ⟨rfl,hd4⟩
     have hS10:=hS9.out00 hd4
     refine s0 (yK 0 5 0 hS10 K6) ?_
     rintro _ w_9 ⟨rfl,hS11⟩
     refine sQ 7 yu (rn (ct_ ?_))
     obtain rfl:=sI hF7
     obtain ⟨rfl,rfl⟩:=pr2 (sI hF1)
     exact ret2 Tryz.results127 (rX K17 K6 (hS11.c 0)) rT ⟨rfl,(hS11.sN [])⟩
    ·skip
     have hF8:=cf' hF6 hb3
     refine cw_skip ?_
     exact ⟨(sI hF8),(fc rfl fn_),(hS6.sel [0] rfl rfl)⟩
   ·skip
    have hF9:=cf' hF5 hb2
    refine cq (cr ?_)
    refine sQ 49 yv<|sQ 50 yv<|sQ 51 zE<|sQ 52 yv ?_
    refine sgq 53 rfl rfl (uF_ 52) (fun hg12=>(yz 0 K1 (hS5.rf (i:=1) rfl))) ?_
    refine sgq 54 rfl rfl (uF_ 52) (fun hg13=>yv) ?_
    refine sgq 55 rfl rfl (uF_ 52) (fun hg14=>(yd B 0 0 K39 K0)) ?_
    refine sgq 56 rfl rfl (uF_ 52) (fun hg15=>(yz 1 K1 (hS5.rf (i:=0) rfl) rfl (gv_of hg15))) ?_
    obtain ⟨r_9,hc7,hF9⟩:=bI hF9
    refine sgc 57 (v:=vi r_9) (F:=hS5.fn) rfl rfl (uF_ 52) hS5 (fun hg16=>(yc Ib (CV.mono (Ig p1 i p.A _  (hS5.inn0 [] rfl) (gb_inv hc7 hg16)) (by rintro _ _ ⟨rfl,h⟩; exact ⟨rfl,hS5.out00 h⟩)) rfl (mc (gv_of hg16) (mc (gv_of hg16) (mc (gv_of hg16) mn))))) ?_
    rintro w_10 hS12
    refine sgq 58 rfl rfl (uF_ 52) (fun hg17=>yv) ?_
    refine sgq 59 rfl rfl (uF_ 52) (fun hg18=>(zE rfl (gv_of hg18) (gv_of hg18))) ?_
    refine sQ 60 yO<|sQ 48 yu (rn ?_)
    refine cw_cond rfl (fun hb4=>?_) (fun hb4=>?_)
    ·skip
     have hF10:=ct hF9 hb4
     refine cq ?_
     obtain ⟨r_10,hc8,hF10⟩:=bI hF10
     obtain ⟨r_11,hc9,hF10⟩:=bI hF10
     obtain ⟨r_12,hc10,hF10⟩:=bI hF10
     refine ra_start (hS12.se []).fn (by kernel_rfl) ?_
     have hS16:=hS12.drew
     have hQ0:=hS16.se []
     refine rq 0 61 rfl hQ0 (fun _ q=>(yd B 0 0 K38 K0))<|rq 1 62 rfl hQ0 (fun _ q=>(yz 0 K1 (ST.rf q (i:=0) rfl)))<|rq 2 63 rfl hQ0 (fun _ q=>(yz 0 K1 (ST.rf q (i:=1) rfl)))<|rq 3 64 rfl hQ0 (fun _ q=>yv)<|rq 4 65 rfl hQ0 (fun _ q=>(yd B 0 0 K39 K0)) ?_
     refine rq 5 66 rfl hQ0 (fun _ q=>(yz 1 K1 (ST.rf q (i:=0) rfl)))<|rq 7 68 rfl hQ0 (fun _ q=>(yz 0 K1 (ST.rf q (i:=1) rfl)))<|rq 8 69 rfl hQ0 (fun _ q=>yv)<|rq 9 70 rfl hQ0 (fun _ q=>(yd B 0 0 K39 K0))<|rq 10 71 rfl hQ0 (fun _ q=>(yz 1 K1 (ST.rf q (i:=0) rfl))) ?_
     refine rA [6] ?_
     refine rC 67 6 rfl (yc Gq (Ft p1 i p.A _  (hS16.inn0 [] rfl) hc8)) ?_ aN
     rintro _ w_11 ⟨rfl,hd5⟩
     have hS17:=hS16.out00 hd5
     refine ⟨(hS17.se []),?_⟩
     refine rA [11] ?_
     refine rC 72 11 rfl (yc Gq (Ft p1 j p.A _  (hS17.inn0 [] rfl) hc9)) ?_ aN
     rintro _ w_12 ⟨rfl,hd6⟩
     have hS18:=hS17.out00 hd6
     refine ⟨(hS18.se []),?_⟩
     refine rA [12] ?_
     refine rC 73 12 rfl (yc SH (Wi p.Kind r_10 r_11 _  (hS18.inn0 [] rfl) hc10)) ?_ aN
     rintro _ w_13 ⟨rfl,hd7⟩
     have hS19:=hS18.out00 hd7
     refine ⟨(hS19.se []),?_⟩
     refine rA [13] ?_
     refine rZ 13 rfl (yK 0 5 0 hS19 K6) ?_ aN
     rintro _ w_14 ⟨rfl,hS20⟩
     refine ⟨(hS20.se []),?_⟩
     refine rq 14 7 rfl (hS20.se []) (fun _ q=>yu) ?_
     refine ra_done (by kernel_rfl) ?_
     refine ct_ ?_
     obtain rfl:=sI hF10
     obtain ⟨rfl,rfl⟩:=pr2 (sI hF1)
     exact ret2 Tryz.results127 (rX K17 K6 (hS20.c 0)) rT ⟨rfl,(hS20.sN [])⟩
    ·skip
     have hF11:=cf' hF9 hb4
     refine cw_skip ?_
     exact ⟨(sI hF11),(fc rfl fn_),(hS12.sel [0] rfl rfl)⟩
 rintro f w ⟨rfl,hf,hS2⟩
 refine cq (cr ?_)
 refine sQ 74 (Y_buildS (zs:=kZ_) (vs:=[]) (cs:=kZ_) K72 K33 rfl mpn rfl) ?_
 refine s0 (yK 0 5 0 hS2 K6 rfl (hf.g 6 0)) ?_
 rintro _ w_15 ⟨rfl,hS21⟩
 refine sQ 7 yu (rn (ct_ ?_))
 obtain ⟨rfl,rfl⟩:=pr2 (sI hF1)
 exact ret2 Tryz.results127 (rX K17 K6 (hS21.c 0) (hf.g 6 0)) rT ⟨rfl,(hS21.sN [])⟩

theorem WG (n:Int) (g:Ac)  (w0:World)  (hS:ST w0 [] w0 [] []) {r_:Af} {r_1:Bool} (hF:E4 n g=some (r_,r_1)) :
  CV Tryz.prog 109 #[vi n,.agg #[vi g.Kind,vi g.A,vi g.B]] w0 (fun v w'=>∃ (B:Option Addr) (c:Nat),v=.tuple #[gM_ r_ B c,.bool r_1]∧ST w0 [] w' [⟨B,140,(r_.Cells.flatMap Aw),c*5⟩] []):=by
 unfold E4 at hF
 refine cv_of_cw 19 Tryz.func109 rfl Tryz.ntmps109 rfl ?_
 refine cq (cr ?_)
 refine sS 2 (yB 3 (vi n) [vi n] 1 hS) ?_
 rintro _ w_ ⟨b,rfl,hS1⟩
 refine sS 3 (yV [vi g.Kind,vi g.A,vi g.B] 3 hS1) ?_
 rintro _ w_1 ⟨b1,rfl,hS2⟩
 refine sS 4 (yN kN_ 3 hS2 K48) ?_
 rintro _ w_2 ⟨b2,rfl,hS3⟩
 refine sQ 5 yu (rn (cq (cq (cr ?_))))
 refine sQ 6 (yz 0 K1 (hS3.c 0))<|sQ 7 (yw 0 K35 K7 (hS3.c 1)) ?_
 obtain ⟨r_2,hc,hF⟩:=bI hF
 refine sc 8 rfl rfl (yc LX (NQ n g _  (hS3.inn0 [] rfl) hc)) ?_
 rintro _ w_3 ⟨rfl,hd⟩
 have hS4:=hS3.out00 hd
 refine sQ 9 yn (rn ?_)
 refine cw_cond rfl (fun hb=>?_) (fun hb=>?_)
 ·skip
  have hF1:=ct hF hb
  refine cq (cr ?_)
  refine sQ 10 (Y_buildS (zs:=kN_) (vs:=[]) (cs:=kN_) DQ K48 rfl mpn rfl) ?_
  refine s0 (yK 2 3 0 hS4 K14) ?_
  rintro _ w_4 ⟨rfl,hS5⟩
  refine sQ 5 yu (rn (ct_ ?_))
  have hS6:=hS5.addNil 140
  obtain ⟨rfl,rfl⟩:=pr2 (sI hF1)
  exact ret2 Tryz.results109 (rX K32 K14 (hS6.c 2)) rT ⟨none,0,rfl,(hS6.sN [3])⟩
 ·skip
  have hF2:=cf' hF hb
  refine cw_skip (cq ?_)
  obtain ⟨hsh,hF2⟩:=chk_inv hF2
  obtain ⟨hsh1,hF2⟩:=chk_inv hF2
  obtain ⟨⟨r_3,r_4⟩,hc1,hF2⟩:=bI hF2
  refine ra_start (hS4.se [0,1]).fn (by kernel_rfl) ?_
  have hS8:=hS4.drew
  have hQ0:=hS8.se [0,1]
  refine rq 0 11 rfl hQ0 (fun _ q=>(yz 0 K1 (ST.c q 0)))<|rq 1 12 rfl hQ0 (fun _ q=>(Y_shl (k:=.i64) (a:=1) (k':=.i64) (b:=n) rfl rfl rfl hsh))<|rq 2 13 rfl hQ0 (fun _ q=>(yz 0 K1 (ST.c q 0)))<|rq 3 14 rfl hQ0 (fun _ q=>(Y_shl (k:=.i64) (a:=1) (k':=.i64) (b:=n) rfl rfl rfl hsh1))<|rq 4 15 rfl hQ0 (fun _ q=>(Y_makeFunc (cs:=[pt (aD b1) 0,pt (aD b) 0]) rfl rfl (mc rfl (mc rfl mn)))) ?_
  refine rA [5] ?_
  refine rC 16 5 rfl (yc Iu (I4 (shlK .i64 1 n) (shlK .i64 1 n) (fun x_0 x_1=>Cv x_0 x_1 g n) 127 (#[pt (aD b1) 0,pt (aD b) 0]) [⟨aD b1,[vi g.Kind,vi g.A,vi g.B]⟩,⟨aD b,[vi n]⟩] _ Qg (fun w hw x_0 x_1 y_0 y_1 h_=>WI x_0 x_1 g n (aD b1) (aD b) w  hw h_) (hS8.inn0 [(false,1),(false,0)] rfl) hc1)) ?_ aN
  rintro _ w_5 ⟨B1,c1,rfl,hd1⟩
  have hS9:=hS8.out0 hd1
  have hQ1:=hS9.se [0,1]
  refine ⟨hQ1,?_⟩
  refine rq 6 17 rfl hQ1 (fun _ q=>(ye (gM_ r_3 B1 c1)))<|rq 7 18 rfl hQ1 (fun _ q=>(ye (.bool r_4))) ?_
  refine rA [8] ?_
  refine rZ 8 rfl (yK 2 3 0 hS9 K14) ?_ aN
  rintro _ w_6 ⟨rfl,hS10⟩
  refine ⟨(hS10.se [0,1]),?_⟩
  refine rq 9 5 rfl (hS10.se [0,1]) (fun _ q=>yu) ?_
  refine ra_done (by kernel_rfl) ?_
  refine ct_ ?_
  obtain ⟨rfl,rfl⟩:=pr2 (sI hF2)
  exact ret2 Tryz.results109 (rX K32 K14 (hS10.c 2)) rT ⟨B1,c1,rfl,(hS10.sN [3])⟩

theorem UN (s:List Ab) (f_:Ab→Option (Bool)) (B:Option Addr) (c n:Nat) (kf:Nat) (caps:Array Value) (Rf:List Ro) (w0:World) (hn:s.length=n) (hk:callB Tryz.prog kf=true) (hp:∀ (w:World),ST w [] w [] Rf→∀ (x:Ab) (y:Bool),f_ x=some y→CV Tryz.prog kf ((gD_ x)::caps.toList).toArray w (fun v w'=>v=.bool y∧ST w [] w' [] [])) (hS:ST w0 [] w0 [] (⟨B,(s.flatMap Aw)⟩::Rf)) {r_:Int} (hF:F8 s f_=some r_) :
  CV Tryz.prog 134 #[.slice B n c,.func (.func kf) #[] caps] w0 (fun v w'=>v=vi r_∧ST w0 [] w' [] []):=by
 subst hn
 unfold F8 at hF
 refine cv_of_cw 19 Tryz.func134 rfl Tryz.ntmps134 rfl ?_
 refine cq (cr ?_)
 refine sQ 4 yu (rn (cq (cq (cr ?_))))
 refine sQ 6 yv<|sQ 7 (Y_len K78 rfl rfl)<|sQ 8 yv (rn ?_)
 obtain ⟨hN,hF⟩:=chk_inv hF
 obtain ⟨z,hz,hF1⟩:=bI hF
 refine cw_block ?_
 refine cw_loop (fun k f w=>∃ (i:Nat),FF f [(0,.slice B s.length c),(1,.func (.func kf) #[] caps),(7,vi (s.length:Int)),(8,vi (i:Int))]∧ST w0 [] w [] (⟨B,(s.flatMap Aw)⟩::Rf)∧i+k=s.length∧forX (Hs s f_) k i ()=some z) s.length ⟨0,(fc rfl (fc rfl (fc rfl (fc rfl fn_)))),(hS.sel [] rfl rfl),Nat.zero_add _,hz⟩ ?_
 rintro k_ f w ⟨i,hf,hS1,hik,hL⟩
 refine cq (cr ?_)
 refine sQ 9 (zL rfl (hf.g 8 3) (hf.g 7 2)) (rn (cq ?_))
 refine cw_cond rfl (fun hlt=>?_) (fun hlt=>?_)
 ·skip
  have hlt1:i<s.length:=by have h:=of_decide_eq_true hlt; omega
  obtain ⟨K2,rfl⟩:∃ k2,k_=k2+1:=⟨k_-1,by omega⟩
  obtain ⟨y1,hb,hL1⟩:=forX_go hL
  unfold Hs at hb
  refine cw_skip (cq (cw_block (cq (cr ?_))))
  refine sQ 10 (yv rfl (hf.g 8 3))<|sQ 5 yu (rn (cq (cr ?_)))
  refine sQ 11 (yv rfl (hf.g 1 1))<|sQ 12 (yv rfl (hf.g 0 0))<|sQ 13 yv ?_
  obtain ⟨x1,hx,hb⟩:=bI hb
  refine sQ 14 (yI B (i:Int) K78 K6 (gi_isSome BV rfl (hS1.rf (i:=0) rfl) hx) (getI_nn hx) (getI_ltI hx rfl))<|sQ 15 (ya B ((i:Int).toNat*5) (s.flatMap Aw) (kD_ x1) K17 K6 (hS1.rf (i:=0) rfl) rfl rfl (BV x1) (gi_seg BV hx)) ?_
  obtain ⟨r_1,hc,hb⟩:=bI hb
  refine sc 16 rfl rfl (Yc_clos (g:=kf) (vs:=(gD_ x1)::caps.toList) hk rfl rfl (clo_args (mc rfl mn)) (hp _ (hS1.innS (fun _ h=>mOd (i:=1) h)) x1 r_1 hc)) ?_
  rintro _ w_ ⟨rfl,hd⟩
  have hS2:=hS1.out00 hd
  refine rn ?_
  refine cw_cond rfl (fun hb1=>?_) (fun hb1=>?_)
  ·skip
   have hF2:=ct hb hb1
   refine cq (cr ?_)
   refine sQ 17 yv<|sQ 4 yu (rn (ct_ ?_))
   obtain rfl:=sI hF2
   obtain rfl:=sI hL1
   obtain rfl:=sI hF1
   exact e1 Tryz.results134 (hS2.sN [])
  ·skip
   have hF3:=cf' hb hb1
   refine cw_skip (cr ?_)
   refine sQ 18 (zP rfl (hf.g 8 3))<|sQ 8 yv (rn ?_)
   obtain rfl:=sI hF3
   exact ⟨K2,Nat.lt_succ_self _,i+1,(hf.a 0 0 (hf.a 1 1 (hf.a 7 2 (fc (congrArg (Value.int .i64) (wr_succ hlt1 hN)) fn_)))),(hS2.sel [] rfl rfl),(by omega),hL1⟩
 ·skip
  obtain rfl:k_=0:=by have h:=of_decide_eq_false hlt; omega
  refine cw_exit rfl ?_
  obtain rfl:=sI hL
  refine cq (cr ?_)
  refine sQ 4 yu (rn (ct_ ?_))
  obtain rfl:=sI hF1
  exact e1 Tryz.results134 (hS1.sN [])

theorem Qt (s:List Ab) (f_:Ab→Option (Bool)) (B:Option Addr) (c n:Nat) (kf:Nat) (caps:Array Value) (Rf:List Ro) (w0:World) (hn:s.length=n) (hk:callB Tryz.prog kf=true) (hp:∀ (w:World),ST w [] w [] Rf→∀ (x:Ab) (y:Bool),f_ x=some y→CV Tryz.prog kf ((gD_ x)::caps.toList).toArray w (fun v w'=>v=.bool y∧ST w [] w' [] [])) (hS:ST w0 [] w0 [] (⟨B,(s.flatMap Aw)⟩::Rf)) {r_:Bool} (hF:Gc s f_=some r_) :
  CV Tryz.prog 112 #[.slice B n c,.func (.func kf) #[] caps] w0 (fun v w'=>v=.bool r_∧ST w0 [] w' [] []):=by
 subst hn
 unfold Gc at hF
 refine cv_of_cw 9 Tryz.func112 rfl Tryz.ntmps112 rfl ?_
 refine cq (cr ?_)
 refine sQ 4 yu (rn (cq (cr ?_)))
 refine sQ 5 yv<|sQ 6 yv ?_
 obtain ⟨r_1,hc,hF⟩:=bI hF
 refine sc 7 rfl rfl (yc W7 (UN s f_ B c s.length kf caps Rf _ rfl hk hp (hS.innS (sk 0 (fun _ h=>mOd (i:=1) h))) hc)) ?_
 rintro _ w_ ⟨rfl,hd⟩
 have hS1:=hS.out00 hd
 refine sQ 8 (Y_ge rfl rfl rfl)<|sQ 4 yu (rn (ct_ ?_))
 obtain rfl:=sI hF
 exact e1 Tryz.results112 (hS1.sN [])

theorem J0 (x:Aa)  (w0:World)  (hS:ST w0 [] w0 [] []) {r_:Bool} (hF:EN x=some r_) :
  CV Tryz.prog 136 #[gR_ x] w0 (fun v w'=>v=.bool r_∧ST w0 [] w' [] []):=by
 unfold EN at hF
 refine cv_of_cw 19 Tryz.func136 rfl Tryz.ntmps136 rfl ?_
 refine cq (cr ?_)
 refine sS 1 (yV (kR_ x) 4 hS) ?_
 rintro _ w_ ⟨b,rfl,hS1⟩
 refine sQ 2 yu (rn (cq (cr ?_)))
 refine sQ 3 (yd (aD b) 0 0 K58 K0)<|sQ 4 (yz 0 K1 (hS1.c 0))<|sQ 5 (yd (aD b) 0 0 K64 K0)<|sQ 6 (yz 2 K1 (hS1.c 0))<|sQ 7 zP<|sQ 8 (Y_rem (k:=.i64) (a:=(i64.wrap (x.A+x.C))) (b:=2) rfl rfl rfl (by decide)) ?_
 refine sQ 9 zE<|sQ 10 yv ?_
 refine sgq 11 rfl rfl (uT_ 10) (fun hg=>(yd (aD b) 0 0 K63 K0)) ?_
 refine sgq 12 rfl rfl (uT_ 10) (fun hg1=>(yz 1 K1 (hS1.c 0) rfl (gv_of hg1))) ?_
 refine sgq 13 rfl rfl (uT_ 10) (fun hg2=>(yd (aD b) 0 0 K65 K0)) ?_
 refine sgq 14 rfl rfl (uT_ 10) (fun hg3=>(yz 3 K1 (hS1.c 0) rfl (gv_of hg3))) ?_
 refine sgq 15 rfl rfl (uT_ 10) (fun hg4=>(zP rfl (gv_of hg4) (gv_of hg4))) ?_
 refine sgq 16 rfl rfl (uT_ 10) (fun hg5=>(Y_rem (k:=.i64) (a:=(i64.wrap (x.B+x.D))) (b:=2) rfl (gv_of hg5) rfl (by decide))) ?_
 refine sgq 17 rfl rfl (uT_ 10) (fun hg6=>(zE rfl (gv_of hg6))) ?_
 refine sQ 18 yA<|sQ 2 yu (rn (ct_ ?_))
 obtain rfl:=sI hF
 exact e1 Tryz.results136 (hS1.sN [])

theorem F1 (x:Ab)  (w0:World)  (hS:ST w0 [] w0 [] []) {r_:Bool} (hF:Cp x=some r_) :
  CV Tryz.prog 114 #[gD_ x] w0 (fun v w'=>v=.bool r_∧ST w0 [] w' [] []):=by
 unfold Cp at hF
 refine cv_of_cw 22 Tryz.func114 rfl Tryz.ntmps114 rfl ?_
 refine cq (cr ?_)
 refine sS 1 (yV (kD_ x) 5 hS) ?_
 rintro _ w_ ⟨b,rfl,hS1⟩
 refine sQ 2 yu (rn (cq (cr ?_)))
 refine sQ 3 (yd (aD b) 0 3 Fw K9)<|sQ 4 (ya (aD b) 0 (kD_ x) (kR_ x.Num) K18 K9 (hS1.c 0)) ?_
 obtain ⟨r_1,hc,hF⟩:=bI hF
 refine sc 5 rfl rfl (yc GK (HT x.Num _  (hS1.inn0 [] rfl) hc)) ?_
 rintro _ w_1 ⟨rfl,hd⟩
 have hS2:=hS1.out00 hd
 refine sQ 6 yv ?_
 refine sgq 7 rfl rfl (uT_ 6) (fun hg=>(yd (aD b) 0 0 EY K0)) ?_
 refine sgq 8 rfl rfl (uT_ 6) (fun hg1=>(yz 4 K1 (hS2.c 0) rfl (gv_of hg1))) ?_
 obtain ⟨r_2,hc1,hF⟩:=bI hF
 refine sgc 9 (v:=.bool r_2) (F:=hS2.fn) rfl rfl (uT_ 6) hS2 (fun hg2=>(yc K53 (CV.mono (Bh x.Exp 0 60 _  (hS2.inn0 [] rfl) (gb_inv hc1 hg2)) (by rintro _ _ ⟨rfl,h⟩; exact ⟨rfl,hS2.out00 h⟩)) rfl (mc (gv_of hg2) (mc rfl (mc rfl mn))))) ?_
 rintro w_2 hS3
 refine sQ 10 yA<|sQ 11 yv ?_
 refine sgq 12 rfl rfl (uT_ 11) (fun hg3=>(yd (aD b) 0 0 EY K0)) ?_
 refine sgq 13 rfl rfl (uT_ 11) (fun hg4=>(yz 4 K1 (hS3.c 0) rfl (gv_of hg4))) ?_
 refine sgq 14 rfl rfl (uT_ 11) (fun hg5=>(zE rfl (gv_of hg5))) ?_
 refine sgq 15 rfl rfl (uT_ 11) (fun hg6=>(yv rfl (gv_of hg6))) ?_
 refine sgq 16 rfl rfl (uH_ 15) (fun hg7=>(yd (aD b) 0 3 Fw K9)) ?_
 refine sgq 17 rfl rfl (uH_ 15) (fun hg8=>(ya (aD b) 0 (kD_ x) (kR_ x.Num) K18 K9 (hS3.c 0) rfl (gv_of hg8))) ?_
 obtain ⟨r_3,hc2,hF⟩:=bI hF
 refine sgc 18 (v:=.bool r_3) (F:=hS3.fn) rfl rfl (uH_ 15) hS3 (fun hg9=>(yc Lg (CV.mono (J0 x.Num _  (hS3.inn0 [] rfl) (gb_inv hc2 hg9)) (by rintro _ _ ⟨rfl,h⟩; exact ⟨rfl,hS3.out00 h⟩)) rfl (mc (gv_of hg9) mn))) ?_
 rintro w_3 hS4
 refine sgq 19 rfl rfl (uH_ 15) (fun hg10=>(yn rfl (gv_of hg10))) ?_
 refine sgq 20 rfl rfl (uT_ 11) (fun hg11=>(yO rfl (gv_of hg11) rfl (gv_and hg11))) ?_
 refine sQ 21 yA<|sQ 2 yu (rn (ct_ ?_))
 obtain rfl:=sI hF
 exact e1 Tryz.results114 (hS4.sN [])

theorem Rt (x:Ab)  (w0:World)  (hS:ST w0 [] w0 [] []) {r_:Bool} (hF:Fu x=some r_) :
  CV Tryz.prog 113 #[gD_ x] w0 (fun v w'=>v=.bool r_∧ST w0 [] w' [] []):=by
 unfold Fu at hF
 refine cv_of_cw 6 Tryz.func113 rfl Tryz.ntmps113 rfl ?_
 refine cq (cr ?_)
 refine sS 1 (yV (kD_ x) 5 hS) ?_
 rintro _ w_ ⟨b,rfl,hS1⟩
 refine sQ 2 yu (rn (cq (cr ?_)))
 refine sQ 3 (yw 0 K17 K6 (hS1.c 0)) ?_
 obtain ⟨r_1,hc,hF⟩:=bI hF
 refine sc 4 rfl rfl (yc Fp (F1 x _  (hS1.inn0 [] rfl) hc)) ?_
 rintro _ w_1 ⟨rfl,hd⟩
 have hS2:=hS1.out00 hd
 refine sQ 5 yn<|sQ 2 yu (rn (ct_ ?_))
 obtain rfl:=sI hF
 exact e1 Tryz.results113 (hS2.sN [])

theorem G7 (m:Af) (B:Option Addr) (c n:Nat) (w0:World) (hn:m.Cells.length=n) (hS:ST w0 [] w0 [] [⟨B,(m.Cells.flatMap Aw)⟩]) {r_:Bool} (hF:C6 m=some r_) :
  CV Tryz.prog 85 #[.agg #[vi m.Rows,vi m.Cols,.slice B n c]] w0 (fun v w'=>v=.bool r_∧ST w0 [] w' [] []):=by
 subst hn
 unfold C6 at hF
 refine cv_of_cw 28 Tryz.func85 rfl Tryz.ntmps85 rfl ?_
 refine cq (cr ?_)
 refine sS 1 (yV (kM_ m B c) 3 hS) ?_
 rintro _ w_ ⟨b,rfl,hS1⟩
 refine sQ 2 yu (rn (cq (cr ?_)))
 refine sQ 3 (yd (aD b) 0 0 Ei K0)<|sQ 4 (yz 0 K1 (hS1.c 0)) ?_
 obtain ⟨r_1,hc,hF⟩:=bI hF
 refine sc 5 rfl rfl (yc IR (IC m.Rows _  (hS1.inn0 [] rfl) hc)) ?_
 rintro _ w_1 ⟨rfl,hd⟩
 have hS2:=hS1.out00 hd
 refine sQ 6 yv ?_
 refine sgq 7 rfl rfl (uT_ 6) (fun hg=>(yd (aD b) 0 0 K91 K0)) ?_
 refine sgq 8 rfl rfl (uT_ 6) (fun hg1=>(yz 1 K1 (hS2.c 0) rfl (gv_of hg1))) ?_
 obtain ⟨r_2,hc1,hF⟩:=bI hF
 refine sgc 9 (v:=.bool r_2) (F:=hS2.fn) rfl rfl (uT_ 6) hS2 (fun hg2=>(yc IR (CV.mono (IC m.Cols _  (hS2.inn0 [] rfl) (gb_inv hc1 hg2)) (by rintro _ _ ⟨rfl,h⟩; exact ⟨rfl,hS2.out00 h⟩)) rfl (mc (gv_of hg2) mn))) ?_
 rintro w_2 hS3
 refine sQ 10 yA<|sQ 11 yv ?_
 refine sgq 12 rfl rfl (uT_ 11) (fun hg3=>(yd (aD b) 0 0 EW K98)) ?_
 refine sgq 13 rfl rfl (uT_ 11) (fun hg4=>(yz 2 Fy (hS3.c 0) rfl (gv_of hg4))) ?_
 refine sgq 14 rfl rfl (uT_ 11) (fun hg5=>(Y_len K78 rfl (gv_of hg5))) ?_
 refine sgq 15 rfl rfl (uT_ 11) (fun hg6=>(yd (aD b) 0 0 Ei K0)) ?_
 refine sgq 16 rfl rfl (uT_ 11) (fun hg7=>(yz 0 K1 (hS3.c 0) rfl (gv_of hg7))) ?_
 refine sgq 17 rfl rfl (uT_ 11) (fun hg8=>(yd (aD b) 0 0 K91 K0)) ?_
 refine sgq 18 rfl rfl (uT_ 11) (fun hg9=>(yz 1 K1 (hS3.c 0) rfl (gv_of hg9))) ?_
 refine sgq 19 rfl rfl (uT_ 11) (fun hg10=>(zX rfl (gv_of hg10) (gv_of hg10))) ?_
 refine sgq 20 rfl rfl (uT_ 11) (fun hg11=>(zE rfl (gv_of hg11) (gv_of hg11))) ?_
 refine sQ 21 yA<|sQ 22 yv ?_
 refine sgq 23 rfl rfl (uT_ 22) (fun hg12=>(yd (aD b) 0 0 EW K98)) ?_
 refine sgq 24 rfl rfl (uT_ 22) (fun hg13=>(yz 2 Fy (hS3.c 0) rfl (gv_of hg13))) ?_
 obtain ⟨r_3,hc2,hF⟩:=bI hF
 refine sgc 25 (v:=.bool r_3) (F:=hS3.fn) rfl rfl (uT_ 22) hS3 (fun hg14=>(yc UF (CV.mono (Qt m.Cells Fu B c m.Cells.length 113 (#[]) [] _ rfl Wx (fun w hw x_0 y_0 h_=>Rt x_0  w  hw h_) (hS3.inn0 [(true,0)] rfl) (gb_inv hc2 hg14)) (by rintro _ _ ⟨rfl,h⟩; exact ⟨rfl,hS3.out00 h⟩)) rfl (mc (gv_of hg14) (mc rfl mn)))) ?_
 rintro w_3 hS4
 refine sgq 26 rfl rfl (uT_ 22) (fun hg15=>(yn rfl (gv_of hg15))) ?_
 refine sQ 27 yA<|sQ 2 yu (rn (ct_ ?_))
 obtain rfl:=sI hF
 exact e1 Tryz.results85 (hS4.sN [])

theorem Ii (out:Aa) (args:List Aa) (B:Option Addr) (c n:Nat) (w0:World) (hn:args.length=n) (hS:ST w0 (bl [⟨B,138,(args.flatMap Dt),c*4⟩]) w0 [⟨B,138,(args.flatMap Dt),c*4⟩] []) {r_:Aa} {r_1:Bool} (hF:Ca out args=some (r_,r_1)) :
  CV Tryz.prog 143 #[gR_ out,.slice B n c] w0 (fun v w'=>v=.tuple #[gR_ r_,.bool r_1]∧ST w0 (bl [⟨B,138,(args.flatMap Dt),c*4⟩]) w' [] []):=by
 subst hn
 unfold Ca at hF
 refine cv_of_cw 23 Tryz.func143 rfl Tryz.ntmps143 rfl ?_
 refine cq (cr ?_)
 refine sS 2 (yV (kR_ out) 4 hS) ?_
 rintro _ w_ ⟨b,rfl,hS1⟩
 let V0:List Value:=[vi 0,vi 0,vi 0,vi 0]
 refine sS 4 (yN V0 4 hS1 K37) ?_
 rintro _ w_1 ⟨b1,rfl,hS2⟩
 refine sQ 5 yu (rn (cq (cq (cr ?_))))
 refine sQ 8 yv<|sQ 9 (yw 0 K18 K9 (hS2.c 1)) ?_
 refine sS 10 (yF 4 1 (kR_ out) 4 hS2 K99 K9 H7 rfl (mpc rfl mpn)) ?_
 rintro _ w_2 ⟨b2,rfl,hS3⟩
 obtain ⟨hap,hF⟩:=chk_inv hF
 refine sS 11 (aP 4 32 0 args [out] hS3 K99 K9 Ts K37 I2 Vh (hS3.c 3) hap) ?_
 rintro _ w_3 ⟨B1,c1,rfl,hS4⟩
 refine sQ 12 (Y_len K99 rfl rfl)<|sQ 13 yv (rn ?_)
 obtain ⟨hN,hF⟩:=chk_inv hF
 obtain ⟨z,hz,hF1⟩:=bI hF
 refine cw_block ?_
 refine cw_loop (fun k f w=>∃ (i:Nat),FF f [(2,pt (aD b) 0),(4,pt (aD b1) 0),(11,.slice B1 ((args++[out]).length) c1),(12,vi ((args++[out]).length:Int)),(13,vi (i:Int))]∧ST w0 (bl [⟨B,138,(args.flatMap Dt),c*4⟩]) w [⟨aD b,138,kR_ out,4⟩,⟨aD b1,138,V0,4⟩,⟨B1,138,((args++[out]).flatMap Dt),c1*4⟩] []∧i+k=(args++[out]).length∧forX (GP args out) k i ()=some z) ((args++[out]).length) ⟨0,(fc rfl (fc rfl (fc rfl (fc rfl (fc rfl fn_))))),(hS4.sel [1,2,0] rfl rfl),Nat.zero_add _,hz⟩ ?_
 rintro k_ f w ⟨i,hf,hS5,hik,hL⟩
 refine cq (cr ?_)
 refine sQ 14 (zL rfl (hf.g 13 4) (hf.g 12 3)) (rn (cq ?_))
 refine cw_cond rfl (fun hlt=>?_) (fun hlt=>?_)
 ·skip
  have hlt1:i<(args++[out]).length:=by have h:=of_decide_eq_true hlt; omega
  obtain ⟨K2,rfl⟩:∃ k2,k_=k2+1:=⟨k_-1,by omega⟩
  obtain ⟨y,hb,hL1⟩:=forX_go hL
  unfold GP at hb
  refine cw_skip (cq (cw_block (cq (cr ?_))))
  obtain ⟨x,hx,hb⟩:=bI hb
  refine sQ 15 (yI B1 (i:Int) K99 K9 (gi_isSome I2 rfl (hS5.c 2) hx) (getI_nn hx) (getI_ltI hx rfl) rfl (hf.g 11 2) (hf.g 13 4))<|sQ 16 (ya B1 ((i:Int).toNat*4) ((args++[out]).flatMap Dt) (kR_ x) K18 K9 (hS5.c 2) rfl rfl (I2 x) (gi_seg I2 hx)) ?_
  refine sS 7 (yN V0 4 hS5 K37) ?_
  rintro _ w_4 ⟨b3,rfl,hS6⟩
  refine s0 (yK 3 4 0 hS6 K9) ?_
  rintro _ w_5 ⟨rfl,hS7⟩
  refine rn (cq (cr ?_))
  refine sQ 17 (yw 0 K18 K9 (hS7.c 3)) ?_
  obtain ⟨r_2,hc,hb⟩:=bI hb
  refine sc 18 rfl rfl (yc GK (HT x _  (hS7.inn0 [] rfl) hc)) ?_
  rintro _ w_6 ⟨rfl,hd⟩
  have hS8:=hS7.out00 hd
  refine sQ 19 yn (rn ?_)
  refine cw_cond rfl (fun hb1=>?_) (fun hb1=>?_)
  ·skip
   have hF2:=ct hb hb1
   refine cq (cr ?_)
   refine sQ 20 (Y_buildS (zs:=V0) (vs:=[]) (cs:=V0) K79 K37 rfl mpn rfl) ?_
   refine s0 (yK 1 4 0 hS8 K9 rfl (hf.g 4 1)) ?_
   rintro _ w_7 ⟨rfl,hS9⟩
   refine sQ 5 yu (rn (ct_ ?_))
   obtain rfl:=sI hF2
   obtain rfl:=sI hL1
   obtain ⟨rfl,rfl⟩:=pr2 (sI hF1)
   exact ret2 Tryz.results143 (rX K18 K9 (hS9.c 1) (hf.g 4 1)) rT ⟨rfl,(hS9.sN [])⟩
  ·skip
   have hF3:=cf' hb hb1
   refine cw_skip (cr ?_)
   refine sQ 21 (zP rfl (hf.g 13 4))<|sQ 13 yv (rn ?_)
   obtain rfl:=sI hF3
   exact ⟨K2,Nat.lt_succ_self _,i+1,(hf.a 2 0 (hf.a 4 1 (hf.a 11 2 (hf.a 12 3 (fc (congrArg (Value.int .i64) (wr_succ hlt1 hN)) fn_))))),(hS8.sel [0,1,2] rfl rfl),(by omega),hL1⟩
 ·skip
  obtain rfl:k_=0:=by have h:=of_decide_eq_false hlt; omega
  refine cw_exit rfl ?_
  obtain rfl:=sI hL
  refine cq (cr ?_)
  refine sQ 22 (yw 0 K18 K9 (hS5.c 0) rfl (hf.g 2 0)) ?_
  refine s0 (yK 1 4 0 hS5 K9 rfl (hf.g 4 1)) ?_
  rintro _ w_8 ⟨rfl,hS10⟩
  refine sQ 5 yu (rn (ct_ ?_))
  obtain ⟨rfl,rfl⟩:=pr2 (sI hF1)
  exact ret2 Tryz.results143 (rX K18 K9 (hS10.c 1) (hf.g 4 1)) rT ⟨rfl,(hS10.sN [])⟩

theorem TZ (x:Aa) (y:Aa)  (w0:World)  (hS:ST w0 [] w0 [] []) {r_:Aa} {r_1:Bool} (hF:Dh x y=some (r_,r_1)) :
  CV Tryz.prog 137 #[gR_ x,gR_ y] w0 (fun v w'=>v=.tuple #[gR_ r_,.bool r_1]∧ST w0 [] w' [] []):=by
 unfold Dh at hF
 refine cv_of_cw 105 Tryz.func137 rfl Tryz.ntmps137 rfl ?_
 refine cq (cr ?_)
 refine sS 2 (yV (kR_ x) 4 hS) ?_
 rintro _ w_ ⟨b,rfl,hS1⟩
 refine sS 3 (yV (kR_ y) 4 hS1) ?_
 rintro _ w_1 ⟨b1,rfl,hS2⟩
 refine sS 4 (yN [vi 0,vi 0,vi 0,vi 0] 4 hS2 K37) ?_
 rintro _ w_2 ⟨b2,rfl,hS3⟩
 refine sQ 5 yu (rn (cq (cr ?_)))
 refine sQ 6 (yd (aD b) 0 0 K58 K0)<|sQ 7 (yz 0 K1 (hS3.c 0))<|sQ 8 (yd (aD b1) 0 0 K58 K0)<|sQ 9 (yz 0 K1 (hS3.c 1))<|sQ 10 zX<|sQ 11 (yd (aD b) 0 0 K63 K0) ?_
 refine sQ 12 (yz 1 K1 (hS3.c 0))<|sQ 13 (yd (aD b1) 0 0 K65 K0)<|sQ 14 (yz 3 K1 (hS3.c 1))<|sQ 15 zX<|sQ 16 zM<|sQ 17 (yd (aD b) 0 0 K64 K0) ?_
 refine sQ 18 (yz 2 K1 (hS3.c 0))<|sQ 19 (yd (aD b1) 0 0 K64 K0)<|sQ 20 (yz 2 K1 (hS3.c 1))<|sQ 21 zX<|sQ 22 zM<|sQ 23 (yd (aD b) 0 0 K65 K0) ?_
 refine sQ 24 (yz 3 K1 (hS3.c 0))<|sQ 25 (yd (aD b1) 0 0 K63 K0)<|sQ 26 (yz 1 K1 (hS3.c 1))<|sQ 27 zX<|sQ 28 zM<|sQ 29 (yd (aD b) 0 0 K58 K0) ?_
 refine sQ 30 (yz 0 K1 (hS3.c 0))<|sQ 31 (yd (aD b1) 0 0 K63 K0)<|sQ 32 (yz 1 K1 (hS3.c 1))<|sQ 33 zX<|sQ 34 (yd (aD b) 0 0 K63 K0)<|sQ 35 (yz 1 K1 (hS3.c 0)) ?_
 refine sQ 36 (yd (aD b1) 0 0 K58 K0)<|sQ 37 (yz 0 K1 (hS3.c 1))<|sQ 38 zX<|sQ 39 zP<|sQ 40 (yd (aD b) 0 0 K64 K0)<|sQ 41 (yz 2 K1 (hS3.c 0)) ?_
 refine sQ 42 (yd (aD b1) 0 0 K65 K0)<|sQ 43 (yz 3 K1 (hS3.c 1))<|sQ 44 zX<|sQ 45 zM<|sQ 46 (yd (aD b) 0 0 K65 K0)<|sQ 47 (yz 3 K1 (hS3.c 0)) ?_
 refine sQ 48 (yd (aD b1) 0 0 K64 K0)<|sQ 49 (yz 2 K1 (hS3.c 1))<|sQ 50 zX<|sQ 51 zM<|sQ 52 (yd (aD b) 0 0 K58 K0)<|sQ 53 (yz 0 K1 (hS3.c 0)) ?_
 refine sQ 54 (yd (aD b1) 0 0 K64 K0)<|sQ 55 (yz 2 K1 (hS3.c 1))<|sQ 56 zX<|sQ 57 (yd (aD b) 0 0 K63 K0)<|sQ 58 (yz 1 K1 (hS3.c 0))<|sQ 59 (yd (aD b1) 0 0 K63 K0) ?_
 refine sQ 60 (yz 1 K1 (hS3.c 1))<|sQ 61 zX<|sQ 62 zP<|sQ 63 (yd (aD b) 0 0 K64 K0)<|sQ 64 (yz 2 K1 (hS3.c 0))<|sQ 65 (yd (aD b1) 0 0 K58 K0) ?_
 refine sQ 66 (yz 0 K1 (hS3.c 1))<|sQ 67 zX<|sQ 68 zP<|sQ 69 (yd (aD b) 0 0 K65 K0)<|sQ 70 (yz 3 K1 (hS3.c 0))<|sQ 71 (yd (aD b1) 0 0 K65 K0) ?_
 refine sQ 72 (yz 3 K1 (hS3.c 1))<|sQ 73 zX<|sQ 74 zM<|sQ 75 (yd (aD b) 0 0 K58 K0)<|sQ 76 (yz 0 K1 (hS3.c 0))<|sQ 77 (yd (aD b1) 0 0 K65 K0) ?_
 refine sQ 78 (yz 3 K1 (hS3.c 1))<|sQ 79 zX<|sQ 80 (yd (aD b) 0 0 K63 K0)<|sQ 81 (yz 1 K1 (hS3.c 0))<|sQ 82 (yd (aD b1) 0 0 K64 K0)<|sQ 83 (yz 2 K1 (hS3.c 1)) ?_
 refine sQ 84 zX<|sQ 85 zP<|sQ 86 (yd (aD b) 0 0 K64 K0)<|sQ 87 (yz 2 K1 (hS3.c 0))<|sQ 88 (yd (aD b1) 0 0 K63 K0)<|sQ 89 (yz 1 K1 (hS3.c 1)) ?_
 refine sQ 90 zX<|sQ 91 zP<|sQ 92 (yd (aD b) 0 0 K65 K0)<|sQ 93 (yz 3 K1 (hS3.c 0))<|sQ 94 (yd (aD b1) 0 0 K58 K0)<|sQ 95 (yz 0 K1 (hS3.c 1)) ?_
 refine sQ 96 zX<|sQ 97 zP<|sQ 98 (Y_buildS (zs:=[vi 0,vi 0,vi 0,vi 0]) (vs:=[(0,vi (i64.wrap ((i64.wrap ((i64.wrap ((i64.wrap (x.A*y.A))-(i64.wrap (x.B*y.D))))-(i64.wrap (x.C*y.C))))-(i64.wrap (x.D*y.B))))),(1,vi (i64.wrap ((i64.wrap ((i64.wrap ((i64.wrap (x.A*y.B))+(i64.wrap (x.B*y.A))))-(i64.wrap (x.C*y.D))))-(i64.wrap (x.D*y.C))))),(2,vi (i64.wrap ((i64.wrap ((i64.wrap ((i64.wrap (x.A*y.C))+(i64.wrap (x.B*y.B))))+(i64.wrap (x.C*y.A))))-(i64.wrap (x.D*y.D))))),(3,vi (i64.wrap ((i64.wrap ((i64.wrap ((i64.wrap (x.A*y.D))+(i64.wrap (x.B*y.C))))+(i64.wrap (x.C*y.B))))+(i64.wrap (x.D*y.A)))))]) (cs:=[vi (i64.wrap ((i64.wrap ((i64.wrap ((i64.wrap (x.A*y.A))-(i64.wrap (x.B*y.D))))-(i64.wrap (x.C*y.C))))-(i64.wrap (x.D*y.B)))),vi (i64.wrap ((i64.wrap ((i64.wrap ((i64.wrap (x.A*y.B))+(i64.wrap (x.B*y.A))))-(i64.wrap (x.C*y.D))))-(i64.wrap (x.D*y.C)))),vi (i64.wrap ((i64.wrap ((i64.wrap ((i64.wrap (x.A*y.C))+(i64.wrap (x.B*y.B))))+(i64.wrap (x.C*y.A))))-(i64.wrap (x.D*y.D)))),vi (i64.wrap ((i64.wrap ((i64.wrap ((i64.wrap (x.A*y.D))+(i64.wrap (x.B*y.C))))+(i64.wrap (x.C*y.B))))+(i64.wrap (x.D*y.A))))]) K79 K37 rfl (mpc rfl (mpc rfl (mpc rfl (mpc rfl mpn)))) rfl)<|sQ 99 (yw 0 K18 K9 (hS3.c 0))<|sQ 100 (yw 0 K18 K9 (hS3.c 1)) ?_
 refine sS 101 (yF 4 2 [vi x.A,vi x.B,vi x.C,vi x.D,vi y.A,vi y.B,vi y.C,vi y.D] 8 hS3 K99 K9 H7 rfl (mpc rfl (mpc rfl mpn))) ?_
 rintro _ w_3 ⟨b3,rfl,hS4⟩
 obtain ⟨⟨r_2,r_3⟩,hc,hF⟩:=bI hF
 refine sc 102 rfl rfl (yc IB (Ii (Aa.mk (i64.wrap ((i64.wrap ((i64.wrap ((i64.wrap (x.A*y.A))-(i64.wrap (x.B*y.D))))-(i64.wrap (x.C*y.C))))-(i64.wrap (x.D*y.B)))) (i64.wrap ((i64.wrap ((i64.wrap ((i64.wrap (x.A*y.B))+(i64.wrap (x.B*y.A))))-(i64.wrap (x.C*y.D))))-(i64.wrap (x.D*y.C)))) (i64.wrap ((i64.wrap ((i64.wrap ((i64.wrap (x.A*y.C))+(i64.wrap (x.B*y.B))))+(i64.wrap (x.C*y.A))))-(i64.wrap (x.D*y.D)))) (i64.wrap ((i64.wrap ((i64.wrap ((i64.wrap (x.A*y.D))+(i64.wrap (x.B*y.C))))+(i64.wrap (x.C*y.B))))+(i64.wrap (x.D*y.A))))) [x,y] (aD b3) 2 2 _ rfl (hS4.inn [false,false,false,true] rfl [] rfl) hc)) ?_
 rintro _ w_4 ⟨rfl,hd⟩
 have hS5:=hS4.out [false,false,false,true] rfl hd
 refine sQ 103 (ye (gR_ r_2))<|sQ 104 (ye (.bool r_3)) ?_
 refine s0 (yK 2 4 0 hS5 K9) ?_
 rintro _ w_5 ⟨rfl,hS6⟩
 refine sQ 5 yu (rn (ct_ ?_))
 obtain ⟨rfl,rfl⟩:=pr2 (sI hF)
 exact ret2 Tryz.results137 (rX K18 K9 (hS6.c 2)) rT ⟨rfl,(hS6.sN [])⟩

theorem TA (x:Aa)  (w0:World)  (hS:ST w0 [] w0 [] []) {r_:Aa} {r_1:Bool} (hF:Gb x=some (r_,r_1)) :
  CV Tryz.prog 144 #[gR_ x] w0 (fun v w'=>v=.tuple #[gR_ r_,.bool r_1]∧ST w0 [] w' [] []):=by
 unfold Gb at hF
 refine cv_of_cw 43 Tryz.func144 rfl Tryz.ntmps144 rfl ?_
 refine cq (cr ?_)
 refine sS 1 (yV (kR_ x) 4 hS) ?_
 rintro _ w_ ⟨b,rfl,hS1⟩
 refine sS 2 (yN [vi 0,vi 0,vi 0,vi 0] 4 hS1 K37) ?_
 rintro _ w_1 ⟨b1,rfl,hS2⟩
 refine sQ 3 yu (rn (cq (cq (cr ?_))))
 refine sQ 4 (yw 0 K18 K9 (hS2.c 0)) ?_
 obtain ⟨r_2,hc,hF⟩:=bI hF
 refine sc 5 rfl rfl (yc GK (HT x _  (hS2.inn0 [] rfl) hc)) ?_
 rintro _ w_2 ⟨rfl,hd⟩
 have hS3:=hS2.out00 hd
 refine sQ 6 yn<|sQ 7 yv ?_
 refine sgq 8 rfl rfl (uF_ 7) (fun hg=>(yw 0 K18 K9 (hS3.c 0))) ?_
 obtain ⟨r_3,hc1,hF⟩:=bI hF
 refine sgc 9 (v:=.bool r_3) (F:=hS3.fn) rfl rfl (uF_ 7) hS3 (fun hg1=>(yc Lg (CV.mono (J0 x _  (hS3.inn0 [] rfl) (gb_inv hc1 hg1)) (by rintro _ _ ⟨rfl,h⟩; exact ⟨rfl,hS3.out00 h⟩)) rfl (mc (gv_of hg1) mn))) ?_
 rintro w_3 hS4
 refine sgq 10 rfl rfl (uF_ 7) (fun hg2=>(yn rfl (gv_of hg2))) ?_
 refine sQ 11 yO (rn ?_)
 refine cw_cond rfl (fun hb=>?_) (fun hb=>?_)
 ·skip
  have hF1:=ct hF hb
  refine cq (cr ?_)
  refine sQ 12 (Y_buildS (zs:=[vi 0,vi 0,vi 0,vi 0]) (vs:=[]) (cs:=[vi 0,vi 0,vi 0,vi 0]) K79 K37 rfl mpn rfl) ?_
  refine s0 (yK 1 4 0 hS4 K9) ?_
  rintro _ w_4 ⟨rfl,hS5⟩
  refine sQ 3 yu (rn (ct_ ?_))
  obtain ⟨rfl,rfl⟩:=pr2 (sI hF1)
  exact ret2 Tryz.results144 (rX K18 K9 (hS5.c 1)) rT ⟨rfl,(hS5.sN [])⟩
 ·skip
  have hF2:=cf' hF hb
  refine cw_skip (cq (cr ?_))
  refine sQ 13 (yd (aD b) 0 0 K63 K0)<|sQ 14 (yz 1 K1 (hS4.c 0))<|sQ 15 (yd (aD b) 0 0 K65 K0)<|sQ 16 (yz 3 K1 (hS4.c 0))<|sQ 17 zM<|sQ 18 (Y_quo (k:=.i64) (a:=(i64.wrap (x.B-x.D))) (b:=2) rfl rfl rfl (by decide)) ?_
  refine sQ 19 (yd (aD b) 0 0 K58 K0)<|sQ 20 (yz 0 K1 (hS4.c 0))<|sQ 21 (yd (aD b) 0 0 K64 K0)<|sQ 22 (yz 2 K1 (hS4.c 0))<|sQ 23 zP<|sQ 24 (Y_quo (k:=.i64) (a:=(i64.wrap (x.A+x.C))) (b:=2) rfl rfl rfl (by decide)) ?_
  refine sQ 25 (yd (aD b) 0 0 K63 K0)<|sQ 26 (yz 1 K1 (hS4.c 0))<|sQ 27 (yd (aD b) 0 0 K65 K0)<|sQ 28 (yz 3 K1 (hS4.c 0))<|sQ 29 zP<|sQ 30 (Y_quo (k:=.i64) (a:=(i64.wrap (x.B+x.D))) (b:=2) rfl rfl rfl (by decide)) ?_
  refine sQ 31 (yd (aD b) 0 0 K64 K0)<|sQ 32 (yz 2 K1 (hS4.c 0))<|sQ 33 (yd (aD b) 0 0 K58 K0)<|sQ 34 (yz 0 K1 (hS4.c 0))<|sQ 35 zM<|sQ 36 (Y_quo (k:=.i64) (a:=(i64.wrap (x.C-x.A))) (b:=2) rfl rfl rfl (by decide)) ?_
  refine sQ 37 (Y_buildS (zs:=[vi 0,vi 0,vi 0,vi 0]) (vs:=[(0,vi (i64.wrap (Int.tdiv (i64.wrap (x.B-x.D)) 2))),(1,vi (i64.wrap (Int.tdiv (i64.wrap (x.A+x.C)) 2))),(2,vi (i64.wrap (Int.tdiv (i64.wrap (x.B+x.D)) 2))),(3,vi (i64.wrap (Int.tdiv (i64.wrap (x.C-x.A)) 2)))]) (cs:=[vi (i64.wrap (Int.tdiv (i64.wrap (x.B-x.D)) 2)),vi (i64.wrap (Int.tdiv (i64.wrap (x.A+x.C)) 2)),vi (i64.wrap (Int.tdiv (i64.wrap (x.B+x.D)) 2)),vi (i64.wrap (Int.tdiv (i64.wrap (x.C-x.A)) 2))]) K79 K37 rfl (mpc rfl (mpc rfl (mpc rfl (mpc rfl mpn)))) rfl)<|sQ 38 (yw 0 K18 K9 (hS4.c 0)) ?_
  refine sS 39 (yF 4 1 (kR_ x) 4 hS4 K99 K9 H7 rfl (mpc rfl mpn)) ?_
  rintro _ w_5 ⟨b2,rfl,hS6⟩
  obtain ⟨⟨r_4,r_5⟩,hc2,hF2⟩:=bI hF2
  refine sc 40 rfl rfl (yc IB (Ii (Aa.mk (i64.wrap (Int.tdiv (i64.wrap (x.B-x.D)) 2)) (i64.wrap (Int.tdiv (i64.wrap (x.A+x.C)) 2)) (i64.wrap (Int.tdiv (i64.wrap (x.B+x.D)) 2)) (i64.wrap (Int.tdiv (i64.wrap (x.C-x.A)) 2))) [x] (aD b2) 1 1 _ rfl (hS6.inn [false,false,true] rfl [] rfl) hc2)) ?_
  rintro _ w_6 ⟨rfl,hd1⟩
  have hS7:=hS6.out [false,false,true] rfl hd1
  refine sQ 41 (ye (gR_ r_4))<|sQ 42 (ye (.bool r_5)) ?_
  refine s0 (yK 1 4 0 hS7 K9) ?_
  rintro _ w_7 ⟨rfl,hS8⟩
  refine sQ 3 yu (rn (ct_ ?_))
  obtain ⟨rfl,rfl⟩:=pr2 (sI hF2)
  exact ret2 Tryz.results144 (rX K18 K9 (hS8.c 1)) rT ⟨rfl,(hS8.sN [])⟩

theorem Ow (num:Aa) (exp:Int)  (w0:World)  (hS:ST w0 [] w0 [] []) {r_:Ab} {r_1:Bool} (hF:AR num exp=some (r_,r_1)) :
  CV Tryz.prog 138 #[gR_ num,vi exp] w0 (fun v w'=>v=.tuple #[gD_ r_,.bool r_1]∧ST w0 [] w' [] []):=by
 unfold AR at hF
 refine cv_of_cw 31 Tryz.func138 rfl Tryz.ntmps138 rfl ?_
 refine cq (cr ?_)
 refine sS 2 (yV (kR_ num) 4 hS) ?_
 rintro _ w_ ⟨b,rfl,hS1⟩
 refine sS 4 (yN kZ_ 5 hS1 K33) ?_
 rintro _ w_1 ⟨b1,rfl,hS2⟩
 refine sQ 5 yu (rn (cq (cq (cr ?_))))
 refine sQ 6 (yw 0 K18 K9 (hS2.c 0)) ?_
 obtain ⟨r_2,hc,hF⟩:=bI hF
 refine sc 7 rfl rfl (yc GK (HT num _  (hS2.inn0 [] rfl) hc)) ?_
 rintro _ w_2 ⟨rfl,hd⟩
 have hS3:=hS2.out00 hd
 refine sQ 8 yn<|sQ 9 yv ?_
 refine sgq 10 rfl rfl (uF_ 9) (fun hg=>yv) ?_
 obtain ⟨r_3,hc1,hF⟩:=bI hF
 refine sgc 11 (v:=.bool r_3) (F:=hS3.fn) rfl rfl (uF_ 9) hS3 (fun hg1=>(yc K53 (CV.mono (Bh exp 0 60 _  (hS3.inn0 [] rfl) (gb_inv hc1 hg1)) (by rintro _ _ ⟨rfl,h⟩; exact ⟨rfl,hS3.out00 h⟩)) rfl (mc (gv_of hg1) (mc rfl (mc rfl mn))))) ?_
 rintro w_3 hS4
 refine sgq 12 rfl rfl (uF_ 9) (fun hg2=>(yn rfl (gv_of hg2))) ?_
 refine sQ 13 yO (rn ?_)
 refine cw_cond rfl (fun hb=>?_) (fun hb=>?_)
 ·skip
  have hF1:=ct hF hb
  refine cq (cr ?_)
  refine sQ 14 (Y_buildS (zs:=kZ_) (vs:=[]) (cs:=kZ_) K72 K33 rfl mpn rfl) ?_
  refine s0 (yK 1 5 0 hS4 K6) ?_
  rintro _ w_4 ⟨rfl,hS5⟩
  refine sQ 5 yu (rn (ct_ ?_))
  obtain ⟨rfl,rfl⟩:=pr2 (sI hF1)
  exact ret2 Tryz.results138 (rX K17 K6 (hS5.c 1)) rT ⟨rfl,(hS5.sN [])⟩
 ·skip
  have hF2:=cf' hF hb
  refine cw_skip (cq ?_)
  obtain ⟨z,hz,hF3⟩:=bI hF2
  refine cw_block ?_
  refine cw_loop (fun k f w=>∃ (exp1:Int) (A:Int) (B:Int) (C:Int) (D:Int),FF f [(1,vi exp1),(2,pt (aD b) 0),(4,pt (aD b1) 0)]∧ST w0 [] w [⟨aD b,138,[vi A,vi B,vi C,vi D],4⟩,⟨aD b1,140,kZ_,5⟩] []∧whX Cx k (exp1,A,B,C,D)=some z) fuel ⟨exp,num.A,num.B,num.C,num.D,(fc rfl (fc rfl (fc rfl fn_))),(hS4.sel [0,1] rfl rfl),hz⟩ ?_
  rintro k_ f w ⟨exp1,A,B,C,D,hf,hS6,hL⟩
  obtain ⟨K2,y,rfl,hb1,hL1⟩:=whX_go hL
  unfold Cx at hb1
  refine cq (cq (cr ?_))
  refine sQ 15 (yv rfl (hf.g 1 0))<|sQ 16 (Y_gt rfl rfl rfl)<|sQ 17 yv ?_
  refine sgq 18 rfl rfl (uT_ 17) (fun hg3=>(yw 0 K18 K9 (hS6.c 0) rfl (hf.g 2 1))) ?_
  obtain ⟨r_4,hc2,hb1⟩:=bI hb1
  refine sgc 19 (v:=.bool r_4) (F:=hS6.fn) rfl rfl (uT_ 17) hS6 (fun hg4=>(yc Lg (CV.mono (J0 (Aa.mk A B C D) _  (hS6.inn0 [] rfl) (gb_inv hc2 hg4)) (by rintro _ _ ⟨rfl,h⟩; exact ⟨rfl,hS6.out00 h⟩)) rfl (mc (gv_of hg4) mn))) ?_
  rintro w_5 hS7
  refine sQ 20 yA (rn ?_)
  refine cw_cond rfl (fun hb2=>?_) (fun hb2=>?_)
  ·skip
   have hF4:=ct hb1 hb2
   refine cw_skip (cw_block (cq (cr ?_)))
   refine sQ 22 (yw 0 K18 K9 (hS7.c 0) rfl (hf.g 2 1)) ?_
   obtain ⟨⟨r_5,r_6⟩,hc3,hF4⟩:=bI hF4
   refine sc 23 rfl rfl (yc TY (TA (Aa.mk A B C D) _  (hS7.inn0 [] rfl) hc3)) ?_
   rintro _ w_6 ⟨rfl,hd1⟩
   have hS8:=hS7.out00 hd1
   refine sQ 21 yv<|sQ 24 (ye (gR_ r_5))<|sQ 25 (ye (.bool r_6)) ?_
   refine s0 (yK 0 4 0 hS8 K9 rfl (hf.g 2 1)) ?_
   rintro _ w_7 ⟨rfl,hS9⟩
   refine rn (cr ?_)
   refine sQ 26 (yv rfl (hf.g 1 0))<|sQ 27 zM<|sQ 1 yu (rn ?_)
   obtain rfl:=sI hF4
   exact ⟨K2,Nat.lt_succ_self _,(i64.wrap (exp1-1)),r_5.A,r_5.B,r_5.C,r_5.D,(fc rfl (hf.a 2 1 (hf.a 4 2 fn_))),(hS9.sel [0,1] rfl rfl),hL1⟩
  ·skip
   have hF5:=cf' hb1 hb2
   refine cw_exit rfl ?_
   obtain rfl:=sI hF5
   obtain rfl:=sI hL1
   refine cq (cr ?_)
   refine sQ 28 (yw 0 K18 K9 (hS7.c 0) rfl (hf.g 2 1))<|sQ 29 (yv rfl (hf.g 1 0))<|sQ 30 (Y_buildS (zs:=kZ_) (vs:=[(0,.agg #[vi A,vi B,vi C,vi D]),(1,vi exp1)]) (cs:=[vi A,vi B,vi C,vi D,vi exp1]) K72 K33 rfl (mpc rfl (mpc rfl mpn)) rfl) ?_
   refine s0 (yK 1 5 0 hS7 K6 rfl (hf.g 4 2)) ?_
   rintro _ w_8 ⟨rfl,hS10⟩
   refine sQ 5 yu (rn (ct_ ?_))
   obtain ⟨rfl,rfl⟩:=pr2 (sI hF3)
   exact ret2 Tryz.results138 (rX K17 K6 (hS10.c 1) (hf.g 4 2)) rT ⟨rfl,(hS10.sN [])⟩

theorem Pt (x:Ab) (y:Ab)  (w0:World)  (hS:ST w0 [] w0 [] []) {r_:Ab} {r_1:Bool} (hF:Bf x y=some (r_,r_1)) :
  CV Tryz.prog 116 #[gD_ x,gD_ y] w0 (fun v w'=>v=.tuple #[gD_ r_,.bool r_1]∧ST w0 [] w' [] []):=by
 unfold Bf at hF
 refine cv_of_cw 38 Tryz.func116 rfl Tryz.ntmps116 rfl ?_
 refine cq (cr ?_)
 refine sS 2 (yV (kD_ x) 5 hS) ?_
 rintro _ w_ ⟨b,rfl,hS1⟩
 refine sS 3 (yV (kD_ y) 5 hS1) ?_
 rintro _ w_1 ⟨b1,rfl,hS2⟩
 refine sS 4 (yN kZ_ 5 hS2 K33) ?_
 rintro _ w_2 ⟨b2,rfl,hS3⟩
 refine sQ 5 yu (rn (cq (cr ?_)))
 refine sQ 9 (yd (aD b) 0 3 Fw K9)<|sQ 10 (ya (aD b) 0 (kD_ x) (kR_ x.Num) K18 K9 (hS3.c 0))<|sQ 11 (yd (aD b1) 0 3 Fw K9)<|sQ 12 (ya (aD b1) 0 (kD_ y) (kR_ y.Num) K18 K9 (hS3.c 1)) ?_
 obtain ⟨⟨r_2,r_3⟩,hc,hF⟩:=bI hF
 refine sc 13 rfl rfl (yc Wz (TZ x.Num y.Num _  (hS3.inn0 [] rfl) hc)) ?_
 rintro _ w_3 ⟨rfl,hd⟩
 have hS4:=hS3.out00 hd
 refine sQ 8 yv<|sQ 14 (ye (gR_ r_2))<|sQ 15 (ye (.bool r_3)) ?_
 refine sS 6 (yN [vi 0,vi 0,vi 0,vi 0] 4 hS4 K37) ?_
 rintro _ w_4 ⟨b3,rfl,hS5⟩
 refine s0 (yK 3 4 0 hS5 K9) ?_
 rintro _ w_5 ⟨rfl,hS6⟩
 refine sQ 7 yu (rn (cq (cq (cr ?_))))
 refine sQ 16 (yw 0 K17 K6 (hS6.c 0)) ?_
 obtain ⟨r_4,hc1,hF⟩:=bI hF
 refine sc 17 rfl rfl (yc Fp (F1 x _  (hS6.inn0 [] rfl) hc1)) ?_
 rintro _ w_6 ⟨rfl,hd1⟩
 have hS7:=hS6.out00 hd1
 refine sQ 18 yn<|sQ 19 yv ?_
 refine sgq 20 rfl rfl (uF_ 19) (fun hg=>(yw 0 K17 K6 (hS7.c 1))) ?_
 obtain ⟨r_5,hc2,hF⟩:=bI hF
 refine sgc 21 (v:=.bool r_5) (F:=hS7.fn) rfl rfl (uF_ 19) hS7 (fun hg1=>(yc Fp (CV.mono (F1 y _  (hS7.inn0 [] rfl) (gb_inv hc2 hg1)) (by rintro _ _ ⟨rfl,h⟩; exact ⟨rfl,hS7.out00 h⟩)) rfl (mc (gv_of hg1) mn))) ?_
 rintro w_7 hS8
 refine sgq 22 rfl rfl (uF_ 19) (fun hg2=>(yn rfl (gv_of hg2))) ?_
 refine sQ 23 yO<|sQ 24 yv ?_
 refine sgq 25 rfl rfl (uF_ 24) (fun hg3=>yv) ?_
 refine sgq 26 rfl rfl (uF_ 24) (fun hg4=>(yn rfl (gv_of hg4))) ?_
 refine sQ 27 yO (rn ?_)
 refine cw_cond rfl (fun hb=>?_) (fun hb=>?_)
 ·skip
  have hF1:=ct hF hb
  refine cq (cr ?_)
  refine sQ 28 (Y_buildS (zs:=kZ_) (vs:=[]) (cs:=kZ_) K72 K33 rfl mpn rfl) ?_
  refine s0 (yK 2 5 0 hS8 K6) ?_
  rintro _ w_8 ⟨rfl,hS9⟩
  refine sQ 5 yu (rn (ct_ ?_))
  obtain ⟨rfl,rfl⟩:=pr2 (sI hF1)
  exact ret2 Tryz.results116 (rX K17 K6 (hS9.c 2)) rT ⟨rfl,(hS9.sN [])⟩
 ·skip
  have hF2:=cf' hF hb
  refine cw_skip (cq (cr ?_))
  refine sQ 29 (yw 0 K18 K9 (hS8.c 3))<|sQ 30 (yd (aD b) 0 0 EY K0)<|sQ 31 (yz 4 K1 (hS8.c 0))<|sQ 32 (yd (aD b1) 0 0 EY K0)<|sQ 33 (yz 4 K1 (hS8.c 1))<|sQ 34 zP ?_
  obtain ⟨⟨r_6,r_7⟩,hc3,hF2⟩:=bI hF2
  refine sc 35 rfl rfl (yc LB (Ow r_2 (i64.wrap (x.Exp+y.Exp)) _  (hS8.inn0 [] rfl) hc3)) ?_
  rintro _ w_9 ⟨rfl,hd2⟩
  have hS10:=hS8.out00 hd2
  refine sQ 36 (ye (gD_ r_6))<|sQ 37 (ye (.bool r_7)) ?_
  refine s0 (yK 2 5 0 hS10 K6) ?_
  rintro _ w_10 ⟨rfl,hS11⟩
  refine sQ 5 yu (rn (ct_ ?_))
  obtain ⟨rfl,rfl⟩:=pr2 (sI hF2)
  exact ret2 Tryz.results116 (rX K17 K6 (hS11.c 2)) rT ⟨rfl,(hS11.sN [])⟩

theorem Ka (m:Af) (i:Int) (j:Int) (B:Option Addr) (c n:Nat) (w0:World) (hn:m.Cells.length=n) (hS:ST w0 [] w0 [] [⟨B,(m.Cells.flatMap Aw)⟩]) {r_:Ab} (hF:Dw m i j=some r_) :
  CV Tryz.prog 117 #[.agg #[vi m.Rows,vi m.Cols,.slice B n c],vi i,vi j] w0 (fun v w'=>v=(gD_ r_)∧ST w0 [] w' [] []):=by
 subst hn
 unfold Dw at hF
 refine cv_of_cw 17 Tryz.func117 rfl Tryz.ntmps117 rfl ?_
 refine cq (cr ?_)
 refine sS 3 (yV (kM_ m B c) 3 hS) ?_
 rintro _ w_ ⟨b,rfl,hS1⟩
 refine sS 6 (yN kZ_ 5 hS1 K33) ?_
 rintro _ w_1 ⟨b1,rfl,hS2⟩
 refine rn (cq (cr ?_))
 refine sQ 7 (yd (aD b) 0 0 EW K98)<|sQ 8 (yz 2 Fy (hS2.c 0))<|sQ 9 yv<|sQ 10 (yd (aD b) 0 0 K91 K0)<|sQ 11 (yz 1 K1 (hS2.c 0))<|sQ 12 zX ?_
 refine sQ 13 yv<|sQ 14 zP ?_
 obtain ⟨x,hx,hF⟩:=bI hF
 refine sQ 15 (yI B (i64.wrap ((i64.wrap (i*m.Cols))+j)) K78 K6 (gi_isSome BV rfl (hS2.rf (i:=0) rfl) hx) (getI_nn hx) (getI_ltI hx rfl))<|sQ 16 (ya B ((i64.wrap ((i64.wrap (i*m.Cols))+j)).toNat*5) (m.Cells.flatMap Aw) (kD_ x) K17 K6 (hS2.rf (i:=0) rfl) rfl rfl (BV x) (gi_seg BV hx)) ?_
 refine s0 (yK 1 5 0 hS2 K6) ?_
 rintro _ w_2 ⟨rfl,hS3⟩
 refine rn (ct_ ?_)
 obtain rfl:=sI hF
 exact ret1 Tryz.results117 (rX K17 K6 (hS3.c 1)) ⟨rfl,(hS3.sN [])⟩

theorem SI (x:Aa)  (w0:World)  (hS:ST w0 [] w0 [] []) {r_:Aa} {r_1:Bool} (hF:Fr x=some (r_,r_1)) :
  CV Tryz.prog 146 #[gR_ x] w0 (fun v w'=>v=.tuple #[gR_ r_,.bool r_1]∧ST w0 [] w' [] []):=by
 unfold Fr at hF
 refine cv_of_cw 30 Tryz.func146 rfl Tryz.ntmps146 rfl ?_
 refine cq (cr ?_)
 refine sS 1 (yV (kR_ x) 4 hS) ?_
 rintro _ w_ ⟨b,rfl,hS1⟩
 refine sS 2 (yN [vi 0,vi 0,vi 0,vi 0] 4 hS1 K37) ?_
 rintro _ w_1 ⟨b1,rfl,hS2⟩
 refine sQ 3 yu (rn (cq (cr ?_)))
 refine sQ 4 (yd (aD b) 0 0 K63 K0)<|sQ 5 (yz 1 K1 (hS2.c 0))<|sQ 6 (yd (aD b) 0 0 K65 K0)<|sQ 7 (yz 3 K1 (hS2.c 0))<|sQ 8 zM<|sQ 9 (yd (aD b) 0 0 K58 K0) ?_
 refine sQ 10 (yz 0 K1 (hS2.c 0))<|sQ 11 (yd (aD b) 0 0 K64 K0)<|sQ 12 (yz 2 K1 (hS2.c 0))<|sQ 13 zP<|sQ 14 (yd (aD b) 0 0 K63 K0)<|sQ 15 (yz 1 K1 (hS2.c 0)) ?_
 refine sQ 16 (yd (aD b) 0 0 K65 K0)<|sQ 17 (yz 3 K1 (hS2.c 0))<|sQ 18 zP<|sQ 19 (yd (aD b) 0 0 K64 K0)<|sQ 20 (yz 2 K1 (hS2.c 0))<|sQ 21 (yd (aD b) 0 0 K58 K0) ?_
 refine sQ 22 (yz 0 K1 (hS2.c 0))<|sQ 23 zM<|sQ 24 (Y_buildS (zs:=[vi 0,vi 0,vi 0,vi 0]) (vs:=[(0,vi (i64.wrap (x.B-x.D))),(1,vi (i64.wrap (x.A+x.C))),(2,vi (i64.wrap (x.B+x.D))),(3,vi (i64.wrap (x.C-x.A)))]) (cs:=[vi (i64.wrap (x.B-x.D)),vi (i64.wrap (x.A+x.C)),vi (i64.wrap (x.B+x.D)),vi (i64.wrap (x.C-x.A))]) K79 K37 rfl (mpc rfl (mpc rfl (mpc rfl (mpc rfl mpn)))) rfl)<|sQ 25 (yw 0 K18 K9 (hS2.c 0)) ?_
 refine sS 26 (yF 4 1 (kR_ x) 4 hS2 K99 K9 H7 rfl (mpc rfl mpn)) ?_
 rintro _ w_2 ⟨b2,rfl,hS3⟩
 obtain ⟨⟨r_2,r_3⟩,hc,hF⟩:=bI hF
 refine sc 27 rfl rfl (yc IB (Ii (Aa.mk (i64.wrap (x.B-x.D)) (i64.wrap (x.A+x.C)) (i64.wrap (x.B+x.D)) (i64.wrap (x.C-x.A))) [x] (aD b2) 1 1 _ rfl (hS3.inn [false,false,true] rfl [] rfl) hc)) ?_
 rintro _ w_3 ⟨rfl,hd⟩
 have hS4:=hS3.out [false,false,true] rfl hd
 refine sQ 28 (ye (gR_ r_2))<|sQ 29 (ye (.bool r_3)) ?_
 refine s0 (yK 1 4 0 hS4 K9) ?_
 rintro _ w_4 ⟨rfl,hS5⟩
 refine sQ 3 yu (rn (ct_ ?_))
 obtain ⟨rfl,rfl⟩:=pr2 (sI hF)
 exact ret2 Tryz.results146 (rX K18 K9 (hS5.c 1)) rT ⟨rfl,(hS5.sN [])⟩

theorem Ng (x:Ab) (exp:Int)  (w0:World)  (hS:ST w0 [] w0 [] []) {r_:Aa} {r_1:Bool} (hF:BE x exp=some (r_,r_1)) :
  CV Tryz.prog 145 #[gD_ x,vi exp] w0 (fun v w'=>v=.tuple #[gR_ r_,.bool r_1]∧ST w0 [] w' [] []):=by
 unfold BE at hF
 refine cv_of_cw 28 Tryz.func145 rfl Tryz.ntmps145 rfl ?_
 refine cq (cr ?_)
 refine sS 2 (yV (kD_ x) 5 hS) ?_
 rintro _ w_ ⟨b,rfl,hS1⟩
 refine sS 4 (yN [vi 0,vi 0,vi 0,vi 0] 4 hS1 K37) ?_
 rintro _ w_1 ⟨b1,rfl,hS2⟩
 refine sQ 5 yu (rn (cq (cr ?_)))
 refine sQ 9 (yd (aD b) 0 3 Fw K9)<|sQ 10 (ya (aD b) 0 (kD_ x) (kR_ x.Num) K18 K9 (hS2.c 0)) ?_
 refine sS 6 (yN [vi 0,vi 0,vi 0,vi 0] 4 hS2 K37) ?_
 rintro _ w_2 ⟨b2,rfl,hS3⟩
 refine s0 (yK 2 4 0 hS3 K9) ?_
 rintro _ w_3 ⟨rfl,hS4⟩
 refine sQ 7 yu (rn (cq (cq (cr ?_))))
 refine sQ 11 (yd (aD b) 0 0 EY K0)<|sQ 12 (yz 4 K1 (hS4.c 0))<|sQ 8 yu (rn ?_)
 obtain ⟨z,hz,hF1⟩:=bI hF
 refine cw_block ?_
 refine cw_loop (fun k f w=>∃ (A:Int) (B:Int) (C:Int) (D:Int) (ok:Bool) (k_:Int),FF f [(1,vi exp),(4,pt (aD b1) 0),(6,pt (aD b2) 0),(7,.bool ok),(8,vi k_)]∧ST w0 [] w [⟨aD b1,138,[vi 0,vi 0,vi 0,vi 0],4⟩,⟨aD b2,138,[vi A,vi B,vi C,vi D],4⟩] []∧whX (Cw exp) k (A,B,C,D,ok,k_)=some z) fuel ⟨x.Num.A,x.Num.B,x.Num.C,x.Num.D,true,x.Exp,(fc rfl (fc rfl (fc rfl (fc rfl (fc rfl fn_))))),(hS4.sel [1,2] rfl rfl),hz⟩ ?_
 rintro K2 f w ⟨A,B,C,D,ok,k_,hf,hS5,hL⟩
 obtain ⟨K11,y,rfl,hb,hL1⟩:=whX_go hL
 unfold Cw at hb
 refine cq (cq (cr ?_))
 refine sQ 13 (yv rfl (hf.g 8 4))<|sQ 14 (yv rfl (hf.g 1 0))<|sQ 15 zL<|sQ 16 yv ?_
 refine sgq 17 rfl rfl (uT_ 16) (fun hg=>(yv rfl (hf.g 7 3))) ?_
 refine sQ 18 yA (rn ?_)
 refine cw_cond rfl (fun hb1=>?_) (fun hb1=>?_)
 ·skip
  have hF2:=ct hb hb1
  refine cw_skip (cq (cw_block (cr ?_)))
  refine sQ 22 (yw 0 K18 K9 (hS5.c 1) rfl (hf.g 6 2)) ?_
  obtain ⟨⟨r_2,r_3⟩,hc,hF2⟩:=bI hF2
  refine sc 23 rfl rfl (yc Td (SI (Aa.mk A B C D) _  (hS5.inn0 [] rfl) hc)) ?_
  rintro _ w_4 ⟨rfl,hd⟩
  have hS6:=hS5.out00 hd
  refine sQ 21 yv<|sQ 24 (ye (gR_ r_2))<|sQ 25 (ye (.bool r_3)) ?_
  refine s0 (yK 1 4 0 hS6 K9 rfl (hf.g 6 2)) ?_
  rintro _ w_5 ⟨rfl,hS7⟩
  refine sQ 7 yu (rn (cr ?_))
  refine sQ 19 (yv rfl (hf.g 8 4))<|sQ 20 zP<|sQ 8 yu (rn ?_)
  obtain rfl:=sI hF2
  exact ⟨K11,Nat.lt_succ_self _,r_2.A,r_2.B,r_2.C,r_2.D,r_3,(i64.wrap (k_+1)),(hf.a 1 0 (hf.a 4 1 (hf.a 6 2 (fc rfl (fc rfl fn_))))),(hS7.sel [0,1] rfl rfl),hL1⟩
 ·skip
  have hF3:=cf' hb hb1
  refine cw_exit rfl ?_
  obtain rfl:=sI hF3
  obtain rfl:=sI hL1
  refine cq (cr ?_)
  refine sQ 26 (yw 0 K18 K9 (hS5.c 1) rfl (hf.g 6 2))<|sQ 27 (yv rfl (hf.g 7 3)) ?_
  refine s0 (yK 0 4 0 hS5 K9 rfl (hf.g 4 1)) ?_
  rintro _ w_6 ⟨rfl,hS8⟩
  refine sQ 5 yu (rn (ct_ ?_))
  obtain ⟨rfl,rfl⟩:=pr2 (sI hF1)
  exact ret2 Tryz.results145 (rX K18 K9 (hS8.c 0) (hf.g 4 1)) rT ⟨rfl,(hS8.sN [])⟩

theorem WH (x:Ab) (y:Ab) (operation:Aa→Aa→Option (Aa×Bool)) (kf:Nat) (caps:Array Value) (Rf:List Ro) (w0:World) (hk:callB Tryz.prog kf=true) (hp:∀ (w:World),ST w [] w [] Rf→∀ (x1:Aa) (x2:Aa) (y2:Aa) (y3:Bool),operation x1 x2=some (y2,y3)→CV Tryz.prog kf ((gR_ x1)::(gR_ x2)::caps.toList).toArray w (fun v w'=>v=.tuple #[gR_ y2,.bool y3]∧ST w [] w' [] [])) (hS:ST w0 [] w0 [] (Rf)) {r_:Ab} {r_1:Bool} (hF:GA x y operation=some (r_,r_1)) :
  CV Tryz.prog 140 #[gD_ x,gD_ y,.func (.func kf) #[] caps] w0 (fun v w'=>v=.tuple #[gD_ r_,.bool r_1]∧ST w0 [] w' [] []):=by
 unfold GA at hF
 refine cv_of_cw 64 Tryz.func140 rfl Tryz.ntmps140 rfl ?_
 refine cq (cr ?_)
 refine sS 3 (yV (kD_ x) 5 hS) ?_
 rintro _ w_ ⟨b,rfl,hS1⟩
 refine sS 4 (yV (kD_ y) 5 hS1) ?_
 rintro _ w_1 ⟨b1,rfl,hS2⟩
 refine sS 6 (yN kZ_ 5 hS2 K33) ?_
 rintro _ w_2 ⟨b2,rfl,hS3⟩
 refine sQ 7 (yg (.bool false)) (rn (cq (cq (cr ?_))))
 refine sQ 15 (yw 0 K17 K6 (hS3.c 0)) ?_
 obtain ⟨r_2,hc,hF⟩:=bI hF
 refine sc 16 rfl rfl (yc Fp (F1 x _  (hS3.inn0 [] rfl) hc)) ?_
 rintro _ w_3 ⟨rfl,hd⟩
 have hS4:=hS3.out00 hd
 refine sQ 17 yn<|sQ 18 (ym (.bool (!r_2))) ?_
 refine sgq 19 rfl rfl (uF_ 18) (fun hg=>(yw 0 K17 K6 (hS4.c 1))) ?_
 obtain ⟨r_3,hc1,hF⟩:=bI hF
 refine sgc 20 (v:=.bool r_3) (F:=hS4.fn) rfl rfl (uF_ 18) hS4 (fun hg1=>(yc Fp (CV.mono (F1 y _  (hS4.inn0 [] rfl) (gb_inv hc1 hg1)) (by rintro _ _ ⟨rfl,h⟩; exact ⟨rfl,hS4.out00 h⟩)) rfl (mc (gv_of hg1) mn))) ?_
 rintro w_4 hS5
 refine sgq 21 rfl rfl (uF_ 18) (fun hg2=>(yn rfl (gv_of hg2))) ?_
 refine sQ 22 yO (rn ?_)
 refine cw_cond rfl (fun hb=>?_) (fun hb=>?_)
 ·skip
  have hF1:=ct hF hb
  refine cq (cr ?_)
  refine sQ 23 (Y_buildS (zs:=kZ_) (vs:=[]) (cs:=kZ_) K72 K33 rfl mpn rfl) ?_
  refine s0 (yK 2 5 0 hS5 K6) ?_
  rintro _ w_5 ⟨rfl,hS6⟩
  refine sQ 7 (yg (.bool false)) (rn (ct_ ?_))
  obtain ⟨rfl,rfl⟩:=pr2 (sI hF1)
  exact ret2 Tryz.results140 (rX K17 K6 (hS6.c 2)) rT ⟨rfl,(hS6.sN [])⟩
 ·skip
  have hF2:=cf' hF hb
  refine cw_skip (cq (cr ?_))
  refine sQ 24 (yd (aD b) 0 0 EY K0)<|sQ 25 (yz 4 K1 (hS5.c 0))<|sQ 26 (yd (aD b1) 0 0 EY K0)<|sQ 27 (yz 4 K1 (hS5.c 1))<|sQ 28 (Y_max2 (k:=.i64) (a:=x.Exp) (b:=y.Exp) rfl rfl rfl)<|sQ 8 (yg (vi (if x.Exp<y.Exp then y.Exp else x.Exp))) (rn (cq (cr ?_)))
  refine sQ 30 (yw 0 K17 K6 (hS5.c 0))<|sQ 31 (ym (vi (if x.Exp<y.Exp then y.Exp else x.Exp))) ?_
  obtain ⟨⟨r_4,r_5⟩,hc2,hF2⟩:=bI hF2
  refine sc 32 rfl rfl (yc Mk (Ng x (if x.Exp<y.Exp then y.Exp else x.Exp) _  (hS5.inn0 [] rfl) hc2)) ?_
  rintro _ w_6 ⟨rfl,hd1⟩
  have hS7:=hS5.out00 hd1
  refine sQ 29 (ym (.tuple #[gR_ r_4,.bool r_5]))<|sQ 33 (ye (gR_ r_4))<|sQ 34 (ye (.bool r_5)) ?_
  refine sS 9 (yN [vi 0,vi 0,vi 0,vi 0] 4 hS7 K37) ?_
  rintro _ w_7 ⟨b3,rfl,hS8⟩
  refine s0 (yK 3 4 0 hS8 K9) ?_
  rintro _ w_8 ⟨rfl,hS9⟩
  refine sQ 10 (yg (.bool r_5)) (rn (cq (cr ?_)))
  refine sQ 36 (yw 0 K17 K6 (hS9.c 1))<|sQ 37 (ym (vi (if x.Exp<y.Exp then y.Exp else x.Exp))) ?_
  obtain ⟨⟨r_6,r_7⟩,hc3,hF2⟩:=bI hF2
  refine sc 38 rfl rfl (yc Mk (Ng y (if x.Exp<y.Exp then y.Exp else x.Exp) _  (hS9.inn0 [] rfl) hc3)) ?_
  rintro _ w_9 ⟨rfl,hd2⟩
  have hS10:=hS9.out00 hd2
  refine sQ 35 (ym (.tuple #[gR_ r_6,.bool r_7]))<|sQ 39 (ye (gR_ r_6))<|sQ 40 (ye (.bool r_7)) ?_
  refine sS 11 (yN [vi 0,vi 0,vi 0,vi 0] 4 hS10 K37) ?_
  rintro _ w_10 ⟨b4,rfl,hS11⟩
  refine s0 (yK 4 4 0 hS11 K9) ?_
  rintro _ w_11 ⟨rfl,hS12⟩
  refine sQ 12 (yg (.bool r_7)) (rn (cq (cr ?_)))
  refine sQ 42 (ym (.func (.func kf) #[] caps))<|sQ 43 (yw 0 K18 K9 (hS12.c 3))<|sQ 44 (yw 0 K18 K9 (hS12.c 4)) ?_
  obtain ⟨⟨r_8,r_9⟩,hc4,hF2⟩:=bI hF2
  refine sc 45 rfl rfl (Yc_clos (g:=kf) (vs:=(gR_ r_4)::(gR_ r_6)::caps.toList) hk rfl rfl (clo_args (mc rfl (mc rfl mn))) (hp _ (hS12.innS (fun _ h=>mOd (i:=0) h)) r_4 r_6 r_8 r_9 hc4)) ?_
  rintro _ w_12 ⟨rfl,hd3⟩
  have hS13:=hS12.out00 hd3
  refine sQ 41 (ym (.tuple #[gR_ r_8,.bool r_9]))<|sQ 46 (ye (gR_ r_8))<|sQ 47 (ye (.bool r_9)) ?_
  refine sS 13 (yN [vi 0,vi 0,vi 0,vi 0] 4 hS13 K37) ?_
  rintro _ w_13 ⟨b5,rfl,hS14⟩
  refine s0 (yK 5 4 0 hS14 K9) ?_
  rintro _ w_14 ⟨rfl,hS15⟩
  refine sQ 14 (yg (.bool r_9)) (rn (cq (cq (cr ?_))))
  refine sQ 48 (ym (.bool r_5))<|sQ 49 yn<|sQ 50 (ym (.bool (!r_5))) ?_
  refine sgq 51 rfl rfl (uF_ 50) (fun hg3=>(ym (.bool r_7))) ?_
  refine sgq 52 rfl rfl (uF_ 50) (fun hg4=>(yn rfl (gv_of hg4))) ?_
  refine sQ 53 yO<|sQ 54 (ym (.bool ((!r_5)||(!r_7)))) ?_
  refine sgq 55 rfl rfl (uF_ 54) (fun hg5=>(ym (.bool r_9))) ?_
  refine sgq 56 rfl rfl (uF_ 54) (fun hg6=>(yn rfl (gv_of hg6))) ?_
  refine sQ 57 yO (rn ?_)
  refine cw_cond rfl (fun hb1=>?_) (fun hb1=>?_)
  ·skip
   have hF3:=ct hF2 hb1
   refine cq (cr ?_)
   refine sQ 58 (Y_buildS (zs:=kZ_) (vs:=[]) (cs:=kZ_) K72 K33 rfl mpn rfl) ?_
   refine s0 (yK 2 5 0 hS15 K6) ?_
   rintro _ w_15 ⟨rfl,hS16⟩
   refine sQ 7 (yg (.bool false)) (rn (ct_ ?_))
   obtain ⟨rfl,rfl⟩:=pr2 (sI hF3)
   exact ret2 Tryz.results140 (rX K17 K6 (hS16.c 2)) rT ⟨rfl,(hS16.sN [])⟩
  ·skip
   have hF4:=cf' hF2 hb1
   refine cw_skip (cq (cr ?_))
   refine sQ 59 (yw 0 K18 K9 (hS15.c 5))<|sQ 60 (ym (vi (if x.Exp<y.Exp then y.Exp else x.Exp))) ?_
   obtain ⟨⟨r_10,r_11⟩,hc5,hF4⟩:=bI hF4
   refine sc 61 rfl rfl (yc LB (Ow r_8 (if x.Exp<y.Exp then y.Exp else x.Exp) _  (hS15.inn0 [] rfl) hc5)) ?_
   rintro _ w_16 ⟨rfl,hd4⟩
   have hS17:=hS15.out00 hd4
   refine sQ 62 (ye (gD_ r_10))<|sQ 63 (ye (.bool r_11)) ?_
   refine s0 (yK 2 5 0 hS17 K6) ?_
   rintro _ w_17 ⟨rfl,hS18⟩
   refine sQ 7 (yg (.bool r_11)) (rn (ct_ ?_))
   obtain ⟨rfl,rfl⟩:=pr2 (sI hF4)
   exact ret2 Tryz.results140 (rX K17 K6 (hS18.c 2)) rT ⟨rfl,(hS18.sN [])⟩

theorem Vs (x:Aa) (y:Aa)  (w0:World)  (hS:ST w0 [] w0 [] []) {r_:Aa} {r_1:Bool} (hF:Ev x y=some (r_,r_1)) :
  CV Tryz.prog 141 #[gR_ x,gR_ y] w0 (fun v w'=>v=.tuple #[gR_ r_,.bool r_1]∧ST w0 [] w' [] []):=by
 unfold Ev at hF
 refine cv_of_cw 33 Tryz.func141 rfl Tryz.ntmps141 rfl ?_
 refine cq (cr ?_)
 refine sS 2 (yV (kR_ x) 4 hS) ?_
 rintro _ w_ ⟨b,rfl,hS1⟩
 refine sS 3 (yV (kR_ y) 4 hS1) ?_
 rintro _ w_1 ⟨b1,rfl,hS2⟩
 refine sS 4 (yN [vi 0,vi 0,vi 0,vi 0] 4 hS2 K37) ?_
 rintro _ w_2 ⟨b2,rfl,hS3⟩
 refine sQ 5 yu (rn (cq (cr ?_)))
 refine sQ 6 (yd (aD b) 0 0 K58 K0)<|sQ 7 (yz 0 K1 (hS3.c 0))<|sQ 8 (yd (aD b1) 0 0 K58 K0)<|sQ 9 (yz 0 K1 (hS3.c 1))<|sQ 10 zP<|sQ 11 (yd (aD b) 0 0 K63 K0) ?_
 refine sQ 12 (yz 1 K1 (hS3.c 0))<|sQ 13 (yd (aD b1) 0 0 K63 K0)<|sQ 14 (yz 1 K1 (hS3.c 1))<|sQ 15 zP<|sQ 16 (yd (aD b) 0 0 K64 K0)<|sQ 17 (yz 2 K1 (hS3.c 0)) ?_
 refine sQ 18 (yd (aD b1) 0 0 K64 K0)<|sQ 19 (yz 2 K1 (hS3.c 1))<|sQ 20 zP<|sQ 21 (yd (aD b) 0 0 K65 K0)<|sQ 22 (yz 3 K1 (hS3.c 0))<|sQ 23 (yd (aD b1) 0 0 K65 K0) ?_
 refine sQ 24 (yz 3 K1 (hS3.c 1))<|sQ 25 zP<|sQ 26 (Y_buildS (zs:=[vi 0,vi 0,vi 0,vi 0]) (vs:=[(0,vi (i64.wrap (x.A+y.A))),(1,vi (i64.wrap (x.B+y.B))),(2,vi (i64.wrap (x.C+y.C))),(3,vi (i64.wrap (x.D+y.D)))]) (cs:=[vi (i64.wrap (x.A+y.A)),vi (i64.wrap (x.B+y.B)),vi (i64.wrap (x.C+y.C)),vi (i64.wrap (x.D+y.D))]) K79 K37 rfl (mpc rfl (mpc rfl (mpc rfl (mpc rfl mpn)))) rfl)<|sQ 27 (yw 0 K18 K9 (hS3.c 0))<|sQ 28 (yw 0 K18 K9 (hS3.c 1)) ?_
 refine sS 29 (yF 4 2 [vi x.A,vi x.B,vi x.C,vi x.D,vi y.A,vi y.B,vi y.C,vi y.D] 8 hS3 K99 K9 H7 rfl (mpc rfl (mpc rfl mpn))) ?_
 rintro _ w_3 ⟨b3,rfl,hS4⟩
 obtain ⟨⟨r_2,r_3⟩,hc,hF⟩:=bI hF
 refine sc 30 rfl rfl (yc IB (Ii (Aa.mk (i64.wrap (x.A+y.A)) (i64.wrap (x.B+y.B)) (i64.wrap (x.C+y.C)) (i64.wrap (x.D+y.D))) [x,y] (aD b3) 2 2 _ rfl (hS4.inn [false,false,false,true] rfl [] rfl) hc)) ?_
 rintro _ w_4 ⟨rfl,hd⟩
 have hS5:=hS4.out [false,false,false,true] rfl hd
 refine sQ 31 (ye (gR_ r_2))<|sQ 32 (ye (.bool r_3)) ?_
 refine s0 (yK 2 4 0 hS5 K9) ?_
 rintro _ w_5 ⟨rfl,hS6⟩
 refine sQ 5 yu (rn (ct_ ?_))
 obtain ⟨rfl,rfl⟩:=pr2 (sI hF)
 exact ret2 Tryz.results141 (rX K18 K9 (hS6.c 2)) rT ⟨rfl,(hS6.sN [])⟩

theorem U0 (x:Ab) (y:Ab)  (w0:World)  (hS:ST w0 [] w0 [] []) {r_:Ab} {r_1:Bool} (hF:Cc x y=some (r_,r_1)) :
  CV Tryz.prog 133 #[gD_ x,gD_ y] w0 (fun v w'=>v=.tuple #[gD_ r_,.bool r_1]∧ST w0 [] w' [] []):=by
 unfold Cc at hF
 refine cv_of_cw 11 Tryz.func133 rfl Tryz.ntmps133 rfl ?_
 refine cq (cr ?_)
 refine sS 2 (yV (kD_ x) 5 hS) ?_
 rintro _ w_ ⟨b,rfl,hS1⟩
 refine sS 3 (yV (kD_ y) 5 hS1) ?_
 rintro _ w_1 ⟨b1,rfl,hS2⟩
 refine sS 4 (yN kZ_ 5 hS2 K33) ?_
 rintro _ w_2 ⟨b2,rfl,hS3⟩
 refine sQ 5 yu (rn (cq (cr ?_)))
 refine sQ 6 (yw 0 K17 K6 (hS3.c 0))<|sQ 7 (yw 0 K17 K6 (hS3.c 1)) ?_
 obtain ⟨⟨r_2,r_3⟩,hc,hF⟩:=bI hF
 refine sc 8 rfl rfl (yc VP (WH x y Ev 141 (#[]) [] _ RY (fun w hw x_0 x_1 y_0 y_1 h_=>Vs x_0 x_1  w  hw h_) (hS3.inn0 [] rfl) hc)) ?_
 rintro _ w_3 ⟨rfl,hd⟩
 have hS4:=hS3.out00 hd
 refine sQ 9 (ye (gD_ r_2))<|sQ 10 (ye (.bool r_3)) ?_
 refine s0 (yK 2 5 0 hS4 K6) ?_
 rintro _ w_4 ⟨rfl,hS5⟩
 refine sQ 5 yu (rn (ct_ ?_))
 obtain ⟨rfl,rfl⟩:=pr2 (sI hF)
 exact ret2 Tryz.results133 (rX K17 K6 (hS5.c 2)) rT ⟨rfl,(hS5.sN [])⟩

theorem Sz (i:Int) (j:Int) (p:Af) (p1:Af) (B:Option Addr) (B1:Option Addr) (c n:Nat) (B2:Option Addr) (B3:Option Addr) (c1 n1:Nat) (w0:World) (hn:p.Cells.length=n) (hn1:p1.Cells.length=n1) (hS:ST w0 [] w0 [] [⟨B,[vi p.Rows,vi p.Cols,.slice B1 n c]⟩,⟨B1,(p.Cells.flatMap Aw)⟩,⟨B2,[vi p1.Rows,vi p1.Cols,.slice B3 n1 c1]⟩,⟨B3,(p1.Cells.flatMap Aw)⟩]) {r_:Ab} {r_1:Bool} (hF:Dm i j p p1=some (r_,r_1)) :
  CV Tryz.prog 132 #[vi i,vi j,pt B 0,pt B2 0] w0 (fun v w'=>v=.tuple #[gD_ r_,.bool r_1]∧ST w0 [] w' [] []):=by
 subst hn
 subst hn1
 unfold Dm at hF
 refine cv_of_cw 48 Tryz.func132 rfl Tryz.ntmps132 rfl ?_
 refine cq (cr ?_)
 refine sS 6 (yN kZ_ 5 hS K33) ?_
 rintro _ w_ ⟨b,rfl,hS1⟩
 refine sQ 7 yu (rn (cq (cr ?_)))
 refine sQ 14 (Y_buildS (zs:=kZ_) (vs:=[]) (cs:=kZ_) K72 K33 rfl mpn rfl) ?_
 refine sS 8 (yN kZ_ 5 hS1 K33) ?_
 rintro _ w_1 ⟨b1,rfl,hS2⟩
 refine s0 (yK 1 5 0 hS2 K6) ?_
 rintro _ w_2 ⟨rfl,hS3⟩
 refine rn (cq (cq (cr ?_)))
 refine sQ 15 (yd B 0 0 K91 K0)<|sQ 16 (yz 1 K1 (hS3.rf (i:=0) rfl))<|sQ 17 yv (rn ?_)
 obtain ⟨hN,hF⟩:=chk_inv hF
 obtain ⟨z,hz,hF1⟩:=bI hF
 refine cw_block ?_
 refine cw_loop (fun k f w=>∃ (i1:Nat) (A:Int) (B4:Int) (C:Int) (D:Int) (Exp:Int),FF f [(0,vi i),(1,vi j),(2,pt B 0),(3,pt B2 0),(6,pt (aD b) 0),(8,pt (aD b1) 0),(16,vi p.Cols),(17,vi (i1:Int))]∧ST w0 [] w [⟨aD b,140,kZ_,5⟩,⟨aD b1,140,[vi A,vi B4,vi C,vi D,vi Exp],5⟩] [⟨B,kM_ p B1 c⟩,⟨B1,(p.Cells.flatMap Aw)⟩,⟨B2,kM_ p1 B3 c1⟩,⟨B3,(p1.Cells.flatMap Aw)⟩]∧i1+k=p.Cols.toNat∧forX (FS p i p1 j) k i1 (A,B4,C,D,Exp)=some z) p.Cols.toNat ⟨0,0,0,0,0,0,(fc rfl (fc rfl (fc rfl (fc rfl (fc rfl (fc rfl (fc rfl (fc rfl fn_)))))))),(hS3.sel [0,1] rfl rfl),Nat.zero_add _,hz⟩ ?_
 rintro k_ f w ⟨i1,A,B4,C,D,Exp,hf,hS4,hik,hL⟩
 refine cq (cr ?_)
 refine sQ 18 (zL rfl (hf.g 17 7) (hf.g 16 6)) (rn (cq ?_))
 refine cw_cond rfl (fun hlt=>?_) (fun hlt=>?_)
 ·skip
  have hlt1:i1<p.Cols.toNat:=by have h:=of_decide_eq_true hlt; omega
  obtain ⟨K2,rfl⟩:∃ k2,k_=k2+1:=⟨k_-1,by omega⟩
  obtain ⟨y,hb,hL1⟩:=forX_go hL
  unfold FS at hb
  refine cw_skip (cq (cw_block (cq (cr ?_))))
  refine sQ 19 (yv rfl (hf.g 17 7))<|sQ 9 yu (rn (cq ?_))
  obtain ⟨r_2,hc,hb⟩:=bI hb
  obtain ⟨r_3,hc1,hb⟩:=bI hb
  obtain ⟨⟨r_4,r_5⟩,hc2,hb⟩:=bI hb
  refine ra_start (hS4.se [0,1]).fn (by kernel_rfl) ?_
  have hS8:=hS4.drew
  have hQ0:=hS8.se [0,1]
  refine rq 0 21 rfl hQ0 (fun _ q=>(yw 0 K32 K14 (ST.rf q (i:=0) rfl) rfl (hf.g 2 2)))<|rq 1 22 rfl hQ0 (fun _ q=>(yv rfl (hf.g 0 0)))<|rq 2 23 rfl hQ0 (fun _ q=>yv)<|rq 4 25 rfl hQ0 (fun _ q=>(yw 0 K32 K14 (ST.rf q (i:=2) rfl) rfl (hf.g 3 3)))<|rq 5 26 rfl hQ0 (fun _ q=>yv) ?_
  refine rq 6 27 rfl hQ0 (fun _ q=>(yv rfl (hf.g 1 1))) ?_
  let O0:Ob:=⟨aD b1,140,[vi A,vi B4,vi C,vi D,vi Exp],5⟩
  let P1:List Ob:=[⟨aD b,140,kZ_,5⟩,O0]
  refine rf_in (k:=8) (ts:=[]) (L:=P1) (G:=[]) [fN 12 10 140 kZ_ 5] hS8 (flc rfl rfl rfl (fun _ _ _ _ hf_ h=>(yN kZ_ 5 h K33)) fln) (fun hJ=>?_)
  refine rf_all [3] hJ (fun Z w h=>(ST.sel (ST.noF h) [0,1] rfl rfl)) (fun Z w_3 hz1 hS9=>?_)
  refine rC 24 3 rfl (yc J7 (Ka p i (i1:Int) B1 c p.Cells.length _ rfl (hS9.inn0 [(true,1)] rfl) hc)) ?_ aN
  rintro _ w_4 ⟨rfl,hd⟩
  have hS10:=hS9.out00 hd
  refine rf_k (L:=P1) hz1 hS10 (fun Z w h=>(ST.sel (ST.noF h) [0,1] rfl rfl)) ?_
  refine rf_all [7] hJ (fun Z w h=>(ST.sel (ST.noF h) [0,1] rfl rfl)) (fun Z1 w_5 hz2 hS11=>?_)
  refine rC 28 7 rfl (yc J7 (Ka p1 (i1:Int) j B3 c1 p1.Cells.length _ rfl (hS11.inn0 [(true,3)] rfl) hc1)) ?_ aN
  rintro _ w_6 ⟨rfl,hd1⟩
  have hS12:=hS11.out00 hd1
  refine rf_k (L:=P1) hz2 hS12 (fun Z w h=>(ST.sel (ST.noF h) [0,1] rfl rfl)) ?_
  refine rf_all [8] hJ (fun Z w h=>(ST.sel (ST.noF h) [0,1] rfl rfl)) (fun Z2 w_7 hz3 hS13=>?_)
  refine rC 29 8 rfl (yc Ok (Pt r_2 r_3 _  (hS13.inn0 [] rfl) hc2)) ?_ aN
  rintro _ w_8 ⟨rfl,hd2⟩
  have hS14:=hS13.out00 hd2
  refine rf_k (L:=P1) hz3 hS14 (fun Z w h=>(ST.sel (ST.noF h) [0,1] rfl rfl)) ?_
  refine rf_q 9 20 (v:=.tuple #[gD_ r_4,.bool r_5]) rfl (fun Z w h=>(ST.sel (ST.noF h) [0,1] rfl rfl)) (fun Z _ q=>yv) ?_
  refine rf_q 10 30 (v:=gD_ r_4) rfl (fun Z w h=>(ST.sel (ST.noF h) [0,1] rfl rfl)) (fun Z _ q=>(ye (gD_ r_4))) ?_
  refine rf_q 11 31 (v:=.bool r_5) rfl (fun Z w h=>(ST.sel (ST.noF h) [0,1] rfl rfl)) (fun Z _ q=>(ye (.bool r_5))) ?_
  refine rf_force hJ (fun Z w h=>(ST.sel (ST.noF h) [0,1] rfl rfl)) (fun b2=>?_)
  refine rf_out (fun w_9 hS15=>?_)
  refine rA [13] ?_
  refine rZ 13 rfl (yK 2 5 0 hS15 K6) ?_ aN
  rintro _ w_10 ⟨rfl,hS16⟩
  refine ⟨(hS16.se [0,1]),?_⟩
  refine rq 14 11 rfl (hS16.se [0,1]) (fun _ q=>yu) ?_
  refine ra_done (by kernel_rfl) ?_
  refine cq (cr ?_)
  refine sQ 33 (yw 0 K17 K6 (hS16.c 1) rfl (hf.g 8 5))<|sQ 34 (yw 0 K17 K6 (hS16.c 2)) ?_
  obtain ⟨⟨r_6,r_7⟩,hc3,hb⟩:=bI hb
  refine sc 35 rfl rfl (yc VR (U0 (Ab.mk (Aa.mk A B4 C D) Exp) r_4 _  (hS16.inn0 [] rfl) hc3)) ?_
  rintro _ w_11 ⟨rfl,hd3⟩
  have hS17:=hS16.out00 hd3
  refine sQ 32 yv<|sQ 36 (ye (gD_ r_6))<|sQ 37 (ye (.bool r_7)) ?_
  refine sS 12 (yN kZ_ 5 hS17 K33) ?_
  rintro _ w_12 ⟨b3,rfl,hS18⟩
  refine s0 (yK 3 5 0 hS18 K6) ?_
  rintro _ w_13 ⟨rfl,hS19⟩
  refine sQ 13 yu (rn (cq (cq (cr ?_))))
  refine sQ 38 yv<|sQ 39 yn<|sQ 40 yv ?_
  refine sgq 41 rfl rfl (uF_ 40) (fun hg=>yv) ?_
  refine sgq 42 rfl rfl (uF_ 40) (fun hg1=>(yn rfl (gv_of hg1))) ?_
  refine sQ 43 yO (rn ?_)
  refine cw_cond rfl (fun hb1=>?_) (fun hb1=>?_)
  ·skip
   have hF2:=ct hb hb1
   refine cq (cr ?_)
   refine sQ 44 (Y_buildS (zs:=kZ_) (vs:=[]) (cs:=kZ_) K72 K33 rfl mpn rfl) ?_
   refine s0 (yK 0 5 0 hS19 K6 rfl (hf.g 6 4)) ?_
   rintro _ w_14 ⟨rfl,hS20⟩
   refine sQ 7 yu (rn (ct_ ?_))
   obtain rfl:=sI hF2
   obtain rfl:=sI hL1
   obtain ⟨rfl,rfl⟩:=pr2 (sI hF1)
   exact ret2 Tryz.results132 (rX K17 K6 (hS20.c 0) (hf.g 6 4)) rT ⟨rfl,(hS20.sN [])⟩
  ·skip
   have hF3:=cf' hb hb1
   refine cw_skip (cr ?_)
   refine sQ 45 (yw 0 K17 K6 (hS19.c 3)) ?_
   refine s0 (yK 1 5 0 hS19 K6 rfl (hf.g 8 5)) ?_
   rintro _ w_15 ⟨rfl,hS21⟩
   refine rn (cr ?_)
   refine sQ 46 (zP rfl (hf.g 17 7))<|sQ 17 yv (rn ?_)
   obtain rfl:=sI hF3
   exact ⟨K2,Nat.lt_succ_self _,i1+1,r_6.Num.A,r_6.Num.B,r_6.Num.C,r_6.Num.D,r_6.Exp,(hf.a 0 0 (hf.a 1 1 (hf.a 2 2 (hf.a 3 3 (hf.a 6 4 (hf.a 8 5 (hf.a 16 6 (fc (congrArg (Value.int .i64) (wr_succ hlt1 hN)) fn_)))))))),(hS21.sel [0,1] rfl rfl),(by omega),hL1⟩
 ·skip
  obtain rfl:k_=0:=by have h:=of_decide_eq_false hlt; omega
  refine cw_exit rfl ?_
  obtain rfl:=sI hL
  refine cq (cr ?_)
  refine sQ 47 (yw 0 K17 K6 (hS4.c 1) rfl (hf.g 8 5)) ?_
  refine s0 (yK 0 5 0 hS4 K6 rfl (hf.g 6 4)) ?_
  rintro _ w_16 ⟨rfl,hS22⟩
  refine sQ 7 yu (rn (ct_ ?_))
  obtain ⟨rfl,rfl⟩:=pr2 (sI hF1)
  exact ret2 Tryz.results132 (rX K17 K6 (hS22.c 0) (hf.g 6 4)) rT ⟨rfl,(hS22.sN [])⟩

theorem VX (a:Af) (b:Af) (B:Option Addr) (c n:Nat) (B1:Option Addr) (c1 n1:Nat) (w0:World) (hn:a.Cells.length=n) (hn1:b.Cells.length=n1) (hS:ST w0 [] w0 [] [⟨B,(a.Cells.flatMap Aw)⟩,⟨B1,(b.Cells.flatMap Aw)⟩]) {r_:Af} {r_1:Bool} (hF:Gh a b=some (r_,r_1)) :
  CV Tryz.prog 110 #[.agg #[vi a.Rows,vi a.Cols,.slice B n c],.agg #[vi b.Rows,vi b.Cols,.slice B1 n1 c1]] w0 (fun v w'=>∃ (B2:Option Addr) (c2:Nat),v=.tuple #[gM_ r_ B2 c2,.bool r_1]∧ST w0 [] w' [⟨B2,140,(r_.Cells.flatMap Aw),c2*5⟩] []):=by
 subst hn
 subst hn1
 unfold Gh at hF
 refine cv_of_cw 30 Tryz.func110 rfl Tryz.ntmps110 rfl ?_
 refine cq (cr ?_)
 refine sS 2 (yV (kM_ a B c) 3 hS) ?_
 rintro _ w_ ⟨b1,rfl,hS1⟩
 refine sS 3 (yV (kM_ b B1 c1) 3 hS1) ?_
 rintro _ w_1 ⟨b2,rfl,hS2⟩
 refine sS 4 (yN kN_ 3 hS2 K48) ?_
 rintro _ w_2 ⟨b3,rfl,hS3⟩
 refine sQ 5 yu (rn (cq (cq (cr ?_))))
 refine sQ 6 (yw 0 K32 K14 (hS3.c 0)) ?_
 obtain ⟨r_2,hc,hF⟩:=bI hF
 refine sc 7 rfl rfl (yc G2 (G7 a B c a.Cells.length _ rfl (hS3.inn0 [(true,0)] rfl) hc)) ?_
 rintro _ w_3 ⟨rfl,hd⟩
 have hS4:=hS3.out00 hd
 refine sQ 8 yn<|sQ 9 yv ?_
 refine sgq 10 rfl rfl (uF_ 9) (fun hg=>(yw 0 K32 K14 (hS4.c 1))) ?_
 obtain ⟨r_3,hc1,hF⟩:=bI hF
 refine sgc 11 (v:=.bool r_3) (F:=hS4.fn) rfl rfl (uF_ 9) hS4 (fun hg1=>(yc G2 (CV.mono (G7 b B1 c1 b.Cells.length _ rfl (hS4.inn0 [(true,1)] rfl) (gb_inv hc1 hg1)) (by rintro _ _ ⟨rfl,h⟩; exact ⟨rfl,hS4.out00 h⟩)) rfl (mc (gv_of hg1) mn))) ?_
 rintro w_4 hS5
 refine sgq 12 rfl rfl (uF_ 9) (fun hg2=>(yn rfl (gv_of hg2))) ?_
 refine sQ 13 yO<|sQ 14 yv ?_
 refine sgq 15 rfl rfl (uF_ 14) (fun hg3=>(yd (aD b1) 0 0 K91 K0)) ?_
 refine sgq 16 rfl rfl (uF_ 14) (fun hg4=>(yz 1 K1 (hS5.c 0) rfl (gv_of hg4))) ?_
 refine sgq 17 rfl rfl (uF_ 14) (fun hg5=>(yd (aD b2) 0 0 Ei K0)) ?_
 refine sgq 18 rfl rfl (uF_ 14) (fun hg6=>(yz 0 K1 (hS5.c 1) rfl (gv_of hg6))) ?_
 refine sgq 19 rfl rfl (uF_ 14) (fun hg7=>(Y_ne rfl (gv_of hg7) (gv_of hg7))) ?_
 refine sQ 20 yO (rn ?_)
 refine cw_cond rfl (fun hb=>?_) (fun hb=>?_)
 ·skip
  have hF1:=ct hF hb
  refine cq (cr ?_)
  refine sQ 21 (Y_buildS (zs:=kN_) (vs:=[]) (cs:=kN_) DQ K48 rfl mpn rfl) ?_
  refine s0 (yK 2 3 0 hS5 K14) ?_
  rintro _ w_5 ⟨rfl,hS6⟩
  refine sQ 5 yu (rn (ct_ ?_))
  have hS7:=hS6.addNil 140
  obtain ⟨rfl,rfl⟩:=pr2 (sI hF1)
  exact ret2 Tryz.results110 (rX K32 K14 (hS7.c 2)) rT ⟨none,0,rfl,(hS7.sN [3])⟩
 ·skip
  have hF2:=cf' hF hb
  refine cw_skip (cq (cr ?_))
  refine sQ 22 (yd (aD b1) 0 0 Ei K0)<|sQ 23 (yz 0 K1 (hS5.c 0))<|sQ 24 (yd (aD b2) 0 0 K91 K0)<|sQ 25 (yz 1 K1 (hS5.c 1))<|sQ 26 (Y_makeFunc (cs:=[pt (aD b1) 0,pt (aD b2) 0]) rfl rfl (mc rfl (mc rfl mn))) ?_
  obtain ⟨⟨r_4,r_5⟩,hc2,hF2⟩:=bI hF2
  refine sc 27 rfl rfl (yc Iu (I4 a.Rows b.Cols (fun x_0 x_1=>Dm x_0 x_1 a b) 132 (#[pt (aD b1) 0,pt (aD b2) 0]) [⟨aD b1,kM_ a B c⟩,⟨B,(a.Cells.flatMap Aw)⟩,⟨aD b2,kM_ b B1 c1⟩,⟨B1,(b.Cells.flatMap Aw)⟩] _ Vv (fun w hw x_0 x_1 y_0 y_1 h_=>Sz x_0 x_1 a b (aD b1) B c a.Cells.length (aD b2) B1 c1 b.Cells.length w rfl rfl hw h_) (hS5.inn0 [(false,0),(true,0),(false,1),(true,1)] rfl) hc2)) ?_
  rintro _ w_6 ⟨B3,c3,rfl,hd1⟩
  have hS8:=hS5.out0 hd1
  refine sQ 28 (ye (gM_ r_4 B3 c3))<|sQ 29 (ye (.bool r_5)) ?_
  refine s0 (yK 2 3 0 hS8 K14) ?_
  rintro _ w_7 ⟨rfl,hS9⟩
  refine sQ 5 yu (rn (ct_ ?_))
  obtain ⟨rfl,rfl⟩:=pr2 (sI hF2)
  exact ret2 Tryz.results110 (rX K32 K14 (hS9.c 2)) rT ⟨B3,c3,rfl,(hS9.sN [3])⟩

theorem Qm (c:Ad) (m:Af) (ok:Bool) (B:Option Addr) (c1 n:Nat) (B1:Option Addr) (c2 n1:Nat) (w0:World) (hn:c.Gates.length=n) (hn1:m.Cells.length=n1) (hS:ST w0 (bl [⟨B1,140,(m.Cells.flatMap Aw),c2*5⟩]) w0 [⟨B1,140,(m.Cells.flatMap Aw),c2*5⟩] [⟨B,(c.Gates.flatMap eN0)⟩]) {r_:Af} {r_1:Bool} (hF:FK c m ok=some (r_,r_1)) :
  CV Tryz.prog 84 #[.agg #[vi c.Qubits,.slice B n c1],.agg #[vi m.Rows,vi m.Cols,.slice B1 n1 c2],.bool ok] w0 (fun v w'=>∃ (B2:Option Addr) (c3:Nat),v=.tuple #[gM_ r_ B2 c3,.bool r_1]∧ST w0 (bl [⟨B1,140,(m.Cells.flatMap Aw),c2*5⟩]) w' [⟨B2,140,(r_.Cells.flatMap Aw),c3*5⟩] []):=by
 subst hn
 subst hn1
 unfold FK at hF
 refine cv_of_cw 40 Tryz.func84 rfl Tryz.ntmps84 rfl ?_
 refine cq (cr ?_)
 refine sS 3 (yV [vi c.Qubits,.slice B c.Gates.length c1] 2 hS) ?_
 rintro _ w_ ⟨b,rfl,hS1⟩
 refine sS 4 (yV (kM_ m B1 c2) 3 hS1) ?_
 rintro _ w_1 ⟨b1,rfl,hS2⟩
 refine sS 6 (yN kN_ 3 hS2 K48) ?_
 rintro _ w_2 ⟨b2,rfl,hS3⟩
 refine sQ 7 yu (rn (cq (cq (cr ?_))))
 refine sQ 8 yu (rn ?_)
 obtain ⟨z,hz,hF1⟩:=bI hF
 refine cw_block ?_
 let O1:Ob:=⟨aD b,28,[vi c.Qubits,.slice B c.Gates.length c1],2⟩
 refine cw_loop (fun k f w=>∃ (ok1:Bool) (Rows:Int) (Cols:Int) (Cells:List Ab) (i:Int) (B3:Option Addr) (c4:Nat),FF f [(2,.bool ok1),(3,pt (aD b) 0),(4,pt (aD b1) 0),(6,pt (aD b2) 0),(8,vi i)]∧ST w0 (bl [⟨B1,140,(m.Cells.flatMap Aw),c2*5⟩]) w [O1,⟨aD b1,94,[vi Rows,vi Cols,.slice B3 Cells.length c4],3⟩,⟨B3,140,(Cells.flatMap Aw),c4*5⟩,⟨aD b2,94,kN_,3⟩] [⟨B,(c.Gates.flatMap eN0)⟩]∧whX (CM c) k (ok1,Rows,Cols,Cells,i)=some z) fuel ⟨ok,m.Rows,m.Cols,m.Cells,0,B1,c2,(fc rfl (fc rfl (fc rfl (fc rfl (fc rfl fn_))))),(hS3.sel [1,2,0,3] rfl rfl),hz⟩ ?_
 rintro k_ f w ⟨ok1,Rows,Cols,Cells,i,B3,c4,hf,hS4,hL⟩
 obtain ⟨K2,y,rfl,hb,hL1⟩:=whX_go hL
 unfold CM at hb
 refine cq (cq (cr ?_))
 refine sQ 11 (yv rfl (hf.g 8 4))<|sQ 12 (yd (aD b) 0 0 K19 K15 rfl (hf.g 3 1))<|sQ 13 (yz 1 K21 (hS4.c 0))<|sQ 14 (Y_len K12 rfl rfl)<|sQ 15 zL<|sQ 16 yv ?_
 refine sgq 17 rfl rfl (uT_ 16) (fun hg=>(yv rfl (hf.g 2 0))) ?_
 refine sQ 18 yA (rn ?_)
 refine cw_cond rfl (fun hb1=>?_) (fun hb1=>?_)
 ·skip
  have hF2:=ct hb hb1
  refine cw_skip (cq (cw_block (cq ?_)))
  obtain ⟨x,hx,hF2⟩:=bI hF2
  obtain ⟨⟨r_2,r_3⟩,hc,hF2⟩:=bI hF2
  refine ra_start (hS4.se [0,1,2,3]).fn (by kernel_rfl) ?_
  have hS6:=hS4.drew
  have hQ0:=hS6.se [0,1,2,3]
  refine rq 0 22 rfl hQ0 (fun _ q=>(yd (aD b) 0 0 K42 K0 rfl (hf.g 3 1)))<|rq 1 23 rfl hQ0 (fun _ q=>(yz 0 K1 (ST.c q 0)))<|rq 2 24 rfl hQ0 (fun _ q=>(yd (aD b) 0 0 K19 K15 rfl (hf.g 3 1)))<|rq 3 25 rfl hQ0 (fun _ q=>(yz 1 K21 (ST.c q 0)))<|rq 4 26 rfl hQ0 (fun _ q=>(yv rfl (hf.g 8 4))) ?_
  refine rq 5 27 rfl hQ0 (fun _ q=>(yI B i K12 K7 (gi_isSome eN8 rfl (ST.rf q (i:=0) rfl) hx) (getI_nn hx) (getI_ltI hx rfl)))<|rq 6 28 rfl hQ0 (fun _ q=>(ya B (i.toNat*3) (c.Gates.flatMap eN0) [vi x.Kind,vi x.A,vi x.B] K35 K7 (ST.rf q (i:=0) rfl) rfl rfl (eN8 x) (gi_seg eN8 hx))) ?_
  let O0:Ob:=⟨aD b1,94,[vi Rows,vi Cols,.slice B3 Cells.length c4],3⟩
  let O2:Ob:=⟨B3,140,(Cells.flatMap Aw),c4*5⟩
  refine rf_in (k:=6) (ts:=[]) (L:=[O1,O0,O2,⟨aD b2,94,kN_,3⟩]) (G:=[]) [fN 11 9 94 kN_ 3] hS6 (flc rfl rfl rfl (fun _ _ _ _ hf_ h=>(yN kN_ 3 h K48)) fln) (fun hJ=>?_)
  refine rf_all [7] hJ (fun Z w h=>(ST.sel (ST.noF h) [0,1,2,3] rfl rfl)) (fun Z w_3 hz1 hS7=>?_)
  refine rC 29 7 rfl (yc U9 (WG c.Qubits x _  (hS7.inn0 [] rfl) hc)) ?_ aN
  rintro _ w_4 ⟨B4,c5,rfl,hd⟩
  have hS8:=hS7.out0 hd
  let O3:Ob:=⟨B4,140,(r_2.Cells.flatMap Aw),c5*5⟩
  have hS9:ST w0 (bl [⟨B1,140,(m.Cells.flatMap Aw),c2*5⟩]) _ (O1::O0::O2::⟨aD b2,94,kN_,3⟩::O3::(flL [fN 11 9 94 kN_ 3] Z++[])) [⟨B,(c.Gates.flatMap eN0)⟩]:=ST.rot (pre:=[O1,O0,O2,⟨aD b2,94,kN_,3⟩]) (G:=(flL [fN 11 9 94 kN_ 3] Z++[])) (xs:=[O3]) hS8
  refine rf_k (L:=[O1,O0,O2,⟨aD b2,94,kN_,3⟩,O3]) hz1 hS9 (fun Z w h=>(ST.sel (ST.noF h) [0,1,2,3] rfl rfl)) ?_
  refine rf_q 8 21 (v:=.tuple #[gM_ r_2 B4 c5,.bool r_3]) rfl (fun Z w h=>(ST.sel (ST.noF h) [0,1,2,3] rfl rfl)) (fun Z _ q=>yv) ?_
  refine rf_q 9 30 (v:=gM_ r_2 B4 c5) rfl (fun Z w h=>(ST.sel (ST.noF h) [0,1,2,3] rfl rfl)) (fun Z _ q=>(ye (gM_ r_2 B4 c5))) ?_
  refine rf_q 10 31 (v:=.bool r_3) rfl (fun Z w h=>(ST.sel (ST.noF h) [0,1,2,3] rfl rfl)) (fun Z _ q=>(ye (.bool r_3))) ?_
  refine rf_force hJ (fun Z w h=>(ST.sel (ST.noF h) [0,1,2,3] rfl rfl)) (fun b3=>?_)
  refine rf_out (fun w_5 hS10=>?_)
  refine rA [12] ?_
  refine rZ 12 rfl (yK 5 3 0 hS10 K14) ?_ aN
  rintro _ w_6 ⟨rfl,hS11⟩
  refine ⟨(hS11.se [0,1,2,3]),?_⟩
  refine rq 13 10 rfl (hS11.se [0,1,2,3]) (fun _ q=>yu) ?_
  refine ra_done (by kernel_rfl) ?_
  refine cr ?_
  refine sQ 33 (yw 0 K32 K14 (hS11.c 5))<|sQ 34 (yw 0 K32 K14 (hS11.c 1) rfl (hf.g 4 2)) ?_
  obtain ⟨⟨r_4,r_5⟩,hc1,hF2⟩:=bI hF2
  refine sc 35 rfl rfl (yc QY (VX r_2 (Af.mk Rows Cols Cells) B4 c5 r_2.Cells.length B3 c4 Cells.length _ rfl rfl (hS11.inn0 [(false,4),(false,2)] rfl) hc1)) ?_
  rintro _ w_7 ⟨B5,c6,rfl,hd1⟩
  have hS12:=hS11.out0 hd1
  refine sQ 32 yv<|sQ 36 (ye (gM_ r_4 B5 c6))<|sQ 37 (ye (.bool r_5)) ?_
  refine s0 (yK 1 3 0 hS12 K14 rfl (hf.g 4 2)) ?_
  rintro _ w_8 ⟨rfl,hS13⟩
  refine sQ 2 yu (rn (cr ?_))
  refine sQ 19 (yv rfl (hf.g 8 4))<|sQ 20 zP<|sQ 8 yu (rn ?_)
  obtain rfl:=sI hF2
  exact ⟨K2,Nat.lt_succ_self _,r_5,r_4.Rows,r_4.Cols,r_4.Cells,(i64.wrap (i+1)),B5,c6,(fc rfl (hf.a 3 1 (hf.a 4 2 (hf.a 6 3 (fc rfl fn_))))),(hS13.sel [0,1,6,3] rfl rfl),hL1⟩
 ·skip
  have hF3:=cf' hb hb1
  refine cw_exit rfl ?_
  obtain rfl:=sI hF3
  obtain rfl:=sI hL1
  refine cq (cr ?_)
  refine sQ 38 (yw 0 K32 K14 (hS4.c 1) rfl (hf.g 4 2))<|sQ 39 (yv rfl (hf.g 2 0)) ?_
  refine s0 (yK 3 3 0 hS4 K14 rfl (hf.g 6 3)) ?_
  rintro _ w_9 ⟨rfl,hS14⟩
  refine sQ 7 yu (rn (ct_ ?_))
  obtain ⟨rfl,rfl⟩:=pr2 (sI hF1)
  exact ret2 Tryz.results84 (rX K32 K14 (hS14.c 3) (hf.g 6 3)) rT ⟨B3,c4,rfl,(hS14.sN [2])⟩

theorem Mm (c:Ad) (B:Option Addr) (c1 n:Nat) (w0:World) (hn:c.Gates.length=n) (hS:ST w0 [] w0 [] [⟨B,(c.Gates.flatMap eN0)⟩]) {r_:Af} {r_1:Bool} (hF:Dc c=some (r_,r_1)) :
  CV Tryz.prog 51 #[.agg #[vi c.Qubits,.slice B n c1]] w0 (fun v w'=>∃ (B1:Option Addr) (c2:Nat),v=.tuple #[gM_ r_ B1 c2,.bool r_1]∧ST w0 [] w' [⟨B1,140,(r_.Cells.flatMap Aw),c2*5⟩] []):=by
 subst hn
 unfold Dc at hF
 refine cv_of_cw 23 Tryz.func51 rfl Tryz.ntmps51 rfl ?_
 refine cq (cr ?_)
 refine sS 1 (yV [vi c.Qubits,.slice B c.Gates.length c1] 2 hS) ?_
 rintro _ w_ ⟨b,rfl,hS1⟩
 refine sS 2 (yN kN_ 3 hS1 K48) ?_
 rintro _ w_1 ⟨b1,rfl,hS2⟩
 refine sQ 3 yu (rn (cq (cq (cr ?_))))
 refine sQ 6 (yw 0 K10 K3 (hS2.c 0)) ?_
 obtain ⟨r_2,hc,hF⟩:=bI hF
 refine sc 7 rfl rfl (yc K93 (Dv c B c1 c.Gates.length _ rfl (hS2.inn0 [(true,0)] rfl) hc)) ?_
 rintro _ w_2 ⟨rfl,hd⟩
 have hS3:=hS2.out00 hd
 refine sQ 8 yn (rn ?_)
 refine cw_cond rfl (fun hb=>?_) (fun hb=>?_)
 ·skip
  have hF1:=ct hF hb
  refine cq (cr ?_)
  refine sQ 9 (Y_buildS (zs:=kN_) (vs:=[]) (cs:=kN_) DQ K48 rfl mpn rfl) ?_
  refine s0 (yK 1 3 0 hS3 K14) ?_
  rintro _ w_3 ⟨rfl,hS4⟩
  refine sQ 3 yu (rn (ct_ ?_))
  have hS5:=hS4.addNil 140
  obtain ⟨rfl,rfl⟩:=pr2 (sI hF1)
  exact ret2 Tryz.results51 (rX K32 K14 (hS5.c 1)) rT ⟨none,0,rfl,(hS5.sN [2])⟩
 ·skip
  have hF2:=cf' hF hb
  refine cw_skip (cq (cr ?_))
  refine sQ 11 (yd (aD b) 0 0 K42 K0)<|sQ 12 (yz 0 K1 (hS3.c 0)) ?_
  obtain ⟨hsh,hF2⟩:=chk_inv hF2
  refine sQ 13 (Y_shl (k:=.i64) (a:=1) (k':=.i64) (b:=c.Qubits) rfl rfl rfl hsh) ?_
  obtain ⟨⟨r_3,r_4⟩,hc1,hF2⟩:=bI hF2
  refine sc 14 rfl rfl (yc SY (Uj (shlK .i64 1 c.Qubits) _  (hS3.inn0 [] rfl) hc1)) ?_
  rintro _ w_4 ⟨B2,c3,rfl,hd1⟩
  have hS6:=hS3.out0 hd1
  refine sQ 10 yv<|sQ 15 (ye (gM_ r_3 B2 c3))<|sQ 16 (ye (.bool r_4)) ?_
  refine sS 4 (yN kN_ 3 hS6 K48) ?_
  rintro _ w_5 ⟨b2,rfl,hS7⟩
  refine s0 (yK 3 3 0 hS7 K14) ?_
  rintro _ w_6 ⟨rfl,hS8⟩
  refine sQ 5 yu (rn (cq (cr ?_)))
  refine sQ 17 (yw 0 K10 K3 (hS8.c 0))<|sQ 18 (yw 0 K32 K14 (hS8.c 3))<|sQ 19 yv ?_
  obtain ⟨⟨r_5,r_6⟩,hc2,hF2⟩:=bI hF2
  refine sc 20 rfl rfl (yc Re (Qm c r_3 r_4 B c1 c.Gates.length B2 c3 r_3.Cells.length _ rfl rfl (hS8.inn [false,false,true,false] rfl [(true,0)] rfl) hc2)) ?_
  rintro _ w_7 ⟨B3,c4,rfl,hd2⟩
  have hS9:=hS8.out [false,false,true,false] rfl hd2
  refine sQ 21 (ye (gM_ r_5 B3 c4))<|sQ 22 (ye (.bool r_6)) ?_
  refine s0 (yK 1 3 0 hS9 K14) ?_
  rintro _ w_8 ⟨rfl,hS10⟩
  refine sQ 3 yu (rn (ct_ ?_))
  obtain ⟨rfl,rfl⟩:=pr2 (sI hF2)
  exact ret2 Tryz.results51 (rX K32 K14 (hS10.c 1)) rT ⟨B3,c4,rfl,(hS10.sN [3])⟩

theorem Ur (i:Int) (j:Int) (p:Af) (p1:Ab) (B:Option Addr) (B1:Option Addr) (c n:Nat) (B2:Option Addr) (w0:World) (hn:p.Cells.length=n) (hS:ST w0 [] w0 [] [⟨B,[vi p.Rows,vi p.Cols,.slice B1 n c]⟩,⟨B1,(p.Cells.flatMap Aw)⟩,⟨B2,kD_ p1⟩]) {r_:Ab} {r_1:Bool} (hF:E3 i j p p1=some (r_,r_1)) :
  CV Tryz.prog 115 #[vi i,vi j,pt B 0,pt B2 0] w0 (fun v w'=>v=.tuple #[gD_ r_,.bool r_1]∧ST w0 [] w' [] []):=by
 subst hn
 unfold E3 at hF
 refine cv_of_cw 16 Tryz.func115 rfl Tryz.ntmps115 rfl ?_
 refine cq (cr ?_)
 refine sS 6 (yN kZ_ 5 hS K33) ?_
 rintro _ w_ ⟨b,rfl,hS1⟩
 refine sQ 7 yu (rn (cq ?_))
 obtain ⟨r_2,hc,hF⟩:=bI hF
 obtain ⟨⟨r_3,r_4⟩,hc1,hF⟩:=bI hF
 refine ra_start (hS1.se []).fn (by kernel_rfl) ?_
 have hS4:=hS1.drew
 have hQ0:=hS4.se []
 refine rq 0 8 rfl hQ0 (fun _ q=>(yw 0 K32 K14 (ST.rf q (i:=0) rfl)))<|rq 1 9 rfl hQ0 (fun _ q=>yv)<|rq 2 10 rfl hQ0 (fun _ q=>yv)<|rq 4 12 rfl hQ0 (fun _ q=>(yw 0 K17 K6 (ST.rf q (i:=2) rfl))) ?_
 refine rA [3] ?_
 refine rC 11 3 rfl (yc J7 (Ka p i j B1 c p.Cells.length _ rfl (hS4.inn0 [(true,1)] rfl) hc)) ?_ aN
 rintro _ w_1 ⟨rfl,hd⟩
 have hS5:=hS4.out00 hd
 refine ⟨(hS5.se []),?_⟩
 refine rA [5] ?_
 refine rC 13 5 rfl (yc Ok (Pt r_2 p1 _  (hS5.inn0 [] rfl) hc1)) ?_ aN
 rintro _ w_2 ⟨rfl,hd1⟩
 have hS6:=hS5.out00 hd1
 have hQ1:=hS6.se []
 refine ⟨hQ1,?_⟩
 refine rq 6 14 rfl hQ1 (fun _ q=>(ye (gD_ r_3)))<|rq 7 15 rfl hQ1 (fun _ q=>(ye (.bool r_4))) ?_
 refine rA [8] ?_
 refine rZ 8 rfl (yK 0 5 0 hS6 K6) ?_ aN
 rintro _ w_3 ⟨rfl,hS7⟩
 refine ⟨(hS7.se []),?_⟩
 refine rq 9 7 rfl (hS7.se []) (fun _ q=>yu) ?_
 refine ra_done (by kernel_rfl) ?_
 refine ct_ ?_
 obtain ⟨rfl,rfl⟩:=pr2 (sI hF)
 exact ret2 Tryz.results115 (rX K17 K6 (hS7.c 0)) rT ⟨rfl,(hS7.sN [])⟩

theorem W4 (m:Af) (x:Ab) (B:Option Addr) (c n:Nat) (w0:World) (hn:m.Cells.length=n) (hS:ST w0 [] w0 [] [⟨B,(m.Cells.flatMap Aw)⟩]) {r_:Af} {r_1:Bool} (hF:FO m x=some (r_,r_1)) :
  CV Tryz.prog 86 #[.agg #[vi m.Rows,vi m.Cols,.slice B n c],gD_ x] w0 (fun v w'=>∃ (B1:Option Addr) (c1:Nat),v=.tuple #[gM_ r_ B1 c1,.bool r_1]∧ST w0 [] w' [⟨B1,140,(r_.Cells.flatMap Aw),c1*5⟩] []):=by
 subst hn
 unfold FO at hF
 refine cv_of_cw 23 Tryz.func86 rfl Tryz.ntmps86 rfl ?_
 refine cq (cr ?_)
 refine sS 2 (yV (kM_ m B c) 3 hS) ?_
 rintro _ w_ ⟨b,rfl,hS1⟩
 refine sS 3 (yV (kD_ x) 5 hS1) ?_
 rintro _ w_1 ⟨b1,rfl,hS2⟩
 refine sS 4 (yN kN_ 3 hS2 K48) ?_
 rintro _ w_2 ⟨b2,rfl,hS3⟩
 refine sQ 5 yu (rn (cq (cq (cr ?_))))
 refine sQ 6 (yw 0 K32 K14 (hS3.c 0)) ?_
 obtain ⟨r_2,hc,hF⟩:=bI hF
 refine sc 7 rfl rfl (yc G2 (G7 m B c m.Cells.length _ rfl (hS3.inn0 [(true,0)] rfl) hc)) ?_
 rintro _ w_3 ⟨rfl,hd⟩
 have hS4:=hS3.out00 hd
 refine sQ 8 yn<|sQ 9 yv ?_
 refine sgq 10 rfl rfl (uF_ 9) (fun hg=>(yw 0 K17 K6 (hS4.c 1))) ?_
 obtain ⟨r_3,hc1,hF⟩:=bI hF
 refine sgc 11 (v:=.bool r_3) (F:=hS4.fn) rfl rfl (uF_ 9) hS4 (fun hg1=>(yc Fp (CV.mono (F1 x _  (hS4.inn0 [] rfl) (gb_inv hc1 hg1)) (by rintro _ _ ⟨rfl,h⟩; exact ⟨rfl,hS4.out00 h⟩)) rfl (mc (gv_of hg1) mn))) ?_
 rintro w_4 hS5
 refine sgq 12 rfl rfl (uF_ 9) (fun hg2=>(yn rfl (gv_of hg2))) ?_
 refine sQ 13 yO (rn ?_)
 refine cw_cond rfl (fun hb=>?_) (fun hb=>?_)
 ·skip
  have hF1:=ct hF hb
  refine cq (cr ?_)
  refine sQ 14 (Y_buildS (zs:=kN_) (vs:=[]) (cs:=kN_) DQ K48 rfl mpn rfl) ?_
  refine s0 (yK 2 3 0 hS5 K14) ?_
  rintro _ w_5 ⟨rfl,hS6⟩
  refine sQ 5 yu (rn (ct_ ?_))
  have hS7:=hS6.addNil 140
  obtain ⟨rfl,rfl⟩:=pr2 (sI hF1)
  exact ret2 Tryz.results86 (rX K32 K14 (hS7.c 2)) rT ⟨none,0,rfl,(hS7.sN [3])⟩
 ·skip
  have hF2:=cf' hF hb
  refine cw_skip (cq (cr ?_))
  refine sQ 15 (yd (aD b) 0 0 Ei K0)<|sQ 16 (yz 0 K1 (hS5.c 0))<|sQ 17 (yd (aD b) 0 0 K91 K0)<|sQ 18 (yz 1 K1 (hS5.c 0))<|sQ 19 (Y_makeFunc (cs:=[pt (aD b) 0,pt (aD b1) 0]) rfl rfl (mc rfl (mc rfl mn))) ?_
  obtain ⟨⟨r_4,r_5⟩,hc2,hF2⟩:=bI hF2
  refine sc 20 rfl rfl (yc Iu (I4 m.Rows m.Cols (fun x_0 x_1=>E3 x_0 x_1 m x) 115 (#[pt (aD b) 0,pt (aD b1) 0]) [⟨aD b,kM_ m B c⟩,⟨B,(m.Cells.flatMap Aw)⟩,⟨aD b1,kD_ x⟩] _ Wd (fun w hw x_0 x_1 y_0 y_1 h_=>Ur x_0 x_1 m x (aD b) B c m.Cells.length (aD b1) w rfl hw h_) (hS5.inn0 [(false,0),(true,0),(false,1)] rfl) hc2)) ?_
  rintro _ w_6 ⟨B2,c2,rfl,hd1⟩
  have hS8:=hS5.out0 hd1
  refine sQ 21 (ye (gM_ r_4 B2 c2))<|sQ 22 (ye (.bool r_5)) ?_
  refine s0 (yK 2 3 0 hS8 K14) ?_
  rintro _ w_7 ⟨rfl,hS9⟩
  refine sQ 5 yu (rn (ct_ ?_))
  obtain ⟨rfl,rfl⟩:=pr2 (sI hF2)
  exact ret2 Tryz.results86 (rX K32 K14 (hS9.c 2)) rT ⟨B2,c2,rfl,(hS9.sN [3])⟩

theorem RM (s1:List Ab) (s2:List Ab) (B:Option Addr) (c n:Nat) (B1:Option Addr) (c1 n1:Nat) (w0:World) (hn:s1.length=n) (hn1:s2.length=n1) (hS:ST w0 [] w0 [] [⟨B,(s1.flatMap Aw)⟩,⟨B1,(s2.flatMap Aw)⟩]) {r_:Bool} (hF:FL s1 s2=some r_) :
  CV Tryz.prog 119 #[.slice B n c,.slice B1 n1 c1] w0 (fun v w'=>v=.bool r_∧ST w0 [] w' [] []):=by
 subst hn
 subst hn1
 unfold FL at hF
 refine cv_of_cw 26 Tryz.func119 rfl Tryz.ntmps119 rfl ?_
 refine cq (cr ?_)
 refine sQ 4 yu (rn (cq (cq (cr ?_))))
 refine sQ 6 yv<|sQ 7 (Y_len K78 rfl rfl)<|sQ 8 yv<|sQ 9 (Y_len K78 rfl rfl)<|sQ 10 (Y_ne rfl rfl rfl) (rn ?_)
 refine cw_cond rfl (fun hb=>?_) (fun hb=>?_)
 ·skip
  have hF1:=ct hF hb
  refine cq (cr ?_)
  refine sQ 4 yu (rn (ct_ ?_))
  obtain rfl:=sI hF1
  exact e1 Tryz.results119 (hS.sN [])
 ·skip
  have hF2:=cf' hF hb
  refine cw_skip (cq (cq (cr ?_)))
  refine sQ 11 yv<|sQ 12 (Y_len K78 rfl rfl)<|sQ 13 yv (rn ?_)
  obtain ⟨hN,hF2⟩:=chk_inv hF2
  obtain ⟨z,hz,hF3⟩:=bI hF2
  refine cw_block ?_
  refine cw_loop (fun k f w=>∃ (i:Nat),FF f [(0,.slice B s1.length c),(1,.slice B1 s2.length c1),(12,vi (s1.length:Int)),(13,vi (i:Int))]∧ST w0 [] w [] [⟨B,(s1.flatMap Aw)⟩,⟨B1,(s2.flatMap Aw)⟩]∧i+k=s1.length∧forX (Hu s1 s2) k i ()=some z) s1.length ⟨0,(fc rfl (fc rfl (fc rfl (fc rfl fn_)))),(hS.sel [] rfl rfl),Nat.zero_add _,hz⟩ ?_
  rintro k_ f w ⟨i,hf,hS1,hik,hL⟩
  refine cq (cr ?_)
  refine sQ 14 (zL rfl (hf.g 13 3) (hf.g 12 2)) (rn (cq ?_))
  refine cw_cond rfl (fun hlt=>?_) (fun hlt=>?_)
  ·skip
   have hlt1:i<s1.length:=by have h:=of_decide_eq_true hlt; omega
   obtain ⟨K2,rfl⟩:∃ k2,k_=k2+1:=⟨k_-1,by omega⟩
   obtain ⟨y,hb1,hL1⟩:=forX_go hL
   unfold Hu at hb1
   refine cw_skip (cq (cw_block (cq (cr ?_))))
   refine sQ 15 (yv rfl (hf.g 13 3))<|sQ 5 yu (rn (cq ?_))
   obtain ⟨x,hx,hb1⟩:=bI hb1
   obtain ⟨x1,hx1,hb1⟩:=bI hb1
   refine ra_start (hS1.se []).fn (by kernel_rfl) ?_
   have hS2:=hS1.drew
   have hQ0:=hS2.se []
   refine rq 0 16 rfl hQ0 (fun _ q=>(yv rfl (hf.g 0 0)))<|rq 1 17 rfl hQ0 (fun _ q=>yv)<|rq 2 18 rfl hQ0 (fun _ q=>(yI B (i:Int) K78 K6 (gi_isSome BV rfl (ST.rf q (i:=0) rfl) hx) (getI_nn hx) (getI_ltI hx rfl)))<|rq 3 19 rfl hQ0 (fun _ q=>(ya B ((i:Int).toNat*5) (s1.flatMap Aw) (kD_ x) K17 K6 (ST.rf q (i:=0) rfl) rfl rfl (BV x) (gi_seg BV hx)))<|rq 4 20 rfl hQ0 (fun _ q=>(yv rfl (hf.g 1 1))) ?_
   refine rq 5 21 rfl hQ0 (fun _ q=>yv)<|rq 6 22 rfl hQ0 (fun _ q=>(yI B1 (i:Int) K78 K6 (gi_isSome BV rfl (ST.rf q (i:=1) rfl) hx1) (getI_nn hx1) (getI_ltI hx1 rfl)))<|rq 7 23 rfl hQ0 (fun _ q=>(ya B1 ((i:Int).toNat*5) (s2.flatMap Aw) (kD_ x1) K17 K6 (ST.rf q (i:=1) rfl) rfl rfl (BV x1) (gi_seg BV hx1))) ?_
   refine ra_q 8 24 (v:=.bool (!(((x.Num.A==x1.Num.A)&&((x.Num.B==x1.Num.B)&&((x.Num.C==x1.Num.C)&&((x.Num.D==x1.Num.D)&&true))))&&((x.Exp==x1.Exp)&&true)))) rfl rfl rfl (by kernel_rfl) (by kernel_rfl) (by kernel_rfl) hQ0 (fun _ q=>(Y_neA (xs:=#[vi x.Num.A,vi x.Num.B,vi x.Num.C,vi x.Num.D,vi x.Exp]) (ys:=#[vi x1.Num.A,vi x1.Num.B,vi x1.Num.C,vi x1.Num.D,vi x1.Exp]) (b:=(((x.Num.A==x1.Num.A)&&((x.Num.B==x1.Num.B)&&((x.Num.C==x1.Num.C)&&((x.Num.D==x1.Num.D)&&true))))&&((x.Exp==x1.Exp)&&true))) Wp rfl rfl rfl (eqr_struct (xs:=kD_ x) (ys:=kD_ x1) QK W0 (pts_ag (us:=kR_ x.Num) (vs:=kR_ x1.Num) K18 K9 rfl rfl (eqr_struct (xs:=kR_ x.Num) (ys:=kR_ x1.Num) Ux Tr (pts_sc K1 rfl rfl (eqr_int K29) (pts_sc K1 rfl rfl (eqr_int K29) (pts_sc K1 rfl rfl (eqr_int K29) (pts_sc K1 rfl rfl (eqr_int K29) pts_nil))))) (pts_sc K1 rfl rfl (eqr_int K29) pts_nil))))) ?_
   refine ra_done (by kernel_rfl) ?_
   refine cw_cond rfl (fun hb2=>?_) (fun hb2=>?_)
   ·skip
    have hF4:=ct hb1 hb2
    refine cq (cr ?_)
    refine sQ 4 yu (rn (ct_ ?_))
    obtain rfl:=sI hF4
    obtain rfl:=sI hL1
    obtain rfl:=sI hF3
    exact e1 Tryz.results119 (hS2.sN [])
   ·skip
    have hF5:=cf' hb1 hb2
    refine cw_skip (cr ?_)
    refine sQ 25 (zP rfl (hf.g 13 3))<|sQ 13 yv (rn ?_)
    obtain rfl:=sI hF5
    exact ⟨K2,Nat.lt_succ_self _,i+1,(hf.a 0 0 (hf.a 1 1 (hf.a 12 2 (fc (congrArg (Value.int .i64) (wr_succ hlt1 hN)) fn_)))),(hS2.sel [] rfl rfl),(by omega),hL1⟩
  ·skip
   obtain rfl:k_=0:=by have h:=of_decide_eq_false hlt; omega
   refine cw_exit rfl ?_
   obtain rfl:=sI hL
   refine cq (cr ?_)
   refine sQ 4 yu (rn (ct_ ?_))
   obtain rfl:=sI hF3
   exact e1 Tryz.results119 (hS1.sN [])

theorem WF (a:Af) (b:Af) (B:Option Addr) (c n:Nat) (B1:Option Addr) (c1 n1:Nat) (w0:World) (hn:a.Cells.length=n) (hn1:b.Cells.length=n1) (hS:ST w0 [] w0 [] [⟨B,(a.Cells.flatMap Aw)⟩,⟨B1,(b.Cells.flatMap Aw)⟩]) {r_:Bool} (hF:Fo a b=some r_) :
  CV Tryz.prog 88 #[.agg #[vi a.Rows,vi a.Cols,.slice B n c],.agg #[vi b.Rows,vi b.Cols,.slice B1 n1 c1]] w0 (fun v w'=>v=.bool r_∧ST w0 [] w' [] []):=by
 subst hn
 subst hn1
 unfold Fo at hF
 refine cv_of_cw 24 Tryz.func88 rfl Tryz.ntmps88 rfl ?_
 refine cq (cr ?_)
 refine sS 2 (yV (kM_ a B c) 3 hS) ?_
 rintro _ w_ ⟨b1,rfl,hS1⟩
 refine sS 3 (yV (kM_ b B1 c1) 3 hS1) ?_
 rintro _ w_1 ⟨b2,rfl,hS2⟩
 refine sQ 4 yu (rn (cq (cr ?_)))
 refine sQ 5 (yd (aD b1) 0 0 Ei K0)<|sQ 6 (yz 0 K1 (hS2.c 0))<|sQ 7 (yd (aD b2) 0 0 Ei K0)<|sQ 8 (yz 0 K1 (hS2.c 1))<|sQ 9 zE<|sQ 10 yv ?_
 refine sgq 11 rfl rfl (uT_ 10) (fun hg=>(yd (aD b1) 0 0 K91 K0)) ?_
 refine sgq 12 rfl rfl (uT_ 10) (fun hg1=>(yz 1 K1 (hS2.c 0) rfl (gv_of hg1))) ?_
 refine sgq 13 rfl rfl (uT_ 10) (fun hg2=>(yd (aD b2) 0 0 K91 K0)) ?_
 refine sgq 14 rfl rfl (uT_ 10) (fun hg3=>(yz 1 K1 (hS2.c 1) rfl (gv_of hg3))) ?_
 refine sgq 15 rfl rfl (uT_ 10) (fun hg4=>(zE rfl (gv_of hg4) (gv_of hg4))) ?_
 refine sQ 16 yA<|sQ 17 yv ?_
 refine sgq 18 rfl rfl (uT_ 17) (fun hg5=>(yd (aD b1) 0 0 EW K98)) ?_
 refine sgq 19 rfl rfl (uT_ 17) (fun hg6=>(yz 2 Fy (hS2.c 0) rfl (gv_of hg6))) ?_
 refine sgq 20 rfl rfl (uT_ 17) (fun hg7=>(yd (aD b2) 0 0 EW K98)) ?_
 refine sgq 21 rfl rfl (uT_ 17) (fun hg8=>(yz 2 Fy (hS2.c 1) rfl (gv_of hg8))) ?_
 obtain ⟨r_1,hc,hF⟩:=bI hF
 refine sgc 22 (v:=.bool r_1) (F:=hS2.fn) rfl rfl (uT_ 17) hS2 (fun hg9=>(yc UO (CV.mono (RM a.Cells b.Cells B c a.Cells.length B1 c1 b.Cells.length _ rfl rfl (hS2.inn0 [(true,0),(true,1)] rfl) (gb_inv hc hg9)) (by rintro _ _ ⟨rfl,h⟩; exact ⟨rfl,hS2.out00 h⟩)) rfl (mc (gv_of hg9) (mc (gv_of hg9) mn)))) ?_
 rintro w_2 hS3
 refine sQ 23 yA<|sQ 4 yu (rn (ct_ ?_))
 obtain rfl:=sI hF
 exact e1 Tryz.results88 (hS3.sN [])

theorem TO (a:Af) (b:Af) (B:Option Addr) (c n:Nat) (B1:Option Addr) (c1 n1:Nat) (w0:World) (hn:a.Cells.length=n) (hn1:b.Cells.length=n1) (hS:ST w0 [] w0 [] [⟨B,(a.Cells.flatMap Aw)⟩,⟨B1,(b.Cells.flatMap Aw)⟩]) {r_:Int} {r_1:Bool} {r_2:Bool} (hF:Fj a b=some (r_,r_1,r_2)) :
  CV Tryz.prog 52 #[.agg #[vi a.Rows,vi a.Cols,.slice B n c],.agg #[vi b.Rows,vi b.Cols,.slice B1 n1 c1]] w0 (fun v w'=>v=.tuple #[vi r_,.bool r_1,.bool r_2]∧ST w0 [] w' [] []):=by
 subst hn
 subst hn1
 unfold Fj at hF
 refine cv_of_cw 36 Tryz.func52 rfl Tryz.ntmps52 rfl ?_
 refine cq (cr ?_)
 refine sS 2 (yV (kM_ a B c) 3 hS) ?_
 rintro _ w_ ⟨b1,rfl,hS1⟩
 refine sS 3 (yV (kM_ b B1 c1) 3 hS1) ?_
 rintro _ w_1 ⟨b2,rfl,hS2⟩
 refine sQ 4 yu<|sQ 5 yu<|sQ 6 yu (rn (cq (cq (cr ?_))))
 refine sQ 10 (yw 0 K32 K14 (hS2.c 0)) ?_
 obtain ⟨r_3,hc,hF⟩:=bI hF
 refine sc 11 rfl rfl (yc G2 (G7 a B c a.Cells.length _ rfl (hS2.inn0 [(true,0)] rfl) hc)) ?_
 rintro _ w_2 ⟨rfl,hd⟩
 have hS3:=hS2.out00 hd
 refine sQ 12 yn<|sQ 13 yv ?_
 refine sgq 14 rfl rfl (uF_ 13) (fun hg=>(yw 0 K32 K14 (hS3.c 1))) ?_
 obtain ⟨r_4,hc1,hF⟩:=bI hF
 refine sgc 15 (v:=.bool r_4) (F:=hS3.fn) rfl rfl (uF_ 13) hS3 (fun hg1=>(yc G2 (CV.mono (G7 b B1 c1 b.Cells.length _ rfl (hS3.inn0 [(true,1)] rfl) (gb_inv hc1 hg1)) (by rintro _ _ ⟨rfl,h⟩; exact ⟨rfl,hS3.out00 h⟩)) rfl (mc (gv_of hg1) mn))) ?_
 rintro w_3 hS4
 refine sgq 16 rfl rfl (uF_ 13) (fun hg2=>(yn rfl (gv_of hg2))) ?_
 refine sQ 17 yO (rn ?_)
 refine cw_cond rfl (fun hb=>?_) (fun hb=>?_)
 ·skip
  have hF1:=ct hF hb
  refine cq (cr ?_)
  refine sQ 4 yu<|sQ 5 yu<|sQ 6 yu (rn (ct_ ?_))
  obtain ⟨rfl,rfl,rfl⟩:=pr3 (sI hF1)
  exact e3 Tryz.results52 (hS4.sN [])
 ·skip
  have hF2:=cf' hF hb
  refine cw_skip (cq (cq (cr ?_)))
  refine sQ 18 yv (rn ?_)
  obtain ⟨z,hz,hF3⟩:=bI hF2
  refine cw_block ?_
  let O0:Ob:=⟨aD b2,94,kM_ b B1 c1,3⟩
  let O1:Ob:=⟨aD b1,94,kM_ a B c,3⟩
  refine cw_loop (fun k f w=>∃ (i:Nat),FF f [(2,pt (aD b1) 0),(3,pt (aD b2) 0),(18,vi (i:Int))]∧ST w0 [] w [O1,O0] [⟨B,(a.Cells.flatMap Aw)⟩,⟨B1,(b.Cells.flatMap Aw)⟩]∧i+k=8∧forX (HB b a) k i ()=some z) 8 ⟨0,(fc rfl (fc rfl (fc rfl fn_))),(hS4.sel [0,1] rfl rfl),Nat.zero_add _,hz⟩ ?_
  rintro k_ f w ⟨i,hf,hS5,hik,hL⟩
  refine cq (cr ?_)
  refine sQ 19 (zL rfl (hf.g 18 2)) (rn (cq ?_))
  refine cw_cond rfl (fun hlt=>?_) (fun hlt=>?_)
  ·skip
   have hlt1:i<8:=by have h:=of_decide_eq_true hlt; omega
   obtain ⟨K2,rfl⟩:∃ k2,k_=k2+1:=⟨k_-1,by omega⟩
   obtain ⟨y,hb1,hL1⟩:=forX_go hL
   unfold HB at hb1
   refine cw_skip (cq (cw_block (cq (cr ?_))))
   refine sQ 20 (yv rfl (hf.g 18 2))<|sQ 7 yu (rn (cq ?_))
   obtain ⟨r_5,hc2,hb1⟩:=bI hb1
   obtain ⟨⟨r_6,r_7⟩,hc3,hb1⟩:=bI hb1
   refine ra_start (hS5.se [0,1]).fn (by kernel_rfl) ?_
   have hS8:=hS5.drew
   refine rq 0 22 rfl (hS8.se [0,1]) (fun _ q=>(yw 0 K32 K14 (ST.c q 1) rfl (hf.g 3 1)))<|rq 1 23 rfl (hS8.se [0,1]) (fun _ q=>yv) ?_
   refine rf_in (k:=7) (ts:=[]) (L:=[O1,O0]) (G:=[]) [fN 7 8 94 kN_ 3] hS8 (flc rfl rfl rfl (fun _ _ _ _ hf_ h=>(yN kN_ 3 h K48)) fln) (fun hJ=>?_)
   refine rf_all [2] hJ (fun Z w h=>(ST.sel (ST.noF h) [0,1] rfl rfl)) (fun Z w_4 hz1 hS9=>?_)
   refine rC 24 2 rfl (yc He (H4 (i:Int) _  (hS9.inn0 [] rfl) hc2)) ?_ aN
   rintro _ w_5 ⟨rfl,hd1⟩
   have hS10:=hS9.out00 hd1
   refine rf_k (L:=[O1,O0]) hz1 hS10 (fun Z w h=>(ST.sel (ST.noF h) [0,1] rfl rfl)) ?_
   refine rf_all [3] hJ (fun Z w h=>(ST.sel (ST.noF h) [0,1] rfl rfl)) (fun Z1 w_6 hz2 hS11=>?_)
   refine rC 25 3 rfl (yc QO (W4 b r_5 B1 c1 b.Cells.length _ rfl (hS11.inn0 [(true,1)] rfl) hc3)) ?_ aN
   rintro _ w_7 ⟨B2,c2,rfl,hd2⟩
   have hS12:=hS11.out0 hd2
   let O2:Ob:=⟨B2,140,(r_6.Cells.flatMap Aw),c2*5⟩
   have hS13:ST w0 [] _ (O1::O0::O2::(flL [fN 7 8 94 kN_ 3] Z1++[])) [⟨B,(a.Cells.flatMap Aw)⟩,⟨B1,(b.Cells.flatMap Aw)⟩]:=ST.rot (pre:=[O1,O0]) (G:=(flL [fN 7 8 94 kN_ 3] Z1++[])) (xs:=[O2]) hS12
   refine rf_k (L:=[O1,O0,O2]) hz2 hS13 (fun Z w h=>(ST.sel (ST.noF h) [0,1] rfl rfl)) ?_
   refine rf_q 4 21 (v:=.tuple #[gM_ r_6 B2 c2,.bool r_7]) rfl (fun Z w h=>(ST.sel (ST.noF h) [0,1] rfl rfl)) (fun Z _ q=>yv) ?_
   refine rf_q 5 26 (v:=gM_ r_6 B2 c2) rfl (fun Z w h=>(ST.sel (ST.noF h) [0,1] rfl rfl)) (fun Z _ q=>(ye (gM_ r_6 B2 c2))) ?_
   refine rf_q 6 27 (v:=.bool r_7) rfl (fun Z w h=>(ST.sel (ST.noF h) [0,1] rfl rfl)) (fun Z _ q=>(ye (.bool r_7))) ?_
   refine rf_force hJ (fun Z w h=>(ST.sel (ST.noF h) [0,1] rfl rfl)) (fun b3=>?_)
   refine rf_out (fun w_8 hS14=>?_)
   refine rA [8] ?_
   refine rZ 8 rfl (yK 3 3 0 hS14 K14) ?_ aN
   rintro _ w_9 ⟨rfl,hS15⟩
   refine ⟨(hS15.se [0,1]),?_⟩
   refine rq 9 9 rfl (hS15.se [0,1]) (fun _ q=>yu) ?_
   refine ra_done (by kernel_rfl) ?_
   refine cq (cr ?_)
   refine sQ 28 yv<|sQ 29 yv ?_
   refine sgq 30 rfl rfl (uT_ 29) (fun hg3=>(yw 0 K32 K14 (hS15.c 0) rfl (hf.g 2 0))) ?_
   refine sgq 31 rfl rfl (uT_ 29) (fun hg4=>(yw 0 K32 K14 (hS15.c 3))) ?_
   obtain ⟨r_8,hc4,hb1⟩:=bI hb1
   refine sgc 32 (v:=.bool r_8) (F:=hS15.fn) rfl rfl (uT_ 29) hS15 (fun hg5=>(yc Uw (CV.mono (WF a r_6 B c a.Cells.length B2 c2 r_6.Cells.length _ rfl rfl (hS15.inn0 [(true,0),(false,2)] rfl) (gb_inv hc4 hg5)) (by rintro _ _ ⟨rfl,h⟩; exact ⟨rfl,hS15.out00 h⟩)) rfl (mc (gv_of hg5) (mc (gv_of hg5) mn)))) ?_
   rintro w_10 hS16
   refine sQ 33 yA (rn ?_)
   refine cw_cond rfl (fun hb2=>?_) (fun hb2=>?_)
   ·skip
    have hF4:=ct hb1 hb2
    refine cq (cr ?_)
    refine sQ 34 yv<|sQ 4 yu<|sQ 5 yu<|sQ 6 yu (rn (ct_ ?_))
    obtain rfl:=sI hF4
    obtain rfl:=sI hL1
    obtain ⟨rfl,rfl,rfl⟩:=pr3 (sI hF3)
    exact e3 Tryz.results52 (hS16.sN [])
   ·skip
    have hF5:=cf' hb1 hb2
    refine cw_skip (cr ?_)
    refine sQ 35 (zP rfl (hf.g 18 2))<|sQ 18 yv (rn ?_)
    obtain rfl:=sI hF5
    exact ⟨K2,Nat.lt_succ_self _,i+1,(hf.a 2 0 (hf.a 3 1 (fc (congrArg (Value.int .i64) (wr_succ hlt1 (show 8≤9223372036854775807 by decide))) fn_))),(hS16.sel [0,1] rfl rfl),(by omega),hL1⟩
  ·skip
   obtain rfl:k_=0:=by have h:=of_decide_eq_false hlt; omega
   refine cw_exit rfl ?_
   obtain rfl:=sI hL
   refine cq (cr ?_)
   refine sQ 4 yu<|sQ 5 yu<|sQ 6 yu (rn (ct_ ?_))
   obtain ⟨rfl,rfl,rfl⟩:=pr3 (sI hF3)
   exact e3 Tryz.results52 (hS5.sN [])

theorem S7 (a:Ad) (b:Ad) (B:Option Addr) (c n:Nat) (B1:Option Addr) (c1 n1:Nat) (w0:World) (hn:a.Gates.length=n) (hn1:b.Gates.length=n1) (hS:ST w0 [] w0 [] [⟨B,(a.Gates.flatMap eN0)⟩,⟨B1,(b.Gates.flatMap eN0)⟩]) {r_:Bool} {r_1:Bool} (hF:EX a b=some (r_,r_1)) :
  CV Tryz.prog 20 #[.agg #[vi a.Qubits,.slice B n c],.agg #[vi b.Qubits,.slice B1 n1 c1]] w0 (fun v w'=>v=.tuple #[.bool r_,.bool r_1]∧ST w0 [] w' [] []):=by
 subst hn
 subst hn1
 unfold EX at hF
 refine cv_of_cw 45 Tryz.func20 rfl Tryz.ntmps20 rfl ?_
 refine cq (cr ?_)
 refine sS 2 (yV [vi a.Qubits,.slice B a.Gates.length c] 2 hS) ?_
 rintro _ w_ ⟨b1,rfl,hS1⟩
 refine sS 3 (yV [vi b.Qubits,.slice B1 b.Gates.length c1] 2 hS1) ?_
 rintro _ w_1 ⟨b2,rfl,hS2⟩
 refine sQ 4 yu<|sQ 5 yu (rn (cq (cr ?_)))
 refine sQ 14 (yw 0 K10 K3 (hS2.c 0)) ?_
 obtain ⟨⟨r_2,r_3⟩,hc,hF⟩:=bI hF
 refine sc 15 rfl rfl (yc Mp (Mm a B c a.Gates.length _ rfl (hS2.inn0 [(true,0)] rfl) hc)) ?_
 rintro _ w_2 ⟨B2,c2,rfl,hd⟩
 have hS3:=hS2.out0 hd
 refine sQ 13 yv<|sQ 16 (ye (gM_ r_2 B2 c2))<|sQ 17 (ye (.bool r_3)) ?_
 refine sS 6 (yN kN_ 3 hS3 K48) ?_
 rintro _ w_3 ⟨b3,rfl,hS4⟩
 refine s0 (yK 3 3 0 hS4 K14) ?_
 rintro _ w_4 ⟨rfl,hS5⟩
 refine sQ 7 yu (rn (cq (cr ?_)))
 refine sQ 19 (yw 0 K10 K3 (hS5.c 1)) ?_
 obtain ⟨⟨r_4,r_5⟩,hc1,hF⟩:=bI hF
 refine sc 20 rfl rfl (yc Mp (Mm b B1 c1 b.Gates.length _ rfl (hS5.inn0 [(true,1)] rfl) hc1)) ?_
 rintro _ w_5 ⟨B3,c3,rfl,hd1⟩
 have hS6:=hS5.out0 hd1
 refine sQ 18 yv<|sQ 21 (ye (gM_ r_4 B3 c3))<|sQ 22 (ye (.bool r_5)) ?_
 refine sS 8 (yN kN_ 3 hS6 K48) ?_
 rintro _ w_6 ⟨b4,rfl,hS7⟩
 refine s0 (yK 5 3 0 hS7 K14) ?_
 rintro _ w_7 ⟨rfl,hS8⟩
 refine sQ 9 yu (rn (cq (cq (cr ?_))))
 refine sQ 23 yv<|sQ 24 yn<|sQ 25 yv ?_
 refine sgq 26 rfl rfl (uF_ 25) (fun hg=>yv) ?_
 refine sgq 27 rfl rfl (uF_ 25) (fun hg1=>(yn rfl (gv_of hg1))) ?_
 refine sQ 28 yO<|sQ 29 yv ?_
 refine sgq 30 rfl rfl (uF_ 29) (fun hg2=>(yd (aD b1) 0 0 K42 K0)) ?_
 refine sgq 31 rfl rfl (uF_ 29) (fun hg3=>(yz 0 K1 (hS8.c 0) rfl (gv_of hg3))) ?_
 refine sgq 32 rfl rfl (uF_ 29) (fun hg4=>(yd (aD b2) 0 0 K42 K0)) ?_
 refine sgq 33 rfl rfl (uF_ 29) (fun hg5=>(yz 0 K1 (hS8.c 1) rfl (gv_of hg5))) ?_
 refine sgq 34 rfl rfl (uF_ 29) (fun hg6=>(Y_ne rfl (gv_of hg6) (gv_of hg6))) ?_
 refine sQ 35 yO (rn ?_)
 refine cw_cond rfl (fun hb=>?_) (fun hb=>?_)
 ·skip
  have hF1:=ct hF hb
  refine cq (cr ?_)
  refine sQ 4 yu<|sQ 5 yu (rn (ct_ ?_))
  obtain ⟨rfl,rfl⟩:=pr2 (sI hF1)
  exact e2 Tryz.results20 (hS8.sN [])
 ·skip
  have hF2:=cf' hF hb
  refine cw_skip (cq (cr ?_))
  refine sQ 37 (yw 0 K32 K14 (hS8.c 3))<|sQ 38 (yw 0 K32 K14 (hS8.c 5)) ?_
  obtain ⟨⟨r_6,r_7,r_8⟩,hc2,hF2⟩:=bI hF2
  refine sc 39 rfl rfl (yc WE (TO r_2 r_4 B2 c2 r_2.Cells.length B3 c3 r_4.Cells.length _ rfl rfl (hS8.inn0 [(false,2),(false,4)] rfl) hc2)) ?_
  rintro _ w_8 ⟨rfl,hd2⟩
  have hS9:=hS8.out00 hd2
  refine sQ 36 yv<|sQ 40 (ye (vi r_6))<|sQ 41 (ye (.bool r_7))<|sQ 42 (ye (.bool r_8))<|sQ 10 yu<|sQ 11 yu ?_
  refine sQ 12 yu (rn (cq (cr ?_)))
  refine sQ 43 yv<|sQ 44 yv<|sQ 4 yu<|sQ 5 yu (rn (ct_ ?_))
  obtain ⟨rfl,rfl⟩:=pr2 (sI hF2)
  exact e2 Tryz.results20 (hS9.sN [])

theorem Wj (own:Ac) (p:Ae) (B:Option Addr) (B1:Option Addr) (c n:Nat) (w0:World) (hn:p.Edges.length=n) (hS:ST w0 [] w0 [] [⟨B,[vi p.Nodes,.slice B1 n c]⟩,⟨B1,(p.Edges.flatMap eN1)⟩]) {r_:Bool} (hF:EE own p=some r_) :
  CV Tryz.prog 54 #[.agg #[vi own.Kind,vi own.A,vi own.B],pt B 0] w0 (fun v w'=>v=.bool r_∧ST w0 [] w' [] []):=by
 subst hn
 unfold EE at hF
 refine cv_of_cw 16 Tryz.func54 rfl Tryz.ntmps54 rfl ?_
 refine cq (cr ?_)
 refine sS 2 (yV [vi own.Kind,vi own.A,vi own.B] 3 hS) ?_
 rintro _ w_ ⟨b,rfl,hS1⟩
 refine sQ 3 yu (rn (cq (cr ?_)))
 refine sQ 4 (yd (aD b) 0 0 K38 K0)<|sQ 5 (yz 0 K1 (hS1.c 0)) ?_
 obtain ⟨r_1,hc,hF⟩:=bI hF
 refine sc 6 rfl rfl (yc Er (EH own.Kind _  (hS1.inn0 [] rfl) hc)) ?_
 rintro _ w_1 ⟨rfl,hd⟩
 have hS2:=hS1.out00 hd
 refine sQ 7 yv ?_
 refine sgq 8 rfl rfl (uT_ 7) (fun hg=>(yw 0 K13 K8 (hS2.rf (i:=0) rfl))) ?_
 refine sgq 9 rfl rfl (uT_ 7) (fun hg1=>(yd (aD b) 0 0 K39 K0)) ?_
 refine sgq 10 rfl rfl (uT_ 7) (fun hg2=>(yz 1 K1 (hS2.c 0) rfl (gv_of hg2))) ?_
 refine sgq 11 rfl rfl (uT_ 7) (fun hg3=>(yd (aD b) 0 0 K43 K0)) ?_
 refine sgq 12 rfl rfl (uT_ 7) (fun hg4=>(yz 2 K1 (hS2.c 0) rfl (gv_of hg4))) ?_
 obtain ⟨r_2,hc1,hF⟩:=bI hF
 refine sgc 13 (v:=.bool r_2) (F:=hS2.fn) rfl rfl (uT_ 7) hS2 (fun hg5=>(yc JG (CV.mono (KL p own.A own.B B1 c p.Edges.length _ rfl (hS2.inn0 [(true,1)] rfl) (gb_inv hc1 hg5)) (by rintro _ _ ⟨rfl,h⟩; exact ⟨rfl,hS2.out00 h⟩)) rfl (mc (gv_of hg5) (mc (gv_of hg5) (mc (gv_of hg5) mn))))) ?_
 rintro w_2 hS3
 refine sgq 14 rfl rfl (uT_ 7) (fun hg6=>(yn rfl (gv_of hg6))) ?_
 refine sQ 15 yA<|sQ 3 yu (rn (ct_ ?_))
 obtain rfl:=sI hF
 exact e1 Tryz.results54 (hS3.sN [])

theorem QQ (g:Ae) (c1:Ad) (B:Option Addr) (c n:Nat) (B1:Option Addr) (c2 n1:Nat) (w0:World) (hn:g.Edges.length=n) (hn1:c1.Gates.length=n1) (hS:ST w0 [] w0 [] [⟨B,(g.Edges.flatMap eN1)⟩,⟨B1,(c1.Gates.flatMap eN0)⟩]) {r_:Bool} {r_1:Bool} (hF:ED g c1=some (r_,r_1)) :
  CV Tryz.prog 21 #[.agg #[vi g.Nodes,.slice B n c],.agg #[vi c1.Qubits,.slice B1 n1 c2]] w0 (fun v w'=>v=.tuple #[.bool r_,.bool r_1]∧ST w0 [] w' [] []):=by
 subst hn
 subst hn1
 unfold ED at hF
 refine cv_of_cw 26 Tryz.func21 rfl Tryz.ntmps21 rfl ?_
 refine cq (cr ?_)
 refine sS 2 (yV [vi g.Nodes,.slice B g.Edges.length c] 2 hS) ?_
 rintro _ w_ ⟨b,rfl,hS1⟩
 refine sS 3 (yV [vi c1.Qubits,.slice B1 c1.Gates.length c2] 2 hS1) ?_
 rintro _ w_1 ⟨b1,rfl,hS2⟩
 refine sQ 4 yu<|sQ 5 yu (rn (cq (cq (cr ?_))))
 refine sQ 6 (yw 0 K13 K8 (hS2.c 0)) ?_
 obtain ⟨r_2,hc,hF⟩:=bI hF
 refine sc 7 rfl rfl (yc Jv (J5 g B c g.Edges.length _ rfl (hS2.inn0 [(true,0)] rfl) hc)) ?_
 rintro _ w_2 ⟨rfl,hd⟩
 have hS3:=hS2.out00 hd
 refine sQ 8 yn<|sQ 9 yv ?_
 refine sgq 10 rfl rfl (uF_ 9) (fun hg=>(yw 0 K10 K3 (hS3.c 1))) ?_
 obtain ⟨r_3,hc1,hF⟩:=bI hF
 refine sgc 11 (v:=.bool r_3) (F:=hS3.fn) rfl rfl (uF_ 9) hS3 (fun hg1=>(yc K93 (CV.mono (Dv c1 B1 c2 c1.Gates.length _ rfl (hS3.inn0 [(true,1)] rfl) (gb_inv hc1 hg1)) (by rintro _ _ ⟨rfl,h⟩; exact ⟨rfl,hS3.out00 h⟩)) rfl (mc (gv_of hg1) mn))) ?_
 rintro w_3 hS4
 refine sgq 12 rfl rfl (uF_ 9) (fun hg2=>(yn rfl (gv_of hg2))) ?_
 refine sQ 13 yO<|sQ 14 yv ?_
 refine sgq 15 rfl rfl (uF_ 14) (fun hg3=>(yd (aD b1) 0 0 K42 K0)) ?_
 refine sgq 16 rfl rfl (uF_ 14) (fun hg4=>(yz 0 K1 (hS4.c 1) rfl (gv_of hg4))) ?_
 refine sgq 17 rfl rfl (uF_ 14) (fun hg5=>(yd (aD b) 0 0 K45 K0)) ?_
 refine sgq 18 rfl rfl (uF_ 14) (fun hg6=>(yz 0 K1 (hS4.c 0) rfl (gv_of hg6))) ?_
 refine sgq 19 rfl rfl (uF_ 14) (fun hg7=>(Y_gt rfl (gv_of hg7) (gv_of hg7))) ?_
 refine sQ 20 yO (rn ?_)
 refine cw_cond rfl (fun hb=>?_) (fun hb=>?_)
 ·skip
  have hF1:=ct hF hb
  refine cq (cr ?_)
  refine sQ 4 yu<|sQ 5 yu (rn (ct_ ?_))
  obtain ⟨rfl,rfl⟩:=pr2 (sI hF1)
  exact e2 Tryz.results21 (hS4.sN [])
 ·skip
  have hF2:=cf' hF hb
  refine cw_skip (cq (cr ?_))
  refine sQ 21 (yd (aD b1) 0 0 K19 K15)<|sQ 22 (yz 1 K21 (hS4.c 1))<|sQ 23 (Y_makeFunc (cs:=[pt (aD b) 0]) rfl rfl (mc rfl mn)) ?_
  obtain ⟨r_4,hc2,hF2⟩:=bI hF2
  refine sc 24 rfl rfl (yc Mu (Ma c1.Gates (fun x_0=>EE x_0 g) B1 c2 c1.Gates.length 54 (#[pt (aD b) 0]) [⟨aD b,[vi g.Nodes,.slice B g.Edges.length c]⟩,⟨B,(g.Edges.flatMap eN1)⟩] _ rfl Tq (fun w hw x_0 y_0 h_=>Wj x_0 g (aD b) B c g.Edges.length w rfl hw h_) (hS4.inn0 [(true,1),(false,0),(true,0)] rfl) hc2)) ?_
  rintro _ w_4 ⟨rfl,hd1⟩
  have hS5:=hS4.out00 hd1
  refine sQ 25 yn<|sQ 4 yu<|sQ 5 yu (rn (ct_ ?_))
  obtain ⟨rfl,rfl⟩:=pr2 (sI hF2)
  exact e2 Tryz.results21 (hS5.sN [])

theorem Vm (code:List Int) (more:List Int) (B:Option Addr) (c n:Nat) (B1:Option Addr) (c1 n1:Nat) (w0:World) (hn:code.length=n) (hn1:more.length=n1) (hS:ST w0 [] w0 [] [⟨B,(code.flatMap enc_u8)⟩,⟨B1,(more.flatMap enc_u8)⟩]) {r_:Bool} (hF:GZ code more=some r_) :
  CV Tryz.prog 3 #[.slice B n c,.slice B1 n1 c1] w0 (fun v w'=>v=.bool r_∧ST w0 [] w' [] []):=by
 subst hn
 subst hn1
 unfold GZ at hF
 refine cv_of_cw 275 Tryz.func3 rfl Tryz.ntmps3 rfl ?_
 refine cq (cr ?_)
 refine sQ 4 (yg (.bool false)) (rn (cq (cq (cr ?_))))
 refine sQ 42 (ym (.slice B code.length c))<|sQ 43 (Y_len EL rfl rfl)<|sQ 44 (ym (.slice B1 more.length c1))<|sQ 45 (Y_len EL rfl rfl)<|sQ 46 zP<|sQ 47 (Y_gt rfl rfl rfl) (rn ?_)
 refine cw_cond rfl (fun hb=>?_) (fun hb=>?_)
 ·skip
  have hF1:=ct hF hb
  refine cq (cr ?_)
  refine sQ 4 (yg (.bool true)) (rn (ct_ ?_))
  obtain rfl:=sI hF1
  exact e1 Tryz.results3 (hS.sN [])
 ·skip
  have hF2:=cf' hF hb
  refine cw_skip (cq (cr ?_))
  refine sQ 49 (ym (.slice B code.length c)) ?_
  obtain ⟨⟨r_1,r_2⟩,hc,hF2⟩:=bI hF2
  refine sc 50 rfl rfl (yc U5 (Qn code B c code.length _ rfl (hS.inn0 [(true,0)] rfl) hc)) ?_
  rintro _ w_ ⟨B2,c2,B3,c3,rfl,hd⟩
  have hS1:=hS.out0 hd
  let V33:List Value:=[vi r_2.Qubits,.slice B3 r_2.Gates.length c3]
  let V35:List Value:=[vi r_1.Nodes,.slice B2 r_1.Edges.length c2]
  refine sQ 48 (ym (.tuple #[.agg V35.toArray,.agg V33.toArray]))<|sQ 51 (ye (.agg V35.toArray))<|sQ 52 (ye (.agg V33.toArray)) ?_
  let V25:List Value:=[vi 0,.slice none 0 0]
  refine sS 5 (yN V25 2 hS1 K44) ?_
  rintro _ w_1 ⟨b,rfl,hS2⟩
  refine sS 6 (yN V25 2 hS2 K27) ?_
  rintro _ w_2 ⟨b1,rfl,hS3⟩
  refine s0 (yK 2 2 0 hS3 K8) ?_
  rintro _ w_3 ⟨rfl,hS4⟩
  let O0:Ob:=⟨aD b,25,V35,2⟩
  let R18:Ro:=⟨B1,(more.flatMap enc_u8)⟩
  let R19:Ro:=⟨B,(code.flatMap enc_u8)⟩
  have hS4:ST w0 [] _ [⟨B2,118,(r_1.Edges.flatMap eN1),c2*2⟩,⟨B3,73,(r_2.Gates.flatMap eN0),c3*3⟩,O0,⟨aD b1,28,V25,2⟩] [R19,R18]:=hS4
  refine s0 (yK 3 2 0 hS4 K3) ?_
  rintro _ w_4 ⟨rfl,hS5⟩
  refine rn (cq (cr ?_))
  refine sQ 54 (yw 0 K13 K8 (hS5.c 2))<|sQ 55 (yw 0 K10 K3 (hS5.c 3)) ?_
  obtain ⟨⟨r_3,r_4⟩,hc1,hF2⟩:=bI hF2
  let R20:Ro:=⟨B2,(r_1.Edges.flatMap eN1)⟩
  have ho1:Org w0 [] [R19,R18] [R20]:=ST.orgOwn hS5 (i:=0) rfl
  have hcap:r_1.Edges.length≤c2:=(hS5.lencap (i:=0) rfl (fm_lenn (l:=r_1.Edges) A6 rfl) rfl rfl)
  let O2:Ob:=⟨aD b1,28,V33,2⟩
  have hS6:ST w0 [] _ [⟨B3,73,(r_2.Gates.flatMap eN0),c3*3⟩,O0,O2] [R20,R19,R18]:=hS5.freeze (i:=0) rfl
  let R21:Ro:=⟨B3,(r_2.Gates.flatMap eN0)⟩
  have ho2:Org w0 [] [R19,R18] [R21]:=ST.orgOwn hS6 (i:=0) rfl
  have hcap1:r_2.Gates.length≤c3:=(hS6.lencap (i:=0) rfl (fm_lenn (l:=r_2.Gates) eN8 rfl) rfl rfl)
  have hS7:ST w0 [] _ [O0,O2] [R21,R20,R19,R18]:=hS6.freeze (i:=0) rfl
  refine sc 56 rfl rfl (yc SX (Tn r_1 r_2 B2 c2 r_1.Edges.length B3 c3 r_2.Gates.length _ rfl hcap rfl hcap1 (hS7.inn0 [(true,1),(true,0)] rfl) hc1)) ?_
  rintro _ w_5 ⟨B4,c4,B5,c5,rfl,hq,ho,hd1⟩
  have hS8:=ST.outR0 hS7 hd1 ho (sk 1 (sk 0 (fun _ h=>by cases h)))
  let R22:Ro:=⟨B5,(r_3.Steps.flatMap eN2)⟩
  have ho3:Org w0 [] [R19,R18] [R22]:=org_trans0 hS7 ho (org_cons ho1 (org_cons ho2 org_nil))
  let O3:Ob:=⟨B4,3,(r_3.Start.flatMap encI),c4*1⟩
  have hS9:ST w0 [] _ [O0,O2,O3] [R22,R21,R20,R19,R18]:=hS8
  let V27:List Value:=[.slice B4 r_3.Start.length c4,.slice B5 r_3.Steps.length c5]
  refine sQ 53 (ym (.tuple #[.agg V27.toArray,.bool r_4]))<|sQ 57 (ye (.agg V27.toArray))<|sQ 58 (ye (.bool r_4)) ?_
  refine sS 7 (yN [.slice none 0 0,.slice none 0 0] 2 hS9 K61) ?_
  rintro _ w_6 ⟨b2,rfl,hS10⟩
  refine s0 (yK 3 2 0 hS10 K25) ?_
  rintro _ w_7 ⟨rfl,hS11⟩
  let O1:Ob:=⟨aD b2,34,V27,2⟩
  have hS11:ST w0 [] _ [O0,O2,O3,O1] [R22,R21,R20,R19,R18]:=hS11
  refine sQ 8 (yg (.bool r_4)) (rn (cq (cr ?_)))
  refine sQ 60 (yw 0 K13 K8 (hS11.c 0))<|sQ 61 (yw 0 K10 K3 (hS11.c 1)) ?_
  obtain ⟨⟨r_5,r_6⟩,hc2,hF2⟩:=bI hF2
  refine sc 62 rfl rfl (yc Sn (RS r_1 r_2 B2 c2 r_1.Edges.length B3 c3 r_2.Gates.length _ rfl rfl (hS11.inn0 [(true,2),(true,1)] rfl) hc2)) ?_
  rintro _ w_8 ⟨B6,c6,B7,c7,rfl,hd2⟩
  have hS12:=hS11.out0 hd2
  let V28:List Value:=[.slice B6 r_5.Start.length c6,.slice B7 r_5.Steps.length c7]
  refine sQ 59 (ym (.tuple #[.agg V28.toArray,.bool r_6]))<|sQ 63 (ye (.agg V28.toArray))<|sQ 64 (ye (.bool r_6)) ?_
  refine sS 9 (yN [.slice none 0 0,.slice none 0 0] 2 hS12 K61) ?_
  rintro _ w_9 ⟨b3,rfl,hS13⟩
  refine s0 (yK 6 2 0 hS13 K25) ?_
  rintro _ w_10 ⟨rfl,hS14⟩
  refine sQ 10 (yg (.bool r_6)) (rn (cq (cq (cr ?_))))
  refine sQ 65 (ym (.bool r_4))<|sQ 66 (ym (.bool r_6))<|sQ 67 (Y_bne (p:=r_4) (q:=r_6) IT rfl rfl rfl)<|sQ 68 (ym (.bool (!(r_4==r_6)))) ?_
  refine sgq 69 rfl rfl (uF_ 68) (fun hg=>(yd (aD b2) 0 0 K90 K16)) ?_
  refine sgq 70 rfl rfl (uF_ 68) (fun hg1=>(yz 0 K23 (hS14.c 3) rfl (gv_of hg1))) ?_
  refine sgq 71 rfl rfl (uF_ 68) (fun hg2=>(yd (aD b3) 0 0 K90 K16)) ?_
  refine sgq 72 rfl rfl (uF_ 68) (fun hg3=>(yz 0 K23 (hS14.c 6) rfl (gv_of hg3))) ?_
  obtain ⟨r_7,hc3,hF2⟩:=bI hF2
  refine sgc 73 (v:=.bool r_7) (F:=hS14.fn) rfl rfl (uF_ 68) hS14 (fun hg4=>(yc Tb (CV.mono (UJ r_3.Start r_5.Start B4 c4 r_3.Start.length B6 c6 r_5.Start.length _ rfl rfl (hS14.inn0 [(false,2),(false,4)] rfl) (gb_inv hc3 hg4)) (by rintro _ _ ⟨rfl,h⟩; exact ⟨rfl,hS14.out00 h⟩)) rfl (mc (gv_of hg4) (mc (gv_of hg4) mn)))) ?_
  rintro w_11 hS15
  have hS15:ST _ _ w_11 _ _:=hS15
  refine sgq 74 rfl rfl (uF_ 68) (fun hg5=>(yn rfl (gv_of hg5))) ?_
  refine sQ 75 yO<|sQ 76 (ym (.bool ((!(r_4==r_6))||(!r_7)))) ?_
  refine sgq 77 rfl rfl (uF_ 76) (fun hg6=>(yd (aD b2) 0 0 K71 K36)) ?_
  refine sgq 78 rfl rfl (uF_ 76) (fun hg7=>(yz 1 K55 (hS15.c 3) rfl (gv_of hg7))) ?_
  refine sgq 79 rfl rfl (uF_ 76) (fun hg8=>(Y_len K31 rfl (gv_of hg8))) ?_
  refine sgq 80 rfl rfl (uF_ 76) (fun hg9=>(yd (aD b3) 0 0 K71 K36)) ?_
  refine sgq 81 rfl rfl (uF_ 76) (fun hg10=>(yz 1 K55 (hS15.c 6) rfl (gv_of hg10))) ?_
  refine sgq 82 rfl rfl (uF_ 76) (fun hg11=>(Y_len K31 rfl (gv_of hg11))) ?_
  refine sgq 83 rfl rfl (uF_ 76) (fun hg12=>(Y_ne rfl (gv_of hg12) (gv_of hg12))) ?_
  refine sQ 84 yO (rn ?_)
  refine cw_cond rfl (fun hb1=>?_) (fun hb1=>?_)
  ·skip
   have hF3:=ct hF2 hb1
   refine cq (cr ?_)
   refine sQ 4 (yg (.bool false)) (rn (ct_ ?_))
   obtain rfl:=sI hF3
   exact e1 Tryz.results3 (hS15.sN [])
  ·skip
   have hF4:=cf' hF2 hb1
   refine cw_skip (cq (cq (cr ?_)))
   refine sQ 85 (yd (aD b2) 0 0 K71 K36)<|sQ 86 (yz 1 K55 (hS15.c 3))<|sQ 87 (Y_len K31 rfl rfl)<|sQ 88 (ym (vi 0)) (rn ?_)
   obtain ⟨hN,hF4⟩:=chk_inv hF4
   obtain ⟨z,hz,hF5⟩:=bI hF4
   refine cw_block ?_
   let O4:Ob:=⟨aD b3,34,V28,2⟩
   let O5:Ob:=⟨B6,3,(r_5.Start.flatMap encI),c6*1⟩
   let O6:Ob:=⟨B7,39,(r_5.Steps.flatMap eN2),c7*3⟩
   refine cw_loop (fun k f w=>∃ (i:Nat),FF f [(0,.slice B code.length c),(1,.slice B1 more.length c1),(5,pt (aD b) 0),(6,pt (aD b1) 0),(7,pt (aD b2) 0),(8,.bool r_4),(9,pt (aD b3) 0),(87,vi (r_3.Steps.length:Int)),(88,vi (i:Int))]∧ST w0 [] w [O0,O2,O1,O3,O4,O5,O6] [R22,R21,R20,R19,R18]∧i+k=r_3.Steps.length∧forX (FD r_3 r_5) k i ()=some z) r_3.Steps.length ⟨0,(fc rfl (fc rfl (fc rfl (fc rfl (fc rfl (fc rfl (fc rfl (fc rfl (fc rfl fn_))))))))),(hS15.sel [0,1,3,2,6,4,5] rfl rfl),Nat.zero_add _,hz⟩ ?_
   rintro k_ f w ⟨i,hf,hS16,hik,hL⟩
   refine cq (cr ?_)
   refine sQ 89 (zL rfl (hf.g 88 8) (hf.g 87 7)) (rn (cq ?_))
   refine cw_cond rfl (fun hlt=>?_) (fun hlt=>?_)
   ·skip
    have hlt1:i<r_3.Steps.length:=by have h:=of_decide_eq_true hlt; omega
    obtain ⟨K2,rfl⟩:∃ k2,k_=k2+1:=⟨k_-1,by omega⟩
    obtain ⟨y,hb2,hL1⟩:=forX_go hL
    unfold FD at hb2
    refine cw_skip (cq (cw_block (cq (cr ?_))))
    refine sQ 90 (ym (vi (i:Int)) rfl (hf.g 88 8))<|sQ 11 (yg (vi (i:Int))) (rn (cq ?_))
    obtain ⟨x,hx,hb2⟩:=bI hb2
    obtain ⟨x1,hx1,hb2⟩:=bI hb2
    refine ra_start (hS16.se [0,1,2,3,4,5,6]).fn (by kernel_rfl) ?_
    have hS17:=hS16.drew
    have hQ0:=hS17.se [0,1,2,3,4,5,6]
    refine rq 0 91 rfl hQ0 (fun _ q=>(yd (aD b2) 0 0 K71 K36 rfl (hf.g 7 4)))<|rq 1 92 rfl hQ0 (fun _ q=>(yz 1 K55 (ST.c q 2)))<|rq 2 93 rfl hQ0 (fun _ q=>(ym (vi (i:Int))))<|rq 3 94 rfl hQ0 (fun _ q=>(yI B5 (i:Int) K31 K26 (gi_isSome A5 rfl (ST.rf q (i:=0) rfl) hx) (getI_nn hx) (getI_ltI hx rfl)))<|rq 4 95 rfl hQ0 (fun _ q=>(ya B5 ((i:Int).toNat*3) (r_3.Steps.flatMap eN2) [vi x.Gate,vi x.A,vi x.B] K96 K26 (ST.rf q (i:=0) rfl) rfl rfl (A5 x) (gi_seg A5 hx))) ?_
    refine rq 5 96 rfl hQ0 (fun _ q=>(yd (aD b3) 0 0 K71 K36 rfl (hf.g 9 6)))<|rq 6 97 rfl hQ0 (fun _ q=>(yz 1 K55 (ST.c q 4)))<|rq 7 98 rfl hQ0 (fun _ q=>(ym (vi (i:Int))))<|rq 8 99 rfl hQ0 (fun _ q=>(yI B7 (i:Int) K31 K26 (gi_isSome A5 rfl (ST.c q 6) hx1) (getI_nn hx1) (getI_ltI hx1 rfl)))<|rq 9 100 rfl hQ0 (fun _ q=>(ya B7 ((i:Int).toNat*3) (r_5.Steps.flatMap eN2) [vi x1.Gate,vi x1.A,vi x1.B] K96 K26 (ST.c q 6) rfl rfl (A5 x1) (gi_seg A5 hx1))) ?_
    refine rq 10 101 rfl hQ0 (fun _ q=>(Y_neA (xs:=#[vi x.Gate,vi x.A,vi x.B]) (ys:=#[vi x1.Gate,vi x1.A,vi x1.B]) (b:=((x.Gate==x1.Gate)&&((x.A==x1.A)&&((x.B==x1.B)&&true)))) Ql rfl rfl rfl (eqr_struct (xs:=[vi x.Gate,vi x.A,vi x.B]) (ys:=[vi x1.Gate,vi x1.A,vi x1.B]) TP V3 (pts_sc K1 rfl rfl (eqr_int K29) (pts_sc K1 rfl rfl (eqr_int K29) (pts_sc K1 rfl rfl (eqr_int K29) pts_nil)))))) ?_
    refine ra_done (by kernel_rfl) ?_
    refine cw_cond rfl (fun hb3=>?_) (fun hb3=>?_)
    ·skip
     have hF6:=ct hb2 hb3
     refine cq (cr ?_)
     refine sQ 4 (yg (.bool false)) (rn (ct_ ?_))
     obtain rfl:=sI hF6
     obtain rfl:=sI hL1
     obtain rfl:=sI hF5
     exact e1 Tryz.results3 (hS17.sN [])
    ·skip
     have hF7:=cf' hb2 hb3
     refine cw_skip (cr ?_)
     refine sQ 102 (zP rfl (hf.g 88 8))<|sQ 88 (ym (vi (i64.wrap ((i:Int)+1)))) (rn ?_)
     obtain rfl:=sI hF7
     exact ⟨K2,Nat.lt_succ_self _,i+1,(hf.a 0 0 (hf.a 1 1 (hf.a 5 2 (hf.a 6 3 (hf.a 7 4 (hf.a 8 5 (hf.a 9 6 (hf.a 87 7 (fc (congrArg (Value.int .i64) (wr_succ hlt1 hN)) fn_))))))))),(hS17.sel [0,1,2,3,4,5,6] rfl rfl),(by omega),hL1⟩
   ·skip
    obtain rfl:k_=0:=by have h:=of_decide_eq_false hlt; omega
    refine cw_exit rfl ?_
    obtain rfl:=sI hL
    refine cq (cr ?_)
    refine sQ 104 (ym (.slice B1 more.length c1) rfl (hf.g 1 1)) ?_
    obtain ⟨⟨r_8,r_9,r_10⟩,hc4,hF5⟩:=bI hF5
    refine sc 105 rfl rfl (yc TK (QN more B1 c1 more.length _ rfl (hS16.inn0 [(true,4)] rfl) hc4)) ?_
    rintro _ w_12 ⟨B8,c8,B9,c9,B10,c10,rfl,hq1,ho4,hd3⟩
    have hS18:=ST.outR0 hS16 hd3 ho4 (sk 4 (fun _ h=>by cases h))
    let R23:Ro:=⟨B10,(r_10.flatMap encI)⟩
    have ho5:Org w0 [] [R19,R18] [R23]:=org_trans0 hS16 ho4 (org_cons (org_mem (i:=1) rfl) org_nil)
    let O9:Ob:=⟨B8,118,(r_8.Edges.flatMap eN1),c8*2⟩
    let O10:Ob:=⟨B9,73,(r_9.Gates.flatMap eN0),c9*3⟩
    have hS19:ST w0 [] _ [O0,O2,O1,O3,O4,O5,O6,O9,O10] [R23,R22,R21,R20,R19,R18]:=hS18
    let V34:List Value:=[vi r_9.Qubits,.slice B9 r_9.Gates.length c9]
    let V36:List Value:=[vi r_8.Nodes,.slice B8 r_8.Edges.length c8]
    refine sQ 103 (ym (.tuple #[.agg V36.toArray,.agg V34.toArray,.slice B10 r_10.length c10]))<|sQ 106 (ye (.agg V36.toArray))<|sQ 107 (ye (.agg V34.toArray))<|sQ 108 (ye (.slice B10 r_10.length c10)) ?_
    refine sS 12 (yN V25 2 hS19 K44) ?_
    rintro _ w_13 ⟨b4,rfl,hS20⟩
    refine sS 13 (yN V25 2 hS20 K27) ?_
    rintro _ w_14 ⟨b5,rfl,hS21⟩
    refine s0 (yK 9 2 0 hS21 K8) ?_
    rintro _ w_15 ⟨rfl,hS22⟩
    let O7:Ob:=⟨aD b4,25,V36,2⟩
    have hS22:ST w0 [] _ [O0,O2,O1,O3,O4,O5,O6,O9,O10,O7,⟨aD b5,28,V25,2⟩] [R23,R22,R21,R20,R19,R18]:=hS22
    refine s0 (yK 10 2 0 hS22 K3) ?_
    rintro _ w_16 ⟨rfl,hS23⟩
    refine sQ 14 (yg (.slice B10 r_10.length c10)) (rn (cq (cr ?_)))
    refine sQ 110 (ym (.slice B code.length c) rfl (hf.g 0 0)) ?_
    obtain ⟨⟨r_11,r_12,r_13⟩,hc5,hF5⟩:=bI hF5
    refine sc 111 rfl rfl (yc PB (Nb code B c code.length _ rfl (hS23.inn0 [(true,4)] rfl) hc5)) ?_
    rintro _ w_17 ⟨B11,c11,B12,c12,B13,c13,rfl,hq2,ho6,hd4⟩
    have hS24:=ST.outR0 hS23 hd4 ho6 (sk 4 (fun _ h=>by cases h))
    let R24:Ro:=⟨B13,(r_13.flatMap encI)⟩
    have ho7:Org w0 [] [R19,R18] [R24]:=org_trans0 hS23 ho6 (org_cons (org_mem (i:=0) rfl) org_nil)
    let O12:Ob:=⟨aD b5,28,V34,2⟩
    let O14:Ob:=⟨B11,118,(r_11.Edges.flatMap eN1),c11*2⟩
    let O15:Ob:=⟨B12,73,(r_12.Gates.flatMap eN0),c12*3⟩
    have hS25:ST w0 [] _ [O0,O2,O1,O3,O4,O5,O6,O9,O10,O7,O12,O14,O15] [R24,R23,R22,R21,R20,R19,R18]:=hS24
    let V29:List Value:=[vi r_12.Qubits,.slice B12 r_12.Gates.length c12]
    let V32:List Value:=[vi r_11.Nodes,.slice B11 r_11.Edges.length c11]
    refine sQ 109 (ym (.tuple #[.agg V32.toArray,.agg V29.toArray,.slice B13 r_13.length c13]))<|sQ 112 (ye (.agg V32.toArray))<|sQ 113 (ye (.agg V29.toArray))<|sQ 114 (ye (.slice B13 r_13.length c13)) ?_
    refine sS 15 (yN V25 2 hS25 K44) ?_
    rintro _ w_18 ⟨b6,rfl,hS26⟩
    refine sS 16 (yN V25 2 hS26 K27) ?_
    rintro _ w_19 ⟨b7,rfl,hS27⟩
    have hS27:ST w0 [] _ [O0,O2,O1,O3,O4,O5,O6,O9,O10,O7,O12,O14,O15,⟨aD b6,25,V25,2⟩,⟨aD b7,28,V25,2⟩] [R24,R23,R22,R21,R20,R19,R18]:=hS27
    refine s0 (yK 13 2 0 hS27 K8) ?_
    rintro _ w_20 ⟨rfl,hS28⟩
    refine s0 (yK 14 2 0 hS28 K3) ?_
    rintro _ w_21 ⟨rfl,hS29⟩
    refine sQ 17 (yg (.slice B13 r_13.length c13)) (rn (cq (cr ?_)))
    refine sQ 116 (ym (.slice B10 r_10.length c10))<|sQ 117 (ym (.slice B13 r_13.length c13)) ?_
    obtain ⟨⟨r_14,r_15⟩,hc6,hF5⟩:=bI hF5
    refine sc 118 rfl rfl (yc LQ (Nm r_10 r_13 B10 c10 r_10.length B13 c13 r_13.length _ rfl hq1 rfl hq2 (hS29.inn0 [(true,1),(true,0)] rfl) hc6)) ?_
    rintro _ w_22 ⟨B14,c14,rfl,hd5⟩
    have hS30:=hS29.out0 hd5
    refine sQ 115 (ym (.tuple #[.slice B14 r_14.length c14,.bool r_15]))<|sQ 119 (ye (.slice B14 r_14.length c14))<|sQ 120 (ye (.bool r_15))<|sQ 18 (yg (.slice B14 r_14.length c14))<|sQ 19 (yg (.bool r_15)) (rn (cq (cr ?_)))
    refine sQ 122 (ym (.slice B10 r_10.length c10))<|sQ 123 (ym (.slice B13 r_13.length c13)) ?_
    obtain ⟨⟨r_16,r_17⟩,hc7,hF5⟩:=bI hF5
    refine sc 124 rfl rfl (yc Tg (Ww r_10 r_13 B10 c10 r_10.length B13 c13 r_13.length _ rfl hq1 rfl hq2 (hS30.inn0 [(true,1),(true,0)] rfl) hc7)) ?_
    rintro _ w_23 ⟨B15,c15,rfl,hd6⟩
    have hS31:=hS30.out0 hd6
    have hS31:ST w0 [] _ [O0,O2,O1,O3,O4,O5,O6,O9,O10,O7,O12,O14,O15,⟨aD b6,25,V32,2⟩,⟨aD b7,28,V29,2⟩,⟨B14,73,(r_14.flatMap eN0),c14*3⟩,⟨B15,73,(r_16.flatMap eN0),c15*3⟩] [R24,R23,R22,R21,R20,R19,R18]:=hS31
    refine sQ 121 (ym (.tuple #[.slice B15 r_16.length c15,.bool r_17]))<|sQ 125 (ye (.slice B15 r_16.length c15))<|sQ 126 (ye (.bool r_17))<|sQ 20 (yg (.slice B15 r_16.length c15))<|sQ 21 (yg (.bool r_17)) (rn (cq (cq ?_)))
    obtain ⟨r_18,hc8,hF5⟩:=bI hF5
    obtain ⟨r_19,hc9,hF5⟩:=bI hF5
    refine ra_start (hS31.se [0,1,2,3,4,5,6,7,8,9,10,11,12,13,14,15,16]).fn (by kernel_rfl) ?_
    have hS34:=hS31.drew
    have hQ1:=hS34.se [0,1,2,3,4,5,6,7,8,9,10,11,12,13,14,15,16]
    refine rq 0 127 rfl hQ1 (fun _ q=>(ym (.bool r_15)))<|rq 1 128 rfl hQ1 (fun _ q=>(ym (.bool r_17)))<|rq 2 129 rfl hQ1 (fun _ q=>(Y_bne (p:=r_15) (q:=r_17) IT rfl rfl rfl))<|rq 3 130 rfl hQ1 (fun _ q=>(ym (.bool (!(r_15==r_17)))))<|rG 4 131 rfl rfl rfl (uF_ 130) hQ1 (fun hg13 _ q=>(ym (.slice B14 r_14.length c14))) ?_
    refine rG 5 132 rfl rfl rfl (uF_ 130) hQ1 (fun hg14 _ q=>(Y_len K12 rfl (gv_of hg14)))<|rG 6 133 rfl rfl rfl (uF_ 130) hQ1 (fun hg15 _ q=>(ym (.slice B15 r_16.length c15)))<|rG 7 134 rfl rfl rfl (uF_ 130) hQ1 (fun hg16 _ q=>(Y_len K12 rfl (gv_of hg16)))<|rG 8 135 rfl rfl rfl (uF_ 130) hQ1 (fun hg17 _ q=>(Y_ne rfl (gv_of hg17) (gv_of hg17)))<|rq 9 136 rfl hQ1 (fun _ q=>yO) ?_
    refine rq 10 137 rfl hQ1 (fun _ q=>(ym (.bool ((!(r_15==r_17))||((r_14.length:Int) != (r_16.length:Int))))))<|rG 11 138 rfl rfl rfl (uF_ 137) hQ1 (fun hg18 _ q=>(yw 0 K13 K8 (ST.c q 9)))<|rG 13 140 rfl rfl rfl (uF_ 137) hQ1 (fun hg20 _ q=>(yw 0 K13 K8 (ST.c q 9))) ?_
    refine rA [12] ?_
    refine ra_gc 139 (i:=12) (B:=(!((!(r_15==r_17))||((r_14.length:Int) != (r_16.length:Int))))) (v:=.bool r_18) (F:=hS34.fn) rfl rfl rfl (uF_ 137) hS34 (fun hg19=>(yc Jv (CV.mono (J5 r_8 B8 c8 r_8.Edges.length _ rfl (hS34.inn0 [(false,7)] rfl) (gb_inv hc8 hg19)) (by rintro _ _ ⟨rfl,h⟩; exact ⟨rfl,hS34.out00 h⟩)) rfl (mc (gv_of hg19) mn))) ?_ ?_
    ·rintro w_24 hS35
     refine ⟨(hS35.se [0,1,2,3,4,5,6,7,8,9,10,11,12,13,14,15,16]),?_⟩
     refine rA [14] ?_
     refine ra_gc 141 (i:=14) (B:=(!((!(r_15==r_17))||((r_14.length:Int) != (r_16.length:Int))))) (v:=.bool r_19) (F:=hS35.fn) rfl rfl rfl (uF_ 137) hS35 (fun hg21=>(yc QZ (CV.mono (RK r_8 B8 c8 r_8.Edges.length _ rfl (hS35.inn0 [(false,7)] rfl) (gb_inv hc9 hg21)) (by rintro _ _ ⟨rfl,h⟩; exact ⟨rfl,hS35.out00 h⟩)) rfl (mc (gv_of hg21) mn))) ?_ ?_
     ·rintro w_25 hS36
      have hQ2:=hS36.se [0,1,2,3,4,5,6,7,8,9,10,11,12,13,14,15,16]
      refine ⟨hQ2,?_⟩
      refine rG 15 142 rfl rfl rfl (uF_ 137) hQ2 (fun hg22 _ q=>(Y_bne (p:=r_18) (q:=r_19) IT rfl (gv_of hg22) (gv_of hg22)))<|rq 16 143 rfl hQ2 (fun _ q=>yO) ?_
      refine ra_done (by kernel_rfl) ?_
      refine cw_cond rfl (fun hb4=>?_) (fun hb4=>?_)
      ·skip
       have hF8:=ct hF5 hb4
       refine cq (cr ?_)
       refine sQ 4 (yg (.bool false)) (rn (ct_ ?_))
       obtain rfl:=sI hF8
       exact e1 Tryz.results3 (hS36.sN [])
      ·skip
       have hF9:=cf' hF5 hb4
       refine cw_skip (cq (cq (cr ?_)))
       refine sQ 144 (ym (.bool r_4) rfl (hf.g 8 5))<|sQ 145 yn (rn ?_)
       refine cw_cond rfl (fun hb5=>?_) (fun hb5=>?_)
       ·skip
        have hF10:=ct hF9 hb5
        refine cq (cr ?_)
        refine sQ 4 (yg (.bool true)) (rn (ct_ ?_))
        obtain rfl:=sI hF10
        exact e1 Tryz.results3 (hS36.sN [])
       ·skip
        have hF11:=cf' hF9 hb5
        refine cw_skip (cq (cr ?_))
        refine sQ 147 (yw 0 K13 K8 (hS36.c 0) rfl (hf.g 5 2))<|sQ 148 (yw 0 K10 K3 (hS36.c 1) rfl (hf.g 6 3))<|sQ 149 (yd (aD b2) 0 0 K90 K16 rfl (hf.g 7 4))<|sQ 150 (yz 0 K23 (hS36.c 2)) ?_
        obtain ⟨⟨r_20,r_21⟩,hc10,hF11⟩:=bI hF11
        refine sc 151 rfl rfl (yc Pm (NR r_1 r_2 r_3.Start B2 c2 r_1.Edges.length B3 c3 r_2.Gates.length B4 c4 r_3.Start.length _ rfl hcap rfl hcap1 rfl (hS36.lencap (i:=3) rfl (fm_lenn (l:=r_3.Start) encI_len rfl) rfl rfl) (hS36.inn0 [(true,4),(true,3),(false,3)] rfl) hc10)) ?_
        rintro _ w_26 ⟨rfl,hd7⟩
        have hS37:=hS36.out00 hd7
        refine sQ 146 (ym (.tuple #[vi r_20,.bool r_21]))<|sQ 152 (ye (vi r_20))<|sQ 153 (ye (.bool r_21))<|sQ 22 (yg (vi r_20))<|sQ 23 (yg (.bool r_21)) (rn (cq (cr ?_)))
        refine sQ 24 (yg (.slice none 0 0)) (rn (cq (cq (cr ?_))))
        refine sQ 25 (yg (vi 0)) (rn ?_)
        obtain ⟨hN1,hF11⟩:=chk_inv hF11
        obtain ⟨z1,hz1,hF12⟩:=bI hF11
        have hS39:=hS37.addNil 3
        refine cw_block ?_
        refine cw_loop (fun k f w=>∃ (q:Nat) (first:List Int) (B16:Option Addr) (c16:Nat),FF f [(5,pt (aD b) 0),(6,pt (aD b1) 0),(7,pt (aD b2) 0),(22,vi r_20),(23,.bool r_21),(24,.slice B16 first.length c16),(25,vi (q:Int))]∧ST w0 [] w [O0,O2,O1,O3,⟨B16,3,(first.flatMap encI),c16*1⟩] [R24,R23,R22,R21,R20,R19,R18]∧q+k=r_2.Qubits.toNat∧forN Ge k q first=some z1) r_2.Qubits.toNat ⟨0,[],none,0,(hf.a 5 2 (hf.a 6 3 (hf.a 7 4 (fc rfl (fc rfl (fc rfl (fc rfl fn_))))))),(hS39.sel [0,1,2,3,17] rfl rfl),Nat.zero_add _,hz1⟩ ?_
        rintro K11 f w ⟨q,first,B16,c16,hf1,hS38,hik1,hL2⟩
        refine cq (cq (cr ?_))
        refine sQ 154 (ym (vi (q:Int)) rfl (hf1.g 25 6))<|sQ 155 (yd (aD b1) 0 0 K42 K0 rfl (hf1.g 6 1))<|sQ 156 (yz 0 K1 (hS38.c 1))<|sQ 157 zL (rn ?_)
        refine cw_cond rfl (fun hlt2=>?_) (fun hlt2=>?_)
        ·skip
         have hlt3:q<r_2.Qubits.toNat:=by have h:=of_decide_eq_true hlt2; omega
         obtain ⟨K22,rfl⟩:∃ k2,K11=k2+1:=⟨K11-1,by omega⟩
         obtain ⟨y1,hb6,hL3⟩:=forN_go hL2
         unfold Ge at hb6
         refine cw_skip (cq (cw_block (cr ?_)))
         refine sQ 160 (ym (.slice B16 first.length c16) rfl (hf1.g 24 5))<|sQ 161 (ym (vi (q:Int)) rfl (hf1.g 25 6)) ?_
         refine sS 162 (yF 1 1 [vi (q:Int)] 1 hS38 K5 K0 K52 rfl (mpc rfl mpn)) ?_
         rintro _ w_27 ⟨b8,rfl,hS40⟩
         have hS40:ST w0 [] _ [O0,O2,O1,O3,⟨B16,3,(first.flatMap encI),c16*1⟩,⟨aD b8,3,([(q:Int)].flatMap encI),1*1⟩] [R24,R23,R22,R21,R20,R19,R18]:=hS40
         obtain ⟨hap,hb6⟩:=chk_inv hb6
         refine sS 163 (aP 1 8 4 first [(q:Int)] hS40 K5 K0 K83 K75 encI_len encI_one (hS40.c 5) hap) ?_
         rintro _ w_28 ⟨B17,c17,rfl,hS41⟩
         refine sQ 24 (yg (.slice B17 ((first++[(q:Int)]).length) c17)) (rn (cr ?_))
         refine sQ 158 (ym (vi (q:Int)) rfl (hf1.g 25 6))<|sQ 159 zP<|sQ 25 (yg (vi (i64.wrap ((q:Int)+1)))) (rn ?_)
         obtain rfl:=sI hb6
         exact ⟨K22,Nat.lt_succ_self _,q+1,(first++[(q:Int)]),B17,c17,(hf1.a 5 0 (hf1.a 6 1 (hf1.a 7 2 (hf1.a 22 3 (hf1.a 23 4 (fc rfl (fc (congrArg (Value.int .i64) (wr_succ hlt3 hN1)) fn_))))))),(hS41.sel [0,1,2,3,4] rfl rfl),(by omega),hL3⟩
        ·skip
         obtain rfl:K11=0:=by have h:=of_decide_eq_false hlt2; omega
         refine cw_exit rfl ?_
         obtain rfl:=sI hL2
         refine cq (cr ?_)
         refine sQ 165 (yw 0 K13 K8 (hS38.c 0) rfl (hf1.g 5 0))<|sQ 166 (yw 0 K10 K3 (hS38.c 1) rfl (hf1.g 6 1))<|sQ 167 (ym (.slice B16 first.length c16) rfl (hf1.g 24 5)) ?_
         obtain ⟨⟨r_22,r_23⟩,hc11,hF12⟩:=bI hF12
         refine sc 168 rfl rfl (yc Pm (NR r_1 r_2 first B2 c2 r_1.Edges.length B3 c3 r_2.Gates.length B16 c16 first.length _ rfl hcap rfl hcap1 rfl (hS38.lencap (i:=4) rfl (fm_lenn (l:=first) encI_len rfl) rfl rfl) (hS38.inn0 [(true,4),(true,3),(false,4)] rfl) hc11)) ?_
         rintro _ w_29 ⟨rfl,hd8⟩
         have hS42:=hS38.out00 hd8
         refine sQ 164 (ym (.tuple #[vi r_22,.bool r_23]))<|sQ 169 (ye (vi r_22))<|sQ 170 (ye (.bool r_23))<|sQ 26 (yg (vi r_22))<|sQ 27 (yg (.bool r_23)) (rn (cq (cq (cr ?_))))
         refine sQ 171 (ym (.bool r_21) rfl (hf1.g 23 4))<|sQ 172 yn<|sQ 173 (ym (.bool (!r_21))) ?_
         refine sgq 174 rfl rfl (uF_ 173) (fun hg23=>(ym (vi r_20) rfl (hf1.g 22 3))) ?_
         refine sgq 175 rfl rfl (uF_ 173) (fun hg24=>(yw 0 K46 K25 (hS42.c 2) rfl (hf1.g 7 2))) ?_
         obtain ⟨r_24,hc12,hF12⟩:=bI hF12
         refine sgc 176 (v:=vi r_24) (F:=hS42.fn) rfl rfl (uF_ 173) hS42 (fun hg25=>(yc QD (CV.mono (Vc r_3 B4 c4 r_3.Start.length B5 c5 r_3.Steps.length _ rfl rfl (hS42.inn0 [(false,3),(true,2)] rfl) (gb_inv hc12 hg25)) (by rintro _ _ ⟨rfl,h⟩; exact ⟨rfl,hS42.out00 h⟩)) rfl (mc (gv_of hg25) mn))) ?_
         rintro w_30 hS43
         refine sgq 177 rfl rfl (uF_ 173) (fun hg26=>(Y_ne rfl (gv_of hg26) (gv_of hg26))) ?_
         refine sQ 178 yO<|sQ 179 (ym (.bool ((!r_21)||(r_20 != r_24)))) ?_
         refine sgq 180 rfl rfl (uF_ 179) (fun hg27=>(ym (.bool r_23))) ?_
         refine sgq 181 rfl rfl (uF_ 179) (fun hg28=>(ym (.bool r_23) rfl (gv_of hg28))) ?_
         refine sgq 182 rfl rfl (uG_ 181) (fun hg29=>(ym (vi r_22))) ?_
         refine sgq 183 rfl rfl (uG_ 181) (fun hg30=>(ym (vi r_20) rfl (hf1.g 22 3))) ?_
         refine sgq 184 rfl rfl (uG_ 181) (fun hg31=>(zL rfl (gv_of hg31) (gv_of hg31))) ?_
         refine sgq 185 rfl rfl (uF_ 179) (fun hg32=>(yA rfl (gv_of hg32) (gv_and hg32))) ?_
         refine sQ 186 yO (rn ?_)
         refine cw_cond rfl (fun hb7=>?_) (fun hb7=>?_)
         ·skip
          have hF13:=ct hF12 hb7
          refine cq (cr ?_)
          refine sQ 4 (yg (.bool false)) (rn (ct_ ?_))
          obtain rfl:=sI hF13
          exact e1 Tryz.results3 (hS43.sN [])
         ·skip
          have hF14:=cf' hF12 hb7
          refine cw_skip (cq (cq (cr ?_)))
          refine sQ 187 (yd (aD b) 0 0 K45 K0 rfl (hf1.g 5 0))<|sQ 188 (yz 0 K1 (hS43.c 0))<|sQ 189 (Y_gt rfl rfl rfl)<|sQ 190 (ym (.bool (decide (4<r_1.Nodes)))) ?_
          refine sgq 191 rfl rfl (uF_ 190) (fun hg33=>(yd (aD b) 0 0 K45 K0 rfl (hf1.g 5 0))) ?_
          refine sgq 192 rfl rfl (uF_ 190) (fun hg34=>(yz 0 K1 (hS43.c 0) rfl (gv_of hg34))) ?_
          refine sgq 193 rfl rfl (uF_ 190) (fun hg35=>(yd (aD b1) 0 0 K42 K0 rfl (hf1.g 6 1))) ?_
          refine sgq 194 rfl rfl (uF_ 190) (fun hg36=>(yz 0 K1 (hS43.c 1) rfl (gv_of hg36))) ?_
          refine sgq 195 rfl rfl (uF_ 190) (fun hg37=>(zP rfl (gv_of hg37))) ?_
          refine sgq 196 rfl rfl (uF_ 190) (fun hg38=>(Y_gt rfl (gv_of hg38) (gv_of hg38))) ?_
          refine sQ 197 yO (rn ?_)
          refine cw_cond rfl (fun hb8=>?_) (fun hb8=>?_)
          ·skip
           have hF15:=ct hF14 hb8
           refine cq (cr ?_)
           refine sQ 4 (yg (.bool true)) (rn (ct_ ?_))
           obtain rfl:=sI hF15
           exact e1 Tryz.results3 (hS43.sN [])
          ·skip
           have hF16:=cf' hF14 hb8
           refine cw_skip (cq (cr ?_))
           refine sQ 199 (yw 0 K13 K8 (hS43.c 0) rfl (hf1.g 5 0))<|sQ 200 (yw 0 K10 K3 (hS43.c 1) rfl (hf1.g 6 1))<|sQ 201 (yw 0 K46 K25 (hS43.c 2) rfl (hf1.g 7 2)) ?_
           obtain ⟨⟨r_25,r_26⟩,hc13,hF16⟩:=bI hF16
           refine sc 202 rfl rfl (yc RI (UR r_1 r_2 r_3 B2 c2 r_1.Edges.length B3 c3 r_2.Gates.length B4 c4 r_3.Start.length B5 c5 r_3.Steps.length _ rfl hcap rfl hcap1 rfl (hS43.lencap (i:=3) rfl (fm_lenn (l:=r_3.Start) encI_len rfl) rfl rfl) rfl (hS43.inn0 [(true,4),(true,3),(false,3),(true,2)] rfl) hc13)) ?_
           rintro _ w_31 ⟨B18,c18,rfl,hd9⟩
           have hS44:=hS43.out0 hd9
           let O8:Ob:=⟨B16,3,(first.flatMap encI),c16*1⟩
           let O13:Ob:=⟨B18,73,(r_25.Gates.flatMap eN0),c18*3⟩
           have hS44:ST w0 [] _ [O0,O2,O1,O3,O8,O13] [R24,R23,R22,R21,R20,R19,R18]:=hS44
           let V30:List Value:=[vi r_25.Qubits,.slice B18 r_25.Gates.length c18]
           refine sQ 198 (ym (.tuple #[.agg V30.toArray,.bool r_26]))<|sQ 203 (ye (.agg V30.toArray))<|sQ 204 (ye (.bool r_26)) ?_
           refine sS 28 (yN V25 2 hS44 K27) ?_
           rintro _ w_32 ⟨b9,rfl,hS45⟩
           refine s0 (yK 6 2 0 hS45 K3) ?_
           rintro _ w_33 ⟨rfl,hS46⟩
           refine sQ 29 (yg (.bool r_26)) (rn (cq (cr ?_)))
           refine sQ 206 (yw 0 K13 K8 (hS46.c 0) rfl (hf1.g 5 0))<|sQ 207 (yw 0 K10 K3 (hS46.c 1) rfl (hf1.g 6 1))<|sQ 208 (yw 0 K46 K25 (hS46.c 2) rfl (hf1.g 7 2)) ?_
           obtain ⟨⟨r_27,r_28⟩,hc14,hF16⟩:=bI hF16
           refine sc 209 rfl rfl (yc Sv (Qu r_1 r_2 r_3 B2 c2 r_1.Edges.length B3 c3 r_2.Gates.length B4 c4 r_3.Start.length B5 c5 r_3.Steps.length _ rfl hcap rfl hcap1 rfl (hS46.lencap (i:=3) rfl (fm_lenn (l:=r_3.Start) encI_len rfl) rfl rfl) rfl (hS46.inn0 [(true,4),(true,3),(false,3),(true,2)] rfl) hc14)) ?_
           rintro _ w_34 ⟨B19,c19,rfl,hd10⟩
           have hS47:=hS46.out0 hd10
           refine sQ 205 (ym (.tuple #[.slice B19 r_27.length c19,.bool r_28]))<|sQ 210 (ye (.slice B19 r_27.length c19))<|sQ 211 (ye (.bool r_28))<|sQ 30 (yg (.slice B19 r_27.length c19))<|sQ 31 (yg (.bool r_28)) (rn (cq (cr ?_)))
           refine sQ 213 (ym (.slice B19 r_27.length c19))<|sQ 214 (yd (aD b2) 0 0 K90 K16 rfl (hf1.g 7 2))<|sQ 215 (yz 0 K23 (hS47.c 2)) ?_
           obtain ⟨⟨r_29,r_30⟩,hc15,hF16⟩:=bI hF16
           refine sc 216 rfl rfl (yc LQ (Nm r_27 r_3.Start B19 c19 r_27.length B4 c4 r_3.Start.length _ rfl (hS47.lencap (i:=7) rfl (fm_lenn (l:=r_27) encI_len rfl) rfl rfl) rfl (hS47.lencap (i:=3) rfl (fm_lenn (l:=r_3.Start) encI_len rfl) rfl rfl) (hS47.inn0 [(false,7),(false,3)] rfl) hc15)) ?_
           rintro _ w_35 ⟨B20,c20,rfl,hd11⟩
           have hS48:=hS47.out0 hd11
           let O11:Ob:=⟨aD b9,28,V30,2⟩
           let O16:Ob:=⟨B19,3,(r_27.flatMap encI),c19*1⟩
           let O17:Ob:=⟨B20,73,(r_29.flatMap eN0),c20*3⟩
           have hS48:ST w0 [] _ [O0,O2,O1,O3,O8,O13,O11,O16,O17] [R24,R23,R22,R21,R20,R19,R18]:=hS48
           refine sQ 212 (ym (.tuple #[.slice B20 r_29.length c20,.bool r_30]))<|sQ 217 (ye (.slice B20 r_29.length c20))<|sQ 218 (ye (.bool r_30))<|sQ 32 (yg (.slice B20 r_29.length c20))<|sQ 33 (yg (.bool r_30)) (rn (cq (cq (cr ?_))))
           refine sQ 219 (ym (.bool r_26))<|sQ 220 yn<|sQ 221 (ym (.bool (!r_26))) ?_
           refine sgq 222 rfl rfl (uF_ 221) (fun hg39=>(ym (.bool r_28))) ?_
           refine sgq 223 rfl rfl (uF_ 221) (fun hg40=>(yn rfl (gv_of hg40))) ?_
           refine sQ 224 yO<|sQ 225 (ym (.bool ((!r_26)||(!r_28)))) ?_
           refine sgq 226 rfl rfl (uF_ 225) (fun hg41=>(ym (.bool r_30))) ?_
           refine sgq 227 rfl rfl (uF_ 225) (fun hg42=>(yn rfl (gv_of hg42))) ?_
           refine sQ 228 yO (rn ?_)
           refine cw_cond rfl (fun hb9=>?_) (fun hb9=>?_)
           ·skip
            have hF17:=ct hF16 hb9
            refine cq (cr ?_)
            refine sQ 4 (yg (.bool false)) (rn (ct_ ?_))
            obtain rfl:=sI hF17
            exact e1 Tryz.results3 (hS48.sN [])
           ·skip
            have hF18:=cf' hF16 hb9
            refine cw_skip (cq (cr ?_))
            refine sQ 230 (yw 0 K10 K3 (hS48.c 6))<|sQ 231 (yd (aD b) 0 0 K45 K0 rfl (hf1.g 5 0))<|sQ 232 (yz 0 K1 (hS48.c 0))<|sQ 233 (ym (.slice B20 r_29.length c20))<|sQ 234 (Y_buildS (zs:=V25) (vs:=[(0,vi r_1.Nodes),(1,.slice B20 r_29.length c20)]) (cs:=[vi r_1.Nodes,.slice B20 r_29.length c20]) K81 K27 rfl (mpc rfl (mpc rfl mpn)) rfl) ?_
            obtain ⟨⟨r_31,r_32⟩,hc16,hF18⟩:=bI hF18
            refine sc 235 rfl rfl (yc QC (Tc r_25 (Ad.mk r_1.Nodes r_29) B18 c18 r_25.Gates.length B20 c20 r_29.length _ rfl rfl (hS48.inn0 [(false,5),(false,8)] rfl) hc16)) ?_
            rintro _ w_36 ⟨B21,c21,rfl,hd12⟩
            have hS49:=hS48.out0 hd12
            let V26:List Value:=[vi r_31.Qubits,.slice B21 r_31.Gates.length c21]
            refine sQ 229 (ym (.tuple #[.agg V26.toArray,.bool r_32]))<|sQ 236 (ye (.agg V26.toArray))<|sQ 237 (ye (.bool r_32)) ?_
            refine sS 34 (yN V25 2 hS49 K27) ?_
            rintro _ w_37 ⟨b10,rfl,hS50⟩
            refine s0 (yK 10 2 0 hS50 K3) ?_
            rintro _ w_38 ⟨rfl,hS51⟩
            refine sQ 35 (yg (.bool r_32)) (rn (cq (cr ?_)))
            refine sQ 239 (yw 0 K10 K3 (hS51.c 1) rfl (hf1.g 6 1))<|sQ 240 (yd (aD b2) 0 0 K90 K16 rfl (hf1.g 7 2))<|sQ 241 (yz 0 K23 (hS51.c 2))<|sQ 242 (yd (aD b) 0 0 K45 K0 rfl (hf1.g 5 0))<|sQ 243 (yz 0 K1 (hS51.c 0)) ?_
            obtain ⟨⟨r_33,r_34⟩,hc17,hF18⟩:=bI hF18
            refine sc 244 rfl rfl (yc QH (Sj r_2 r_3.Start r_1.Nodes B3 c3 r_2.Gates.length B4 c4 r_3.Start.length _ rfl rfl (hS51.lencap (i:=3) rfl (fm_lenn (l:=r_3.Start) encI_len rfl) rfl rfl) (hS51.inn0 [(true,3),(false,3)] rfl) hc17)) ?_
            rintro _ w_39 ⟨B22,c22,rfl,hd13⟩
            have hS52:=hS51.out0 hd13
            have hS52:ST w0 [] _ [O0,O2,O1,O3,O8,O13,O11,O16,O17,⟨B21,73,(r_31.Gates.flatMap eN0),c21*3⟩,⟨aD b10,28,V26,2⟩,⟨B22,73,(r_33.Gates.flatMap eN0),c22*3⟩] [R24,R23,R22,R21,R20,R19,R18]:=hS52
            let V31:List Value:=[vi r_33.Qubits,.slice B22 r_33.Gates.length c22]
            refine sQ 238 (ym (.tuple #[.agg V31.toArray,.bool r_34]))<|sQ 245 (ye (.agg V31.toArray))<|sQ 246 (ye (.bool r_34)) ?_
            refine sS 36 (yN V25 2 hS52 K27) ?_
            rintro _ w_40 ⟨b11,rfl,hS53⟩
            refine s0 (yK 12 2 0 hS53 K3) ?_
            rintro _ w_41 ⟨rfl,hS54⟩
            refine sQ 37 (yg (.bool r_34)) (rn (cq (cr ?_)))
            refine sQ 248 (yw 0 K10 K3 (hS54.c 10))<|sQ 249 (yw 0 K10 K3 (hS54.c 12)) ?_
            obtain ⟨⟨r_35,r_36⟩,hc18,hF18⟩:=bI hF18
            refine sc 250 rfl rfl (yc QB (S7 r_31 r_33 B21 c21 r_31.Gates.length B22 c22 r_33.Gates.length _ rfl rfl (hS54.inn0 [(false,9),(false,11)] rfl) hc18)) ?_
            rintro _ w_42 ⟨rfl,hd14⟩
            have hS55:=hS54.out00 hd14
            refine sQ 247 (ym (.tuple #[.bool r_35,.bool r_36]))<|sQ 251 (ye (.bool r_35))<|sQ 252 (ye (.bool r_36))<|sQ 38 (yg (.bool r_35))<|sQ 39 (yg (.bool r_36)) (rn (cq (cr ?_)))
            refine sQ 254 (yw 0 K13 K8 (hS55.c 0) rfl (hf1.g 5 0))<|sQ 255 (yw 0 K10 K3 (hS55.c 6)) ?_
            obtain ⟨⟨r_37,r_38⟩,hc19,hF18⟩:=bI hF18
            refine sc 256 rfl rfl (yc Up (QQ r_1 r_25 B2 c2 r_1.Edges.length B18 c18 r_25.Gates.length _ rfl rfl (hS55.inn0 [(true,4),(false,5)] rfl) hc19)) ?_
            rintro _ w_43 ⟨rfl,hd15⟩
            have hS56:=hS55.out00 hd15
            have hS56:ST w0 [] _ [O0,O2,O1,O3,O8,O13,O11,O16,O17,⟨B21,73,(r_31.Gates.flatMap eN0),c21*3⟩,⟨aD b10,28,V26,2⟩,⟨B22,73,(r_33.Gates.flatMap eN0),c22*3⟩,⟨aD b11,28,V31,2⟩] [R24,R23,R22,R21,R20,R19,R18]:=hS56
            refine sQ 253 (ym (.tuple #[.bool r_37,.bool r_38]))<|sQ 257 (ye (.bool r_37))<|sQ 258 (ye (.bool r_38))<|sQ 40 (yg (.bool r_37))<|sQ 41 (yg (.bool r_38)) (rn (cq (cr ?_)))
            refine sQ 259 (ym (.bool r_32))<|sQ 260 (ym (.bool r_32)) ?_
            refine sgq 261 rfl rfl (uT_ 260) (fun hg43=>(ym (.bool r_34))) ?_
            refine sQ 262 yA<|sQ 263 (ym (.bool (r_32&&r_34))) ?_
            refine sgq 264 rfl rfl (uT_ 263) (fun hg44=>(ym (.bool r_36))) ?_
            refine sQ 265 yA<|sQ 266 (ym (.bool ((r_32&&r_34)&&r_36))) ?_
            refine sgq 267 rfl rfl (uT_ 266) (fun hg45=>(ym (.bool r_35))) ?_
            refine sQ 268 yA<|sQ 269 (ym (.bool (((r_32&&r_34)&&r_36)&&r_35))) ?_
            refine sgq 270 rfl rfl (uT_ 269) (fun hg46=>(ym (.bool r_38))) ?_
            refine sQ 271 yA<|sQ 272 (ym (.bool ((((r_32&&r_34)&&r_36)&&r_35)&&r_38))) ?_
            refine sgq 273 rfl rfl (uT_ 272) (fun hg47=>(ym (.bool r_37))) ?_
            refine sQ 274 yA<|sQ 4 (yg (.bool (((((r_32&&r_34)&&r_36)&&r_35)&&r_38)&&r_37))) (rn (ct_ ?_))
            obtain rfl:=sI hF18
            exact e1 Tryz.results3 (hS56.sN [])
     exact aN
    exact aN
end Go.VK
