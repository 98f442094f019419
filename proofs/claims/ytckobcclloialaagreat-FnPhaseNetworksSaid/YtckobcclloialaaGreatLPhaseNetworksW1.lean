/- Walks: each Go function returns what its Lean function says. By program. -/
import Derived.Test.YtckobcclloialaaGreatLPhaseNetworksFa
import Derived.Test.YtckobcclloialaaGreatLPhaseNetworksShelf
import Derived.Test.YtckobcclloialaaGreatLibQ
import Derived.Test.YtckobcclloialaaGreatLibU
import Derived.Test.YtckobcclloialaaGreatLibZ
import Derived.Test.YtckobcclloialaaGreatLibY
set_option linter.unusedVariables false
set_option maxRecDepth 100000
set_option maxHeartbeats 4000000
namespace Go.VK
open Go.RowKit
open Go.Proofs
open Go.IntKind
attribute [local irreducible] CW RW RA CV Y Yw Yc Ys RetOf
attribute [local irreducible] CR Am BT BG AQ AA A9 CS Ej Bl Dy Dv Fs Dd A2 Cb BL CK Db AL BW Ce Cr AO AD Ei Eo Ck CY CC Dh D5 BJ Fc DZ CB AW Bu E3
theorem Ig (c:Ac) (B:Option Addr) (B1:Option Addr) (c1 n:Nat) (w0:World) (hn:c.code.length=n) (hS:ST w0 (bl [⟨B,74,[.slice B1 n c1,vi c.at_,.int .u64 c.seed],3⟩]) w0 [⟨B,74,[.slice B1 n c1,vi c.at_,.int .u64 c.seed],3⟩] [⟨B1,(c.code.flatMap enc_u8)⟩]) {r_:Int} {m:Ac} (hF:CR c=some (r_,m)) :
  CV Tryz.prog 91 #[pt B 0] w0 (fun v w'=>v=vi r_∧ST w0 (bl [⟨B,74,[.slice B1 n c1,vi c.at_,.int .u64 c.seed],3⟩]) w' [⟨B,74,[.slice B1 n c1,vi m.at_,.int .u64 m.seed],3⟩] []):=by
 subst hn
 unfold CR at hF
 refine cv_of_cw 62 Tryz.func91 rfl Tryz.ntmps91 rfl ?_
 refine cq (cr ?_)
 refine sQ 2 (yg (vi 0)) (rn (cq (cr ?_)))
 refine sQ 3 (yg (vi 0)) (rn (cq ?_))
 obtain ⟨z,hz,hF1⟩:=bI hF
 let V2:List Value:=[.slice B1 c.code.length c1,vi c.at_,.int .u64 c.seed]
 let O0:Ob:=⟨B,74,V2,3⟩
 refine cw_mid (fun f w=>∃ (b:Int),b=z∧FF f [(0,pt B 0),(3,vi b)]∧ST w0 (bl [O0]) w [O0] [⟨B1,(c.code.flatMap enc_u8)⟩]) ?_ ?_
 ·skip
  refine cq ?_
  refine ra_start (hS.se [0]).fn (by kernel_rfl) ?_
  have hS2:=hS.drew
  have hQ0:=hS2.se [0]
  refine rq 0 4 rfl hQ0 (fun w' hw'=>(ym (pt B 0)))<|rq 1 5 (v:=pt B 0) rfl hQ0 (fun w' hw'=>(Y_nilCheck (B:=B) (i:=0) rfl rfl))<|rq 2 6 (v:=pt B 1) rfl hQ0 (fun w' hw'=>(yd B 0 0 K80 K0))<|rq 3 7 rfl hQ0 (fun w' hw'=>(yl B 1 V2 (vi c.at_) K1 (ST.cf hw' (i:=0) rfl)))<|rq 4 8 rfl hQ0 (fun w' hw'=>(ym (pt B 0))) ?_
  refine rq 5 9 (v:=pt B 0) rfl hQ0 (fun w' hw'=>(Y_nilCheck (B:=B) (i:=0) rfl rfl))<|rq 6 10 (v:=pt B 0) rfl hQ0 (fun w' hw'=>(yd B 0 0 K98 K99))<|rq 7 11 rfl hQ0 (fun w' hw'=>(yl B 0 V2 (.slice B1 c.code.length c1) Fh (ST.cf hw' (i:=0) rfl)))<|rq 8 12 (v:=vi (c.code.length:Int)) rfl hQ0 (fun w' hw'=>(Y_len (B:=B1) (m:=c.code.length) (c:=c1) K81 rfl rfl))<|rq 9 13 rfl hQ0 (fun w' hw'=>(yL c.at_ (c.code.length:Int))) ?_
  refine ra_done (by kernel_rfl) ?_
  refine cw_cond (b:=(decide (c.at_<(c.code.length:Int)))) rfl (fun hb=>?_) (fun hb=>?_)
  ·skip
   have hF2:=ct hz hb
   obtain ⟨x,hx,hF2⟩:=bI hF2
   refine ra_start hQ0.fn (by kernel_rfl) ?_
   have hS3:=hS2.drew
   have hQ1:=hS3.se [0]
   refine rq 0 14 rfl hQ1 (fun w' hw'=>(ym (pt B 0)))<|rq 1 15 (v:=pt B 0) rfl hQ1 (fun w' hw'=>(Y_nilCheck (B:=B) (i:=0) rfl rfl))<|rq 2 16 (v:=pt B 0) rfl hQ1 (fun w' hw'=>(yd B 0 0 K98 K99))<|rq 3 17 rfl hQ1 (fun w' hw'=>(yl B 0 V2 (.slice B1 c.code.length c1) Fh (ST.cf hw' (i:=0) rfl)))<|rq 4 18 rfl hQ1 (fun w' hw'=>(ym (pt B 0))) ?_
   refine rq 5 19 (v:=pt B 0) rfl hQ1 (fun w' hw'=>(Y_nilCheck (B:=B) (i:=0) rfl rfl))<|rq 6 20 (v:=pt B 1) rfl hQ1 (fun w' hw'=>(yd B 0 0 K80 K0))<|rq 7 21 rfl hQ1 (fun w' hw'=>(yl B 1 V2 (vi c.at_) K1 (ST.cf hw' (i:=0) rfl)))<|rq 8 22 (v:=pt B1 (c.at_.toNat*1)) rfl hQ1 (fun w' hw'=>(yI B1 c.at_ K81 Hk (gi_isSome enc_u8_len rfl (ST.rf hw' (i:=0) rfl) hx) (getI_nn hx) (getI_ltI hx rfl)))<|rq 9 23 rfl hQ1 (fun w' hw'=>(yl B1 (c.at_.toNat*1) (c.code.flatMap enc_u8) (.int .u8 x) LD (ST.rf hw' (i:=0) rfl) rfl rfl (gi_at0 enc_u8_len hx rfl))) ?_
   refine rq 10 24 (v:=vi (i64.wrap x)) rfl hQ1 (fun w' hw'=>(Y_conv (k:=.u8) (a:=x) (T:=5) (T':=3) PK K54 rfl rfl))<|rq 11 3 rfl hQ1 (fun w' hw'=>(yg (vi (i64.wrap x)))) ?_
   refine ra_done (by kernel_rfl) ?_
   exact ⟨(i64.wrap x),(sI hF2),(fc rfl (fc rfl fn_)),(hS3.sel [0] rfl rfl)⟩
  ·skip
   have hF3:=cf' hz hb
   refine cw_skip ?_
   exact ⟨0,(sI hF3),(fc rfl (fc rfl fn_)),(hS2.sel [0] rfl rfl)⟩
 rintro f w ⟨b,rfl,hf,hS1⟩
 refine cq (cr ?_)
 refine sQ 25 (ym (pt B 0) rfl (hf.g 0 0))<|sQ 26 (Y_nilCheck (B:=B) (i:=0) rfl rfl)<|sQ 27 (yd B 0 0 K80 K0)<|sQ 28 (yl B 1 V2 (vi c.at_) K1 (hS1.c 0))<|sQ 29 (yP c.at_ 1)<|sQ 30 (Y_nilCheck (B:=B) (i:=0) rfl rfl) ?_
 refine sQ 31 (yd B 0 0 K80 K0) ?_
 let V3:List Value:=[.slice B1 c.code.length c1,vi (i64.wrap (c.at_+1)),.int .u64 c.seed]
 refine s0 (yS 0 1 B 74 (vi (i64.wrap (c.at_+1))) [vi (i64.wrap (c.at_+1))] 1 V3 hS1 K0) ?_
 rintro _ w_ ⟨rfl,hS4⟩
 refine rn (cq (cr ?_))
 refine sQ 32 (ym (pt B 0) rfl (hf.g 0 0))<|sQ 33 (ym (pt B 0) rfl (hf.g 0 0))<|sQ 34 (Y_nilCheck (B:=B) (i:=0) rfl rfl)<|sQ 35 (yd B 0 0 Hl K90)<|sQ 36 (yl B 2 V3 (.int .u64 c.seed) Il (hS4.c 0))<|sQ 37 (Y_mul (k:=.u64) (a:=c.seed) (b:=6364136223846793005) rfl rfl rfl) ?_
 refine sQ 38 (ym (vi b) rfl (hf.g 3 1))<|sQ 39 (Y_conv (k:=.i64) (a:=b) (T:=3) (T':=72) K40 Nc rfl rfl)<|sQ 40 (Y_add (k:=.u64) (a:=(IntKind.u64.wrap (c.seed*6364136223846793005))) (b:=(IntKind.u64.wrap b)) rfl rfl rfl)<|sQ 41 (Y_add (k:=.u64) (a:=(IntKind.u64.wrap ((IntKind.u64.wrap (c.seed*6364136223846793005))+(IntKind.u64.wrap b)))) (b:=1442695040888963407) rfl rfl rfl)<|sQ 42 (Y_nilCheck (B:=B) (i:=0) rfl rfl)<|sQ 43 (yd B 0 0 Hl K90) ?_
 let V1:List Value:=[.slice B1 c.code.length c1,vi (i64.wrap (c.at_+1)),.int .u64 (IntKind.u64.wrap ((IntKind.u64.wrap ((IntKind.u64.wrap (c.seed*6364136223846793005))+(IntKind.u64.wrap b)))+1442695040888963407))]
 refine s0 (yS 0 1 B 74 (.int .u64 (IntKind.u64.wrap ((IntKind.u64.wrap ((IntKind.u64.wrap (c.seed*6364136223846793005))+(IntKind.u64.wrap b)))+1442695040888963407))) [.int .u64 (IntKind.u64.wrap ((IntKind.u64.wrap ((IntKind.u64.wrap (c.seed*6364136223846793005))+(IntKind.u64.wrap b)))+1442695040888963407))] 2 V1 hS4 K90) ?_
 rintro _ w_1 ⟨rfl,hS5⟩
 refine rn (cq (cq ?_))
 refine ra_start (hS5.se [0]).fn (by kernel_rfl) ?_
 have hS6:=hS5.drew
 have hQ2:=hS6.se [0]
 refine rq 0 44 rfl hQ2 (fun w' hw'=>(ym (pt B 0) rfl (hf.g 0 0)))<|rq 1 45 (v:=pt B 0) rfl hQ2 (fun w' hw'=>(Y_nilCheck (B:=B) (i:=0) rfl rfl))<|rq 2 46 (v:=pt B 1) rfl hQ2 (fun w' hw'=>(yd B 0 0 K80 K0))<|rq 3 47 rfl hQ2 (fun w' hw'=>(yl B 1 V1 (vi (i64.wrap (c.at_+1))) K1 (ST.cf hw' (i:=0) rfl)))<|rq 4 48 rfl hQ2 (fun w' hw'=>(ym (pt B 0) rfl (hf.g 0 0))) ?_
 refine rq 5 49 (v:=pt B 0) rfl hQ2 (fun w' hw'=>(Y_nilCheck (B:=B) (i:=0) rfl rfl))<|rq 6 50 (v:=pt B 0) rfl hQ2 (fun w' hw'=>(yd B 0 0 K98 K99))<|rq 7 51 rfl hQ2 (fun w' hw'=>(yl B 0 V1 (.slice B1 c.code.length c1) Fh (ST.cf hw' (i:=0) rfl)))<|rq 8 52 (v:=vi (c.code.length:Int)) rfl hQ2 (fun w' hw'=>(Y_len (B:=B1) (m:=c.code.length) (c:=c1) K81 rfl rfl))<|rq 9 53 rfl hQ2 (fun w' hw'=>(Y_le (k:=.i64) (a:=(i64.wrap (c.at_+1))) (b:=(c.code.length:Int)) rfl rfl rfl)) ?_
 refine ra_done (by kernel_rfl) ?_
 refine cw_cond (b:=(decide ((i64.wrap (c.at_+1))≤(c.code.length:Int)))) rfl (fun hb1=>?_) (fun hb1=>?_)
 ·skip
  have hF4:=ct hF1 hb1
  refine cq (cr ?_)
  refine sQ 54 (ym (vi b) rfl (hf.g 3 1))<|sQ 2 (yg (vi b)) (rn (ct_ ?_))
  obtain ⟨rfl,rfl⟩:=pr2 (sI hF4)
  exact ret1 Tryz.results91 (v1:=vi b) (resAt_tmp rfl) ⟨rfl,(hS6.sN [0])⟩
 ·skip
  have hF5:=cf' hF1 hb1
  refine cw_skip (cq (cr ?_))
  refine sQ 55 (ym (pt B 0) rfl (hf.g 0 0))<|sQ 56 (Y_nilCheck (B:=B) (i:=0) rfl rfl)<|sQ 57 (yd B 0 0 Hl K90)<|sQ 58 (yl B 2 V1 (.int .u64 (IntKind.u64.wrap ((IntKind.u64.wrap ((IntKind.u64.wrap (c.seed*6364136223846793005))+(IntKind.u64.wrap b)))+1442695040888963407))) Il (hS6.c 0))<|sQ 59 (Y_shr (k:=.u64) (a:=(IntKind.u64.wrap ((IntKind.u64.wrap ((IntKind.u64.wrap (c.seed*6364136223846793005))+(IntKind.u64.wrap b)))+1442695040888963407))) (k':=.u64) (b:=40) rfl rfl rfl (by decide))<|sQ 60 (Y_band (k:=.u64) (a:=(shrK .u64 (IntKind.u64.wrap ((IntKind.u64.wrap ((IntKind.u64.wrap (c.seed*6364136223846793005))+(IntKind.u64.wrap b)))+1442695040888963407)) 40)) (b:=255) rfl rfl rfl) ?_
  refine sQ 61 (Y_conv (k:=.u64) (a:=(bits .and .u64 (shrK .u64 (IntKind.u64.wrap ((IntKind.u64.wrap ((IntKind.u64.wrap (c.seed*6364136223846793005))+(IntKind.u64.wrap b)))+1442695040888963407)) 40) 255)) (T:=72) (T':=3) IN K54 rfl rfl)<|sQ 2 (yg (vi (i64.wrap (bits .and .u64 (shrK .u64 (IntKind.u64.wrap ((IntKind.u64.wrap ((IntKind.u64.wrap (c.seed*6364136223846793005))+(IntKind.u64.wrap b)))+1442695040888963407)) 40) 255)))) (rn (ct_ ?_))
  obtain ⟨rfl,rfl⟩:=pr2 (sI hF5)
  exact ret1 Tryz.results91 (v1:=vi (i64.wrap (bits .and .u64 (shrK .u64 (IntKind.u64.wrap ((IntKind.u64.wrap ((IntKind.u64.wrap (c.seed*6364136223846793005))+(IntKind.u64.wrap b)))+1442695040888963407)) 40) 255))) (resAt_tmp rfl) ⟨rfl,(hS6.sN [0])⟩

theorem Ak (c:Ac) (n1:Int) (B:Option Addr) (B1:Option Addr) (c1 n:Nat) (w0:World) (hn:c.code.length=n) (hS:ST w0 (bl [⟨B,74,[.slice B1 n c1,vi c.at_,.int .u64 c.seed],3⟩]) w0 [⟨B,74,[.slice B1 n c1,vi c.at_,.int .u64 c.seed],3⟩] [⟨B1,(c.code.flatMap enc_u8)⟩]) {r_:Int} {m:Ac} (hF:Am c n1=some (r_,m)) :
  CV Tryz.prog 38 #[pt B 0,vi n1] w0 (fun v w'=>v=vi r_∧ST w0 (bl [⟨B,74,[.slice B1 n c1,vi c.at_,.int .u64 c.seed],3⟩]) w' [⟨B,74,[.slice B1 n c1,vi m.at_,.int .u64 m.seed],3⟩] []):=by
 subst hn
 unfold Am at hF
 refine cv_of_cw 20 Tryz.func38 rfl Tryz.ntmps38 rfl ?_
 refine cq (cr ?_)
 refine sQ 4 (yg (vi 0)) (rn (cq (cq (cr ?_))))
 refine sQ 6 (ym (vi n1))<|sQ 7 (Y_le (k:=.i64) (a:=n1) (b:=1) rfl rfl rfl) (rn ?_)
 refine cw_cond (b:=(decide (n1≤1))) rfl (fun hb=>?_) (fun hb=>?_)
 ·skip
  have hF1:=ct hF hb
  refine cq (cr ?_)
  refine sQ 4 (yg (vi 0)) (rn (ct_ ?_))
  obtain ⟨rfl,rfl⟩:=pr2 (sI hF1)
  exact ret1 Tryz.results38 (v1:=vi 0) (resAt_tmp rfl) ⟨rfl,(hS.sN [0])⟩
 ·skip
  have hF2:=cf' hF hb
  refine cw_skip (cq (cr ?_))
  refine sQ 8 (ym (pt B 0)) ?_
  obtain ⟨⟨r_1,m1⟩,hc,hF2⟩:=bI hF2
  refine sc 9 rfl rfl (yC [pt B 0] Io (Ig c B B1 c1 c.code.length _ rfl (hS.inn [true] rfl [(true,0)] rfl) hc)) ?_
  rintro _ w_ ⟨rfl,hd⟩
  have hS1:=hS.out [true] rfl hd
  refine sQ 5 (yg (vi r_1)) (rn (cq ?_))
  obtain ⟨z,hz,hF3⟩:=bI hF2
  refine cw_mid (fun f w=>∃ (at_:Int) (seed:Int) (x:Int),(at_,seed,x)=z∧FF f [(1,vi n1),(5,vi x)]∧ST w0 (bl [⟨B,74,[.slice B1 c.code.length c1,vi c.at_,.int .u64 c.seed],3⟩]) w [⟨B,74,[.slice B1 c.code.length c1,vi at_,.int .u64 seed],3⟩] [⟨B1,(c.code.flatMap enc_u8)⟩]) ?_ ?_
  ·skip
   refine cq (cr ?_)
   refine sQ 10 (ym (vi n1))<|sQ 11 (Y_gt (k:=.i64) (a:=n1) (b:=200) rfl rfl rfl) (rn ?_)
   refine cw_cond (b:=(decide (200<n1))) rfl (fun hb1=>?_) (fun hb1=>?_)
   ·skip
    have hF4:=ct hz hb1
    refine cr ?_
    refine sQ 12 (ym (vi r_1))<|sQ 13 (yX r_1 256)<|sQ 14 (ym (pt B 0)) ?_
    obtain ⟨⟨r_2,m2⟩,hc1,hF4⟩:=bI hF4
    refine sc 15 rfl rfl (yC [pt B 0] Io (Ig (Ac.mk c.code m1.at_ m1.seed) B B1 c1 c.code.length _ rfl (hS1.inn [true] rfl [(true,0)] rfl) hc1)) ?_
    rintro _ w_1 ⟨rfl,hd1⟩
    have hS3:=hS1.out [true] rfl hd1
    refine sQ 16 (yP (i64.wrap (r_1*256)) r_2)<|sQ 5 (yg (vi (i64.wrap ((i64.wrap (r_1*256))+r_2)))) (rn ?_)
    exact ⟨m2.at_,m2.seed,(i64.wrap ((i64.wrap (r_1*256))+r_2)),(sI hF4),(fc rfl (fc rfl fn_)),(hS3.sel [0] rfl rfl)⟩
   ·skip
    have hF5:=cf' hz hb1
    refine cw_skip ?_
    exact ⟨m1.at_,m1.seed,r_1,(sI hF5),(fc rfl (fc rfl fn_)),(hS1.sel [0] rfl rfl)⟩
  rintro f w ⟨at_,seed,x,rfl,hf,hS2⟩
  refine cq (cr ?_)
  refine sQ 17 (ym (vi x) rfl (hf.g 5 1))<|sQ 18 (ym (vi n1) rfl (hf.g 1 0)) ?_
  obtain ⟨hne,hF3⟩:=chk_inv hF3
  refine sQ 19 (Y_rem (k:=.i64) (a:=x) (b:=n1) rfl rfl rfl hne)<|sQ 4 (yg (vi (Int.tmod x n1))) (rn (ct_ ?_))
  obtain ⟨rfl,rfl⟩:=pr2 (sI hF3)
  exact ret1 Tryz.results38 (v1:=vi (Int.tmod x n1)) (resAt_tmp rfl) ⟨rfl,(hS2.sN [0])⟩

theorem J8 (by_:List Int) (B:Option Addr) (c n:Nat) (w0:World) (hn:by_.length=n) (hS:ST w0 [] w0 [] [⟨B,(by_.flatMap encI)⟩]) {r_:List Ab} (hF:BT by_=some r_) :
  CV Tryz.prog 39 #[.slice B n c] w0 (fun v w'=>∃ (B1:Option Addr) (c1:Nat),v=.slice B1 r_.length c1∧ST w0 [] w' [⟨B1,64,(r_.flatMap eN1),c1*2⟩] []):=by
 subst hn
 unfold BT at hF
 refine cv_of_cw 31 Tryz.func39 rfl Tryz.ntmps39 rfl ?_
 refine cq (cr ?_)
 refine sQ 2 (yg (.slice none 0 0)) (rn (cq (cr ?_)))
 refine sQ 3 (yg (.slice none 0 0)) (rn (cq (cq (cr ?_))))
 refine sQ 6 (ym (.slice B by_.length c))<|sQ 7 (Y_len (B:=B) (m:=by_.length) (c:=c) K2 rfl rfl)<|sQ 8 (ym (vi 0)) (rn ?_)
 obtain ⟨hN,hF⟩:=chk_inv hF
 obtain ⟨z,hz,hF1⟩:=bI hF
 have hS2:=hS.addNil 64
 refine cw_block ?_
 refine cw_loop (fun k f w=>∃ (i:Nat) (out:List Ab) (B2:Option Addr) (c2:Nat),FF f [(3,.slice B2 out.length c2),(6,.slice B by_.length c),(7,vi (by_.length:Int)),(8,vi (i:Int))]∧ST w0 [] w [⟨B2,64,(out.flatMap eN1),c2*2⟩] [⟨B,(by_.flatMap encI)⟩]∧i+k=by_.length∧forN (ES by_) k i out=some z) by_.length ⟨0,[],none,0,(fc rfl (fc rfl (fc rfl (fc rfl fn_)))),(hS2.sel [0] rfl rfl),Nat.zero_add _,hz⟩ ?_
 rintro k_ f w ⟨i,out,B2,c2,hf,hS1,hik,hL⟩
 refine cq (cr ?_)
 refine sQ 9 (yL (i:Int) (by_.length:Int) rfl (hf.g 8 3) (hf.g 7 2)) (rn (cq ?_))
 refine cw_cond (b:=(decide ((i:Int)<(by_.length:Int)))) rfl (fun hlt=>?_) (fun hlt=>?_)
 ·skip
  have hlt1:i<by_.length:=by have h:=of_decide_eq_true hlt; omega
  obtain ⟨K5,rfl⟩:∃ k2,k_=k2+1:=⟨k_-1,by omega⟩
  obtain ⟨y,hb,hL1⟩:=forN_go hL
  unfold ES at hb
  refine cw_skip (cq ?_)
  obtain ⟨z1,hz1,hF2⟩:=bI hb
  refine cw_mid (fun f w=>∃ (out1:List Ab) (B3:Option Addr) (c3:Nat),out1=z1∧FF f [(3,.slice B3 out1.length c3),(6,.slice B by_.length c),(7,vi (by_.length:Int)),(8,vi (i:Int))]∧ST w0 [] w [⟨B3,64,(out1.flatMap eN1),c3*2⟩] [⟨B,(by_.flatMap encI)⟩]) ?_ ?_
  ·skip
   refine cw_block (cq (cr ?_))
   refine sQ 10 (ym (vi (i:Int)) rfl (hf.g 8 3)) ?_
   obtain ⟨x,hx,hz1⟩:=bI hz1
   refine sQ 11 (yI B (i:Int) K2 K0 (gi_isSome encI_len rfl (hS1.rf (i:=0) rfl) hx) (getI_nn hx) (getI_ltI hx rfl) rfl (hf.g 6 1) (hf.g 8 3))<|sQ 12 (yl B ((i:Int).toNat*1) (by_.flatMap encI) (vi x) K1 (hS1.rf (i:=0) rfl) rfl rfl (gi_at0 encI_len hx rfl))<|sQ 4 (yg (vi (i:Int)))<|sQ 5 (yg (vi x)) (rn (cq (cr ?_)))
   refine sQ 13 (ym (vi x))<|sQ 14 (Y_rem (k:=.i64) (a:=x) (b:=8) rfl rfl rfl (by decide))<|sQ 15 (yP (Int.tmod x 8) 8)<|sQ 16 (Y_rem (k:=.i64) (a:=(i64.wrap ((Int.tmod x 8)+8))) (b:=8) rfl rfl rfl (by decide))<|sQ 5 (yg (vi (Int.tmod (i64.wrap ((Int.tmod x 8)+8)) 8))) (rn (cq (cr ?_)))
   refine sQ 17 (ym (vi (i:Int)))<|sQ 18 (Y_gt (k:=.i64) (a:=(i:Int)) (b:=0) rfl rfl rfl)<|sQ 19 (ym (.bool (decide (0<(i:Int))))) ?_
   refine sgq 20 (B:=(decide (0<(i:Int)))) rfl rfl (uT_ 19) (fun hg=>(ym (vi (Int.tmod (i64.wrap ((Int.tmod x 8)+8)) 8)))) ?_
   refine sgq 21 (B:=(decide (0<(i:Int)))) rfl rfl (uT_ 19) (fun hg1=>(Y_gt (k:=.i64) (a:=(Int.tmod (i64.wrap ((Int.tmod x 8)+8)) 8)) (b:=0) rfl (gv_of (v:=vi (Int.tmod (i64.wrap ((Int.tmod x 8)+8)) 8)) hg1) rfl)) ?_
   refine sQ 22 (Y_and (b:=(decide (0<(i:Int)))) (z:=(decide (0<(Int.tmod (i64.wrap ((Int.tmod x 8)+8)) 8)))) rfl rfl rfl rfl) (rn ?_)
   refine cw_cond (b:=((decide (0<(i:Int)))&&(decide (0<(Int.tmod (i64.wrap ((Int.tmod x 8)+8)) 8))))) rfl (fun hb1=>?_) (fun hb1=>?_)
   ·skip
    have hF3:=ct hz1 hb1
    refine cr ?_
    let V0:List Value:=[vi (i:Int),vi (Int.tmod (i64.wrap ((Int.tmod x 8)+8)) 8)]
    refine sQ 23 (ym (.slice B2 out.length c2) rfl (hf.g 3 0))<|sQ 24 (ym (vi (i:Int)))<|sQ 25 (ym (vi (Int.tmod (i64.wrap ((Int.tmod x 8)+8)) 8)))<|sQ 26 (Y_buildS (zs:=[vi 0,vi 0]) (vs:=[(0,vi (i:Int)),(1,vi (Int.tmod (i64.wrap ((Int.tmod x 8)+8)) 8))]) (cs:=V0) K74 K37 rfl (mpc rfl (mpc rfl mpn)) rfl) ?_
    refine sS 27 (Ys_bslice (s:=2) (len:=1) (vs:=[(0,.agg V0.toArray)]) (cs:=V0) (zs:=[vi 0,vi 0]) (m:=2) hS1 K14 K15 K70 rfl (mpc rfl mpn) rfl rfl rfl (by kernel_rfl) (by kernel_rfl) rfl) ?_
    rintro _ w_ ⟨b,rfl,hS4⟩
    obtain ⟨hap,hF3⟩:=chk_inv hF3
    refine sS 28 (Ys_append (s:=2) (by':=16) (i:=0) (nn:=out.length) (c:=c2) (k:=1) (len:=(out++[(Ab.mk (i:Int) (Int.tmod (i64.wrap ((Int.tmod x 8)+8)) 8))]).length) (B:=B2) (xs:=([(Ab.mk (i:Int) (Int.tmod (i64.wrap ((Int.tmod x 8)+8)) 8))].flatMap eN1)) (cs':=((out++[(Ab.mk (i:Int) (Int.tmod (i64.wrap ((Int.tmod x 8)+8)) 8))]).flatMap eN1)) hS4 K14 K15 K67 K37 rfl (by decide) rfl rfl rfl rfl (fm_lenn (l:=out) eN3 rfl) rfl (hS4.c 1) (fm_lenn (l:=[(Ab.mk (i:Int) (Int.tmod (i64.wrap ((Int.tmod x 8)+8)) 8))]) eN3 rfl) (fm_one' (enc:=eN1) BN [(Ab.mk (i:Int) (Int.tmod (i64.wrap ((Int.tmod x 8)+8)) 8))]) (by have:=hap; omega) (by have:=hap; simp only [maxLen]; omega) (fm_app _ _) (app_len (l:=out) (l':=[(Ab.mk (i:Int) (Int.tmod (i64.wrap ((Int.tmod x 8)+8)) 8))]) rfl rfl)) ?_
    rintro _ w_1 ⟨B4,c4,rfl,hS5⟩
    refine sQ 3 (yg (.slice B4 ((out++[(Ab.mk (i:Int) (Int.tmod (i64.wrap ((Int.tmod x 8)+8)) 8))]).length) c4)) (rn ?_)
    exact ⟨(out++[(Ab.mk (i:Int) (Int.tmod (i64.wrap ((Int.tmod x 8)+8)) 8))]),B4,c4,(sI hF3),(fc rfl (hf.a 6 1 (hf.a 7 2 (hf.a 8 3 fn_)))),(hS5.sel [0] rfl rfl)⟩
   ·skip
    have hF4:=cf' hz1 hb1
    refine cw_skip ?_
    exact ⟨out,B2,c2,(sI hF4),(hf.a 3 0 (hf.a 6 1 (hf.a 7 2 (hf.a 8 3 fn_)))),(hS1.sel [0] rfl rfl)⟩
  rintro f w ⟨out1,B3,c3,rfl,hf1,hS3⟩
  refine cr ?_
  refine sQ 29 (yP (i:Int) 1 rfl (hf1.g 8 3))<|sQ 8 (ym (vi (i64.wrap ((i:Int)+1)))) (rn ?_)
  obtain rfl:=sI hF2
  exact ⟨K5,Nat.lt_succ_self _,i+1,out1,B3,c3,(hf1.a 3 0 (hf1.a 6 1 (hf1.a 7 2 (fc (congrArg (Value.int .i64) (wr_succ hlt1 hN)) fn_)))),(hS3.sel [0] rfl rfl),(by omega),hL1⟩
 ·skip
  obtain rfl:k_=0:=by have h:=of_decide_eq_false hlt; omega
  refine cw_exit rfl ?_
  obtain rfl:=sI hL
  refine cq (cr ?_)
  refine sQ 30 (ym (.slice B2 out.length c2) rfl (hf.g 3 0))<|sQ 2 (yg (.slice B2 out.length c2)) (rn (ct_ ?_))
  obtain rfl:=sI hF1
  exact ret1 Tryz.results39 (v1:=.slice B2 out.length c2) (resAt_tmp rfl) ⟨B2,c2,rfl,(hS1.sN [0])⟩

theorem GN (c:Ac) (n1:Int) (B:Option Addr) (B1:Option Addr) (c1 n:Nat) (w0:World) (hn:c.code.length=n) (hS:ST w0 (bl [⟨B,74,[.slice B1 n c1,vi c.at_,.int .u64 c.seed],3⟩]) w0 [⟨B,74,[.slice B1 n c1,vi c.at_,.int .u64 c.seed],3⟩] [⟨B1,(c.code.flatMap enc_u8)⟩]) {r_:Bool} {m:Ac} (hF:BG c n1=some (r_,m)) :
  CV Tryz.prog 40 #[pt B 0,vi n1] w0 (fun v w'=>v=.bool r_∧ST w0 (bl [⟨B,74,[.slice B1 n c1,vi c.at_,.int .u64 c.seed],3⟩]) w' [⟨B,74,[.slice B1 n c1,vi m.at_,.int .u64 m.seed],3⟩] []):=by
 subst hn
 unfold BG at hF
 refine cv_of_cw 9 Tryz.func40 rfl Tryz.ntmps40 rfl ?_
 refine cq (cr ?_)
 refine sQ 4 (yg (.bool false)) (rn (cq (cr ?_)))
 refine sQ 5 (ym (pt B 0))<|sQ 6 (ym (vi n1)) ?_
 obtain ⟨⟨r_1,m1⟩,hc,hF⟩:=bI hF
 refine sc 7 rfl rfl (yC [pt B 0,vi n1] K20 (Ak c n1 B B1 c1 c.code.length _ rfl (hS.inn [true] rfl [(true,0)] rfl) hc)) ?_
 rintro _ w_ ⟨rfl,hd⟩
 have hS1:=hS.out [true] rfl hd
 refine sQ 8 (yE r_1 0)<|sQ 4 (yg (.bool (r_1==0))) (rn (ct_ ?_))
 obtain ⟨rfl,rfl⟩:=pr2 (sI hF)
 exact ret1 Tryz.results40 (v1:=.bool (r_1==0)) (resAt_tmp rfl) ⟨rfl,(hS1.sN [0])⟩

theorem DM (n:Int)  (w0:World)  (hS:ST w0 [] w0 [] []) {r_:Ad} (hF:AQ n=some r_) :
  CV Tryz.prog 43 #[vi n] w0 (fun v w'=>∃ (B:Option Addr) (c:Nat),v=.agg #[.slice B r_.Rows.length c]∧ST w0 [] w' [⟨B,3,(r_.Rows.flatMap encI),c*1⟩] []):=by
 unfold AQ at hF
 refine cv_of_cw 19 Tryz.func43 rfl Tryz.ntmps43 rfl ?_
 refine cq (cr ?_)
 refine sS 2 (yN [.slice none 0 0] 1 hS K22) ?_
 rintro _ w_ ⟨b,rfl,hS1⟩
 refine rn (cq (cr ?_))
 refine sS 3 (yN [.slice none 0 0] 1 hS1 K22) ?_
 rintro _ w_1 ⟨b1,rfl,hS2⟩
 refine rn (cq (cq (cr ?_)))
 refine sQ 4 (yg (vi 0)) (rn ?_)
 obtain ⟨hN,hF⟩:=chk_inv hF
 obtain ⟨z,hz,hF1⟩:=bI hF
 have hS4:=hS2.addNil 3
 refine cw_block ?_
 refine cw_loop (fun k f w=>∃ (i1:Nat) (Rows:List Int) (B1:Option Addr) (c1:Nat),FF f [(0,vi n),(2,pt (aD b) 0),(3,pt (aD b1) 0),(4,vi (i1:Int))]∧ST w0 [] w [⟨aD b,26,[.slice none 0 0],1⟩,⟨aD b1,26,[.slice B1 Rows.length c1],1⟩,⟨B1,3,(Rows.flatMap encI),c1*1⟩] []∧i1+k=n.toNat∧forN G2 k i1 Rows=some z) n.toNat ⟨0,[],none,0,(fc rfl (fc rfl (fc rfl (fc rfl fn_)))),(hS4.sel [0,1,2] rfl rfl),Nat.zero_add _,hz⟩ ?_
 rintro k_ f w ⟨i1,Rows,B1,c1,hf,hS3,hik,hL⟩
 refine cq (cq (cr ?_))
 refine sQ 5 (ym (vi (i1:Int)) rfl (hf.g 4 3))<|sQ 6 (ym (vi n) rfl (hf.g 0 0))<|sQ 7 (yL (i1:Int) n) (rn ?_)
 refine cw_cond (b:=(decide ((i1:Int)<n))) rfl (fun hlt=>?_) (fun hlt=>?_)
 ·skip
  have hlt1:i1<n.toNat:=by have h:=of_decide_eq_true hlt; omega
  obtain ⟨K5,rfl⟩:∃ k2,k_=k2+1:=⟨k_-1,by omega⟩
  obtain ⟨y,hb,hL1⟩:=forN_go hL
  unfold G2 at hb
  refine cw_skip (cq (cw_block (cr ?_)))
  refine sQ 10 (yd (aD b1) 0 0 K13 K8 rfl (hf.g 3 2))<|sQ 11 (yl (aD b1) 0 [.slice B1 Rows.length c1] (.slice B1 Rows.length c1) K9 (hS3.c 1))<|sQ 12 (ym (vi (i1:Int)) rfl (hf.g 4 3))<|sQ 13 (Y_conv (k:=.i64) (a:=(i1:Int)) (T:=3) (T':=77) K40 K41 rfl rfl) ?_
  obtain ⟨hsh,hb⟩:=chk_inv hb
  refine sQ 14 (Y_shl (k:=.i64) (a:=1) (k':=.u64) (b:=(IntKind.u64.wrap (i1:Int))) rfl rfl rfl hsh) ?_
  refine sS 15 (Ys_bslice (s:=1) (len:=1) (vs:=[(0,vi (shlK .i64 1 (IntKind.u64.wrap (i1:Int))))]) (cs:=[vi (shlK .i64 1 (IntKind.u64.wrap (i1:Int)))]) (zs:=[vi 0]) (m:=1) hS3 K2 K0 K24 rfl (mpc rfl mpn) rfl rfl rfl (by kernel_rfl) (by kernel_rfl) rfl) ?_
  rintro _ w_2 ⟨b2,rfl,hS5⟩
  obtain ⟨hap,hb⟩:=chk_inv hb
  refine sS 16 (Ys_append (s:=1) (by':=8) (i:=2) (nn:=Rows.length) (c:=c1) (k:=1) (len:=(Rows++[(shlK .i64 1 (IntKind.u64.wrap (i1:Int)))]).length) (B:=B1) (xs:=([(shlK .i64 1 (IntKind.u64.wrap (i1:Int)))].flatMap encI)) (cs':=((Rows++[(shlK .i64 1 (IntKind.u64.wrap (i1:Int)))]).flatMap encI)) hS5 K2 K0 K31 K28 rfl (by decide) rfl rfl rfl rfl (fm_lenn (l:=Rows) encI_len rfl) rfl (hS5.c 3) (fm_lenn (l:=[(shlK .i64 1 (IntKind.u64.wrap (i1:Int)))]) encI_len rfl) (fm_one' (enc:=encI) encI_one [(shlK .i64 1 (IntKind.u64.wrap (i1:Int)))]) (by have:=hap; omega) (by have:=hap; simp only [maxLen]; omega) (fm_app _ _) (app_len (l:=Rows) (l':=[(shlK .i64 1 (IntKind.u64.wrap (i1:Int)))]) rfl rfl)) ?_
  rintro _ w_3 ⟨B2,c2,rfl,hS6⟩
  refine sQ 17 (yd (aD b1) 0 0 K13 K8 rfl (hf.g 3 2)) ?_
  refine s0 (yT 1 1 (aD b1) 26 (.slice B2 ((Rows++[(shlK .i64 1 (IntKind.u64.wrap (i1:Int)))]).length) c2) [.slice B2 ((Rows++[(shlK .i64 1 (IntKind.u64.wrap (i1:Int)))]).length) c2] 0 hS6 K8) ?_
  rintro _ w_4 ⟨rfl,hS7⟩
  refine rn (cr ?_)
  refine sQ 8 (ym (vi (i1:Int)) rfl (hf.g 4 3))<|sQ 9 (yP (i1:Int) 1)<|sQ 4 (yg (vi (i64.wrap ((i1:Int)+1)))) (rn ?_)
  obtain rfl:=sI hb
  exact ⟨K5,Nat.lt_succ_self _,i1+1,(Rows++[(shlK .i64 1 (IntKind.u64.wrap (i1:Int)))]),B2,c2,(hf.a 0 0 (hf.a 2 1 (hf.a 3 2 (fc (congrArg (Value.int .i64) (wr_succ hlt1 hN)) fn_)))),(hS7.sel [0,1,2] rfl rfl),(by omega),hL1⟩
 ·skip
  obtain rfl:k_=0:=by have h:=of_decide_eq_false hlt; omega
  refine cw_exit rfl ?_
  obtain rfl:=sI hL
  refine cq (cr ?_)
  let V0:List Value:=[.slice B1 Rows.length c1]
  refine sQ 18 (yb (aD b1) 0 V0 K16 K6 (hS3.c 1) rfl (hf.g 3 2)) ?_
  refine s0 (yT 0 1 (aD b) 26 (.agg V0.toArray) V0 0 hS3 K6 rfl (hf.g 2 1)) ?_
  rintro _ w_5 ⟨rfl,hS8⟩
  refine rn (ct_ ?_)
  obtain rfl:=sI hF1
  exact ret1 Tryz.results43 (v1:=.agg V0.toArray) (resAt_cellA (B:=aD b) (i:=0) (cs:=V0) (vs:=V0) (hf.g 2 1) K16 K6 (hS8.c 0) rfl rfl) ⟨B1,c1,rfl,(hS8.sN [2])⟩

theorem EB (l:List Int) (B:Option Addr) (c n:Nat) (w0:World) (hn:l.length=n) (hS:ST w0 [] w0 [] [⟨B,(l.flatMap encI)⟩]) {r_:List Int} (hF:AA l=some r_) :
  CV Tryz.prog 77 #[.slice B n c] w0 (fun v w'=>∃ (B1:Option Addr) (c1:Nat),v=.slice B1 r_.length c1∧ST w0 [] w' [⟨B1,3,(r_.flatMap encI),c1*1⟩] []):=by
 subst hn
 unfold AA at hF
 refine cv_of_cw 6 Tryz.func77 rfl Tryz.ntmps77 rfl ?_
 refine cq (cr ?_)
 refine sQ 2 (yg (.slice none 0 0)) (rn (cq (cr ?_)))
 refine sS 3 (Ys_bslice0 (s:=1) (e:=3) hS K2 K0 rfl) ?_
 rintro _ w_ ⟨b,rfl,hS1⟩
 refine sQ 4 (ym (.slice B l.length c)) ?_
 obtain ⟨hap,hF⟩:=chk_inv hF
 refine sS 5 (Ys_append (s:=1) (by':=8) (i:=0) (nn:=0) (c:=0) (k:=l.length) (len:=l.length) (B:=aD b) (xs:=(l.flatMap encI)) (cs':=(l.flatMap encI)) hS1 K2 K0 K31 K28 rfl (by decide) rfl rfl rfl rfl (fm_lenn (l:=[]) encI_len rfl) rfl (hS1.rf (i:=0) rfl) (fm_lenn (l:=l) encI_len rfl) (fm_one' (enc:=encI) encI_one l) (by have:=hap; omega) (by have:=hap; simp only [maxLen]; omega) rfl (app_len0 (l:=l) rfl)) ?_
 rintro _ w_1 ⟨B2,c2,rfl,hS2⟩
 refine sQ 2 (yg (.slice B2 l.length c2)) (rn (ct_ ?_))
 obtain rfl:=sI hF
 exact ret1 Tryz.results77 (v1:=.slice B2 l.length c2) (resAt_tmp rfl) ⟨B2,c2,rfl,(hS2.sN [0])⟩

theorem Bk (m:Ad) (a:Int) (b:Int) (B:Option Addr) (c n:Nat) (w0:World) (hn:m.Rows.length=n) (hS:ST w0 [] w0 [] [⟨B,(m.Rows.flatMap encI)⟩]) {r_:Ad} (hF:A9 m a b=some r_) :
  CV Tryz.prog 82 #[.agg #[.slice B n c],vi a,vi b] w0 (fun v w'=>∃ (B1:Option Addr) (c1:Nat),v=.agg #[.slice B1 r_.Rows.length c1]∧ST w0 [] w' [⟨B1,3,(r_.Rows.flatMap encI),c1*1⟩] []):=by
 subst hn
 unfold A9 at hF
 refine cv_of_cw 25 Tryz.func82 rfl Tryz.ntmps82 rfl ?_
 refine cq (cr ?_)
 let V1:List Value:=[.slice B m.Rows.length c]
 refine sS 3 (yB 26 (.agg V1.toArray) V1 1 hS) ?_
 rintro _ w_ ⟨b1,rfl,hS1⟩
 refine sS 6 (yN [.slice none 0 0] 1 hS1 K22) ?_
 rintro _ w_1 ⟨b2,rfl,hS2⟩
 refine rn (cq (cr ?_))
 refine sQ 8 (yd (aD b1) 0 0 K13 K8)<|sQ 9 (yl (aD b1) 0 V1 (.slice B m.Rows.length c) K9 (hS2.c 0)) ?_
 obtain ⟨r_1,hc,hF⟩:=bI hF
 refine sc 10 rfl rfl (yC V1 K75 (EB m.Rows B c m.Rows.length _ rfl (hS2.inn0 [(true,0)] rfl) hc)) ?_
 rintro _ w_2 ⟨B2,c2,rfl,hd⟩
 have hS3:=hS2.out0 hd
 let V0:List Value:=[.slice B2 r_1.length c2]
 refine sQ 11 (Y_buildS (zs:=[.slice none 0 0]) (vs:=[(0,.slice B2 r_1.length c2)]) (cs:=V0) K55 K22 rfl (mpc rfl mpn) rfl) ?_
 refine sS 7 (yN [.slice none 0 0] 1 hS3 K22) ?_
 rintro _ w_3 ⟨b3,rfl,hS4⟩
 refine s0 (yT 3 1 (aD b3) 26 (.agg V0.toArray) V0 0 hS4 K6) ?_
 rintro _ w_4 ⟨rfl,hS5⟩
 refine rn (cq ?_)
 obtain ⟨x,hx,hF⟩:=bI hF
 obtain ⟨x1,hx1,hF⟩:=bI hF
 refine ra_start (hS5.se [0,1,3]).fn (by kernel_rfl) ?_
 have hS6:=hS5.drew
 have hQ0:=hS6.se [0,1,3]
 refine rq 0 12 (v:=pt (aD b3) 0) rfl hQ0 (fun w' hw'=>(yd (aD b3) 0 0 K13 K8))<|rq 1 13 rfl hQ0 (fun w' hw'=>(yl (aD b3) 0 V0 (.slice B2 r_1.length c2) K9 (ST.cf hw' (i:=2) rfl)))<|rq 2 14 rfl hQ0 (fun w' hw'=>(ym (vi b)))<|rq 3 15 (v:=pt B2 (b.toNat*1)) rfl hQ0 (fun w' hw'=>(yI B2 b K2 K0 (gi_isSome encI_len rfl (hS6.c 2) hx) (getI_nn hx) (getI_ltI hx rfl)))<|rq 5 17 (v:=pt (aD b3) 0) rfl hQ0 (fun w' hw'=>(yd (aD b3) 0 0 K13 K8)) ?_
 refine rq 6 18 rfl hQ0 (fun w' hw'=>(yl (aD b3) 0 V0 (.slice B2 r_1.length c2) K9 (ST.cf hw' (i:=2) rfl)))<|rq 7 19 rfl hQ0 (fun w' hw'=>(ym (vi a)))<|rq 8 20 (v:=pt B2 (a.toNat*1)) rfl hQ0 (fun w' hw'=>(yI B2 a K2 K0 (gi_isSome encI_len rfl (hS6.c 2) hx1) (getI_nn hx1) (getI_ltI hx1 rfl)))<|ra_now 4 16 [10,11,12] rfl hQ0 (yl B2 (b.toNat*1) (r_1.flatMap encI) (vi x) K1 (hS6.c 2) rfl rfl (gi_at0 encI_len hx rfl))<|r1 21 9 rfl (yl B2 (a.toNat*1) (r_1.flatMap encI) (vi x1) K1 (hS6.c 2) rfl rfl (gi_at0 encI_len hx1 rfl)) hQ0 ?_
 refine rq 10 22 (v:=vi (bits .xor .i64 x x1)) rfl hQ0 (fun w' hw'=>(Y_bxor (k:=.i64) (a:=x) (b:=x1) rfl rfl rfl))<|rq 11 23 (v:=pt B2 (b.toNat*1)) rfl hQ0 (fun w' hw'=>(yI B2 b K2 K0 (gi_isSome encI_len rfl (hS6.c 2) hx) (getI_nn hx) (getI_ltI hx rfl))) ?_
 refine rA [12] ?_
 refine rZ 12 rfl (yS 2 1 B2 3 (vi (bits .xor .i64 x x1)) [vi (bits .xor .i64 x x1)] (b.toNat*1) ((r_1.set b.toNat (bits .xor .i64 x x1)).flatMap encI) hS6 K0 rfl rfl rfl rfl rfl rfl rfl (gi_fit0 encI_len hx) (gi_set encI_len hx (bits .xor .i64 x x1) rfl)) ?_ aN
 rintro _ w_5 ⟨rfl,hS7⟩
 refine ⟨(hS7.se [0,1,3]),?_⟩
 refine ra_done (by kernel_rfl) ?_
 refine cq (cr ?_)
 refine sQ 24 (yb (aD b3) 0 V0 K16 K6 (hS7.c 3)) ?_
 refine s0 (yT 1 1 (aD b2) 26 (.agg V0.toArray) V0 0 hS7 K6) ?_
 rintro _ w_6 ⟨rfl,hS8⟩
 refine rn (ct_ ?_)
 obtain rfl:=sI hF
 exact ret1 Tryz.results82 (v1:=.agg V0.toArray) (resAt_cellA (B:=aD b2) (i:=0) (cs:=V0) (vs:=V0) rfl K16 K6 (hS8.c 1) rfl rfl) ⟨B2,c2,(by simp +zetaDelta [(set_len _ _ _ rfl)]),(hS8.sN [2])⟩

theorem Hy (c:Ac) (n1:Int) (B:Option Addr) (B1:Option Addr) (c1 n:Nat) (w0:World) (hn:c.code.length=n) (hS:ST w0 (bl [⟨B,74,[.slice B1 n c1,vi c.at_,.int .u64 c.seed],3⟩]) w0 [⟨B,74,[.slice B1 n c1,vi c.at_,.int .u64 c.seed],3⟩] [⟨B1,(c.code.flatMap enc_u8)⟩]) {r_:Ad} {m:Ac} (hF:CS c n1=some (r_,m)) :
  CV Tryz.prog 115 #[pt B 0,vi n1] w0 (fun v w'=>∃ (B2:Option Addr) (c2:Nat),v=.agg #[.slice B2 r_.Rows.length c2]∧ST w0 (bl [⟨B,74,[.slice B1 n c1,vi c.at_,.int .u64 c.seed],3⟩]) w' [⟨B,74,[.slice B1 n c1,vi m.at_,.int .u64 m.seed],3⟩,⟨B2,3,(r_.Rows.flatMap encI),c2*1⟩] []):=by
 subst hn
 unfold CS at hF
 refine cv_of_cw 36 Tryz.func115 rfl Tryz.ntmps115 rfl ?_
 refine cq (cr ?_)
 refine sS 4 (yN [.slice none 0 0] 1 hS K22) ?_
 rintro _ w_ ⟨b,rfl,hS1⟩
 refine rn (cq (cr ?_))
 refine sQ 8 (ym (vi n1)) ?_
 obtain ⟨r_1,hc,hF⟩:=bI hF
 refine sc 9 rfl rfl (yC [vi n1] K76 (DM n1 _  (hS1.inn0 [] rfl) hc)) ?_
 rintro _ w_1 ⟨B3,c3,rfl,hd⟩
 have hS2:=hS1.out0 hd
 refine sS 5 (yN [.slice none 0 0] 1 hS2 K22) ?_
 rintro _ w_2 ⟨b1,rfl,hS3⟩
 refine s0 (yT 3 1 (aD b1) 26 (.agg #[.slice B3 r_1.Rows.length c3]) [.slice B3 r_1.Rows.length c3] 0 hS3 K6) ?_
 rintro _ w_3 ⟨rfl,hS4⟩
 refine rn (cq (cq (cr ?_)))
 refine sQ 10 (ym (pt B 0)) ?_
 obtain ⟨⟨r_2,m1⟩,hc1,hF⟩:=bI hF
 refine sc 11 rfl rfl (yC [pt B 0,vi 8] K20 (Ak c 8 B B1 c1 c.code.length _ rfl (hS4.inn [true,false,false,false] rfl [(true,0)] rfl) hc1)) ?_
 rintro _ w_4 ⟨rfl,hd1⟩
 have hS5:=hS4.out [true,false,false,false] rfl hd1
 refine sQ 6 (yg (vi r_2)) (rn ?_)
 obtain ⟨z,hz,hF1⟩:=bI hF
 refine cw_block ?_
 let O0:Ob:=⟨B,74,[.slice B1 c.code.length c1,vi c.at_,.int .u64 c.seed],3⟩
 refine cw_loop (fun k f w=>∃ (at_:Int) (seed:Int) (Rows:List Int) (k_:Int) (B4:Option Addr) (c4:Nat),FF f [(0,pt B 0),(1,vi n1),(4,pt (aD b) 0),(5,pt (aD b1) 0),(6,vi k_)]∧ST w0 (bl [O0]) w [⟨B,74,[.slice B1 c.code.length c1,vi at_,.int .u64 seed],3⟩,⟨aD b,26,[.slice none 0 0],1⟩,⟨aD b1,26,[.slice B4 Rows.length c4],1⟩,⟨B4,3,(Rows.flatMap encI),c4*1⟩] [⟨B1,(c.code.flatMap enc_u8)⟩]∧whX (Ff n1 c) k (at_,seed,Rows,k_)=some z) fuel ⟨m1.at_,m1.seed,r_1.Rows,r_2,B3,c3,(fc rfl (fc rfl (fc rfl (fc rfl (fc rfl fn_))))),(hS5.sel [3,0,2,1] rfl rfl),hz⟩ ?_
 rintro K5 f w ⟨at_,seed,Rows,k_,B4,c4,hf,hS6,hL⟩
 obtain ⟨K19,y,rfl,hb,hL1⟩:=whX_go hL
 unfold Ff at hb
 refine cq (cq (cr ?_))
 refine sQ 12 (ym (vi k_) rfl (hf.g 6 4))<|sQ 13 (Y_gt (k:=.i64) (a:=k_) (b:=0) rfl rfl rfl)<|sQ 14 (ym (.bool (decide (0<k_)))) ?_
 refine sgq 15 (B:=(decide (0<k_))) rfl rfl (uT_ 14) (fun hg=>(ym (vi n1) rfl (hf.g 1 1))) ?_
 refine sgq 16 (B:=(decide (0<k_))) rfl rfl (uT_ 14) (fun hg1=>(Y_gt (k:=.i64) (a:=n1) (b:=1) rfl (gv_of (v:=vi n1) hg1) rfl)) ?_
 refine sQ 17 (Y_and (b:=(decide (0<k_))) (z:=(decide (1<n1))) rfl rfl rfl rfl) (rn ?_)
 refine cw_cond (b:=((decide (0<k_))&&(decide (1<n1)))) rfl (fun hb1=>?_) (fun hb1=>?_)
 ·skip
  have hF2:=ct hb hb1
  refine cw_skip (cq (cw_block (cq (cr ?_))))
  refine sQ 20 (ym (pt B 0) rfl (hf.g 0 0))<|sQ 21 (ym (vi n1) rfl (hf.g 1 1)) ?_
  obtain ⟨⟨r_3,m2⟩,hc2,hF2⟩:=bI hF2
  refine sc 22 rfl rfl (yC [pt B 0,vi n1] K20 (Ak (Ac.mk c.code at_ seed) n1 B B1 c1 c.code.length _ rfl (hS6.inn [true,false,false,false] rfl [(true,0)] rfl) hc2)) ?_
  rintro _ w_5 ⟨rfl,hd2⟩
  have hS7:=hS6.out [true,false,false,false] rfl hd2
  refine sQ 7 (yg (vi r_3)) (rn ?_)
  obtain ⟨⟨r_4,m3⟩,hc3,hF2⟩:=bI hF2
  obtain ⟨hne,hF2⟩:=chk_inv hF2
  obtain ⟨r_5,hc4,hF2⟩:=bI hF2
  refine cw_mid (fun f w=>∃ (B6:Option Addr) (c6:Nat),FF f [(0,pt B 0),(1,vi n1),(4,pt (aD b) 0),(5,pt (aD b1) 0),(6,vi k_)]∧ST w0 (bl [O0]) w [⟨B,74,[.slice B1 c.code.length c1,vi m3.at_,.int .u64 m3.seed],3⟩,⟨aD b,26,[.slice none 0 0],1⟩,⟨aD b1,26,[.slice B6 r_5.Rows.length c6],1⟩,⟨B6,3,(r_5.Rows.flatMap encI),c6*1⟩] [⟨B1,(c.code.flatMap enc_u8)⟩]) ?_ ?_
  ·skip
   refine ra_start (hS7.se [0,2]).fn (by kernel_rfl) ?_
   have hS11:=hS7.drew
   have hQ0:=hS11.se [0,2]
   refine rq 1 24 rfl hQ0 (fun w' hw'=>(ym (vi r_3)))<|rq 2 25 rfl hQ0 (fun w' hw'=>(ym (vi r_3)))<|rq 3 26 rfl hQ0 (fun w' hw'=>(yP r_3 1))<|rq 4 27 rfl hQ0 (fun w' hw'=>(ym (pt B 0) rfl (hf.g 0 0)))<|rq 5 28 rfl hQ0 (fun w' hw'=>(ym (vi n1) rfl (hf.g 1 1))) ?_
   refine rq 6 29 rfl hQ0 (fun w' hw'=>(yM n1 1))<|rq 9 32 rfl hQ0 (fun w' hw'=>(ym (vi n1) rfl (hf.g 1 1))) ?_
   refine rA [0,7] ?_
   let V1:List Value:=[.slice B4 Rows.length c4]
   refine ry 23 0 rfl (yb (aD b1) 0 V1 K16 K6 (hS11.c 1) rfl (hf.g 5 3)) hQ0 ?_ ?_
   ·skip
    refine rA [7] ?_
    refine rC 30 7 rfl (yC [pt B 0,vi (i64.wrap (n1-1))] K20 (Ak (Ac.mk c.code m2.at_ m2.seed) (i64.wrap (n1-1)) B B1 c1 c.code.length _ rfl (hS11.inn [false,false,false,true] rfl [(true,0)] rfl) hc3)) ?_ aN
    rintro _ w_6 ⟨rfl,hd3⟩
    have hS12:=hS11.out [false,false,false,true] rfl hd3
    have hQ1:=hS12.se [0,2]
    refine ⟨hQ1,?_⟩
    refine rq 8 31 rfl hQ1 (fun w' hw'=>(yP (i64.wrap (r_3+1)) r_4))<|rq 10 33 (v:=vi (Int.tmod (i64.wrap ((i64.wrap (r_3+1))+r_4)) n1)) rfl hQ1 (fun w' hw'=>(Y_rem (k:=.i64) (a:=(i64.wrap ((i64.wrap (r_3+1))+r_4))) (b:=n1) rfl rfl rfl hne)) ?_
    refine rA [11] ?_
    refine rC 34 11 rfl (yC [.agg V1.toArray,vi r_3,vi (Int.tmod (i64.wrap ((i64.wrap (r_3+1))+r_4)) n1)] K56 (Bk (Ad.mk Rows) r_3 (Int.tmod (i64.wrap ((i64.wrap (r_3+1))+r_4)) n1) B4 c4 Rows.length _ rfl (hS12.inn0 [(false,2)] rfl) hc4)) ?_ aN
    rintro _ w_7 ⟨B5,c5,rfl,hd4⟩
    have hS13:=hS12.out0 hd4
    refine ⟨(hS13.se [0,2]),?_⟩
    refine rA [12] ?_
    refine rZ 12 rfl (yT 1 1 (aD b1) 26 (.agg #[.slice B5 r_5.Rows.length c5]) [.slice B5 r_5.Rows.length c5] 0 hS13 K6 rfl (hf.g 5 3)) ?_ aN
    rintro _ w_8 ⟨rfl,hS14⟩
    refine ⟨(hS14.se [0,2]),?_⟩
    refine ra_done (by kernel_rfl) ?_
    exact ⟨B5,c5,(hf.a 0 0 (hf.a 1 1 (hf.a 4 2 (hf.a 5 3 (hf.a 6 4 fn_))))),(hS14.sel [3,0,1,4] rfl rfl)⟩
   refine rC 30 7 rfl (yC [pt B 0,vi (i64.wrap (n1-1))] K20 (Ak (Ac.mk c.code m2.at_ m2.seed) (i64.wrap (n1-1)) B B1 c1 c.code.length _ rfl (hS11.inn [false,false,false,true] rfl [(true,0)] rfl) hc3)) ?_ aN
   rintro _ w_9 ⟨rfl,hd5⟩
   have hS15:=hS11.out [false,false,false,true] rfl hd5
   have hQ2:=hS15.se [0,2]
   refine ⟨hQ2,?_⟩
   refine rq 8 31 rfl hQ2 (fun w' hw'=>(yP (i64.wrap (r_3+1)) r_4))<|rq 10 33 (v:=vi (Int.tmod (i64.wrap ((i64.wrap (r_3+1))+r_4)) n1)) rfl hQ2 (fun w' hw'=>(Y_rem (k:=.i64) (a:=(i64.wrap ((i64.wrap (r_3+1))+r_4))) (b:=n1) rfl rfl rfl hne))<|r1 23 0 rfl (yb (aD b1) 0 V1 K16 K6 (hS15.c 1) rfl (hf.g 5 3)) hQ2 ?_
   refine rA [11] ?_
   refine rC 34 11 rfl (yC [.agg V1.toArray,vi r_3,vi (Int.tmod (i64.wrap ((i64.wrap (r_3+1))+r_4)) n1)] K56 (Bk (Ad.mk Rows) r_3 (Int.tmod (i64.wrap ((i64.wrap (r_3+1))+r_4)) n1) B4 c4 Rows.length _ rfl (hS15.inn0 [(false,2)] rfl) hc4)) ?_ aN
   rintro _ w_10 ⟨B5,c5,rfl,hd6⟩
   have hS16:=hS15.out0 hd6
   refine ⟨(hS16.se [0,2]),?_⟩
   refine rA [12] ?_
   refine rZ 12 rfl (yT 1 1 (aD b1) 26 (.agg #[.slice B5 r_5.Rows.length c5]) [.slice B5 r_5.Rows.length c5] 0 hS16 K6 rfl (hf.g 5 3)) ?_ aN
   rintro _ w_11 ⟨rfl,hS17⟩
   refine ⟨(hS17.se [0,2]),?_⟩
   refine ra_done (by kernel_rfl) ?_
   exact ⟨B5,c5,(hf.a 0 0 (hf.a 1 1 (hf.a 4 2 (hf.a 5 3 (hf.a 6 4 fn_))))),(hS17.sel [3,0,1,4] rfl rfl)⟩
  rintro f w ⟨B6,c6,hf1,hS10⟩
  refine cr ?_
  refine sQ 18 (ym (vi k_) rfl (hf1.g 6 4))<|sQ 19 (yM k_ 1)<|sQ 6 (yg (vi (i64.wrap (k_-1)))) (rn ?_)
  obtain rfl:=sI hF2
  exact ⟨K19,Nat.lt_succ_self _,m3.at_,m3.seed,r_5.Rows,(i64.wrap (k_-1)),B6,c6,(hf1.a 0 0 (hf1.a 1 1 (hf1.a 4 2 (hf1.a 5 3 (fc rfl fn_))))),(hS10.sel [0,1,2,3] rfl rfl),hL1⟩
 ·skip
  have hF3:=cf' hb hb1
  refine cw_exit rfl ?_
  obtain rfl:=sI hF3
  obtain rfl:=sI hL1
  refine cq (cr ?_)
  let V2:List Value:=[.slice B4 Rows.length c4]
  refine sQ 35 (yb (aD b1) 0 V2 K16 K6 (hS6.c 2) rfl (hf.g 5 3)) ?_
  refine s0 (yT 1 1 (aD b) 26 (.agg V2.toArray) V2 0 hS6 K6 rfl (hf.g 4 2)) ?_
  rintro _ w_12 ⟨rfl,hS18⟩
  refine rn (ct_ ?_)
  obtain ⟨rfl,rfl⟩:=pr2 (sI hF1)
  exact ret1 Tryz.results115 (v1:=.agg V2.toArray) (resAt_cellA (B:=aD b) (i:=0) (cs:=V2) (vs:=V2) (hf.g 4 2) K16 K6 (hS18.c 1) rfl rfl) ⟨B4,c4,rfl,(hS18.sN [0,3])⟩

theorem NJ (c:Ac) (n1:Int) (B:Option Addr) (B1:Option Addr) (c1 n:Nat) (w0:World) (hn:c.code.length=n) (hS:ST w0 (bl [⟨B,74,[.slice B1 n c1,vi c.at_,.int .u64 c.seed],3⟩]) w0 [⟨B,74,[.slice B1 n c1,vi c.at_,.int .u64 c.seed],3⟩] [⟨B1,(c.code.flatMap enc_u8)⟩]) {r_:Ah} {m:Ac} (hF:Ej c n1=some (r_,m)) :
  CV Tryz.prog 99 #[pt B 0,vi n1] w0 (fun v w'=>∃ (B2:Option Addr) (c2:Nat) (B3:Option Addr) (c3:Nat),v=.agg #[vi r_.Qubits,vi r_.Phase,.slice B2 r_.Terms.length c2,.slice B3 r_.Out.Rows.length c3]∧ST w0 (bl [⟨B,74,[.slice B1 n c1,vi c.at_,.int .u64 c.seed],3⟩]) w' [⟨B,74,[.slice B1 n c1,vi m.at_,.int .u64 m.seed],3⟩,⟨B2,64,(r_.Terms.flatMap eN1),c2*2⟩,⟨B3,3,(r_.Out.Rows.flatMap encI),c3*1⟩] []):=by
 subst hn
 unfold Ej at hF
 refine cv_of_cw 48 Tryz.func99 rfl Tryz.ntmps99 rfl ?_
 refine cq (cr ?_)
 let V4:List Value:=[vi 0,vi 0,.slice none 0 0,.slice none 0 0]
 refine sS 4 (yN V4 4 hS K34) ?_
 rintro _ w_ ⟨b,rfl,hS1⟩
 refine rn (cq (cr ?_))
 refine sQ 8 (ym (vi n1))<|sQ 9 (Y_conv (k:=.i64) (a:=n1) (T:=3) (T':=77) K40 K41 rfl rfl) ?_
 obtain ⟨hsh,hF⟩:=chk_inv hF
 refine sQ 10 (Y_shl (k:=.i64) (a:=1) (k':=.u64) (b:=(IntKind.u64.wrap n1)) rfl rfl rfl hsh) ?_
 obtain ⟨hmk,hF⟩:=chk_inv hF
 refine sS 11 (Ys_make (s:=1) (by':=8) (nn:=(shlK .i64 1 (IntKind.u64.wrap n1)).toNat) (a:=(shlK .i64 1 (IntKind.u64.wrap n1))) (b:=(shlK .i64 1 (IntKind.u64.wrap n1))) (cs:=((List.replicate ((shlK .i64 1 (IntKind.u64.wrap n1)).toNat) 0).flatMap encI)) hS1 K2 K0 K31 K28 rfl rfl rfl rfl hmk.1 rfl (by have:=hmk; omega) (by have:=hmk; omega) (by omega) (fm_rep (enc:=encI) (d:=0) rfl _)) ?_
 rintro _ w_1 ⟨b1,rfl,hS2⟩
 refine sQ 5 (yg (.slice (aD b1) ((shlK .i64 1 (IntKind.u64.wrap n1)).toNat) ((shlK .i64 1 (IntKind.u64.wrap n1)).toNat))) (rn (cq (cq (cr ?_))))
 refine sQ 12 (ym (pt B 0)) ?_
 obtain ⟨⟨r_1,m1⟩,hc,hF⟩:=bI hF
 refine sc 13 rfl rfl (yC [pt B 0,vi 6] K20 (Ak c 6 B B1 c1 c.code.length _ rfl (hS2.inn [true,false,false] rfl [(true,0)] rfl) hc)) ?_
 rintro _ w_2 ⟨rfl,hd⟩
 have hS3:=hS2.out [true,false,false] rfl hd
 refine sQ 6 (yg (vi r_1)) (rn ?_)
 obtain ⟨z,hz,hF1⟩:=bI hF
 refine cw_block ?_
 let O0:Ob:=⟨B,74,[.slice B1 c.code.length c1,vi c.at_,.int .u64 c.seed],3⟩
 let O1:Ob:=⟨aD b,28,V4,4⟩
 let R2:Ro:=⟨B1,(c.code.flatMap enc_u8)⟩
 refine cw_loop (fun k f w=>∃ (at_:Int) (seed:Int) (by_:List Int) (k_:Int),FF f [(0,pt B 0),(1,vi n1),(4,pt (aD b) 0),(5,.slice (aD b1) ((shlK .i64 1 (IntKind.u64.wrap n1)).toNat) ((shlK .i64 1 (IntKind.u64.wrap n1)).toNat)),(6,vi k_)]∧by_.length=(shlK .i64 1 (IntKind.u64.wrap n1)).toNat∧ST w0 (bl [O0]) w [⟨B,74,[.slice B1 c.code.length c1,vi at_,.int .u64 seed],3⟩,O1,⟨aD b1,3,(by_.flatMap encI),((shlK .i64 1 (IntKind.u64.wrap n1)).toNat)*1⟩] [R2]∧whX (Fu c n1) k (at_,seed,by_,k_)=some z) fuel ⟨m1.at_,m1.seed,(List.replicate ((shlK .i64 1 (IntKind.u64.wrap n1)).toNat) 0),r_1,(fc rfl (fc rfl (fc rfl (fc rfl (fc rfl fn_))))),List.length_replicate,(hS3.sel [2,0,1] rfl rfl),hz⟩ ?_
 rintro K5 f w ⟨at_,seed,by_,k_,hf,hl,hS4,hL⟩
 obtain ⟨K19,y,rfl,hb,hL1⟩:=whX_go hL
 unfold Fu at hb
 refine cq (cq (cr ?_))
 refine sQ 14 (ym (vi k_) rfl (hf.g 6 4))<|sQ 15 (Y_gt (k:=.i64) (a:=k_) (b:=0) rfl rfl rfl) (rn ?_)
 refine cw_cond (b:=(decide (0<k_))) rfl (fun hb1=>?_) (fun hb1=>?_)
 ·skip
  have hF2:=ct hb hb1
  refine cw_skip (cq (cw_block (cr ?_)))
  refine sQ 18 (ym (.slice (aD b1) ((shlK .i64 1 (IntKind.u64.wrap n1)).toNat) ((shlK .i64 1 (IntKind.u64.wrap n1)).toNat)) rfl (hf.g 5 3))<|sQ 19 (ym (pt B 0) rfl (hf.g 0 0))<|sQ 20 (ym (.slice (aD b1) ((shlK .i64 1 (IntKind.u64.wrap n1)).toNat) ((shlK .i64 1 (IntKind.u64.wrap n1)).toNat)) rfl (hf.g 5 3))<|sQ 21 (Y_len (B:=aD b1) (m:=(shlK .i64 1 (IntKind.u64.wrap n1)).toNat) (c:=(shlK .i64 1 (IntKind.u64.wrap n1)).toNat) K2 rfl rfl) ?_
  obtain ⟨⟨r_2,m2⟩,hc1,hF2⟩:=bI hF2
  refine sc 22 rfl rfl (yC [pt B 0,vi ((shlK .i64 1 (IntKind.u64.wrap n1)).toNat:Int)] K20 (Ak (Ac.mk c.code at_ seed) ((shlK .i64 1 (IntKind.u64.wrap n1)).toNat:Int) B B1 c1 c.code.length _ rfl (hS4.inn [true,false,false] rfl [(true,0)] rfl) hc1)) ?_
  rintro _ w_3 ⟨rfl,hd1⟩
  have hS5:=hS4.out [true,false,false] rfl hd1
  refine sQ 23 (ym (pt B 0) rfl (hf.g 0 0)) ?_
  obtain ⟨⟨r_3,m3⟩,hc2,hF2⟩:=bI hF2
  refine sc 24 rfl rfl (yC [pt B 0,vi 8] K20 (Ak (Ac.mk c.code m2.at_ m2.seed) 8 B B1 c1 c.code.length _ rfl (hS5.inn [false,false,true] rfl [(true,0)] rfl) hc2)) ?_
  rintro _ w_4 ⟨rfl,hd2⟩
  have hS6:=hS5.out [false,false,true] rfl hd2
  obtain ⟨x,hx,hF2⟩:=bI hF2
  refine sQ 25 (yI (aD b1) r_2 K2 K0 (gi_isSome encI_len rfl (hS6.c 1) hx) (getI_nn hx) (getI_ltI hx hl)) ?_
  refine s0 (yS 1 1 (aD b1) 3 (vi r_3) [vi r_3] (r_2.toNat*1) ((by_.set r_2.toNat r_3).flatMap encI) hS6 K0 rfl rfl rfl rfl rfl rfl rfl (gi_fit0 encI_len hx) (gi_set encI_len hx r_3 rfl)) ?_
  rintro _ w_5 ⟨rfl,hS7⟩
  refine rn (cr ?_)
  refine sQ 16 (ym (vi k_) rfl (hf.g 6 4))<|sQ 17 (yM k_ 1)<|sQ 6 (yg (vi (i64.wrap (k_-1)))) (rn ?_)
  obtain rfl:=sI hF2
  exact ⟨K19,Nat.lt_succ_self _,m3.at_,m3.seed,(by_.set r_2.toNat r_3),(i64.wrap (k_-1)),(hf.a 0 0 (hf.a 1 1 (hf.a 4 2 (hf.a 5 3 (fc rfl fn_))))),(set_len _ _ _ hl),(hS7.sel [2,0,1] rfl rfl),hL1⟩
 ·skip
  have hF3:=cf' hb hb1
  refine cw_exit rfl ?_
  obtain rfl:=sI hF3
  obtain rfl:=sI hL1
  refine cq ?_
  obtain ⟨z1,hz1,hF4⟩:=bI hF1
  refine cw_mid (fun f w=>∃ (at_1:Int) (seed1:Int) (by_1:List Int),(at_1,seed1,by_1)=z1∧FF f [(0,pt B 0),(1,vi n1),(4,pt (aD b) 0),(5,.slice (aD b1) ((shlK .i64 1 (IntKind.u64.wrap n1)).toNat) ((shlK .i64 1 (IntKind.u64.wrap n1)).toNat))]∧by_1.length=(shlK .i64 1 (IntKind.u64.wrap n1)).toNat∧ST w0 (bl [O0]) w [⟨B,74,[.slice B1 c.code.length c1,vi at_1,.int .u64 seed1],3⟩,O1,⟨aD b1,3,(by_1.flatMap encI),((shlK .i64 1 (IntKind.u64.wrap n1)).toNat)*1⟩] [R2]) ?_ ?_
  ·skip
   refine cq (cr ?_)
   refine sQ 26 (ym (pt B 0) rfl (hf.g 0 0)) ?_
   obtain ⟨⟨r_4,m4⟩,hc3,hz1⟩:=bI hz1
   refine sc 27 rfl rfl (yC [pt B 0,vi 6] Hc (GN (Ac.mk c.code at_ seed) 6 B B1 c1 c.code.length _ rfl (hS4.inn [true,false,false] rfl [(true,0)] rfl) hc3)) ?_
   rintro _ w_6 ⟨rfl,hd3⟩
   have hS9:=hS4.out [true,false,false] rfl hd3
   refine rn ?_
   refine cw_cond (b:=r_4) rfl (fun hb2=>?_) (fun hb2=>?_)
   ·skip
    have hF5:=ct hz1 hb2
    refine cq (cr ?_)
    refine sQ 28 (ym (.slice (aD b1) ((shlK .i64 1 (IntKind.u64.wrap n1)).toNat) ((shlK .i64 1 (IntKind.u64.wrap n1)).toNat)) rfl (hf.g 5 3))<|sQ 29 (Y_len (B:=aD b1) (m:=(shlK .i64 1 (IntKind.u64.wrap n1)).toNat) (c:=(shlK .i64 1 (IntKind.u64.wrap n1)).toNat) K2 rfl rfl)<|sQ 30 (ym (vi 0)) (rn ?_)
    obtain ⟨hN,hF5⟩:=chk_inv hF5
    obtain ⟨z2,hz2,hF6⟩:=bI hF5
    refine cw_block ?_
    refine cw_loop (fun k f w=>∃ (i:Nat) (at_2:Int) (seed2:Int) (by_2:List Int),FF f [(0,pt B 0),(1,vi n1),(4,pt (aD b) 0),(5,.slice (aD b1) ((shlK .i64 1 (IntKind.u64.wrap n1)).toNat) ((shlK .i64 1 (IntKind.u64.wrap n1)).toNat)),(29,vi ((shlK .i64 1 (IntKind.u64.wrap n1)).toNat:Int)),(30,vi (i:Int))]∧by_2.length=(shlK .i64 1 (IntKind.u64.wrap n1)).toNat∧ST w0 (bl [O0]) w [⟨B,74,[.slice B1 c.code.length c1,vi at_2,.int .u64 seed2],3⟩,O1,⟨aD b1,3,(by_2.flatMap encI),((shlK .i64 1 (IntKind.u64.wrap n1)).toNat)*1⟩] [R2]∧i+k=(shlK .i64 1 (IntKind.u64.wrap n1)).toNat∧forN (DX c) k i (at_2,seed2,by_2)=some z2) ((shlK .i64 1 (IntKind.u64.wrap n1)).toNat) ⟨0,m4.at_,m4.seed,by_,(hf.a 0 0 (hf.a 1 1 (hf.a 4 2 (hf.a 5 3 (fc rfl (fc rfl fn_)))))),hl,(hS9.sel [2,0,1] rfl rfl),Nat.zero_add _,hz2⟩ ?_
    rintro K32 f w ⟨i,at_2,seed2,by_2,hf2,hl2,hS10,hik1,hL2⟩
    refine cq (cr ?_)
    refine sQ 31 (yL (i:Int) ((shlK .i64 1 (IntKind.u64.wrap n1)).toNat:Int) rfl (hf2.g 30 5) (hf2.g 29 4)) (rn (cq ?_))
    refine cw_cond (b:=(decide ((i:Int)<((shlK .i64 1 (IntKind.u64.wrap n1)).toNat:Int)))) rfl (fun hlt=>?_) (fun hlt=>?_)
    ·skip
     have hlt1:i<(shlK .i64 1 (IntKind.u64.wrap n1)).toNat:=by have h:=of_decide_eq_true hlt; omega
     obtain ⟨K38,rfl⟩:∃ k2,K32=k2+1:=⟨K32-1,by omega⟩
     obtain ⟨y1,hb3,hL3⟩:=forN_go hL2
     unfold DX at hb3
     refine cw_skip (cq (cw_block (cq (cr ?_))))
     refine sQ 32 (ym (vi (i:Int)) rfl (hf2.g 30 5))<|sQ 7 (yg (vi (i:Int))) (rn (cr ?_))
     refine sQ 33 (ym (.slice (aD b1) ((shlK .i64 1 (IntKind.u64.wrap n1)).toNat) ((shlK .i64 1 (IntKind.u64.wrap n1)).toNat)) rfl (hf2.g 5 3))<|sQ 34 (ym (vi (i:Int)))<|sQ 35 (ym (pt B 0) rfl (hf2.g 0 0)) ?_
     obtain ⟨⟨r_5,m5⟩,hc4,hb3⟩:=bI hb3
     refine sc 36 rfl rfl (yC [pt B 0,vi 8] K20 (Ak (Ac.mk c.code at_2 seed2) 8 B B1 c1 c.code.length _ rfl (hS10.inn [true,false,false] rfl [(true,0)] rfl) hc4)) ?_
     rintro _ w_7 ⟨rfl,hd4⟩
     have hS11:=hS10.out [true,false,false] rfl hd4
     obtain ⟨x1,hx1,hb3⟩:=bI hb3
     refine sQ 37 (yI (aD b1) (i:Int) K2 K0 (gi_isSome encI_len rfl (hS11.c 1) hx1) (getI_nn hx1) (getI_ltI hx1 hl2)) ?_
     refine s0 (yS 1 1 (aD b1) 3 (vi r_5) [vi r_5] ((i:Int).toNat*1) ((by_2.set (i:Int).toNat r_5).flatMap encI) hS11 K0 rfl rfl rfl rfl rfl rfl rfl (gi_fit0 encI_len hx1) (gi_set encI_len hx1 r_5 rfl)) ?_
     rintro _ w_8 ⟨rfl,hS12⟩
     refine rn (cr ?_)
     refine sQ 38 (yP (i:Int) 1 rfl (hf2.g 30 5))<|sQ 30 (ym (vi (i64.wrap ((i:Int)+1)))) (rn ?_)
     obtain rfl:=sI hb3
     exact ⟨K38,Nat.lt_succ_self _,i+1,m5.at_,m5.seed,(by_2.set (i:Int).toNat r_5),(hf2.a 0 0 (hf2.a 1 1 (hf2.a 4 2 (hf2.a 5 3 (hf2.a 29 4 (fc (congrArg (Value.int .i64) (wr_succ hlt1 hN)) fn_)))))),(set_len _ _ _ hl2),(hS12.sel [2,0,1] rfl rfl),(by omega),hL3⟩
    ·skip
     obtain rfl:K32=0:=by have h:=of_decide_eq_false hlt; omega
     refine cw_exit rfl ?_
     obtain rfl:=sI hL2
     exact ⟨at_2,seed2,by_2,(sI hF6),(hf2.a 0 0 (hf2.a 1 1 (hf2.a 4 2 (hf2.a 5 3 fn_)))),hl2,(hS10.sel [0,1,2] rfl rfl)⟩
   ·skip
    have hF7:=cf' hz1 hb2
    refine cw_skip ?_
    exact ⟨m4.at_,m4.seed,by_,(sI hF7),(hf.a 0 0 (hf.a 1 1 (hf.a 4 2 (hf.a 5 3 fn_)))),hl,(hS9.sel [2,0,1] rfl rfl)⟩
  rintro f w ⟨at_1,seed1,by_1,rfl,hf1,hl1,hS8⟩
  refine cq (cr ?_)
  refine sQ 39 (ym (vi n1) rfl (hf1.g 1 1))<|sQ 40 (ym (pt B 0) rfl (hf1.g 0 0)) ?_
  obtain ⟨⟨r_6,m6⟩,hc5,hF4⟩:=bI hF4
  refine sc 41 rfl rfl (yC [pt B 0,vi 8] K20 (Ak (Ac.mk c.code at_1 seed1) 8 B B1 c1 c.code.length _ rfl (hS8.inn [true,false,false] rfl [(true,0)] rfl) hc5)) ?_
  rintro _ w_9 ⟨rfl,hd5⟩
  have hS13:=hS8.out [true,false,false] rfl hd5
  refine sQ 42 (ym (.slice (aD b1) ((shlK .i64 1 (IntKind.u64.wrap n1)).toNat) ((shlK .i64 1 (IntKind.u64.wrap n1)).toNat)) rfl (hf1.g 5 3)) ?_
  obtain ⟨r_7,hc6,hF4⟩:=bI hF4
  refine sc 43 rfl rfl (yC [.slice (aD b1) ((shlK .i64 1 (IntKind.u64.wrap n1)).toNat) ((shlK .i64 1 (IntKind.u64.wrap n1)).toNat)] Ju (J8 by_1 (aD b1) ((shlK .i64 1 (IntKind.u64.wrap n1)).toNat) ((shlK .i64 1 (IntKind.u64.wrap n1)).toNat) _ hl1 (hS13.inn0 [(false,1)] rfl) hc6)) ?_
  rintro _ w_10 ⟨B4,c4,rfl,hd6⟩
  have hS14:=hS13.out0 hd6
  refine sQ 44 (ym (pt B 0) rfl (hf1.g 0 0))<|sQ 45 (ym (vi n1) rfl (hf1.g 1 1)) ?_
  obtain ⟨⟨r_8,m7⟩,hc7,hF4⟩:=bI hF4
  refine sc 46 rfl rfl (yC [pt B 0,vi n1] HN (Hy (Ac.mk c.code m6.at_ m6.seed) n1 B B1 c1 c.code.length _ rfl (hS14.inn [false,false,true,false] rfl [(true,0)] rfl) hc7)) ?_
  rintro _ w_11 ⟨B5,c5,rfl,hd7⟩
  have hS15:=hS14.out [false,false,true,false] rfl hd7
  let V3:List Value:=[vi n1,vi r_6,.slice B4 r_7.length c4,.slice B5 r_8.Rows.length c5]
  refine sQ 47 (Y_buildS (zs:=V4) (vs:=[(0,vi n1),(1,vi r_6),(2,.slice B4 r_7.length c4),(3,.agg #[.slice B5 r_8.Rows.length c5])]) (cs:=V3) K62 K34 rfl (mpc rfl (mpc rfl (mpc rfl (mpc rfl mpn)))) rfl) ?_
  refine s0 (yT 0 4 (aD b) 28 (.agg V3.toArray) V3 0 hS15 K25 rfl (hf1.g 4 2)) ?_
  rintro _ w_12 ⟨rfl,hS16⟩
  refine rn (ct_ ?_)
  obtain ⟨rfl,rfl⟩:=pr2 (sI hF4)
  exact ret1 Tryz.results99 (v1:=.agg V3.toArray) (resAt_cellA (B:=aD b) (i:=0) (cs:=V3) (vs:=V3) (hf1.g 4 2) K39 K25 (hS16.c 0) rfl rfl) ⟨B4,c4,B5,c5,rfl,(hS16.sN [3,2,4])⟩

theorem FR (c:Ac) (list:List Int) (B:Option Addr) (B1:Option Addr) (c1 n:Nat) (B2:Option Addr) (c2 n1:Nat) (w0:World) (hn:c.code.length=n) (hn1:list.length=n1) (hS:ST w0 (bl [⟨B,74,[.slice B1 n c1,vi c.at_,.int .u64 c.seed],3⟩]) w0 [⟨B,74,[.slice B1 n c1,vi c.at_,.int .u64 c.seed],3⟩] [⟨B1,(c.code.flatMap enc_u8)⟩,⟨B2,(list.flatMap encI)⟩]) {r_:Int} {m:Ac} (hF:Bl c list=some (r_,m)) :
  CV Tryz.prog 100 #[pt B 0,.slice B2 n1 c2] w0 (fun v w'=>v=vi r_∧ST w0 (bl [⟨B,74,[.slice B1 n c1,vi c.at_,.int .u64 c.seed],3⟩]) w' [⟨B,74,[.slice B1 n c1,vi m.at_,.int .u64 m.seed],3⟩] []):=by
 subst hn
 subst hn1
 unfold Bl at hF
 refine cv_of_cw 12 Tryz.func100 rfl Tryz.ntmps100 rfl ?_
 refine cq (cr ?_)
 refine sQ 4 (yg (vi 0)) (rn (cq (cr ?_)))
 refine sQ 5 (ym (.slice B2 list.length c2))<|sQ 6 (ym (pt B 0))<|sQ 7 (ym (.slice B2 list.length c2))<|sQ 8 (Y_len (B:=B2) (m:=list.length) (c:=c2) K2 rfl rfl) ?_
 obtain ⟨⟨r_1,m1⟩,hc,hF⟩:=bI hF
 refine sc 9 rfl rfl (yC [pt B 0,vi (list.length:Int)] K20 (Ak c (list.length:Int) B B1 c1 c.code.length _ rfl (hS.inn [true] rfl [(true,0)] rfl) hc)) ?_
 rintro _ w_ ⟨rfl,hd⟩
 have hS1:=hS.out [true] rfl hd
 obtain ⟨x,hx,hF⟩:=bI hF
 refine sQ 10 (yI B2 r_1 K2 K0 (gi_isSome encI_len rfl (hS1.rf (i:=1) rfl) hx) (getI_nn hx) (getI_ltI hx rfl))<|sQ 11 (yl B2 (r_1.toNat*1) (list.flatMap encI) (vi x) K1 (hS1.rf (i:=1) rfl) rfl rfl (gi_at0 encI_len hx rfl))<|sQ 4 (yg (vi x)) (rn (ct_ ?_))
 obtain ⟨rfl,rfl⟩:=pr2 (sI hF)
 exact ret1 Tryz.results100 (v1:=vi x) (resAt_tmp rfl) ⟨rfl,(hS1.sN [0])⟩

theorem KR (c:Ac) (B:Option Addr) (B1:Option Addr) (c1 n:Nat) (w0:World) (hn:c.code.length=n) (hS:ST w0 (bl [⟨B,74,[.slice B1 n c1,vi c.at_,.int .u64 c.seed],3⟩]) w0 [⟨B,74,[.slice B1 n c1,vi c.at_,.int .u64 c.seed],3⟩] [⟨B1,(c.code.flatMap enc_u8)⟩]) {r_:Ad} {m:Ac} (hF:Dy c=some (r_,m)) :
  CV Tryz.prog 101 #[pt B 0] w0 (fun v w'=>∃ (B2:Option Addr) (c2:Nat),v=.agg #[.slice B2 r_.Rows.length c2]∧r_.Rows.length≤c2∧Org w0 (bl [⟨B,74,[.slice B1 n c1,vi c.at_,.int .u64 c.seed],3⟩]) [⟨B1,(c.code.flatMap enc_u8)⟩] [⟨B2,(r_.Rows.flatMap encI)⟩]∧ST w0 (bl [⟨B,74,[.slice B1 n c1,vi c.at_,.int .u64 c.seed],3⟩]) w' [⟨B,74,[.slice B1 n c1,vi m.at_,.int .u64 m.seed],3⟩] [⟨B2,(r_.Rows.flatMap encI)⟩]):=by
 subst hn
 unfold Dy at hF
 refine cv_of_cw 35 Tryz.func101 rfl Tryz.ntmps101 rfl ?_
 refine cq (cr ?_)
 refine sS 2 (yN [.slice none 0 0] 1 hS K22) ?_
 rintro _ w_ ⟨b,rfl,hS1⟩
 refine rn (cq (cr ?_))
 refine sQ 4 (ym (pt B 0))<|sQ 5 (ym (pt B 0)) ?_
 obtain ⟨⟨r_1,m1⟩,hc,hF⟩:=bI hF
 refine sc 6 rfl rfl (yC [pt B 0,vi 5] K20 (Ak c 5 B B1 c1 c.code.length _ rfl (hS1.inn [true,false] rfl [(true,0)] rfl) hc)) ?_
 rintro _ w_1 ⟨rfl,hd⟩
 have hS2:=hS1.out [true,false] rfl hd
 refine sQ 7 (yP 1 r_1) ?_
 obtain ⟨⟨r_2,m2⟩,hc1,hF⟩:=bI hF
 refine sc 8 rfl rfl (yC [pt B 0,vi (i64.wrap (1+r_1))] HN (Hy (Ac.mk c.code m1.at_ m1.seed) (i64.wrap (1+r_1)) B B1 c1 c.code.length _ rfl (hS2.inn [false,true] rfl [(true,0)] rfl) hc1)) ?_
 rintro _ w_2 ⟨B3,c3,rfl,hd1⟩
 have hS3:=hS2.out [false,true] rfl hd1
 refine sS 3 (yN [.slice none 0 0] 1 hS3 K22) ?_
 rintro _ w_3 ⟨b1,rfl,hS4⟩
 refine s0 (yT 3 1 (aD b1) 26 (.agg #[.slice B3 r_2.Rows.length c3]) [.slice B3 r_2.Rows.length c3] 0 hS4 K6) ?_
 rintro _ w_4 ⟨rfl,hS5⟩
 refine rn (cq ?_)
 obtain ⟨z,hz,hF1⟩:=bI hF
 let O0:Ob:=⟨B,74,[.slice B1 c.code.length c1,vi c.at_,.int .u64 c.seed],3⟩
 let O2:Ob:=⟨aD b,26,[.slice none 0 0],1⟩
 let R4:Ro:=⟨B1,(c.code.flatMap enc_u8)⟩
 refine cw_mid (fun f w=>∃ (at_:Int) (seed:Int) (Rows:List Int) (B4:Option Addr) (c4:Nat),(at_,seed,Rows)=z∧FF f [(2,pt (aD b) 0),(3,pt (aD b1) 0)]∧Org w0 (bl [O0]) [R4] [⟨B4,(Rows.flatMap encI)⟩]∧Rows.length≤c4∧ST w0 (bl [O0]) w [⟨B,74,[.slice B1 c.code.length c1,vi at_,.int .u64 seed],3⟩,O2,⟨aD b1,26,[.slice B4 Rows.length c4],1⟩] [⟨B4,(Rows.flatMap encI)⟩,R4]) ?_ ?_
 ·skip
  refine cq (cr ?_)
  refine sQ 9 (ym (pt B 0)) ?_
  obtain ⟨⟨r_3,m3⟩,hc2,hz⟩:=bI hz
  refine sc 10 rfl rfl (yC [pt B 0,vi 12] K20 (Ak (Ac.mk c.code m2.at_ m2.seed) 12 B B1 c1 c.code.length _ rfl (hS5.inn [false,true,false,false] rfl [(true,0)] rfl) hc2)) ?_
  rintro _ w_5 ⟨rfl,hd2⟩
  have hS7:=hS5.out [false,true,false,false] rfl hd2
  refine rn (cw_block (cq (cr ?_)))
  refine sQ 12 (yE r_3 0)<|sQ 11 (yg (.bool (r_3==0))) (rn ?_)
  refine cw_cond (b:=(r_3==0)) rfl (fun hb=>?_) (fun hb=>?_)
  ·skip
   have hF2:=ct hz hb
   obtain ⟨⟨r_4,m4⟩,hc3,hF2⟩:=bI hF2
   obtain ⟨x,hx,hF2⟩:=bI hF2
   refine ra_start (hS7.se [0,2]).fn (by kernel_rfl) ?_
   have hS9:=hS7.drew
   have hQ0:=hS9.se [0,2]
   refine rq 0 13 (v:=pt (aD b1) 0) rfl hQ0 (fun w' hw'=>(yd (aD b1) 0 0 K13 K8))<|rq 1 14 rfl hQ0 (fun w' hw'=>(yl (aD b1) 0 [.slice B3 r_2.Rows.length c3] (.slice B3 r_2.Rows.length c3) K9 (ST.cf hw' (i:=1) rfl)))<|rq 2 15 rfl hQ0 (fun w' hw'=>(ym (pt B 0))) ?_
   refine rA [3] ?_
   refine rS 16 3 rfl (Ys_bslice (s:=1) (len:=5) (vs:=[(0,vi (-1)),(1,vi 0),(2,vi 31),(3,vi 32),(4,vi 3)]) (cs:=[vi (-1),vi 0,vi 31,vi 32,vi 3]) (zs:=kZ_) (m:=5) hS9 K2 K0 K24 rfl (mpc rfl (mpc rfl (mpc rfl (mpc rfl (mpc rfl mpn))))) rfl rfl rfl (by kernel_rfl) (by kernel_rfl) rfl) ?_ aN
   rintro _ w_6 ⟨b2,rfl,hS10⟩
   refine ⟨(hS10.se [0,2]),?_⟩
   refine rA [4] ?_
   refine rC 17 4 rfl (yC [pt B 0,.slice (aD b2) 5 5] K91 (FR (Ac.mk c.code m3.at_ m3.seed) [(-1),0,31,32,3] B B1 c1 c.code.length (aD b2) 5 5 _ rfl rfl (hS10.inn [false,false,false,true,false] rfl [(true,0),(false,3)] rfl) hc3)) ?_ aN
   rintro _ w_7 ⟨rfl,hd3⟩
   have hS11:=hS10.out [false,false,false,true,false] rfl hd3
   refine ⟨(hS11.se [0,2]),?_⟩
   refine rq 5 18 (v:=pt B3 ((0:Int).toNat*1)) rfl (hS11.se [0,2]) (fun w' hw'=>(yI B3 0 K2 K0 (gi_isSome encI_len rfl (hS11.c 1) hx) (getI_nn hx) (getI_ltI hx rfl))) ?_
   refine rA [6] ?_
   refine rZ 6 rfl (yS 1 1 B3 3 (vi r_4) [vi r_4] ((0:Int).toNat*1) ((r_2.Rows.set (0:Int).toNat r_4).flatMap encI) hS11 K0 rfl rfl rfl rfl rfl rfl rfl (gi_fit0 encI_len hx) (gi_set encI_len hx r_4 rfl)) ?_ aN
   rintro _ w_8 ⟨rfl,hS12⟩
   refine ⟨(hS12.se [0,2]),?_⟩
   refine ra_done (by kernel_rfl) ?_
   have ho1:Org w0 (bl [O0]) [R4] [⟨B3,((r_2.Rows.set (0:Int).toNat r_4).flatMap encI)⟩]:=ST.orgOwn hS12 (i:=1) rfl
   have hcap:r_2.Rows.length≤c3:=(hS12.lencap (i:=1) rfl (fm_lenn (l:=(r_2.Rows.set (0:Int).toNat r_4)) encI_len (set_len _ _ _ rfl)) rfl rfl)
   have hS13:ST w0 (bl [O0]) _ [O2,⟨aD b1,26,[.slice B3 r_2.Rows.length c3],1⟩,⟨aD b2,3,([(-1),0,31,32,3].flatMap encI),5*1⟩,⟨B,74,[.slice B1 c.code.length c1,vi m4.at_,.int .u64 m4.seed],3⟩] [⟨B3,((r_2.Rows.set (0:Int).toNat r_4).flatMap encI)⟩,R4]:=hS12.freeze (i:=1) rfl
   exact ⟨m4.at_,m4.seed,(r_2.Rows.set (0:Int).toNat r_4),B3,c3,(sI hF2),(fc rfl (fc rfl fn_)),ho1,(len_le (set_len _ _ _ rfl) hcap),(by rw [((set_len _ _ _ rfl):(r_2.Rows.set (0:Int).toNat r_4).length=r_2.Rows.length)]; exact hS13.sel [3,0,1] rfl rfl)⟩
  ·skip
   have hF3:=cf' hz hb
   refine cq (cr ?_)
   refine sQ 20 (yE r_3 1)<|sQ 19 (yg (.bool (r_3==1))) (rn ?_)
   refine cw_cond (b:=(r_3==1)) rfl (fun hb1=>?_) (fun hb1=>?_)
   ·skip
    have hF4:=ct hF3 hb1
    obtain ⟨⟨r_5,m5⟩,hc4,hF4⟩:=bI hF4
    obtain ⟨hap,hF4⟩:=chk_inv hF4
    let O3:Ob:=⟨B,74,[.slice B1 c.code.length c1,vi m5.at_,.int .u64 m5.seed],3⟩
    refine cw_mid (fun f w=>∃ (B6:Option Addr) (c6:Nat),FF f [(2,pt (aD b) 0),(3,pt (aD b1) 0)]∧ST w0 (bl [O0]) w [O3,O2,⟨aD b1,26,[.slice B6 ((r_2.Rows++[r_5]).length) c6],1⟩,⟨B6,3,((r_2.Rows++[r_5]).flatMap encI),c6*1⟩] [R4]) ?_ ?_
    ·skip
     refine ra_start (hS7.se [0]).fn (by kernel_rfl) ?_
     have hS16:=hS7.drew
     have hQ1:=hS16.se [0]
     refine rq 0 21 (v:=pt (aD b1) 0) rfl hQ1 (fun w' hw'=>(yd (aD b1) 0 0 K13 K8))<|rq 2 23 rfl hQ1 (fun w' hw'=>(ym (pt B 0))) ?_
     refine rA [1,3] ?_
     refine ry 22 1 rfl (yl (aD b1) 0 [.slice B3 r_2.Rows.length c3] (.slice B3 r_2.Rows.length c3) K9 (hS16.c 2)) hQ1 ?_ ?_
     ·skip
      refine rA [3] ?_
      refine rC 24 3 rfl (yC [pt B 0,vi 70] K20 (Ak (Ac.mk c.code m3.at_ m3.seed) 70 B B1 c1 c.code.length _ rfl (hS16.inn [false,false,false,true] rfl [(true,0)] rfl) hc4)) ?_ aN
      rintro _ w_9 ⟨rfl,hd4⟩
      have hS17:=hS16.out [false,false,false,true] rfl hd4
      refine ⟨(hS17.se [0]),?_⟩
      refine rA [4] ?_
      refine rS 25 4 rfl (Ys_bslice (s:=1) (len:=1) (vs:=[(0,vi r_5)]) (cs:=[vi r_5]) (zs:=[vi 0]) (m:=1) hS17 K2 K0 K24 rfl (mpc rfl mpn) rfl rfl rfl (by kernel_rfl) (by kernel_rfl) rfl) ?_ aN
      rintro _ w_10 ⟨b3,rfl,hS18⟩
      refine ⟨(hS18.se [0]),?_⟩
      refine rA [5] ?_
      refine rS 26 5 rfl (Ys_append (s:=1) (by':=8) (i:=1) (nn:=r_2.Rows.length) (c:=c3) (k:=1) (len:=(r_2.Rows++[r_5]).length) (B:=B3) (xs:=([r_5].flatMap encI)) (cs':=((r_2.Rows++[r_5]).flatMap encI)) hS18 K2 K0 K31 K28 rfl (by decide) rfl rfl rfl rfl (fm_lenn (l:=r_2.Rows) encI_len rfl) rfl (hS18.c 4) (fm_lenn (l:=[r_5]) encI_len rfl) (fm_one' (enc:=encI) encI_one [r_5]) (by have:=hap; omega) (by have:=hap; simp only [maxLen]; omega) (fm_app _ _) (app_len (l:=r_2.Rows) (l':=[r_5]) rfl rfl)) ?_ aN
      rintro _ w_11 ⟨B5,c5,rfl,hS19⟩
      refine ⟨(hS19.se [0]),?_⟩
      refine rq 6 27 (v:=pt (aD b1) 0) rfl (hS19.se [0]) (fun w' hw'=>(yd (aD b1) 0 0 K13 K8)) ?_
      refine rA [7] ?_
      refine rZ 7 rfl (yT 2 1 (aD b1) 26 (.slice B5 ((r_2.Rows++[r_5]).length) c5) [.slice B5 ((r_2.Rows++[r_5]).length) c5] 0 hS19 K8) ?_ aN
      rintro _ w_12 ⟨rfl,hS20⟩
      refine ⟨(hS20.se [0]),?_⟩
      refine ra_done (by kernel_rfl) ?_
      exact ⟨B5,c5,(fc rfl (fc rfl fn_)),(hS20.sel [3,0,2,1] rfl rfl)⟩
     refine rC 24 3 rfl (yC [pt B 0,vi 70] K20 (Ak (Ac.mk c.code m3.at_ m3.seed) 70 B B1 c1 c.code.length _ rfl (hS16.inn [false,false,false,true] rfl [(true,0)] rfl) hc4)) ?_ aN
     rintro _ w_13 ⟨rfl,hd5⟩
     have hS21:=hS16.out [false,false,false,true] rfl hd5
     refine ⟨(hS21.se [0]),?_⟩
     refine rA [1,4] ?_
     refine ry 22 1 rfl (yl (aD b1) 0 [.slice B3 r_2.Rows.length c3] (.slice B3 r_2.Rows.length c3) K9 (hS21.c 2)) (hS21.se [0]) ?_ ?_
     ·skip
      refine rA [4] ?_
      refine rS 25 4 rfl (Ys_bslice (s:=1) (len:=1) (vs:=[(0,vi r_5)]) (cs:=[vi r_5]) (zs:=[vi 0]) (m:=1) hS21 K2 K0 K24 rfl (mpc rfl mpn) rfl rfl rfl (by kernel_rfl) (by kernel_rfl) rfl) ?_ aN
      rintro _ w_14 ⟨b3,rfl,hS22⟩
      refine ⟨(hS22.se [0]),?_⟩
      refine rA [5] ?_
      refine rS 26 5 rfl (Ys_append (s:=1) (by':=8) (i:=1) (nn:=r_2.Rows.length) (c:=c3) (k:=1) (len:=(r_2.Rows++[r_5]).length) (B:=B3) (xs:=([r_5].flatMap encI)) (cs':=((r_2.Rows++[r_5]).flatMap encI)) hS22 K2 K0 K31 K28 rfl (by decide) rfl rfl rfl rfl (fm_lenn (l:=r_2.Rows) encI_len rfl) rfl (hS22.c 4) (fm_lenn (l:=[r_5]) encI_len rfl) (fm_one' (enc:=encI) encI_one [r_5]) (by have:=hap; omega) (by have:=hap; simp only [maxLen]; omega) (fm_app _ _) (app_len (l:=r_2.Rows) (l':=[r_5]) rfl rfl)) ?_ aN
      rintro _ w_15 ⟨B5,c5,rfl,hS23⟩
      refine ⟨(hS23.se [0]),?_⟩
      refine rq 6 27 (v:=pt (aD b1) 0) rfl (hS23.se [0]) (fun w' hw'=>(yd (aD b1) 0 0 K13 K8)) ?_
      refine rA [7] ?_
      refine rZ 7 rfl (yT 2 1 (aD b1) 26 (.slice B5 ((r_2.Rows++[r_5]).length) c5) [.slice B5 ((r_2.Rows++[r_5]).length) c5] 0 hS23 K8) ?_ aN
      rintro _ w_16 ⟨rfl,hS24⟩
      refine ⟨(hS24.se [0]),?_⟩
      refine ra_done (by kernel_rfl) ?_
      exact ⟨B5,c5,(fc rfl (fc rfl fn_)),(hS24.sel [3,0,2,1] rfl rfl)⟩
     refine rS 25 4 rfl (Ys_bslice (s:=1) (len:=1) (vs:=[(0,vi r_5)]) (cs:=[vi r_5]) (zs:=[vi 0]) (m:=1) hS21 K2 K0 K24 rfl (mpc rfl mpn) rfl rfl rfl (by kernel_rfl) (by kernel_rfl) rfl) ?_ aN
     rintro _ w_17 ⟨b3,rfl,hS25⟩
     refine ⟨(hS25.se [0]),?_⟩
     refine r1 22 1 rfl (yl (aD b1) 0 [.slice B3 r_2.Rows.length c3] (.slice B3 r_2.Rows.length c3) K9 (hS25.c 2)) (hS25.se [0]) ?_
     refine rA [5] ?_
     refine rS 26 5 rfl (Ys_append (s:=1) (by':=8) (i:=1) (nn:=r_2.Rows.length) (c:=c3) (k:=1) (len:=(r_2.Rows++[r_5]).length) (B:=B3) (xs:=([r_5].flatMap encI)) (cs':=((r_2.Rows++[r_5]).flatMap encI)) hS25 K2 K0 K31 K28 rfl (by decide) rfl rfl rfl rfl (fm_lenn (l:=r_2.Rows) encI_len rfl) rfl (hS25.c 4) (fm_lenn (l:=[r_5]) encI_len rfl) (fm_one' (enc:=encI) encI_one [r_5]) (by have:=hap; omega) (by have:=hap; simp only [maxLen]; omega) (fm_app _ _) (app_len (l:=r_2.Rows) (l':=[r_5]) rfl rfl)) ?_ aN
     rintro _ w_18 ⟨B5,c5,rfl,hS26⟩
     refine ⟨(hS26.se [0]),?_⟩
     refine rq 6 27 (v:=pt (aD b1) 0) rfl (hS26.se [0]) (fun w' hw'=>(yd (aD b1) 0 0 K13 K8)) ?_
     refine rA [7] ?_
     refine rZ 7 rfl (yT 2 1 (aD b1) 26 (.slice B5 ((r_2.Rows++[r_5]).length) c5) [.slice B5 ((r_2.Rows++[r_5]).length) c5] 0 hS26 K8) ?_ aN
     rintro _ w_19 ⟨rfl,hS27⟩
     refine ⟨(hS27.se [0]),?_⟩
     refine ra_done (by kernel_rfl) ?_
     exact ⟨B5,c5,(fc rfl (fc rfl fn_)),(hS27.sel [3,0,2,1] rfl rfl)⟩
    rintro f w ⟨B6,c6,hf1,hS15⟩
    have ho2:Org w0 (bl [O0]) [R4] [⟨B6,((r_2.Rows++[r_5]).flatMap encI)⟩]:=ST.orgOwn hS15 (i:=3) rfl
    have hcap1:(r_2.Rows++[r_5]).length≤c6:=(hS15.lencap (i:=3) rfl (fm_lenn (l:=(r_2.Rows++[r_5])) encI_len rfl) rfl rfl)
    have hS28:ST w0 (bl [O0]) _ [O3,O2,⟨aD b1,26,[.slice B6 ((r_2.Rows++[r_5]).length) c6],1⟩] [⟨B6,((r_2.Rows++[r_5]).flatMap encI)⟩,R4]:=hS15.freeze (i:=3) rfl
    exact ⟨m5.at_,m5.seed,(r_2.Rows++[r_5]),B6,c6,(sI hF4),(hf1.a 2 0 (hf1.a 3 1 fn_)),ho2,(len_le rfl hcap1),(hS28.sel [0,1,2] rfl rfl)⟩
   ·skip
    have hF5:=cf' hF3 hb1
    refine cq (cr ?_)
    refine sQ 29 (yE r_3 2)<|sQ 28 (yg (.bool (r_3==2))) (rn ?_)
    refine cw_cond (b:=(r_3==2)) rfl (fun hb2=>?_) (fun hb2=>?_)
    ·skip
     have hF6:=ct hF5 hb2
     refine cr ?_
     refine sQ 30 (yd (aD b1) 0 0 K13 K8)<|sQ 31 (yl (aD b1) 0 [.slice B3 r_2.Rows.length c3] (.slice B3 r_2.Rows.length c3) K9 (hS7.c 2)) ?_
     obtain ⟨hsl,hF6⟩:=chk_inv hF6
     have hcap2:r_2.Rows.length≤c3:=(hS7.lencap (i:=1) rfl (fm_lenn (l:=r_2.Rows) encI_len rfl) rfl rfl)
     have ho4:Org w0 (bl [O0]) [R4] [⟨B3,(r_2.Rows.flatMap encI)⟩]:=ST.orgOwn hS7 (i:=1) rfl
     have hcap3:r_2.Rows.length≤c3:=(hS7.lencap (i:=1) rfl (fm_lenn (l:=r_2.Rows) encI_len rfl) rfl rfl)
     let O1:Ob:=⟨B,74,[.slice B1 c.code.length c1,vi m3.at_,.int .u64 m3.seed],3⟩
     have hS29:ST w0 (bl [O0]) _ [O2,⟨aD b1,26,[.slice B3 r_2.Rows.length c3],1⟩,O1] [⟨B3,(r_2.Rows.flatMap encI)⟩,R4]:=hS7.freeze (i:=1) rfl
     have hv:(List.drop 1 r_2.Rows).length=(r_2.Rows.length-1):=(drop_len rfl)
     have hq1:(r_2.Rows.length-1)≤(c3-1):=by omega
     have ho3:Org w0 (bl [O0]) [R4] [⟨(sv B3 1 c3 1),((List.drop 1 r_2.Rows).flatMap encI)⟩]:=org_view encI_len (q:=c3) ho4 rfl (take_all rfl _)
     have hS30:ST w0 (bl [O0]) _ [O2,⟨aD b1,26,[.slice B3 r_2.Rows.length c3],1⟩,O1] [⟨(sv B3 1 c3 1),((List.drop 1 r_2.Rows).flatMap encI)⟩,⟨B3,(r_2.Rows.flatMap encI)⟩,R4]:=ST.view encI_len hS29 (i:=0) rfl (lo:=1) (h:=r_2.Rows.length) (q:=c3) (by omega) (by omega) rfl (take_all rfl _)
     refine sQ 32 (Y_slice1 (B:=B3) (m:=r_2.Rows.length) (c:=c3) (l:=1) (h:=r_2.Rows.length) (s:=1) K2 K0 rfl rfl rfl (bnd_some rfl rfl) (by omega) (by omega))<|sQ 33 (yd (aD b1) 0 0 K13 K8) ?_
     refine s0 (yT 1 1 (aD b1) 26 (.slice (sv B3 1 c3 1) (r_2.Rows.length-1) (c3-1)) [.slice (sv B3 1 c3 1) (r_2.Rows.length-1) (c3-1)] 0 hS30 K8) ?_
     rintro _ w_20 ⟨rfl,hS31⟩
     refine rn ?_
     have hS32:ST w0 (bl [O0]) _ [O2,⟨aD b1,26,[.slice (sv B3 1 c3 1) (r_2.Rows.length-1) (c3-1)],1⟩,O1] [⟨(sv B3 1 c3 1),((List.drop 1 r_2.Rows).flatMap encI)⟩,R4]:=hS31.sT [0,2]
     exact ⟨m3.at_,m3.seed,(List.drop 1 r_2.Rows),(sv B3 1 c3 1),(c3-1),(sI hF6),(fc rfl (fc rfl fn_)),ho3,(len_le hv hq1),(by rw [(hv:(List.drop 1 r_2.Rows).length=(r_2.Rows.length-1))]; exact hS32.sel [2,0,1] rfl rfl)⟩
    ·skip
     have hF7:=cf' hF5 hb2
     refine cw_skip ?_
     have ho5:Org w0 (bl [O0]) [R4] [⟨B3,(r_2.Rows.flatMap encI)⟩]:=ST.orgOwn hS7 (i:=1) rfl
     have hcap4:r_2.Rows.length≤c3:=(hS7.lencap (i:=1) rfl (fm_lenn (l:=r_2.Rows) encI_len rfl) rfl rfl)
     have hS33:ST w0 (bl [O0]) _ [O2,⟨aD b1,26,[.slice B3 r_2.Rows.length c3],1⟩,⟨B,74,[.slice B1 c.code.length c1,vi m3.at_,.int .u64 m3.seed],3⟩] [⟨B3,(r_2.Rows.flatMap encI)⟩,R4]:=hS7.freeze (i:=1) rfl
     exact ⟨m3.at_,m3.seed,r_2.Rows,B3,c3,(sI hF7),(fc rfl (fc rfl fn_)),ho5,(len_le rfl hcap4),(hS33.sel [2,0,1] rfl rfl)⟩
 rintro f w ⟨at_,seed,Rows,B4,c4,rfl,hf,ho,hq,hS6⟩
 refine cq (cr ?_)
 refine sQ 34 (yb (aD b1) 0 [.slice B4 Rows.length c4] K16 K6 (hS6.c 2) rfl (hf.g 3 1)) ?_
 refine s0 (yT 1 1 (aD b) 26 (.agg #[.slice B4 Rows.length c4]) [.slice B4 Rows.length c4] 0 hS6 K6 rfl (hf.g 2 0)) ?_
 rintro _ w_21 ⟨rfl,hS34⟩
 refine rn (ct_ ?_)
 obtain ⟨rfl,rfl⟩:=pr2 (sI hF1)
 exact ret1 Tryz.results101 (v1:=.agg #[.slice B4 Rows.length c4]) (resAt_cellA (B:=aD b) (i:=0) (cs:=[.slice B4 Rows.length c4]) (vs:=[.slice B4 Rows.length c4]) (hf.g 2 0) K16 K6 (hS34.c 1) rfl rfl) ⟨B4,c4,rfl,(len_le rfl hq),(org_cons ho org_nil),((hS34.sel [0] rfl rfl).sT [0])⟩

theorem NF (c:Ac) (B:Option Addr) (B1:Option Addr) (c1 n:Nat) (w0:World) (hn:c.code.length=n) (hS:ST w0 (bl [⟨B,74,[.slice B1 n c1,vi c.at_,.int .u64 c.seed],3⟩]) w0 [⟨B,74,[.slice B1 n c1,vi c.at_,.int .u64 c.seed],3⟩] [⟨B1,(c.code.flatMap enc_u8)⟩]) {r_:Ah} {m:Ac} (hF:Dv c=some (r_,m)) :
  CV Tryz.prog 55 #[pt B 0] w0 (fun v w'=>∃ (B2:Option Addr) (c2:Nat) (B3:Option Addr) (c3:Nat),v=.agg #[vi r_.Qubits,vi r_.Phase,.slice B2 r_.Terms.length c2,.slice B3 r_.Out.Rows.length c3]∧r_.Out.Rows.length≤c3∧Org w0 (bl [⟨B,74,[.slice B1 n c1,vi c.at_,.int .u64 c.seed],3⟩]) [⟨B1,(c.code.flatMap enc_u8)⟩] [⟨B3,(r_.Out.Rows.flatMap encI)⟩]∧ST w0 (bl [⟨B,74,[.slice B1 n c1,vi c.at_,.int .u64 c.seed],3⟩]) w' [⟨B,74,[.slice B1 n c1,vi m.at_,.int .u64 m.seed],3⟩,⟨B2,64,(r_.Terms.flatMap eN1),c2*2⟩] [⟨B3,(r_.Out.Rows.flatMap encI)⟩]):=by
 subst hn
 unfold Dv at hF
 refine cv_of_cw 40 Tryz.func55 rfl Tryz.ntmps55 rfl ?_
 refine cq (cr ?_)
 let V14:List Value:=[vi 0,vi 0,.slice none 0 0,.slice none 0 0]
 refine sS 2 (yN V14 4 hS K34) ?_
 rintro _ w_ ⟨b,rfl,hS1⟩
 refine rn (cq (cr ?_))
 refine sQ 4 (ym (pt B 0))<|sQ 5 (ym (pt B 0)) ?_
 obtain ⟨⟨r_1,m1⟩,hc,hF⟩:=bI hF
 refine sc 6 rfl rfl (yC [pt B 0,vi 5] K20 (Ak c 5 B B1 c1 c.code.length _ rfl (hS1.inn [true,false] rfl [(true,0)] rfl) hc)) ?_
 rintro _ w_1 ⟨rfl,hd⟩
 have hS2:=hS1.out [true,false] rfl hd
 refine sQ 7 (yP 1 r_1) ?_
 obtain ⟨⟨r_2,m2⟩,hc1,hF⟩:=bI hF
 refine sc 8 rfl rfl (yC [pt B 0,vi (i64.wrap (1+r_1))] Lf (NJ (Ac.mk c.code m1.at_ m1.seed) (i64.wrap (1+r_1)) B B1 c1 c.code.length _ rfl (hS2.inn [false,true] rfl [(true,0)] rfl) hc1)) ?_
 rintro _ w_2 ⟨B4,c4,B5,c5,rfl,hd1⟩
 have hS3:=hS2.out [false,true] rfl hd1
 refine sS 3 (yN V14 4 hS3 K34) ?_
 rintro _ w_3 ⟨b1,rfl,hS4⟩
 let V10:List Value:=[vi r_2.Qubits,vi r_2.Phase,.slice B4 r_2.Terms.length c4,.slice B5 r_2.Out.Rows.length c5]
 refine s0 (yT 4 4 (aD b1) 28 (.agg V10.toArray) V10 0 hS4 K25) ?_
 rintro _ w_4 ⟨rfl,hS5⟩
 refine rn (cq ?_)
 obtain ⟨z,hz,hF1⟩:=bI hF
 let O0:Ob:=⟨B,74,[.slice B1 c.code.length c1,vi c.at_,.int .u64 c.seed],3⟩
 let O1:Ob:=⟨aD b,28,V14,4⟩
 let R9:Ro:=⟨B1,(c.code.flatMap enc_u8)⟩
 refine cw_mid (fun f w=>∃ (at_:Int) (seed:Int) (Qubits:Int) (Phase:Int) (Terms:List Ab) (Out:List Int) (B6:Option Addr) (c6:Nat) (B7:Option Addr) (c7:Nat),(at_,seed,Qubits,Phase,Terms,Out)=z∧FF f [(2,pt (aD b) 0),(3,pt (aD b1) 0)]∧Org w0 (bl [O0]) [R9] [⟨B7,(Out.flatMap encI)⟩]∧Out.length≤c7∧ST w0 (bl [O0]) w [⟨B,74,[.slice B1 c.code.length c1,vi at_,.int .u64 seed],3⟩,O1,⟨aD b1,28,[vi Qubits,vi Phase,.slice B6 Terms.length c6,.slice B7 Out.length c7],4⟩,⟨B6,64,(Terms.flatMap eN1),c6*2⟩] [⟨B7,(Out.flatMap encI)⟩,R9]) ?_ ?_
 ·skip
  refine cq (cr ?_)
  refine sQ 9 (ym (pt B 0)) ?_
  obtain ⟨⟨r_3,m3⟩,hc2,hz⟩:=bI hz
  refine sc 10 rfl rfl (yC [pt B 0,vi 16] K20 (Ak (Ac.mk c.code m2.at_ m2.seed) 16 B B1 c1 c.code.length _ rfl (hS5.inn [false,true,false,false,false] rfl [(true,0)] rfl) hc2)) ?_
  rintro _ w_5 ⟨rfl,hd2⟩
  have hS7:=hS5.out [false,true,false,false,false] rfl hd2
  let O2:Ob:=⟨aD b1,28,V10,4⟩
  let O4:Ob:=⟨B4,64,(r_2.Terms.flatMap eN1),c4*2⟩
  let O5:Ob:=⟨B5,3,(r_2.Out.Rows.flatMap encI),c5*1⟩
  let O7:Ob:=⟨B,74,[.slice B1 c.code.length c1,vi m3.at_,.int .u64 m3.seed],3⟩
  have hS7:ST w0 (bl [O0]) _ [O1,O4,O5,O2,O7] [R9]:=hS7
  refine rn (cw_block (cq (cr ?_)))
  refine sQ 12 (yE r_3 0)<|sQ 11 (yg (.bool (r_3==0))) (rn ?_)
  refine cw_cond (b:=(r_3==0)) rfl (fun hb=>?_) (fun hb=>?_)
  ·skip
   have hF2:=ct hz hb
   refine cr ?_
   refine sQ 13 (ym (pt B 0)) ?_
   refine sS 14 (Ys_bslice (s:=1) (len:=3) (vs:=[(0,vi (-1)),(1,vi 8),(2,vi 0)]) (cs:=[vi (-1),vi 8,vi 0]) (zs:=[vi 0,vi 0,vi 0]) (m:=3) hS7 K2 K0 K24 rfl (mpc rfl (mpc rfl (mpc rfl mpn))) rfl rfl rfl (by kernel_rfl) (by kernel_rfl) rfl) ?_
   rintro _ w_6 ⟨b2,rfl,hS8⟩
   obtain ⟨⟨r_4,m4⟩,hc3,hF2⟩:=bI hF2
   refine sc 15 rfl rfl (yC [pt B 0,.slice (aD b2) 3 3] K91 (FR (Ac.mk c.code m3.at_ m3.seed) [(-1),8,0] B B1 c1 c.code.length (aD b2) 3 3 _ rfl rfl (hS8.inn [false,false,false,false,true,false] rfl [(true,0),(false,4)] rfl) hc3)) ?_
   rintro _ w_7 ⟨rfl,hd3⟩
   have hS9:=hS8.out [false,false,false,false,true,false] rfl hd3
   refine sQ 16 (yd (aD b1) 0 0 K63 K0) ?_
   let V12:List Value:=[vi r_2.Qubits,vi r_4,.slice B4 r_2.Terms.length c4,.slice B5 r_2.Out.Rows.length c5]
   refine s0 (yS 3 1 (aD b1) 28 (vi r_4) [vi r_4] 1 V12 hS9 K0) ?_
   rintro _ w_8 ⟨rfl,hS10⟩
   refine rn ?_
   have ho1:Org w0 (bl [O0]) [R9] [⟨B5,(r_2.Out.Rows.flatMap encI)⟩]:=ST.orgOwn hS10 (i:=2) rfl
   have hcap:r_2.Out.Rows.length≤c5:=(hS10.lencap (i:=2) rfl (fm_lenn (l:=r_2.Out.Rows) encI_len rfl) rfl rfl)
   have hS11:ST w0 (bl [O0]) _ [O1,O4,⟨aD b1,28,V12,4⟩,⟨aD b2,3,([(-1),8,0].flatMap encI),3*1⟩,⟨B,74,[.slice B1 c.code.length c1,vi m4.at_,.int .u64 m4.seed],3⟩] [⟨B5,(r_2.Out.Rows.flatMap encI)⟩,R9]:=hS10.freeze (i:=2) rfl
   exact ⟨m4.at_,m4.seed,r_2.Qubits,r_4,r_2.Terms,r_2.Out.Rows,B4,c4,B5,c5,(sI hF2),(fc rfl (fc rfl fn_)),ho1,(len_le rfl hcap),(hS11.sel [4,0,2,1] rfl rfl)⟩
  ·skip
   have hF3:=cf' hz hb
   refine cq (cr ?_)
   refine sQ 18 (yE r_3 1)<|sQ 17 (yg (.bool (r_3==1))) (rn ?_)
   refine cw_cond (b:=(r_3==1)) rfl (fun hb1=>?_) (fun hb1=>?_)
   ·skip
    have hF4:=ct hF3 hb1
    obtain ⟨⟨r_5,m5⟩,hc4,hF4⟩:=bI hF4
    obtain ⟨⟨r_6,m6⟩,hc5,hF4⟩:=bI hF4
    obtain ⟨hap,hF4⟩:=chk_inv hF4
    let O3:Ob:=⟨B,74,[.slice B1 c.code.length c1,vi m6.at_,.int .u64 m6.seed],3⟩
    refine cw_mid (fun f w=>∃ (B9:Option Addr) (c9:Nat),FF f [(2,pt (aD b) 0),(3,pt (aD b1) 0)]∧ST w0 (bl [O0]) w [O3,O1,⟨aD b1,28,[vi r_2.Qubits,vi r_2.Phase,.slice B9 ((r_2.Terms++[(Ab.mk r_5 r_6)]).length) c9,.slice B5 r_2.Out.Rows.length c5],4⟩,⟨B9,64,((r_2.Terms++[(Ab.mk r_5 r_6)]).flatMap eN1),c9*2⟩,O5] [R9]) ?_ ?_
    ·skip
     refine ra_start (hS7.se [0,2]).fn (by kernel_rfl) ?_
     have hS15:=hS7.drew
     have hQ0:=hS15.se [0,2]
     refine rq 0 19 (v:=pt (aD b1) 2) rfl hQ0 (fun w' hw'=>(yd (aD b1) 0 0 K43 K35))<|rq 2 21 rfl hQ0 (fun w' hw'=>(ym (pt B 0)))<|rq 4 23 rfl hQ0 (fun w' hw'=>(ym (pt B 0))) ?_
     refine rA [1,3] ?_
     refine ry 20 1 rfl (yl (aD b1) 2 V10 (.slice B4 r_2.Terms.length c4) K42 (hS15.c 3)) hQ0 ?_ ?_
     ·skip
      refine rA [3] ?_
      refine rC 22 3 rfl (yC [pt B 0,vi 33] K20 (Ak (Ac.mk c.code m3.at_ m3.seed) 33 B B1 c1 c.code.length _ rfl (hS15.inn [false,false,false,false,true] rfl [(true,0)] rfl) hc4)) ?_ aN
      rintro _ w_9 ⟨rfl,hd4⟩
      have hS16:=hS15.out [false,false,false,false,true] rfl hd4
      refine ⟨(hS16.se [0,2]),?_⟩
      refine rA [5] ?_
      refine rC 24 5 rfl (yC [pt B 0,vi 9] K20 (Ak (Ac.mk c.code m5.at_ m5.seed) 9 B B1 c1 c.code.length _ rfl (hS16.inn [false,false,false,false,true] rfl [(true,0)] rfl) hc5)) ?_ aN
      rintro _ w_10 ⟨rfl,hd5⟩
      have hS17:=hS16.out [false,false,false,false,true] rfl hd5
      refine ⟨(hS17.se [0,2]),?_⟩
      refine rq 6 25 (v:=.agg #[vi r_5,vi r_6]) rfl (hS17.se [0,2]) (fun w' hw'=>(Y_buildS (zs:=[vi 0,vi 0]) (vs:=[(0,vi r_5),(1,vi r_6)]) (cs:=[vi r_5,vi r_6]) K74 K37 rfl (mpc rfl (mpc rfl mpn)) rfl)) ?_
      refine rA [7] ?_
      refine rS 26 7 rfl (Ys_bslice (s:=2) (len:=1) (vs:=[(0,.agg #[vi r_5,vi r_6])]) (cs:=[vi r_5,vi r_6]) (zs:=[vi 0,vi 0]) (m:=2) hS17 K14 K15 K70 rfl (mpc rfl mpn) rfl rfl rfl (by kernel_rfl) (by kernel_rfl) rfl) ?_ aN
      rintro _ w_11 ⟨b3,rfl,hS18⟩
      have hS18:ST w0 (bl [O0]) _ [O1,O4,O5,O2,O3,⟨aD b3,64,([(Ab.mk r_5 r_6)].flatMap eN1),1*2⟩] [R9]:=hS18
      refine ⟨(hS18.se [0,2]),?_⟩
      refine rA [8] ?_
      refine rS 27 8 rfl (Ys_append (s:=2) (by':=16) (i:=1) (nn:=r_2.Terms.length) (c:=c4) (k:=1) (len:=(r_2.Terms++[(Ab.mk r_5 r_6)]).length) (B:=B4) (xs:=([(Ab.mk r_5 r_6)].flatMap eN1)) (cs':=((r_2.Terms++[(Ab.mk r_5 r_6)]).flatMap eN1)) hS18 K14 K15 K67 K37 rfl (by decide) rfl rfl rfl rfl (fm_lenn (l:=r_2.Terms) eN3 rfl) rfl (hS18.c 5) (fm_lenn (l:=[(Ab.mk r_5 r_6)]) eN3 rfl) (fm_one' (enc:=eN1) BN [(Ab.mk r_5 r_6)]) (by have:=hap; omega) (by have:=hap; simp only [maxLen]; omega) (fm_app _ _) (app_len (l:=r_2.Terms) (l':=[(Ab.mk r_5 r_6)]) rfl rfl)) ?_ aN
      rintro _ w_12 ⟨B8,c8,rfl,hS19⟩
      refine ⟨(hS19.se [0,2]),?_⟩
      refine rq 9 28 (v:=pt (aD b1) 2) rfl (hS19.se [0,2]) (fun w' hw'=>(yd (aD b1) 0 0 K43 K35)) ?_
      refine rA [10] ?_
      refine rZ 10 rfl (yS 3 1 (aD b1) 28 (.slice B8 ((r_2.Terms++[(Ab.mk r_5 r_6)]).length) c8) [.slice B8 ((r_2.Terms++[(Ab.mk r_5 r_6)]).length) c8] 2 [vi r_2.Qubits,vi r_2.Phase,.slice B8 ((r_2.Terms++[(Ab.mk r_5 r_6)]).length) c8,.slice B5 r_2.Out.Rows.length c5] hS19 K35) ?_ aN
      rintro _ w_13 ⟨rfl,hS20⟩
      refine ⟨(hS20.se [0,2]),?_⟩
      refine ra_done (by kernel_rfl) ?_
      exact ⟨B8,c8,(fc rfl (fc rfl fn_)),(hS20.sel [4,0,3,1,2] rfl rfl)⟩
     refine rC 22 3 rfl (yC [pt B 0,vi 33] K20 (Ak (Ac.mk c.code m3.at_ m3.seed) 33 B B1 c1 c.code.length _ rfl (hS15.inn [false,false,false,false,true] rfl [(true,0)] rfl) hc4)) ?_ aN
     rintro _ w_14 ⟨rfl,hd6⟩
     have hS21:=hS15.out [false,false,false,false,true] rfl hd6
     refine ⟨(hS21.se [0,2]),?_⟩
     refine rA [1,5] ?_
     refine ry 20 1 rfl (yl (aD b1) 2 V10 (.slice B4 r_2.Terms.length c4) K42 (hS21.c 3)) (hS21.se [0,2]) ?_ ?_
     ·skip
      refine rA [5] ?_
      refine rC 24 5 rfl (yC [pt B 0,vi 9] K20 (Ak (Ac.mk c.code m5.at_ m5.seed) 9 B B1 c1 c.code.length _ rfl (hS21.inn [false,false,false,false,true] rfl [(true,0)] rfl) hc5)) ?_ aN
      rintro _ w_15 ⟨rfl,hd7⟩
      have hS22:=hS21.out [false,false,false,false,true] rfl hd7
      refine ⟨(hS22.se [0,2]),?_⟩
      refine rq 6 25 (v:=.agg #[vi r_5,vi r_6]) rfl (hS22.se [0,2]) (fun w' hw'=>(Y_buildS (zs:=[vi 0,vi 0]) (vs:=[(0,vi r_5),(1,vi r_6)]) (cs:=[vi r_5,vi r_6]) K74 K37 rfl (mpc rfl (mpc rfl mpn)) rfl)) ?_
      refine rA [7] ?_
      refine rS 26 7 rfl (Ys_bslice (s:=2) (len:=1) (vs:=[(0,.agg #[vi r_5,vi r_6])]) (cs:=[vi r_5,vi r_6]) (zs:=[vi 0,vi 0]) (m:=2) hS22 K14 K15 K70 rfl (mpc rfl mpn) rfl rfl rfl (by kernel_rfl) (by kernel_rfl) rfl) ?_ aN
      rintro _ w_16 ⟨b3,rfl,hS23⟩
      refine ⟨(hS23.se [0,2]),?_⟩
      refine rA [8] ?_
      refine rS 27 8 rfl (Ys_append (s:=2) (by':=16) (i:=1) (nn:=r_2.Terms.length) (c:=c4) (k:=1) (len:=(r_2.Terms++[(Ab.mk r_5 r_6)]).length) (B:=B4) (xs:=([(Ab.mk r_5 r_6)].flatMap eN1)) (cs':=((r_2.Terms++[(Ab.mk r_5 r_6)]).flatMap eN1)) hS23 K14 K15 K67 K37 rfl (by decide) rfl rfl rfl rfl (fm_lenn (l:=r_2.Terms) eN3 rfl) rfl (hS23.c 5) (fm_lenn (l:=[(Ab.mk r_5 r_6)]) eN3 rfl) (fm_one' (enc:=eN1) BN [(Ab.mk r_5 r_6)]) (by have:=hap; omega) (by have:=hap; simp only [maxLen]; omega) (fm_app _ _) (app_len (l:=r_2.Terms) (l':=[(Ab.mk r_5 r_6)]) rfl rfl)) ?_ aN
      rintro _ w_17 ⟨B8,c8,rfl,hS24⟩
      have hS24:ST w0 (bl [O0]) _ [O1,⟨B8,64,((r_2.Terms++[(Ab.mk r_5 r_6)]).flatMap eN1),c8*2⟩,O5,O2,O3,⟨aD b3,64,([(Ab.mk r_5 r_6)].flatMap eN1),1*2⟩] [R9]:=hS24
      refine ⟨(hS24.se [0,2]),?_⟩
      refine rq 9 28 (v:=pt (aD b1) 2) rfl (hS24.se [0,2]) (fun w' hw'=>(yd (aD b1) 0 0 K43 K35)) ?_
      refine rA [10] ?_
      refine rZ 10 rfl (yS 3 1 (aD b1) 28 (.slice B8 ((r_2.Terms++[(Ab.mk r_5 r_6)]).length) c8) [.slice B8 ((r_2.Terms++[(Ab.mk r_5 r_6)]).length) c8] 2 [vi r_2.Qubits,vi r_2.Phase,.slice B8 ((r_2.Terms++[(Ab.mk r_5 r_6)]).length) c8,.slice B5 r_2.Out.Rows.length c5] hS24 K35) ?_ aN
      rintro _ w_18 ⟨rfl,hS25⟩
      refine ⟨(hS25.se [0,2]),?_⟩
      refine ra_done (by kernel_rfl) ?_
      exact ⟨B8,c8,(fc rfl (fc rfl fn_)),(hS25.sel [4,0,3,1,2] rfl rfl)⟩
     refine rC 24 5 rfl (yC [pt B 0,vi 9] K20 (Ak (Ac.mk c.code m5.at_ m5.seed) 9 B B1 c1 c.code.length _ rfl (hS21.inn [false,false,false,false,true] rfl [(true,0)] rfl) hc5)) ?_ aN
     rintro _ w_19 ⟨rfl,hd8⟩
     have hS26:=hS21.out [false,false,false,false,true] rfl hd8
     have hQ1:=hS26.se [0,2]
     refine ⟨hQ1,?_⟩
     refine rq 6 25 (v:=.agg #[vi r_5,vi r_6]) rfl hQ1 (fun w' hw'=>(Y_buildS (zs:=[vi 0,vi 0]) (vs:=[(0,vi r_5),(1,vi r_6)]) (cs:=[vi r_5,vi r_6]) K74 K37 rfl (mpc rfl (mpc rfl mpn)) rfl)) ?_
     refine rA [1,7] ?_
     refine ry 20 1 rfl (yl (aD b1) 2 V10 (.slice B4 r_2.Terms.length c4) K42 (hS26.c 3)) hQ1 ?_ ?_
     ·skip
      refine rA [7] ?_
      refine rS 26 7 rfl (Ys_bslice (s:=2) (len:=1) (vs:=[(0,.agg #[vi r_5,vi r_6])]) (cs:=[vi r_5,vi r_6]) (zs:=[vi 0,vi 0]) (m:=2) hS26 K14 K15 K70 rfl (mpc rfl mpn) rfl rfl rfl (by kernel_rfl) (by kernel_rfl) rfl) ?_ aN
      rintro _ w_20 ⟨b3,rfl,hS27⟩
      refine ⟨(hS27.se [0,2]),?_⟩
      refine rA [8] ?_
      refine rS 27 8 rfl (Ys_append (s:=2) (by':=16) (i:=1) (nn:=r_2.Terms.length) (c:=c4) (k:=1) (len:=(r_2.Terms++[(Ab.mk r_5 r_6)]).length) (B:=B4) (xs:=([(Ab.mk r_5 r_6)].flatMap eN1)) (cs':=((r_2.Terms++[(Ab.mk r_5 r_6)]).flatMap eN1)) hS27 K14 K15 K67 K37 rfl (by decide) rfl rfl rfl rfl (fm_lenn (l:=r_2.Terms) eN3 rfl) rfl (hS27.c 5) (fm_lenn (l:=[(Ab.mk r_5 r_6)]) eN3 rfl) (fm_one' (enc:=eN1) BN [(Ab.mk r_5 r_6)]) (by have:=hap; omega) (by have:=hap; simp only [maxLen]; omega) (fm_app _ _) (app_len (l:=r_2.Terms) (l':=[(Ab.mk r_5 r_6)]) rfl rfl)) ?_ aN
      rintro _ w_21 ⟨B8,c8,rfl,hS28⟩
      refine ⟨(hS28.se [0,2]),?_⟩
      refine rq 9 28 (v:=pt (aD b1) 2) rfl (hS28.se [0,2]) (fun w' hw'=>(yd (aD b1) 0 0 K43 K35)) ?_
      refine rA [10] ?_
      refine rZ 10 rfl (yS 3 1 (aD b1) 28 (.slice B8 ((r_2.Terms++[(Ab.mk r_5 r_6)]).length) c8) [.slice B8 ((r_2.Terms++[(Ab.mk r_5 r_6)]).length) c8] 2 [vi r_2.Qubits,vi r_2.Phase,.slice B8 ((r_2.Terms++[(Ab.mk r_5 r_6)]).length) c8,.slice B5 r_2.Out.Rows.length c5] hS28 K35) ?_ aN
      rintro _ w_22 ⟨rfl,hS29⟩
      refine ⟨(hS29.se [0,2]),?_⟩
      refine ra_done (by kernel_rfl) ?_
      exact ⟨B8,c8,(fc rfl (fc rfl fn_)),(hS29.sel [4,0,3,1,2] rfl rfl)⟩
     refine rS 26 7 rfl (Ys_bslice (s:=2) (len:=1) (vs:=[(0,.agg #[vi r_5,vi r_6])]) (cs:=[vi r_5,vi r_6]) (zs:=[vi 0,vi 0]) (m:=2) hS26 K14 K15 K70 rfl (mpc rfl mpn) rfl rfl rfl (by kernel_rfl) (by kernel_rfl) rfl) ?_ aN
     rintro _ w_23 ⟨b3,rfl,hS30⟩
     have hS30:ST w0 (bl [O0]) _ [O1,O4,O5,O2,O3,⟨aD b3,64,([(Ab.mk r_5 r_6)].flatMap eN1),1*2⟩] [R9]:=hS30
     refine ⟨(hS30.se [0,2]),?_⟩
     refine r1 20 1 rfl (yl (aD b1) 2 V10 (.slice B4 r_2.Terms.length c4) K42 (hS30.c 3)) (hS30.se [0,2]) ?_
     refine rA [8] ?_
     refine rS 27 8 rfl (Ys_append (s:=2) (by':=16) (i:=1) (nn:=r_2.Terms.length) (c:=c4) (k:=1) (len:=(r_2.Terms++[(Ab.mk r_5 r_6)]).length) (B:=B4) (xs:=([(Ab.mk r_5 r_6)].flatMap eN1)) (cs':=((r_2.Terms++[(Ab.mk r_5 r_6)]).flatMap eN1)) hS30 K14 K15 K67 K37 rfl (by decide) rfl rfl rfl rfl (fm_lenn (l:=r_2.Terms) eN3 rfl) rfl (hS30.c 5) (fm_lenn (l:=[(Ab.mk r_5 r_6)]) eN3 rfl) (fm_one' (enc:=eN1) BN [(Ab.mk r_5 r_6)]) (by have:=hap; omega) (by have:=hap; simp only [maxLen]; omega) (fm_app _ _) (app_len (l:=r_2.Terms) (l':=[(Ab.mk r_5 r_6)]) rfl rfl)) ?_ aN
     rintro _ w_24 ⟨B8,c8,rfl,hS31⟩
     refine ⟨(hS31.se [0,2]),?_⟩
     refine rq 9 28 (v:=pt (aD b1) 2) rfl (hS31.se [0,2]) (fun w' hw'=>(yd (aD b1) 0 0 K43 K35)) ?_
     refine rA [10] ?_
     refine rZ 10 rfl (yS 3 1 (aD b1) 28 (.slice B8 ((r_2.Terms++[(Ab.mk r_5 r_6)]).length) c8) [.slice B8 ((r_2.Terms++[(Ab.mk r_5 r_6)]).length) c8] 2 [vi r_2.Qubits,vi r_2.Phase,.slice B8 ((r_2.Terms++[(Ab.mk r_5 r_6)]).length) c8,.slice B5 r_2.Out.Rows.length c5] hS31 K35) ?_ aN
     rintro _ w_25 ⟨rfl,hS32⟩
     refine ⟨(hS32.se [0,2]),?_⟩
     refine ra_done (by kernel_rfl) ?_
     exact ⟨B8,c8,(fc rfl (fc rfl fn_)),(hS32.sel [4,0,3,1,2] rfl rfl)⟩
    rintro f w ⟨B9,c9,hf1,hS14⟩
    have ho2:Org w0 (bl [O0]) [R9] [⟨B5,(r_2.Out.Rows.flatMap encI)⟩]:=ST.orgOwn hS14 (i:=4) rfl
    have hcap1:r_2.Out.Rows.length≤c5:=(hS14.lencap (i:=4) rfl (fm_lenn (l:=r_2.Out.Rows) encI_len rfl) rfl rfl)
    have hS33:ST w0 (bl [O0]) _ [O3,O1,⟨aD b1,28,[vi r_2.Qubits,vi r_2.Phase,.slice B9 ((r_2.Terms++[(Ab.mk r_5 r_6)]).length) c9,.slice B5 r_2.Out.Rows.length c5],4⟩,⟨B9,64,((r_2.Terms++[(Ab.mk r_5 r_6)]).flatMap eN1),c9*2⟩] [⟨B5,(r_2.Out.Rows.flatMap encI)⟩,R9]:=hS14.freeze (i:=4) rfl
    exact ⟨m6.at_,m6.seed,r_2.Qubits,r_2.Phase,(r_2.Terms++[(Ab.mk r_5 r_6)]),r_2.Out.Rows,B9,c9,B5,c5,(sI hF4),(hf1.a 2 0 (hf1.a 3 1 fn_)),ho2,(len_le rfl hcap1),(hS33.sel [0,1,2,3] rfl rfl)⟩
   ·skip
    have hF5:=cf' hF3 hb1
    refine cq (cr ?_)
    refine sQ 30 (yE r_3 2)<|sQ 29 (yg (.bool (r_3==2))) (rn ?_)
    refine cw_cond (b:=(r_3==2)) rfl (fun hb2=>?_) (fun hb2=>?_)
    ·skip
     have hF6:=ct hF5 hb2
     refine cr ?_
     refine sQ 31 (ym (pt B 0)) ?_
     obtain ⟨⟨r_7,m7⟩,hc6,hF6⟩:=bI hF6
     refine sc 32 rfl rfl (yC [pt B 0] MN (KR (Ac.mk c.code m3.at_ m3.seed) B B1 c1 c.code.length _ rfl (hS7.inn [false,false,false,false,true] rfl [(true,0)] rfl) hc6)) ?_
     rintro _ w_26 ⟨B10,c10,rfl,hq1,ho3,hd9⟩
     have hS34:=ST.outR hS7 [false,false,false,false,true] rfl hd9 ho3 (sk 0 (fun _ h=>by cases h))
     have ho4:Org w0 (bl [O0]) [R9] [⟨B10,(r_7.Rows.flatMap encI)⟩]:=org_trans hS7 (msk_mem (mask:=[false,false,false,false,true]) rfl) ho3 (org_cons (org_mem (i:=0) rfl) org_nil)
     have hS35:ST w0 (bl [O0]) _ [O1,O4,O5,O2,⟨B,74,[.slice B1 c.code.length c1,vi m7.at_,.int .u64 m7.seed],3⟩] [⟨B10,(r_7.Rows.flatMap encI)⟩,R9]:=hS34
     refine sQ 33 (yd (aD b1) 0 0 K59 K6) ?_
     refine s0 (yS 3 1 (aD b1) 28 (.agg #[.slice B10 r_7.Rows.length c10]) [.slice B10 r_7.Rows.length c10] 3 [vi r_2.Qubits,vi r_2.Phase,.slice B4 r_2.Terms.length c4,.slice B10 r_7.Rows.length c10] hS35 K6) ?_
     rintro _ w_27 ⟨rfl,hS36⟩
     refine rn ?_
     exact ⟨m7.at_,m7.seed,r_2.Qubits,r_2.Phase,r_2.Terms,r_7.Rows,B4,c4,B10,c10,(sI hF6),(fc rfl (fc rfl fn_)),(org_sub ho4 (sk 0 (fun _ h=>by cases h))),(len_le rfl hq1),(hS36.sel [4,0,3,1] rfl rfl)⟩
    ·skip
     have hF7:=cf' hF5 hb2
     refine cq (cr ?_)
     refine sQ 35 (yE r_3 3)<|sQ 34 (yg (.bool (r_3==3))) (rn ?_)
     refine cw_cond (b:=(r_3==3)) rfl (fun hb3=>?_) (fun hb3=>?_)
     ·skip
      have hF8:=ct hF7 hb3
      refine cr ?_
      refine sQ 36 (ym (pt B 0)) ?_
      obtain ⟨⟨r_8,m8⟩,hc7,hF8⟩:=bI hF8
      refine sc 37 rfl rfl (yC [pt B 0,vi 7] K20 (Ak (Ac.mk c.code m3.at_ m3.seed) 7 B B1 c1 c.code.length _ rfl (hS7.inn [false,false,false,false,true] rfl [(true,0)] rfl) hc7)) ?_
      rintro _ w_28 ⟨rfl,hd10⟩
      have hS37:=hS7.out [false,false,false,false,true] rfl hd10
      refine sQ 38 (yd (aD b1) 0 0 K44 K0) ?_
      let V13:List Value:=[vi r_8,vi r_2.Phase,.slice B4 r_2.Terms.length c4,.slice B5 r_2.Out.Rows.length c5]
      refine s0 (yS 3 1 (aD b1) 28 (vi r_8) [vi r_8] 0 V13 hS37 K0) ?_
      rintro _ w_29 ⟨rfl,hS38⟩
      let O6:Ob:=⟨aD b1,28,V13,4⟩
      let O8:Ob:=⟨B,74,[.slice B1 c.code.length c1,vi m8.at_,.int .u64 m8.seed],3⟩
      have hS38:ST w0 (bl [O0]) _ [O1,O4,O5,O6,O8] [R9]:=hS38
      refine rn ?_
      have ho5:Org w0 (bl [O0]) [R9] [⟨B5,(r_2.Out.Rows.flatMap encI)⟩]:=ST.orgOwn hS38 (i:=2) rfl
      have hcap2:r_2.Out.Rows.length≤c5:=(hS38.lencap (i:=2) rfl (fm_lenn (l:=r_2.Out.Rows) encI_len rfl) rfl rfl)
      have hS39:ST w0 (bl [O0]) _ [O1,O4,O6,O8] [⟨B5,(r_2.Out.Rows.flatMap encI)⟩,R9]:=hS38.freeze (i:=2) rfl
      exact ⟨m8.at_,m8.seed,r_8,r_2.Phase,r_2.Terms,r_2.Out.Rows,B4,c4,B5,c5,(sI hF8),(fc rfl (fc rfl fn_)),ho5,(len_le rfl hcap2),(hS39.sel [3,0,2,1] rfl rfl)⟩
     ·skip
      have hF9:=cf' hF7 hb3
      refine cw_skip ?_
      have ho6:Org w0 (bl [O0]) [R9] [⟨B5,(r_2.Out.Rows.flatMap encI)⟩]:=ST.orgOwn hS7 (i:=2) rfl
      have hcap3:r_2.Out.Rows.length≤c5:=(hS7.lencap (i:=2) rfl (fm_lenn (l:=r_2.Out.Rows) encI_len rfl) rfl rfl)
      have hS40:ST w0 (bl [O0]) _ [O1,O4,O2,O7] [⟨B5,(r_2.Out.Rows.flatMap encI)⟩,R9]:=hS7.freeze (i:=2) rfl
      exact ⟨m3.at_,m3.seed,r_2.Qubits,r_2.Phase,r_2.Terms,r_2.Out.Rows,B4,c4,B5,c5,(sI hF9),(fc rfl (fc rfl fn_)),ho6,(len_le rfl hcap3),(hS40.sel [3,0,2,1] rfl rfl)⟩
 rintro f w ⟨at_,seed,Qubits,Phase,Terms,Out,B6,c6,B7,c7,rfl,hf,ho,hq,hS6⟩
 refine cq (cr ?_)
 let V11:List Value:=[vi Qubits,vi Phase,.slice B6 Terms.length c6,.slice B7 Out.length c7]
 refine sQ 39 (yb (aD b1) 0 V11 K39 K25 (hS6.c 2) rfl (hf.g 3 1)) ?_
 refine s0 (yT 1 4 (aD b) 28 (.agg V11.toArray) V11 0 hS6 K25 rfl (hf.g 2 0)) ?_
 rintro _ w_30 ⟨rfl,hS41⟩
 refine rn (ct_ ?_)
 obtain ⟨rfl,rfl⟩:=pr2 (sI hF1)
 exact ret1 Tryz.results55 (v1:=.agg V11.toArray) (resAt_cellA (B:=aD b) (i:=0) (cs:=V11) (vs:=V11) (hf.g 2 0) K39 K25 (hS41.c 1) rfl rfl) ⟨B6,c6,B7,c7,rfl,(len_le rfl hq),(org_cons ho org_nil),((hS41.sel [0,3] rfl rfl).sT [0])⟩

theorem Mz (code:List Int) (B:Option Addr) (c n:Nat) (w0:World) (hn:code.length=n) (hS:ST w0 [] w0 [] [⟨B,(code.flatMap enc_u8)⟩]) {r_:Ah} (hF:Fs code=some r_) :
  CV Tryz.prog 16 #[.slice B n c] w0 (fun v w'=>∃ (B1:Option Addr) (c1:Nat) (B2:Option Addr) (c2:Nat),v=.agg #[vi r_.Qubits,vi r_.Phase,.slice B1 r_.Terms.length c1,.slice B2 r_.Out.Rows.length c2]∧r_.Out.Rows.length≤c2∧Org w0 [] [⟨B,(code.flatMap enc_u8)⟩] [⟨B2,(r_.Out.Rows.flatMap encI)⟩]∧ST w0 [] w' [⟨B1,64,(r_.Terms.flatMap eN1),c1*2⟩] [⟨B2,(r_.Out.Rows.flatMap encI)⟩]):=by
 subst hn
 unfold Fs at hF
 refine cv_of_cw 9 Tryz.func16 rfl Tryz.ntmps16 rfl ?_
 refine cq (cr ?_)
 refine sS 2 (yN [vi 0,vi 0,.slice none 0 0,.slice none 0 0] 4 hS K34) ?_
 rintro _ w_ ⟨b,rfl,hS1⟩
 refine rn (cq (cr ?_))
 let V1:List Value:=[.slice B code.length c,vi 0,.int .u64 0]
 refine sQ 4 (ym (.slice B code.length c))<|sQ 5 (Y_buildS (zs:=[.slice none 0 0,vi 0,.int .u64 0]) (vs:=[(0,.slice B code.length c)]) (cs:=V1) JW J6 rfl (mpc rfl mpn) rfl) ?_
 refine sS 6 (yB 74 (.agg V1.toArray) V1 3 hS1) ?_
 rintro _ w_1 ⟨b1,rfl,hS2⟩
 refine sQ 3 (yg (pt (aD b1) 0)) (rn (cq (cr ?_)))
 refine sQ 7 (ym (pt (aD b1) 0)) ?_
 obtain ⟨⟨r_1,m⟩,hc,hF⟩:=bI hF
 refine sc 8 rfl rfl (yC [pt (aD b1) 0] PP (NF (Ac.mk code 0 0) (aD b1) B c code.length _ rfl (hS2.inn [false,true] rfl [(true,0)] rfl) hc)) ?_
 rintro _ w_2 ⟨B3,c3,B4,c4,rfl,hq,ho,hd⟩
 have hS3:=ST.outR hS2 [false,true] rfl hd ho (sk 0 (fun _ h=>by cases h))
 have ho1:Org w0 [] [⟨B,(code.flatMap enc_u8)⟩] [⟨B4,(r_1.Out.Rows.flatMap encI)⟩]:=org_trans hS2 (msk_mem (mask:=[false,true]) rfl) ho (org_cons (org_mem (i:=0) rfl) org_nil)
 have hS4:ST w0 [] _ [⟨aD b,28,[vi 0,vi 0,.slice none 0 0,.slice none 0 0],4⟩,⟨aD b1,74,[.slice B code.length c,vi m.at_,.int .u64 m.seed],3⟩,⟨B3,64,(r_1.Terms.flatMap eN1),c3*2⟩] [⟨B4,(r_1.Out.Rows.flatMap encI)⟩,⟨B,(code.flatMap enc_u8)⟩]:=hS3
 let V0:List Value:=[vi r_1.Qubits,vi r_1.Phase,.slice B3 r_1.Terms.length c3,.slice B4 r_1.Out.Rows.length c4]
 refine s0 (yT 0 4 (aD b) 28 (.agg V0.toArray) V0 0 hS4 K25) ?_
 rintro _ w_3 ⟨rfl,hS5⟩
 refine rn (ct_ ?_)
 obtain rfl:=sI hF
 exact ret1 Tryz.results16 (v1:=.agg V0.toArray) (resAt_cellA (B:=aD b) (i:=0) (cs:=V0) (vs:=V0) rfl K39 K25 (hS5.c 0) rfl rfl) ⟨B3,c3,B4,c4,rfl,(len_le rfl hq),(org_cons (org_sub ho1 (sk 0 (fun _ h=>by cases h))) org_nil),((hS5.sel [2] rfl rfl).sT [0])⟩

theorem Mp (code:List Int) (B:Option Addr) (c n:Nat) (w0:World) (hn:code.length=n) (hS:ST w0 [] w0 [] [⟨B,(code.flatMap enc_u8)⟩]) {r_:Ah} (hF:Dd code=some r_) :
  CV Tryz.prog 4 #[.slice B n c] w0 (fun v w'=>∃ (B1:Option Addr) (c1:Nat) (B2:Option Addr) (c2:Nat),v=.agg #[vi r_.Qubits,vi r_.Phase,.slice B1 r_.Terms.length c1,.slice B2 r_.Out.Rows.length c2]∧r_.Out.Rows.length≤c2∧Org w0 [] [⟨B,(code.flatMap enc_u8)⟩] [⟨B2,(r_.Out.Rows.flatMap encI)⟩]∧ST w0 [] w' [⟨B1,64,(r_.Terms.flatMap eN1),c1*2⟩] [⟨B2,(r_.Out.Rows.flatMap encI)⟩]):=by
 subst hn
 unfold Dd at hF
 refine cv_of_cw 5 Tryz.func4 rfl Tryz.ntmps4 rfl ?_
 refine cq (cr ?_)
 refine sS 2 (yN [vi 0,vi 0,.slice none 0 0,.slice none 0 0] 4 hS K34) ?_
 rintro _ w_ ⟨b,rfl,hS1⟩
 refine rn (cq (cr ?_))
 refine sQ 3 (ym (.slice B code.length c)) ?_
 obtain ⟨r_1,hc,hF⟩:=bI hF
 refine sc 4 rfl rfl (yC [.slice B code.length c] Mb (Mz code B c code.length _ rfl (hS1.inn0 [(true,0)] rfl) hc)) ?_
 rintro _ w_1 ⟨B3,c3,B4,c4,rfl,hq,ho,hd⟩
 have hS2:=ST.outR0 hS1 hd ho (sk 0 (fun _ h=>by cases h))
 have ho1:Org w0 [] [⟨B,(code.flatMap enc_u8)⟩] [⟨B4,(r_1.Out.Rows.flatMap encI)⟩]:=org_trans0 hS1 ho (org_cons (org_mem (i:=0) rfl) org_nil)
 have hS3:ST w0 [] _ [⟨aD b,28,[vi 0,vi 0,.slice none 0 0,.slice none 0 0],4⟩,⟨B3,64,(r_1.Terms.flatMap eN1),c3*2⟩] [⟨B4,(r_1.Out.Rows.flatMap encI)⟩,⟨B,(code.flatMap enc_u8)⟩]:=hS2
 let V0:List Value:=[vi r_1.Qubits,vi r_1.Phase,.slice B3 r_1.Terms.length c3,.slice B4 r_1.Out.Rows.length c4]
 refine s0 (yT 0 4 (aD b) 28 (.agg V0.toArray) V0 0 hS3 K25) ?_
 rintro _ w_2 ⟨rfl,hS4⟩
 refine rn (ct_ ?_)
 obtain rfl:=sI hF
 exact ret1 Tryz.results4 (v1:=.agg V0.toArray) (resAt_cellA (B:=aD b) (i:=0) (cs:=V0) (vs:=V0) rfl K39 K25 (hS4.c 0) rfl rfl) ⟨B3,c3,B4,c4,rfl,(len_le rfl hq),(org_cons (org_sub ho1 (sk 0 (fun _ h=>by cases h))) org_nil),((hS4.sel [1] rfl rfl).sT [0])⟩

theorem AV (n:Int) (low:Int) (high:Int)  (w0:World)  (hS:ST w0 [] w0 [] []) {r_:Bool} (hF:A2 n low high=some r_) :
  CV Tryz.prog 56 #[vi n,vi low,vi high] w0 (fun v w'=>v=.bool r_∧ST w0 [] w' [] []):=by
 unfold A2 at hF
 refine cv_of_cw 15 Tryz.func56 rfl Tryz.ntmps56 rfl ?_
 refine cq (cr ?_)
 refine sQ 6 (yg (.bool false)) (rn (cq (cr ?_)))
 refine sQ 7 (ym (vi low))<|sQ 8 (ym (vi n))<|sQ 9 (Y_le (k:=.i64) (a:=low) (b:=n) rfl rfl rfl)<|sQ 10 (ym (.bool (decide (low≤n)))) ?_
 refine sgq 11 (B:=(decide (low≤n))) rfl rfl (uT_ 10) (fun hg=>(ym (vi n))) ?_
 refine sgq 12 (B:=(decide (low≤n))) rfl rfl (uT_ 10) (fun hg1=>(ym (vi high))) ?_
 refine sgq 13 (B:=(decide (low≤n))) rfl rfl (uT_ 10) (fun hg2=>(Y_le (k:=.i64) (a:=n) (b:=high) rfl (gv_of (v:=vi n) hg2) (gv_of (v:=vi high) hg2))) ?_
 refine sQ 14 (Y_and (b:=(decide (low≤n))) (z:=(decide (n≤high))) rfl rfl rfl rfl)<|sQ 6 (yg (.bool ((decide (low≤n))&&(decide (n≤high))))) (rn (ct_ ?_))
 obtain rfl:=sI hF
 exact ret1 Tryz.results56 (v1:=.bool ((decide (low≤n))&&(decide (n≤high)))) (resAt_tmp rfl) ⟨rfl,(hS.sN [])⟩

theorem JD (n:Int) (terms:List Ab) (B:Option Addr) (c n1:Nat) (w0:World) (hn:terms.length=n1) (hS:ST w0 [] w0 [] [⟨B,(terms.flatMap eN1)⟩]) {r_:Bool} (hF:Cb n terms=some r_) :
  CV Tryz.prog 42 #[vi n,.slice B n1 c] w0 (fun v w'=>v=.bool r_∧ST w0 [] w' [] []):=by
 subst hn
 unfold Cb at hF
 refine cv_of_cw 43 Tryz.func42 rfl Tryz.ntmps42 rfl ?_
 refine cq (cr ?_)
 refine sQ 4 (yg (.bool false)) (rn (cq (cq (cr ?_))))
 refine sQ 7 (ym (.slice B terms.length c))<|sQ 8 (Y_len (B:=B) (m:=terms.length) (c:=c) K14 rfl rfl)<|sQ 9 (ym (vi 0)) (rn ?_)
 obtain ⟨hN,hF⟩:=chk_inv hF
 obtain ⟨z,hz,hF1⟩:=bI hF
 refine cw_block ?_
 refine cw_loop (fun k f w=>∃ (i:Nat),FF f [(0,vi n),(1,.slice B terms.length c),(7,.slice B terms.length c),(8,vi (terms.length:Int)),(9,vi (i:Int))]∧ST w0 [] w [] [⟨B,(terms.flatMap eN1)⟩]∧i+k=terms.length∧forX (Cn terms n) k i ()=some z) terms.length ⟨0,(fc rfl (fc rfl (fc rfl (fc rfl (fc rfl fn_))))),(hS.sel [] rfl rfl),Nat.zero_add _,hz⟩ ?_
 rintro k_ f w ⟨i,hf,hS1,hik,hL⟩
 refine cq (cr ?_)
 refine sQ 10 (yL (i:Int) (terms.length:Int) rfl (hf.g 9 4) (hf.g 8 3)) (rn (cq ?_))
 refine cw_cond (b:=(decide ((i:Int)<(terms.length:Int)))) rfl (fun hlt=>?_) (fun hlt=>?_)
 ·skip
  have hlt1:i<terms.length:=by have h:=of_decide_eq_true hlt; omega
  obtain ⟨K5,rfl⟩:∃ k2,k_=k2+1:=⟨k_-1,by omega⟩
  obtain ⟨y,hb,hL1⟩:=forX_go hL
  unfold Cn at hb
  refine cw_skip (cq (cw_block (cq (cr ?_))))
  refine sQ 11 (ym (vi (i:Int)) rfl (hf.g 9 4)) ?_
  obtain ⟨x,hx,hb⟩:=bI hb
  let V0:List Value:=[vi x.Mask,vi x.Coef]
  refine sQ 12 (yI B (i:Int) K14 K15 (gi_isSome eN3 rfl (hS1.rf (i:=0) rfl) hx) (getI_nn hx) (getI_ltI hx rfl) rfl (hf.g 7 2) (hf.g 9 4))<|sQ 13 (ya B ((i:Int).toNat*2) (terms.flatMap eN1) V0 K51 K15 (hS1.rf (i:=0) rfl) rfl rfl (eN3 x) (gi_seg eN3 hx)) ?_
  refine sS 6 (yN [vi 0,vi 0] 2 hS1 K37) ?_
  rintro _ w_ ⟨b,rfl,hS2⟩
  refine sQ 5 (yg (vi (i:Int))) ?_
  refine s0 (yT 0 2 (aD b) 64 (.agg V0.toArray) V0 0 hS2 K15) ?_
  rintro _ w_1 ⟨rfl,hS3⟩
  refine rn (cq ?_)
  obtain ⟨hsh,hb⟩:=chk_inv hb
  obtain ⟨r_1,hc,hb⟩:=bI hb
  obtain ⟨r_2,hc1,hb⟩:=bI hb
  obtain ⟨x1,hx1,hb⟩:=bI hb
  refine ra_start (hS3.se [0]).fn (by kernel_rfl) ?_
  have hS6:=hS3.drew
  have hQ0:=hS6.se [0]
  refine rq 0 14 (v:=pt (aD b) 0) rfl hQ0 (fun w' hw'=>(yd (aD b) 0 0 K49 K0))<|rq 1 15 rfl hQ0 (fun w' hw'=>(yl (aD b) 0 V0 (vi x.Mask) K1 (ST.cf hw' (i:=0) rfl)))<|rq 2 16 rfl hQ0 (fun w' hw'=>(ym (vi n) rfl (hf.g 0 0)))<|rq 3 17 (v:=vi (shlK .i64 1 n)) rfl hQ0 (fun w' hw'=>(Y_shl (k:=.i64) (a:=1) (k':=.i64) (b:=n) rfl rfl rfl hsh))<|rq 4 18 rfl hQ0 (fun w' hw'=>(yM (shlK .i64 1 n) 1)) ?_
  refine rA [5] ?_
  refine rC 19 5 rfl (yC [vi x.Mask,vi 1,vi (i64.wrap ((shlK .i64 1 n)-1))] K50 (AV x.Mask 1 (i64.wrap ((shlK .i64 1 n)-1)) _  (hS6.inn0 [] rfl) hc)) ?_ aN
  rintro _ w_2 ⟨rfl,hd⟩
  have hS7:=hS6.out00 hd
  have hQ1:=hS7.se [0]
  refine ⟨hQ1,?_⟩
  refine rq 6 20 (v:=.bool (!r_1)) rfl hQ1 (fun w' hw'=>(Y_not (p:=r_1) rfl rfl))<|rq 7 21 rfl hQ1 (fun w' hw'=>(ym (.bool (!r_1))))<|rG 8 22 (B:=(!(!r_1))) (v:=pt (aD b) 1) rfl rfl rfl (uF_ 21) hQ1 (fun hg w' hw'=>(yd (aD b) 0 0 K77 K0))<|rG 9 23 (B:=(!(!r_1))) rfl rfl rfl (uF_ 21) hQ1 (fun hg1 w' hw'=>(yl (aD b) 1 V0 (vi x.Coef) K1 (ST.cf hw' (i:=0) rfl) rfl (gv_of (v:=pt (aD b) 1) hg1))) ?_
  refine rA [10] ?_
  refine ra_gc 24 (i:=10) (B:=(!(!r_1))) (v:=.bool r_2) (F:=hS7.fn) rfl rfl rfl (uF_ 21) hS7 (fun hg2=>(yC [vi x.Coef,vi 1,vi 7] K50 (CV.mono (AV x.Coef 1 7 _  (hS7.inn0 [] rfl) (gb_inv hc1 hg2)) (by rintro _ _ ⟨rfl,h⟩; exact ⟨rfl,hS7.out00 h⟩)) rfl (mc (gv_of (v:=vi x.Coef) hg2) (mc rfl (mc rfl mn))))) ?_ ?_
  ·rintro w_3 hS8
   have hQ2:=hS8.se [0]
   refine ⟨hQ2,?_⟩
   refine rG 11 25 (B:=(!(!r_1))) (v:=.bool (!r_2)) rfl rfl rfl (uF_ 21) hQ2 (fun hg3 w' hw'=>(Y_not (p:=r_2) rfl (gv_of (v:=.bool r_2) hg3)))<|rq 12 26 (v:=.bool ((!r_1)||(!r_2))) rfl hQ2 (fun w' hw'=>(Y_or (b:=(!r_1)) (z:=(!r_2)) rfl rfl rfl rfl))<|rq 13 27 rfl hQ2 (fun w' hw'=>(ym (.bool ((!r_1)||(!r_2)))))<|rG 14 28 (B:=(!((!r_1)||(!r_2)))) rfl rfl rfl (uF_ 27) hQ2 (fun hg4 w' hw'=>(ym (vi (i:Int))))<|rG 15 29 (B:=(!((!r_1)||(!r_2)))) rfl rfl rfl (uF_ 27) hQ2 (fun hg5 w' hw'=>(Y_gt (k:=.i64) (a:=(i:Int)) (b:=0) rfl (gv_of (v:=vi (i:Int)) hg5) rfl)) ?_
   refine rG 16 30 (B:=(!((!r_1)||(!r_2)))) rfl rfl rfl (uF_ 27) hQ2 (fun hg6 w' hw'=>(ym (.bool (decide (0<(i:Int)))) rfl (gv_of (v:=.bool (decide (0<(i:Int)))) hg6)))<|rG 17 31 (B:=((!((!r_1)||(!r_2)))&&(decide (0<(i:Int))))) rfl rfl rfl (wt_gt (gd_of (t:=30) (by kernel_rfl) rfl)) hQ2 (fun hg7 w' hw'=>(ym (.slice B terms.length c) rfl (hf.g 1 1)))<|rG 18 32 (B:=((!((!r_1)||(!r_2)))&&(decide (0<(i:Int))))) rfl rfl rfl (wt_gt (gd_of (t:=30) (by kernel_rfl) rfl)) hQ2 (fun hg8 w' hw'=>(ym (vi (i:Int))))<|rG 19 33 (B:=((!((!r_1)||(!r_2)))&&(decide (0<(i:Int))))) rfl rfl rfl (wt_gt (gd_of (t:=30) (by kernel_rfl) rfl)) hQ2 (fun hg9 w' hw'=>(yM (i:Int) 1 rfl (gv_of (v:=vi (i:Int)) hg9)))<|rG 20 34 (B:=((!((!r_1)||(!r_2)))&&(decide (0<(i:Int))))) (v:=pt B ((i64.wrap ((i:Int)-1)).toNat*2)) rfl rfl rfl (wt_gt (gd_of (t:=30) (by kernel_rfl) rfl)) hQ2 (fun hg10 w' hw'=>(yI B (i64.wrap ((i:Int)-1)) K14 K15 (gi_isSome eN3 rfl (ST.rf hw' (i:=0) rfl) (gb_inv hx1 hg10)) (getI_nn (gb_inv hx1 hg10)) (getI_ltI (gb_inv hx1 hg10) rfl) rfl (gv_of (v:=.slice B terms.length c) hg10) (gv_of (v:=vi (i64.wrap ((i:Int)-1))) hg10))) ?_
   refine rG 21 35 (B:=((!((!r_1)||(!r_2)))&&(decide (0<(i:Int))))) (v:=pt B ((i64.wrap ((i:Int)-1)).toNat*2+0)) rfl rfl rfl (wt_gt (gd_of (t:=30) (by kernel_rfl) rfl)) hQ2 (fun hg11 w' hw'=>(yd B ((i64.wrap ((i:Int)-1)).toNat*2) 0 K49 K0 rfl (gv_of (v:=pt B ((i64.wrap ((i:Int)-1)).toNat*2)) hg11)))<|rG 22 36 (B:=((!((!r_1)||(!r_2)))&&(decide (0<(i:Int))))) rfl rfl rfl (wt_gt (gd_of (t:=30) (by kernel_rfl) rfl)) hQ2 (fun hg12 w' hw'=>(yl B ((i64.wrap ((i:Int)-1)).toNat*2+0) (terms.flatMap eN1) (vi x1.Mask) K1 (ST.rf hw' (i:=0) rfl) rfl (gv_of (v:=pt B ((i64.wrap ((i:Int)-1)).toNat*2+0)) hg12) (gi_at eN3 (gb_inv hx1 hg12) rfl)))<|rG 23 37 (B:=((!((!r_1)||(!r_2)))&&(decide (0<(i:Int))))) (v:=pt (aD b) 0) rfl rfl rfl (wt_gt (gd_of (t:=30) (by kernel_rfl) rfl)) hQ2 (fun hg13 w' hw'=>(yd (aD b) 0 0 K49 K0))<|rG 24 38 (B:=((!((!r_1)||(!r_2)))&&(decide (0<(i:Int))))) rfl rfl rfl (wt_gt (gd_of (t:=30) (by kernel_rfl) rfl)) hQ2 (fun hg14 w' hw'=>(yl (aD b) 0 V0 (vi x.Mask) K1 (ST.cf hw' (i:=0) rfl) rfl (gv_of (v:=pt (aD b) 0) hg14)))<|rG 25 39 (B:=((!((!r_1)||(!r_2)))&&(decide (0<(i:Int))))) rfl rfl rfl (wt_gt (gd_of (t:=30) (by kernel_rfl) rfl)) hQ2 (fun hg15 w' hw'=>(Y_ge (k:=.i64) (a:=x1.Mask) (b:=x.Mask) rfl (gv_of (v:=vi x1.Mask) hg15) (gv_of (v:=vi x.Mask) hg15))) ?_
   refine rG 26 40 (B:=(!((!r_1)||(!r_2)))) (v:=.bool ((decide (0<(i:Int)))&&(decide (x.Mask≤x1.Mask)))) rfl rfl rfl (uF_ 27) hQ2 (fun hg16 w' hw'=>(Y_and (b:=(decide (0<(i:Int)))) (z:=(decide (x.Mask≤x1.Mask))) rfl (gv_of (v:=.bool (decide (0<(i:Int)))) hg16) (gv_and (B:=(!((!r_1)||(!r_2)))) (C:=(decide (0<(i:Int)))) (v:=.bool (decide (x.Mask≤x1.Mask))) hg16) rfl))<|rq 27 41 (v:=.bool (((!r_1)||(!r_2))||((decide (0<(i:Int)))&&(decide (x.Mask≤x1.Mask))))) rfl hQ2 (fun w' hw'=>(Y_or (b:=((!r_1)||(!r_2))) (z:=((decide (0<(i:Int)))&&(decide (x.Mask≤x1.Mask)))) rfl rfl rfl rfl)) ?_
   refine ra_done (by kernel_rfl) ?_
   refine cw_cond (b:=(((!r_1)||(!r_2))||((decide (0<(i:Int)))&&(decide (x.Mask≤x1.Mask))))) rfl (fun hb1=>?_) (fun hb1=>?_)
   ·skip
    have hF2:=ct hb hb1
    refine cq (cr ?_)
    refine sQ 4 (yg (.bool false)) (rn (ct_ ?_))
    obtain rfl:=sI hF2
    obtain rfl:=sI hL1
    obtain rfl:=sI hF1
    exact ret1 Tryz.results42 (v1:=.bool false) (resAt_tmp rfl) ⟨rfl,(hS8.sN [])⟩
   ·skip
    have hF3:=cf' hb hb1
    refine cw_skip (cr ?_)
    refine sQ 42 (yP (i:Int) 1 rfl (hf.g 9 4))<|sQ 9 (ym (vi (i64.wrap ((i:Int)+1)))) (rn ?_)
    obtain rfl:=sI hF3
    exact ⟨K5,Nat.lt_succ_self _,i+1,(hf.a 0 0 (hf.a 1 1 (hf.a 7 2 (hf.a 8 3 (fc (congrArg (Value.int .i64) (wr_succ hlt1 hN)) fn_))))),(hS8.sel [] rfl rfl),(by omega),hL1⟩
  exact aN
 ·skip
  obtain rfl:k_=0:=by have h:=of_decide_eq_false hlt; omega
  refine cw_exit rfl ?_
  obtain rfl:=sI hL
  refine cq (cr ?_)
  refine sQ 4 (yg (.bool true)) (rn (ct_ ?_))
  obtain rfl:=sI hF1
  exact ret1 Tryz.results42 (v1:=.bool true) (resAt_tmp rfl) ⟨rfl,(hS1.sN [])⟩

theorem Kk (s:List Int) (f_:Int→Option (Bool)) (B:Option Addr) (c n:Nat) (kf:Nat) (caps:Array Value) (Rf:List Ro) (w0:World) (hn:s.length=n) (hk:callB Tryz.prog kf=true) (hp:∀ (w:World),ST w [] w [] Rf→∀ (x:Int) (y:Bool),f_ x=some y→CV Tryz.prog kf ((vi x)::caps.toList).toArray w (fun v w'=>v=.bool y∧ST w [] w' [] [])) (hS:ST w0 [] w0 [] (⟨B,(s.flatMap encI)⟩::Rf)) {r_:Int} (hF:BL s f_=some r_) :
  CV Tryz.prog 116 #[.slice B n c,.func (.func kf) #[] caps] w0 (fun v w'=>v=vi r_∧ST w0 [] w' [] []):=by
 subst hn
 unfold BL at hF
 refine cv_of_cw 19 Tryz.func116 rfl Tryz.ntmps116 rfl ?_
 refine cq (cr ?_)
 refine sQ 4 (yg (vi 0)) (rn (cq (cq (cr ?_))))
 refine sQ 6 (ym (.slice B s.length c))<|sQ 7 (Y_len (B:=B) (m:=s.length) (c:=c) K2 rfl rfl)<|sQ 8 (ym (vi 0)) (rn ?_)
 obtain ⟨hN,hF⟩:=chk_inv hF
 obtain ⟨z,hz,hF1⟩:=bI hF
 refine cw_block ?_
 refine cw_loop (fun k f w=>∃ (i:Nat),FF f [(0,.slice B s.length c),(1,.func (.func kf) #[] caps),(7,vi (s.length:Int)),(8,vi (i:Int))]∧ST w0 [] w [] (⟨B,(s.flatMap encI)⟩::Rf)∧i+k=s.length∧forX (C0 s f_) k i ()=some z) s.length ⟨0,(fc rfl (fc rfl (fc rfl (fc rfl fn_)))),(hS.sel [] rfl rfl),Nat.zero_add _,hz⟩ ?_
 rintro k_ f w ⟨i,hf,hS1,hik,hL⟩
 refine cq (cr ?_)
 refine sQ 9 (yL (i:Int) (s.length:Int) rfl (hf.g 8 3) (hf.g 7 2)) (rn (cq ?_))
 refine cw_cond (b:=(decide ((i:Int)<(s.length:Int)))) rfl (fun hlt=>?_) (fun hlt=>?_)
 ·skip
  have hlt1:i<s.length:=by have h:=of_decide_eq_true hlt; omega
  obtain ⟨K5,rfl⟩:∃ k2,k_=k2+1:=⟨k_-1,by omega⟩
  obtain ⟨y1,hb,hL1⟩:=forX_go hL
  unfold C0 at hb
  refine cw_skip (cq (cw_block (cq (cr ?_))))
  refine sQ 10 (ym (vi (i:Int)) rfl (hf.g 8 3))<|sQ 5 (yg (vi (i:Int))) (rn (cq (cr ?_)))
  refine sQ 11 (ym (.func (.func kf) #[] caps) rfl (hf.g 1 1))<|sQ 12 (ym (.slice B s.length c) rfl (hf.g 0 0))<|sQ 13 (ym (vi (i:Int))) ?_
  obtain ⟨x1,hx,hb⟩:=bI hb
  refine sQ 14 (yI B (i:Int) K2 K0 (gi_isSome encI_len rfl (hS1.rf (i:=0) rfl) hx) (getI_nn hx) (getI_ltI hx rfl))<|sQ 15 (yl B ((i:Int).toNat*1) (s.flatMap encI) (vi x1) K1 (hS1.rf (i:=0) rfl) rfl rfl (gi_at0 encI_len hx rfl)) ?_
  obtain ⟨r_1,hc,hb⟩:=bI hb
  refine sc 16 rfl rfl (Yc_clos (g:=kf) (vs:=(vi x1)::caps.toList) hk rfl rfl (clo_args (mc rfl mn)) (hp _ (hS1.innS (fun _ h=>mOd (i:=1) h)) x1 r_1 hc)) ?_
  rintro _ w_ ⟨rfl,hd⟩
  have hS2:=hS1.out00 hd
  refine rn ?_
  refine cw_cond (b:=r_1) rfl (fun hb1=>?_) (fun hb1=>?_)
  ·skip
   have hF2:=ct hb hb1
   refine cq (cr ?_)
   refine sQ 17 (ym (vi (i:Int)))<|sQ 4 (yg (vi (i:Int))) (rn (ct_ ?_))
   obtain rfl:=sI hF2
   obtain rfl:=sI hL1
   obtain rfl:=sI hF1
   exact ret1 Tryz.results116 (v1:=vi (i:Int)) (resAt_tmp rfl) ⟨rfl,(hS2.sN [])⟩
  ·skip
   have hF3:=cf' hb hb1
   refine cw_skip (cr ?_)
   refine sQ 18 (yP (i:Int) 1 rfl (hf.g 8 3))<|sQ 8 (ym (vi (i64.wrap ((i:Int)+1)))) (rn ?_)
   obtain rfl:=sI hF3
   exact ⟨K5,Nat.lt_succ_self _,i+1,(hf.a 0 0 (hf.a 1 1 (hf.a 7 2 (fc (congrArg (Value.int .i64) (wr_succ hlt1 hN)) fn_)))),(hS2.sel [] rfl rfl),(by omega),hL1⟩
 ·skip
  obtain rfl:k_=0:=by have h:=of_decide_eq_false hlt; omega
  refine cw_exit rfl ?_
  obtain rfl:=sI hL
  refine cq (cr ?_)
  refine sQ 4 (yg (vi (-1))) (rn (ct_ ?_))
  obtain rfl:=sI hF1
  exact ret1 Tryz.results116 (v1:=vi (-1)) (resAt_tmp rfl) ⟨rfl,(hS1.sN [])⟩

theorem Kt (s:List Int) (f_:Int→Option (Bool)) (B:Option Addr) (c n:Nat) (kf:Nat) (caps:Array Value) (Rf:List Ro) (w0:World) (hn:s.length=n) (hk:callB Tryz.prog kf=true) (hp:∀ (w:World),ST w [] w [] Rf→∀ (x:Int) (y:Bool),f_ x=some y→CV Tryz.prog kf ((vi x)::caps.toList).toArray w (fun v w'=>v=.bool y∧ST w [] w' [] [])) (hS:ST w0 [] w0 [] (⟨B,(s.flatMap encI)⟩::Rf)) {r_:Bool} (hF:CK s f_=some r_) :
  CV Tryz.prog 102 #[.slice B n c,.func (.func kf) #[] caps] w0 (fun v w'=>v=.bool r_∧ST w0 [] w' [] []):=by
 subst hn
 unfold CK at hF
 refine cv_of_cw 9 Tryz.func102 rfl Tryz.ntmps102 rfl ?_
 refine cq (cr ?_)
 refine sQ 4 (yg (.bool false)) (rn (cq (cr ?_)))
 refine sQ 5 (ym (.slice B s.length c))<|sQ 6 (ym (.func (.func kf) #[] caps)) ?_
 obtain ⟨r_1,hc,hF⟩:=bI hF
 refine sc 7 rfl rfl (yC [.slice B s.length c,.func (.func kf) #[] caps] IW (Kk s f_ B c s.length kf caps Rf _ rfl hk hp (hS.innS (sk 0 (fun _ h=>mOd (i:=1) h))) hc)) ?_
 rintro _ w_ ⟨rfl,hd⟩
 have hS1:=hS.out00 hd
 refine sQ 8 (Y_ge (k:=.i64) (a:=r_1) (b:=0) rfl rfl rfl)<|sQ 4 (yg (.bool (decide (0≤r_1)))) (rn (ct_ ?_))
 obtain rfl:=sI hF
 exact ret1 Tryz.results102 (v1:=.bool (decide (0≤r_1))) (resAt_tmp rfl) ⟨rfl,(hS1.sN [])⟩

theorem L2 (row:Int) (p:Int) (B:Option Addr) (w0:World)  (hS:ST w0 [] w0 [] [⟨B,[vi p]⟩]) {r_:Bool} (hF:Db row p=some r_) :
  CV Tryz.prog 103 #[vi row,pt B 0] w0 (fun v w'=>v=.bool r_∧ST w0 [] w' [] []):=by
 unfold Db at hF
 refine cv_of_cw 10 Tryz.func103 rfl Tryz.ntmps103 rfl ?_
 refine cq (cr ?_)
 refine sQ 3 (yg (.bool false)) (rn (cq (cr ?_)))
 refine sQ 4 (ym (vi row))<|sQ 5 (yl B 0 [vi p] (vi p) K1 (hS.rf (i:=0) rfl)) ?_
 obtain ⟨hsh,hF⟩:=chk_inv hF
 refine sQ 6 (Y_shl (k:=.i64) (a:=1) (k':=.i64) (b:=p) rfl rfl rfl hsh)<|sQ 7 (yM (shlK .i64 1 p) 1) ?_
 obtain ⟨r_1,hc,hF⟩:=bI hF
 refine sc 8 rfl rfl (yC [vi row,vi 0,vi (i64.wrap ((shlK .i64 1 p)-1))] K50 (AV row 0 (i64.wrap ((shlK .i64 1 p)-1)) _  (hS.inn0 [] rfl) hc)) ?_
 rintro _ w_ ⟨rfl,hd⟩
 have hS1:=hS.out00 hd
 refine sQ 9 (Y_not (p:=r_1) rfl rfl)<|sQ 3 (yg (.bool (!r_1))) (rn (ct_ ?_))
 obtain rfl:=sI hF
 exact ret1 Tryz.results103 (v1:=.bool (!r_1)) (resAt_tmp rfl) ⟨rfl,(hS1.sN [])⟩

theorem F6 (s:List Int) (B:Option Addr) (c n:Nat) (w0:World) (hn:s.length=n) (hS:ST w0 [] w0 [] [⟨B,(s.flatMap encI)⟩]) {r_:List Int} (hF:AL s=some r_) :
  CV Tryz.prog 58 #[.slice B n c] w0 (fun v w'=>∃ (B1:Option Addr) (c1:Nat),v=.slice B1 r_.length c1∧ST w0 [] w' [⟨B1,3,(r_.flatMap encI),c1*1⟩] []):=by
 subst hn
 unfold AL at hF
 refine cv_of_cw 8 Tryz.func58 rfl Tryz.ntmps58 rfl ?_
 refine cq (cr ?_)
 refine sQ 2 (yg (.slice none 0 0)) (rn (cq (cq (cr ?_))))
 refine sQ 3 (ym (.slice B s.length c))<|sQ 4 (Y_nileql (B:=B) (m:=s.length) (c:=c) K2 rfl rfl rfl) (rn ?_)
 refine cw_cond (b:=B.isNone) rfl (fun hb=>?_) (fun hb=>?_)
 ·skip
  have hl:s=[]:=nil_cont encI_len (hS.rf (i:=0) rfl) rfl hb
  rw [hl] at hF
  have hF1:(some ([]))=some r_:=by simpa [chk] using hF
  subst hl
  refine cq (cr ?_)
  refine sQ 2 (yg (.slice none 0 0)) (rn (ct_ ?_))
  have hS1:=hS.addNil 3
  obtain rfl:=sI hF1
  exact ret1 Tryz.results58 (v1:=.slice none 0 0) (resAt_tmp rfl) ⟨none,0,rfl,(hS1.sN [0])⟩
 ·skip
  refine cw_skip (cq (cr ?_))
  refine sS 5 (Ys_bslice0 (s:=1) (e:=3) hS K2 K0 rfl) ?_
  rintro _ w_ ⟨b,rfl,hS2⟩
  refine sQ 6 (ym (.slice B s.length c)) ?_
  obtain ⟨hap,hF⟩:=chk_inv hF
  refine sS 7 (Ys_append (s:=1) (by':=8) (i:=0) (nn:=0) (c:=0) (k:=s.length) (len:=s.length) (B:=aD b) (xs:=(s.flatMap encI)) (cs':=(s.flatMap encI)) hS2 K2 K0 K31 K28 rfl (by decide) rfl rfl rfl rfl (fm_lenn (l:=[]) encI_len rfl) rfl (hS2.rf (i:=0) rfl) (fm_lenn (l:=s) encI_len rfl) (fm_one' (enc:=encI) encI_one s) (by have:=hap; omega) (by have:=hap; simp only [maxLen]; omega) rfl (app_len0 (l:=s) rfl)) ?_
  rintro _ w_1 ⟨B2,c2,rfl,hS3⟩
  refine sQ 2 (yg (.slice B2 s.length c2)) (rn (ct_ ?_))
  obtain rfl:=sI hF
  exact ret1 Tryz.results58 (v1:=.slice B2 s.length c2) (resAt_tmp rfl) ⟨B2,c2,rfl,(hS3.sN [0])⟩

theorem M4 (row:Int) (p:Int) (B:Option Addr) (w0:World)  (hS:ST w0 [] w0 [] [⟨B,[vi p]⟩]) {r_:Bool} (hF:BW row p=some r_) :
  CV Tryz.prog 117 #[vi row,pt B 0] w0 (fun v w'=>v=.bool r_∧ST w0 [] w' [] []):=by
 unfold BW at hF
 refine cv_of_cw 9 Tryz.func117 rfl Tryz.ntmps117 rfl ?_
 refine cq (cr ?_)
 refine sQ 3 (yg (.bool false)) (rn (cq (cr ?_)))
 refine sQ 4 (ym (vi row))<|sQ 5 (yl B 0 [vi p] (vi p) K1 (hS.rf (i:=0) rfl)) ?_
 obtain ⟨hsh,hF⟩:=chk_inv hF
 refine sQ 6 (Y_shr (k:=.i64) (a:=row) (k':=.i64) (b:=p) rfl rfl rfl hsh)<|sQ 7 (Y_band (k:=.i64) (a:=(shrK .i64 row p)) (b:=1) rfl rfl rfl)<|sQ 8 (yE (bits .and .i64 (shrK .i64 row p) 1) 1)<|sQ 3 (yg (.bool ((bits .and .i64 (shrK .i64 row p) 1)==1))) (rn (ct_ ?_))
 obtain rfl:=sI hF
 exact ret1 Tryz.results117 (v1:=.bool ((bits .and .i64 (shrK .i64 row p) 1)==1)) (resAt_tmp rfl) ⟨rfl,(hS.sN [])⟩

theorem Ox (s:List Int) (i:Int) (j:Int) (B:Option Addr) (c n:Nat) (w0:World) (hn:s.length=n) (hS:ST w0 (bl [⟨B,3,(s.flatMap encI),c*1⟩]) w0 [⟨B,3,(s.flatMap encI),c*1⟩] []) {r_:List Int} (hF:Ce s i j=some r_) :
  CV Tryz.prog 118 #[.slice B n c,vi i,vi j] w0 (fun v w'=>∃ (B1:Option Addr) (c1:Nat),v=.slice B1 r_.length c1∧ST w0 (bl [⟨B,3,(s.flatMap encI),c*1⟩]) w' [⟨B1,3,(r_.flatMap encI),c1*1⟩] []):=by
 subst hn
 unfold Ce at hF
 refine cv_of_cw 33 Tryz.func118 rfl Tryz.ntmps118 rfl ?_
 refine cq (cr ?_)
 refine sQ 6 (yg (.slice none 0 0)) (rn (cq (cr ?_)))
 refine sQ 8 (ym (.slice B s.length c))<|sQ 9 (ym (vi i))<|sQ 10 (ym (vi j))<|sQ 11 (ym (.slice B s.length c))<|sQ 12 (Y_len (B:=B) (m:=s.length) (c:=c) K2 rfl rfl) ?_
 obtain ⟨hsl,hF⟩:=chk_inv hF
 have hcap:s.length≤c:=hS.lencap (i:=0) rfl (fm_lenn (l:=s) encI_len rfl) rfl rfl
 refine sQ 13 (Y_slice (B:=B) (m:=s.length) (c:=c) (l:=i.toNat) (h:=j.toNat) (q:=s.length) (s:=1) K2 K0 rfl rfl ⟨_,_,rfl,rfl⟩ ⟨_,_,rfl,(Int.toNat_of_nonneg (by omega)).symm⟩ ⟨_,_,rfl,(Int.toNat_of_nonneg (by omega)).symm⟩ rfl (by omega) (by omega) (by omega)) (rn (cq (cq (cr ?_))))
 refine sQ 14 (ym (vi i))<|sQ 15 (ym (vi j))<|sQ 16 (yE i j) (rn ?_)
 refine cw_cond (b:=(i==j)) rfl (fun hb=>?_) (fun hb=>?_)
 ·skip
  have hF1:=ct hF hb
  refine cq (cr ?_)
  refine sQ 17 (ym (.slice B s.length c))<|sQ 6 (yg (.slice B s.length c)) (rn (ct_ ?_))
  obtain rfl:=sI hF1
  exact ret1 Tryz.results118 (v1:=.slice B s.length c) (resAt_tmp rfl) ⟨B,c,rfl,(hS.sN [0])⟩
 ·skip
  have hF2:=cf' hF hb
  refine cw_skip (cq (cr ?_))
  refine sQ 18 (ym (.slice B s.length c))<|sQ 19 (Y_len (B:=B) (m:=s.length) (c:=c) K2 rfl rfl)<|sQ 7 (yg (vi (s.length:Int))) (rn (cq ?_))
  obtain ⟨hij,hF2⟩:=chk_inv hF2
  refine ra_start (hS.se []).fn (by kernel_rfl) ?_
  have hS1:=hS.drew
  have hQ0:=hS1.se []
  refine rq 0 20 rfl hQ0 (fun w' hw'=>(ym (.slice B s.length c)))<|rq 1 21 rfl hQ0 (fun w' hw'=>(ym (vi i)))<|rq 2 22 (v:=.slice (sv B 0 c 1) (i.toNat-0) (c-0)) rfl hQ0 (fun w' hw'=>(Y_slice (B:=B) (m:=s.length) (c:=c) (l:=0) (h:=i.toNat) (q:=c) (s:=1) K2 K0 rfl rfl rfl ⟨_,_,rfl,(Int.toNat_of_nonneg (by omega)).symm⟩ rfl rfl (by omega) (by omega) (by omega)))<|rq 3 23 rfl hQ0 (fun w' hw'=>(ym (.slice B s.length c)))<|rq 4 24 rfl hQ0 (fun w' hw'=>(ym (vi j))) ?_
  refine rq 5 25 (v:=.slice (sv B j.toNat c 1) (s.length-j.toNat) (c-j.toNat)) rfl hQ0 (fun w' hw'=>(Y_slice (B:=B) (m:=s.length) (c:=c) (l:=j.toNat) (h:=s.length) (q:=c) (s:=1) K2 K0 rfl rfl rfl rfl ⟨_,_,rfl,(Int.toNat_of_nonneg (by omega)).symm⟩ rfl (by omega) (by omega) (by omega))) ?_
  refine rA [6] ?_
  refine rS 26 6 rfl (Ys_cut (enc:=encI) (s:=1) (k:=0) (i:=i.toNat) (j:=j.toNat) (m:=s.length) (c:=c) (B:=B) (l:=s) hS1 K2 K0 rfl rfl rfl rfl rfl rfl encI_len encI_one (by omega) (by omega)) ?_ aN
  rintro _ w_ ⟨rfl,hS2⟩
  refine ⟨(hS2.se []),?_⟩
  refine rq 7 0 rfl (hS2.se []) (fun w' hw'=>(yg (.slice B (i.toNat+(s.length-j.toNat)) c))) ?_
  refine ra_done (by kernel_rfl) ?_
  refine cq (cr ?_)
  refine sQ 27 (ym (.slice B (i.toNat+(s.length-j.toNat)) c))<|sQ 28 (ym (.slice B (i.toNat+(s.length-j.toNat)) c))<|sQ 29 (Y_len (B:=B) (m:=(i.toNat+(s.length-j.toNat))) (c:=c) K2 rfl rfl)<|sQ 30 (ym (vi (s.length:Int)))<|sQ 31 (Y_slice (B:=B) (m:=(i.toNat+(s.length-j.toNat))) (c:=c) (l:=(i.toNat+(s.length-j.toNat))) (h:=s.length) (q:=c) (s:=1) K2 K0 rfl rfl rfl ⟨_,_,rfl,rfl⟩ ⟨_,_,rfl,rfl⟩ rfl (by omega) (by omega) (by omega)) ?_
  refine s0 (Ys_clear (s:=1) (k:=0) (p:=(i.toNat+(s.length-j.toNat))) (h:=s.length) (c:=c) (m:=c*1) (B:=B) (cs:=((List.take i.toNat s++List.drop j.toNat s).flatMap encI)) (z:=vi 0) hS2 K2 K0 rfl K28 rfl rfl rfl rfl rfl (fm_lenn (l:=(List.take i.toNat s++List.drop j.toNat s)) encI_len (cut_len rfl (by omega))) rfl (by omega) (by omega)) ?_
  rintro _ w_1 ⟨rfl,hS3⟩
  refine rn (cq (cr ?_))
  refine sQ 32 (ym (.slice B (i.toNat+(s.length-j.toNat)) c))<|sQ 6 (yg (.slice B (i.toNat+(s.length-j.toNat)) c)) (rn (ct_ ?_))
  obtain rfl:=sI hF2
  exact ret1 Tryz.results118 (v1:=.slice B (i.toNat+(s.length-j.toNat)) c) (resAt_tmp rfl) ⟨B,c,(sl_eqv (cut_len rfl (by omega))),(hS3.sN [0])⟩

theorem Na (rows:List Int) (B:Option Addr) (c n:Nat) (w0:World) (hn:rows.length=n) (hS:ST w0 [] w0 [] [⟨B,(rows.flatMap encI)⟩]) {r_:Int} (hF:Cr rows=some r_) :
  CV Tryz.prog 104 #[.slice B n c] w0 (fun v w'=>v=vi r_∧ST w0 [] w' [] []):=by
 subst hn
 unfold Cr at hF
 refine cv_of_cw 52 Tryz.func104 rfl Tryz.ntmps104 rfl ?_
 refine cq (cr ?_)
 refine sQ 2 (yg (vi 0)) (rn (cq (cr ?_)))
 refine sQ 10 (ym (.slice B rows.length c)) ?_
 obtain ⟨r_1,hc,hF⟩:=bI hF
 refine sc 11 rfl rfl (yC [.slice B rows.length c] K82 (F6 rows B c rows.length _ rfl (hS.inn0 [(true,0)] rfl) hc)) ?_
 rintro _ w_ ⟨B1,c1,rfl,hd⟩
 have hS1:=hS.out0 hd
 refine sQ 3 (yg (.slice B1 r_1.length c1))<|sQ 4 (yg (vi 0)) (rn (cq (cq (cr ?_))))
 refine sQ 12 (ym (vi 0)) (rn ?_)
 obtain ⟨z,hz,hF1⟩:=bI hF
 refine cw_block ?_
 let R0:Ro:=⟨B,(rows.flatMap encI)⟩
 refine cw_loop (fun k f w=>∃ (i:Nat) (left:List Int) (rank:Int) (B2:Option Addr) (c2:Nat),FF f [(3,.slice B2 left.length c2),(4,vi rank),(12,vi (i:Int))]∧ST w0 [] w [⟨B2,3,(left.flatMap encI),c2*1⟩] [R0]∧i+k=10∧forN BM k i (left,rank)=some z) 10 ⟨0,r_1,0,B1,c1,(fc rfl (fc rfl (fc rfl fn_))),(hS1.sel [0] rfl rfl),Nat.zero_add _,hz⟩ ?_
 rintro k_ f w ⟨i,left,rank,B2,c2,hf,hS2,hik,hL⟩
 refine cq (cr ?_)
 refine sQ 13 (yL (i:Int) 10 rfl (hf.g 12 2)) (rn (cq ?_))
 refine cw_cond (b:=(decide ((i:Int)<10))) rfl (fun hlt=>?_) (fun hlt=>?_)
 ·skip
  have hlt1:i<10:=by have h:=of_decide_eq_true hlt; omega
  obtain ⟨K5,rfl⟩:∃ k2,k_=k2+1:=⟨k_-1,by omega⟩
  obtain ⟨y,hb,hL1⟩:=forN_go hL
  unfold BM at hb
  refine cw_skip (cq ?_)
  obtain ⟨z1,hz1,hF2⟩:=bI hb
  refine cw_mid (fun f w=>∃ (left1:List Int) (rank1:Int) (B3:Option Addr) (c3:Nat),(left1,rank1)=z1∧FF f [(3,.slice B3 left1.length c3),(4,vi rank1),(12,vi (i:Int))]∧ST w0 [] w [⟨B3,3,(left1.flatMap encI),c3*1⟩] [R0]) ?_ ?_
  ·skip
   refine cw_block (cq (cr ?_))
   refine sQ 14 (ym (vi (i:Int)) rfl (hf.g 12 2)) ?_
   refine sS 5 (yN [vi 0] 1 hS2 K28) ?_
   rintro _ w_1 ⟨b,rfl,hS4⟩
   refine s0 (yT 1 1 (aD b) 3 (vi (i:Int)) [vi (i:Int)] 0 hS4 K0) ?_
   rintro _ w_2 ⟨rfl,hS5⟩
   refine rn (cq (cr ?_))
   refine sQ 15 (ym (.slice B2 left.length c2) rfl (hf.g 3 0))<|sQ 16 (Y_makeFunc (cs:=[pt (aD b) 0]) rfl rfl (mc rfl mn)) ?_
   obtain ⟨r_2,hc1,hz1⟩:=bI hz1
   refine sc 17 rfl rfl (yC [.slice B2 left.length c2,.func (.func 117) #[] #[pt (aD b) 0]] IW (Kk left (fun x_0=>BW x_0 (i:Int)) B2 c2 left.length 117 (#[pt (aD b) 0]) [⟨aD b,[vi (i:Int)]⟩] _ rfl KM (fun w hw x_0 y_0 h_=>M4 x_0 (i:Int) (aD b) w  hw h_) (hS5.inn0 [(false,0),(false,1)] rfl) hc1)) ?_
   rintro _ w_3 ⟨rfl,hd1⟩
   have hS6:=hS5.out00 hd1
   refine sQ 6 (yg (vi r_2)) (rn (cq (cq (cr ?_))))
   refine sQ 18 (ym (vi r_2))<|sQ 19 (yL r_2 0) (rn ?_)
   refine cw_cond (b:=(decide (r_2<0))) rfl (fun hb1=>?_) (fun hb1=>?_)
   ·skip
    have hF3:=ct hz1 hb1
    refine cw_exit rfl ?_
    exact ⟨left,rank,B2,c2,(sI hF3),(hf.a 3 0 (hf.a 4 1 (hf.a 12 2 fn_))),(hS6.sel [0] rfl rfl)⟩
   ·skip
    have hF4:=cf' hz1 hb1
    refine cw_skip (cq (cr ?_))
    refine sQ 20 (ym (.slice B2 left.length c2) rfl (hf.g 3 0))<|sQ 21 (ym (vi r_2)) ?_
    obtain ⟨x,hx,hF4⟩:=bI hF4
    refine sQ 22 (yI B2 r_2 K2 K0 (gi_isSome encI_len rfl (hS6.c 0) hx) (getI_nn hx) (getI_ltI hx rfl))<|sQ 23 (yl B2 (r_2.toNat*1) (left.flatMap encI) (vi x) K1 (hS6.c 0) rfl rfl (gi_at0 encI_len hx rfl))<|sQ 7 (yg (vi x)) (rn (cq (cr ?_)))
    refine sQ 24 (ym (.slice B2 left.length c2) rfl (hf.g 3 0))<|sQ 25 (ym (vi r_2))<|sQ 26 (ym (vi r_2))<|sQ 27 (yP r_2 1) ?_
    obtain ⟨r_3,hc2,hF4⟩:=bI hF4
    refine sc 28 rfl rfl (yC [.slice B2 left.length c2,vi r_2,vi (i64.wrap (r_2+1))] Mr (Ox left r_2 (i64.wrap (r_2+1)) B2 c2 left.length _ rfl (hS6.inn [true,false] rfl [] rfl) hc2)) ?_
    rintro _ w_4 ⟨B4,c4,rfl,hd2⟩
    have hS7:=hS6.out [true,false] rfl hd2
    refine sQ 3 (yg (.slice B4 r_3.length c4)) (rn (cq (cq (cr ?_))))
    refine sQ 29 (ym (.slice B4 r_3.length c4))<|sQ 30 (Y_len (B:=B4) (m:=r_3.length) (c:=c4) K2 rfl rfl)<|sQ 31 (ym (vi 0)) (rn ?_)
    obtain ⟨hN,hF4⟩:=chk_inv hF4
    obtain ⟨z2,hz2,hF5⟩:=bI hF4
    refine cw_block ?_
    refine cw_loop (fun k f w=>∃ (i1:Nat) (left2:List Int),FF f [(3,.slice B4 r_3.length c4),(4,vi rank),(5,pt (aD b) 0),(7,vi x),(12,vi (i:Int)),(29,.slice B4 r_3.length c4),(30,vi (r_3.length:Int)),(31,vi (i1:Int))]∧left2.length=r_3.length∧ST w0 [] w [⟨B4,3,(left2.flatMap encI),c4*1⟩,⟨aD b,3,[vi (i:Int)],1⟩] [R0]∧i1+k=r_3.length∧forN (D9 i x) k i1 left2=some z2) r_3.length ⟨0,r_3,(fc rfl (hf.a 4 1 (fc rfl (fc rfl (hf.a 12 2 (fc rfl (fc rfl (fc rfl fn_)))))))),rfl,(hS7.sel [1,0] rfl rfl),Nat.zero_add _,hz2⟩ ?_
    rintro K19 f w ⟨i1,left2,hf2,hl,hS8,hik1,hL2⟩
    refine cq (cr ?_)
    refine sQ 32 (yL (i1:Int) (r_3.length:Int) rfl (hf2.g 31 7) (hf2.g 30 6)) (rn (cq ?_))
    refine cw_cond (b:=(decide ((i1:Int)<(r_3.length:Int)))) rfl (fun hlt2=>?_) (fun hlt2=>?_)
    ·skip
     have hlt3:i1<r_3.length:=by have h:=of_decide_eq_true hlt2; omega
     obtain ⟨K32,rfl⟩:∃ k2,K19=k2+1:=⟨K19-1,by omega⟩
     obtain ⟨y1,hb2,hL3⟩:=forN_go hL2
     unfold D9 at hb2
     refine cw_skip (cq ?_)
     obtain ⟨z3,hz3,hF6⟩:=bI hb2
     refine cw_mid (fun f w=>∃ (left3:List Int),left3=z3∧FF f [(3,.slice B4 r_3.length c4),(4,vi rank),(5,pt (aD b) 0),(7,vi x),(12,vi (i:Int)),(29,.slice B4 r_3.length c4),(30,vi (r_3.length:Int)),(31,vi (i1:Int))]∧left3.length=r_3.length∧ST w0 [] w [⟨B4,3,(left3.flatMap encI),c4*1⟩,⟨aD b,3,[vi (i:Int)],1⟩] [R0]) ?_ ?_
     ·skip
      refine cw_block (cq (cr ?_))
      refine sQ 33 (ym (vi (i1:Int)) rfl (hf2.g 31 7)) ?_
      obtain ⟨x1,hx1,hz3⟩:=bI hz3
      refine sQ 34 (yI B4 (i1:Int) K2 K0 (gi_isSome encI_len rfl (hS8.c 0) hx1) (getI_nn hx1) (getI_ltI hx1 hl) rfl (hf2.g 29 5) (hf2.g 31 7))<|sQ 35 (yl B4 ((i1:Int).toNat*1) (left2.flatMap encI) (vi x1) K1 (hS8.c 0) rfl rfl (gi_at0 encI_len hx1 rfl))<|sQ 8 (yg (vi (i1:Int)))<|sQ 9 (yg (vi x1)) (rn (cq (cr ?_)))
      refine sQ 36 (ym (vi x1))<|sQ 37 (yl (aD b) 0 [vi (i:Int)] (vi (i:Int)) K1 (hS8.c 1) rfl (hf2.g 5 2)) ?_
      obtain ⟨hsh,hz3⟩:=chk_inv hz3
      refine sQ 38 (Y_shr (k:=.i64) (a:=x1) (k':=.i64) (b:=(i:Int)) rfl rfl rfl hsh)<|sQ 39 (Y_band (k:=.i64) (a:=(shrK .i64 x1 (i:Int))) (b:=1) rfl rfl rfl)<|sQ 40 (yE (bits .and .i64 (shrK .i64 x1 (i:Int)) 1) 1) (rn ?_)
      refine cw_cond (b:=((bits .and .i64 (shrK .i64 x1 (i:Int)) 1)==1)) rfl (fun hb3=>?_) (fun hb3=>?_)
      ·skip
       have hF7:=ct hz3 hb3
       refine cr ?_
       refine sQ 41 (ym (.slice B4 r_3.length c4) rfl (hf2.g 3 0))<|sQ 42 (ym (vi (i1:Int)))<|sQ 43 (ym (vi x1))<|sQ 44 (ym (vi x) rfl (hf2.g 7 3))<|sQ 45 (Y_bxor (k:=.i64) (a:=x1) (b:=x) rfl rfl rfl)<|sQ 46 (yI B4 (i1:Int) K2 K0 (gi_isSome encI_len rfl (hS8.c 0) hx1) (getI_nn hx1) (getI_ltI hx1 hl)) ?_
       refine s0 (yS 0 1 B4 3 (vi (bits .xor .i64 x1 x)) [vi (bits .xor .i64 x1 x)] ((i1:Int).toNat*1) ((left2.set (i1:Int).toNat (bits .xor .i64 x1 x)).flatMap encI) hS8 K0 rfl rfl rfl rfl rfl rfl rfl (gi_fit0 encI_len hx1) (gi_set encI_len hx1 (bits .xor .i64 x1 x) rfl)) ?_
       rintro _ w_5 ⟨rfl,hS10⟩
       refine rn ?_
       exact ⟨(left2.set (i1:Int).toNat (bits .xor .i64 x1 x)),(sI hF7),(hf2.a 3 0 (hf2.a 4 1 (hf2.a 5 2 (hf2.a 7 3 (hf2.a 12 4 (hf2.a 29 5 (hf2.a 30 6 (hf2.a 31 7 fn_)))))))),(set_len _ _ _ hl),(hS10.sel [0,1] rfl rfl)⟩
      ·skip
       have hF8:=cf' hz3 hb3
       refine cw_skip ?_
       exact ⟨left2,(sI hF8),(hf2.a 3 0 (hf2.a 4 1 (hf2.a 5 2 (hf2.a 7 3 (hf2.a 12 4 (hf2.a 29 5 (hf2.a 30 6 (hf2.a 31 7 fn_)))))))),hl,(hS8.sel [0,1] rfl rfl)⟩
     rintro f w ⟨left3,rfl,hf3,hl1,hS9⟩
     refine cr ?_
     refine sQ 47 (yP (i1:Int) 1 rfl (hf3.g 31 7))<|sQ 31 (ym (vi (i64.wrap ((i1:Int)+1)))) (rn ?_)
     obtain rfl:=sI hF6
     exact ⟨K32,Nat.lt_succ_self _,i1+1,left3,(hf3.a 3 0 (hf3.a 4 1 (hf3.a 5 2 (hf3.a 7 3 (hf3.a 12 4 (hf3.a 29 5 (hf3.a 30 6 (fc (congrArg (Value.int .i64) (wr_succ hlt3 hN)) fn_)))))))),hl1,(hS9.sel [0,1] rfl rfl),(by omega),hL3⟩
    ·skip
     obtain rfl:K19=0:=by have h:=of_decide_eq_false hlt2; omega
     refine cw_exit rfl ?_
     obtain rfl:=sI hL2
     refine cr ?_
     refine sQ 48 (ym (vi rank) rfl (hf2.g 4 1))<|sQ 49 (yP rank 1)<|sQ 4 (yg (vi (i64.wrap (rank+1)))) (rn ?_)
     exact ⟨left2,(i64.wrap (rank+1)),B4,c4,(sI hF5),(fc (sl_len hl (hf2.g 3 0)) (fc rfl (hf2.a 12 4 fn_))),(hS8.sel [0] rfl rfl)⟩
  rintro f w ⟨left1,rank1,B3,c3,rfl,hf1,hS3⟩
  refine cr ?_
  refine sQ 50 (yP (i:Int) 1 rfl (hf1.g 12 2))<|sQ 12 (ym (vi (i64.wrap ((i:Int)+1)))) (rn ?_)
  obtain rfl:=sI hF2
  exact ⟨K5,Nat.lt_succ_self _,i+1,left1,rank1,B3,c3,(hf1.a 3 0 (hf1.a 4 1 (fc (congrArg (Value.int .i64) (wr_succ hlt1 (show 10≤9223372036854775807 by decide))) fn_))),(hS3.sel [0] rfl rfl),(by omega),hL1⟩
 ·skip
  obtain rfl:k_=0:=by have h:=of_decide_eq_false hlt; omega
  refine cw_exit rfl ?_
  obtain rfl:=sI hL
  refine cq (cr ?_)
  refine sQ 51 (ym (vi rank) rfl (hf.g 4 1))<|sQ 2 (yg (vi rank)) (rn (ct_ ?_))
  obtain rfl:=sI hF1
  exact ret1 Tryz.results104 (v1:=vi rank) (resAt_tmp rfl) ⟨rfl,(hS2.sN [])⟩

theorem Hg (m:Ad) (B:Option Addr) (c n:Nat) (w0:World) (hn:m.Rows.length=n) (hS:ST w0 [] w0 [] [⟨B,(m.Rows.flatMap encI)⟩]) {r_:Bool} (hF:AO m=some r_) :
  CV Tryz.prog 57 #[.agg #[.slice B n c]] w0 (fun v w'=>v=.bool r_∧ST w0 [] w' [] []):=by
 subst hn
 unfold AO at hF
 refine cv_of_cw 23 Tryz.func57 rfl Tryz.ntmps57 rfl ?_
 refine cq (cr ?_)
 let V0:List Value:=[.slice B m.Rows.length c]
 refine sS 1 (yB 26 (.agg V0.toArray) V0 1 hS) ?_
 rintro _ w_ ⟨b,rfl,hS1⟩
 refine sQ 2 (yg (.bool false)) (rn (cq (cr ?_)))
 refine sQ 4 (yd (aD b) 0 0 K13 K8)<|sQ 5 (yl (aD b) 0 V0 (.slice B m.Rows.length c) K9 (hS1.c 0))<|sQ 6 (Y_len (B:=B) (m:=m.Rows.length) (c:=c) K2 rfl rfl) ?_
 refine sS 3 (yN [vi 0] 1 hS1 K28) ?_
 rintro _ w_1 ⟨b1,rfl,hS2⟩
 let V1:List Value:=[vi (m.Rows.length:Int)]
 refine s0 (yT 1 1 (aD b1) 3 (vi (m.Rows.length:Int)) V1 0 hS2 K0) ?_
 rintro _ w_2 ⟨rfl,hS3⟩
 refine rn (cq ?_)
 obtain ⟨r_1,hc,hF⟩:=bI hF
 obtain ⟨r_2,hc1,hF⟩:=bI hF
 obtain ⟨r_3,hc2,hF⟩:=bI hF
 refine ra_start (hS3.se [0,1]).fn (by kernel_rfl) ?_
 have hS7:=hS3.drew
 refine rq 0 7 rfl (hS7.se [0,1]) (fun w' hw'=>(yl (aD b1) 0 V1 (vi (m.Rows.length:Int)) K1 (ST.cf hw' (i:=1) rfl))) ?_
 refine rA [1] ?_
 refine rC 8 1 rfl (yC [vi (m.Rows.length:Int),vi 1,vi 5] K50 (AV (m.Rows.length:Int) 1 5 _  (hS7.inn0 [] rfl) hc)) ?_ aN
 rintro _ w_3 ⟨rfl,hd⟩
 have hS8:=hS7.out00 hd
 have hQ0:=hS8.se [0,1]
 refine ⟨hQ0,?_⟩
 refine rq 2 9 rfl hQ0 (fun w' hw'=>(ym (.bool r_1)))<|rG 3 10 (B:=r_1) (v:=pt (aD b) 0) rfl rfl rfl (uT_ 9) hQ0 (fun hg w' hw'=>(yd (aD b) 0 0 K13 K8))<|rG 4 11 (B:=r_1) rfl rfl rfl (uT_ 9) hQ0 (fun hg1 w' hw'=>(yl (aD b) 0 V0 (.slice B m.Rows.length c) K9 (ST.cf hw' (i:=0) rfl) rfl (gv_of (v:=pt (aD b) 0) hg1)))<|rG 5 12 (B:=r_1) (v:=.func (.func 103) #[] #[pt (aD b1) 0]) rfl rfl rfl (uT_ 9) hQ0 (fun hg2 w' hw'=>(Y_makeFunc (cs:=[pt (aD b1) 0]) rfl rfl (mc rfl mn))) ?_
 refine rA [6] ?_
 refine ra_gc 13 (i:=6) (B:=r_1) (v:=.bool r_2) (F:=hS8.fn) rfl rfl rfl (uT_ 9) hS8 (fun hg3=>(yC [.slice B m.Rows.length c,.func (.func 103) #[] #[pt (aD b1) 0]] IE (CV.mono (Kt m.Rows (fun x_0=>Db x_0 (m.Rows.length:Int)) B c m.Rows.length 103 (#[pt (aD b1) 0]) [⟨aD b1,V1⟩] _ rfl Nx (fun w hw x_0 y_0 h_=>L2 x_0 (m.Rows.length:Int) (aD b1) w  hw h_) (hS8.inn0 [(true,0),(false,1)] rfl) (gb_inv hc1 hg3)) (by rintro _ _ ⟨rfl,h⟩; exact ⟨rfl,hS8.out00 h⟩)) rfl (mc (gv_of (v:=.slice B m.Rows.length c) hg3) (mc (gv_of (v:=.func (.func 103) #[] #[pt (aD b1) 0]) hg3) mn)))) ?_ ?_
 ·rintro w_4 hS9
  have hQ1:=hS9.se [0,1]
  refine ⟨hQ1,?_⟩
  refine rG 7 14 (B:=r_1) (v:=.bool (!r_2)) rfl rfl rfl (uT_ 9) hQ1 (fun hg4 w' hw'=>(Y_not (p:=r_2) rfl (gv_of (v:=.bool r_2) hg4)))<|rq 8 15 (v:=.bool (r_1&&(!r_2))) rfl hQ1 (fun w' hw'=>(Y_and (b:=r_1) (z:=(!r_2)) rfl rfl rfl rfl))<|rq 9 16 rfl hQ1 (fun w' hw'=>(ym (.bool (r_1&&(!r_2)))))<|rG 10 17 (B:=(r_1&&(!r_2))) (v:=pt (aD b) 0) rfl rfl rfl (uT_ 16) hQ1 (fun hg5 w' hw'=>(yd (aD b) 0 0 K13 K8))<|rG 11 18 (B:=(r_1&&(!r_2))) rfl rfl rfl (uT_ 16) hQ1 (fun hg6 w' hw'=>(yl (aD b) 0 V0 (.slice B m.Rows.length c) K9 (ST.cf hw' (i:=0) rfl) rfl (gv_of (v:=pt (aD b) 0) hg6))) ?_
  refine rG 13 20 (B:=(r_1&&(!r_2))) rfl rfl rfl (uT_ 16) hQ1 (fun hg8 w' hw'=>(yl (aD b1) 0 V1 (vi (m.Rows.length:Int)) K1 (ST.cf hw' (i:=1) rfl))) ?_
  refine rA [12] ?_
  refine ra_gc 19 (i:=12) (B:=(r_1&&(!r_2))) (v:=vi r_3) (F:=hS9.fn) rfl rfl rfl (uT_ 16) hS9 (fun hg7=>(yC V0 Ma (CV.mono (Na m.Rows B c m.Rows.length _ rfl (hS9.inn0 [(true,0)] rfl) (gb_inv hc2 hg7)) (by rintro _ _ ⟨rfl,h⟩; exact ⟨rfl,hS9.out00 h⟩)) rfl (mc (gv_of (v:=.slice B m.Rows.length c) hg7) mn))) ?_ ?_
  ·rintro w_5 hS10
   have hQ2:=hS10.se [0,1]
   refine ⟨hQ2,?_⟩
   refine rG 14 21 (B:=(r_1&&(!r_2))) rfl rfl rfl (uT_ 16) hQ2 (fun hg9 w' hw'=>(yE r_3 (m.Rows.length:Int) rfl (gv_of (v:=vi r_3) hg9) (gv_of (v:=vi (m.Rows.length:Int)) hg9)))<|rq 15 22 (v:=.bool ((r_1&&(!r_2))&&(r_3==(m.Rows.length:Int)))) rfl hQ2 (fun w' hw'=>(Y_and (b:=(r_1&&(!r_2))) (z:=(r_3==(m.Rows.length:Int))) rfl rfl rfl rfl))<|rq 16 2 rfl hQ2 (fun w' hw'=>(yg (.bool ((r_1&&(!r_2))&&(r_3==(m.Rows.length:Int)))))) ?_
   refine ra_done (by kernel_rfl) ?_
   refine ct_ ?_
   obtain rfl:=sI hF
   exact ret1 Tryz.results57 (v1:=.bool ((r_1&&(!r_2))&&(r_3==(m.Rows.length:Int)))) (resAt_tmp rfl) ⟨rfl,(hS10.sN [])⟩
  exact aN
 exact aN

theorem EF (p:Ah) (B:Option Addr) (c n:Nat) (B1:Option Addr) (c1 n1:Nat) (w0:World) (hn:p.Terms.length=n) (hn1:p.Out.Rows.length=n1) (hS:ST w0 [] w0 [] [⟨B,(p.Terms.flatMap eN1)⟩,⟨B1,(p.Out.Rows.flatMap encI)⟩]) {r_:Bool} (hF:AD p=some r_) :
  CV Tryz.prog 17 #[.agg #[vi p.Qubits,vi p.Phase,.slice B n c,.slice B1 n1 c1]] w0 (fun v w'=>v=.bool r_∧ST w0 [] w' [] []):=by
 subst hn
 subst hn1
 unfold AD at hF
 refine cv_of_cw 32 Tryz.func17 rfl Tryz.ntmps17 rfl ?_
 refine cq (cr ?_)
 let V0:List Value:=[vi p.Qubits,vi p.Phase,.slice B p.Terms.length c,.slice B1 p.Out.Rows.length c1]
 refine sS 1 (yB 28 (.agg V0.toArray) V0 4 hS) ?_
 rintro _ w_ ⟨b,rfl,hS1⟩
 refine sQ 2 (yg (.bool false)) (rn (cq (cr ?_)))
 refine sQ 3 (yd (aD b) 0 0 K44 K0)<|sQ 4 (yl (aD b) 0 V0 (vi p.Qubits) K1 (hS1.c 0)) ?_
 obtain ⟨r_1,hc,hF⟩:=bI hF
 refine sc 5 rfl rfl (yC [vi p.Qubits,vi 1,vi 5] K50 (AV p.Qubits 1 5 _  (hS1.inn0 [] rfl) hc)) ?_
 rintro _ w_1 ⟨rfl,hd⟩
 have hS2:=hS1.out00 hd
 refine sQ 6 (ym (.bool r_1)) ?_
 refine sgq 7 (B:=r_1) (v:=pt (aD b) 1) rfl rfl (uT_ 6) (fun hg=>(yd (aD b) 0 0 K63 K0)) ?_
 refine sgq 8 (B:=r_1) rfl rfl (uT_ 6) (fun hg1=>(yl (aD b) 1 V0 (vi p.Phase) K1 (hS2.c 0) rfl (gv_of (v:=pt (aD b) 1) hg1))) ?_
 obtain ⟨r_2,hc1,hF⟩:=bI hF
 refine sgc 9 (B:=r_1) (v:=.bool r_2) (F:=hS2.fn) rfl rfl (uT_ 6) hS2 (fun hg2=>(yC [vi p.Phase,vi 0,vi 7] K50 (CV.mono (AV p.Phase 0 7 _  (hS2.inn0 [] rfl) (gb_inv hc1 hg2)) (by rintro _ _ ⟨rfl,h⟩; exact ⟨rfl,hS2.out00 h⟩)) rfl (mc (gv_of (v:=vi p.Phase) hg2) (mc rfl (mc rfl mn))))) ?_
 rintro w_2 hS3
 refine sQ 10 (Y_and (b:=r_1) (z:=r_2) rfl rfl rfl rfl)<|sQ 11 (ym (.bool (r_1&&r_2))) ?_
 refine sgq 12 (B:=(r_1&&r_2)) (v:=pt (aD b) 0) rfl rfl (uT_ 11) (fun hg3=>(yd (aD b) 0 0 K44 K0)) ?_
 refine sgq 13 (B:=(r_1&&r_2)) rfl rfl (uT_ 11) (fun hg4=>(yl (aD b) 0 V0 (vi p.Qubits) K1 (hS3.c 0) rfl (gv_of (v:=pt (aD b) 0) hg4))) ?_
 refine sgq 14 (B:=(r_1&&r_2)) (v:=pt (aD b) 2) rfl rfl (uT_ 11) (fun hg5=>(yd (aD b) 0 0 K43 K35)) ?_
 refine sgq 15 (B:=(r_1&&r_2)) rfl rfl (uT_ 11) (fun hg6=>(yl (aD b) 2 V0 (.slice B p.Terms.length c) K42 (hS3.c 0) rfl (gv_of (v:=pt (aD b) 2) hg6))) ?_
 obtain ⟨r_3,hc2,hF⟩:=bI hF
 refine sgc 16 (B:=(r_1&&r_2)) (v:=.bool r_3) (F:=hS3.fn) rfl rfl (uT_ 11) hS3 (fun hg7=>(yC [vi p.Qubits,.slice B p.Terms.length c] Ii (CV.mono (JD p.Qubits p.Terms B c p.Terms.length _ rfl (hS3.inn0 [(true,0)] rfl) (gb_inv hc2 hg7)) (by rintro _ _ ⟨rfl,h⟩; exact ⟨rfl,hS3.out00 h⟩)) rfl (mc (gv_of (v:=vi p.Qubits) hg7) (mc (gv_of (v:=.slice B p.Terms.length c) hg7) mn)))) ?_
 rintro w_3 hS4
 refine sQ 17 (Y_and (b:=(r_1&&r_2)) (z:=r_3) rfl rfl rfl rfl)<|sQ 18 (ym (.bool ((r_1&&r_2)&&r_3))) ?_
 refine sgq 19 (B:=((r_1&&r_2)&&r_3)) (v:=pt (aD b) 3) rfl rfl (uT_ 18) (fun hg8=>(yd (aD b) 0 0 K59 K6)) ?_
 refine sgq 20 (B:=((r_1&&r_2)&&r_3)) (v:=pt (aD b) 3) rfl rfl (uT_ 18) (fun hg9=>(yd (aD b) 3 0 K13 K8 rfl (gv_of (v:=pt (aD b) 3) hg9))) ?_
 refine sgq 21 (B:=((r_1&&r_2)&&r_3)) rfl rfl (uT_ 18) (fun hg10=>(yl (aD b) 3 V0 (.slice B1 p.Out.Rows.length c1) K9 (hS4.c 0) rfl (gv_of (v:=pt (aD b) 3) hg10))) ?_
 refine sgq 22 (B:=((r_1&&r_2)&&r_3)) (v:=vi (p.Out.Rows.length:Int)) rfl rfl (uT_ 18) (fun hg11=>(Y_len (B:=B1) (m:=p.Out.Rows.length) (c:=c1) K2 rfl (gv_of (v:=.slice B1 p.Out.Rows.length c1) hg11))) ?_
 refine sgq 23 (B:=((r_1&&r_2)&&r_3)) (v:=pt (aD b) 0) rfl rfl (uT_ 18) (fun hg12=>(yd (aD b) 0 0 K44 K0)) ?_
 refine sgq 24 (B:=((r_1&&r_2)&&r_3)) rfl rfl (uT_ 18) (fun hg13=>(yl (aD b) 0 V0 (vi p.Qubits) K1 (hS4.c 0) rfl (gv_of (v:=pt (aD b) 0) hg13))) ?_
 refine sgq 25 (B:=((r_1&&r_2)&&r_3)) rfl rfl (uT_ 18) (fun hg14=>(yE (p.Out.Rows.length:Int) p.Qubits rfl (gv_of (v:=vi (p.Out.Rows.length:Int)) hg14) (gv_of (v:=vi p.Qubits) hg14))) ?_
 refine sQ 26 (Y_and (b:=((r_1&&r_2)&&r_3)) (z:=((p.Out.Rows.length:Int)==p.Qubits)) rfl rfl rfl rfl)<|sQ 27 (ym (.bool (((r_1&&r_2)&&r_3)&&((p.Out.Rows.length:Int)==p.Qubits)))) ?_
 refine sgq 28 (B:=(((r_1&&r_2)&&r_3)&&((p.Out.Rows.length:Int)==p.Qubits))) (v:=pt (aD b) 3) rfl rfl (uT_ 27) (fun hg15=>(yd (aD b) 0 0 K59 K6)) ?_
 let V1:List Value:=[.slice B1 p.Out.Rows.length c1]
 refine sgq 29 (B:=(((r_1&&r_2)&&r_3)&&((p.Out.Rows.length:Int)==p.Qubits))) (v:=.agg V1.toArray) rfl rfl (uT_ 27) (fun hg16=>(ya (aD b) 3 V0 V1 K16 K6 (hS4.c 0) rfl (gv_of (v:=pt (aD b) 3) hg16))) ?_
 obtain ⟨r_4,hc3,hF⟩:=bI hF
 refine sgc 30 (B:=(((r_1&&r_2)&&r_3)&&((p.Out.Rows.length:Int)==p.Qubits))) (v:=.bool r_4) (F:=hS4.fn) rfl rfl (uT_ 27) hS4 (fun hg17=>(yC [.agg V1.toArray] G5 (CV.mono (Hg p.Out B1 c1 p.Out.Rows.length _ rfl (hS4.inn0 [(true,1)] rfl) (gb_inv hc3 hg17)) (by rintro _ _ ⟨rfl,h⟩; exact ⟨rfl,hS4.out00 h⟩)) rfl (mc (gv_of (v:=.agg V1.toArray) hg17) mn))) ?_
 rintro w_4 hS5
 refine sQ 31 (Y_and (b:=(((r_1&&r_2)&&r_3)&&((p.Out.Rows.length:Int)==p.Qubits))) (z:=r_4) rfl rfl rfl rfl)<|sQ 2 (yg (.bool ((((r_1&&r_2)&&r_3)&&((p.Out.Rows.length:Int)==p.Qubits))&&r_4))) (rn (ct_ ?_))
 obtain rfl:=sI hF
 exact ret1 Tryz.results17 (v1:=.bool ((((r_1&&r_2)&&r_3)&&((p.Out.Rows.length:Int)==p.Qubits))&&r_4)) (resAt_tmp rfl) ⟨rfl,(hS5.sN [])⟩

theorem Nq (v_:Int) (p:Int) (B:Option Addr) (w0:World)  (hS:ST w0 [] w0 [] [⟨B,[vi p]⟩]) {r_:Bool} (hF:Ei v_ p=some r_) :
  CV Tryz.prog 105 #[vi v_,pt B 0] w0 (fun v w'=>v=.bool r_∧ST w0 [] w' [] []):=by
 unfold Ei at hF
 refine cv_of_cw 9 Tryz.func105 rfl Tryz.ntmps105 rfl ?_
 refine cq (cr ?_)
 refine sQ 3 (yg (.bool false)) (rn (cq (cr ?_)))
 refine sQ 4 (ym (vi v_))<|sQ 5 (yl B 0 [vi p] (vi p) K1 (hS.rf (i:=0) rfl)) ?_
 obtain ⟨hsh,hF⟩:=chk_inv hF
 refine sQ 6 (Y_shr (k:=.i64) (a:=v_) (k':=.i64) (b:=p) rfl rfl rfl hsh)<|sQ 7 (Y_band (k:=.i64) (a:=(shrK .i64 v_ p)) (b:=1) rfl rfl rfl)<|sQ 8 (yE (bits .and .i64 (shrK .i64 v_ p) 1) 0)<|sQ 3 (yg (.bool ((bits .and .i64 (shrK .i64 v_ p) 1)==0))) (rn (ct_ ?_))
 obtain rfl:=sI hF
 exact ret1 Tryz.results105 (v1:=.bool ((bits .and .i64 (shrK .i64 v_ p) 1)==0)) (resAt_tmp rfl) ⟨rfl,(hS.sN [])⟩

theorem Of (vectors:List Int) (j:Int) (B:Option Addr) (c n:Nat) (w0:World) (hn:vectors.length=n) (hS:ST w0 [] w0 [] [⟨B,(vectors.flatMap encI)⟩]) {r_:Bool} (hF:Eo vectors j=some r_) :
  CV Tryz.prog 59 #[.slice B n c,vi j] w0 (fun v w'=>v=.bool r_∧ST w0 [] w' [] []):=by
 subst hn
 unfold Eo at hF
 refine cv_of_cw 9 Tryz.func59 rfl Tryz.ntmps59 rfl ?_
 refine cq (cr ?_)
 refine sS 3 (yB 3 (vi j) [vi j] 1 hS) ?_
 rintro _ w_ ⟨b,rfl,hS1⟩
 refine sQ 4 (yg (.bool false)) (rn (cq (cr ?_)))
 refine sQ 5 (ym (.slice B vectors.length c))<|sQ 6 (Y_makeFunc (cs:=[pt (aD b) 0]) rfl rfl (mc rfl mn)) ?_
 obtain ⟨r_1,hc,hF⟩:=bI hF
 refine sc 7 rfl rfl (yC [.slice B vectors.length c,.func (.func 105) #[] #[pt (aD b) 0]] IE (Kt vectors (fun x_0=>Ei x_0 j) B c vectors.length 105 (#[pt (aD b) 0]) [⟨aD b,[vi j]⟩] _ rfl Ns (fun w hw x_0 y_0 h_=>Nq x_0 j (aD b) w  hw h_) (hS1.inn0 [(true,0),(false,0)] rfl) hc)) ?_
 rintro _ w_1 ⟨rfl,hd⟩
 have hS2:=hS1.out00 hd
 refine sQ 8 (Y_not (p:=r_1) rfl rfl)<|sQ 4 (yg (.bool (!r_1))) (rn (ct_ ?_))
 obtain rfl:=sI hF
 exact ret1 Tryz.results59 (v1:=.bool (!r_1)) (resAt_tmp rfl) ⟨rfl,(hS2.sN [])⟩

theorem H0 (vectors:List Int) (j:Int) (B:Option Addr) (c n:Nat) (w0:World) (hn:vectors.length=n) (hS:ST w0 [] w0 [] [⟨B,(vectors.flatMap encI)⟩]) {r_:List Int} {r_1:List Int} (hF:Ck vectors j=some (r_,r_1)) :
  CV Tryz.prog 62 #[.slice B n c,vi j] w0 (fun v w'=>∃ (B1:Option Addr) (c1:Nat) (B2:Option Addr) (c2:Nat),v=.tuple #[.slice B1 r_.length c1,.slice B2 r_1.length c2]∧ST w0 [] w' [⟨B1,3,(r_.flatMap encI),c1*1⟩,⟨B2,3,(r_1.flatMap encI),c2*1⟩] []):=by
 subst hn
 unfold Ck at hF
 refine cv_of_cw 34 Tryz.func62 rfl Tryz.ntmps62 rfl ?_
 refine cq (cr ?_)
 refine sQ 4 (yg (.slice none 0 0))<|sQ 5 (yg (.slice none 0 0)) (rn (cq (cr ?_)))
 refine sS 10 (Ys_bslice0 (s:=1) (e:=3) hS K2 K0 rfl) ?_
 rintro _ w_ ⟨b,rfl,hS1⟩
 refine sS 11 (Ys_bslice0 (s:=1) (e:=3) hS1 K2 K0 rfl) ?_
 rintro _ w_1 ⟨b1,rfl,hS2⟩
 refine sQ 6 (yg (.slice (aD b) 0 0))<|sQ 7 (yg (.slice (aD b1) 0 0)) (rn (cq (cq (cr ?_))))
 refine sQ 12 (ym (.slice B vectors.length c))<|sQ 13 (Y_len (B:=B) (m:=vectors.length) (c:=c) K2 rfl rfl)<|sQ 14 (ym (vi 0)) (rn ?_)
 obtain ⟨hN,hF⟩:=chk_inv hF
 obtain ⟨z,hz,hF1⟩:=bI hF
 refine cw_block ?_
 refine cw_loop (fun k f w=>∃ (i:Nat) (set_:List Int) (bare:List Int) (B3:Option Addr) (c3:Nat) (B4:Option Addr) (c4:Nat),FF f [(1,vi j),(6,.slice B3 set_.length c3),(7,.slice B4 bare.length c4),(12,.slice B vectors.length c),(13,vi (vectors.length:Int)),(14,vi (i:Int))]∧ST w0 [] w [⟨B3,3,(set_.flatMap encI),c3*1⟩,⟨B4,3,(bare.flatMap encI),c4*1⟩] [⟨B,(vectors.flatMap encI)⟩]∧i+k=vectors.length∧forN (E8 vectors j) k i (set_,bare)=some z) vectors.length ⟨0,[],[],aD b,0,aD b1,0,(fc rfl (fc rfl (fc rfl (fc rfl (fc rfl (fc rfl fn_)))))),(hS2.sel [0,1] rfl rfl),Nat.zero_add _,hz⟩ ?_
 rintro k_ f w ⟨i,set_,bare,B3,c3,B4,c4,hf,hS3,hik,hL⟩
 refine cq (cr ?_)
 refine sQ 15 (yL (i:Int) (vectors.length:Int) rfl (hf.g 14 5) (hf.g 13 4)) (rn (cq ?_))
 refine cw_cond (b:=(decide ((i:Int)<(vectors.length:Int)))) rfl (fun hlt=>?_) (fun hlt=>?_)
 ·skip
  have hlt1:i<vectors.length:=by have h:=of_decide_eq_true hlt; omega
  obtain ⟨K5,rfl⟩:∃ k2,k_=k2+1:=⟨k_-1,by omega⟩
  obtain ⟨y,hb,hL1⟩:=forN_go hL
  unfold E8 at hb
  refine cw_skip (cq ?_)
  obtain ⟨z1,hz1,hF2⟩:=bI hb
  refine cw_mid (fun f w=>∃ (set_1:List Int) (bare1:List Int) (B5:Option Addr) (c5:Nat) (B6:Option Addr) (c6:Nat),(set_1,bare1)=z1∧FF f [(1,vi j),(6,.slice B5 set_1.length c5),(7,.slice B6 bare1.length c6),(12,.slice B vectors.length c),(13,vi (vectors.length:Int)),(14,vi (i:Int))]∧ST w0 [] w [⟨B5,3,(set_1.flatMap encI),c5*1⟩,⟨B6,3,(bare1.flatMap encI),c6*1⟩] [⟨B,(vectors.flatMap encI)⟩]) ?_ ?_
  ·skip
   refine cw_block (cq (cr ?_))
   obtain ⟨x,hx,hz1⟩:=bI hz1
   refine sQ 16 (yI B (i:Int) K2 K0 (gi_isSome encI_len rfl (hS3.rf (i:=0) rfl) hx) (getI_nn hx) (getI_ltI hx rfl) rfl (hf.g 12 3) (hf.g 14 5))<|sQ 17 (yl B ((i:Int).toNat*1) (vectors.flatMap encI) (vi x) K1 (hS3.rf (i:=0) rfl) rfl rfl (gi_at0 encI_len hx rfl))<|sQ 9 (yg (vi x)) (rn (cq (cr ?_)))
   refine sQ 18 (ym (vi x))<|sQ 19 (ym (vi j) rfl (hf.g 1 0)) ?_
   obtain ⟨hsh,hz1⟩:=chk_inv hz1
   refine sQ 20 (Y_shr (k:=.i64) (a:=x) (k':=.i64) (b:=j) rfl rfl rfl hsh)<|sQ 21 (Y_band (k:=.i64) (a:=(shrK .i64 x j)) (b:=1) rfl rfl rfl)<|sQ 22 (yE (bits .and .i64 (shrK .i64 x j) 1) 1) (rn ?_)
   refine cw_cond (b:=((bits .and .i64 (shrK .i64 x j) 1)==1)) rfl (fun hb1=>?_) (fun hb1=>?_)
   ·skip
    have hF3:=ct hz1 hb1
    refine cr ?_
    refine sQ 23 (ym (.slice B3 set_.length c3) rfl (hf.g 6 1))<|sQ 24 (ym (vi x)) ?_
    refine sS 25 (Ys_bslice (s:=1) (len:=1) (vs:=[(0,vi x)]) (cs:=[vi x]) (zs:=[vi 0]) (m:=1) hS3 K2 K0 K24 rfl (mpc rfl mpn) rfl rfl rfl (by kernel_rfl) (by kernel_rfl) rfl) ?_
    rintro _ w_2 ⟨b2,rfl,hS5⟩
    obtain ⟨hap,hF3⟩:=chk_inv hF3
    refine sS 26 (Ys_append (s:=1) (by':=8) (i:=0) (nn:=set_.length) (c:=c3) (k:=1) (len:=(set_++[x]).length) (B:=B3) (xs:=([x].flatMap encI)) (cs':=((set_++[x]).flatMap encI)) hS5 K2 K0 K31 K28 rfl (by decide) rfl rfl rfl rfl (fm_lenn (l:=set_) encI_len rfl) rfl (hS5.c 2) (fm_lenn (l:=[x]) encI_len rfl) (fm_one' (enc:=encI) encI_one [x]) (by have:=hap; omega) (by have:=hap; simp only [maxLen]; omega) (fm_app _ _) (app_len (l:=set_) (l':=[x]) rfl rfl)) ?_
    rintro _ w_3 ⟨B7,c7,rfl,hS6⟩
    refine sQ 6 (yg (.slice B7 ((set_++[x]).length) c7)) (rn ?_)
    exact ⟨(set_++[x]),bare,B7,c7,B4,c4,(sI hF3),(hf.a 1 0 (fc rfl (hf.a 7 2 (hf.a 12 3 (hf.a 13 4 (hf.a 14 5 fn_)))))),(hS6.sel [0,1] rfl rfl)⟩
   ·skip
    have hF4:=cf' hz1 hb1
    refine cr ?_
    refine sQ 27 (ym (.slice B4 bare.length c4) rfl (hf.g 7 2))<|sQ 28 (ym (vi x)) ?_
    refine sS 29 (Ys_bslice (s:=1) (len:=1) (vs:=[(0,vi x)]) (cs:=[vi x]) (zs:=[vi 0]) (m:=1) hS3 K2 K0 K24 rfl (mpc rfl mpn) rfl rfl rfl (by kernel_rfl) (by kernel_rfl) rfl) ?_
    rintro _ w_4 ⟨b3,rfl,hS7⟩
    obtain ⟨hap1,hF4⟩:=chk_inv hF4
    refine sS 30 (Ys_append (s:=1) (by':=8) (i:=1) (nn:=bare.length) (c:=c4) (k:=1) (len:=(bare++[x]).length) (B:=B4) (xs:=([x].flatMap encI)) (cs':=((bare++[x]).flatMap encI)) hS7 K2 K0 K31 K28 rfl (by decide) rfl rfl rfl rfl (fm_lenn (l:=bare) encI_len rfl) rfl (hS7.c 2) (fm_lenn (l:=[x]) encI_len rfl) (fm_one' (enc:=encI) encI_one [x]) (by have:=hap1; omega) (by have:=hap1; simp only [maxLen]; omega) (fm_app _ _) (app_len (l:=bare) (l':=[x]) rfl rfl)) ?_
    rintro _ w_5 ⟨B8,c8,rfl,hS8⟩
    refine sQ 7 (yg (.slice B8 ((bare++[x]).length) c8)) (rn ?_)
    exact ⟨set_,(bare++[x]),B3,c3,B8,c8,(sI hF4),(hf.a 1 0 (hf.a 6 1 (fc rfl (hf.a 12 3 (hf.a 13 4 (hf.a 14 5 fn_)))))),(hS8.sel [0,1] rfl rfl)⟩
  rintro f w ⟨set_1,bare1,B5,c5,B6,c6,rfl,hf1,hS4⟩
  refine cr ?_
  refine sQ 31 (yP (i:Int) 1 rfl (hf1.g 14 5))<|sQ 14 (ym (vi (i64.wrap ((i:Int)+1)))) (rn ?_)
  obtain rfl:=sI hF2
  exact ⟨K5,Nat.lt_succ_self _,i+1,set_1,bare1,B5,c5,B6,c6,(hf1.a 1 0 (hf1.a 6 1 (hf1.a 7 2 (hf1.a 12 3 (hf1.a 13 4 (fc (congrArg (Value.int .i64) (wr_succ hlt1 hN)) fn_)))))),(hS4.sel [0,1] rfl rfl),(by omega),hL1⟩
 ·skip
  obtain rfl:k_=0:=by have h:=of_decide_eq_false hlt; omega
  refine cw_exit rfl ?_
  obtain rfl:=sI hL
  refine cq (cr ?_)
  refine sQ 32 (ym (.slice B3 set_.length c3) rfl (hf.g 6 1))<|sQ 33 (ym (.slice B4 bare.length c4) rfl (hf.g 7 2))<|sQ 4 (yg (.slice B3 set_.length c3))<|sQ 5 (yg (.slice B4 bare.length c4)) (rn (ct_ ?_))
  obtain ⟨rfl,rfl⟩:=pr2 (sI hF1)
  exact ret2 Tryz.results62 (v1:=.slice B3 set_.length c3) (resAt_tmp rfl) (v2:=.slice B4 bare.length c4) (resAt_tmp rfl) ⟨B3,c3,B4,c4,rfl,(hS3.sN [0,1])⟩

theorem Ln (task:Ag) (B:Option Addr) (c n:Nat) (w0:World) (hn:task.vectors.length=n) (hS:ST w0 [] w0 [] [⟨B,(task.vectors.flatMap encI)⟩]) {r_:Int} (hF:CY task=some r_) :
  CV Tryz.prog 61 #[.agg #[.slice B n c,vi task.free,vi task.target]] w0 (fun v w'=>v=vi r_∧ST w0 [] w' [] []):=by
 subst hn
 unfold CY at hF
 refine cv_of_cw 37 Tryz.func61 rfl Tryz.ntmps61 rfl ?_
 refine cq (cr ?_)
 let V1:List Value:=[.slice B task.vectors.length c,vi task.free,vi task.target]
 refine sS 1 (yB 99 (.agg V1.toArray) V1 3 hS) ?_
 rintro _ w_ ⟨b,rfl,hS1⟩
 refine sQ 2 (yg (vi 0)) (rn (cq (cr ?_)))
 refine sQ 3 (yg (vi (-1)))<|sQ 4 (yg (vi (-1))) (rn (cq (cq (cr ?_))))
 refine sQ 9 (ym (vi 0)) (rn ?_)
 obtain ⟨z,hz,hF1⟩:=bI hF
 refine cw_block ?_
 let O0:Ob:=⟨aD b,99,V1,3⟩
 refine cw_loop (fun k f w=>∃ (i:Nat) (best:Int) (most:Int),FF f [(1,pt (aD b) 0),(3,vi best),(4,vi most),(9,vi (i:Int))]∧ST w0 [] w [O0] [⟨B,(task.vectors.flatMap encI)⟩]∧i+k=5∧forN (F2 task) k i (best,most)=some z) 5 ⟨0,(-1),(-1),(fc rfl (fc rfl (fc rfl (fc rfl fn_)))),(hS1.sel [0] rfl rfl),Nat.zero_add _,hz⟩ ?_
 rintro k_ f w ⟨i,best,most,hf,hS2,hik,hL⟩
 refine cq (cr ?_)
 refine sQ 10 (yL (i:Int) 5 rfl (hf.g 9 3)) (rn (cq ?_))
 refine cw_cond (b:=(decide ((i:Int)<5))) rfl (fun hlt=>?_) (fun hlt=>?_)
 ·skip
  have hlt1:i<5:=by have h:=of_decide_eq_true hlt; omega
  obtain ⟨K5,rfl⟩:∃ k2,k_=k2+1:=⟨k_-1,by omega⟩
  obtain ⟨y,hb,hL1⟩:=forN_go hL
  unfold F2 at hb
  refine cw_skip (cq ?_)
  obtain ⟨z1,hz1,hF2⟩:=bI hb
  refine cw_mid (fun f w=>∃ (best1:Int) (most1:Int),(best1,most1)=z1∧FF f [(1,pt (aD b) 0),(3,vi best1),(4,vi most1),(9,vi (i:Int))]∧ST w0 [] w [O0] [⟨B,(task.vectors.flatMap encI)⟩]) ?_ ?_
  ·skip
   refine cw_block (cq (cr ?_))
   refine sQ 11 (ym (vi (i:Int)) rfl (hf.g 9 3))<|sQ 5 (yg (vi (i:Int))) (rn (cq (cq (cr ?_))))
   refine sQ 12 (yd (aD b) 0 0 Kv K0 rfl (hf.g 1 0))<|sQ 13 (yl (aD b) 1 V1 (vi task.free) K1 (hS2.c 0))<|sQ 14 (ym (vi (i:Int))) ?_
   obtain ⟨hsh,hz1⟩:=chk_inv hz1
   refine sQ 15 (Y_shr (k:=.i64) (a:=task.free) (k':=.i64) (b:=(i:Int)) rfl rfl rfl hsh)<|sQ 16 (Y_band (k:=.i64) (a:=(shrK .i64 task.free (i:Int))) (b:=1) rfl rfl rfl)<|sQ 17 (yE (bits .and .i64 (shrK .i64 task.free (i:Int)) 1) 0) (rn ?_)
   refine cw_cond (b:=((bits .and .i64 (shrK .i64 task.free (i:Int)) 1)==0)) rfl (fun hb1=>?_) (fun hb1=>?_)
   ·skip
    have hF3:=ct hz1 hb1
    refine cw_exit rfl ?_
    exact ⟨best,most,(sI hF3),(hf.a 1 0 (hf.a 3 1 (hf.a 4 2 (hf.a 9 3 fn_)))),(hS2.sel [0] rfl rfl)⟩
   ·skip
    have hF4:=cf' hz1 hb1
    refine cw_skip (cq (cr ?_))
    refine sQ 19 (yd (aD b) 0 0 K78 K8 rfl (hf.g 1 0))<|sQ 20 (yl (aD b) 0 V1 (.slice B task.vectors.length c) K9 (hS2.c 0))<|sQ 21 (ym (vi (i:Int))) ?_
    obtain ⟨⟨r_1,r_2⟩,hc,hF4⟩:=bI hF4
    refine sc 22 rfl rfl (yC [.slice B task.vectors.length c,vi (i:Int)] IZ (H0 task.vectors (i:Int) B c task.vectors.length _ rfl (hS2.inn0 [(true,0)] rfl) hc)) ?_
    rintro _ w_1 ⟨B1,c1,B2,c2,rfl,hd⟩
    have hS4:=hS2.out0 hd
    refine sQ 18 (ym (.tuple #[.slice B1 r_1.length c1,.slice B2 r_2.length c2]))<|sQ 23 (ye (.slice B1 r_1.length c1))<|sQ 24 (ye (.slice B2 r_2.length c2))<|sQ 6 (yg (.slice B1 r_1.length c1))<|sQ 7 (yg (.slice B2 r_2.length c2)) (rn (cq (cr ?_)))
    refine sQ 25 (ym (.slice B1 r_1.length c1))<|sQ 26 (Y_len (B:=B1) (m:=r_1.length) (c:=c1) K2 rfl rfl)<|sQ 27 (ym (.slice B2 r_2.length c2))<|sQ 28 (Y_len (B:=B2) (m:=r_2.length) (c:=c2) K2 rfl rfl)<|sQ 29 (Y_max2 (k:=.i64) (a:=(r_1.length:Int)) (b:=(r_2.length:Int)) rfl rfl rfl)<|sQ 8 (yg (vi (if (r_1.length:Int)<(r_2.length:Int) then (r_2.length:Int) else (r_1.length:Int)))) (rn (cq (cr ?_)))
    refine sQ 30 (ym (vi (if (r_1.length:Int)<(r_2.length:Int) then (r_2.length:Int) else (r_1.length:Int))))<|sQ 31 (ym (vi most) rfl (hf.g 4 2))<|sQ 32 (Y_gt (k:=.i64) (a:=(if (r_1.length:Int)<(r_2.length:Int) then (r_2.length:Int) else (r_1.length:Int))) (b:=most) rfl rfl rfl) (rn ?_)
    refine cw_cond (b:=(decide (most<(if (r_1.length:Int)<(r_2.length:Int) then (r_2.length:Int) else (r_1.length:Int))))) rfl (fun hb2=>?_) (fun hb2=>?_)
    ·skip
     have hF5:=ct hF4 hb2
     refine cr ?_
     refine sQ 33 (ym (vi (i:Int)))<|sQ 34 (ym (vi (if (r_1.length:Int)<(r_2.length:Int) then (r_2.length:Int) else (r_1.length:Int))))<|sQ 3 (yg (vi (i:Int)))<|sQ 4 (yg (vi (if (r_1.length:Int)<(r_2.length:Int) then (r_2.length:Int) else (r_1.length:Int)))) (rn ?_)
     exact ⟨(i:Int),(if (r_1.length:Int)<(r_2.length:Int) then (r_2.length:Int) else (r_1.length:Int)),(sI hF5),(hf.a 1 0 (fc rfl (fc rfl (hf.a 9 3 fn_)))),(hS4.sel [0] rfl rfl)⟩
    ·skip
     have hF6:=cf' hF4 hb2
     refine cw_skip ?_
     exact ⟨best,most,(sI hF6),(hf.a 1 0 (hf.a 3 1 (hf.a 4 2 (hf.a 9 3 fn_)))),(hS4.sel [0] rfl rfl)⟩
  rintro f w ⟨best1,most1,rfl,hf1,hS3⟩
  refine cr ?_
  refine sQ 35 (yP (i:Int) 1 rfl (hf1.g 9 3))<|sQ 9 (ym (vi (i64.wrap ((i:Int)+1)))) (rn ?_)
  obtain rfl:=sI hF2
  exact ⟨K5,Nat.lt_succ_self _,i+1,best1,most1,(hf1.a 1 0 (hf1.a 3 1 (hf1.a 4 2 (fc (congrArg (Value.int .i64) (wr_succ hlt1 (show 5≤9223372036854775807 by decide))) fn_)))),(hS3.sel [0] rfl rfl),(by omega),hL1⟩
 ·skip
  obtain rfl:k_=0:=by have h:=of_decide_eq_false hlt; omega
  refine cw_exit rfl ?_
  obtain rfl:=sI hL
  refine cq (cr ?_)
  refine sQ 36 (ym (vi best) rfl (hf.g 3 1))<|sQ 2 (yg (vi best)) (rn (ct_ ?_))
  obtain rfl:=sI hF1
  exact ret1 Tryz.results61 (v1:=vi best) (resAt_tmp rfl) ⟨rfl,(hS2.sN [])⟩

theorem K83:(Tryz.prog.info? 99).map (fun i=>i.zero.map (fun z=>z.cells.toList))=some (some [.slice none 0 0,vi 0,vi 0]):=by kernel_rfl
theorem OY:bytesB Tryz.prog 99 40=true:=by kernel_rfl
theorem K71:fieldB Tryz.prog 99 2 2 3=true:=by kernel_rfl
theorem K84:placesB Tryz.prog 99 [(0,1),(1,1),(2,1)]=true:=by kernel_rfl
theorem Le:callB Tryz.prog 59=true:=by kernel_rfl
theorem N9:callB Tryz.prog 60=true:=by kernel_rfl
theorem P0:callB Tryz.prog 61=true:=by kernel_rfl
abbrev gRw (p:Hd×Ag):Ob:=trow 3 (fun h=>h) Ag.vectors p
theorem MA {D:List (Hd×Ag)} {i:Nat} {h:Hd} {x y:Ag} (hx:D[i]?=some (h,x)) (hl:y.vectors.length=x.vectors.length) (hf:y.free=x.free) (ht:y.target=x.target):(D.set i (h,y)).flatMap Av=D.flatMap Av:=by
 have hk:=(List.getElem?_eq_some_iff.1 hx).1
 have e:Av (h,y)=Av (h,x):=by unfold Av; simp only [hl,hf,ht]
 have h1:D=D.take i++(h,x)::D.drop (i+1):=by
  obtain ⟨h1,h2⟩:=List.getElem?_eq_some_iff.1 hx
  have h3:=List.take_append_drop i D
  rw [List.drop_eq_getElem_cons h1,h2] at h3
  exact h3.symm
 rw [List.set_eq_take_append_cons_drop,if_pos hk,List.flatMap_append,List.flatMap_cons,e,← List.flatMap_cons,← List.flatMap_append,← h1]
theorem Md {D:List (Hd×Ag)} {i:Nat} {h:Hd} {x y:Ag} (hx:D[i]?=some (h,x)):(D.set i (h,y)).map Prod.fst=D.map Prod.fst:=by
 rw [List.map_set]
 apply List.ext_getElem?
 intro k
 rw [List.getElem?_set]
 by_cases e:i=k
 ·subst e
  rw [if_pos rfl,List.getElem?_map,hx]
  have:=(List.getElem?_eq_some_iff.1 hx).1
  rw [if_pos (by simpa using this)]; rfl
 ·rw [if_neg e]
theorem Nr (tasks:List Ag) (j:Int) (t:Int) (D:List (Hd×Ag)) (B:Option Addr) (c m:Nat) (pre:List Ob) (R:List Ro) (w0 w:World) (M:List Nat) (hD:D.map Prod.snd=tasks) (hst:(⟨B,99,D.flatMap Av,m⟩:Ob)∈pre) (hS:ST w0 M w (pre++D.map gRw) R) {r_:List Ag} (hF:Fp tasks j t=some r_) :
  CV Tryz.prog 60 #[.slice B tasks.length c,vi j,vi t] w (fun v w'=>v=.tuple #[]∧∃ D':List (Hd×Ag),D'.map Prod.snd=r_∧D'.map Prod.fst=D.map Prod.fst∧D'.flatMap Av=D.flatMap Av∧ST w0 M w' (pre++D'.map gRw) R):=by
 have hlen:D.length=tasks.length:=by rw [← hD,List.length_map]
 unfold Fp at hF
 refine cv_of_cw 39 Tryz.func60 rfl Tryz.ntmps60 rfl ?_
 refine cq (cr ?_)
 refine sQ 10 (ym (.slice B tasks.length c))<|sQ 11 (Y_len (B:=B) (m:=tasks.length) (c:=c) K52 rfl rfl)<|sQ 12 (ym (vi 0)) (rn ?_)
 obtain ⟨hN,hF⟩:=chk_inv hF
 obtain ⟨z,hz,hF1⟩:=bI hF
 refine cw_block ?_
 refine cw_loop (fun k f w=>∃ (i:Nat) (D1:List (Hd×Ag)),FF f [(1,vi j),(2,vi t),(10,.slice B tasks.length c),(11,vi (tasks.length:Int)),(12,vi (i:Int))]∧D1.map Prod.fst=D.map Prod.fst∧D1.flatMap Av=D.flatMap Av∧D1.length=tasks.length∧ST w0 M w (pre++D1.map gRw) R∧i+k=tasks.length∧forN (Ez t j) k i (D1.map Prod.snd)=some z) tasks.length ⟨0,D,(fc rfl (fc rfl (fc rfl (fc rfl (fc rfl fn_))))),rfl,rfl,hlen,hS,Nat.zero_add _,by rw [hD]; exact hz⟩ ?_
 rintro k_ f w ⟨i,D1,hf,hfst,henc,hl1,hS1,hik,hL⟩
 refine cq (cr ?_)
 refine sQ 13 (yL (i:Int) (tasks.length:Int) rfl (hf.g 12 4) (hf.g 11 3)) (rn (cq ?_))
 refine cw_cond (b:=(decide ((i:Int)<(tasks.length:Int)))) rfl (fun hlt=>?_) (fun hlt=>?_)
 ·skip
  have hlt1:i<tasks.length:=by have h:=of_decide_eq_true hlt; omega
  obtain ⟨K5,rfl⟩:∃ k2,k_=k2+1:=⟨k_-1,by omega⟩
  obtain ⟨y,hb,hL1⟩:=forN_go hL
  unfold Ez at hb
  refine cw_skip (cq ?_)
  obtain ⟨x,hx,hb⟩:=bI hb
  obtain ⟨hxl,hb⟩:=chk_inv hb
  obtain ⟨vs,hvs,hb⟩:=bI hb
  obtain ⟨⟨Bp,cp⟩,hp⟩:=getI_snd (D:=D1) rfl hx
  have hpi:D1[i]?=some ((Bp,cp),x):=getI_some hp
  have hstk:(⟨B,99,D1.flatMap Av,m⟩:Ob)∈pre++D1.map gRw:=mAl _ (by rw [henc]; exact hst)
  refine cw_mid (fun f w=>∃ (D2:List (Hd×Ag)),FF f [(1,vi j),(2,vi t),(10,.slice B tasks.length c),(11,vi (tasks.length:Int)),(12,vi (i:Int))]∧D2.map Prod.snd=y∧D2.map Prod.fst=D.map Prod.fst∧D2.flatMap Av=D.flatMap Av∧D2.length=tasks.length∧ST w0 M w (pre++D2.map gRw) R) ?_ ?_
  ·skip
   refine cw_block (cq (cr ?_))
   refine sQ 14 (Y_index (B:=B) (m:=tasks.length) (c:=c) (k:=.i64) (i:=(i:Int)) K52 K47 rfl (hf.g 10 2) (hf.g 12 4) (gi_isSome CE rfl (hS1.mcf hstk) hp) (by omega) (by omega))<|sQ 15 (ya B ((i:Int).toNat*3) (D1.flatMap Av) [.slice Bp x.vectors.length cp,vi x.free,vi x.target] Gx K47 (hS1.mcf hstk) rfl rfl rfl (gi_seg CE hp)) ?_
   refine sS 7 (yN [.slice none 0 0,vi 0,vi 0] 3 hS1 K72) ?_
   rintro _ w_ ⟨b,rfl,hS2⟩
   have hS2:=hS2.front
   refine s0 (yT 0 3 (aD b) 99 (.agg #[.slice Bp x.vectors.length cp,vi x.free,vi x.target]) [.slice Bp x.vectors.length cp,vi x.free,vi x.target] 0 hS2 K47) ?_
   rintro _ w_1 ⟨rfl,hS3⟩
   let O0:Ob:=⟨aD b,99,[.slice Bp x.vectors.length cp,vi x.free,vi x.target],3⟩
   have hS3:ST w0 M _ ((O0::pre)++D1.map gRw) R:=hS3
   refine rn (cq (cr ?_))
   refine sQ 16 (yd (aD b) 0 0 K78 K8)<|sQ 17 (yl (aD b) 0 [.slice Bp x.vectors.length cp,vi x.free,vi x.target] (.slice Bp x.vectors.length cp) K9 (hS3.c 0))<|sQ 18 (Y_len (B:=Bp) (m:=x.vectors.length) (c:=cp) K2 rfl rfl)<|sQ 19 (ym (vi 0)) (rn (cw_block ?_))
   refine cw_loop (fun k f w=>∃ (q:Nat) (m1:List Int),FF f [(1,vi j),(2,vi t),(10,.slice B tasks.length c),(11,vi (tasks.length:Int)),(12,vi (i:Int)),(7,pt (aD b) 0),(17,.slice Bp x.vectors.length cp),(18,vi (x.vectors.length:Int)),(19,vi (q:Int))]∧m1.length=x.vectors.length∧ST w0 M w ((O0::pre)++(D1.set i ((Bp,cp),Ag.mk m1 x.free x.target)).map gRw) R∧q+k=x.vectors.length∧forN (D8 t j) k q m1=some vs) x.vectors.length ⟨0,x.vectors,(hf.a 1 0 (hf.a 2 1 (hf.a 10 2 (hf.a 11 3 (hf.a 12 4 (fc rfl (fc rfl (fc rfl (fc rfl fn_))))))))),rfl,by
    have e:D1.set i ((Bp,cp),Ag.mk x.vectors x.free x.target)=D1:=by
     obtain ⟨h1,h2⟩:=List.getElem?_eq_some_iff.1 hpi
     rw [show ((Bp,cp),Ag.mk x.vectors x.free x.target)=D1[i] from h2.symm]
     exact List.set_getElem_self h1
    rw [e]; exact hS3,Nat.zero_add _,hvs⟩ ?_
   rintro k2 f w ⟨q,m1,hf1,hm1,hS4,hqk,hL2⟩
   have hset:(D1.set i ((Bp,cp),Ag.mk m1 x.free x.target))[i]?=some ((Bp,cp),Ag.mk m1 x.free x.target):=by
    rw [List.getElem?_set_self (List.getElem?_eq_some_iff.1 hpi).1]
   refine cq (cr ?_)
   refine sQ 20 (yL (q:Int) (x.vectors.length:Int) rfl (hf1.g 19 8) (hf1.g 18 7)) (rn (cq ?_))
   refine cw_cond (b:=(decide ((q:Int)<(x.vectors.length:Int)))) rfl (fun hlt2=>?_) (fun hlt2=>?_)
   ·skip
    have hlt3:q<x.vectors.length:=by have h:=of_decide_eq_true hlt2; omega
    obtain ⟨k3,rfl⟩:∃ k2',k2=k2'+1:=⟨k2-1,by omega⟩
    obtain ⟨y2,hb2,hL3⟩:=forN_go hL2
    unfold D8 at hb2
    refine cw_skip (cq ?_)
    have hcf:=hS4.tcf hset
    refine cw_mid (fun f w=>∃ (m2:List Int),m2=y2∧FF f [(1,vi j),(2,vi t),(10,.slice B tasks.length c),(11,vi (tasks.length:Int)),(12,vi (i:Int)),(7,pt (aD b) 0),(17,.slice Bp x.vectors.length cp),(18,vi (x.vectors.length:Int)),(19,vi (q:Int))]∧m2.length=x.vectors.length∧ST w0 M w ((O0::pre)++(D1.set i ((Bp,cp),Ag.mk m2 x.free x.target)).map gRw) R) ?_ ?_
    ·skip
     refine cw_block (cq (cr ?_))
     refine sQ 21 (ym (vi (q:Int)) rfl (hf1.g 19 8)) ?_
     obtain ⟨v,hv,hb2⟩:=bI hb2
     have hBs:Bp.isSome=true:=gi_isSome encI_len rfl hcf hv
     refine sQ 22 (yI Bp (q:Int) K2 K0 hBs (getI_nn hv) (getI_ltI hv hm1) rfl (hf1.g 17 6) (hf1.g 19 8))<|sQ 23 (yl Bp ((q:Int).toNat*1) (m1.flatMap encI) (vi v) K1 hcf rfl rfl (gi_at0 encI_len hv rfl))<|sQ 8 (yg (vi (q:Int)))<|sQ 9 (yg (vi v)) (rn (cq (cr ?_)))
     refine sQ 24 (ym (vi v))<|sQ 25 (ym (vi t) rfl (hf1.g 2 1)) ?_
     obtain ⟨hsh,hb2⟩:=chk_inv hb2
     refine sQ 26 (Y_shr (k:=.i64) (a:=v) (k':=.i64) (b:=t) rfl rfl rfl hsh)<|sQ 27 (Y_band (k:=.i64) (a:=(shrK .i64 v t)) (b:=1) rfl rfl rfl)<|sQ 28 (yE (bits .and .i64 (shrK .i64 v t) 1) 1) (rn ?_)
     refine cw_cond (b:=((bits .and .i64 (shrK .i64 v t) 1)==1)) rfl (fun hb1=>?_) (fun hb1=>?_)
     ·skip
      have hF3:=ct hb2 hb1
      obtain ⟨hsh1,hF3⟩:=chk_inv hF3
      refine ra_start (hS4.sub (L':=[O0]) (List.Sublist.cons_cons _ (List.nil_sublist _))).fn (by kernel_rfl) ?_
      have hS5:=hS4.drew
      have hsf:∀ {w'} {X:List Ob},ST w0 M w' ((O0::pre)++X) R→ST w0 M w' [O0] R:=fun h=>h.sub (List.Sublist.cons_cons _ (List.nil_sublist _))
      refine rq 0 29 (v:=pt (aD b) 0) rfl (hsf hS5) (fun w' hw'=>(yd (aD b) 0 0 K78 K8 rfl (hf1.g 7 5)))<|rq 1 30 rfl (hsf hS5) (fun w' hw'=>(yl (aD b) 0 [.slice Bp x.vectors.length cp,vi x.free,vi x.target] (.slice Bp x.vectors.length cp) K9 (ST.cf hw' (i:=0) rfl)))<|rq 2 31 rfl (hsf hS5) (fun w' hw'=>(ym (vi (q:Int))))<|rq 3 32 rfl (hsf hS5) (fun w' hw'=>(ym (vi v)))<|rq 4 33 rfl (hsf hS5) (fun w' hw'=>(ym (vi j) rfl (hf1.g 1 0))) ?_
      refine rq 5 34 (v:=vi (shlK .i64 1 j)) rfl (hsf hS5) (fun w' hw'=>(Y_shl (k:=.i64) (a:=1) (k':=.i64) (b:=j) rfl rfl rfl hsh1))<|rq 6 35 (v:=vi (bits .xor .i64 v (shlK .i64 1 j))) rfl (hsf hS5) (fun w' hw'=>(Y_bxor (k:=.i64) (a:=v) (b:=(shlK .i64 1 j)) rfl rfl rfl))<|rq 7 36 (v:=pt Bp ((q:Int).toNat*1)) rfl (hsf hS5) (fun w' hw'=>(yI Bp (q:Int) K2 K0 hBs (getI_nn hv) (getI_ltI hv hm1))) ?_
      refine rA [8] ?_
      refine rZ 8 rfl (Ys_store (i:=(O0::pre:List Ob).length+i) (s:=1) (B:=Bp) (T':=3) (v:=vi (bits .xor .i64 v (shlK .i64 1 j))) (vs:=[vi (bits .xor .i64 v (shlK .i64 1 j))]) (k:=(q:Int).toNat*1) (cs:=m1.flatMap encI) (m:=cp*1) (cs':=((m1.set (q:Int).toNat (bits .xor .i64 v (shlK .i64 1 j))).flatMap encI)) hS5 K0 rfl rfl rfl rfl rfl rfl (trow_at hset) (gi_fit0 encI_len hv) (gi_set encI_len hv (bits .xor .i64 v (shlK .i64 1 j)) rfl) (trow_set (T:=3) (hd:=fun h=>h) (rv:=Ag.vectors) (p:=((Bp,cp),Ag.mk (m1.set (q:Int).toNat (bits .xor .i64 v (shlK .i64 1 j))) x.free x.target)))) ?_ aN
      rintro _ w_2 ⟨rfl,hS6⟩
      rw [List.set_set] at hS6
      refine ⟨hsf hS6,?_⟩
      refine ra_done (by kernel_rfl) ?_
      exact ⟨_,(sI hF3),(hf1.a 1 0 (hf1.a 2 1 (hf1.a 10 2 (hf1.a 11 3 (hf1.a 12 4 (hf1.a 7 5 (hf1.a 17 6 (hf1.a 18 7 (hf1.a 19 8 fn_))))))))),(set_len _ _ _ hm1),hS6⟩
     ·skip
      have hF4:=cf' hb2 hb1
      refine cw_skip ?_
      exact ⟨m1,(sI hF4),(hf1.a 1 0 (hf1.a 2 1 (hf1.a 10 2 (hf1.a 11 3 (hf1.a 12 4 (hf1.a 7 5 (hf1.a 17 6 (hf1.a 18 7 (hf1.a 19 8 fn_))))))))),hm1,hS4⟩
    rintro f w ⟨m2,rfl,hf2,hm2,hS7⟩
    refine cr ?_
    refine sQ 37 (yP (q:Int) 1 rfl (hf2.g 19 8))<|sQ 19 (ym (vi (i64.wrap ((q:Int)+1)))) (rn ?_)
    exact ⟨k3,Nat.lt_succ_self _,q+1,m2,(hf2.a 1 0 (hf2.a 2 1 (hf2.a 10 2 (hf2.a 11 3 (hf2.a 12 4 (hf2.a 7 5 (hf2.a 17 6 (hf2.a 18 7 (fc (congrArg (Value.int .i64) (wr_succ hlt3 hxl)) fn_))))))))),hm2,hS7,(by omega),hL3⟩
   ·skip
    obtain rfl:k2=0:=by have h:=of_decide_eq_false hlt2; omega
    refine cw_exit rfl ?_
    obtain rfl:=sI hL2
    refine ⟨D1.set i ((Bp,cp),Ag.mk m1 x.free x.target),(hf1.a 1 0 (hf1.a 2 1 (hf1.a 10 2 (hf1.a 11 3 (hf1.a 12 4 fn_))))),?_,?_,?_,by rw [List.length_set]; exact hl1,hS4.tail⟩
    ·rw [List.map_set]; exact sI hb
    ·rw [Md hpi]; exact hfst
    ·rw [MA (y:=Ag.mk m1 x.free x.target) hpi hm1 rfl rfl]; exact henc
  rintro f w ⟨D2,hf3,hsnd,hfst2,henc2,hl2,hS8⟩
  refine cr ?_
  refine sQ 38 (yP (i:Int) 1 rfl (hf3.g 12 4))<|sQ 12 (ym (vi (i64.wrap ((i:Int)+1)))) (rn ?_)
  exact ⟨K5,Nat.lt_succ_self _,i+1,D2,(hf3.a 1 0 (hf3.a 2 1 (hf3.a 10 2 (hf3.a 11 3 (fc (congrArg (Value.int .i64) (wr_succ hlt1 hN)) fn_))))),hfst2,henc2,hl2,hS8,(by omega),by rw [hsnd]; exact hL1⟩
 ·skip
  obtain rfl:k_=0:=by have h:=of_decide_eq_false hlt; omega
  refine cw_exit rfl ?_
  have e1:=sI hL
  have e2:=sI hF1
  exact ret0 Tryz.results60 ⟨rfl,D1,by rw [e1]; exact e2,hfst,henc,hS1⟩
abbrev gO (B:Option Addr) (c:Nat) (out:List Aa):Ob:=⟨B,59,out.flatMap eN0,c*3⟩
abbrev gK (B:Option Addr) (c:Nat) (D:List (Hd×Ag)):Ob:=⟨B,99,D.flatMap Av,c*3⟩
abbrev gT (b:Nat) (B:Option Addr) (m c:Nat) (fr tg:Int):Ob:=⟨aD b,99,[.slice B m c,vi fr,vi tg],3⟩
theorem gAt {D D1:List (Hd×Ag)} {i:Int} {h:Hd} {x x1:Ag} (hf:D1.map Prod.fst=D.map Prod.fst) (hp:getI D i=some (h,x)) (hx:getI (D1.map Prod.snd) i=some x1):getI D1 i=some (h,x1):=by
 obtain ⟨h1,h2⟩:=getI_snd (D:=D1) rfl hx
 have e1:=congrArg (fun l=>l[i.toNat]?) hf
 simp only [List.getElem?_map] at e1
 rw [getI_some h2,getI_some hp] at e1
 have e1:h1=h:=by simpa using e1
 rw [← e1]; exact h2
theorem ST.growIn {w0 w:World} {M:List Nat} {pre:List Ob} {R:List Ro} {D:List (Hd×Ag)} {i:Int} {B:Option Addr} {c:Nat} {x:Ag} (hS:ST w0 M w (pre++D.map gRw) R) (hp:getI D i=some ((B,c),x)):ST w [] w [] [⟨B,x.vectors.flatMap encI⟩] :=
 ST.enter (Ms:=[]) hS (List.nil_sublist _) (fun r hr=>by
  rw [List.mem_singleton] at hr; subst hr
  exact .inr ⟨gRw ((B,c),x),mAr _ (List.mem_map_of_mem (List.mem_of_getElem? (getI_some hp))),rfl,fun _ h=>by cases h⟩)
theorem MV (n:Int) (masks:List Int) (B:Option Addr) (c n1:Nat) (w0:World) (hn:masks.length=n1) (hS:ST w0 [] w0 [] [⟨B,(masks.flatMap encI)⟩]) {r_:List Aa} (hF:CC n masks=some r_) :
  CV Tryz.prog 18 #[vi n,.slice B n1 c] w0 (fun v w'=>∃ (B1:Option Addr) (c1:Nat),v=.slice B1 r_.length c1∧ST w0 [] w' [⟨B1,59,(r_.flatMap eN0),c1*3⟩] []):=by
 subst hn
 unfold CC at hF
 refine cv_of_cw 109 Tryz.func18 rfl Tryz.ntmps18 rfl ?_
 refine cq (cr ?_)
 refine sQ 4 (yg (.slice none 0 0)) (rn ?_)
 obtain ⟨r_1,hc,hF⟩:=bI hF
 obtain ⟨hn0,hF⟩:=chk_inv hF
 obtain ⟨z,hz,hF⟩:=bI hF
 refine cq ?_
 let R0:Ro:=⟨B,(masks.flatMap encI)⟩
 refine cw_mid (fun f w=>∃ (Bo:Option Addr) (co:Nat) (Bs:Option Addr) (cs:Nat) (D:List (Hd×Ag)),FF f [(0,vi n),(5,.slice Bo 0 co),(6,.slice Bs 1 cs)]∧D.map Prod.snd=[Ag.mk r_1 (i64.wrap ((shlK .i64 1 n)-1)) (-1)]∧ST w0 [] w ([gO Bo co [],gK Bs cs D]++D.map gRw) [R0]) ?_ ?_
 ·skip
  refine ra_start hS.fn (by kernel_rfl) ?_
  have hS1:=hS.drew
  refine rq 1 16 rfl hS1 (fun w' hw'=>(ym (.slice B masks.length c)))<|rq 3 18 rfl hS1 (fun w' hw'=>(ym (vi n)))<|rq 4 19 (v:=vi (shlK .i64 1 n)) rfl hS1 (fun w' hw'=>(Y_shl (k:=.i64) (a:=1) (k':=.i64) (b:=n) rfl rfl rfl hn0))<|rq 5 20 rfl hS1 (fun w' hw'=>(yM (shlK .i64 1 n) 1)) ?_
  refine rA [0,2] ?_
  refine rS 15 0 rfl (Ys_bslice0 (s:=3) (e:=59) hS1 K4 K3 rfl) ?_ ?_
  ·rintro _ w_ ⟨b,rfl,hS2⟩
   refine ⟨hS2.sel [] rfl rfl,?_⟩
   refine rA [2] ?_
   refine rC 17 2 rfl (yC [.slice B masks.length c] K82 (F6 masks B c masks.length _ rfl (hS2.inn0 [(true,0)] rfl) hc)) ?_ aN
   rintro _ w_1 ⟨B1,c1,rfl,hd⟩
   have hS3:=hS2.out0 hd
   have hS3:ST w0 [] _ [gO (aD b) 0 [],⟨B1,3,r_1.flatMap encI,c1*1⟩] [R0]:=hS3
   refine ⟨hS3.sel [] rfl rfl,?_⟩
   refine rq 6 21 (v:=.agg #[.slice B1 r_1.length c1,vi (i64.wrap ((shlK .i64 1 n)-1)),vi (-1)]) rfl (hS3.sel [] rfl rfl) (fun w' hw'=>(Y_buildS (zs:=[.slice none 0 0,vi 0,vi 0]) (vs:=[(0,.slice B1 r_1.length c1),(1,vi (i64.wrap ((shlK .i64 1 n)-1))),(2,vi (-1))]) (cs:=[.slice B1 r_1.length c1,vi (i64.wrap ((shlK .i64 1 n)-1)),vi (-1)]) K84 K72 rfl (mpc rfl (mpc rfl (mpc rfl mpn))) rfl))<|rq 8 5 rfl (hS3.sel [] rfl rfl) (fun w' hw'=>(yg (.slice (aD b) 0 0))) ?_
   refine rA [7] ?_
   refine rS 22 7 rfl (Ys_bslice (s:=3) (len:=1) (vs:=[(0,.agg #[.slice B1 r_1.length c1,vi (i64.wrap ((shlK .i64 1 n)-1)),vi (-1)])]) (cs:=[.slice B1 r_1.length c1,vi (i64.wrap ((shlK .i64 1 n)-1)),vi (-1)]) (zs:=[.slice none 0 0,vi 0,vi 0]) (m:=3) hS3 K52 K47 K83 rfl (mpc rfl mpn) rfl rfl rfl (by kernel_rfl) (by kernel_rfl) rfl) ?_ aN
   rintro _ w_2 ⟨b2,rfl,hS4⟩
   refine ⟨hS4.sel [] rfl rfl,?_⟩
   refine rq 9 6 rfl (hS4.sel [] rfl rfl) (fun w' hw'=>(yg (.slice (aD b2) 1 1))) ?_
   refine ra_done (by kernel_rfl) ?_
   exact ⟨aD b,0,aD b2,1,[((B1,c1),Ag.mk r_1 (i64.wrap ((shlK .i64 1 n)-1)) (-1))],(fc rfl (fc rfl (fc rfl fn_))),rfl,hS4.sel [0,2,1] rfl rfl⟩
  refine rC 17 2 rfl (yC [.slice B masks.length c] K82 (F6 masks B c masks.length _ rfl (hS1.inn0 [(true,0)] rfl) hc)) ?_ aN
  rintro _ w_1 ⟨B1,c1,rfl,hd⟩
  have hS3:=hS1.out0 hd
  have hS3:ST w0 [] _ [⟨B1,3,r_1.flatMap encI,c1*1⟩] [R0]:=hS3
  refine ⟨hS3.sel [] rfl rfl,?_⟩
  refine rq 6 21 (v:=.agg #[.slice B1 r_1.length c1,vi (i64.wrap ((shlK .i64 1 n)-1)),vi (-1)]) rfl (hS3.sel [] rfl rfl) (fun w' hw'=>(Y_buildS (zs:=[.slice none 0 0,vi 0,vi 0]) (vs:=[(0,.slice B1 r_1.length c1),(1,vi (i64.wrap ((shlK .i64 1 n)-1))),(2,vi (-1))]) (cs:=[.slice B1 r_1.length c1,vi (i64.wrap ((shlK .i64 1 n)-1)),vi (-1)]) K84 K72 rfl (mpc rfl (mpc rfl (mpc rfl mpn))) rfl)) ?_
  refine rA [0,7] ?_
  refine rS 15 0 rfl (Ys_bslice0 (s:=3) (e:=59) hS3 K4 K3 rfl) ?_ ?_
  ·rintro _ w_2 ⟨b,rfl,hS4⟩
   refine ⟨hS4.sel [] rfl rfl,?_⟩
   refine rq 8 5 rfl (hS4.sel [] rfl rfl) (fun w' hw'=>(yg (.slice (aD b) 0 0))) ?_
   refine rA [7] ?_
   refine rS 22 7 rfl (Ys_bslice (s:=3) (len:=1) (vs:=[(0,.agg #[.slice B1 r_1.length c1,vi (i64.wrap ((shlK .i64 1 n)-1)),vi (-1)])]) (cs:=[.slice B1 r_1.length c1,vi (i64.wrap ((shlK .i64 1 n)-1)),vi (-1)]) (zs:=[.slice none 0 0,vi 0,vi 0]) (m:=3) hS4 K52 K47 K83 rfl (mpc rfl mpn) rfl rfl rfl (by kernel_rfl) (by kernel_rfl) rfl) ?_ aN
   rintro _ w_3 ⟨b2,rfl,hS5⟩
   refine ⟨hS5.sel [] rfl rfl,?_⟩
   refine rq 9 6 rfl (hS5.sel [] rfl rfl) (fun w' hw'=>(yg (.slice (aD b2) 1 1))) ?_
   refine ra_done (by kernel_rfl) ?_
   exact ⟨aD b,0,aD b2,1,[((B1,c1),Ag.mk r_1 (i64.wrap ((shlK .i64 1 n)-1)) (-1))],(fc rfl (fc rfl (fc rfl fn_))),rfl,hS5.sel [1,2,0] rfl rfl⟩
  refine rS 22 7 rfl (Ys_bslice (s:=3) (len:=1) (vs:=[(0,.agg #[.slice B1 r_1.length c1,vi (i64.wrap ((shlK .i64 1 n)-1)),vi (-1)])]) (cs:=[.slice B1 r_1.length c1,vi (i64.wrap ((shlK .i64 1 n)-1)),vi (-1)]) (zs:=[.slice none 0 0,vi 0,vi 0]) (m:=3) hS3 K52 K47 K83 rfl (mpc rfl mpn) rfl rfl rfl (by kernel_rfl) (by kernel_rfl) rfl) ?_ aN
  rintro _ w_2 ⟨b2,rfl,hS4⟩
  refine ⟨hS4.sel [] rfl rfl,?_⟩
  refine rA [0] ?_
  refine rS 15 0 rfl (Ys_bslice0 (s:=3) (e:=59) hS4 K4 K3 rfl) ?_ aN
  rintro _ w_3 ⟨b,rfl,hS5⟩
  refine ⟨hS5.sel [] rfl rfl,?_⟩
  refine rq 8 5 rfl (hS5.sel [] rfl rfl) (fun w' hw'=>(yg (.slice (aD b) 0 0)))<|rq 9 6 rfl (hS5.sel [] rfl rfl) (fun w' hw'=>(yg (.slice (aD b2) 1 1))) ?_
  refine ra_done (by kernel_rfl) ?_
  exact ⟨aD b,0,aD b2,1,[((B1,c1),Ag.mk r_1 (i64.wrap ((shlK .i64 1 n)-1)) (-1))],(fc rfl (fc rfl (fc rfl fn_))),rfl,hS5.sel [2,1,0] rfl rfl⟩
 rintro f w ⟨Bo,co,Bs,cs,D,hf,hD,hS6⟩
 refine cq (cw_block ?_)
 refine cw_loop (fun k f w=>∃ (out:List Aa) (ts:List Ag) (D:List (Hd×Ag)) (Bo:Option Addr) (co:Nat) (Bs:Option Addr) (cs:Nat),FF f [(0,vi n),(5,.slice Bo out.length co),(6,.slice Bs ts.length cs)]∧D.map Prod.snd=ts∧ST w0 [] w ([gO Bo co out,gK Bs cs D]++D.map gRw) [R0]∧whX (CQ n) k (out,ts)=some z) fuel ⟨[],_,D,Bo,co,Bs,cs,(hf.a 0 0 (hf.a 5 1 (hf.a 6 2 fn_))),hD,hS6,hz⟩ ?_
 rintro k_ f w ⟨out,ts,D,Bo,co,Bs,cs,hf,hD,hS7,hL⟩
 obtain ⟨K5,y,rfl,hb,hL1⟩:=whX_go hL
 unfold CQ at hb
 have hlD:D.length=ts.length:=by rw [← hD,List.length_map]
 refine cq (cq (cr ?_))
 refine sQ 23 (ym (.slice Bs ts.length cs) rfl (hf.g 6 2))<|sQ 24 (Y_len (B:=Bs) (m:=ts.length) (c:=cs) K52 rfl rfl)<|sQ 25 (Y_gt (k:=.i64) (a:=(ts.length:Int)) (b:=0) rfl rfl rfl) (rn ?_)
 refine cw_cond (b:=(decide (0<(ts.length:Int)))) rfl (fun hlt=>?_) (fun hlt=>?_)
 ·skip
  have hb:=ct hb hlt
  obtain ⟨x,hx,hb⟩:=bI hb
  obtain ⟨hlast,hb⟩:=chk_inv hb
  generalize hlasteq:i64.wrap ((ts.length:Int)-1)=last at *
  obtain ⟨⟨Bp,cp⟩,hp⟩:=getI_snd (D:=D) hD hx
  have hstk:gK Bs cs D∈([gO Bo co out,gK Bs cs D]++D.map gRw:List Ob):=.tail _ (.head _)
  refine cw_skip (cw_block (cq (cr ?_)))
  refine sQ 26 (ym (.slice Bs ts.length cs) rfl (hf.g 6 2))<|sQ 27 (Y_len (B:=Bs) (m:=ts.length) (c:=cs) K52 rfl rfl)<|sQ 28 (show Y _ _ _ _ _ (vi last) from by rw [← hlasteq]; exact Y_sub (k:=.i64) (a:=(ts.length:Int)) (b:=1) rfl rfl rfl)<|sQ 7 (yg (vi last)) (rn (cq (cr ?_)))
  refine sQ 29 (ym (.slice Bs ts.length cs) rfl (hf.g 6 2))<|sQ 30 (ym (vi last))<|sQ 31 (yI Bs last K52 K47 (gi_isSome CE rfl (hS7.mcf hstk) hp) (getI_nn hp) (getI_ltI hp hlD))<|sQ 32 (ya Bs (last.toNat*3) (D.flatMap Av) [.slice Bp x.vectors.length cp,vi x.free,vi x.target] Gx K47 (hS7.mcf hstk) rfl rfl rfl (gi_seg CE hp)) ?_
  refine sS 8 (yN [.slice none 0 0,vi 0,vi 0] 3 hS7 K72) ?_
  rintro _ w_ ⟨b,rfl,hS8⟩
  have hS8:=hS8.front
  refine s0 (yT 0 3 (aD b) 99 (.agg #[.slice Bp x.vectors.length cp,vi x.free,vi x.target]) [.slice Bp x.vectors.length cp,vi x.free,vi x.target] 0 hS8 K47) ?_
  rintro _ w_1 ⟨rfl,hS9⟩
  have hS9:ST w0 [] _ ([gT b Bp x.vectors.length cp x.free x.target,gO Bo co out,gK Bs cs D]++D.map gRw) [R0]:=hS9
  refine rn (cq (cq (cr ?_)))
  refine sQ 33 (yd (aD b) 0 0 K78 K8)<|sQ 34 (yl (aD b) 0 [.slice Bp x.vectors.length cp,vi x.free,vi x.target] (.slice Bp x.vectors.length cp) K9 (hS9.c 0))<|sQ 35 (Y_len (B:=Bp) (m:=x.vectors.length) (c:=cp) K2 rfl rfl)<|sQ 36 (yE (x.vectors.length:Int) 0) (rn ?_)
  have hcut:∀ {w:World} {pre:List Ob} {R:List Ro} {D1:List (Hd×Ag)} {i:Nat},ST w0 [] w (pre++D1.map gRw) R→pre[i]?=some (gK Bs cs D1)→ST w0 [] w (pre.set i (gK Bs cs (D1.take last.toNat))++(D1.take last.toNat).map gRw) R:=fun {w pre R D1 i} h hi=>by
   have hk:i<pre.length:=(List.getElem?_eq_some_iff.1 hi).1
   have h1:=h.cut (T:=99) (i:=i) (cs':=(D1.take last.toNat).flatMap Av) (by rw [List.getElem?_append_left hk]; exact hi) (by
    have:D1.take last.toNat++D1.drop last.toNat=D1:=List.take_append_drop _ _
    exact ⟨(D1.drop last.toNat).flatMap Av,by rw [← List.flatMap_append,this]⟩)
   rw [List.set_append_left _ _ hk] at h1
   refine h1.sub (List.Sublist.append (List.Sublist.refl _) ?_)
   rw [List.map_take]
   exact List.take_sublist _ _
  refine cw_cond (b:=((x.vectors.length:Int)==0)) rfl (fun hz0=>?_) (fun hz0=>?_)
  ·skip
   have hb:=ct hb hz0
   refine cq (cr ?_)
   refine sQ 37 (ym (.slice Bs ts.length cs) rfl (hf.g 6 2))<|sQ 38 (ym (vi last)) ?_
   have hcap:D.length≤cs:=hS9.lencap (i:=2) rfl (fm_lenn (l:=D) CE rfl) rfl rfl
   refine sQ 39 (Y_slice0 (B:=Bs) (m:=ts.length) (c:=cs) (h:=last.toNat) (s:=3) K52 K47 rfl rfl (bnd_some rfl (nn_toNat hlast.1)) (by omega))<|sQ 6 (yg (.slice Bs last.toNat cs)) (rn ?_)
   refine cw_exit rfl ?_
   obtain rfl:=sI hb
   have hS10:=hcut (i:=2) hS9 rfl
   refine ⟨K5,Nat.lt_succ_self _,out,ts.take last.toNat,D.take last.toNat,Bo,co,Bs,cs,(hf.a 0 0 (hf.a 5 1 (fc ?_ fn_))),by rw [← hD,List.map_take],hS10.tail,hL1⟩
   show Value.slice Bs last.toNat cs=Value.slice Bs (ts.take last.toNat).length cs
   rw [List.length_take,Nat.min_eq_left (by omega)]
  ·skip
   have hb:=cf' hb hz0
   refine cw_skip ?_
   obtain ⟨z1,hz1,hb⟩:=bI hb
   refine cq (cq (cr ?_))
   refine sQ 9 (yg (vi 0)) (rn (cw_block ?_))
   refine cw_loop (fun k f w=>∃ (out1:List Aa) (ts1:List Ag) (D1:List (Hd×Ag)) (Bo1:Option Addr) (co1:Nat) (j:Int),FF f [(0,vi n),(5,.slice Bo1 out1.length co1),(6,.slice Bs ts.length cs),(7,vi last),(8,pt (aD b) 0),(9,vi j)]∧D1.map Prod.snd=ts1∧D1.map Prod.fst=D.map Prod.fst∧ST w0 [] w ([gT b Bp x.vectors.length cp x.free x.target,gO Bo1 co1 out1,gK Bs cs D1]++D1.map gRw) [R0]∧whX (Bt n x.target last x.vectors.length) k (out1,ts1,j)=some z1) fuel ⟨out,ts,D,Bo,co,0,(hf.a 0 0 (hf.a 5 1 (hf.a 6 2 (fc rfl (fc rfl (fc rfl fn_)))))),hD,rfl,hS9,hz1⟩ ?_
   rintro k2 f w ⟨out1,ts1,D1,Bo1,co1,j,hf1,hD1,hfst,hS11,hL2⟩
   obtain ⟨k3,y2,rfl,hb2,hL3⟩:=whX_go hL2
   unfold Bt at hb2
   refine cq (cq (cr ?_))
   refine sQ 40 (ym (vi j) rfl (hf1.g 9 5))<|sQ 41 (ym (vi n) rfl (hf1.g 0 0))<|sQ 42 (yL j n)<|sQ 43 (ym (.bool (decide (j<n)))) ?_
   refine sgq 44 (B:=(decide (j<n))) (v:=pt (aD b) 2) rfl rfl (uT_ 43) (fun hg=>(yd (aD b) 0 0 K71 K0 rfl (hf1.g 8 4))) ?_
   refine sgq 45 (B:=(decide (j<n))) rfl rfl (uT_ 43) (fun hg=>(yl (aD b) 2 [.slice Bp x.vectors.length cp,vi x.free,vi x.target] (vi x.target) K1 (hS11.c 0) rfl (gv_of (v:=pt (aD b) 2) hg))) ?_
   refine sgq 46 (B:=(decide (j<n))) rfl rfl (uT_ 43) (fun hg=>(Y_ge (k:=.i64) (a:=x.target) (b:=0) rfl (gv_of (v:=vi x.target) hg) rfl)) ?_
   refine sQ 47 (Y_and (b:=(decide (j<n))) (z:=(decide (0≤x.target))) rfl rfl rfl rfl) (rn ?_)
   refine cw_cond (b:=((decide (j<n))&&(decide (0≤x.target)))) rfl (fun hc2=>?_) (fun hc2=>?_)
   ·skip
    have hb2:=ct hb2 hc2
    obtain ⟨r,hr,hb2⟩:=bI hb2
    obtain ⟨⟨out2,ts2⟩,hz2,hb2⟩:=bI hb2
    refine cw_skip (cq ?_)
    refine cw_mid (fun f w=>∃ (D2:List (Hd×Ag)) (Bo2:Option Addr) (co2:Nat),FF f [(0,vi n),(5,.slice Bo2 out2.length co2),(6,.slice Bs ts.length cs),(7,vi last),(8,pt (aD b) 0),(9,vi j)]∧D2.map Prod.snd=ts2∧D2.map Prod.fst=D.map Prod.fst∧ST w0 [] w ([gT b Bp x.vectors.length cp x.free x.target,gO Bo2 co2 out2,gK Bs cs D2]++D2.map gRw) [R0]) ?_ ?_
    ·skip
     refine cw_block (cq (cr ?_))
     refine sQ 50 (ym (vi j) rfl (hf1.g 9 5))<|sQ 51 (yd (aD b) 0 0 K71 K0 rfl (hf1.g 8 4))<|sQ 52 (yl (aD b) 2 [.slice Bp x.vectors.length cp,vi x.free,vi x.target] (vi x.target) K1 (hS11.c 0))<|sQ 53 (Y_ne (k:=.i64) (a:=j) (b:=x.target) rfl rfl rfl)<|sQ 54 (ym (.bool (j != x.target))) ?_
     refine sgq 55 (B:=(j != x.target)) (v:=pt (aD b) 0) rfl rfl (uT_ 54) (fun hg=>(yd (aD b) 0 0 K78 K8 rfl (hf1.g 8 4))) ?_
     refine sgq 56 (B:=(j != x.target)) rfl rfl (uT_ 54) (fun hg=>(yl (aD b) 0 [.slice Bp x.vectors.length cp,vi x.free,vi x.target] (.slice Bp x.vectors.length cp) K9 (hS11.c 0) rfl (gv_of (v:=pt (aD b) 0) hg))) ?_
     refine sgq 57 (B:=(j != x.target)) rfl rfl (uT_ 54) (fun hg=>(ym (vi j) rfl (hf1.g 9 5))) ?_
     refine sgc 58 (B:=(j != x.target)) (v:=.bool r) (F:=hS11.fn) rfl rfl (uT_ 54) hS11 (fun hg=>by
      obtain ⟨x1,hx1,h2⟩:=bI (gb_inv hr hg)
      obtain ⟨hl1,h3⟩:=chk_inv h2
      have hp1:=gAt hfst hp (by rw [hD1]; exact hx1)
      exact Yc_func (g:=59) (vs:=[.slice Bp x.vectors.length cp,vi j]) Le rfl (mc (gv_of (v:=.slice Bp x.vectors.length cp) hg) (mc (gv_of (v:=vi j) hg) mn)) (CV.mono (Of x1.vectors j Bp cp x.vectors.length _ hl1 (hS11.growIn hp1) h3) (by rintro _ _ ⟨rfl,h⟩; exact ⟨rfl,hS11.out00 h⟩))) ?_
     rintro w_2 hS12
     have hS12:ST w0 [] w_2 ([gT b Bp x.vectors.length cp x.free x.target,gO Bo1 co1 out1,gK Bs cs D1]++D1.map gRw) [R0]:=hS12
     refine sQ 59 (Y_and (b:=(j != x.target)) (z:=r) rfl rfl rfl rfl) (rn ?_)
     refine cw_cond (b:=((j != x.target)&&r)) rfl (fun hc3=>?_) (fun hc3=>?_)
     ·skip
      have hz2:=ct hz2 hc3
      obtain ⟨hap,hz2⟩:=chk_inv hz2
      obtain ⟨ts3,hts3,hz2⟩:=bI hz2
      obtain ⟨rfl,rfl⟩:out1++[Aa.mk 9 j x.target]=out2∧ts3=ts2:=by
       have:=sI hz2
       simpa using this
      refine cq (cr ?_)
      refine sQ 60 (ym (.slice Bo1 out1.length co1) rfl (hf1.g 5 1))<|sQ 61 (ym (vi j) rfl (hf1.g 9 5))<|sQ 62 (yd (aD b) 0 0 K71 K0 rfl (hf1.g 8 4))<|sQ 63 (yl (aD b) 2 [.slice Bp x.vectors.length cp,vi x.free,vi x.target] (vi x.target) K1 (hS12.c 0))<|sQ 64 (Y_buildS (zs:=[vi 0,vi 0,vi 0]) (vs:=[(0,vi 9),(1,vi j),(2,vi x.target)]) (cs:=[vi 9,vi j,vi x.target]) K33 K10 rfl (mpc rfl (mpc rfl (mpc rfl mpn))) rfl) ?_
      refine sS 65 (Ys_bslice (s:=3) (len:=1) (vs:=[(0,.agg #[vi 9,vi j,vi x.target])]) (cs:=[vi 9,vi j,vi x.target]) (zs:=[vi 0,vi 0,vi 0]) (m:=3) hS12 K4 K3 K26 rfl (mpc rfl mpn) rfl rfl rfl (by kernel_rfl) (by kernel_rfl) rfl) ?_
      rintro _ w_3 ⟨b2,rfl,hS13⟩
      refine sS 66 (Ys_append (s:=3) (by':=24) (i:=1) (nn:=out1.length) (c:=co1) (k:=1) (len:=(out1++[Aa.mk 9 j x.target]).length) (B:=Bo1) (X:=aD b2) (c2:=1) (cs:=out1.flatMap eN0) (xs:=([Aa.mk 9 j x.target].flatMap eN0)) (cs':=((out1++[Aa.mk 9 j x.target]).flatMap eN0)) (m:=co1*3) hS13 K4 K3 K23 K10 rfl (by decide) rfl rfl rfl rfl (fm_lenn (l:=out1) eN2 rfl) rfl (hS13.mcf (mAr _ (.head _))) (fm_lenn (l:=[Aa.mk 9 j x.target]) eN2 rfl) (fm_one' (enc:=eN0) Al [Aa.mk 9 j x.target]) (by have:=hap; omega) (by have:=hap; simp only [maxLen]; omega) (fm_app _ _) (app_len (l:=out1) (l':=[Aa.mk 9 j x.target]) rfl rfl)) ?_
      rintro _ w_4 ⟨Bo2,co2,rfl,hS14⟩
      have hS14:ST w0 [] w_4 ([gT b Bp x.vectors.length cp x.free x.target,gO Bo2 co2 (out1++[Aa.mk 9 j x.target]),gK Bs cs D1]++D1.map gRw) [R0]:=hS14.sub (List.sublist_append_left _ _)
      refine sQ 5 (yg (.slice Bo2 (out1++[Aa.mk 9 j x.target]).length co2)) (rn (cr ?_))
      refine sQ 67 (ym (.slice Bs ts1.length cs) rfl (by
       have e0:D1.length=D.length:=by
        have:=congrArg List.length hfst
        simpa using this
       have e:ts1.length=ts.length:=by rw [← hD1,← hD,List.length_map,List.length_map,e0]
       rw [e]; exact hf1.g 6 2)) ?_
      refine sQ 68 (ym (vi j) rfl (hf1.g 9 5))<|sQ 69 (yd (aD b) 0 0 K71 K0 rfl (hf1.g 8 4))<|sQ 70 (yl (aD b) 2 [.slice Bp x.vectors.length cp,vi x.free,vi x.target] (vi x.target) K1 (hS14.c 0)) ?_
      refine sc 71 rfl rfl (yC [.slice Bs ts1.length cs,vi j,vi x.target] N9 (Nr ts1 j x.target D1 Bs cs (cs*3) [gT b Bp x.vectors.length cp x.free x.target,gO Bo2 co2 (out1++[Aa.mk 9 j x.target]),gK Bs cs D1] _ w0 _ [] hD1 (.tail _ (.tail _ (.head _))) hS14 hts3)) ?_
      rintro _ w_5 ⟨rfl,D2,e1,e2,e3,hS15⟩
      refine rn ?_
      have hS15:ST w0 [] w_5 ([gT b Bp x.vectors.length cp x.free x.target,gO Bo2 co2 (out1++[Aa.mk 9 j x.target]),gK Bs cs D2]++D2.map gRw) [R0]:=by
       unfold gK; rw [e3]; exact hS15
      exact ⟨D2,Bo2,co2,(hf1.a 0 0 (fc rfl (hf1.a 6 2 (hf1.a 7 3 (hf1.a 8 4 (hf1.a 9 5 fn_)))))),e1,e2.trans hfst,hS15⟩
     ·skip
      have hz2:=cf' hz2 hc3
      obtain ⟨rfl,rfl⟩:out1=out2∧ts1=ts2:=by
       have:=sI hz2
       simpa using this
      refine cw_skip ?_
      exact ⟨D1,Bo1,co1,(hf1.a 0 0 (hf1.a 5 1 (hf1.a 6 2 (hf1.a 7 3 (hf1.a 8 4 (hf1.a 9 5 fn_)))))),hD1,hfst,hS12⟩
    rintro f w ⟨D2,Bo2,co2,hf2,hD2,hfst2,hS16⟩
    refine cr ?_
    refine sQ 48 (ym (vi j) rfl (hf2.g 9 5))<|sQ 49 (yP j 1)<|sQ 9 (yg (vi (i64.wrap (j+1)))) (rn ?_)
    obtain rfl:=sI hb2
    exact ⟨k3,Nat.lt_succ_self _,out2,ts2,D2,Bo2,co2,_,(hf2.a 0 0 (hf2.a 5 1 (hf2.a 6 2 (hf2.a 7 3 (hf2.a 8 4 (fc rfl fn_)))))),hD2,hfst2,hS16,hL3⟩
   ·skip
    have hb2:=cf' hb2 hc2
    obtain rfl:=sI hb2
    obtain rfl:=sI hL3
    refine cw_exit rfl ?_
    have e0:D1.length=D.length:=by
     have:=congrArg List.length hfst
     simpa using this
    have hb:(chk (ts1.length=ts.length)<|(getI ts1 last).bind fun x1=>chk (x1.vectors.length=x.vectors.length)<|(CY (Ag.mk x1.vectors x.free x.target)).bind fun b=>bif decide (b<0) then (some (.nx (out1,ts1.take last.toNat))) else ((Ck x1.vectors b).bind fun (s1,s2)=>chk ((0:Int)≤b)<|chk (ts.length+2≤1099511627776)<|some (.nx (out1,ts1.take last.toNat++[Ag.mk s1 (bits .andNot .i64 x.free (shlK .i64 1 b)) (bif decide (x.target<0) then b else x.target),Ag.mk s2 (bits .andNot .i64 x.free (shlK .i64 1 b)) x.target]))))=some y:=hb
    obtain ⟨_,hb⟩:=chk_inv hb
    obtain ⟨x1,hx1,hb⟩:=bI hb
    obtain ⟨hl1,hb⟩:=chk_inv hb
    obtain ⟨b_,hbr,hb⟩:=bI hb
    have hp1:=gAt hfst hp (by rw [hD1]; exact hx1)
    have hcap:D1.length≤cs:=hS11.lencap (i:=2) rfl (fm_lenn (l:=D1) CE rfl) rfl rfl
    have hrows:∀ {w:World} {pre:List Ob},ST w0 [] w (gT b Bp x.vectors.length cp x.free x.target::(pre++D1.map gRw)) [R0]→ST w0 [] w (pre++(D1.take last.toNat).map gRw) [R0]:=fun h=>by
     refine h.tail.sub (List.Sublist.append (List.Sublist.refl _) ?_)
     rw [List.map_take]
     exact List.take_sublist _ _
    refine cq (cr ?_)
    refine sQ 72 (ym (.slice Bs ts.length cs) rfl (hf1.g 6 2))<|sQ 73 (ym (vi last) rfl (hf1.g 7 3))<|sQ 74 (Y_slice0 (B:=Bs) (m:=ts.length) (c:=cs) (h:=last.toNat) (s:=3) K52 K47 rfl rfl (bnd_some rfl (nn_toNat hlast.1)) (by omega))<|sQ 6 (yg (.slice Bs last.toNat cs)) (rn ?_)
    have hS17:ST w0 [] w ([gT b Bp x.vectors.length cp x.free x.target,gO Bo1 co1 out1,gK Bs cs (D1.take last.toNat)]++D1.map gRw) [R0]:=hS11.cut (T:=99) (i:=2) (cs':=(D1.take last.toNat).flatMap Av) rfl (by
     have:D1.take last.toNat++D1.drop last.toNat=D1:=List.take_append_drop _ _
     exact ⟨(D1.drop last.toNat).flatMap Av,by rw [← List.flatMap_append,this]⟩)
    refine cq (cr ?_)
    refine sQ 75 (yb (aD b) 0 [.slice Bp x.vectors.length cp,vi x.free,vi x.target] Gx K47 (hS17.c 0) rfl (hf1.g 8 4)) ?_
    refine sc 76 rfl rfl (yC [.agg #[.slice Bp x.vectors.length cp,vi x.free,vi x.target]] P0 (Ln (Ag.mk x1.vectors x.free x.target) Bp cp x.vectors.length _ hl1 (hS17.growIn (x:=x1) hp1) hbr)) ?_
    rintro _ w_2 ⟨rfl,hd⟩
    have hS18:=hS17.out00 hd
    refine sQ 10 (yg (vi b_)) (rn (cq (cq (cr ?_))))
    refine sQ 77 (ym (vi b_))<|sQ 78 (yL b_ 0) (rn ?_)
    refine cw_cond (b:=(decide (b_<0))) rfl (fun hb0=>?_) (fun hb0=>?_)
    ·skip
     have hb:=ct hb hb0
     obtain rfl:=sI hb
     refine cw_exit rfl ?_
     refine ⟨K5,Nat.lt_succ_self _,out1,ts1.take last.toNat,D1.take last.toNat,Bo1,co1,Bs,cs,(hf1.a 0 0 (hf1.a 5 1 (fc ?_ fn_))),by rw [← hD1,List.map_take],hrows (pre:=[gO Bo1 co1 out1,gK Bs cs (D1.take last.toNat)]) hS18,hL1⟩
     show Value.slice Bs last.toNat cs=Value.slice Bs (ts1.take last.toNat).length cs
     rw [List.length_take,Nat.min_eq_left (by omega)]
    ·skip
     have hb:=cf' hb hb0
     obtain ⟨⟨s1,s2⟩,hsp,hb⟩:=bI hb
     obtain ⟨hsh,hb⟩:=chk_inv hb
     obtain ⟨hap,hb⟩:=chk_inv hb
     refine cw_skip (cq (cr ?_))
     refine sQ 80 (yd (aD b) 0 0 K78 K8 rfl (hf1.g 8 4))<|sQ 81 (yl (aD b) 0 [.slice Bp x.vectors.length cp,vi x.free,vi x.target] (.slice Bp x.vectors.length cp) K9 (hS18.c 0))<|sQ 82 (ym (vi b_)) ?_
     refine sc 83 rfl rfl (yC [.slice Bp x.vectors.length cp,vi b_] IZ (H0 x1.vectors b_ Bp cp x.vectors.length _ hl1 (hS18.growIn hp1) hsp)) ?_
     rintro _ w_3 ⟨B1,c1,B2,c2,rfl,hd2⟩
     have hS19:=hS18.leave0 hd2
     refine sQ 79 (ym (.tuple #[.slice B1 s1.length c1,.slice B2 s2.length c2]))<|sQ 84 (ye (.slice B1 s1.length c1))<|sQ 85 (ye (.slice B2 s2.length c2))<|sQ 11 (yg (.slice B1 s1.length c1))<|sQ 12 (yg (.slice B2 s2.length c2)) (rn (cq (cr ?_)))
     refine sQ 86 (yd (aD b) 0 0 K71 K0 rfl (hf1.g 8 4))<|sQ 87 (yl (aD b) 2 [.slice Bp x.vectors.length cp,vi x.free,vi x.target] (vi x.target) K1 (hS19.c 0))<|sQ 13 (yg (vi x.target)) (rn (cq ?_))
     let P1:List Ob:=[⟨B1,3,s1.flatMap encI,c1*1⟩,⟨B2,3,s2.flatMap encI,c2*1⟩]
     refine cw_mid (fun f w=>FF f [(0,vi n),(5,.slice Bo1 out1.length co1),(6,.slice Bs last.toNat cs),(8,pt (aD b) 0),(10,vi b_),(11,.slice B1 s1.length c1),(12,.slice B2 s2.length c2),(13,vi (bif decide (x.target<0) then b_ else x.target))]∧ST w0 [] w (([gT b Bp x.vectors.length cp x.free x.target,gO Bo1 co1 out1,gK Bs cs (D1.take last.toNat)]++D1.map gRw)++P1) [R0]) ?_ ?_
     ·skip
      refine cq (cr ?_)
      refine sQ 88 (ym (vi x.target))<|sQ 89 (yL x.target 0) (rn ?_)
      refine cw_cond (b:=(decide (x.target<0))) rfl (fun ht0=>?_) (fun ht0=>?_)
      ·skip
       refine cr ?_
       refine sQ 90 (ym (vi b_))<|sQ 13 (yg (vi b_)) (rn ?_)
       rw [ht0]
       exact ⟨(hf1.a 0 0 (hf1.a 5 1 (fc rfl (hf1.a 8 4 (fc rfl (fc rfl (fc rfl (fc rfl fn_)))))))),hS19⟩
      ·skip
       refine cw_skip ?_
       rw [ht0]
       exact ⟨(hf1.a 0 0 (hf1.a 5 1 (fc rfl (hf1.a 8 4 (fc rfl (fc rfl (fc rfl (fc rfl fn_)))))))),hS19⟩
     rintro f w ⟨hf3,hS20⟩
     generalize (bif decide (x.target<0) then b_ else x.target)=tg at *
     refine cq ?_
     refine ra_start hS20.fn (by kernel_rfl) ?_
     have hS21:=hS20.drew
     refine rq 0 91 (v:=pt (aD b) 1) rfl hS21 (fun w' hw'=>(yd (aD b) 0 0 Kv K0 rfl (hf3.g 8 3)))<|rq 1 92 rfl hS21 (fun w' hw'=>(yl (aD b) 1 [.slice Bp x.vectors.length cp,vi x.free,vi x.target] (vi x.free) K1 (ST.cf hw' (i:=0) rfl)))<|rq 2 93 rfl hS21 (fun w' hw'=>(ym (vi b_) rfl (hf3.g 10 4)))<|rq 3 94 (v:=vi (shlK .i64 1 b_)) rfl hS21 (fun w' hw'=>(Y_shl (k:=.i64) (a:=1) (k':=.i64) (b:=b_) rfl rfl rfl hsh))<|rq 4 95 (v:=vi (bits .andNot .i64 x.free (shlK .i64 1 b_))) rfl hS21 (fun w' hw'=>(Y_bandNot (k:=.i64) (a:=x.free) (b:=(shlK .i64 1 b_)) rfl rfl rfl)) ?_
     refine rq 5 14 rfl hS21 (fun w' hw'=>(yg (vi (bits .andNot .i64 x.free (shlK .i64 1 b_))))) ?_
     refine ra_done (by kernel_rfl) ?_
     generalize hfr:(bits .andNot .i64 x.free (shlK .i64 1 b_))=fr at *
     refine cr ?_
     refine sQ 96 (ym (.slice Bs last.toNat cs) rfl (hf3.g 6 2))<|sQ 97 (ym (.slice B1 s1.length c1) rfl (hf3.g 11 5))<|sQ 98 (ym (vi fr))<|sQ 99 (ym (vi tg) rfl (hf3.g 13 7))<|sQ 100 (Y_buildS (zs:=[.slice none 0 0,vi 0,vi 0]) (vs:=[(0,.slice B1 s1.length c1),(1,vi fr),(2,vi tg)]) (cs:=[.slice B1 s1.length c1,vi fr,vi tg]) K84 K72 rfl (mpc rfl (mpc rfl (mpc rfl mpn))) rfl)<|sQ 101 (ym (.slice B2 s2.length c2) rfl (hf3.g 12 6)) ?_
     refine sQ 102 (ym (vi fr))<|sQ 103 (yd (aD b) 0 0 K71 K0 rfl (hf3.g 8 3))<|sQ 104 (yl (aD b) 2 [.slice Bp x.vectors.length cp,vi x.free,vi x.target] (vi x.target) K1 (hS21.c 0))<|sQ 105 (Y_buildS (zs:=[.slice none 0 0,vi 0,vi 0]) (vs:=[(0,.slice B2 s2.length c2),(1,vi fr),(2,vi x.target)]) (cs:=[.slice B2 s2.length c2,vi fr,vi x.target]) K84 K72 rfl (mpc rfl (mpc rfl (mpc rfl mpn))) rfl) ?_
     refine sS 106 (Ys_bslice (s:=3) (len:=2) (vs:=[(0,.agg #[.slice B1 s1.length c1,vi fr,vi tg]),(1,.agg #[.slice B2 s2.length c2,vi fr,vi x.target])]) (cs:=[.slice B1 s1.length c1,vi fr,vi tg,.slice B2 s2.length c2,vi fr,vi x.target]) (zs:=[.slice none 0 0,vi 0,vi 0,.slice none 0 0,vi 0,vi 0]) (m:=6) hS21 K52 K47 K83 rfl (mpc rfl (mpc rfl mpn)) rfl rfl rfl (by kernel_rfl) (by kernel_rfl) rfl) ?_
     rintro _ w_4 ⟨b2,rfl,hS22⟩
     have hlt2:(D1.take last.toNat).length=last.toNat:=by rw [List.length_take,Nat.min_eq_left (by omega)]
     refine sS 107 (Ys_append (s:=3) (by':=40) (i:=2) (nn:=last.toNat) (c:=cs) (k:=2) (len:=(D1.take last.toNat++[((B1,c1),Ag.mk s1 fr tg),((B2,c2),Ag.mk s2 fr x.target)]).length) (B:=Bs) (X:=aD b2) (c2:=2) (cs:=(D1.take last.toNat).flatMap Av) (xs:=[((B1,c1),Ag.mk s1 fr tg),((B2,c2),Ag.mk s2 fr x.target)].flatMap Av) (cs':=(D1.take last.toNat++[((B1,c1),Ag.mk s1 fr tg),((B2,c2),Ag.mk s2 fr x.target)]).flatMap Av) (m:=cs*3) hS22 K52 K47 OY K72 rfl (by decide) rfl rfl rfl rfl (fm_lenn (l:=D1.take last.toNat) CE hlt2) rfl (hS22.mcf (mAr _ (.head _))) rfl rfl (by have:=hap; omega) (by have:=hap; simp only [maxLen]; omega) (fm_app _ _) (by rw [List.length_append,hlt2]; rfl)) ?_
     rintro _ w_5 ⟨Bs2,cs2,rfl,hS23⟩
     refine sQ 6 (yg (.slice Bs2 (D1.take last.toNat++[((B1,c1),Ag.mk s1 fr tg),((B2,c2),Ag.mk s2 fr x.target)]).length cs2)) (rn ?_)
     obtain rfl:=sI hb
     have hS24:ST w0 [] w_5 (([gT b Bp x.vectors.length cp x.free x.target,gO Bo1 co1 out1,gK Bs2 cs2 (D1.take last.toNat++[((B1,c1),Ag.mk s1 fr tg),((B2,c2),Ag.mk s2 fr x.target)])]++D1.map gRw)++P1) [R0]:=hS23.sub (List.sublist_append_left _ _)
     have hS25:ST w0 [] w_5 ([gO Bo1 co1 out1,gK Bs2 cs2 (D1.take last.toNat++[((B1,c1),Ag.mk s1 fr tg),((B2,c2),Ag.mk s2 fr x.target)])]++(D1.take last.toNat++[((B1,c1),Ag.mk s1 fr tg),((B2,c2),Ag.mk s2 fr x.target)]).map gRw) [R0]:=by
      rw [List.append_assoc] at hS24
      rw [List.map_append]
      refine hS24.tail.sub (List.Sublist.append (List.Sublist.refl _) (List.Sublist.append ?_ (List.Sublist.refl _)))
      rw [List.map_take]
      exact List.take_sublist _ _
     refine ⟨K5,Nat.lt_succ_self _,out1,_,(D1.take last.toNat++[((B1,c1),Ag.mk s1 fr tg),((B2,c2),Ag.mk s2 fr x.target)]),Bo1,co1,Bs2,cs2,(hf3.a 0 0 (hf3.a 5 1 (fc ?_ fn_))),?_,hS25,hL1⟩
     ·show Value.slice Bs2 _ cs2=Value.slice Bs2 _ cs2
      rw [List.length_append,List.length_append,hlt2,List.length_take,Nat.min_eq_left (by omega)]
      rfl
     ·rw [List.map_append,← hD1,List.map_take]
      rfl
 ·skip
  have hb:=cf' hb hlt
  obtain rfl:=sI hb
  obtain rfl:=sI hL1
  refine cw_exit rfl ?_
  refine cq (cr ?_)
  refine sQ 108 (ym (.slice Bo out.length co) rfl (hf.g 5 1))<|sQ 4 (yg (.slice Bo out.length co)) (rn (ct_ ?_))
  obtain rfl:=sI hF
  exact ret1 Tryz.results18 (v1:=.slice Bo out.length co) (resAt_tmp rfl) ⟨Bo,co,rfl,((hS7.sub (L':=[gO Bo co out]) (List.Sublist.cons_cons _ (List.nil_sublist _))).sT [])⟩

theorem OD (terms:List Ab) (B:Option Addr) (c n:Nat) (w0:World) (hn:terms.length=n) (hS:ST w0 [] w0 [] [⟨B,(terms.flatMap eN1)⟩]) {r_:List Int} (hF:Dh terms=some r_) :
  CV Tryz.prog 19 #[.slice B n c] w0 (fun v w'=>∃ (B1:Option Addr) (c1:Nat),v=.slice B1 r_.length c1∧ST w0 [] w' [⟨B1,3,(r_.flatMap encI),c1*1⟩] []):=by
 subst hn
 unfold Dh at hF
 refine cv_of_cw 20 Tryz.func19 rfl Tryz.ntmps19 rfl ?_
 refine cq (cr ?_)
 refine sQ 2 (yg (.slice none 0 0)) (rn (cq (cr ?_)))
 refine sS 6 (Ys_bslice0 (s:=1) (e:=3) hS K2 K0 rfl) ?_
 rintro _ w_ ⟨b,rfl,hS1⟩
 refine sQ 3 (yg (.slice (aD b) 0 0)) (rn (cq (cq (cr ?_))))
 refine sQ 7 (ym (.slice B terms.length c))<|sQ 8 (Y_len (B:=B) (m:=terms.length) (c:=c) K14 rfl rfl)<|sQ 9 (ym (vi 0)) (rn ?_)
 obtain ⟨hN,hF⟩:=chk_inv hF
 obtain ⟨z,hz,hF1⟩:=bI hF
 refine cw_block ?_
 refine cw_loop (fun k f w=>∃ (i:Nat) (out:List Int) (B2:Option Addr) (c2:Nat),FF f [(3,.slice B2 out.length c2),(7,.slice B terms.length c),(8,vi (terms.length:Int)),(9,vi (i:Int))]∧ST w0 [] w [⟨B2,3,(out.flatMap encI),c2*1⟩] [⟨B,(terms.flatMap eN1)⟩]∧i+k=terms.length∧forN (EI terms) k i out=some z) terms.length ⟨0,[],aD b,0,(fc rfl (fc rfl (fc rfl (fc rfl fn_)))),(hS1.sel [0] rfl rfl),Nat.zero_add _,hz⟩ ?_
 rintro k_ f w ⟨i,out,B2,c2,hf,hS2,hik,hL⟩
 refine cq (cr ?_)
 refine sQ 10 (yL (i:Int) (terms.length:Int) rfl (hf.g 9 3) (hf.g 8 2)) (rn (cq ?_))
 refine cw_cond (b:=(decide ((i:Int)<(terms.length:Int)))) rfl (fun hlt=>?_) (fun hlt=>?_)
 ·skip
  have hlt1:i<terms.length:=by have h:=of_decide_eq_true hlt; omega
  obtain ⟨K5,rfl⟩:∃ k2,k_=k2+1:=⟨k_-1,by omega⟩
  obtain ⟨y,hb,hL1⟩:=forN_go hL
  unfold EI at hb
  refine cw_skip (cq (cw_block (cq (cr ?_))))
  obtain ⟨x,hx,hb⟩:=bI hb
  refine sQ 11 (yI B (i:Int) K14 K15 (gi_isSome eN3 rfl (hS2.rf (i:=0) rfl) hx) (getI_nn hx) (getI_ltI hx rfl) rfl (hf.g 7 1) (hf.g 9 3))<|sQ 12 (ya B ((i:Int).toNat*2) (terms.flatMap eN1) [vi x.Mask,vi x.Coef] K51 K15 (hS2.rf (i:=0) rfl) rfl rfl (eN3 x) (gi_seg eN3 hx)) ?_
  refine sS 5 (yN [vi 0,vi 0] 2 hS2 K37) ?_
  rintro _ w_1 ⟨b1,rfl,hS3⟩
  refine s0 (yT 1 2 (aD b1) 64 (.agg #[vi x.Mask,vi x.Coef]) [vi x.Mask,vi x.Coef] 0 hS3 K15) ?_
  rintro _ w_2 ⟨rfl,hS4⟩
  refine rn (cr ?_)
  refine sQ 13 (ym (.slice B2 out.length c2) rfl (hf.g 3 0))<|sQ 14 (yd (aD b1) 0 0 K49 K0)<|sQ 15 (yl (aD b1) 0 [vi x.Mask,vi x.Coef] (vi x.Mask) K1 (hS4.c 1)) ?_
  refine sS 16 (Ys_bslice (s:=1) (len:=1) (vs:=[(0,vi x.Mask)]) (cs:=[vi x.Mask]) (zs:=[vi 0]) (m:=1) hS4 K2 K0 K24 rfl (mpc rfl mpn) rfl rfl rfl (by kernel_rfl) (by kernel_rfl) rfl) ?_
  rintro _ w_3 ⟨b2,rfl,hS5⟩
  obtain ⟨hap,hb⟩:=chk_inv hb
  refine sS 17 (Ys_append (s:=1) (by':=8) (i:=0) (nn:=out.length) (c:=c2) (k:=1) (len:=(out++[x.Mask]).length) (B:=B2) (xs:=([x.Mask].flatMap encI)) (cs':=((out++[x.Mask]).flatMap encI)) hS5 K2 K0 K31 K28 rfl (by decide) rfl rfl rfl rfl (fm_lenn (l:=out) encI_len rfl) rfl (hS5.c 2) (fm_lenn (l:=[x.Mask]) encI_len rfl) (fm_one' (enc:=encI) encI_one [x.Mask]) (by have:=hap; omega) (by have:=hap; simp only [maxLen]; omega) (fm_app _ _) (app_len (l:=out) (l':=[x.Mask]) rfl rfl)) ?_
  rintro _ w_4 ⟨B3,c3,rfl,hS6⟩
  refine sQ 3 (yg (.slice B3 ((out++[x.Mask]).length) c3)) (rn (cr ?_))
  refine sQ 18 (yP (i:Int) 1 rfl (hf.g 9 3))<|sQ 9 (ym (vi (i64.wrap ((i:Int)+1)))) (rn ?_)
  obtain rfl:=sI hb
  exact ⟨K5,Nat.lt_succ_self _,i+1,(out++[x.Mask]),B3,c3,(fc rfl (hf.a 7 1 (hf.a 8 2 (fc (congrArg (Value.int .i64) (wr_succ hlt1 hN)) fn_)))),(hS6.sel [0] rfl rfl),(by omega),hL1⟩
 ·skip
  obtain rfl:k_=0:=by have h:=of_decide_eq_false hlt; omega
  refine cw_exit rfl ?_
  obtain rfl:=sI hL
  refine cq (cr ?_)
  refine sQ 19 (ym (.slice B2 out.length c2) rfl (hf.g 3 0))<|sQ 2 (yg (.slice B2 out.length c2)) (rn (ct_ ?_))
  obtain rfl:=sI hF1
  exact ret1 Tryz.results19 (v1:=.slice B2 out.length c2) (resAt_tmp rfl) ⟨B2,c2,rfl,(hS2.sN [0])⟩

theorem KI (s:List Aa) (f_:Aa→Option (Bool)) (B:Option Addr) (c n:Nat) (kf:Nat) (caps:Array Value) (Rf:List Ro) (w0:World) (hn:s.length=n) (hk:callB Tryz.prog kf=true) (hp:∀ (w:World),ST w [] w [] Rf→∀ (x:Aa) (y:Bool),f_ x=some y→CV Tryz.prog kf ((.agg #[vi x.Kind,vi x.A,vi x.B])::caps.toList).toArray w (fun v w'=>v=.bool y∧ST w [] w' [] [])) (hS:ST w0 [] w0 [] (⟨B,(s.flatMap eN0)⟩::Rf)) {r_:Int} (hF:D5 s f_=some r_) :
  CV Tryz.prog 112 #[.slice B n c,.func (.func kf) #[] caps] w0 (fun v w'=>v=vi r_∧ST w0 [] w' [] []):=by
 subst hn
 unfold D5 at hF
 refine cv_of_cw 19 Tryz.func112 rfl Tryz.ntmps112 rfl ?_
 refine cq (cr ?_)
 refine sQ 4 (yg (vi 0)) (rn (cq (cq (cr ?_))))
 refine sQ 6 (ym (.slice B s.length c))<|sQ 7 (Y_len (B:=B) (m:=s.length) (c:=c) K4 rfl rfl)<|sQ 8 (ym (vi 0)) (rn ?_)
 obtain ⟨hN,hF⟩:=chk_inv hF
 obtain ⟨z,hz,hF1⟩:=bI hF
 refine cw_block ?_
 refine cw_loop (fun k f w=>∃ (i:Nat),FF f [(0,.slice B s.length c),(1,.func (.func kf) #[] caps),(7,vi (s.length:Int)),(8,vi (i:Int))]∧ST w0 [] w [] (⟨B,(s.flatMap eN0)⟩::Rf)∧i+k=s.length∧forX (Dk s f_) k i ()=some z) s.length ⟨0,(fc rfl (fc rfl (fc rfl (fc rfl fn_)))),(hS.sel [] rfl rfl),Nat.zero_add _,hz⟩ ?_
 rintro k_ f w ⟨i,hf,hS1,hik,hL⟩
 refine cq (cr ?_)
 refine sQ 9 (yL (i:Int) (s.length:Int) rfl (hf.g 8 3) (hf.g 7 2)) (rn (cq ?_))
 refine cw_cond (b:=(decide ((i:Int)<(s.length:Int)))) rfl (fun hlt=>?_) (fun hlt=>?_)
 ·skip
  have hlt1:i<s.length:=by have h:=of_decide_eq_true hlt; omega
  obtain ⟨K5,rfl⟩:∃ k2,k_=k2+1:=⟨k_-1,by omega⟩
  obtain ⟨y1,hb,hL1⟩:=forX_go hL
  unfold Dk at hb
  refine cw_skip (cq (cw_block (cq (cr ?_))))
  refine sQ 10 (ym (vi (i:Int)) rfl (hf.g 8 3))<|sQ 5 (yg (vi (i:Int))) (rn (cq (cr ?_)))
  refine sQ 11 (ym (.func (.func kf) #[] caps) rfl (hf.g 1 1))<|sQ 12 (ym (.slice B s.length c) rfl (hf.g 0 0))<|sQ 13 (ym (vi (i:Int))) ?_
  obtain ⟨x1,hx,hb⟩:=bI hb
  refine sQ 14 (yI B (i:Int) K4 K3 (gi_isSome eN2 rfl (hS1.rf (i:=0) rfl) hx) (getI_nn hx) (getI_ltI hx rfl))<|sQ 15 (ya B ((i:Int).toNat*3) (s.flatMap eN0) [vi x1.Kind,vi x1.A,vi x1.B] K30 K3 (hS1.rf (i:=0) rfl) rfl rfl (eN2 x1) (gi_seg eN2 hx)) ?_
  obtain ⟨r_1,hc,hb⟩:=bI hb
  refine sc 16 rfl rfl (Yc_clos (g:=kf) (vs:=(.agg #[vi x1.Kind,vi x1.A,vi x1.B])::caps.toList) hk rfl rfl (clo_args (mc rfl mn)) (hp _ (hS1.innS (fun _ h=>mOd (i:=1) h)) x1 r_1 hc)) ?_
  rintro _ w_ ⟨rfl,hd⟩
  have hS2:=hS1.out00 hd
  refine rn ?_
  refine cw_cond (b:=r_1) rfl (fun hb1=>?_) (fun hb1=>?_)
  ·skip
   have hF2:=ct hb hb1
   refine cq (cr ?_)
   refine sQ 17 (ym (vi (i:Int)))<|sQ 4 (yg (vi (i:Int))) (rn (ct_ ?_))
   obtain rfl:=sI hF2
   obtain rfl:=sI hL1
   obtain rfl:=sI hF1
   exact ret1 Tryz.results112 (v1:=vi (i:Int)) (resAt_tmp rfl) ⟨rfl,(hS2.sN [])⟩
  ·skip
   have hF3:=cf' hb hb1
   refine cw_skip (cr ?_)
   refine sQ 18 (yP (i:Int) 1 rfl (hf.g 8 3))<|sQ 8 (ym (vi (i64.wrap ((i:Int)+1)))) (rn ?_)
   obtain rfl:=sI hF3
   exact ⟨K5,Nat.lt_succ_self _,i+1,(hf.a 0 0 (hf.a 1 1 (hf.a 7 2 (fc (congrArg (Value.int .i64) (wr_succ hlt1 hN)) fn_)))),(hS2.sel [] rfl rfl),(by omega),hL1⟩
 ·skip
  obtain rfl:k_=0:=by have h:=of_decide_eq_false hlt; omega
  refine cw_exit rfl ?_
  obtain rfl:=sI hL
  refine cq (cr ?_)
  refine sQ 4 (yg (vi (-1))) (rn (ct_ ?_))
  obtain rfl:=sI hF1
  exact ret1 Tryz.results112 (v1:=vi (-1)) (resAt_tmp rfl) ⟨rfl,(hS1.sN [])⟩

theorem IC (s:List Aa) (f_:Aa→Option (Bool)) (B:Option Addr) (c n:Nat) (kf:Nat) (caps:Array Value) (Rf:List Ro) (w0:World) (hn:s.length=n) (hk:callB Tryz.prog kf=true) (hp:∀ (w:World),ST w [] w [] Rf→∀ (x:Aa) (y:Bool),f_ x=some y→CV Tryz.prog kf ((.agg #[vi x.Kind,vi x.A,vi x.B])::caps.toList).toArray w (fun v w'=>v=.bool y∧ST w [] w' [] [])) (hS:ST w0 [] w0 [] (⟨B,(s.flatMap eN0)⟩::Rf)) {r_:Bool} (hF:BJ s f_=some r_) :
  CV Tryz.prog 92 #[.slice B n c,.func (.func kf) #[] caps] w0 (fun v w'=>v=.bool r_∧ST w0 [] w' [] []):=by
 subst hn
 unfold BJ at hF
 refine cv_of_cw 9 Tryz.func92 rfl Tryz.ntmps92 rfl ?_
 refine cq (cr ?_)
 refine sQ 4 (yg (.bool false)) (rn (cq (cr ?_)))
 refine sQ 5 (ym (.slice B s.length c))<|sQ 6 (ym (.func (.func kf) #[] caps)) ?_
 obtain ⟨r_1,hc,hF⟩:=bI hF
 refine sc 7 rfl rfl (yC [.slice B s.length c,.func (.func kf) #[] caps] KK (KI s f_ B c s.length kf caps Rf _ rfl hk hp (hS.innS (sk 0 (fun _ h=>mOd (i:=1) h))) hc)) ?_
 rintro _ w_ ⟨rfl,hd⟩
 have hS1:=hS.out00 hd
 refine sQ 8 (Y_ge (k:=.i64) (a:=r_1) (b:=0) rfl rfl rfl)<|sQ 4 (yg (.bool (decide (0≤r_1)))) (rn (ct_ ?_))
 obtain rfl:=sI hF
 exact ret1 Tryz.results92 (v1:=.bool (decide (0≤r_1))) (resAt_tmp rfl) ⟨rfl,(hS1.sN [])⟩

theorem No (kind:Int)  (w0:World)  (hS:ST w0 [] w0 [] []) {r_:Bool} (hF:Fc kind=some r_) :
  CV Tryz.prog 113 #[vi kind] w0 (fun v w'=>v=.bool r_∧ST w0 [] w' [] []):=by
 unfold Fc at hF
 refine cv_of_cw 5 Tryz.func113 rfl Tryz.ntmps113 rfl ?_
 refine cq (cr ?_)
 refine sQ 2 (yg (.bool false)) (rn (cq (cr ?_)))
 refine sQ 3 (ym (vi kind)) ?_
 obtain ⟨r_1,hc,hF⟩:=bI hF
 refine sc 4 rfl rfl (yC [vi kind,vi 9,vi 11] K50 (AV kind 9 11 _  (hS.inn0 [] rfl) hc)) ?_
 rintro _ w_ ⟨rfl,hd⟩
 have hS1:=hS.out00 hd
 refine sQ 2 (yg (.bool r_1)) (rn (ct_ ?_))
 obtain rfl:=sI hF
 exact ret1 Tryz.results113 (v1:=.bool r_1) (resAt_tmp rfl) ⟨rfl,(hS1.sN [])⟩

theorem Pb (n:Int) (g:Aa)  (w0:World)  (hS:ST w0 [] w0 [] []) {r_:Bool} (hF:DZ n g=some r_) :
  CV Tryz.prog 95 #[vi n,.agg #[vi g.Kind,vi g.A,vi g.B]] w0 (fun v w'=>v=.bool r_∧ST w0 [] w' [] []):=by
 unfold DZ at hF
 refine cv_of_cw 60 Tryz.func95 rfl Tryz.ntmps95 rfl ?_
 refine cq (cr ?_)
 let V0:List Value:=[vi g.Kind,vi g.A,vi g.B]
 refine sS 3 (yB 59 (.agg V0.toArray) V0 3 hS) ?_
 rintro _ w_ ⟨b,rfl,hS1⟩
 refine sQ 4 (yg (.bool false)) (rn (cq (cw_block (cq (cr ?_)))))
 refine sQ 6 (ym (vi n)) ?_
 obtain ⟨r_1,hc,hF⟩:=bI hF
 refine sc 7 rfl rfl (yC [vi n,vi 1,vi 5] K50 (AV n 1 5 _  (hS1.inn0 [] rfl) hc)) ?_
 rintro _ w_1 ⟨rfl,hd⟩
 have hS2:=hS1.out00 hd
 refine sQ 8 (Y_not (p:=r_1) rfl rfl)<|sQ 9 (ym (.bool (!r_1))) ?_
 refine sgq 10 (B:=(!(!r_1))) (v:=pt (aD b) 0) rfl rfl (uF_ 9) (fun hg=>(yd (aD b) 0 0 K45 K0)) ?_
 refine sgq 11 (B:=(!(!r_1))) rfl rfl (uF_ 9) (fun hg1=>(yl (aD b) 0 V0 (vi g.Kind) K1 (hS2.c 0) rfl (gv_of (v:=pt (aD b) 0) hg1))) ?_
 obtain ⟨r_2,hc1,hF⟩:=bI hF
 refine sgc 12 (B:=(!(!r_1))) (v:=.bool r_2) (F:=hS2.fn) rfl rfl (uF_ 9) hS2 (fun hg2=>(yC [vi g.Kind,vi 1,vi 12] K50 (CV.mono (AV g.Kind 1 12 _  (hS2.inn0 [] rfl) (gb_inv hc1 hg2)) (by rintro _ _ ⟨rfl,h⟩; exact ⟨rfl,hS2.out00 h⟩)) rfl (mc (gv_of (v:=vi g.Kind) hg2) (mc rfl (mc rfl mn))))) ?_
 rintro w_2 hS3
 refine sgq 13 (B:=(!(!r_1))) (v:=.bool (!r_2)) rfl rfl (uF_ 9) (fun hg3=>(Y_not (p:=r_2) rfl (gv_of (v:=.bool r_2) hg3))) ?_
 refine sQ 14 (Y_or (b:=(!r_1)) (z:=(!r_2)) rfl rfl rfl rfl)<|sQ 5 (yg (.bool ((!r_1)||(!r_2)))) (rn ?_)
 refine cw_cond (b:=((!r_1)||(!r_2))) rfl (fun hb=>?_) (fun hb=>?_)
 ·skip
  have hF1:=ct hF hb
  refine cq (cr ?_)
  refine sQ 4 (yg (.bool false)) (rn (ct_ ?_))
  obtain rfl:=sI hF1
  exact ret1 Tryz.results95 (v1:=.bool false) (resAt_tmp rfl) ⟨rfl,(hS3.sN [])⟩
 ·skip
  have hF2:=cf' hF hb
  refine cq (cr ?_)
  refine sQ 16 (yd (aD b) 0 0 K45 K0)<|sQ 17 (yl (aD b) 0 V0 (vi g.Kind) K1 (hS3.c 0))<|sQ 18 (yE g.Kind 12)<|sQ 15 (yg (.bool (g.Kind==12))) (rn ?_)
  refine cw_cond (b:=(g.Kind==12)) rfl (fun hb1=>?_) (fun hb1=>?_)
  ·skip
   have hF3:=ct hF2 hb1
   refine cq (cr ?_)
   refine sQ 19 (yd (aD b) 0 0 K29 K0)<|sQ 20 (yl (aD b) 1 V0 (vi g.A) K1 (hS3.c 0))<|sQ 21 (yE g.A 0)<|sQ 22 (ym (.bool (g.A==0))) ?_
   refine sgq 23 (B:=(g.A==0)) (v:=pt (aD b) 2) rfl rfl (uT_ 22) (fun hg4=>(yd (aD b) 0 0 K27 K0)) ?_
   refine sgq 24 (B:=(g.A==0)) rfl rfl (uT_ 22) (fun hg5=>(yl (aD b) 2 V0 (vi g.B) K1 (hS3.c 0) rfl (gv_of (v:=pt (aD b) 2) hg5))) ?_
   refine sgq 25 (B:=(g.A==0)) rfl rfl (uT_ 22) (fun hg6=>(yE g.B 0 rfl (gv_of (v:=vi g.B) hg6))) ?_
   refine sQ 26 (Y_and (b:=(g.A==0)) (z:=(g.B==0)) rfl rfl rfl rfl)<|sQ 4 (yg (.bool ((g.A==0)&&(g.B==0)))) (rn (ct_ ?_))
   obtain rfl:=sI hF3
   exact ret1 Tryz.results95 (v1:=.bool ((g.A==0)&&(g.B==0))) (resAt_tmp rfl) ⟨rfl,(hS3.sN [])⟩
  ·skip
   have hF4:=cf' hF2 hb1
   refine cq (cr ?_)
   refine sQ 28 (yd (aD b) 0 0 K45 K0)<|sQ 29 (yl (aD b) 0 V0 (vi g.Kind) K1 (hS3.c 0)) ?_
   obtain ⟨r_3,hc2,hF4⟩:=bI hF4
   refine sc 30 rfl rfl (yC [vi g.Kind] M7 (No g.Kind _  (hS3.inn0 [] rfl) hc2)) ?_
   rintro _ w_3 ⟨rfl,hd1⟩
   have hS4:=hS3.out00 hd1
   refine sQ 27 (yg (.bool r_3)) (rn ?_)
   refine cw_cond (b:=r_3) rfl (fun hb2=>?_) (fun hb2=>?_)
   ·skip
    have hF5:=ct hF4 hb2
    refine cq (cr ?_)
    refine sQ 31 (yd (aD b) 0 0 K29 K0)<|sQ 32 (yl (aD b) 1 V0 (vi g.A) K1 (hS4.c 0))<|sQ 33 (ym (vi n))<|sQ 34 (yM n 1) ?_
    obtain ⟨r_4,hc3,hF5⟩:=bI hF5
    refine sc 35 rfl rfl (yC [vi g.A,vi 0,vi (i64.wrap (n-1))] K50 (AV g.A 0 (i64.wrap (n-1)) _  (hS4.inn0 [] rfl) hc3)) ?_
    rintro _ w_4 ⟨rfl,hd2⟩
    have hS5:=hS4.out00 hd2
    refine sQ 36 (ym (.bool r_4)) ?_
    refine sgq 37 (B:=r_4) (v:=pt (aD b) 2) rfl rfl (uT_ 36) (fun hg7=>(yd (aD b) 0 0 K27 K0)) ?_
    refine sgq 38 (B:=r_4) rfl rfl (uT_ 36) (fun hg8=>(yl (aD b) 2 V0 (vi g.B) K1 (hS5.c 0) rfl (gv_of (v:=pt (aD b) 2) hg8))) ?_
    refine sgq 39 (B:=r_4) rfl rfl (uT_ 36) (fun hg9=>(ym (vi n))) ?_
    refine sgq 40 (B:=r_4) rfl rfl (uT_ 36) (fun hg10=>(yM n 1 rfl (gv_of (v:=vi n) hg10))) ?_
    obtain ⟨r_5,hc4,hF5⟩:=bI hF5
    refine sgc 41 (B:=r_4) (v:=.bool r_5) (F:=hS5.fn) rfl rfl (uT_ 36) hS5 (fun hg11=>(yC [vi g.B,vi 0,vi (i64.wrap (n-1))] K50 (CV.mono (AV g.B 0 (i64.wrap (n-1)) _  (hS5.inn0 [] rfl) (gb_inv hc4 hg11)) (by rintro _ _ ⟨rfl,h⟩; exact ⟨rfl,hS5.out00 h⟩)) rfl (mc (gv_of (v:=vi g.B) hg11) (mc rfl (mc (gv_of (v:=vi (i64.wrap (n-1))) hg11) mn))))) ?_
    rintro w_5 hS6
    refine sQ 42 (Y_and (b:=r_4) (z:=r_5) rfl rfl rfl rfl)<|sQ 43 (ym (.bool (r_4&&r_5))) ?_
    refine sgq 44 (B:=(r_4&&r_5)) (v:=pt (aD b) 1) rfl rfl (uT_ 43) (fun hg12=>(yd (aD b) 0 0 K29 K0)) ?_
    refine sgq 45 (B:=(r_4&&r_5)) rfl rfl (uT_ 43) (fun hg13=>(yl (aD b) 1 V0 (vi g.A) K1 (hS6.c 0) rfl (gv_of (v:=pt (aD b) 1) hg13))) ?_
    refine sgq 46 (B:=(r_4&&r_5)) (v:=pt (aD b) 2) rfl rfl (uT_ 43) (fun hg14=>(yd (aD b) 0 0 K27 K0)) ?_
    refine sgq 47 (B:=(r_4&&r_5)) rfl rfl (uT_ 43) (fun hg15=>(yl (aD b) 2 V0 (vi g.B) K1 (hS6.c 0) rfl (gv_of (v:=pt (aD b) 2) hg15))) ?_
    refine sgq 48 (B:=(r_4&&r_5)) rfl rfl (uT_ 43) (fun hg16=>(Y_ne (k:=.i64) (a:=g.A) (b:=g.B) rfl (gv_of (v:=vi g.A) hg16) (gv_of (v:=vi g.B) hg16))) ?_
    refine sQ 49 (Y_and (b:=(r_4&&r_5)) (z:=(g.A != g.B)) rfl rfl rfl rfl)<|sQ 4 (yg (.bool ((r_4&&r_5)&&(g.A != g.B)))) (rn (ct_ ?_))
    obtain rfl:=sI hF5
    exact ret1 Tryz.results95 (v1:=.bool ((r_4&&r_5)&&(g.A != g.B))) (resAt_tmp rfl) ⟨rfl,(hS6.sN [])⟩
   ·skip
    have hF6:=cf' hF4 hb2
    refine cw_skip (cq (cr ?_))
    refine sQ 50 (yd (aD b) 0 0 K29 K0)<|sQ 51 (yl (aD b) 1 V0 (vi g.A) K1 (hS4.c 0))<|sQ 52 (ym (vi n))<|sQ 53 (yM n 1) ?_
    obtain ⟨r_6,hc5,hF6⟩:=bI hF6
    refine sc 54 rfl rfl (yC [vi g.A,vi 0,vi (i64.wrap (n-1))] K50 (AV g.A 0 (i64.wrap (n-1)) _  (hS4.inn0 [] rfl) hc5)) ?_
    rintro _ w_6 ⟨rfl,hd3⟩
    have hS7:=hS4.out00 hd3
    refine sQ 55 (ym (.bool r_6)) ?_
    refine sgq 56 (B:=r_6) (v:=pt (aD b) 2) rfl rfl (uT_ 55) (fun hg17=>(yd (aD b) 0 0 K27 K0)) ?_
    refine sgq 57 (B:=r_6) rfl rfl (uT_ 55) (fun hg18=>(yl (aD b) 2 V0 (vi g.B) K1 (hS7.c 0) rfl (gv_of (v:=pt (aD b) 2) hg18))) ?_
    refine sgq 58 (B:=r_6) rfl rfl (uT_ 55) (fun hg19=>(yE g.B 0 rfl (gv_of (v:=vi g.B) hg19))) ?_
    refine sQ 59 (Y_and (b:=r_6) (z:=(g.B==0)) rfl rfl rfl rfl)<|sQ 4 (yg (.bool (r_6&&(g.B==0)))) (rn (ct_ ?_))
    obtain rfl:=sI hF6
    exact ret1 Tryz.results95 (v1:=.bool (r_6&&(g.B==0))) (resAt_tmp rfl) ⟨rfl,(hS7.sN [])⟩

theorem MR (g:Aa) (p:Ae) (B:Option Addr) (B1:Option Addr) (c n:Nat) (w0:World) (hn:p.Gates.length=n) (hS:ST w0 [] w0 [] [⟨B,[vi p.Qubits,.slice B1 n c]⟩,⟨B1,(p.Gates.flatMap eN0)⟩]) {r_:Bool} (hF:CB g p=some r_) :
  CV Tryz.prog 94 #[.agg #[vi g.Kind,vi g.A,vi g.B],pt B 0] w0 (fun v w'=>v=.bool r_∧ST w0 [] w' [] []):=by
 subst hn
 unfold CB at hF
 refine cv_of_cw 9 Tryz.func94 rfl Tryz.ntmps94 rfl ?_
 refine cq (cr ?_)
 let V0:List Value:=[vi g.Kind,vi g.A,vi g.B]
 refine sS 2 (yB 59 (.agg V0.toArray) V0 3 hS) ?_
 rintro _ w_ ⟨b,rfl,hS1⟩
 refine sQ 3 (yg (.bool false)) (rn (cq (cr ?_)))
 refine sQ 4 (yd B 0 0 K36 K0)<|sQ 5 (yl B 0 [vi p.Qubits,.slice B1 p.Gates.length c] (vi p.Qubits) K1 (hS1.rf (i:=0) rfl))<|sQ 6 (yb (aD b) 0 V0 K30 K3 (hS1.c 0)) ?_
 obtain ⟨r_1,hc,hF⟩:=bI hF
 refine sc 7 rfl rfl (yC [vi p.Qubits,.agg V0.toArray] On (Pb p.Qubits g _  (hS1.inn0 [] rfl) hc)) ?_
 rintro _ w_1 ⟨rfl,hd⟩
 have hS2:=hS1.out00 hd
 refine sQ 8 (Y_not (p:=r_1) rfl rfl)<|sQ 3 (yg (.bool (!r_1))) (rn (ct_ ?_))
 obtain rfl:=sI hF
 exact ret1 Tryz.results94 (v1:=.bool (!r_1)) (resAt_tmp rfl) ⟨rfl,(hS2.sN [])⟩

theorem EX (c:Ae) (B:Option Addr) (c1 n:Nat) (w0:World) (hn:c.Gates.length=n) (hS:ST w0 [] w0 [] [⟨B,(c.Gates.flatMap eN0)⟩]) {r_:Bool} (hF:AW c=some r_) :
  CV Tryz.prog 45 #[.agg #[vi c.Qubits,.slice B n c1]] w0 (fun v w'=>v=.bool r_∧ST w0 [] w' [] []):=by
 subst hn
 unfold AW at hF
 refine cv_of_cw 19 Tryz.func45 rfl Tryz.ntmps45 rfl ?_
 refine cq (cr ?_)
 let V0:List Value:=[vi c.Qubits,.slice B c.Gates.length c1]
 refine sS 1 (yB 32 (.agg V0.toArray) V0 2 hS) ?_
 rintro _ w_ ⟨b,rfl,hS1⟩
 refine sQ 2 (yg (.bool false)) (rn (cq (cr ?_)))
 refine sQ 3 (yd (aD b) 0 0 K36 K0)<|sQ 4 (yl (aD b) 0 V0 (vi c.Qubits) K1 (hS1.c 0)) ?_
 obtain ⟨r_1,hc,hF⟩:=bI hF
 refine sc 5 rfl rfl (yC [vi c.Qubits,vi 1,vi 5] K50 (AV c.Qubits 1 5 _  (hS1.inn0 [] rfl) hc)) ?_
 rintro _ w_1 ⟨rfl,hd⟩
 have hS2:=hS1.out00 hd
 refine sQ 6 (ym (.bool r_1)) ?_
 refine sgq 7 (B:=r_1) (v:=pt (aD b) 1) rfl rfl (uT_ 6) (fun hg=>(yd (aD b) 0 0 K17 K11)) ?_
 refine sgq 8 (B:=r_1) rfl rfl (uT_ 6) (fun hg1=>(yl (aD b) 1 V0 (.slice B c.Gates.length c1) K18 (hS2.c 0) rfl (gv_of (v:=pt (aD b) 1) hg1))) ?_
 refine sgq 9 (B:=r_1) (v:=vi (c.Gates.length:Int)) rfl rfl (uT_ 6) (fun hg2=>(Y_len (B:=B) (m:=c.Gates.length) (c:=c1) K4 rfl (gv_of (v:=.slice B c.Gates.length c1) hg2))) ?_
 refine sgq 10 (B:=r_1) rfl rfl (uT_ 6) (fun hg3=>(Y_le (k:=.i64) (a:=(c.Gates.length:Int)) (b:=400) rfl (gv_of (v:=vi (c.Gates.length:Int)) hg3) rfl)) ?_
 refine sQ 11 (Y_and (b:=r_1) (z:=(decide ((c.Gates.length:Int)≤400))) rfl rfl rfl rfl)<|sQ 12 (ym (.bool (r_1&&(decide ((c.Gates.length:Int)≤400))))) ?_
 refine sgq 13 (B:=(r_1&&(decide ((c.Gates.length:Int)≤400)))) (v:=pt (aD b) 1) rfl rfl (uT_ 12) (fun hg4=>(yd (aD b) 0 0 K17 K11)) ?_
 refine sgq 14 (B:=(r_1&&(decide ((c.Gates.length:Int)≤400)))) rfl rfl (uT_ 12) (fun hg5=>(yl (aD b) 1 V0 (.slice B c.Gates.length c1) K18 (hS2.c 0) rfl (gv_of (v:=pt (aD b) 1) hg5))) ?_
 refine sgq 15 (B:=(r_1&&(decide ((c.Gates.length:Int)≤400)))) (v:=.func (.func 94) #[] #[pt (aD b) 0]) rfl rfl (uT_ 12) (fun hg6=>(Y_makeFunc (cs:=[pt (aD b) 0]) rfl rfl (mc rfl mn))) ?_
 obtain ⟨r_2,hc1,hF⟩:=bI hF
 refine sgc 16 (B:=(r_1&&(decide ((c.Gates.length:Int)≤400)))) (v:=.bool r_2) (F:=hS2.fn) rfl rfl (uT_ 12) hS2 (fun hg7=>(yC [.slice B c.Gates.length c1,.func (.func 94) #[] #[pt (aD b) 0]] I4 (CV.mono (IC c.Gates (fun x_0=>CB x_0 c) B c1 c.Gates.length 94 (#[pt (aD b) 0]) [⟨aD b,V0⟩,⟨B,(c.Gates.flatMap eN0)⟩] _ rfl Nz (fun w hw x_0 y_0 h_=>MR x_0 c (aD b) B c1 c.Gates.length w rfl hw h_) (hS2.inn0 [(true,0),(false,0),(true,0)] rfl) (gb_inv hc1 hg7)) (by rintro _ _ ⟨rfl,h⟩; exact ⟨rfl,hS2.out00 h⟩)) rfl (mc (gv_of (v:=.slice B c.Gates.length c1) hg7) (mc (gv_of (v:=.func (.func 94) #[] #[pt (aD b) 0]) hg7) mn)))) ?_
 rintro w_2 hS3
 refine sgq 17 (B:=(r_1&&(decide ((c.Gates.length:Int)≤400)))) (v:=.bool (!r_2)) rfl rfl (uT_ 12) (fun hg8=>(Y_not (p:=r_2) rfl (gv_of (v:=.bool r_2) hg8))) ?_
 refine sQ 18 (Y_and (b:=(r_1&&(decide ((c.Gates.length:Int)≤400)))) (z:=(!r_2)) rfl rfl rfl rfl)<|sQ 2 (yg (.bool ((r_1&&(decide ((c.Gates.length:Int)≤400)))&&(!r_2)))) (rn (ct_ ?_))
 obtain rfl:=sI hF
 exact ret1 Tryz.results45 (v1:=.bool ((r_1&&(decide ((c.Gates.length:Int)≤400)))&&(!r_2))) (resAt_tmp rfl) ⟨rfl,(hS3.sN [])⟩

theorem Cu (n:Int)  (w0:World)  (hS:ST w0 [] w0 [] []) {r_:Ad} (hF:Bu n=some r_) :
  CV Tryz.prog 46 #[vi n] w0 (fun v w'=>∃ (B:Option Addr) (c:Nat),v=.agg #[.slice B r_.Rows.length c]∧ST w0 [] w' [⟨B,3,(r_.Rows.flatMap encI),c*1⟩] []):=by
 unfold Bu at hF
 refine cv_of_cw 19 Tryz.func46 rfl Tryz.ntmps46 rfl ?_
 refine cq (cr ?_)
 refine sS 2 (yN [.slice none 0 0] 1 hS K22) ?_
 rintro _ w_ ⟨b,rfl,hS1⟩
 refine rn (cq (cr ?_))
 refine sQ 5 (Y_buildS (zs:=[.slice none 0 0]) (vs:=[]) (cs:=[.slice none 0 0]) K55 K22 rfl mpn rfl) ?_
 refine sS 3 (yN [.slice none 0 0] 1 hS1 K22) ?_
 rintro _ w_1 ⟨b1,rfl,hS2⟩
 refine s0 (yT 1 1 (aD b1) 26 (.agg #[.slice none 0 0]) [.slice none 0 0] 0 hS2 K6) ?_
 rintro _ w_2 ⟨rfl,hS3⟩
 refine rn (cq (cq (cr ?_)))
 refine sQ 6 (ym (vi n))<|sQ 7 (ym (vi 0)) (rn ?_)
 obtain ⟨hN,hF⟩:=chk_inv hF
 obtain ⟨z,hz,hF1⟩:=bI hF
 have hS5:=hS3.addNil 3
 refine cw_block ?_
 refine cw_loop (fun k f w=>∃ (i:Nat) (Rows:List Int) (B1:Option Addr) (c1:Nat),FF f [(2,pt (aD b) 0),(3,pt (aD b1) 0),(6,vi n),(7,vi (i:Int))]∧ST w0 [] w [⟨aD b,26,[.slice none 0 0],1⟩,⟨aD b1,26,[.slice B1 Rows.length c1],1⟩,⟨B1,3,(Rows.flatMap encI),c1*1⟩] []∧i+k=n.toNat∧forN GX k i Rows=some z) n.toNat ⟨0,[],none,0,(fc rfl (fc rfl (fc rfl (fc rfl fn_)))),(hS5.sel [0,1,2] rfl rfl),Nat.zero_add _,hz⟩ ?_
 rintro k_ f w ⟨i,Rows,B1,c1,hf,hS4,hik,hL⟩
 refine cq (cr ?_)
 refine sQ 8 (yL (i:Int) n rfl (hf.g 7 3) (hf.g 6 2)) (rn (cq ?_))
 refine cw_cond (b:=(decide ((i:Int)<n))) rfl (fun hlt=>?_) (fun hlt=>?_)
 ·skip
  have hlt1:i<n.toNat:=by have h:=of_decide_eq_true hlt; omega
  obtain ⟨K5,rfl⟩:∃ k2,k_=k2+1:=⟨k_-1,by omega⟩
  obtain ⟨y,hb,hL1⟩:=forN_go hL
  unfold GX at hb
  refine cw_skip (cq (cw_block (cq (cr ?_))))
  refine sQ 9 (ym (vi (i:Int)) rfl (hf.g 7 3))<|sQ 4 (yg (vi (i:Int))) (rn ?_)
  obtain ⟨hsh,hb⟩:=chk_inv hb
  obtain ⟨hap,hb⟩:=chk_inv hb
  refine cw_mid (fun f w=>∃ (B3:Option Addr) (c3:Nat),FF f [(2,pt (aD b) 0),(3,pt (aD b1) 0),(6,vi n),(7,vi (i:Int))]∧ST w0 [] w [⟨aD b,26,[.slice none 0 0],1⟩,⟨aD b1,26,[.slice B3 ((Rows++[(shlK .i64 1 (i:Int))]).length) c3],1⟩,⟨B3,3,((Rows++[(shlK .i64 1 (i:Int))]).flatMap encI),c3*1⟩] []) ?_ ?_
  ·skip
   refine ra_start (hS4.se [0]).fn (by kernel_rfl) ?_
   have hS7:=hS4.drew
   have hQ0:=hS7.se [0]
   refine rq 0 10 (v:=pt (aD b1) 0) rfl hQ0 (fun w' hw'=>(yd (aD b1) 0 0 K13 K8 rfl (hf.g 3 1)))<|rq 2 12 rfl hQ0 (fun w' hw'=>(ym (vi (i:Int))))<|rq 3 13 (v:=vi (shlK .i64 1 (i:Int))) rfl hQ0 (fun w' hw'=>(Y_shl (k:=.i64) (a:=1) (k':=.i64) (b:=(i:Int)) rfl rfl rfl hsh)) ?_
   refine rA [1,4] ?_
   refine ry 11 1 rfl (yl (aD b1) 0 [.slice B1 Rows.length c1] (.slice B1 Rows.length c1) K9 (hS7.c 1)) hQ0 ?_ ?_
   ·skip
    refine rA [4] ?_
    refine rS 14 4 rfl (Ys_bslice (s:=1) (len:=1) (vs:=[(0,vi (shlK .i64 1 (i:Int)))]) (cs:=[vi (shlK .i64 1 (i:Int))]) (zs:=[vi 0]) (m:=1) hS7 K2 K0 K24 rfl (mpc rfl mpn) rfl rfl rfl (by kernel_rfl) (by kernel_rfl) rfl) ?_ aN
    rintro _ w_3 ⟨b2,rfl,hS8⟩
    refine ⟨(hS8.se [0]),?_⟩
    refine rA [5] ?_
    refine rS 15 5 rfl (Ys_append (s:=1) (by':=8) (i:=2) (nn:=Rows.length) (c:=c1) (k:=1) (len:=(Rows++[(shlK .i64 1 (i:Int))]).length) (B:=B1) (xs:=([(shlK .i64 1 (i:Int))].flatMap encI)) (cs':=((Rows++[(shlK .i64 1 (i:Int))]).flatMap encI)) hS8 K2 K0 K31 K28 rfl (by decide) rfl rfl rfl rfl (fm_lenn (l:=Rows) encI_len rfl) rfl (hS8.c 3) (fm_lenn (l:=[(shlK .i64 1 (i:Int))]) encI_len rfl) (fm_one' (enc:=encI) encI_one [(shlK .i64 1 (i:Int))]) (by have:=hap; omega) (by have:=hap; simp only [maxLen]; omega) (fm_app _ _) (app_len (l:=Rows) (l':=[(shlK .i64 1 (i:Int))]) rfl rfl)) ?_ aN
    rintro _ w_4 ⟨B2,c2,rfl,hS9⟩
    refine ⟨(hS9.se [0]),?_⟩
    refine rq 6 16 (v:=pt (aD b1) 0) rfl (hS9.se [0]) (fun w' hw'=>(yd (aD b1) 0 0 K13 K8 rfl (hf.g 3 1))) ?_
    refine rA [7] ?_
    refine rZ 7 rfl (yT 1 1 (aD b1) 26 (.slice B2 ((Rows++[(shlK .i64 1 (i:Int))]).length) c2) [.slice B2 ((Rows++[(shlK .i64 1 (i:Int))]).length) c2] 0 hS9 K8) ?_ aN
    rintro _ w_5 ⟨rfl,hS10⟩
    refine ⟨(hS10.se [0]),?_⟩
    refine ra_done (by kernel_rfl) ?_
    exact ⟨B2,c2,(hf.a 2 0 (hf.a 3 1 (hf.a 6 2 (hf.a 7 3 fn_)))),(hS10.sel [0,1,2] rfl rfl)⟩
   refine rS 14 4 rfl (Ys_bslice (s:=1) (len:=1) (vs:=[(0,vi (shlK .i64 1 (i:Int)))]) (cs:=[vi (shlK .i64 1 (i:Int))]) (zs:=[vi 0]) (m:=1) hS7 K2 K0 K24 rfl (mpc rfl mpn) rfl rfl rfl (by kernel_rfl) (by kernel_rfl) rfl) ?_ aN
   rintro _ w_6 ⟨b2,rfl,hS11⟩
   refine ⟨(hS11.se [0]),?_⟩
   refine r1 11 1 rfl (yl (aD b1) 0 [.slice B1 Rows.length c1] (.slice B1 Rows.length c1) K9 (hS11.c 1)) (hS11.se [0]) ?_
   refine rA [5] ?_
   refine rS 15 5 rfl (Ys_append (s:=1) (by':=8) (i:=2) (nn:=Rows.length) (c:=c1) (k:=1) (len:=(Rows++[(shlK .i64 1 (i:Int))]).length) (B:=B1) (xs:=([(shlK .i64 1 (i:Int))].flatMap encI)) (cs':=((Rows++[(shlK .i64 1 (i:Int))]).flatMap encI)) hS11 K2 K0 K31 K28 rfl (by decide) rfl rfl rfl rfl (fm_lenn (l:=Rows) encI_len rfl) rfl (hS11.c 3) (fm_lenn (l:=[(shlK .i64 1 (i:Int))]) encI_len rfl) (fm_one' (enc:=encI) encI_one [(shlK .i64 1 (i:Int))]) (by have:=hap; omega) (by have:=hap; simp only [maxLen]; omega) (fm_app _ _) (app_len (l:=Rows) (l':=[(shlK .i64 1 (i:Int))]) rfl rfl)) ?_ aN
   rintro _ w_7 ⟨B2,c2,rfl,hS12⟩
   refine ⟨(hS12.se [0]),?_⟩
   refine rq 6 16 (v:=pt (aD b1) 0) rfl (hS12.se [0]) (fun w' hw'=>(yd (aD b1) 0 0 K13 K8 rfl (hf.g 3 1))) ?_
   refine rA [7] ?_
   refine rZ 7 rfl (yT 1 1 (aD b1) 26 (.slice B2 ((Rows++[(shlK .i64 1 (i:Int))]).length) c2) [.slice B2 ((Rows++[(shlK .i64 1 (i:Int))]).length) c2] 0 hS12 K8) ?_ aN
   rintro _ w_8 ⟨rfl,hS13⟩
   refine ⟨(hS13.se [0]),?_⟩
   refine ra_done (by kernel_rfl) ?_
   exact ⟨B2,c2,(hf.a 2 0 (hf.a 3 1 (hf.a 6 2 (hf.a 7 3 fn_)))),(hS13.sel [0,1,2] rfl rfl)⟩
  rintro f w ⟨B3,c3,hf1,hS6⟩
  refine cr ?_
  refine sQ 17 (yP (i:Int) 1 rfl (hf1.g 7 3))<|sQ 7 (ym (vi (i64.wrap ((i:Int)+1)))) (rn ?_)
  obtain rfl:=sI hb
  exact ⟨K5,Nat.lt_succ_self _,i+1,(Rows++[(shlK .i64 1 (i:Int))]),B3,c3,(hf1.a 2 0 (hf1.a 3 1 (hf1.a 6 2 (fc (congrArg (Value.int .i64) (wr_succ hlt1 hN)) fn_)))),(hS6.sel [0,1,2] rfl rfl),(by omega),hL1⟩
 ·skip
  obtain rfl:k_=0:=by have h:=of_decide_eq_false hlt; omega
  refine cw_exit rfl ?_
  obtain rfl:=sI hL
  refine cq (cr ?_)
  let V0:List Value:=[.slice B1 Rows.length c1]
  refine sQ 18 (yb (aD b1) 0 V0 K16 K6 (hS4.c 1) rfl (hf.g 3 1)) ?_
  refine s0 (yT 0 1 (aD b) 26 (.agg V0.toArray) V0 0 hS4 K6 rfl (hf.g 2 0)) ?_
  rintro _ w_9 ⟨rfl,hS14⟩
  refine rn (ct_ ?_)
  obtain rfl:=sI hF1
  exact ret1 Tryz.results46 (v1:=.agg V0.toArray) (resAt_cellA (B:=aD b) (i:=0) (cs:=V0) (vs:=V0) (hf.g 2 0) K16 K6 (hS14.c 0) rfl rfl) ⟨B1,c1,rfl,(hS14.sN [2])⟩

theorem N0 (m:Ad) (a:Int) (b:Int) (B:Option Addr) (c n:Nat) (w0:World) (hn:m.Rows.length=n) (hS:ST w0 [] w0 [] [⟨B,(m.Rows.flatMap encI)⟩]) {r_:Ad} (hF:E3 m a b=some r_) :
  CV Tryz.prog 63 #[.agg #[.slice B n c],vi a,vi b] w0 (fun v w'=>∃ (B1:Option Addr) (c1:Nat),v=.agg #[.slice B1 r_.Rows.length c1]∧ST w0 [] w' [⟨B1,3,(r_.Rows.flatMap encI),c1*1⟩] []):=by
 subst hn
 unfold E3 at hF
 refine cv_of_cw 23 Tryz.func63 rfl Tryz.ntmps63 rfl ?_
 refine cq (cr ?_)
 let V1:List Value:=[.slice B m.Rows.length c]
 refine sS 3 (yB 26 (.agg V1.toArray) V1 1 hS) ?_
 rintro _ w_ ⟨b1,rfl,hS1⟩
 refine sS 6 (yN [.slice none 0 0] 1 hS1 K22) ?_
 rintro _ w_1 ⟨b2,rfl,hS2⟩
 refine rn (cq (cr ?_))
 refine sQ 8 (yd (aD b1) 0 0 K13 K8)<|sQ 9 (yl (aD b1) 0 V1 (.slice B m.Rows.length c) K9 (hS2.c 0)) ?_
 obtain ⟨r_1,hc,hF⟩:=bI hF
 refine sc 10 rfl rfl (yC V1 K82 (F6 m.Rows B c m.Rows.length _ rfl (hS2.inn0 [(true,0)] rfl) hc)) ?_
 rintro _ w_2 ⟨B2,c2,rfl,hd⟩
 have hS3:=hS2.out0 hd
 refine sQ 7 (yg (.slice B2 r_1.length c2)) (rn (cq ?_))
 obtain ⟨x,hx,hF⟩:=bI hF
 obtain ⟨x1,hx1,hF⟩:=bI hF
 refine ra_start (hS3.se [0,1]).fn (by kernel_rfl) ?_
 have hS4:=hS3.drew
 have hQ0:=hS4.se [0,1]
 refine rq 0 11 rfl hQ0 (fun w' hw'=>(ym (.slice B2 r_1.length c2)))<|rq 1 12 rfl hQ0 (fun w' hw'=>(ym (vi b)))<|rq 2 13 (v:=pt B2 (b.toNat*1)) rfl hQ0 (fun w' hw'=>(yI B2 b K2 K0 (gi_isSome encI_len rfl (hS4.c 2) hx) (getI_nn hx) (getI_ltI hx rfl)))<|rq 4 15 rfl hQ0 (fun w' hw'=>(ym (.slice B2 r_1.length c2)))<|rq 5 16 rfl hQ0 (fun w' hw'=>(ym (vi a))) ?_
 refine rq 6 17 (v:=pt B2 (a.toNat*1)) rfl hQ0 (fun w' hw'=>(yI B2 a K2 K0 (gi_isSome encI_len rfl (hS4.c 2) hx1) (getI_nn hx1) (getI_ltI hx1 rfl)))<|ra_now 3 14 [8,9,10] rfl hQ0 (yl B2 (b.toNat*1) (r_1.flatMap encI) (vi x) K1 (hS4.c 2) rfl rfl (gi_at0 encI_len hx rfl))<|r1 18 7 rfl (yl B2 (a.toNat*1) (r_1.flatMap encI) (vi x1) K1 (hS4.c 2) rfl rfl (gi_at0 encI_len hx1 rfl)) hQ0<|rq 8 19 (v:=vi (bits .xor .i64 x x1)) rfl hQ0 (fun w' hw'=>(Y_bxor (k:=.i64) (a:=x) (b:=x1) rfl rfl rfl))<|rq 9 20 (v:=pt B2 (b.toNat*1)) rfl hQ0 (fun w' hw'=>(yI B2 b K2 K0 (gi_isSome encI_len rfl (hS4.c 2) hx) (getI_nn hx) (getI_ltI hx rfl))) ?_
 refine rA [10] ?_
 refine rZ 10 rfl (yS 2 1 B2 3 (vi (bits .xor .i64 x x1)) [vi (bits .xor .i64 x x1)] (b.toNat*1) ((r_1.set b.toNat (bits .xor .i64 x x1)).flatMap encI) hS4 K0 rfl rfl rfl rfl rfl rfl rfl (gi_fit0 encI_len hx) (gi_set encI_len hx (bits .xor .i64 x x1) rfl)) ?_ aN
 rintro _ w_3 ⟨rfl,hS5⟩
 refine ⟨(hS5.se [0,1]),?_⟩
 refine ra_done (by kernel_rfl) ?_
 refine cq (cr ?_)
 let V0:List Value:=[.slice B2 r_1.length c2]
 refine sQ 21 (ym (.slice B2 r_1.length c2))<|sQ 22 (Y_buildS (zs:=[.slice none 0 0]) (vs:=[(0,.slice B2 r_1.length c2)]) (cs:=V0) K55 K22 rfl (mpc rfl mpn) rfl) ?_
 refine s0 (yT 1 1 (aD b2) 26 (.agg V0.toArray) V0 0 hS5 K6) ?_
 rintro _ w_4 ⟨rfl,hS6⟩
 refine rn (ct_ ?_)
 obtain rfl:=sI hF
 exact ret1 Tryz.results63 (v1:=.agg V0.toArray) (resAt_cellA (B:=aD b2) (i:=0) (cs:=V0) (vs:=V0) rfl K16 K6 (hS6.c 1) rfl rfl) ⟨B2,c2,(by simp +zetaDelta [(set_len _ _ _ rfl)]),(hS6.sN [2])⟩
end Go.VK
