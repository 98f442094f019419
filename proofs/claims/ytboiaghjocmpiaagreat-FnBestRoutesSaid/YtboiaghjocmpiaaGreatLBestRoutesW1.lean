/- Walks: each Go function returns what its Lean function says. By program. -/
import Derived.Test.YtboiaghjocmpiaaGreatLBestRoutesFa
import Derived.Test.YtboiaghjocmpiaaGreatLBestRoutesShelf
import Derived.Test.YtboiaghjocmpiaaGreatLibQ
import Derived.Test.YtboiaghjocmpiaaGreatLibU
import Derived.Test.YtboiaghjocmpiaaGreatLibX
import Derived.Test.YtboiaghjocmpiaaGreatLibZ
import Derived.Test.YtboiaghjocmpiaaGreatLibY
import Derived.Test.YtboiaghjocmpiaaGreatLibW
set_option linter.unusedVariables false
set_option maxRecDepth 100000
set_option maxHeartbeats 4000000
namespace Go.VK
open Go.RowKit
open Go.Proofs
open Go.IntKind
attribute [local irreducible] CW RW RA CV Y Yw Yc Ys RetOf
attribute [local irreducible] Ea AD AF FI Cn Cb Ep Di Fh CY Ce E0 FJ FB DG Gg FG A2 G1 Ck Fq Du AX C7 EF BI BZ HD FE BG Bv Cs C4 BT CI Ho Hm EU EP FV DC Gz HH C2 Dz DP CU Hz Co CX F5
section
variable {w0 w:World} {M:List Nat} {L:List Ob} {R:List Ro}
theorem ST.sg (hS:ST w0 M w L R) (k:Nat) (is:List Nat) (hn:decide is.Nodup=true:=by exact rfl) (hb:is.all (fun i=>((L.take k)[i]?).isSome)=true:=by exact rfl):ST w0 M w ((is.filterMap fun i=>(L.take k)[i]?)++L.drop k) R:=ST.selG (pre:=L.take k) (G:=L.drop k) (by rw [List.take_append_drop]; exact hS) is hn hb
end
theorem Pb (c:Ag) (B:Option Addr) (B1:Option Addr) (c1 n:Nat) (w0:World) (hn:c.code.length=n) (hS:ST w0 (bl [⟨B,68,[.slice B1 n c1,vi c.at_,.int .u64 c.seed],3⟩]) w0 [⟨B,68,[.slice B1 n c1,vi c.at_,.int .u64 c.seed],3⟩] [⟨B1,(c.code.flatMap enc_u8)⟩]) {r_:Int} {m:Ag} (hF:Ea c=some (r_,m)) :
  CV Tryz.prog 92 #[pt B 0] w0 (fun v w'=>v=vi r_∧ST w0 (bl [⟨B,68,[.slice B1 n c1,vi c.at_,.int .u64 c.seed],3⟩]) w' [⟨B,68,[.slice B1 n c1,vi m.at_,.int .u64 m.seed],3⟩] []):=by
 subst hn
 unfold Ea at hF
 refine cv_of_cw 62 Tryz.func92 rfl Tryz.ntmps92 rfl ?_
 refine cq (cr ?_)
 refine sQ 2 yu (rn (cq (cr ?_)))
 refine sQ 3 yu (rn (cq ?_))
 obtain ⟨z,hz,hF1⟩:=bI hF
 let O0:Ob:=⟨B,68,[.slice B1 c.code.length c1,vi c.at_,.int .u64 c.seed],3⟩
 refine cw_mid (fun f w=>∃ (b:Int),b=z∧FF f [(0,pt B 0),(3,vi b)]∧ST w0 (bl [O0]) w [O0] [⟨B1,(c.code.flatMap enc_u8)⟩]) ?_ ?_
 ·skip
  refine cq ?_
  refine ra_start (hS.se [0]).fn (by kernel_rfl) ?_
  have hS2:=hS.drew
  have hQ0:=hS2.se [0]
  refine rq 0 4 rfl hQ0 (fun _ q=>yv)<|rq 1 5 rfl hQ0 (fun _ q=>(Y_nilCheck (B:=B) (i:=0) rfl rfl))<|rq 2 6 rfl hQ0 (fun _ q=>(yd B 0 0 Hp K0))<|rq 3 7 rfl hQ0 (fun _ q=>(yz 1 K1 (ST.c q 0)))<|rq 4 8 rfl hQ0 (fun _ q=>yv) ?_
  refine rq 5 9 rfl hQ0 (fun _ q=>(Y_nilCheck (B:=B) (i:=0) rfl rfl))<|rq 6 10 rfl hQ0 (fun _ q=>(yd B 0 0 KD Ln))<|rq 7 11 rfl hQ0 (fun _ q=>(yz 0 HL (ST.c q 0)))<|rq 8 12 rfl hQ0 (fun _ q=>(Y_len EL rfl rfl))<|rq 9 13 rfl hQ0 (fun _ q=>zL) ?_
  refine ra_done (by kernel_rfl) ?_
  refine cw_cond rfl (fun hb=>?_) (fun hb=>?_)
  ·skip
   have hF2:=ct hz hb
   obtain ⟨x,hx,hF2⟩:=bI hF2
   refine ra_start hQ0.fn (by kernel_rfl) ?_
   have hS3:=hS2.drew
   have hQ1:=hS3.se [0]
   refine rq 0 14 rfl hQ1 (fun _ q=>yv)<|rq 1 15 rfl hQ1 (fun _ q=>(Y_nilCheck (B:=B) (i:=0) rfl rfl))<|rq 2 16 rfl hQ1 (fun _ q=>(yd B 0 0 KD Ln))<|rq 3 17 rfl hQ1 (fun _ q=>(yz 0 HL (ST.c q 0)))<|rq 4 18 rfl hQ1 (fun _ q=>yv) ?_
   refine rq 5 19 rfl hQ1 (fun _ q=>(Y_nilCheck (B:=B) (i:=0) rfl rfl))<|rq 6 20 rfl hQ1 (fun _ q=>(yd B 0 0 Hp K0))<|rq 7 21 rfl hQ1 (fun _ q=>(yz 1 K1 (ST.c q 0)))<|rq 8 22 rfl hQ1 (fun _ q=>(yI B1 c.at_ EL Kr (gi_isSome enc_u8_len rfl (ST.rf q (i:=0) rfl) hx) (getI_nn hx) (getI_ltI hx rfl)))<|rq 9 23 rfl hQ1 (fun _ q=>(yz (c.at_.toNat*1) SK (ST.rf q (i:=0) rfl) rfl rfl (gi_at0 enc_u8_len hx rfl))) ?_
   refine rq 10 24 rfl hQ1 (fun _ q=>(Y_conv (k:=.u8) (a:=x) (T:=5) (T':=3) Wv K29 rfl rfl))<|rq 11 3 rfl hQ1 (fun _ q=>yu) ?_
   refine ra_done (by kernel_rfl) ?_
   exact ⟨(i64.wrap x),(sI hF2),(fc rfl (fc rfl fn_)),(hS3.sel [0] rfl rfl)⟩
  ·skip
   have hF3:=cf' hz hb
   refine cw_skip ?_
   exact ⟨0,(sI hF3),(fc rfl (fc rfl fn_)),(hS2.sel [0] rfl rfl)⟩
 rintro f w ⟨b,rfl,hf,hS1⟩
 refine cq (cr ?_)
 refine sQ 25 (yv rfl (hf.g 0 0))<|sQ 26 (Y_nilCheck (B:=B) (i:=0) rfl rfl)<|sQ 27 (yd B 0 0 Hp K0)<|sQ 28 (yz 1 K1 (hS1.c 0))<|sQ 29 zP<|sQ 30 (Y_nilCheck (B:=B) (i:=0) rfl rfl) ?_
 refine sQ 31 (yd B 0 0 Hp K0) ?_
 refine s0 (yS 0 1 B 68 (vi (i64.wrap (c.at_+1))) [vi (i64.wrap (c.at_+1))] 1 [.slice B1 c.code.length c1,vi (i64.wrap (c.at_+1)),.int .u64 c.seed] hS1 K0) ?_
 rintro _ w_ ⟨rfl,hS4⟩
 refine rn (cq (cr ?_))
 refine sQ 32 (yv rfl (hf.g 0 0))<|sQ 33 (yv rfl (hf.g 0 0))<|sQ 34 (Y_nilCheck (B:=B) (i:=0) rfl rfl)<|sQ 35 (yd B 0 0 Ke Es)<|sQ 36 (yz 2 Ha (hS4.c 0))<|sQ 37 (Y_mul (k:=.u64) (a:=c.seed) (b:=6364136223846793005) rfl rfl rfl) ?_
 refine sQ 38 (yv rfl (hf.g 3 1))<|sQ 39 (Y_conv (k:=.i64) (a:=b) (T:=3) (T':=66) Kx JH rfl rfl)<|sQ 40 (Y_add (k:=.u64) (a:=(IntKind.u64.wrap (c.seed*6364136223846793005))) (b:=(IntKind.u64.wrap b)) rfl rfl rfl)<|sQ 41 (Y_add (k:=.u64) (a:=(IntKind.u64.wrap ((IntKind.u64.wrap (c.seed*6364136223846793005))+(IntKind.u64.wrap b)))) (b:=1442695040888963407) rfl rfl rfl)<|sQ 42 (Y_nilCheck (B:=B) (i:=0) rfl rfl)<|sQ 43 (yd B 0 0 Ke Es) ?_
 refine s0 (yS 0 1 B 68 (.int .u64 (IntKind.u64.wrap ((IntKind.u64.wrap ((IntKind.u64.wrap (c.seed*6364136223846793005))+(IntKind.u64.wrap b)))+1442695040888963407))) [.int .u64 (IntKind.u64.wrap ((IntKind.u64.wrap ((IntKind.u64.wrap (c.seed*6364136223846793005))+(IntKind.u64.wrap b)))+1442695040888963407))] 2 [.slice B1 c.code.length c1,vi (i64.wrap (c.at_+1)),.int .u64 (IntKind.u64.wrap ((IntKind.u64.wrap ((IntKind.u64.wrap (c.seed*6364136223846793005))+(IntKind.u64.wrap b)))+1442695040888963407))] hS4 Es) ?_
 rintro _ w_1 ⟨rfl,hS5⟩
 refine rn (cq (cq ?_))
 refine ra_start (hS5.se [0]).fn (by kernel_rfl) ?_
 have hS6:=hS5.drew
 have hQ2:=hS6.se [0]
 refine rq 0 44 rfl hQ2 (fun _ q=>(yv rfl (hf.g 0 0)))<|rq 1 45 rfl hQ2 (fun _ q=>(Y_nilCheck (B:=B) (i:=0) rfl rfl))<|rq 2 46 rfl hQ2 (fun _ q=>(yd B 0 0 Hp K0))<|rq 3 47 rfl hQ2 (fun _ q=>(yz 1 K1 (ST.c q 0)))<|rq 4 48 rfl hQ2 (fun _ q=>(yv rfl (hf.g 0 0))) ?_
 refine rq 5 49 rfl hQ2 (fun _ q=>(Y_nilCheck (B:=B) (i:=0) rfl rfl))<|rq 6 50 rfl hQ2 (fun _ q=>(yd B 0 0 KD Ln))<|rq 7 51 rfl hQ2 (fun _ q=>(yz 0 HL (ST.c q 0)))<|rq 8 52 rfl hQ2 (fun _ q=>(Y_len EL rfl rfl))<|rq 9 53 rfl hQ2 (fun _ q=>(Y_le rfl rfl rfl)) ?_
 refine ra_done (by kernel_rfl) ?_
 refine cw_cond rfl (fun hb1=>?_) (fun hb1=>?_)
 ·skip
  have hF4:=ct hF1 hb1
  refine cq (cr ?_)
  refine sQ 54 (yv rfl (hf.g 3 1))<|sQ 2 yu (rn (ct_ ?_))
  obtain ⟨rfl,rfl⟩:=pr2 (sI hF4)
  exact e1 Tryz.results92 (hS6.sN [0])
 ·skip
  have hF5:=cf' hF1 hb1
  refine cw_skip (cq (cr ?_))
  refine sQ 55 (yv rfl (hf.g 0 0))<|sQ 56 (Y_nilCheck (B:=B) (i:=0) rfl rfl)<|sQ 57 (yd B 0 0 Ke Es)<|sQ 58 (yz 2 Ha (hS6.c 0))<|sQ 59 (Y_shr (k:=.u64) (a:=(IntKind.u64.wrap ((IntKind.u64.wrap ((IntKind.u64.wrap (c.seed*6364136223846793005))+(IntKind.u64.wrap b)))+1442695040888963407))) (k':=.u64) (b:=40) rfl rfl rfl (by decide))<|sQ 60 (Y_band (k:=.u64) (a:=(shrK .u64 (IntKind.u64.wrap ((IntKind.u64.wrap ((IntKind.u64.wrap (c.seed*6364136223846793005))+(IntKind.u64.wrap b)))+1442695040888963407)) 40)) (b:=255) rfl rfl rfl) ?_
  refine sQ 61 (Y_conv (k:=.u64) (a:=(bits .and .u64 (shrK .u64 (IntKind.u64.wrap ((IntKind.u64.wrap ((IntKind.u64.wrap (c.seed*6364136223846793005))+(IntKind.u64.wrap b)))+1442695040888963407)) 40) 255)) (T:=66) (T':=3) S0 K29 rfl rfl)<|sQ 2 yu (rn (ct_ ?_))
  obtain ⟨rfl,rfl⟩:=pr2 (sI hF5)
  exact e1 Tryz.results92 (hS6.sN [0])

theorem A8 (c:Ag) (n1:Int) (B:Option Addr) (B1:Option Addr) (c1 n:Nat) (w0:World) (hn:c.code.length=n) (hS:ST w0 (bl [⟨B,68,[.slice B1 n c1,vi c.at_,.int .u64 c.seed],3⟩]) w0 [⟨B,68,[.slice B1 n c1,vi c.at_,.int .u64 c.seed],3⟩] [⟨B1,(c.code.flatMap enc_u8)⟩]) {r_:Int} {m:Ag} (hF:AD c n1=some (r_,m)) :
  CV Tryz.prog 59 #[pt B 0,vi n1] w0 (fun v w'=>v=vi r_∧ST w0 (bl [⟨B,68,[.slice B1 n c1,vi c.at_,.int .u64 c.seed],3⟩]) w' [⟨B,68,[.slice B1 n c1,vi m.at_,.int .u64 m.seed],3⟩] []):=by
 subst hn
 unfold AD at hF
 refine cv_of_cw 20 Tryz.func59 rfl Tryz.ntmps59 rfl ?_
 refine cq (cr ?_)
 refine sQ 4 yu (rn (cq (cq (cr ?_))))
 refine sQ 6 yv<|sQ 7 (Y_le rfl rfl rfl) (rn ?_)
 refine cw_cond rfl (fun hb=>?_) (fun hb=>?_)
 ·skip
  have hF1:=ct hF hb
  refine cq (cr ?_)
  refine sQ 4 yu (rn (ct_ ?_))
  obtain ⟨rfl,rfl⟩:=pr2 (sI hF1)
  exact e1 Tryz.results59 (hS.sN [0])
 ·skip
  have hF2:=cf' hF hb
  refine cw_skip (cq (cr ?_))
  refine sQ 8 yv ?_
  obtain ⟨⟨r_1,m1⟩,hc,hF2⟩:=bI hF2
  refine sc 9 rfl rfl (yc MO (Pb c B B1 c1 c.code.length _ rfl (hS.inn [true] rfl [(true,0)] rfl) hc)) ?_
  rintro _ w_ ⟨rfl,hd⟩
  have hS1:=hS.out [true] rfl hd
  refine sQ 5 yu (rn (cq ?_))
  obtain ⟨z,hz,hF3⟩:=bI hF2
  refine cw_mid (fun f w=>∃ (at_:Int) (seed:Int) (x:Int),(at_,seed,x)=z∧FF f [(1,vi n1),(5,vi x)]∧ST w0 (bl [⟨B,68,[.slice B1 c.code.length c1,vi c.at_,.int .u64 c.seed],3⟩]) w [⟨B,68,[.slice B1 c.code.length c1,vi at_,.int .u64 seed],3⟩] [⟨B1,(c.code.flatMap enc_u8)⟩]) ?_ ?_
  ·skip
   refine cq (cr ?_)
   refine sQ 10 yv<|sQ 11 (Y_gt rfl rfl rfl) (rn ?_)
   refine cw_cond rfl (fun hb1=>?_) (fun hb1=>?_)
   ·skip
    have hF4:=ct hz hb1
    refine cr ?_
    refine sQ 12 yv<|sQ 13 zX<|sQ 14 yv ?_
    obtain ⟨⟨r_2,m2⟩,hc1,hF4⟩:=bI hF4
    refine sc 15 rfl rfl (yc MO (Pb (Ag.mk c.code m1.at_ m1.seed) B B1 c1 c.code.length _ rfl (hS1.inn [true] rfl [(true,0)] rfl) hc1)) ?_
    rintro _ w_1 ⟨rfl,hd1⟩
    have hS3:=hS1.out [true] rfl hd1
    refine sQ 16 zP<|sQ 5 yu (rn ?_)
    exact ⟨m2.at_,m2.seed,(i64.wrap ((i64.wrap (r_1*256))+r_2)),(sI hF4),(fc rfl (fc rfl fn_)),(hS3.sel [0] rfl rfl)⟩
   ·skip
    have hF5:=cf' hz hb1
    refine cw_skip ?_
    exact ⟨m1.at_,m1.seed,r_1,(sI hF5),(fc rfl (fc rfl fn_)),(hS1.sel [0] rfl rfl)⟩
  rintro f w ⟨at_,seed,x,rfl,hf,hS2⟩
  refine cq (cr ?_)
  refine sQ 17 (yv rfl (hf.g 5 1))<|sQ 18 (yv rfl (hf.g 1 0)) ?_
  obtain ⟨hne,hF3⟩:=chk_inv hF3
  refine sQ 19 (Y_rem (k:=.i64) (a:=x) (b:=n1) rfl rfl rfl hne)<|sQ 4 yu (rn (ct_ ?_))
  obtain ⟨rfl,rfl⟩:=pr2 (sI hF3)
  exact e1 Tryz.results59 (hS2.sN [0])

theorem BO (n:Int) (lo:Int) (hi:Int)  (w0:World)  (hS:ST w0 [] w0 [] []) {r_:Bool} (hF:AF n lo hi=some r_) :
  CV Tryz.prog 76 #[vi n,vi lo,vi hi] w0 (fun v w'=>v=.bool r_∧ST w0 [] w' [] []):=by
 unfold AF at hF
 refine cv_of_cw 15 Tryz.func76 rfl Tryz.ntmps76 rfl ?_
 refine cq (cr ?_)
 refine sQ 6 yu (rn (cq (cr ?_)))
 refine sQ 7 yv<|sQ 8 yv<|sQ 9 (Y_ge rfl rfl rfl)<|sQ 10 yv ?_
 refine sgq 11 rfl rfl (uT_ 10) (fun hg=>yv) ?_
 refine sgq 12 rfl rfl (uT_ 10) (fun hg1=>yv) ?_
 refine sgq 13 rfl rfl (uT_ 10) (fun hg2=>(Y_le rfl (gv_of hg2) (gv_of hg2))) ?_
 refine sQ 14 yA<|sQ 6 yu (rn (ct_ ?_))
 obtain rfl:=sI hF
 exact e1 Tryz.results76 (hS.sN [])

theorem MD (c:Ag) (n1:Int) (kinds:List Int) (B:Option Addr) (B1:Option Addr) (c1 n:Nat) (B2:Option Addr) (c2 n2:Nat) (w0:World) (hn:c.code.length=n) (hn1:kinds.length=n2) (hS:ST w0 (bl [⟨B,68,[.slice B1 n c1,vi c.at_,.int .u64 c.seed],3⟩]) w0 [⟨B,68,[.slice B1 n c1,vi c.at_,.int .u64 c.seed],3⟩] [⟨B1,(c.code.flatMap enc_u8)⟩,⟨B2,(kinds.flatMap encI)⟩]) {r_:Ac} {m:Ag} (hF:FI c n1 kinds=some (r_,m)) :
  CV Tryz.prog 91 #[pt B 0,vi n1,.slice B2 n2 c2] w0 (fun v w'=>v=.agg #[vi r_.Kind,vi r_.A,vi r_.B]∧ST w0 (bl [⟨B,68,[.slice B1 n c1,vi c.at_,.int .u64 c.seed],3⟩]) w' [⟨B,68,[.slice B1 n c1,vi m.at_,.int .u64 m.seed],3⟩] []):=by
 subst hn
 subst hn1
 unfold FI at hF
 refine cv_of_cw 42 Tryz.func91 rfl Tryz.ntmps91 rfl ?_
 refine cq (cr ?_)
 refine sS 6 (yN [vi 0,vi 0,vi 0] 3 hS K28) ?_
 rintro _ w_ ⟨b,rfl,hS1⟩
 refine rn (cq (cr ?_))
 refine sQ 8 yv<|sQ 9 yv<|sQ 10 yv<|sQ 11 (Y_len K5 rfl rfl) ?_
 obtain ⟨⟨r_1,m1⟩,hc,hF⟩:=bI hF
 refine sc 12 rfl rfl (yc K30 (A8 c (kinds.length:Int) B B1 c1 c.code.length _ rfl (hS1.inn [true,false] rfl [(true,0)] rfl) hc)) ?_
 rintro _ w_1 ⟨rfl,hd⟩
 have hS2:=hS1.out [true,false] rfl hd
 obtain ⟨x,hx,hF⟩:=bI hF
 refine sQ 13 (yI B2 r_1 K5 K0 (gi_isSome encI_len rfl (hS2.rf (i:=1) rfl) hx) (getI_nn hx) (getI_ltI hx rfl))<|sQ 14 (yz (r_1.toNat*1) K1 (hS2.rf (i:=1) rfl) rfl rfl (gi_at0 encI_len hx rfl))<|sQ 15 (Y_buildS (zs:=[vi 0,vi 0,vi 0]) (vs:=[(0,vi x)]) (cs:=[vi x,vi 0,vi 0]) K80 K28 rfl (mpc rfl mpn) rfl) ?_
 refine sS 7 (yN [vi 0,vi 0,vi 0] 3 hS2 K28) ?_
 rintro _ w_2 ⟨b1,rfl,hS3⟩
 refine s0 (yK 2 3 0 hS3 K7) ?_
 rintro _ w_3 ⟨rfl,hS4⟩
 refine rn (cq (cq (cr ?_)))
 refine sQ 16 (yd (aD b1) 0 0 K38 K0)<|sQ 17 (yz 0 K1 (hS4.c 2))<|sQ 18 zE (rn ?_)
 refine cw_cond rfl (fun hb=>?_) (fun hb=>?_)
 ·skip
  have hF1:=ct hF hb
  refine cq (cr ?_)
  refine sQ 19 (yw 0 K35 K7 (hS4.c 2)) ?_
  refine s0 (yK 0 3 0 hS4 K7) ?_
  rintro _ w_4 ⟨rfl,hS5⟩
  refine rn (ct_ ?_)
  obtain ⟨rfl,rfl⟩:=pr2 (sI hF1)
  exact ret1 Tryz.results91 (rX K35 K7 (hS5.c 0)) ⟨rfl,(hS5.sN [1])⟩
 ·skip
  have hF2:=cf' hF hb
  refine cw_skip (cq (cr ?_))
  refine sQ 20 yv<|sQ 21 yv ?_
  obtain ⟨⟨r_2,m2⟩,hc1,hF2⟩:=bI hF2
  refine sc 22 rfl rfl (yc K30 (A8 (Ag.mk c.code m1.at_ m1.seed) n1 B B1 c1 c.code.length _ rfl (hS4.inn [false,true,false] rfl [(true,0)] rfl) hc1)) ?_
  rintro _ w_5 ⟨rfl,hd1⟩
  have hS6:=hS4.out [false,true,false] rfl hd1
  refine sQ 23 (yd (aD b1) 0 0 K39 K0) ?_
  refine s0 (yS 1 1 (aD b1) 73 (vi r_2) [vi r_2] 1 [vi x,vi r_2,vi 0] hS6 K0) ?_
  rintro _ w_6 ⟨rfl,hS7⟩
  refine rn (cq ?_)
  obtain ⟨z,hz,hF3⟩:=bI hF2
  let O0:Ob:=⟨B,68,[.slice B1 c.code.length c1,vi c.at_,.int .u64 c.seed],3⟩
  refine cw_mid (fun f w=>∃ (at_:Int) (seed:Int) (B3:Int),.inl (at_,seed,B3)=z∧FF f [(6,pt (aD b) 0),(7,pt (aD b1) 0)]∧ST w0 (bl [O0]) w [⟨B,68,[.slice B1 c.code.length c1,vi at_,.int .u64 seed],3⟩,⟨aD b,73,[vi 0,vi 0,vi 0],3⟩,⟨aD b1,73,[vi x,vi r_2,vi B3],3⟩] [⟨B1,(c.code.flatMap enc_u8)⟩,⟨B2,(kinds.flatMap encI)⟩]) ?_ ?_
  ·skip
   refine cq (cr ?_)
   refine sQ 24 (yd (aD b1) 0 0 K38 K0)<|sQ 25 (yz 0 K1 (hS7.c 1)) ?_
   obtain ⟨r_3,hc2,hz⟩:=bI hz
   refine sc 26 rfl rfl (yc K68 (BO x 9 11 _  (hS7.inn0 [] rfl) hc2)) ?_
   rintro _ w_7 ⟨rfl,hd2⟩
   have hS9:=hS7.out00 hd2
   refine rn ?_
   refine cw_cond rfl (fun hb1=>?_) (fun hb1=>?_)
   ·skip
    have hF4:=ct hz hb1
    refine cq (cq (cr ?_))
    refine sQ 27 yv<|sQ 28 zE (rn ?_)
    refine cw_cond rfl (fun hb2=>?_) (fun hb2=>?_)
    ·skip
     have hF5:=ct hF4 hb2
     refine cq (cr ?_)
     refine sQ 29 (Y_buildS (zs:=[vi 0,vi 0,vi 0]) (vs:=[(0,vi 1)]) (cs:=[vi 1,vi 0,vi 0]) K80 K28 rfl (mpc rfl mpn) rfl) ?_
     refine s0 (yK 0 3 0 hS9 K7) ?_
     rintro _ w_8 ⟨rfl,hS10⟩
     refine rn (ct_ ?_)
     obtain rfl:=sI hF5
     obtain ⟨rfl,rfl⟩:=pr2 (sI hF3)
     exact ret1 Tryz.results91 (rX K35 K7 (hS10.c 0)) ⟨rfl,(hS10.sN [2])⟩
    ·skip
     have hF6:=cf' hF4 hb2
     refine cw_skip ?_
     obtain ⟨⟨r_4,m3⟩,hc3,hF6⟩:=bI hF6
     obtain ⟨hne,hF6⟩:=chk_inv hF6
     let V1:List Value:=[vi x,vi r_2,vi (Int.tmod (i64.wrap ((i64.wrap (r_2+1))+r_4)) n1)]
     refine cw_mid (fun f w=>FF f [(6,pt (aD b) 0),(7,pt (aD b1) 0)]∧ST w0 (bl [O0]) w [⟨B,68,[.slice B1 c.code.length c1,vi m3.at_,.int .u64 m3.seed],3⟩,⟨aD b,73,[vi 0,vi 0,vi 0],3⟩,⟨aD b1,73,V1,3⟩] [⟨B1,(c.code.flatMap enc_u8)⟩,⟨B2,(kinds.flatMap encI)⟩]) ?_ ?_
     ·skip
      refine ra_start (hS9.se [0]).fn (by kernel_rfl) ?_
      have hS13:=hS9.drew
      have hQ0:=hS13.se [0]
      refine rq 0 30 rfl hQ0 (fun _ q=>(yd (aD b1) 0 0 K39 K0))<|rq 3 33 rfl hQ0 (fun _ q=>yv)<|rq 4 34 rfl hQ0 (fun _ q=>yv)<|rq 5 35 rfl hQ0 (fun _ q=>zM)<|rq 8 38 rfl hQ0 (fun _ q=>yv) ?_
      refine rA [1,6] ?_
      refine ry 31 1 rfl (yz 1 K1 (hS13.c 1)) hQ0 ?_ ?_
      ·skip
       refine rq 2 32 rfl hQ0 (fun _ q=>zP) ?_
       refine rA [6] ?_
       refine rC 36 6 rfl (yc K30 (A8 (Ag.mk c.code m2.at_ m2.seed) (i64.wrap (n1-1)) B B1 c1 c.code.length _ rfl (hS13.inn [false,false,true] rfl [(true,0)] rfl) hc3)) ?_ aN
       rintro _ w_9 ⟨rfl,hd3⟩
       have hS14:=hS13.out [false,false,true] rfl hd3
       have hQ1:=hS14.se [0]
       refine ⟨hQ1,?_⟩
       refine rq 7 37 rfl hQ1 (fun _ q=>zP)<|rq 9 39 rfl hQ1 (fun _ q=>(Y_rem (k:=.i64) (a:=(i64.wrap ((i64.wrap (r_2+1))+r_4))) (b:=n1) rfl rfl rfl hne))<|rq 10 40 rfl hQ1 (fun _ q=>(yd (aD b1) 0 0 K43 K0)) ?_
       refine rA [11] ?_
       refine rZ 11 rfl (yS 1 1 (aD b1) 73 (vi (Int.tmod (i64.wrap ((i64.wrap (r_2+1))+r_4)) n1)) [vi (Int.tmod (i64.wrap ((i64.wrap (r_2+1))+r_4)) n1)] 2 V1 hS14 K0) ?_ aN
       rintro _ w_10 ⟨rfl,hS15⟩
       refine ⟨(hS15.se [0]),?_⟩
       refine ra_done (by kernel_rfl) ?_
       exact ⟨(fc rfl (fc rfl fn_)),(hS15.sel [2,0,1] rfl rfl)⟩
      refine rC 36 6 rfl (yc K30 (A8 (Ag.mk c.code m2.at_ m2.seed) (i64.wrap (n1-1)) B B1 c1 c.code.length _ rfl (hS13.inn [false,false,true] rfl [(true,0)] rfl) hc3)) ?_ aN
      rintro _ w_11 ⟨rfl,hd4⟩
      have hS16:=hS13.out [false,false,true] rfl hd4
      have hQ2:=hS16.se [0]
      refine ⟨hQ2,?_⟩
      refine r1 31 1 rfl (yz 1 K1 (hS16.c 1)) hQ2<|rq 2 32 rfl hQ2 (fun _ q=>zP)<|rq 7 37 rfl hQ2 (fun _ q=>zP)<|rq 9 39 rfl hQ2 (fun _ q=>(Y_rem (k:=.i64) (a:=(i64.wrap ((i64.wrap (r_2+1))+r_4))) (b:=n1) rfl rfl rfl hne))<|rq 10 40 rfl hQ2 (fun _ q=>(yd (aD b1) 0 0 K43 K0)) ?_
      refine rA [11] ?_
      refine rZ 11 rfl (yS 1 1 (aD b1) 73 (vi (Int.tmod (i64.wrap ((i64.wrap (r_2+1))+r_4)) n1)) [vi (Int.tmod (i64.wrap ((i64.wrap (r_2+1))+r_4)) n1)] 2 V1 hS16 K0) ?_ aN
      rintro _ w_12 ⟨rfl,hS17⟩
      refine ⟨(hS17.se [0]),?_⟩
      refine ra_done (by kernel_rfl) ?_
      exact ⟨(fc rfl (fc rfl fn_)),(hS17.sel [2,0,1] rfl rfl)⟩
     rintro f w ⟨hf1,hS12⟩
     exact ⟨m3.at_,m3.seed,(Int.tmod (i64.wrap ((i64.wrap (r_2+1))+r_4)) n1),(sI hF6),(hf1.a 6 0 (hf1.a 7 1 fn_)),(hS12.sel [0,1,2] rfl rfl)⟩
   ·skip
    have hF7:=cf' hz hb1
    refine cw_skip ?_
    exact ⟨m2.at_,m2.seed,0,(sI hF7),(fc rfl (fc rfl fn_)),(hS9.sel [2,0,1] rfl rfl)⟩
  rintro f w ⟨at_,seed,B3,rfl,hf,hS8⟩
  refine cq (cr ?_)
  refine sQ 41 (yw 0 K35 K7 (hS8.c 2) rfl (hf.g 7 1)) ?_
  refine s0 (yK 1 3 0 hS8 K7 rfl (hf.g 6 0)) ?_
  rintro _ w_13 ⟨rfl,hS18⟩
  refine rn (ct_ ?_)
  obtain ⟨rfl,rfl⟩:=pr2 (sI hF3)
  exact ret1 Tryz.results91 (rX K35 K7 (hS18.c 1) (hf.g 6 0)) ⟨rfl,(hS18.sN [0])⟩

theorem JM (c:Ag) (n1:Int) (most:Int) (kinds:List Int) (B:Option Addr) (B1:Option Addr) (c1 n:Nat) (B2:Option Addr) (c2 n2:Nat) (w0:World) (hn:c.code.length=n) (hn1:kinds.length=n2) (hS:ST w0 (bl [⟨B,68,[.slice B1 n c1,vi c.at_,.int .u64 c.seed],3⟩]) w0 [⟨B,68,[.slice B1 n c1,vi c.at_,.int .u64 c.seed],3⟩] [⟨B1,(c.code.flatMap enc_u8)⟩,⟨B2,(kinds.flatMap encI)⟩]) {r_:Ad} {m:Ag} (hF:Cn c n1 most kinds=some (r_,m)) :
  CV Tryz.prog 58 #[pt B 0,vi n1,vi most,.slice B2 n2 c2] w0 (fun v w'=>∃ (B3:Option Addr) (c3:Nat),v=.agg #[vi r_.Qubits,.slice B3 r_.Gates.length c3]∧ST w0 (bl [⟨B,68,[.slice B1 n c1,vi c.at_,.int .u64 c.seed],3⟩]) w' [⟨B,68,[.slice B1 n c1,vi m.at_,.int .u64 m.seed],3⟩,⟨B3,73,(r_.Gates.flatMap eN0),c3*3⟩] []):=by
 subst hn
 subst hn1
 unfold Cn at hF
 refine cv_of_cw 31 Tryz.func58 rfl Tryz.ntmps58 rfl ?_
 refine cq (cr ?_)
 refine sS 8 (yN [vi 0,.slice none 0 0] 2 hS K27) ?_
 rintro _ w_ ⟨b,rfl,hS1⟩
 refine rn (cq (cr ?_))
 refine sQ 11 yv<|sQ 12 (Y_buildS (zs:=[vi 0,.slice none 0 0]) (vs:=[(0,vi n1)]) (cs:=[vi n1,.slice none 0 0]) K81 K27 rfl (mpc rfl mpn) rfl) ?_
 refine sS 9 (yN [vi 0,.slice none 0 0] 2 hS1 K27) ?_
 rintro _ w_1 ⟨b1,rfl,hS2⟩
 refine s0 (yK 2 2 0 hS2 K3) ?_
 rintro _ w_2 ⟨rfl,hS3⟩
 refine rn (cq (cq (cr ?_)))
 refine sQ 13 yv<|sQ 14 yv<|sQ 15 zP ?_
 obtain ⟨⟨r_1,m1⟩,hc,hF⟩:=bI hF
 refine sc 16 rfl rfl (yc K30 (A8 c (i64.wrap (most+1)) B B1 c1 c.code.length _ rfl (hS3.inn [true,false,false] rfl [(true,0)] rfl) hc)) ?_
 rintro _ w_3 ⟨rfl,hd⟩
 have hS4:=hS3.out [true,false,false] rfl hd
 refine sQ 10 yu (rn ?_)
 obtain ⟨z,hz,hF1⟩:=bI hF
 have hS6:=hS4.addNil 73
 refine cw_block ?_
 let O1:Ob:=⟨aD b,28,[vi 0,.slice none 0 0],2⟩
 let O2:Ob:=⟨B,68,[.slice B1 c.code.length c1,vi c.at_,.int .u64 c.seed],3⟩
 refine cw_loop (fun k f w=>∃ (at_:Int) (seed:Int) (Gates:List Ac) (k_:Int) (B4:Option Addr) (c4:Nat),FF f [(0,pt B 0),(1,vi n1),(3,.slice B2 kinds.length c2),(8,pt (aD b) 0),(9,pt (aD b1) 0),(10,vi k_)]∧ST w0 (bl [O2]) w [⟨B,68,[.slice B1 c.code.length c1,vi at_,.int .u64 seed],3⟩,O1,⟨aD b1,28,[vi n1,.slice B4 Gates.length c4],2⟩,⟨B4,73,(Gates.flatMap eN0),c4*3⟩] [⟨B1,(c.code.flatMap enc_u8)⟩,⟨B2,(kinds.flatMap encI)⟩]∧whX (GU c n1 kinds) k (at_,seed,Gates,k_)=some z) fuel ⟨m1.at_,m1.seed,[],r_1,none,0,(fc rfl (fc rfl (fc rfl (fc rfl (fc rfl (fc rfl fn_)))))),(hS6.sel [2,0,1,3] rfl rfl),hz⟩ ?_
 rintro K2 f w ⟨at_,seed,Gates,k_,B4,c4,hf,hS5,hL⟩
 obtain ⟨K11,y,rfl,hb,hL1⟩:=whX_go hL
 unfold GU at hb
 refine cq (cq (cr ?_))
 refine sQ 17 (yv rfl (hf.g 10 5))<|sQ 18 (Y_gt rfl rfl rfl) (rn ?_)
 refine cw_cond rfl (fun hb1=>?_) (fun hb1=>?_)
 ·skip
  have hF2:=ct hb hb1
  refine cw_skip (cq (cw_block ?_))
  obtain ⟨⟨r_2,m2⟩,hc1,hF2⟩:=bI hF2
  obtain ⟨hap,hF2⟩:=chk_inv hF2
  let O0:Ob:=⟨B,68,[.slice B1 c.code.length c1,vi m2.at_,.int .u64 m2.seed],3⟩
  refine cw_mid (fun f w=>∃ (B6:Option Addr) (c6:Nat),FF f [(0,pt B 0),(1,vi n1),(3,.slice B2 kinds.length c2),(8,pt (aD b) 0),(9,pt (aD b1) 0),(10,vi k_)]∧ST w0 (bl [O2]) w [O0,O1,⟨aD b1,28,[vi n1,.slice B6 ((Gates++[r_2]).length) c6],2⟩,⟨B6,73,((Gates++[r_2]).flatMap eN0),c6*3⟩] [⟨B1,(c.code.flatMap enc_u8)⟩,⟨B2,(kinds.flatMap encI)⟩]) ?_ ?_
  ·skip
   refine ra_start (hS5.se [1]).fn (by kernel_rfl) ?_
   have hS9:=hS5.drew
   have hQ0:=hS9.se [1]
   refine rq 0 21 rfl hQ0 (fun _ q=>(yd (aD b1) 0 0 K19 K15 rfl (hf.g 9 4)))<|rq 2 23 rfl hQ0 (fun _ q=>(yv rfl (hf.g 0 0)))<|rq 3 24 rfl hQ0 (fun _ q=>(yv rfl (hf.g 1 1)))<|rq 4 25 rfl hQ0 (fun _ q=>(yv rfl (hf.g 3 2))) ?_
   refine rA [1,5] ?_
   refine ry 22 1 rfl (yz 1 K21 (hS9.c 2)) hQ0 ?_ ?_
   ·skip
    refine rA [5] ?_
    refine rC 26 5 rfl (yc Pr (MD (Ag.mk c.code at_ seed) n1 kinds B B1 c1 c.code.length B2 c2 kinds.length _ rfl rfl (hS9.inn [true,false,false,false] rfl [(true,0),(true,1)] rfl) hc1)) ?_ aN
    rintro _ w_4 ⟨rfl,hd1⟩
    have hS10:=hS9.out [true,false,false,false] rfl hd1
    refine ⟨(hS10.se [0]),?_⟩
    refine rA [6] ?_
    refine rS 27 6 rfl (yF 3 1 [vi r_2.Kind,vi r_2.A,vi r_2.B] 3 hS10 K12 K7 K74 rfl (mpc rfl mpn)) ?_ aN
    rintro _ w_5 ⟨b2,rfl,hS11⟩
    refine ⟨(hS11.se [0]),?_⟩
    refine rA [7] ?_
    refine rS 28 7 rfl (aP 3 24 2 Gates [r_2] hS11 K12 K7 K66 K28 eN8 BP (hS11.c 4) hap) ?_ aN
    rintro _ w_6 ⟨B5,c5,rfl,hS12⟩
    refine ⟨(hS12.se [0]),?_⟩
    refine rq 8 29 rfl (hS12.se [0]) (fun _ q=>(yd (aD b1) 0 0 K19 K15 rfl (hf.g 9 4))) ?_
    refine rA [9] ?_
    refine rZ 9 rfl (yS 1 1 (aD b1) 28 (.slice B5 ((Gates++[r_2]).length) c5) [.slice B5 ((Gates++[r_2]).length) c5] 1 [vi n1,.slice B5 ((Gates++[r_2]).length) c5] hS12 K15) ?_ aN
    rintro _ w_7 ⟨rfl,hS13⟩
    refine ⟨(hS13.se [0]),?_⟩
    refine ra_done (by kernel_rfl) ?_
    exact ⟨B5,c5,(hf.a 0 0 (hf.a 1 1 (hf.a 3 2 (hf.a 8 3 (hf.a 9 4 (hf.a 10 5 fn_)))))),(hS13.sel [3,0,1,2] rfl rfl)⟩
   refine rC 26 5 rfl (yc Pr (MD (Ag.mk c.code at_ seed) n1 kinds B B1 c1 c.code.length B2 c2 kinds.length _ rfl rfl (hS9.inn [true,false,false,false] rfl [(true,0),(true,1)] rfl) hc1)) ?_ aN
   rintro _ w_8 ⟨rfl,hd2⟩
   have hS14:=hS9.out [true,false,false,false] rfl hd2
   refine ⟨(hS14.se [0]),?_⟩
   let P3:List Ob:=[O1,⟨aD b1,28,[vi n1,.slice B4 Gates.length c4],2⟩,⟨B4,73,(Gates.flatMap eN0),c4*3⟩,O0]
   refine rf_in (k:=4) (ts:=[26]) (L:=P3) (G:=[]) [fM 6 27 73 ([r_2].flatMap eN0) (1*3) 1 1] hS14 (flc rfl rfl rfl (fun _ _ _ _ hf_ h=>(Ys_bslice (s:=3) (len:=1) (vs:=[(0,.agg #[vi r_2.Kind,vi r_2.A,vi r_2.B])]) (cs:=[vi r_2.Kind,vi r_2.A,vi r_2.B]) (zs:=[vi 0,vi 0,vi 0]) (m:=3) h K12 K7 K74 rfl (mpc ((hf_ 26 (List.Mem.head _)).trans rfl) mpn) rfl rfl rfl (by kernel_rfl) (by kernel_rfl) rfl)) fln) (fun hJ=>?_)
   refine rf_all [1] hJ (fun Z w h=>(ST.sel (ST.noF h) [0] rfl rfl)) (fun Z w_9 hz1 hS15=>?_)
   refine ry 22 1 rfl (yz 1 K21 (hS15.c 1)) (hS15.se [0]) ?_ aN
   refine (rf_k (L:=P3) hz1 hS15 (fun Z w h=>(ST.sel (ST.noF h) [0] rfl rfl)) ?_).2
   refine rf_force hJ (fun Z w h=>(ST.sel (ST.noF h) [0] rfl rfl)) (fun b2=>?_)
   refine rf_out (fun w_10 hS16=>?_)
   refine rA [7] ?_
   refine rS 28 7 rfl (aP 3 24 2 Gates [r_2] hS16 K12 K7 K66 K28 eN8 BP (hS16.c 4) hap) ?_ aN
   rintro _ w_11 ⟨B5,c5,rfl,hS17⟩
   refine ⟨(hS17.se [0]),?_⟩
   refine rq 8 29 rfl (hS17.se [0]) (fun _ q=>(yd (aD b1) 0 0 K19 K15 rfl (hf.g 9 4))) ?_
   refine rA [9] ?_
   refine rZ 9 rfl (yS 1 1 (aD b1) 28 (.slice B5 ((Gates++[r_2]).length) c5) [.slice B5 ((Gates++[r_2]).length) c5] 1 [vi n1,.slice B5 ((Gates++[r_2]).length) c5] hS17 K15) ?_ aN
   rintro _ w_12 ⟨rfl,hS18⟩
   refine ⟨(hS18.se [0]),?_⟩
   refine ra_done (by kernel_rfl) ?_
   exact ⟨B5,c5,(hf.a 0 0 (hf.a 1 1 (hf.a 3 2 (hf.a 8 3 (hf.a 9 4 (hf.a 10 5 fn_)))))),(hS18.sel [3,0,1,2] rfl rfl)⟩
  rintro f w ⟨B6,c6,hf1,hS8⟩
  refine cr ?_
  refine sQ 19 (yv rfl (hf1.g 10 5))<|sQ 20 zM<|sQ 10 yu (rn ?_)
  obtain rfl:=sI hF2
  exact ⟨K11,Nat.lt_succ_self _,m2.at_,m2.seed,(Gates++[r_2]),(i64.wrap (k_-1)),B6,c6,(hf1.a 0 0 (hf1.a 1 1 (hf1.a 3 2 (hf1.a 8 3 (hf1.a 9 4 (fc rfl fn_)))))),(hS8.sel [0,1,2,3] rfl rfl),hL1⟩
 ·skip
  have hF3:=cf' hb hb1
  refine cw_exit rfl ?_
  obtain rfl:=sI hF3
  obtain rfl:=sI hL1
  refine cq (cr ?_)
  refine sQ 30 (yw 0 K10 K3 (hS5.c 2) rfl (hf.g 9 4)) ?_
  refine s0 (yK 1 2 0 hS5 K3 rfl (hf.g 8 3)) ?_
  rintro _ w_13 ⟨rfl,hS19⟩
  refine rn (ct_ ?_)
  obtain ⟨rfl,rfl⟩:=pr2 (sI hF1)
  exact ret1 Tryz.results58 (rX K10 K3 (hS19.c 1) (hf.g 8 3)) ⟨B4,c4,rfl,(hS19.sN [0,3])⟩

theorem GS (c:Ag) (n1:Int) (B:Option Addr) (B1:Option Addr) (c1 n:Nat) (w0:World) (hn:c.code.length=n) (hS:ST w0 (bl [⟨B,68,[.slice B1 n c1,vi c.at_,.int .u64 c.seed],3⟩]) w0 [⟨B,68,[.slice B1 n c1,vi c.at_,.int .u64 c.seed],3⟩] [⟨B1,(c.code.flatMap enc_u8)⟩]) {r_:Bool} {m:Ag} (hF:Cb c n1=some (r_,m)) :
  CV Tryz.prog 57 #[pt B 0,vi n1] w0 (fun v w'=>v=.bool r_∧ST w0 (bl [⟨B,68,[.slice B1 n c1,vi c.at_,.int .u64 c.seed],3⟩]) w' [⟨B,68,[.slice B1 n c1,vi m.at_,.int .u64 m.seed],3⟩] []):=by
 subst hn
 unfold Cb at hF
 refine cv_of_cw 9 Tryz.func57 rfl Tryz.ntmps57 rfl ?_
 refine cq (cr ?_)
 refine sQ 4 yu (rn (cq (cr ?_)))
 refine sQ 5 yv<|sQ 6 yv ?_
 obtain ⟨⟨r_1,m1⟩,hc,hF⟩:=bI hF
 refine sc 7 rfl rfl (yc K30 (A8 c n1 B B1 c1 c.code.length _ rfl (hS.inn [true] rfl [(true,0)] rfl) hc)) ?_
 rintro _ w_ ⟨rfl,hd⟩
 have hS1:=hS.out [true] rfl hd
 refine sQ 8 zE<|sQ 4 yu (rn (ct_ ?_))
 obtain ⟨rfl,rfl⟩:=pr2 (sI hF)
 exact e1 Tryz.results57 (hS1.sN [0])

theorem Wy (n:Int)  (w0:World)  (hS:ST w0 [] w0 [] []) {r_:Ae} {r_1:Bool} (hF:Ep n=some (r_,r_1)) :
  CV Tryz.prog 93 #[vi n] w0 (fun v w'=>∃ (B:Option Addr) (c:Nat),v=.tuple #[.agg #[vi r_.Nodes,.slice B r_.Edges.length c],.bool r_1]∧ST w0 [] w' [⟨B,118,(r_.Edges.flatMap eN1),c*2⟩] []):=by
 unfold Ep at hF
 refine cv_of_cw 28 Tryz.func93 rfl Tryz.ntmps93 rfl ?_
 refine cq (cr ?_)
 let V0:List Value:=[vi 0,.slice none 0 0]
 refine sS 2 (yN V0 2 hS K44) ?_
 rintro _ w_ ⟨b,rfl,hS1⟩
 refine sQ 3 yu (rn (cq (cq (cr ?_))))
 refine sQ 6 yv ?_
 obtain ⟨r_2,hc,hF⟩:=bI hF
 refine sc 7 rfl rfl (yc K68 (BO n 1 8 _  (hS1.inn0 [] rfl) hc)) ?_
 rintro _ w_1 ⟨rfl,hd⟩
 have hS2:=hS1.out00 hd
 refine sQ 8 yn (rn ?_)
 refine cw_cond rfl (fun hb=>?_) (fun hb=>?_)
 ·skip
  have hF1:=ct hF hb
  refine cq (cr ?_)
  refine sQ 9 (Y_buildS (zs:=V0) (vs:=[]) (cs:=V0) Ik K44 rfl mpn rfl) ?_
  refine s0 (yK 0 2 0 hS2 K8) ?_
  rintro _ w_2 ⟨rfl,hS3⟩
  refine sQ 3 yu (rn (ct_ ?_))
  have hS4:=hS3.addNil 118
  obtain ⟨rfl,rfl⟩:=pr2 (sI hF1)
  exact ret2 Tryz.results93 (rX K13 K8 (hS4.c 0)) rT ⟨none,0,rfl,(hS4.sN [1])⟩
 ·skip
  have hF2:=cf' hF hb
  refine cw_skip (cq (cr ?_))
  refine sQ 10 yv<|sQ 11 (Y_buildS (zs:=V0) (vs:=[(0,vi n)]) (cs:=[vi n,.slice none 0 0]) Ik K44 rfl (mpc rfl mpn) rfl) ?_
  refine sS 4 (yN V0 2 hS2 K44) ?_
  rintro _ w_3 ⟨b1,rfl,hS5⟩
  refine s0 (yK 1 2 0 hS5 K8) ?_
  rintro _ w_4 ⟨rfl,hS6⟩
  refine rn (cq (cq (cr ?_)))
  refine sQ 5 yu (rn ?_)
  obtain ⟨z,hz,hF3⟩:=bI hF2
  have hS8:=hS6.addNil 118
  refine cw_block ?_
  refine cw_loop (fun k f w=>∃ (Edges:List Ah) (i:Int) (B1:Option Addr) (c1:Nat),FF f [(0,vi n),(2,pt (aD b) 0),(4,pt (aD b1) 0),(5,vi i)]∧ST w0 [] w [⟨aD b,25,V0,2⟩,⟨aD b1,25,[vi n,.slice B1 Edges.length c1],2⟩,⟨B1,118,(Edges.flatMap eN1),c1*2⟩] []∧whX (Kc n) k (Edges,i)=some z) fuel ⟨[],0,none,0,(fc rfl (fc rfl (fc rfl (fc rfl fn_)))),(hS8.sel [0,1,2] rfl rfl),hz⟩ ?_
  rintro k_ f w ⟨Edges,i,B1,c1,hf,hS7,hL⟩
  obtain ⟨K2,y,rfl,hb1,hL1⟩:=whX_go hL
  unfold Kc at hb1
  refine cq (cq (cr ?_))
  refine sQ 12 (yv rfl (hf.g 5 3))<|sQ 13 zP<|sQ 14 (yv rfl (hf.g 0 0))<|sQ 15 zL (rn ?_)
  refine cw_cond rfl (fun hb2=>?_) (fun hb2=>?_)
  ·skip
   have hF4:=ct hb1 hb2
   refine cw_skip (cq (cw_block (cr ?_)))
   refine sQ 18 (yd (aD b1) 0 0 K50 K40 rfl (hf.g 4 2))<|sQ 19 (yz 1 K69 (hS7.c 1))<|sQ 20 (yv rfl (hf.g 5 3))<|sQ 21 (yv rfl (hf.g 5 3))<|sQ 22 zP<|sQ 23 (Y_buildS (zs:=[vi 0,vi 0]) (vs:=[(0,vi i),(1,vi (i64.wrap (i+1)))]) (cs:=[vi i,vi (i64.wrap (i+1))]) Ef K51 rfl (mpc rfl (mpc rfl mpn)) rfl) ?_
   refine sS 24 (yF 2 1 [vi i,vi (i64.wrap (i+1))] 2 hS7 K34 K20 Fs rfl (mpc rfl mpn)) ?_
   rintro _ w_5 ⟨b2,rfl,hS9⟩
   obtain ⟨hap,hF4⟩:=chk_inv hF4
   refine sS 25 (aP 2 16 2 Edges [(Ah.mk i (i64.wrap (i+1)))] hS9 K34 K20 Gi K51 A6 FC (hS9.c 3) hap) ?_
   rintro _ w_6 ⟨B2,c2,rfl,hS10⟩
   refine sQ 26 (yd (aD b1) 0 0 K50 K40 rfl (hf.g 4 2)) ?_
   refine s0 (yS 1 1 (aD b1) 25 (.slice B2 ((Edges++[(Ah.mk i (i64.wrap (i+1)))]).length) c2) [.slice B2 ((Edges++[(Ah.mk i (i64.wrap (i+1)))]).length) c2] 1 [vi n,.slice B2 ((Edges++[(Ah.mk i (i64.wrap (i+1)))]).length) c2] hS10 K40) ?_
   rintro _ w_7 ⟨rfl,hS11⟩
   refine rn (cr ?_)
   refine sQ 16 (yv rfl (hf.g 5 3))<|sQ 17 zP<|sQ 5 yu (rn ?_)
   obtain rfl:=sI hF4
   exact ⟨K2,Nat.lt_succ_self _,(Edges++[(Ah.mk i (i64.wrap (i+1)))]),(i64.wrap (i+1)),B2,c2,(hf.a 0 0 (hf.a 2 1 (hf.a 4 2 (fc rfl fn_)))),(hS11.sel [0,1,2] rfl rfl),hL1⟩
  ·skip
   have hF5:=cf' hb1 hb2
   refine cw_exit rfl ?_
   obtain rfl:=sI hF5
   obtain rfl:=sI hL1
   refine cq (cr ?_)
   refine sQ 27 (yw 0 K13 K8 (hS7.c 1) rfl (hf.g 4 2)) ?_
   refine s0 (yK 0 2 0 hS7 K8 rfl (hf.g 2 1)) ?_
   rintro _ w_8 ⟨rfl,hS12⟩
   refine sQ 3 yu (rn (ct_ ?_))
   obtain ⟨rfl,rfl⟩:=pr2 (sI hF3)
   exact ret2 Tryz.results93 (rX K13 K8 (hS12.c 0) (hf.g 2 1)) rT ⟨B1,c1,rfl,(hS12.sN [2])⟩

theorem Qf (n:Int)  (w0:World)  (hS:ST w0 [] w0 [] []) {r_:Ae} {r_1:Bool} (hF:Di n=some (r_,r_1)) :
  CV Tryz.prog 94 #[vi n] w0 (fun v w'=>∃ (B:Option Addr) (c:Nat),v=.tuple #[.agg #[vi r_.Nodes,.slice B r_.Edges.length c],.bool r_1]∧ST w0 [] w' [⟨B,118,(r_.Edges.flatMap eN1),c*2⟩] []):=by
 unfold Di at hF
 refine cv_of_cw 48 Tryz.func94 rfl Tryz.ntmps94 rfl ?_
 refine cq (cr ?_)
 let V1:List Value:=[vi 0,.slice none 0 0]
 refine sS 2 (yN V1 2 hS K44) ?_
 rintro _ w_ ⟨b,rfl,hS1⟩
 refine sQ 3 yu (rn (cq (cq (cr ?_))))
 refine sQ 7 yv ?_
 obtain ⟨r_2,hc,hF⟩:=bI hF
 refine sc 8 rfl rfl (yc K68 (BO n 3 8 _  (hS1.inn0 [] rfl) hc)) ?_
 rintro _ w_1 ⟨rfl,hd⟩
 have hS2:=hS1.out00 hd
 refine sQ 9 yn (rn ?_)
 refine cw_cond rfl (fun hb=>?_) (fun hb=>?_)
 ·skip
  have hF1:=ct hF hb
  refine cq (cr ?_)
  refine sQ 10 (Y_buildS (zs:=V1) (vs:=[]) (cs:=V1) Ik K44 rfl mpn rfl) ?_
  refine s0 (yK 0 2 0 hS2 K8) ?_
  rintro _ w_2 ⟨rfl,hS3⟩
  refine sQ 3 yu (rn (ct_ ?_))
  have hS4:=hS3.addNil 118
  obtain ⟨rfl,rfl⟩:=pr2 (sI hF1)
  exact ret2 Tryz.results94 (rX K13 K8 (hS4.c 0)) rT ⟨none,0,rfl,(hS4.sN [1])⟩
 ·skip
  have hF2:=cf' hF hb
  refine cw_skip (cq (cr ?_))
  refine sQ 11 yv<|sQ 12 (Y_buildS (zs:=V1) (vs:=[(0,vi n)]) (cs:=[vi n,.slice none 0 0]) Ik K44 rfl (mpc rfl mpn) rfl) ?_
  refine sS 4 (yN V1 2 hS2 K44) ?_
  rintro _ w_3 ⟨b1,rfl,hS5⟩
  refine s0 (yK 1 2 0 hS5 K8) ?_
  rintro _ w_4 ⟨rfl,hS6⟩
  refine rn (cq (cq (cr ?_)))
  refine sQ 5 yu (rn ?_)
  obtain ⟨hN,hF2⟩:=chk_inv hF2
  obtain ⟨z,hz,hF3⟩:=bI hF2
  have hS8:=hS6.addNil 118
  refine cw_block ?_
  let O0:Ob:=⟨aD b,25,V1,2⟩
  refine cw_loop (fun k f w=>∃ (a:Nat) (Edges:List Ah) (B1:Option Addr) (c1:Nat),FF f [(0,vi n),(2,pt (aD b) 0),(4,pt (aD b1) 0),(5,vi (a:Int))]∧ST w0 [] w [O0,⟨aD b1,25,[vi n,.slice B1 Edges.length c1],2⟩,⟨B1,118,(Edges.flatMap eN1),c1*2⟩] []∧a+k=n.toNat∧forN (Kg n) k a Edges=some z) n.toNat ⟨0,[],none,0,(fc rfl (fc rfl (fc rfl (fc rfl fn_)))),(hS8.sel [0,1,2] rfl rfl),Nat.zero_add _,hz⟩ ?_
  rintro k_ f w ⟨a,Edges,B1,c1,hf,hS7,hik,hL⟩
  refine cq (cq (cr ?_))
  refine sQ 13 (yv rfl (hf.g 5 3))<|sQ 14 (yv rfl (hf.g 0 0))<|sQ 15 zL (rn ?_)
  refine cw_cond rfl (fun hlt=>?_) (fun hlt=>?_)
  ·skip
   have hlt1:a<n.toNat:=by have h:=of_decide_eq_true hlt; omega
   obtain ⟨K2,rfl⟩:∃ k2,k_=k2+1:=⟨k_-1,by omega⟩
   obtain ⟨y,hb1,hL1⟩:=forN_go hL
   unfold Kg at hb1
   refine cw_skip (cq (cw_block (cq (cr ?_))))
   refine sQ 18 (yv rfl (hf.g 5 3))<|sQ 19 zP<|sQ 6 yu (rn ?_)
   obtain ⟨z1,hz1,hF4⟩:=bI hb1
   refine cw_block ?_
   refine cw_loop (fun k f w=>∃ (Edges1:List Ah) (b2:Int) (B2:Option Addr) (c2:Nat),FF f [(0,vi n),(2,pt (aD b) 0),(4,pt (aD b1) 0),(5,vi (a:Int)),(6,vi b2)]∧ST w0 [] w [O0,⟨aD b1,25,[vi n,.slice B2 Edges1.length c2],2⟩,⟨B2,118,(Edges1.flatMap eN1),c2*2⟩] []∧whX (Le n a) k (Edges1,b2)=some z1) fuel ⟨Edges,(i64.wrap ((a:Int)+1)),B1,c1,(hf.a 0 0 (hf.a 2 1 (hf.a 4 2 (hf.a 5 3 (fc rfl fn_))))),(hS7.sel [0,1,2] rfl rfl),hz1⟩ ?_
   rintro K11 f w ⟨Edges1,b2,B2,c2,hf1,hS9,hL2⟩
   obtain ⟨K22,y1,rfl,hb2,hL3⟩:=whX_go hL2
   unfold Le at hb2
   refine cq (cq (cr ?_))
   refine sQ 20 (yv rfl (hf1.g 6 4))<|sQ 21 (yv rfl (hf1.g 0 0))<|sQ 22 zL (rn ?_)
   refine cw_cond rfl (fun hb3=>?_) (fun hb3=>?_)
   ·skip
    have hF5:=ct hb2 hb3
    refine cw_skip (cq ?_)
    obtain ⟨z2,hz2,hF6⟩:=bI hF5
    refine cw_mid (fun f w=>∃ (Edges2:List Ah) (B3:Option Addr) (c3:Nat),Edges2=z2∧FF f [(0,vi n),(2,pt (aD b) 0),(4,pt (aD b1) 0),(5,vi (a:Int)),(6,vi b2)]∧ST w0 [] w [O0,⟨aD b1,25,[vi n,.slice B3 Edges2.length c3],2⟩,⟨B3,118,(Edges2.flatMap eN1),c3*2⟩] []) ?_ ?_
    ·skip
     refine cw_block (cq (cr ?_))
     refine sQ 25 (yv rfl (hf1.g 6 4))<|sQ 26 (yv rfl (hf1.g 5 3))<|sQ 27 zP<|sQ 28 zE<|sQ 29 yv ?_
     refine sgq 30 rfl rfl (uF_ 29) (fun hg=>(yv rfl (hf1.g 5 3))) ?_
     refine sgq 31 rfl rfl (uF_ 29) (fun hg1=>(zE rfl (gv_of hg1))) ?_
     refine sgq 32 rfl rfl (uF_ 29) (fun hg2=>(yv rfl (gv_of hg2))) ?_
     refine sgq 33 rfl rfl (uG_ 32) (fun hg3=>(yv rfl (hf1.g 6 4))) ?_
     refine sgq 34 rfl rfl (uG_ 32) (fun hg4=>(yv rfl (hf1.g 0 0))) ?_
     refine sgq 35 rfl rfl (uG_ 32) (fun hg5=>(zM rfl (gv_of hg5))) ?_
     refine sgq 36 rfl rfl (uG_ 32) (fun hg6=>(zE rfl (gv_of hg6) (gv_of hg6))) ?_
     refine sgq 37 rfl rfl (uF_ 29) (fun hg7=>(yA rfl (gv_of hg7) (gv_and hg7))) ?_
     refine sQ 38 yO (rn ?_)
     refine cw_cond rfl (fun hb4=>?_) (fun hb4=>?_)
     ·skip
      have hF7:=ct hz2 hb4
      refine cr ?_
      refine sQ 39 (yd (aD b1) 0 0 K50 K40 rfl (hf1.g 4 2))<|sQ 40 (yz 1 K69 (hS9.c 1))<|sQ 41 (yv rfl (hf1.g 5 3))<|sQ 42 (yv rfl (hf1.g 6 4))<|sQ 43 (Y_buildS (zs:=[vi 0,vi 0]) (vs:=[(0,vi (a:Int)),(1,vi b2)]) (cs:=[vi (a:Int),vi b2]) Ef K51 rfl (mpc rfl (mpc rfl mpn)) rfl) ?_
      refine sS 44 (yF 2 1 [vi (a:Int),vi b2] 2 hS9 K34 K20 Fs rfl (mpc rfl mpn)) ?_
      rintro _ w_5 ⟨b3,rfl,hS11⟩
      obtain ⟨hap,hF7⟩:=chk_inv hF7
      refine sS 45 (aP 2 16 2 Edges1 [(Ah.mk (a:Int) b2)] hS11 K34 K20 Gi K51 A6 FC (hS11.c 3) hap) ?_
      rintro _ w_6 ⟨B4,c4,rfl,hS12⟩
      refine sQ 46 (yd (aD b1) 0 0 K50 K40 rfl (hf1.g 4 2)) ?_
      refine s0 (yS 1 1 (aD b1) 25 (.slice B4 ((Edges1++[(Ah.mk (a:Int) b2)]).length) c4) [.slice B4 ((Edges1++[(Ah.mk (a:Int) b2)]).length) c4] 1 [vi n,.slice B4 ((Edges1++[(Ah.mk (a:Int) b2)]).length) c4] hS12 K40) ?_
      rintro _ w_7 ⟨rfl,hS13⟩
      refine rn ?_
      exact ⟨(Edges1++[(Ah.mk (a:Int) b2)]),B4,c4,(sI hF7),(hf1.a 0 0 (hf1.a 2 1 (hf1.a 4 2 (hf1.a 5 3 (hf1.a 6 4 fn_))))),(hS13.sel [0,1,2] rfl rfl)⟩
     ·skip
      have hF8:=cf' hz2 hb4
      refine cw_skip ?_
      exact ⟨Edges1,B2,c2,(sI hF8),(hf1.a 0 0 (hf1.a 2 1 (hf1.a 4 2 (hf1.a 5 3 (hf1.a 6 4 fn_))))),(hS9.sel [0,1,2] rfl rfl)⟩
    rintro f w ⟨Edges2,B3,c3,rfl,hf2,hS10⟩
    refine cr ?_
    refine sQ 23 (yv rfl (hf2.g 6 4))<|sQ 24 zP<|sQ 6 yu (rn ?_)
    obtain rfl:=sI hF6
    exact ⟨K22,Nat.lt_succ_self _,Edges2,(i64.wrap (b2+1)),B3,c3,(hf2.a 0 0 (hf2.a 2 1 (hf2.a 4 2 (hf2.a 5 3 (fc rfl fn_))))),(hS10.sel [0,1,2] rfl rfl),hL3⟩
   ·skip
    have hF9:=cf' hb2 hb3
    refine cw_exit rfl ?_
    obtain rfl:=sI hF9
    obtain rfl:=sI hL3
    refine cr ?_
    refine sQ 16 (yv rfl (hf1.g 5 3))<|sQ 17 zP<|sQ 5 yu (rn ?_)
    obtain rfl:=sI hF4
    exact ⟨K2,Nat.lt_succ_self _,a+1,Edges1,B2,c2,(hf1.a 0 0 (hf1.a 2 1 (hf1.a 4 2 (fc (congrArg (Value.int .i64) (wr_succ hlt1 hN)) fn_)))),(hS9.sel [0,1,2] rfl rfl),(by omega),hL1⟩
  ·skip
   obtain rfl:k_=0:=by have h:=of_decide_eq_false hlt; omega
   refine cw_exit rfl ?_
   obtain rfl:=sI hL
   refine cq (cr ?_)
   refine sQ 47 (yw 0 K13 K8 (hS7.c 1) rfl (hf.g 4 2)) ?_
   refine s0 (yK 0 2 0 hS7 K8 rfl (hf.g 2 1)) ?_
   rintro _ w_8 ⟨rfl,hS14⟩
   refine sQ 3 yu (rn (ct_ ?_))
   obtain ⟨rfl,rfl⟩:=pr2 (sI hF3)
   exact ret2 Tryz.results94 (rX K13 K8 (hS14.c 0) (hf.g 2 1)) rT ⟨B1,c1,rfl,(hS14.sN [2])⟩

theorem Tp (nodes:Int) (pairs:List (List Int)) (B:Option Addr) (c n:Nat) (w0:World) (hn:pairs.length=n) (hS:ST w0 [] w0 [] [⟨B,(pairs.flatMap AY)⟩]) {r_:List Ah} (hF:Fh nodes pairs=some r_) :
  CV Tryz.prog 95 #[vi nodes,.slice B n c] w0 (fun v w'=>∃ (B1:Option Addr) (c1:Nat),v=.slice B1 r_.length c1∧ST w0 [] w' [⟨B1,118,(r_.flatMap eN1),c1*2⟩] []):=by
 subst hn
 unfold Fh at hF
 refine cv_of_cw 48 Tryz.func95 rfl Tryz.ntmps95 rfl ?_
 refine cq (cr ?_)
 refine sQ 4 yu (rn (cq (cr ?_)))
 refine sQ 5 yu (rn (cq (cq (cr ?_))))
 refine sQ 6 yu (rn ?_)
 obtain ⟨hN,hF⟩:=chk_inv hF
 obtain ⟨z,hz,hF1⟩:=bI hF
 have hS2:=hS.addNil 118
 refine cw_block ?_
 let R0:Ro:=⟨B,(pairs.flatMap AY)⟩
 refine cw_loop (fun k f w=>∃ (a:Nat) (out:List Ah) (B2:Option Addr) (c2:Nat),FF f [(0,vi nodes),(1,.slice B pairs.length c),(5,.slice B2 out.length c2),(6,vi (a:Int))]∧ST w0 [] w [⟨B2,118,(out.flatMap eN1),c2*2⟩] [R0]∧a+k=nodes.toNat∧forN (Hk nodes pairs) k a out=some z) nodes.toNat ⟨0,[],none,0,(fc rfl (fc rfl (fc rfl (fc rfl fn_)))),(hS2.sel [0] rfl rfl),Nat.zero_add _,hz⟩ ?_
 rintro k_ f w ⟨a,out,B2,c2,hf,hS1,hik,hL⟩
 refine cq (cq (cr ?_))
 refine sQ 10 (yv rfl (hf.g 6 3))<|sQ 11 (yv rfl (hf.g 0 0))<|sQ 12 zL (rn ?_)
 refine cw_cond rfl (fun hlt=>?_) (fun hlt=>?_)
 ·skip
  have hlt1:a<nodes.toNat:=by have h:=of_decide_eq_true hlt; omega
  obtain ⟨K2,rfl⟩:∃ k2,k_=k2+1:=⟨k_-1,by omega⟩
  obtain ⟨y,hb,hL1⟩:=forN_go hL
  unfold Hk at hb
  refine cw_skip (cq (cw_block (cq (cr ?_))))
  refine sQ 15 (yv rfl (hf.g 6 3))<|sQ 16 zP<|sQ 7 yu (rn ?_)
  obtain ⟨z1,hz1,hF2⟩:=bI hb
  refine cw_block ?_
  refine cw_loop (fun k f w=>∃ (out1:List Ah) (b:Int) (B3:Option Addr) (c3:Nat),FF f [(0,vi nodes),(1,.slice B pairs.length c),(5,.slice B3 out1.length c3),(6,vi (a:Int)),(7,vi b)]∧ST w0 [] w [⟨B3,118,(out1.flatMap eN1),c3*2⟩] [R0]∧whX (Gu nodes pairs a) k (out1,b)=some z1) fuel ⟨out,(i64.wrap ((a:Int)+1)),B2,c2,(hf.a 0 0 (hf.a 1 1 (hf.a 5 2 (hf.a 6 3 (fc rfl fn_))))),(hS1.sel [0] rfl rfl),hz1⟩ ?_
  rintro K11 f w ⟨out1,b,B3,c3,hf1,hS3,hL2⟩
  obtain ⟨K22,y1,rfl,hb1,hL3⟩:=whX_go hL2
  unfold Gu at hb1
  refine cq (cq (cr ?_))
  refine sQ 17 (yv rfl (hf1.g 7 4))<|sQ 18 (yv rfl (hf1.g 0 0))<|sQ 19 zL (rn ?_)
  refine cw_cond rfl (fun hb2=>?_) (fun hb2=>?_)
  ·skip
   have hF3:=ct hb1 hb2
   refine cw_skip (cq (cw_block (cq (cr ?_))))
   refine sQ 22 (yv rfl (hf1.g 1 1))<|sQ 23 (Y_len K92 rfl rfl)<|sQ 24 yv (rn ?_)
   obtain ⟨hN1,hF3⟩:=chk_inv hF3
   obtain ⟨z2,hz2,hF4⟩:=bI hF3
   refine cw_mid (fun f w=>∃ (out2:List Ah) (B4:Option Addr) (c4:Nat),.inl out2=z2∧FF f [(0,vi nodes),(1,.slice B pairs.length c),(5,.slice B4 out2.length c4),(6,vi (a:Int)),(7,vi b)]∧ST w0 [] w [⟨B4,118,(out2.flatMap eN1),c4*2⟩] [R0]) ?_ ?_
   ·skip
    refine cw_block ?_
    refine cw_loop (fun k f w=>∃ (i1:Nat) (out3:List Ah) (B5:Option Addr) (c5:Nat),FF f [(0,vi nodes),(1,.slice B pairs.length c),(5,.slice B5 out3.length c5),(6,vi (a:Int)),(7,vi b),(22,.slice B pairs.length c),(23,vi (pairs.length:Int)),(24,vi (i1:Int))]∧ST w0 [] w [⟨B5,118,(out3.flatMap eN1),c5*2⟩] [R0]∧i1+k=pairs.length∧forX (Gj pairs a b) k i1 out3=some z2) pairs.length ⟨0,out1,B3,c3,(hf1.a 0 0 (hf1.a 1 1 (hf1.a 5 2 (hf1.a 6 3 (hf1.a 7 4 (fc rfl (fc rfl (fc rfl fn_)))))))),(hS3.sel [0] rfl rfl),Nat.zero_add _,hz2⟩ ?_
    rintro K4 f w ⟨i1,out3,B5,c5,hf3,hS5,hik2,hL4⟩
    refine cq (cr ?_)
    refine sQ 25 (zL rfl (hf3.g 24 7) (hf3.g 23 6)) (rn (cq ?_))
    refine cw_cond rfl (fun hlt2=>?_) (fun hlt2=>?_)
    ·skip
     have hlt3:i1<pairs.length:=by have h:=of_decide_eq_true hlt2; omega
     obtain ⟨K102,rfl⟩:∃ k2,K4=k2+1:=⟨K4-1,by omega⟩
     obtain ⟨y2,hb3,hL5⟩:=forX_go hL4
     unfold Gj at hb3
     refine cw_skip (cq (cw_block (cq (cr ?_))))
     obtain ⟨x,hx,hb3⟩:=bI hb3
     refine sQ 26 (yI B (i1:Int) K92 K82 (gi_isSome Cj rfl (hS5.rf (i:=0) rfl) hx) (getI_nn hx) (getI_ltI hx rfl) rfl (hf3.g 22 5) (hf3.g 24 7))<|sQ 27 (ya B ((i1:Int).toNat*2) (pairs.flatMap AY) (([(x.getD 0 0),(x.getD 1 0)]:List Int).flatMap encI) KH K82 (hS5.rf (i:=0) rfl) rfl rfl (Cj x) (gi_seg Cj hx)) ?_
     refine sS 9 (yN ((List.replicate 2 0).flatMap encI) 2 hS5 Ec) ?_
     rintro _ w_ ⟨b1,rfl,hS6⟩
     refine s0 (yK 1 2 0 hS6 K82 rfl rfl rfl rfl (fm_lenn2 encI_len rfl rfl) (fm_one' encI_one _) rfl (fm_fit encI_len (List.length_replicate (n:=2)) rfl) (fm_spl encI_len (List.length_replicate (n:=2)) rfl)) ?_
     rintro _ w_1 ⟨rfl,hS7⟩
     refine rn (cq (cr ?_))
     let V1:List Value:=[vi (x.getD 0 0),vi (x.getD 1 0)]
     refine sQ 28 (yw 0 KH K82 (hS7.c 1) rfl rfl (fm_lenn2 encI_len rfl rfl) (fm_whole encI_len rfl rfl))<|sQ 29 (yv rfl (hf3.g 6 3))<|sQ 30 (yv rfl (hf3.g 7 4))<|sQ 31 (show Y _ _ _ _ _ (.agg (([(a:Int),b]:List Int).flatMap encI).toArray) from Y_buildA (zs:=[vi 0,vi 0]) (vs:=[(0,vi (a:Int)),(1,vi b)]) (cs:=[vi (a:Int),vi b]) FU K0 Ec rfl (mpc rfl (mpc rfl mpn)) (by kernel_rfl))<|sQ 32 (Y_eqA (xs:=V1.toArray) (ys:=#[vi (a:Int),vi b]) (b:=(((x.getD 0 0)==(a:Int))&&(((x.getD 1 0)==b)&&true))) OM rfl rfl rfl (eqr_arr (xs:=V1) (ys:=[vi (a:Int),vi b]) FU K0 rfl (itm_sc K1 rfl rfl (eqr_int K29) (itm_sc K1 rfl rfl (eqr_int K29) itm_nil))))<|sQ 33 yv ?_
     refine sgq 34 rfl rfl (uF_ 33) (fun hg=>(yw 0 KH K82 (hS7.c 1) rfl rfl (fm_lenn2 encI_len rfl rfl) (fm_whole encI_len rfl rfl))) ?_
     refine sgq 35 rfl rfl (uF_ 33) (fun hg1=>(yv rfl (hf3.g 7 4))) ?_
     refine sgq 36 rfl rfl (uF_ 33) (fun hg2=>(yv rfl (hf3.g 6 3))) ?_
     refine sgq 37 rfl rfl (uF_ 33) (fun hg3=>(show Y _ _ _ _ _ (.agg (([b,(a:Int)]:List Int).flatMap encI).toArray) from Y_buildA (zs:=[vi 0,vi 0]) (vs:=[(0,vi b),(1,vi (a:Int))]) (cs:=[vi b,vi (a:Int)]) FU K0 Ec rfl (mpc (gv_of hg3) (mpc (gv_of hg3) mpn)) (by kernel_rfl))) ?_
     refine sgq 38 rfl rfl (uF_ 33) (fun hg4=>(Y_eqA (xs:=V1.toArray) (ys:=#[vi b,vi (a:Int)]) (b:=(((x.getD 0 0)==b)&&(((x.getD 1 0)==(a:Int))&&true))) OM rfl (gv_of hg4) (gv_of hg4) (eqr_arr (xs:=V1) (ys:=[vi b,vi (a:Int)]) FU K0 rfl (itm_sc K1 rfl rfl (eqr_int K29) (itm_sc K1 rfl rfl (eqr_int K29) itm_nil))))) ?_
     refine sQ 39 yO (rn ?_)
     refine cw_cond rfl (fun hb4=>?_) (fun hb4=>?_)
     ·skip
      have hF5:=ct hb3 hb4
      refine cq (cr ?_)
      refine sQ 40 (yv rfl (hf3.g 5 2))<|sQ 41 (yv rfl (hf3.g 6 3))<|sQ 42 (yv rfl (hf3.g 7 4))<|sQ 43 (Y_buildS (zs:=[vi 0,vi 0]) (vs:=[(0,vi (a:Int)),(1,vi b)]) (cs:=[vi (a:Int),vi b]) Ef K51 rfl (mpc rfl (mpc rfl mpn)) rfl) ?_
      refine sS 44 (yF 2 1 [vi (a:Int),vi b] 2 hS7 K34 K20 Fs rfl (mpc rfl mpn)) ?_
      rintro _ w_2 ⟨b2,rfl,hS8⟩
      obtain ⟨hap,hF5⟩:=chk_inv hF5
      refine sS 45 (aP 2 16 0 out3 [(Ah.mk (a:Int) b)] hS8 K34 K20 Gi K51 A6 FC (hS8.c 2) hap) ?_
      rintro _ w_3 ⟨B6,c6,rfl,hS9⟩
      refine sQ 5 yu (rn ?_)
      refine cw_exit rfl ?_
      obtain rfl:=sI hF5
      exact ⟨(out3++[(Ah.mk (a:Int) b)]),B6,c6,(sI hL5),(hf3.a 0 0 (hf3.a 1 1 (fc rfl (hf3.a 6 3 (hf3.a 7 4 fn_))))),(hS9.sel [0] rfl rfl)⟩
     ·skip
      have hF6:=cf' hb3 hb4
      refine cw_skip (cr ?_)
      refine sQ 46 (zP rfl (hf3.g 24 7))<|sQ 24 yv (rn ?_)
      obtain rfl:=sI hF6
      exact ⟨K102,Nat.lt_succ_self _,i1+1,out3,B5,c5,(hf3.a 0 0 (hf3.a 1 1 (hf3.a 5 2 (hf3.a 6 3 (hf3.a 7 4 (hf3.a 22 5 (hf3.a 23 6 (fc (congrArg (Value.int .i64) (wr_succ hlt3 hN1)) fn_)))))))),(hS7.sel [0] rfl rfl),(by omega),hL5⟩
    ·skip
     obtain rfl:K4=0:=by have h:=of_decide_eq_false hlt2; omega
     refine cw_exit rfl ?_
     exact ⟨out3,B5,c5,(sI hL4),(hf3.a 0 0 (hf3.a 1 1 (hf3.a 5 2 (hf3.a 6 3 (hf3.a 7 4 fn_))))),(hS5.sel [0] rfl rfl)⟩
   rintro f w ⟨out2,B4,c4,rfl,hf2,hS4⟩
   refine cr ?_
   refine sQ 20 (yv rfl (hf2.g 7 4))<|sQ 21 zP<|sQ 7 yu (rn ?_)
   obtain rfl:=sI hF4
   exact ⟨K22,Nat.lt_succ_self _,out2,(i64.wrap (b+1)),B4,c4,(hf2.a 0 0 (hf2.a 1 1 (hf2.a 5 2 (hf2.a 6 3 (fc rfl fn_))))),(hS4.sel [0] rfl rfl),hL3⟩
  ·skip
   have hF7:=cf' hb1 hb2
   refine cw_exit rfl ?_
   obtain rfl:=sI hF7
   obtain rfl:=sI hL3
   refine cr ?_
   refine sQ 13 (yv rfl (hf1.g 6 3))<|sQ 14 zP<|sQ 6 yu (rn ?_)
   obtain rfl:=sI hF2
   exact ⟨K2,Nat.lt_succ_self _,a+1,out1,B3,c3,(hf1.a 0 0 (hf1.a 1 1 (hf1.a 5 2 (fc (congrArg (Value.int .i64) (wr_succ hlt1 hN)) fn_)))),(hS3.sel [0] rfl rfl),(by omega),hL1⟩
 ·skip
  obtain rfl:k_=0:=by have h:=of_decide_eq_false hlt; omega
  refine cw_exit rfl ?_
  obtain rfl:=sI hL
  refine cq (cr ?_)
  refine sQ 47 (yv rfl (hf.g 5 2))<|sQ 4 yu (rn (ct_ ?_))
  obtain rfl:=sI hF1
  exact ret1 Tryz.results95 rT ⟨B2,c2,rfl,(hS1.sN [0])⟩

theorem LL (c:Ag) (lo:Int) (hi:Int) (B:Option Addr) (B1:Option Addr) (c1 n:Nat) (w0:World) (hn:c.code.length=n) (hS:ST w0 (bl [⟨B,68,[.slice B1 n c1,vi c.at_,.int .u64 c.seed],3⟩]) w0 [⟨B,68,[.slice B1 n c1,vi c.at_,.int .u64 c.seed],3⟩] [⟨B1,(c.code.flatMap enc_u8)⟩]) {r_:Ae} {m:Ag} (hF:CY c lo hi=some (r_,m)) :
  CV Tryz.prog 60 #[pt B 0,vi lo,vi hi] w0 (fun v w'=>∃ (B2:Option Addr) (c2:Nat),v=.agg #[vi r_.Nodes,.slice B2 r_.Edges.length c2]∧ST w0 (bl [⟨B,68,[.slice B1 n c1,vi c.at_,.int .u64 c.seed],3⟩]) w' [⟨B,68,[.slice B1 n c1,vi m.at_,.int .u64 m.seed],3⟩,⟨B2,118,(r_.Edges.flatMap eN1),c2*2⟩] []):=by
 subst hn
 unfold CY at hF
 refine cv_of_cw 77 Tryz.func60 rfl Tryz.ntmps60 rfl ?_
 refine cq (cr ?_)
 refine sS 6 (yN [vi 0,.slice none 0 0] 2 hS K44) ?_
 rintro _ w_ ⟨b,rfl,hS1⟩
 refine rn (cq (cr ?_))
 refine sQ 12 yv<|sQ 13 yv<|sQ 14 yv<|sQ 15 yv<|sQ 16 zM<|sQ 17 zP ?_
 obtain ⟨⟨r_1,m1⟩,hc,hF⟩:=bI hF
 refine sc 18 rfl rfl (yc K30 (A8 c (i64.wrap ((i64.wrap (hi-lo))+1)) B B1 c1 c.code.length _ rfl (hS1.inn [true,false] rfl [(true,0)] rfl) hc)) ?_
 rintro _ w_1 ⟨rfl,hd⟩
 have hS2:=hS1.out [true,false] rfl hd
 refine sQ 19 zP<|sQ 7 yu (rn (cq (cr ?_)))
 refine sQ 21 yv ?_
 obtain ⟨⟨r_2,r_3⟩,hc1,hF⟩:=bI hF
 refine sc 22 rfl rfl (yc So (Wy (i64.wrap (lo+r_1)) _  (hS2.inn0 [] rfl) hc1)) ?_
 rintro _ w_2 ⟨B3,c3,rfl,hd1⟩
 have hS3:=hS2.out0 hd1
 refine sQ 20 yv<|sQ 23 (ye (.agg #[vi r_2.Nodes,.slice B3 r_2.Edges.length c3]))<|sQ 24 (ye (.bool r_3)) ?_
 refine sS 8 (yN [vi 0,.slice none 0 0] 2 hS3 K44) ?_
 rintro _ w_3 ⟨b1,rfl,hS4⟩
 refine s0 (yK 3 2 0 hS4 K8) ?_
 rintro _ w_4 ⟨rfl,hS5⟩
 refine sQ 9 yu (rn (cq ?_))
 obtain ⟨z,hz,hF1⟩:=bI hF
 let O0:Ob:=⟨B,68,[.slice B1 c.code.length c1,vi c.at_,.int .u64 c.seed],3⟩
 let O2:Ob:=⟨aD b,25,[vi 0,.slice none 0 0],2⟩
 let R5:Ro:=⟨B1,(c.code.flatMap enc_u8)⟩
 refine cw_mid (fun f w=>∃ (at_:Int) (seed:Int) (Nodes:Int) (Edges:List Ah) (B4:Option Addr) (c4:Nat),(at_,seed,Nodes,Edges)=z∧FF f [(0,pt B 0),(6,pt (aD b) 0),(7,vi (i64.wrap (lo+r_1))),(8,pt (aD b1) 0)]∧ST w0 (bl [O0]) w [⟨B,68,[.slice B1 c.code.length c1,vi at_,.int .u64 seed],3⟩,O2,⟨aD b1,25,[vi Nodes,.slice B4 Edges.length c4],2⟩,⟨B4,118,(Edges.flatMap eN1),c4*2⟩] [R5]) ?_ ?_
 ·skip
  refine cq (cr ?_)
  refine sQ 25 yv<|sQ 26 (Y_ge rfl rfl rfl)<|sQ 27 yv ?_
  refine sgq 28 rfl rfl (uT_ 27) (fun hg=>yv) ?_
  refine rw_split (B:=(decide (3≤(i64.wrap (lo+r_1))))) (fun hb=>?_) (fun hb=>?_)
  ·skip
   have hF2:=ct hz hb
   obtain ⟨⟨r_4,m2⟩,hc2,hF2⟩:=bI hF2
   refine scg 29 rfl rfl (uT_ 27) hb (yc Gt (GS (Ag.mk c.code m1.at_ m1.seed) 4 B B1 c1 c.code.length _ rfl (hS5.inn [false,true,false,false] rfl [(true,0)] rfl) hc2) rfl (mc (gv_of hb) (mc rfl mn))) ?_
   rintro _ w_5 ⟨rfl,hd2⟩
   have hS7:=hS5.out [false,true,false,false] rfl hd2
   refine sQ 30 (Y_pickT (b:=(decide (3≤(i64.wrap (lo+r_1))))) (v:=.bool r_4) rfl rfl hb rfl) (rn ?_)
   refine cw_cond rfl (fun hb1=>?_) (fun hb1=>?_)
   ·skip
    have hF3:=ct hF2 hb1
    refine cr ?_
    refine sQ 32 yv ?_
    obtain ⟨⟨r_5,r_6⟩,hc3,hF3⟩:=bI hF3
    refine sc 33 rfl rfl (yc T3 (Qf (i64.wrap (lo+r_1)) _  (hS7.inn0 [] rfl) hc3)) ?_
    rintro _ w_6 ⟨B5,c5,rfl,hd3⟩
    have hS8:=hS7.out0 hd3
    refine sQ 31 yv<|sQ 34 (ye (.agg #[vi r_5.Nodes,.slice B5 r_5.Edges.length c5]))<|sQ 35 (ye (.bool r_6)) ?_
    refine s0 (yK 2 2 0 hS8 K8) ?_
    rintro _ w_7 ⟨rfl,hS9⟩
    refine rn ?_
    exact ⟨m2.at_,m2.seed,r_5.Nodes,r_5.Edges,B5,c5,(sI hF3),(fc rfl (fc rfl (fc rfl (fc rfl fn_)))),(hS9.sel [3,0,2,4] rfl rfl)⟩
   ·skip
    have hF4:=cf' hF2 hb1
    refine cw_skip ?_
    exact ⟨m2.at_,m2.seed,r_2.Nodes,r_2.Edges,B3,c3,(sI hF4),(fc rfl (fc rfl (fc rfl (fc rfl fn_)))),(hS7.sel [3,0,2,1] rfl rfl)⟩
  ·skip
   have hF5:=cf' hz hb
   refine sgn 29 rfl rfl (uT_ 27) hb ?_
   refine sQ 30 (Y_pickF (b:=(decide (3≤(i64.wrap (lo+r_1))))) (v:=.bool false) rfl rfl hb rfl) (rn ?_)
   refine cw_cond rfl (fun h=>by cases h) (fun _=>?_)
   refine cw_skip ?_
   exact ⟨m1.at_,m1.seed,r_2.Nodes,r_2.Edges,B3,c3,(sI hF5),(fc rfl (fc rfl (fc rfl (fc rfl fn_)))),(hS5.sel [1,0,3,2] rfl rfl)⟩
 rintro f w ⟨at_,seed,Nodes,Edges,B4,c4,rfl,hf,hS6⟩
 refine cq ?_
 obtain ⟨z1,hz1,hF6⟩:=bI hF1
 refine cw_mid (fun f w=>∃ (at_1:Int) (seed1:Int) (Edges1:List Ah) (B6:Option Addr) (c6:Nat),(at_1,seed1,Edges1)=z1∧FF f [(6,pt (aD b) 0),(8,pt (aD b1) 0)]∧ST w0 (bl [O0]) w [⟨B,68,[.slice B1 c.code.length c1,vi at_1,.int .u64 seed1],3⟩,O2,⟨aD b1,25,[vi Nodes,.slice B6 Edges1.length c6],2⟩,⟨B6,118,(Edges1.flatMap eN1),c6*2⟩] [R5]) ?_ ?_
 ·skip
  refine cq (cr ?_)
  refine sQ 36 (yv rfl (hf.g 0 0)) ?_
  obtain ⟨⟨r_7,m3⟩,hc4,hz1⟩:=bI hz1
  refine sc 37 rfl rfl (yc Gt (GS (Ag.mk c.code at_ seed) 3 B B1 c1 c.code.length _ rfl (hS6.inn [true,false,false,false] rfl [(true,0)] rfl) hc4)) ?_
  rintro _ w_8 ⟨rfl,hd4⟩
  have hS11:=hS6.out [true,false,false,false] rfl hd4
  refine rn ?_
  refine cw_cond rfl (fun hb2=>?_) (fun hb2=>?_)
  ·skip
   have hF7:=ct hz1 hb2
   refine cq (cr ?_)
   refine sQ 10 yu (rn (cq (cq (cr ?_))))
   refine sQ 11 yu (rn ?_)
   obtain ⟨z2,hz2,hF8⟩:=bI hF7
   have hS13:=hS11.addNil 150
   refine cw_block ?_
   let O1:Ob:=⟨aD b1,25,[vi Nodes,.slice B4 Edges.length c4],2⟩
   let O3:Ob:=⟨B4,118,(Edges.flatMap eN1),c4*2⟩
   refine cw_loop (fun k f w=>∃ (at_2:Int) (seed2:Int) (pairs:List (List Int)) (a:Int) (B7:Option Addr) (c7:Nat),FF f [(0,pt B 0),(6,pt (aD b) 0),(7,vi (i64.wrap (lo+r_1))),(8,pt (aD b1) 0),(10,.slice B7 pairs.length c7),(11,vi a)]∧ST w0 (bl [O0]) w [⟨B,68,[.slice B1 c.code.length c1,vi at_2,.int .u64 seed2],3⟩,O2,O1,O3,⟨B7,150,(pairs.flatMap AY),c7*2⟩] [R5]∧whX (H3 lo r_1 c) k (at_2,seed2,pairs,a)=some z2) fuel ⟨m3.at_,m3.seed,[],1,none,0,(hf.a 0 0 (hf.a 6 1 (hf.a 7 2 (hf.a 8 3 (fc rfl (fc rfl fn_)))))),(hS13.sel [3,0,1,2,4] rfl rfl),hz2⟩ ?_
   rintro k_ f w ⟨at_2,seed2,pairs,a,B7,c7,hf2,hS12,hL⟩
   obtain ⟨K2,y,rfl,hb3,hL1⟩:=whX_go hL
   unfold H3 at hb3
   refine cq (cq (cr ?_))
   refine sQ 38 (yv rfl (hf2.g 11 5))<|sQ 39 (yv rfl (hf2.g 7 2))<|sQ 40 zL (rn ?_)
   refine cw_cond rfl (fun hb4=>?_) (fun hb4=>?_)
   ·skip
    have hF9:=ct hb3 hb4
    refine cw_skip (cq (cw_block (cr ?_)))
    refine sQ 43 (yv rfl (hf2.g 10 4))<|sQ 44 (yv rfl (hf2.g 0 0))<|sQ 45 (yv rfl (hf2.g 11 5)) ?_
    obtain ⟨⟨r_8,m4⟩,hc5,hF9⟩:=bI hF9
    refine sc 46 rfl rfl (yc K30 (A8 (Ag.mk c.code at_2 seed2) a B B1 c1 c.code.length _ rfl (hS12.inn [true,false,false,false,false] rfl [(true,0)] rfl) hc5)) ?_
    rintro _ w_9 ⟨rfl,hd5⟩
    have hS14:=hS12.out [true,false,false,false,false] rfl hd5
    refine sQ 47 (yv rfl (hf2.g 11 5))<|sQ 48 (show Y _ _ _ _ _ (.agg (([r_8,a]:List Int).flatMap encI).toArray) from Y_buildA (zs:=[vi 0,vi 0]) (vs:=[(0,vi r_8),(1,vi a)]) (cs:=[vi r_8,vi a]) FU K0 Ec rfl (mpc rfl (mpc rfl mpn)) (by kernel_rfl)) ?_
    refine sS 49 (yF 2 1 [vi r_8,vi a] 2 hS14 K92 K82 Pc rfl (mpc rfl mpn)) ?_
    rintro _ w_10 ⟨b2,rfl,hS15⟩
    obtain ⟨hap,hF9⟩:=chk_inv hF9
    refine sS 50 (aP 2 16 3 pairs [([r_8,a]:List Int)] hS15 K92 K82 Ls Ec Cj Nc (hS15.c 5) hap) ?_
    rintro _ w_11 ⟨B8,c8,rfl,hS16⟩
    refine sQ 10 yu (rn (cr ?_))
    refine sQ 41 (yv rfl (hf2.g 11 5))<|sQ 42 zP<|sQ 11 yu (rn ?_)
    obtain rfl:=sI hF9
    exact ⟨K2,Nat.lt_succ_self _,m4.at_,m4.seed,(pairs++[([r_8,a]:List Int)]),(i64.wrap (a+1)),B8,c8,(hf2.a 0 0 (hf2.a 6 1 (hf2.a 7 2 (hf2.a 8 3 (fc rfl (fc rfl fn_)))))),(hS16.sel [4,0,1,2,3] rfl rfl),hL1⟩
   ·skip
    have hF10:=cf' hb3 hb4
    refine cw_exit rfl ?_
    obtain rfl:=sI hF10
    obtain rfl:=sI hL1
    refine cq ?_
    obtain ⟨z3,hz3,hF11⟩:=bI hF8
    refine cw_mid (fun f w=>∃ (at_3:Int) (seed3:Int) (pairs1:List (List Int)) (B9:Option Addr) (c9:Nat),(at_3,seed3,pairs1)=z3∧FF f [(0,pt B 0),(6,pt (aD b) 0),(7,vi (i64.wrap (lo+r_1))),(8,pt (aD b1) 0),(10,.slice B9 pairs1.length c9)]∧ST w0 (bl [O0]) w [⟨B,68,[.slice B1 c.code.length c1,vi at_3,.int .u64 seed3],3⟩,O2,O1,O3,⟨B9,150,(pairs1.flatMap AY),c9*2⟩] [R5]) ?_ ?_
    ·skip
     refine cq (cr ?_)
     refine sQ 51 (yv rfl (hf2.g 0 0)) ?_
     obtain ⟨⟨r_9,m5⟩,hc6,hz3⟩:=bI hz3
     refine sc 52 rfl rfl (yc Gt (GS (Ag.mk c.code at_2 seed2) 3 B B1 c1 c.code.length _ rfl (hS12.inn [true,false,false,false,false] rfl [(true,0)] rfl) hc6)) ?_
     rintro _ w_12 ⟨rfl,hd6⟩
     have hS18:=hS12.out [true,false,false,false,false] rfl hd6
     refine rn ?_
     refine cw_cond rfl (fun hb5=>?_) (fun hb5=>?_)
     ·skip
      have hF12:=ct hz3 hb5
      refine cr ?_
      refine sQ 53 (yv rfl (hf2.g 10 4))<|sQ 54 (yv rfl (hf2.g 0 0))<|sQ 55 (yv rfl (hf2.g 7 2)) ?_
      obtain ⟨⟨r_10,m6⟩,hc7,hF12⟩:=bI hF12
      refine sc 56 rfl rfl (yc K30 (A8 (Ag.mk c.code m5.at_ m5.seed) (i64.wrap (lo+r_1)) B B1 c1 c.code.length _ rfl (hS18.inn [false,false,false,false,true] rfl [(true,0)] rfl) hc7)) ?_
      rintro _ w_13 ⟨rfl,hd7⟩
      have hS19:=hS18.out [false,false,false,false,true] rfl hd7
      refine sQ 57 (yv rfl (hf2.g 0 0))<|sQ 58 (yv rfl (hf2.g 7 2)) ?_
      obtain ⟨⟨r_11,m7⟩,hc8,hF12⟩:=bI hF12
      refine sc 59 rfl rfl (yc K30 (A8 (Ag.mk c.code m6.at_ m6.seed) (i64.wrap (lo+r_1)) B B1 c1 c.code.length _ rfl (hS19.inn [false,false,false,false,true] rfl [(true,0)] rfl) hc8)) ?_
      rintro _ w_14 ⟨rfl,hd8⟩
      have hS20:=hS19.out [false,false,false,false,true] rfl hd8
      refine sQ 60 (show Y _ _ _ _ _ (.agg (([r_10,r_11]:List Int).flatMap encI).toArray) from Y_buildA (zs:=[vi 0,vi 0]) (vs:=[(0,vi r_10),(1,vi r_11)]) (cs:=[vi r_10,vi r_11]) FU K0 Ec rfl (mpc rfl (mpc rfl mpn)) (by kernel_rfl)) ?_
      refine sS 61 (yF 2 1 [vi r_10,vi r_11] 2 hS20 K92 K82 Pc rfl (mpc rfl mpn)) ?_
      rintro _ w_15 ⟨b3,rfl,hS21⟩
      obtain ⟨hap1,hF12⟩:=chk_inv hF12
      refine sS 62 (aP 2 16 3 pairs [([r_10,r_11]:List Int)] hS21 K92 K82 Ls Ec Cj Nc (hS21.c 5) hap1) ?_
      rintro _ w_16 ⟨B10,c10,rfl,hS22⟩
      refine sQ 10 yu (rn ?_)
      exact ⟨m7.at_,m7.seed,(pairs++[([r_10,r_11]:List Int)]),B10,c10,(sI hF12),(hf2.a 0 0 (hf2.a 6 1 (hf2.a 7 2 (hf2.a 8 3 (fc rfl fn_))))),(hS22.sel [4,0,1,2,3] rfl rfl)⟩
     ·skip
      have hF13:=cf' hz3 hb5
      refine cw_skip ?_
      exact ⟨m5.at_,m5.seed,pairs,B7,c7,(sI hF13),(hf2.a 0 0 (hf2.a 6 1 (hf2.a 7 2 (hf2.a 8 3 (hf2.a 10 4 fn_))))),(hS18.sel [4,0,1,2,3] rfl rfl)⟩
    rintro f w ⟨at_3,seed3,pairs1,B9,c9,rfl,hf3,hS17⟩
    refine cq ?_
    obtain ⟨z4,hz4,hF14⟩:=bI hF11
    refine cw_mid (fun f w=>∃ (at_4:Int) (seed4:Int) (pairs2:List (List Int)) (B11:Option Addr) (c11:Nat),(at_4,seed4,pairs2)=z4∧FF f [(6,pt (aD b) 0),(7,vi (i64.wrap (lo+r_1))),(8,pt (aD b1) 0),(10,.slice B11 pairs2.length c11)]∧Org w0 (bl [O0]) [R5] [⟨B11,(pairs2.flatMap AY)⟩]∧pairs2.length≤c11∧ST w0 (bl [O0]) w [⟨B,68,[.slice B1 c.code.length c1,vi at_4,.int .u64 seed4],3⟩,O2,O1,O3] [⟨B11,(pairs2.flatMap AY)⟩,R5]) ?_ ?_
    ·skip
     refine cq (cr ?_)
     refine sQ 63 (yv rfl (hf3.g 10 4))<|sQ 64 (Y_len K92 rfl rfl)<|sQ 65 (Y_gt rfl rfl rfl)<|sQ 66 yv ?_
     refine sgq 67 rfl rfl (uT_ 66) (fun hg1=>(yv rfl (hf3.g 0 0))) ?_
     refine rw_split (B:=(decide (0<(pairs1.length:Int)))) (fun hb6=>?_) (fun hb6=>?_)
     ·skip
      have hF15:=ct hz4 hb6
      obtain ⟨⟨r_12,m8⟩,hc9,hF15⟩:=bI hF15
      refine scg 68 rfl rfl (uT_ 66) hb6 (yc Gt (GS (Ag.mk c.code at_3 seed3) 6 B B1 c1 c.code.length _ rfl (hS17.inn [true,false,false,false,false] rfl [(true,0)] rfl) hc9) rfl (mc (gv_of hb6) (mc rfl mn))) ?_
      rintro _ w_17 ⟨rfl,hd9⟩
      have hS24:=hS17.out [true,false,false,false,false] rfl hd9
      refine sQ 69 (Y_pickT (b:=(decide (0<(pairs1.length:Int)))) (v:=.bool r_12) rfl rfl hb6 rfl) (rn ?_)
      refine cw_cond rfl (fun hb7=>?_) (fun hb7=>?_)
      ·skip
       have hF16:=ct hF15 hb7
       refine cr ?_
       refine sQ 70 (yv rfl (hf3.g 10 4)) ?_
       obtain ⟨hsl,hF16⟩:=chk_inv hF16
       have hcap:pairs1.length≤c9:=(hS24.lencap (i:=3) rfl (fm_lenn (l:=pairs1) Cj rfl) rfl rfl)
       let R6:Ro:=⟨B9,(pairs1.flatMap AY)⟩
       have ho2:Org w0 (bl [O0]) [R5] [R6]:=ST.orgOwn hS24 (i:=3) rfl
       have hcap1:pairs1.length≤c9:=(hS24.lencap (i:=3) rfl (fm_lenn (l:=pairs1) Cj rfl) rfl rfl)
       let O4:Ob:=⟨B,68,[.slice B1 c.code.length c1,vi m8.at_,.int .u64 m8.seed],3⟩
       have hS25:ST w0 (bl [O0]) _ [O2,O1,O3,O4] [R6,R5]:=hS24.freeze (i:=3) rfl
       have hv:(List.drop 1 pairs1).length=(pairs1.length-1):=(drop_len rfl)
       have hq1:(pairs1.length-1)≤(c9-1):=by omega
       have ho1:Org w0 (bl [O0]) [R5] [⟨(sv B9 1 c9 2),((List.drop 1 pairs1).flatMap AY)⟩]:=org_view Cj (q:=c9) ho2 rfl (take_all rfl _)
       have hS26:ST w0 (bl [O0]) _ [O2,O1,O3,O4] [⟨(sv B9 1 c9 2),((List.drop 1 pairs1).flatMap AY)⟩,R6,R5]:=ST.view Cj hS25 (i:=0) rfl (lo:=1) (h:=pairs1.length) (q:=c9) (by omega) (by omega) rfl (take_all rfl _)
       refine sQ 71 (Y_slice1 (B:=B9) (m:=pairs1.length) (c:=c9) (l:=1) (h:=pairs1.length) (s:=2) K92 K82 rfl rfl rfl (bnd_some rfl rfl) (by omega) (by omega))<|sQ 10 yu (rn ?_)
       have hS27:ST w0 (bl [O0]) _ [O2,O1,O3,O4] [⟨(sv B9 1 c9 2),((List.drop 1 pairs1).flatMap AY)⟩,R5]:=hS26.sT [0,2]
       exact ⟨m8.at_,m8.seed,(List.drop 1 pairs1),(sv B9 1 c9 2),(c9-1),(sI hF16),(hf3.a 6 1 (hf3.a 7 2 (hf3.a 8 3 (fc (sl_len hv rfl) fn_)))),ho1,(len_le hv hq1),(hS27.sel [3,0,1,2] rfl rfl)⟩
      ·skip
       have hF17:=cf' hF15 hb7
       refine cw_skip ?_
       have ho3:Org w0 (bl [O0]) [R5] [⟨B9,(pairs1.flatMap AY)⟩]:=ST.orgOwn hS24 (i:=3) rfl
       have hcap2:pairs1.length≤c9:=(hS24.lencap (i:=3) rfl (fm_lenn (l:=pairs1) Cj rfl) rfl rfl)
       have hS28:ST w0 (bl [O0]) _ [O2,O1,O3,⟨B,68,[.slice B1 c.code.length c1,vi m8.at_,.int .u64 m8.seed],3⟩] [⟨B9,(pairs1.flatMap AY)⟩,R5]:=hS24.freeze (i:=3) rfl
       exact ⟨m8.at_,m8.seed,pairs1,B9,c9,(sI hF17),(hf3.a 6 1 (hf3.a 7 2 (hf3.a 8 3 (hf3.a 10 4 fn_)))),ho3,(len_le rfl hcap2),(hS28.sel [3,0,1,2] rfl rfl)⟩
     ·skip
      have hF18:=cf' hz4 hb6
      refine sgn 68 rfl rfl (uT_ 66) hb6 ?_
      refine sQ 69 (Y_pickF (b:=(decide (0<(pairs1.length:Int)))) (v:=.bool false) rfl rfl hb6 rfl) (rn ?_)
      refine cw_cond rfl (fun h=>by cases h) (fun _=>?_)
      refine cw_skip ?_
      have ho4:Org w0 (bl [O0]) [R5] [⟨B9,(pairs1.flatMap AY)⟩]:=ST.orgOwn hS17 (i:=4) rfl
      have hcap3:pairs1.length≤c9:=(hS17.lencap (i:=4) rfl (fm_lenn (l:=pairs1) Cj rfl) rfl rfl)
      have hS29:ST w0 (bl [O0]) _ [⟨B,68,[.slice B1 c.code.length c1,vi at_3,.int .u64 seed3],3⟩,O2,O1,O3] [⟨B9,(pairs1.flatMap AY)⟩,R5]:=hS17.freeze (i:=4) rfl
      exact ⟨at_3,seed3,pairs1,B9,c9,(sI hF18),(hf3.a 6 1 (hf3.a 7 2 (hf3.a 8 3 (hf3.a 10 4 fn_)))),ho4,(len_le rfl hcap3),(hS29.sel [0,1,2,3] rfl rfl)⟩
    rintro f w ⟨at_4,seed4,pairs2,B11,c11,rfl,hf4,ho,hq,hS23⟩
    refine cr ?_
    refine sQ 72 (yv rfl (hf4.g 7 1))<|sQ 73 (yv rfl (hf4.g 10 3)) ?_
    obtain ⟨r_13,hc10,hF14⟩:=bI hF14
    refine sc 74 rfl rfl (yc Te (Tp (i64.wrap (lo+r_1)) pairs2 B11 c11 pairs2.length _ rfl (hS23.inn0 [(true,0)] rfl) hc10)) ?_
    rintro _ w_18 ⟨B12,c12,rfl,hd10⟩
    have hS30:=hS23.out0 hd10
    refine sQ 75 (yd (aD b1) 0 0 K50 K40 rfl (hf4.g 8 2)) ?_
    refine s0 (yS 2 1 (aD b1) 25 (.slice B12 r_13.length c12) [.slice B12 r_13.length c12] 1 [vi Nodes,.slice B12 r_13.length c12] hS30 K40) ?_
    rintro _ w_19 ⟨rfl,hS31⟩
    refine rn ?_
    have hS32:ST w0 (bl [O0]) _ [⟨B,68,[.slice B1 c.code.length c1,vi at_4,.int .u64 seed4],3⟩,O2,⟨aD b1,25,[vi Nodes,.slice B12 r_13.length c12],2⟩,O3,⟨B12,118,(r_13.flatMap eN1),c12*2⟩] [R5]:=hS31.sT [1]
    exact ⟨at_4,seed4,r_13,B12,c12,(sI hF14),(hf4.a 6 0 (hf4.a 8 2 fn_)),(hS32.sel [0,1,2,4] rfl rfl)⟩
  ·skip
   have hF19:=cf' hz1 hb2
   refine cw_skip ?_
   exact ⟨m3.at_,m3.seed,Edges,B4,c4,(sI hF19),(hf.a 6 1 (hf.a 8 3 fn_)),(hS11.sel [3,0,1,2] rfl rfl)⟩
 rintro f w ⟨at_1,seed1,Edges1,B6,c6,rfl,hf1,hS10⟩
 refine cq (cr ?_)
 refine sQ 76 (yw 0 K13 K8 (hS10.c 2) rfl (hf1.g 8 1)) ?_
 refine s0 (yK 1 2 0 hS10 K8 rfl (hf1.g 6 0)) ?_
 rintro _ w_20 ⟨rfl,hS33⟩
 refine rn (ct_ ?_)
 obtain ⟨rfl,rfl⟩:=pr2 (sI hF6)
 exact ret1 Tryz.results60 (rX K13 K8 (hS33.c 1) (hf1.g 6 0)) ⟨B6,c6,rfl,(hS33.sN [0,3])⟩

theorem Hh (l:List Int) (n1:Int) (B:Option Addr) (c n:Nat) (w0:World) (hn:l.length=n) (hS:ST w0 [] w0 [] [⟨B,(l.flatMap encI)⟩]) {r_:Bool} (hF:Ce l n1=some r_) :
  CV Tryz.prog 74 #[.slice B n c,vi n1] w0 (fun v w'=>v=.bool r_∧ST w0 [] w' [] []):=by
 subst hn
 unfold Ce at hF
 refine cv_of_cw 17 Tryz.func74 rfl Tryz.ntmps74 rfl ?_
 refine cq (cr ?_)
 refine sQ 4 yu (rn (cq (cq (cr ?_))))
 refine sQ 7 yv<|sQ 8 (Y_len K5 rfl rfl)<|sQ 9 yv (rn ?_)
 obtain ⟨hN,hF⟩:=chk_inv hF
 obtain ⟨z,hz,hF1⟩:=bI hF
 refine cw_block ?_
 refine cw_loop (fun k f w=>∃ (i:Nat),FF f [(1,vi n1),(7,.slice B l.length c),(8,vi (l.length:Int)),(9,vi (i:Int))]∧ST w0 [] w [] [⟨B,(l.flatMap encI)⟩]∧i+k=l.length∧forX (HU l n1) k i ()=some z) l.length ⟨0,(fc rfl (fc rfl (fc rfl (fc rfl fn_)))),(hS.sel [] rfl rfl),Nat.zero_add _,hz⟩ ?_
 rintro k_ f w ⟨i,hf,hS1,hik,hL⟩
 refine cq (cr ?_)
 refine sQ 10 (zL rfl (hf.g 9 3) (hf.g 8 2)) (rn (cq ?_))
 refine cw_cond rfl (fun hlt=>?_) (fun hlt=>?_)
 ·skip
  have hlt1:i<l.length:=by have h:=of_decide_eq_true hlt; omega
  obtain ⟨K2,rfl⟩:∃ k2,k_=k2+1:=⟨k_-1,by omega⟩
  obtain ⟨y,hb,hL1⟩:=forX_go hL
  unfold HU at hb
  refine cw_skip (cq (cw_block (cq (cr ?_))))
  obtain ⟨x,hx,hb⟩:=bI hb
  refine sQ 11 (yI B (i:Int) K5 K0 (gi_isSome encI_len rfl (hS1.rf (i:=0) rfl) hx) (getI_nn hx) (getI_ltI hx rfl) rfl (hf.g 7 1) (hf.g 9 3))<|sQ 12 (yz ((i:Int).toNat*1) K1 (hS1.rf (i:=0) rfl) rfl rfl (gi_at0 encI_len hx rfl))<|sQ 6 yu (rn (cq (cr ?_)))
  refine sQ 13 yv<|sQ 14 (yv rfl (hf.g 1 0))<|sQ 15 zE (rn ?_)
  refine cw_cond rfl (fun hb1=>?_) (fun hb1=>?_)
  ·skip
   have hF2:=ct hb hb1
   refine cq (cr ?_)
   refine sQ 4 yu (rn (ct_ ?_))
   obtain rfl:=sI hF2
   obtain rfl:=sI hL1
   obtain rfl:=sI hF1
   exact e1 Tryz.results74 (hS1.sN [])
  ·skip
   have hF3:=cf' hb hb1
   refine cw_skip (cr ?_)
   refine sQ 16 (zP rfl (hf.g 9 3))<|sQ 9 yv (rn ?_)
   obtain rfl:=sI hF3
   exact ⟨K2,Nat.lt_succ_self _,i+1,(hf.a 1 0 (hf.a 7 1 (hf.a 8 2 (fc (congrArg (Value.int .i64) (wr_succ hlt1 hN)) fn_)))),(hS1.sel [] rfl rfl),(by omega),hL1⟩
 ·skip
  obtain rfl:k_=0:=by have h:=of_decide_eq_false hlt; omega
  refine cw_exit rfl ?_
  obtain rfl:=sI hL
  refine cq (cr ?_)
  refine sQ 4 yu (rn (ct_ ?_))
  obtain rfl:=sI hF1
  exact e1 Tryz.results74 (hS1.sN [])

theorem Pq (c:Ag) (list:List Int) (B:Option Addr) (B1:Option Addr) (c1 n:Nat) (B2:Option Addr) (c2 n1:Nat) (w0:World) (hn:c.code.length=n) (hn1:list.length=n1) (hS:ST w0 (bl [⟨B,68,[.slice B1 n c1,vi c.at_,.int .u64 c.seed],3⟩]) w0 [⟨B,68,[.slice B1 n c1,vi c.at_,.int .u64 c.seed],3⟩] [⟨B1,(c.code.flatMap enc_u8)⟩,⟨B2,(list.flatMap encI)⟩]) {r_:Int} {m:Ag} (hF:E0 c list=some (r_,m)) :
  CV Tryz.prog 104 #[pt B 0,.slice B2 n1 c2] w0 (fun v w'=>v=vi r_∧ST w0 (bl [⟨B,68,[.slice B1 n c1,vi c.at_,.int .u64 c.seed],3⟩]) w' [⟨B,68,[.slice B1 n c1,vi m.at_,.int .u64 m.seed],3⟩] []):=by
 subst hn
 subst hn1
 unfold E0 at hF
 refine cv_of_cw 12 Tryz.func104 rfl Tryz.ntmps104 rfl ?_
 refine cq (cr ?_)
 refine sQ 4 yu (rn (cq (cr ?_)))
 refine sQ 5 yv<|sQ 6 yv<|sQ 7 yv<|sQ 8 (Y_len K5 rfl rfl) ?_
 obtain ⟨⟨r_1,m1⟩,hc,hF⟩:=bI hF
 refine sc 9 rfl rfl (yc K30 (A8 c (list.length:Int) B B1 c1 c.code.length _ rfl (hS.inn [true] rfl [(true,0)] rfl) hc)) ?_
 rintro _ w_ ⟨rfl,hd⟩
 have hS1:=hS.out [true] rfl hd
 obtain ⟨x,hx,hF⟩:=bI hF
 refine sQ 10 (yI B2 r_1 K5 K0 (gi_isSome encI_len rfl (hS1.rf (i:=1) rfl) hx) (getI_nn hx) (getI_ltI hx rfl))<|sQ 11 (yz (r_1.toNat*1) K1 (hS1.rf (i:=1) rfl) rfl rfl (gi_at0 encI_len hx rfl))<|sQ 4 yu (rn (ct_ ?_))
 obtain ⟨rfl,rfl⟩:=pr2 (sI hF)
 exact e1 Tryz.results104 (hS1.sN [0])

theorem SQ (c:Ag) (B:Option Addr) (B1:Option Addr) (c1 n:Nat) (w0:World) (hn:c.code.length=n) (hS:ST w0 (bl [⟨B,68,[.slice B1 n c1,vi c.at_,.int .u64 c.seed],3⟩]) w0 [⟨B,68,[.slice B1 n c1,vi c.at_,.int .u64 c.seed],3⟩] [⟨B1,(c.code.flatMap enc_u8)⟩]) {r_:Ad} {m:Ag} (hF:FJ c=some (r_,m)) :
  CV Tryz.prog 103 #[pt B 0] w0 (fun v w'=>∃ (B2:Option Addr) (c2:Nat),v=.agg #[vi r_.Qubits,.slice B2 r_.Gates.length c2]∧ST w0 (bl [⟨B,68,[.slice B1 n c1,vi c.at_,.int .u64 c.seed],3⟩]) w' [⟨B,68,[.slice B1 n c1,vi m.at_,.int .u64 m.seed],3⟩,⟨B2,73,(r_.Gates.flatMap eN0),c2*3⟩] []):=by
 subst hn
 unfold FJ at hF
 refine cv_of_cw 9 Tryz.func103 rfl Tryz.ntmps103 rfl ?_
 refine cq (cr ?_)
 refine sS 2 (yN [vi 0,.slice none 0 0] 2 hS K27) ?_
 rintro _ w_ ⟨b,rfl,hS1⟩
 refine rn (cq (cr ?_))
 refine sQ 3 yv<|sQ 4 yv ?_
 refine sS 5 (yF 1 4 [vi 1,vi 2,vi 2,vi 3] 4 hS1 K5 K0 K52 rfl (mpc rfl (mpc rfl (mpc rfl (mpc rfl mpn))))) ?_
 rintro _ w_1 ⟨b1,rfl,hS2⟩
 obtain ⟨⟨r_1,m1⟩,hc,hF⟩:=bI hF
 refine sc 6 rfl rfl (yc OB (Pq c [1,2,2,3] B B1 c1 c.code.length (aD b1) 4 4 _ rfl rfl (hS2.inn [true,false,false] rfl [(true,0),(false,1)] rfl) hc)) ?_
 rintro _ w_2 ⟨rfl,hd⟩
 have hS3:=hS2.out [true,false,false] rfl hd
 refine sS 7 (yF 1 15 [vi 1,vi 2,vi 3,vi 4,vi 5,vi 6,vi 7,vi 8,vi 9,vi 9,vi 10,vi 11,vi 12,vi 7,vi 1] 15 hS3 K5 K0 K52 rfl (mpc rfl (mpc rfl (mpc rfl (mpc rfl (mpc rfl (mpc rfl (mpc rfl (mpc rfl (mpc rfl (mpc rfl (mpc rfl (mpc rfl (mpc rfl (mpc rfl (mpc rfl mpn)))))))))))))))) ?_
 rintro _ w_3 ⟨b2,rfl,hS4⟩
 obtain ⟨⟨r_2,m2⟩,hc1,hF⟩:=bI hF
 refine sc 8 rfl rfl (yc JN (JM (Ag.mk c.code m1.at_ m1.seed) r_1 8 [1,2,3,4,5,6,7,8,9,9,10,11,12,7,1] B B1 c1 c.code.length (aD b2) 15 15 _ rfl rfl (hS4.inn [false,false,true,false] rfl [(true,0),(false,2)] rfl) hc1)) ?_
 rintro _ w_4 ⟨B3,c3,rfl,hd1⟩
 have hS5:=hS4.out [false,false,true,false] rfl hd1
 refine s0 (yK 0 2 0 hS5 K3) ?_
 rintro _ w_5 ⟨rfl,hS6⟩
 refine rn (ct_ ?_)
 obtain ⟨rfl,rfl⟩:=pr2 (sI hF)
 exact ret1 Tryz.results103 (rX K10 K3 (hS6.c 0)) ⟨B3,c3,rfl,(hS6.sN [3,4])⟩

theorem VV (c:Ag) (B:Option Addr) (B1:Option Addr) (c1 n:Nat) (w0:World) (hn:c.code.length=n) (hS:ST w0 (bl [⟨B,68,[.slice B1 n c1,vi c.at_,.int .u64 c.seed],3⟩]) w0 [⟨B,68,[.slice B1 n c1,vi c.at_,.int .u64 c.seed],3⟩] [⟨B1,(c.code.flatMap enc_u8)⟩]) {r_:Ad} {m:Ag} (hF:FB c=some (r_,m)) :
  CV Tryz.prog 75 #[pt B 0] w0 (fun v w'=>∃ (B2:Option Addr) (c2:Nat),v=.agg #[vi r_.Qubits,.slice B2 r_.Gates.length c2]∧ST w0 (bl [⟨B,68,[.slice B1 n c1,vi c.at_,.int .u64 c.seed],3⟩]) w' [⟨B,68,[.slice B1 n c1,vi m.at_,.int .u64 m.seed],3⟩,⟨B2,73,(r_.Gates.flatMap eN0),c2*3⟩] []):=by
 subst hn
 unfold FB at hF
 refine cv_of_cw 31 Tryz.func75 rfl Tryz.ntmps75 rfl ?_
 refine cq (cr ?_)
 refine sS 2 (yN [vi 0,.slice none 0 0] 2 hS K27) ?_
 rintro _ w_ ⟨b,rfl,hS1⟩
 refine rn (cq (cr ?_))
 refine sQ 4 yv ?_
 obtain ⟨⟨r_1,m1⟩,hc,hF⟩:=bI hF
 refine sc 5 rfl rfl (yc VJ (SQ c B B1 c1 c.code.length _ rfl (hS1.inn [true,false] rfl [(true,0)] rfl) hc)) ?_
 rintro _ w_1 ⟨B3,c3,rfl,hd⟩
 have hS2:=hS1.out [true,false] rfl hd
 refine sS 3 (yN [vi 0,.slice none 0 0] 2 hS2 K27) ?_
 rintro _ w_2 ⟨b1,rfl,hS3⟩
 refine s0 (yK 3 2 0 hS3 K3) ?_
 rintro _ w_3 ⟨rfl,hS4⟩
 refine rn (cq ?_)
 obtain ⟨z,hz,hF1⟩:=bI hF
 let O1:Ob:=⟨B,68,[.slice B1 c.code.length c1,vi c.at_,.int .u64 c.seed],3⟩
 let O2:Ob:=⟨aD b,28,[vi 0,.slice none 0 0],2⟩
 let R4:Ro:=⟨B1,(c.code.flatMap enc_u8)⟩
 refine cw_mid (fun f w=>∃ (at_:Int) (seed:Int) (Qubits:Int) (Gates:List Ac) (B4:Option Addr) (c4:Nat),(at_,seed,Qubits,Gates)=z∧FF f [(2,pt (aD b) 0),(3,pt (aD b1) 0)]∧ST w0 (bl [O1]) w [⟨B,68,[.slice B1 c.code.length c1,vi at_,.int .u64 seed],3⟩,O2,⟨aD b1,28,[vi Qubits,.slice B4 Gates.length c4],2⟩,⟨B4,73,(Gates.flatMap eN0),c4*3⟩] [R4]) ?_ ?_
 ·skip
  refine cq (cr ?_)
  refine sQ 6 yv ?_
  obtain ⟨⟨r_2,m2⟩,hc1,hz⟩:=bI hz
  refine sc 7 rfl rfl (yc K30 (A8 (Ag.mk c.code m1.at_ m1.seed) 14 B B1 c1 c.code.length _ rfl (hS4.inn [false,true,false,false] rfl [(true,0)] rfl) hc1)) ?_
  rintro _ w_4 ⟨rfl,hd1⟩
  have hS6:=hS4.out [false,true,false,false] rfl hd1
  refine rn (cw_block (cq (cr ?_)))
  refine sQ 9 zE<|sQ 8 yu (rn ?_)
  refine cw_cond rfl (fun hb=>?_) (fun hb=>?_)
  ·skip
   have hF2:=ct hz hb
   refine cr ?_
   refine sQ 10 yv ?_
   refine sS 11 (yF 1 4 [vi 0,vi 1,vi 5,vi 6] 4 hS6 K5 K0 K52 rfl (mpc rfl (mpc rfl (mpc rfl (mpc rfl mpn))))) ?_
   rintro _ w_5 ⟨b2,rfl,hS7⟩
   obtain ⟨⟨r_3,m3⟩,hc2,hF2⟩:=bI hF2
   refine sc 12 rfl rfl (yc OB (Pq (Ag.mk c.code m2.at_ m2.seed) [0,1,5,6] B B1 c1 c.code.length (aD b2) 4 4 _ rfl rfl (hS7.inn [false,false,false,true,false] rfl [(true,0),(false,3)] rfl) hc2)) ?_
   rintro _ w_6 ⟨rfl,hd2⟩
   have hS8:=hS7.out [false,false,false,true,false] rfl hd2
   refine sQ 13 (yd (aD b1) 0 0 K42 K0) ?_
   refine s0 (yS 2 1 (aD b1) 28 (vi r_3) [vi r_3] 0 [vi r_3,.slice B3 r_1.Gates.length c3] hS8 K0) ?_
   rintro _ w_7 ⟨rfl,hS9⟩
   refine rn ?_
   exact ⟨m3.at_,m3.seed,r_3,r_1.Gates,B3,c3,(sI hF2),(fc rfl (fc rfl fn_)),(hS9.sel [4,0,2,1] rfl rfl)⟩
  ·skip
   have hF3:=cf' hz hb
   refine cq (cr ?_)
   refine sQ 15 zE<|sQ 14 yu (rn ?_)
   refine cw_cond rfl (fun hb1=>?_) (fun hb1=>?_)
   ·skip
    have hF4:=ct hF3 hb1
    obtain ⟨⟨r_4,m4⟩,hc3,hF4⟩:=bI hF4
    obtain ⟨⟨r_5,m5⟩,hc4,hF4⟩:=bI hF4
    obtain ⟨⟨r_6,m6⟩,hc5,hF4⟩:=bI hF4
    obtain ⟨hap,hF4⟩:=chk_inv hF4
    let O0:Ob:=⟨B,68,[.slice B1 c.code.length c1,vi m6.at_,.int .u64 m6.seed],3⟩
    refine cw_mid (fun f w=>∃ (B6:Option Addr) (c6:Nat),FF f [(2,pt (aD b) 0),(3,pt (aD b1) 0)]∧ST w0 (bl [O1]) w [O0,O2,⟨aD b1,28,[vi r_1.Qubits,.slice B6 ((r_1.Gates++[(Ac.mk r_4 (i64.wrap (r_5-1)) (i64.wrap (r_6-1)))]).length) c6],2⟩,⟨B6,73,((r_1.Gates++[(Ac.mk r_4 (i64.wrap (r_5-1)) (i64.wrap (r_6-1)))]).flatMap eN0),c6*3⟩] [R4]) ?_ ?_
    ·skip
     refine ra_start (hS6.se [0]).fn (by kernel_rfl) ?_
     have hS14:=hS6.drew
     have hQ0:=hS14.se [0]
     refine rq 0 16 rfl hQ0 (fun _ q=>(yd (aD b1) 0 0 K19 K15))<|rq 2 18 rfl hQ0 (fun _ q=>yv)<|rq 4 20 rfl hQ0 (fun _ q=>yv)<|rq 7 23 rfl hQ0 (fun _ q=>yv) ?_
     refine rA [1,3] ?_
     refine ry 17 1 rfl (yz 1 K21 (hS14.c 2)) hQ0 ?_ ?_
     ·skip
      refine rA [3] ?_
      refine rC 19 3 rfl (yc K30 (A8 (Ag.mk c.code m2.at_ m2.seed) 14 B B1 c1 c.code.length _ rfl (hS14.inn [false,false,false,true] rfl [(true,0)] rfl) hc3)) ?_ aN
      rintro _ w_8 ⟨rfl,hd3⟩
      have hS15:=hS14.out [false,false,false,true] rfl hd3
      refine ⟨(hS15.se [0]),?_⟩
      refine rA [5] ?_
      refine rC 21 5 rfl (yc K30 (A8 (Ag.mk c.code m4.at_ m4.seed) 4 B B1 c1 c.code.length _ rfl (hS15.inn [false,false,false,true] rfl [(true,0)] rfl) hc4)) ?_ aN
      rintro _ w_9 ⟨rfl,hd4⟩
      have hS16:=hS15.out [false,false,false,true] rfl hd4
      refine ⟨(hS16.se [0]),?_⟩
      refine rq 6 22 rfl (hS16.se [0]) (fun _ q=>zM) ?_
      refine rA [8] ?_
      refine rC 24 8 rfl (yc K30 (A8 (Ag.mk c.code m5.at_ m5.seed) 4 B B1 c1 c.code.length _ rfl (hS16.inn [false,false,false,true] rfl [(true,0)] rfl) hc5)) ?_ aN
      rintro _ w_10 ⟨rfl,hd5⟩
      have hS17:=hS16.out [false,false,false,true] rfl hd5
      have hQ1:=hS17.se [0]
      refine ⟨hQ1,?_⟩
      refine rq 9 25 rfl hQ1 (fun _ q=>zM)<|rq 10 26 rfl hQ1 (fun _ q=>(Y_buildS (zs:=[vi 0,vi 0,vi 0]) (vs:=[(0,vi r_4),(1,vi (i64.wrap (r_5-1))),(2,vi (i64.wrap (r_6-1)))]) (cs:=[vi r_4,vi (i64.wrap (r_5-1)),vi (i64.wrap (r_6-1))]) K80 K28 rfl (mpc rfl (mpc rfl (mpc rfl mpn))) rfl)) ?_
      refine rA [11] ?_
      refine rS 27 11 rfl (yF 3 1 [vi r_4,vi (i64.wrap (r_5-1)),vi (i64.wrap (r_6-1))] 3 hS17 K12 K7 K74 rfl (mpc rfl mpn)) ?_ aN
      rintro _ w_11 ⟨b3,rfl,hS18⟩
      refine ⟨(hS18.se [0]),?_⟩
      refine rA [12] ?_
      refine rS 28 12 rfl (aP 3 24 1 r_1.Gates [(Ac.mk r_4 (i64.wrap (r_5-1)) (i64.wrap (r_6-1)))] hS18 K12 K7 K66 K28 eN8 BP (hS18.c 4) hap) ?_ aN
      rintro _ w_12 ⟨B5,c5,rfl,hS19⟩
      refine ⟨(hS19.se [0]),?_⟩
      refine rq 13 29 rfl (hS19.se [0]) (fun _ q=>(yd (aD b1) 0 0 K19 K15)) ?_
      refine rA [14] ?_
      refine rZ 14 rfl (yS 2 1 (aD b1) 28 (.slice B5 ((r_1.Gates++[(Ac.mk r_4 (i64.wrap (r_5-1)) (i64.wrap (r_6-1)))]).length) c5) [.slice B5 ((r_1.Gates++[(Ac.mk r_4 (i64.wrap (r_5-1)) (i64.wrap (r_6-1)))]).length) c5] 1 [vi r_1.Qubits,.slice B5 ((r_1.Gates++[(Ac.mk r_4 (i64.wrap (r_5-1)) (i64.wrap (r_6-1)))]).length) c5] hS19 K15) ?_ aN
      rintro _ w_13 ⟨rfl,hS20⟩
      refine ⟨(hS20.se [0]),?_⟩
      refine ra_done (by kernel_rfl) ?_
      exact ⟨B5,c5,(fc rfl (fc rfl fn_)),(hS20.sel [3,0,2,1] rfl rfl)⟩
     refine rC 19 3 rfl (yc K30 (A8 (Ag.mk c.code m2.at_ m2.seed) 14 B B1 c1 c.code.length _ rfl (hS14.inn [false,false,false,true] rfl [(true,0)] rfl) hc3)) ?_ aN
     rintro _ w_14 ⟨rfl,hd6⟩
     have hS21:=hS14.out [false,false,false,true] rfl hd6
     refine ⟨(hS21.se [0]),?_⟩
     refine rA [1,5] ?_
     refine ry 17 1 rfl (yz 1 K21 (hS21.c 2)) (hS21.se [0]) ?_ ?_
     ·skip
      refine rA [5] ?_
      refine rC 21 5 rfl (yc K30 (A8 (Ag.mk c.code m4.at_ m4.seed) 4 B B1 c1 c.code.length _ rfl (hS21.inn [false,false,false,true] rfl [(true,0)] rfl) hc4)) ?_ aN
      rintro _ w_15 ⟨rfl,hd7⟩
      have hS22:=hS21.out [false,false,false,true] rfl hd7
      refine ⟨(hS22.se [0]),?_⟩
      refine rq 6 22 rfl (hS22.se [0]) (fun _ q=>zM) ?_
      refine rA [8] ?_
      refine rC 24 8 rfl (yc K30 (A8 (Ag.mk c.code m5.at_ m5.seed) 4 B B1 c1 c.code.length _ rfl (hS22.inn [false,false,false,true] rfl [(true,0)] rfl) hc5)) ?_ aN
      rintro _ w_16 ⟨rfl,hd8⟩
      have hS23:=hS22.out [false,false,false,true] rfl hd8
      have hQ2:=hS23.se [0]
      refine ⟨hQ2,?_⟩
      refine rq 9 25 rfl hQ2 (fun _ q=>zM)<|rq 10 26 rfl hQ2 (fun _ q=>(Y_buildS (zs:=[vi 0,vi 0,vi 0]) (vs:=[(0,vi r_4),(1,vi (i64.wrap (r_5-1))),(2,vi (i64.wrap (r_6-1)))]) (cs:=[vi r_4,vi (i64.wrap (r_5-1)),vi (i64.wrap (r_6-1))]) K80 K28 rfl (mpc rfl (mpc rfl (mpc rfl mpn))) rfl)) ?_
      refine rA [11] ?_
      refine rS 27 11 rfl (yF 3 1 [vi r_4,vi (i64.wrap (r_5-1)),vi (i64.wrap (r_6-1))] 3 hS23 K12 K7 K74 rfl (mpc rfl mpn)) ?_ aN
      rintro _ w_17 ⟨b3,rfl,hS24⟩
      refine ⟨(hS24.se [0]),?_⟩
      refine rA [12] ?_
      refine rS 28 12 rfl (aP 3 24 1 r_1.Gates [(Ac.mk r_4 (i64.wrap (r_5-1)) (i64.wrap (r_6-1)))] hS24 K12 K7 K66 K28 eN8 BP (hS24.c 4) hap) ?_ aN
      rintro _ w_18 ⟨B5,c5,rfl,hS25⟩
      refine ⟨(hS25.se [0]),?_⟩
      refine rq 13 29 rfl (hS25.se [0]) (fun _ q=>(yd (aD b1) 0 0 K19 K15)) ?_
      refine rA [14] ?_
      refine rZ 14 rfl (yS 2 1 (aD b1) 28 (.slice B5 ((r_1.Gates++[(Ac.mk r_4 (i64.wrap (r_5-1)) (i64.wrap (r_6-1)))]).length) c5) [.slice B5 ((r_1.Gates++[(Ac.mk r_4 (i64.wrap (r_5-1)) (i64.wrap (r_6-1)))]).length) c5] 1 [vi r_1.Qubits,.slice B5 ((r_1.Gates++[(Ac.mk r_4 (i64.wrap (r_5-1)) (i64.wrap (r_6-1)))]).length) c5] hS25 K15) ?_ aN
      rintro _ w_19 ⟨rfl,hS26⟩
      refine ⟨(hS26.se [0]),?_⟩
      refine ra_done (by kernel_rfl) ?_
      exact ⟨B5,c5,(fc rfl (fc rfl fn_)),(hS26.sel [3,0,2,1] rfl rfl)⟩
     refine rC 21 5 rfl (yc K30 (A8 (Ag.mk c.code m4.at_ m4.seed) 4 B B1 c1 c.code.length _ rfl (hS21.inn [false,false,false,true] rfl [(true,0)] rfl) hc4)) ?_ aN
     rintro _ w_20 ⟨rfl,hd9⟩
     have hS27:=hS21.out [false,false,false,true] rfl hd9
     have hQ3:=hS27.se [0]
     refine ⟨hQ3,?_⟩
     refine rq 6 22 rfl hQ3 (fun _ q=>zM) ?_
     refine rA [1,8] ?_
     refine ry 17 1 rfl (yz 1 K21 (hS27.c 2)) hQ3 ?_ ?_
     ·skip
      refine rA [8] ?_
      refine rC 24 8 rfl (yc K30 (A8 (Ag.mk c.code m5.at_ m5.seed) 4 B B1 c1 c.code.length _ rfl (hS27.inn [false,false,false,true] rfl [(true,0)] rfl) hc5)) ?_ aN
      rintro _ w_21 ⟨rfl,hd10⟩
      have hS28:=hS27.out [false,false,false,true] rfl hd10
      have hQ4:=hS28.se [0]
      refine ⟨hQ4,?_⟩
      refine rq 9 25 rfl hQ4 (fun _ q=>zM)<|rq 10 26 rfl hQ4 (fun _ q=>(Y_buildS (zs:=[vi 0,vi 0,vi 0]) (vs:=[(0,vi r_4),(1,vi (i64.wrap (r_5-1))),(2,vi (i64.wrap (r_6-1)))]) (cs:=[vi r_4,vi (i64.wrap (r_5-1)),vi (i64.wrap (r_6-1))]) K80 K28 rfl (mpc rfl (mpc rfl (mpc rfl mpn))) rfl)) ?_
      refine rA [11] ?_
      refine rS 27 11 rfl (yF 3 1 [vi r_4,vi (i64.wrap (r_5-1)),vi (i64.wrap (r_6-1))] 3 hS28 K12 K7 K74 rfl (mpc rfl mpn)) ?_ aN
      rintro _ w_22 ⟨b3,rfl,hS29⟩
      refine ⟨(hS29.se [0]),?_⟩
      refine rA [12] ?_
      refine rS 28 12 rfl (aP 3 24 1 r_1.Gates [(Ac.mk r_4 (i64.wrap (r_5-1)) (i64.wrap (r_6-1)))] hS29 K12 K7 K66 K28 eN8 BP (hS29.c 4) hap) ?_ aN
      rintro _ w_23 ⟨B5,c5,rfl,hS30⟩
      refine ⟨(hS30.se [0]),?_⟩
      refine rq 13 29 rfl (hS30.se [0]) (fun _ q=>(yd (aD b1) 0 0 K19 K15)) ?_
      refine rA [14] ?_
      refine rZ 14 rfl (yS 2 1 (aD b1) 28 (.slice B5 ((r_1.Gates++[(Ac.mk r_4 (i64.wrap (r_5-1)) (i64.wrap (r_6-1)))]).length) c5) [.slice B5 ((r_1.Gates++[(Ac.mk r_4 (i64.wrap (r_5-1)) (i64.wrap (r_6-1)))]).length) c5] 1 [vi r_1.Qubits,.slice B5 ((r_1.Gates++[(Ac.mk r_4 (i64.wrap (r_5-1)) (i64.wrap (r_6-1)))]).length) c5] hS30 K15) ?_ aN
      rintro _ w_24 ⟨rfl,hS31⟩
      refine ⟨(hS31.se [0]),?_⟩
      refine ra_done (by kernel_rfl) ?_
      exact ⟨B5,c5,(fc rfl (fc rfl fn_)),(hS31.sel [3,0,2,1] rfl rfl)⟩
     refine rC 24 8 rfl (yc K30 (A8 (Ag.mk c.code m5.at_ m5.seed) 4 B B1 c1 c.code.length _ rfl (hS27.inn [false,false,false,true] rfl [(true,0)] rfl) hc5)) ?_ aN
     rintro _ w_25 ⟨rfl,hd11⟩
     have hS32:=hS27.out [false,false,false,true] rfl hd11
     have hQ5:=hS32.se [0]
     refine ⟨hQ5,?_⟩
     let V6:List Value:=[vi r_4,vi (i64.wrap (r_5-1)),vi (i64.wrap (r_6-1))]
     refine rq 9 25 rfl hQ5 (fun _ q=>zM)<|rq 10 26 rfl hQ5 (fun _ q=>(Y_buildS (zs:=[vi 0,vi 0,vi 0]) (vs:=[(0,vi r_4),(1,vi (i64.wrap (r_5-1))),(2,vi (i64.wrap (r_6-1)))]) (cs:=V6) K80 K28 rfl (mpc rfl (mpc rfl (mpc rfl mpn))) rfl)) ?_
     let O3:Ob:=⟨aD b1,28,[vi r_1.Qubits,.slice B3 r_1.Gates.length c3],2⟩
     refine rf_in (k:=4) (ts:=[26]) (L:=[O2,⟨B3,73,(r_1.Gates.flatMap eN0),c3*3⟩,O3,O0]) (G:=[]) [fM 11 27 73 ([(Ac.mk r_4 (i64.wrap (r_5-1)) (i64.wrap (r_6-1)))].flatMap eN0) (1*3) 1 1] hS32 (flc rfl rfl rfl (fun _ _ _ _ hf_ h=>(Ys_bslice (s:=3) (len:=1) (vs:=[(0,.agg V6.toArray)]) (cs:=V6) (zs:=[vi 0,vi 0,vi 0]) (m:=3) h K12 K7 K74 rfl (mpc ((hf_ 26 (List.Mem.head _)).trans rfl) mpn) rfl rfl rfl (by kernel_rfl) (by kernel_rfl) rfl)) fln) (fun hJ=>?_)
     refine rf_all [1] hJ (fun Z w h=>(ST.sel (ST.noF h) [0] rfl rfl)) (fun Z w_26 hz1 hS33=>?_)
     refine ry 17 1 rfl (yz 1 K21 (hS33.c 2)) (hS33.se [0]) ?_ aN
     refine (rf_k (L:=[O2,⟨B3,73,(r_1.Gates.flatMap eN0),c3*3⟩,O3,O0]) hz1 hS33 (fun Z w h=>(ST.sel (ST.noF h) [0] rfl rfl)) ?_).2
     refine rf_force hJ (fun Z w h=>(ST.sel (ST.noF h) [0] rfl rfl)) (fun b3=>?_)
     refine rf_out (fun w_27 hS34=>?_)
     refine rA [12] ?_
     refine rS 28 12 rfl (aP 3 24 1 r_1.Gates [(Ac.mk r_4 (i64.wrap (r_5-1)) (i64.wrap (r_6-1)))] hS34 K12 K7 K66 K28 eN8 BP (hS34.c 4) hap) ?_ aN
     rintro _ w_28 ⟨B5,c5,rfl,hS35⟩
     refine ⟨(hS35.se [0]),?_⟩
     refine rq 13 29 rfl (hS35.se [0]) (fun _ q=>(yd (aD b1) 0 0 K19 K15)) ?_
     refine rA [14] ?_
     let V5:List Value:=[vi r_1.Qubits,.slice B5 ((r_1.Gates++[(Ac.mk r_4 (i64.wrap (r_5-1)) (i64.wrap (r_6-1)))]).length) c5]
     refine rZ 14 rfl (yS 2 1 (aD b1) 28 (.slice B5 ((r_1.Gates++[(Ac.mk r_4 (i64.wrap (r_5-1)) (i64.wrap (r_6-1)))]).length) c5) [.slice B5 ((r_1.Gates++[(Ac.mk r_4 (i64.wrap (r_5-1)) (i64.wrap (r_6-1)))]).length) c5] 1 V5 hS35 K15) ?_ aN
     rintro _ w_29 ⟨rfl,hS36⟩
     have hS36:ST w0 (bl [O1]) _ [O2,⟨B5,73,((r_1.Gates++[(Ac.mk r_4 (i64.wrap (r_5-1)) (i64.wrap (r_6-1)))]).flatMap eN0),c5*3⟩,⟨aD b1,28,V5,2⟩,O0,⟨aD b3,73,([(Ac.mk r_4 (i64.wrap (r_5-1)) (i64.wrap (r_6-1)))].flatMap eN0),1*3⟩] [R4]:=hS36
     refine ⟨(hS36.se [0]),?_⟩
     refine ra_done (by kernel_rfl) ?_
     exact ⟨B5,c5,(fc rfl (fc rfl fn_)),(hS36.sel [3,0,2,1] rfl rfl)⟩
    rintro f w ⟨B6,c6,hf1,hS13⟩
    exact ⟨m6.at_,m6.seed,r_1.Qubits,(r_1.Gates++[(Ac.mk r_4 (i64.wrap (r_5-1)) (i64.wrap (r_6-1)))]),B6,c6,(sI hF4),(hf1.a 2 0 (hf1.a 3 1 fn_)),(hS13.sel [0,1,2,3] rfl rfl)⟩
   ·skip
    have hF5:=cf' hF3 hb1
    refine cw_skip ?_
    exact ⟨m2.at_,m2.seed,r_1.Qubits,r_1.Gates,B3,c3,(sI hF5),(fc rfl (fc rfl fn_)),(hS6.sel [3,0,2,1] rfl rfl)⟩
 rintro f w ⟨at_,seed,Qubits,Gates,B4,c4,rfl,hf,hS5⟩
 refine cq (cr ?_)
 refine sQ 30 (yw 0 K10 K3 (hS5.c 2) rfl (hf.g 3 1)) ?_
 refine s0 (yK 1 2 0 hS5 K3 rfl (hf.g 2 0)) ?_
 rintro _ w_30 ⟨rfl,hS37⟩
 refine rn (ct_ ?_)
 obtain ⟨rfl,rfl⟩:=pr2 (sI hF1)
 exact ret1 Tryz.results75 (rX K10 K3 (hS37.c 1) (hf.g 2 0)) ⟨B4,c4,rfl,(hS37.sN [0,3])⟩

theorem Lq (c:Ag) (B:Option Addr) (B1:Option Addr) (c1 n:Nat) (w0:World) (hn:c.code.length=n) (hS:ST w0 (bl [⟨B,68,[.slice B1 n c1,vi c.at_,.int .u64 c.seed],3⟩]) w0 [⟨B,68,[.slice B1 n c1,vi c.at_,.int .u64 c.seed],3⟩] [⟨B1,(c.code.flatMap enc_u8)⟩]) {r_:Ae} {r_1:Ad} {r_2:List Int} {m:Ag} (hF:DG c=some (r_,r_1,r_2,m)) :
  CV Tryz.prog 31 #[pt B 0] w0 (fun v w'=>∃ (B2:Option Addr) (c2:Nat) (B3:Option Addr) (c3:Nat) (B4:Option Addr) (c4:Nat),v=.tuple #[.agg #[vi r_.Nodes,.slice B2 r_.Edges.length c2],.agg #[vi r_1.Qubits,.slice B3 r_1.Gates.length c3],.slice B4 r_2.length c4]∧r_2.length≤c4∧Org w0 (bl [⟨B,68,[.slice B1 n c1,vi c.at_,.int .u64 c.seed],3⟩]) [⟨B1,(c.code.flatMap enc_u8)⟩] [⟨B4,(r_2.flatMap encI)⟩]∧ST w0 (bl [⟨B,68,[.slice B1 n c1,vi c.at_,.int .u64 c.seed],3⟩]) w' [⟨B,68,[.slice B1 n c1,vi m.at_,.int .u64 m.seed],3⟩,⟨B2,118,(r_.Edges.flatMap eN1),c2*2⟩,⟨B3,73,(r_1.Gates.flatMap eN0),c3*3⟩] [⟨B4,(r_2.flatMap encI)⟩]):=by
 subst hn
 unfold DG at hF
 refine cv_of_cw 77 Tryz.func31 rfl Tryz.ntmps31 rfl ?_
 refine cq (cr ?_)
 let V12:List Value:=[vi 0,.slice none 0 0]
 refine sS 2 (yN V12 2 hS K44) ?_
 rintro _ w_ ⟨b,rfl,hS1⟩
 refine sS 3 (yN V12 2 hS1 K27) ?_
 rintro _ w_1 ⟨b1,rfl,hS2⟩
 refine sQ 4 yu (rn (cq (cr ?_)))
 refine sQ 11 yv ?_
 obtain ⟨⟨r_3,m1⟩,hc,hF⟩:=bI hF
 refine sc 12 rfl rfl (yc K30 (A8 c 3 B B1 c1 c.code.length _ rfl (hS2.inn [true,false,false] rfl [(true,0)] rfl) hc)) ?_
 rintro _ w_2 ⟨rfl,hd⟩
 have hS3:=hS2.out [true,false,false] rfl hd
 refine sQ 13 zP<|sQ 5 yu (rn (cq (cr ?_)))
 refine sQ 14 yv<|sQ 15 yv ?_
 refine sS 16 (yF 1 9 [vi 1,vi 7,vi 9,vi 9,vi 9,vi 9,vi 10,vi 11,vi 12] 9 hS3 K5 K0 K52 rfl (mpc rfl (mpc rfl (mpc rfl (mpc rfl (mpc rfl (mpc rfl (mpc rfl (mpc rfl (mpc rfl mpn)))))))))) ?_
 rintro _ w_3 ⟨b2,rfl,hS4⟩
 obtain ⟨⟨r_4,m2⟩,hc1,hF⟩:=bI hF
 refine sc 17 rfl rfl (yc JN (JM (Ag.mk c.code m1.at_ m1.seed) (i64.wrap (2+r_3)) 9 [1,7,9,9,9,9,10,11,12] B B1 c1 c.code.length (aD b2) 9 9 _ rfl rfl (hS4.inn [false,false,true,false] rfl [(true,0),(false,2)] rfl) hc1)) ?_
 rintro _ w_4 ⟨B5,c5,rfl,hd1⟩
 have hS5:=hS4.out [false,false,true,false] rfl hd1
 refine sS 6 (yN V12 2 hS5 K27) ?_
 rintro _ w_5 ⟨b3,rfl,hS6⟩
 refine s0 (yK 5 2 0 hS6 K3) ?_
 rintro _ w_6 ⟨rfl,hS7⟩
 refine rn (cq (cr ?_))
 refine sQ 18 yv<|sQ 19 yv ?_
 obtain ⟨⟨r_5,m3⟩,hc2,hF⟩:=bI hF
 refine sc 20 rfl rfl (yc Lo (LL (Ag.mk c.code m2.at_ m2.seed) (i64.wrap (2+r_3)) 5 B B1 c1 c.code.length _ rfl (hS7.inn [false,false,false,true,false,false] rfl [(true,0)] rfl) hc2)) ?_
 rintro _ w_7 ⟨B6,c6,rfl,hd2⟩
 have hS8:=hS7.out [false,false,false,true,false,false] rfl hd2
 refine sS 7 (yN V12 2 hS8 K44) ?_
 rintro _ w_8 ⟨b4,rfl,hS9⟩
 refine s0 (yK 7 2 0 hS9 K8) ?_
 rintro _ w_9 ⟨rfl,hS10⟩
 refine rn (cq (cr ?_))
 refine sQ 8 yu (rn (cq (cq (cr ?_))))
 refine sQ 9 yu (rn ?_)
 obtain ⟨hN,hF⟩:=chk_inv hF
 obtain ⟨z,hz,hF1⟩:=bI hF
 have hS12:=hS10.addNil 3
 refine cw_block ?_
 let O0:Ob:=⟨B,68,[.slice B1 c.code.length c1,vi c.at_,.int .u64 c.seed],3⟩
 let O1:Ob:=⟨aD b3,28,[vi r_4.Qubits,.slice B5 r_4.Gates.length c5],2⟩
 let O2:Ob:=⟨aD b4,25,[vi r_5.Nodes,.slice B6 r_5.Edges.length c6],2⟩
 let O3:Ob:=⟨aD b1,28,V12,2⟩
 let O4:Ob:=⟨aD b,25,V12,2⟩
 let O5:Ob:=⟨B5,73,(r_4.Gates.flatMap eN0),c5*3⟩
 let O6:Ob:=⟨B6,118,(r_5.Edges.flatMap eN1),c6*2⟩
 let R10:Ro:=⟨B1,(c.code.flatMap enc_u8)⟩
 refine cw_loop (fun k f w=>∃ (q:Nat) (at_:Int) (seed:Int) (start:List Int) (B7:Option Addr) (c7:Nat),FF f [(0,pt B 0),(2,pt (aD b) 0),(3,pt (aD b1) 0),(5,vi (i64.wrap (2+r_3))),(6,pt (aD b3) 0),(7,pt (aD b4) 0),(8,.slice B7 start.length c7),(9,vi (q:Int))]∧ST w0 (bl [O0]) w [⟨B,68,[.slice B1 c.code.length c1,vi at_,.int .u64 seed],3⟩,O4,O3,O1,O5,O2,O6,⟨B7,3,(start.flatMap encI),c7*1⟩] [R10]∧q+k=(i64.wrap (2+r_3)).toNat∧forN (GM c r_5) k q (at_,seed,start)=some z) ((i64.wrap (2+r_3)).toNat) ⟨0,m3.at_,m3.seed,[],none,0,(fc rfl (fc rfl (fc rfl (fc rfl (fc rfl (fc rfl (fc rfl (fc rfl fn_)))))))),(hS12.sel [5,0,1,4,3,7,6,8] rfl rfl),Nat.zero_add _,hz⟩ ?_
 rintro k_ f w ⟨q,at_,seed,start,B7,c7,hf,hS11,hik,hL⟩
 refine cq (cq (cr ?_))
 refine sQ 21 (yv rfl (hf.g 9 7))<|sQ 22 (yv rfl (hf.g 5 3))<|sQ 23 zL (rn ?_)
 refine cw_cond rfl (fun hlt=>?_) (fun hlt=>?_)
 ·skip
  have hlt1:q<(i64.wrap (2+r_3)).toNat:=by have h:=of_decide_eq_true hlt; omega
  obtain ⟨K2,rfl⟩:∃ k2,k_=k2+1:=⟨k_-1,by omega⟩
  obtain ⟨y,hb,hL1⟩:=forN_go hL
  unfold GM at hb
  refine cw_skip (cq (cw_block (cq (cr ?_))))
  refine sQ 26 (yv rfl (hf.g 0 0))<|sQ 27 (yd (aD b4) 0 0 K45 K0 rfl (hf.g 7 5))<|sQ 28 (yz 0 K1 (hS11.c 5)) ?_
  obtain ⟨⟨r_6,m4⟩,hc3,hb⟩:=bI hb
  refine sc 29 rfl rfl (yc K30 (A8 (Ag.mk c.code at_ seed) r_5.Nodes B B1 c1 c.code.length _ rfl (hS11.inn [true,false,false,false,false,false,false,false] rfl [(true,0)] rfl) hc3)) ?_
  rintro _ w_10 ⟨rfl,hd3⟩
  have hS13:=hS11.out [true,false,false,false,false,false,false,false] rfl hd3
  refine sQ 10 yu (rn (cq ?_))
  obtain ⟨z1,hz1,hF2⟩:=bI hb
  refine cw_block ?_
  refine cw_loop (fun k f w=>∃ (K11:Int),FF f [(0,pt B 0),(2,pt (aD b) 0),(3,pt (aD b1) 0),(5,vi (i64.wrap (2+r_3))),(6,pt (aD b3) 0),(7,pt (aD b4) 0),(8,.slice B7 start.length c7),(9,vi (q:Int)),(10,vi K11)]∧ST w0 (bl [O0]) w [⟨B,68,[.slice B1 c.code.length c1,vi m4.at_,.int .u64 m4.seed],3⟩,O4,O3,O1,O5,O2,O6,⟨B7,3,(start.flatMap encI),c7*1⟩] [R10]∧whX (Gm start r_5) k K11=some z1) fuel ⟨r_6,(hf.a 0 0 (hf.a 2 1 (hf.a 3 2 (hf.a 5 3 (hf.a 6 4 (hf.a 7 5 (hf.a 8 6 (hf.a 9 7 (fc rfl fn_))))))))),(hS13.sel [7,0,1,2,3,4,5,6] rfl rfl),hz1⟩ ?_
  rintro K22 f w ⟨K11,hf1,hS14,hL2⟩
  obtain ⟨K4,y1,rfl,hb1,hL3⟩:=whX_go hL2
  unfold Gm at hb1
  refine cq (cq (cr ?_))
  refine sQ 30 (yv rfl (hf1.g 8 6))<|sQ 31 (yv rfl (hf1.g 10 8)) ?_
  obtain ⟨r_7,hc4,hb1⟩:=bI hb1
  refine sc 32 rfl rfl (yc GG (Hh start K11 B7 c7 start.length _ rfl (hS14.inn0 [(false,7)] rfl) hc4)) ?_
  rintro _ w_11 ⟨rfl,hd4⟩
  have hS15:=hS14.out00 hd4
  refine rn ?_
  refine cw_cond rfl (fun hb2=>?_) (fun hb2=>?_)
  ·skip
   have hF3:=ct hb1 hb2
   refine cw_skip (cw_block (cr ?_))
   refine sQ 33 (yv rfl (hf1.g 10 8))<|sQ 34 zP<|sQ 35 (yd (aD b4) 0 0 K45 K0 rfl (hf1.g 7 5))<|sQ 36 (yz 0 K1 (hS15.c 5)) ?_
   obtain ⟨hne,hF3⟩:=chk_inv hF3
   refine sQ 37 (Y_rem (k:=.i64) (a:=(i64.wrap (K11+1))) (b:=r_5.Nodes) rfl rfl rfl hne)<|sQ 10 yu (rn ?_)
   obtain rfl:=sI hF3
   exact ⟨K4,Nat.lt_succ_self _,(Int.tmod (i64.wrap (K11+1)) r_5.Nodes),(hf1.a 0 0 (hf1.a 2 1 (hf1.a 3 2 (hf1.a 5 3 (hf1.a 6 4 (hf1.a 7 5 (hf1.a 8 6 (hf1.a 9 7 (fc rfl fn_))))))))),(hS15.sel [0,1,2,3,4,5,6,7] rfl rfl),hL3⟩
  ·skip
   have hF4:=cf' hb1 hb2
   refine cw_exit rfl ?_
   obtain rfl:=sI hF4
   obtain rfl:=sI hL3
   refine cr ?_
   refine sQ 38 (yv rfl (hf1.g 8 6))<|sQ 39 (yv rfl (hf1.g 10 8)) ?_
   refine sS 40 (yF 1 1 [vi K11] 1 hS15 K5 K0 K52 rfl (mpc rfl mpn)) ?_
   rintro _ w_12 ⟨b5,rfl,hS16⟩
   obtain ⟨hap,hF2⟩:=chk_inv hF2
   refine sS 41 (aP 1 8 7 start [K11] hS16 K5 K0 K83 K75 encI_len encI_one (hS16.c 8) hap) ?_
   rintro _ w_13 ⟨B8,c8,rfl,hS17⟩
   refine sQ 8 yu (rn (cr ?_))
   refine sQ 24 (yv rfl (hf1.g 9 7))<|sQ 25 zP<|sQ 9 yu (rn ?_)
   obtain rfl:=sI hF2
   exact ⟨K2,Nat.lt_succ_self _,q+1,m4.at_,m4.seed,(start++[K11]),B8,c8,(hf1.a 0 0 (hf1.a 2 1 (hf1.a 3 2 (hf1.a 5 3 (hf1.a 6 4 (hf1.a 7 5 (fc rfl (fc (congrArg (Value.int .i64) (wr_succ hlt1 hN)) fn_)))))))),(hS17.sel [0,1,2,3,4,5,6,7] rfl rfl),(by omega),hL1⟩
 ·skip
  obtain rfl:k_=0:=by have h:=of_decide_eq_false hlt; omega
  refine cw_exit rfl ?_
  obtain rfl:=sI hL
  refine cq ?_
  obtain ⟨z2,hz2,hF5⟩:=bI hF1
  refine cw_mid (fun f w=>∃ (at_1:Int) (seed1:Int) (Qubits:Int) (Gates:List Ac) (Edges:List Ah) (start1:List Int) (B9:Option Addr) (c9:Nat) (B10:Option Addr) (c10:Nat) (B11:Option Addr) (c11:Nat),(at_1,seed1,Qubits,Gates,Edges,start1)=z2∧FF f [(2,pt (aD b) 0),(3,pt (aD b1) 0),(6,pt (aD b3) 0),(7,pt (aD b4) 0),(8,.slice B11 start1.length c11)]∧Org w0 (bl [O0]) [R10] [⟨B11,(start1.flatMap encI)⟩]∧start1.length≤c11∧ST w0 (bl [O0]) w [⟨B,68,[.slice B1 c.code.length c1,vi at_1,.int .u64 seed1],3⟩,O4,O3,⟨aD b3,28,[vi Qubits,.slice B9 Gates.length c9],2⟩,⟨B9,73,(Gates.flatMap eN0),c9*3⟩,⟨aD b4,25,[vi r_5.Nodes,.slice B10 Edges.length c10],2⟩,⟨B10,118,(Edges.flatMap eN1),c10*2⟩] [⟨B11,(start1.flatMap encI)⟩,R10]) ?_ ?_
  ·skip
   refine cq (cr ?_)
   refine sQ 42 (yv rfl (hf.g 0 0)) ?_
   obtain ⟨⟨r_8,m5⟩,hc5,hz2⟩:=bI hz2
   refine sc 43 rfl rfl (yc K30 (A8 (Ag.mk c.code at_ seed) 16 B B1 c1 c.code.length _ rfl (hS11.inn [true,false,false,false,false,false,false,false] rfl [(true,0)] rfl) hc5)) ?_
   rintro _ w_14 ⟨rfl,hd5⟩
   have hS19:=hS11.out [true,false,false,false,false,false,false,false] rfl hd5
   refine rn (cw_block (cq (cr ?_)))
   refine sQ 45 zE<|sQ 44 yu (rn ?_)
   refine cw_cond rfl (fun hb3=>?_) (fun hb3=>?_)
   ·skip
    have hF6:=ct hz2 hb3
    refine cr ?_
    refine sQ 46 (yv rfl (hf.g 0 0)) ?_
    obtain ⟨⟨r_9,m6⟩,hc6,hF6⟩:=bI hF6
    refine sc 47 rfl rfl (yc SZ (VV (Ag.mk c.code m5.at_ m5.seed) B B1 c1 c.code.length _ rfl (hS19.inn [false,false,false,false,false,false,false,true] rfl [(true,0)] rfl) hc6)) ?_
    rintro _ w_15 ⟨B12,c12,rfl,hd6⟩
    have hS20:=hS19.out [false,false,false,false,false,false,false,true] rfl hd6
    refine s0 (yK 2 2 0 hS20 K3 rfl (hf.g 6 4)) ?_
    rintro _ w_16 ⟨rfl,hS21⟩
    refine rn ?_
    have ho1:Org w0 (bl [O0]) [R10] [⟨B7,(start.flatMap encI)⟩]:=ST.orgOwn hS21 (i:=6) rfl
    have hcap:start.length≤c7:=(hS21.lencap (i:=6) rfl (fm_lenn (l:=start) encI_len rfl) rfl rfl)
    have hS22:ST w0 (bl [O0]) _ [O4,O3,⟨aD b3,28,[vi r_9.Qubits,.slice B12 r_9.Gates.length c12],2⟩,O5,O2,O6,⟨B,68,[.slice B1 c.code.length c1,vi m6.at_,.int .u64 m6.seed],3⟩,⟨B12,73,(r_9.Gates.flatMap eN0),c12*3⟩] [⟨B7,(start.flatMap encI)⟩,R10]:=hS21.freeze (i:=6) rfl
    exact ⟨m6.at_,m6.seed,r_9.Qubits,r_9.Gates,r_5.Edges,start,B12,c12,B6,c6,B7,c7,(sI hF6),(hf.a 2 1 (hf.a 3 2 (hf.a 6 4 (hf.a 7 5 (hf.a 8 6 fn_))))),ho1,(len_le rfl hcap),(hS22.sel [6,0,1,2,7,4,5] rfl rfl)⟩
   ·skip
    have hF7:=cf' hz2 hb3
    refine cq (cr ?_)
    refine sQ 49 zE<|sQ 48 yu (rn ?_)
    refine cw_cond rfl (fun hb4=>?_) (fun hb4=>?_)
    ·skip
     have hF8:=ct hF7 hb4
     obtain ⟨⟨r_10,m7⟩,hc7,hF8⟩:=bI hF8
     obtain ⟨⟨r_11,m8⟩,hc8,hF8⟩:=bI hF8
     obtain ⟨hap1,hF8⟩:=chk_inv hF8
     let O7:Ob:=⟨B,68,[.slice B1 c.code.length c1,vi m8.at_,.int .u64 m8.seed],3⟩
     let O9:Ob:=⟨B7,3,(start.flatMap encI),c7*1⟩
     refine cw_mid (fun f w=>∃ (B14:Option Addr) (c14:Nat),FF f [(2,pt (aD b) 0),(3,pt (aD b1) 0),(6,pt (aD b3) 0),(7,pt (aD b4) 0),(8,.slice B7 start.length c7)]∧ST w0 (bl [O0]) w [O7,O4,O3,O1,O5,⟨aD b4,25,[vi r_5.Nodes,.slice B14 ((r_5.Edges++[(Ah.mk r_10 r_11)]).length) c14],2⟩,⟨B14,118,((r_5.Edges++[(Ah.mk r_10 r_11)]).flatMap eN1),c14*2⟩,O9] [R10]) ?_ ?_
     ·skip
      refine ra_start (hS19.se [0,1,2,3,6]).fn (by kernel_rfl) ?_
      have hS26:=hS19.drew
      have hQ0:=hS26.se [0,1,2,3,6]
      refine rq 0 50 rfl hQ0 (fun _ q=>(yd (aD b4) 0 0 K50 K40 rfl (hf.g 7 5)))<|rq 2 52 rfl hQ0 (fun _ q=>(yv rfl (hf.g 0 0)))<|rq 4 54 rfl hQ0 (fun _ q=>(yv rfl (hf.g 0 0))) ?_
      refine rA [1,3] ?_
      refine ry 51 1 rfl (yz 1 K69 (hS26.c 4)) hQ0 ?_ ?_
      ·skip
       refine rA [3] ?_
       refine rC 53 3 rfl (yc K30 (A8 (Ag.mk c.code m5.at_ m5.seed) 4 B B1 c1 c.code.length _ rfl (hS26.inn [false,false,false,false,false,false,false,true] rfl [(true,0)] rfl) hc7)) ?_ aN
       rintro _ w_17 ⟨rfl,hd7⟩
       have hS27:=hS26.out [false,false,false,false,false,false,false,true] rfl hd7
       refine ⟨(hS27.se [0,1,2,3,6]),?_⟩
       refine rA [5] ?_
       refine rC 55 5 rfl (yc K30 (A8 (Ag.mk c.code m7.at_ m7.seed) 6 B B1 c1 c.code.length _ rfl (hS27.inn [false,false,false,false,false,false,false,true] rfl [(true,0)] rfl) hc8)) ?_ aN
       rintro _ w_18 ⟨rfl,hd8⟩
       have hS28:=hS27.out [false,false,false,false,false,false,false,true] rfl hd8
       refine ⟨(hS28.se [0,1,2,3,6]),?_⟩
       refine rq 6 56 rfl (hS28.se [0,1,2,3,6]) (fun _ q=>(Y_buildS (zs:=[vi 0,vi 0]) (vs:=[(0,vi r_10),(1,vi r_11)]) (cs:=[vi r_10,vi r_11]) Ef K51 rfl (mpc rfl (mpc rfl mpn)) rfl)) ?_
       refine rA [7] ?_
       refine rS 57 7 rfl (yF 2 1 [vi r_10,vi r_11] 2 hS28 K34 K20 Fs rfl (mpc rfl mpn)) ?_ aN
       rintro _ w_19 ⟨b6,rfl,hS29⟩
       refine ⟨(hS29.se [0,1,2,3,6]),?_⟩
       refine rA [8] ?_
       refine rS 58 8 rfl (aP 2 16 5 r_5.Edges [(Ah.mk r_10 r_11)] hS29 K34 K20 Gi K51 A6 FC (hS29.c 8) hap1) ?_ aN
       rintro _ w_20 ⟨B13,c13,rfl,hS30⟩
       refine ⟨(hS30.se [0,1,2,3,6]),?_⟩
       refine rq 9 59 rfl (hS30.se [0,1,2,3,6]) (fun _ q=>(yd (aD b4) 0 0 K50 K40 rfl (hf.g 7 5))) ?_
       refine rA [10] ?_
       refine rZ 10 rfl (yS 4 1 (aD b4) 25 (.slice B13 ((r_5.Edges++[(Ah.mk r_10 r_11)]).length) c13) [.slice B13 ((r_5.Edges++[(Ah.mk r_10 r_11)]).length) c13] 1 [vi r_5.Nodes,.slice B13 ((r_5.Edges++[(Ah.mk r_10 r_11)]).length) c13] hS30 K40) ?_ aN
       rintro _ w_21 ⟨rfl,hS31⟩
       refine ⟨(hS31.se [0,1,2,3,6]),?_⟩
       refine ra_done (by kernel_rfl) ?_
       exact ⟨B13,c13,(hf.a 2 1 (hf.a 3 2 (hf.a 6 4 (hf.a 7 5 (hf.a 8 6 fn_))))),(hS31.sel [7,0,1,2,3,4,5,6] rfl rfl)⟩
      refine rC 53 3 rfl (yc K30 (A8 (Ag.mk c.code m5.at_ m5.seed) 4 B B1 c1 c.code.length _ rfl (hS26.inn [false,false,false,false,false,false,false,true] rfl [(true,0)] rfl) hc7)) ?_ aN
      rintro _ w_22 ⟨rfl,hd9⟩
      have hS32:=hS26.out [false,false,false,false,false,false,false,true] rfl hd9
      refine ⟨(hS32.se [0,1,2,3,6]),?_⟩
      refine rA [1,5] ?_
      refine ry 51 1 rfl (yz 1 K69 (hS32.c 4)) (hS32.se [0,1,2,3,6]) ?_ ?_
      ·skip
       refine rA [5] ?_
       refine rC 55 5 rfl (yc K30 (A8 (Ag.mk c.code m7.at_ m7.seed) 6 B B1 c1 c.code.length _ rfl (hS32.inn [false,false,false,false,false,false,false,true] rfl [(true,0)] rfl) hc8)) ?_ aN
       rintro _ w_23 ⟨rfl,hd10⟩
       have hS33:=hS32.out [false,false,false,false,false,false,false,true] rfl hd10
       refine ⟨(hS33.se [0,1,2,3,6]),?_⟩
       refine rq 6 56 rfl (hS33.se [0,1,2,3,6]) (fun _ q=>(Y_buildS (zs:=[vi 0,vi 0]) (vs:=[(0,vi r_10),(1,vi r_11)]) (cs:=[vi r_10,vi r_11]) Ef K51 rfl (mpc rfl (mpc rfl mpn)) rfl)) ?_
       refine rA [7] ?_
       refine rS 57 7 rfl (yF 2 1 [vi r_10,vi r_11] 2 hS33 K34 K20 Fs rfl (mpc rfl mpn)) ?_ aN
       rintro _ w_24 ⟨b6,rfl,hS34⟩
       refine ⟨(hS34.se [0,1,2,3,6]),?_⟩
       refine rA [8] ?_
       refine rS 58 8 rfl (aP 2 16 5 r_5.Edges [(Ah.mk r_10 r_11)] hS34 K34 K20 Gi K51 A6 FC (hS34.c 8) hap1) ?_ aN
       rintro _ w_25 ⟨B13,c13,rfl,hS35⟩
       refine ⟨(hS35.se [0,1,2,3,6]),?_⟩
       refine rq 9 59 rfl (hS35.se [0,1,2,3,6]) (fun _ q=>(yd (aD b4) 0 0 K50 K40 rfl (hf.g 7 5))) ?_
       refine rA [10] ?_
       refine rZ 10 rfl (yS 4 1 (aD b4) 25 (.slice B13 ((r_5.Edges++[(Ah.mk r_10 r_11)]).length) c13) [.slice B13 ((r_5.Edges++[(Ah.mk r_10 r_11)]).length) c13] 1 [vi r_5.Nodes,.slice B13 ((r_5.Edges++[(Ah.mk r_10 r_11)]).length) c13] hS35 K40) ?_ aN
       rintro _ w_26 ⟨rfl,hS36⟩
       refine ⟨(hS36.se [0,1,2,3,6]),?_⟩
       refine ra_done (by kernel_rfl) ?_
       exact ⟨B13,c13,(hf.a 2 1 (hf.a 3 2 (hf.a 6 4 (hf.a 7 5 (hf.a 8 6 fn_))))),(hS36.sel [7,0,1,2,3,4,5,6] rfl rfl)⟩
      refine rC 55 5 rfl (yc K30 (A8 (Ag.mk c.code m7.at_ m7.seed) 6 B B1 c1 c.code.length _ rfl (hS32.inn [false,false,false,false,false,false,false,true] rfl [(true,0)] rfl) hc8)) ?_ aN
      rintro _ w_27 ⟨rfl,hd11⟩
      have hS37:=hS32.out [false,false,false,false,false,false,false,true] rfl hd11
      refine ⟨(hS37.se [0,1,2,3,6]),?_⟩
      refine rq 6 56 rfl (hS37.se [0,1,2,3,6]) (fun _ q=>(Y_buildS (zs:=[vi 0,vi 0]) (vs:=[(0,vi r_10),(1,vi r_11)]) (cs:=[vi r_10,vi r_11]) Ef K51 rfl (mpc rfl (mpc rfl mpn)) rfl)) ?_
      refine rf_in (k:=4) (ts:=[56]) (L:=[O4,O3,O1,O5,O2,O6,O9,O7]) (G:=[]) [fM 7 57 118 ([(Ah.mk r_10 r_11)].flatMap eN1) (1*2) 1 1] hS37 (flc rfl rfl rfl (fun _ _ _ _ hf_ h=>(Ys_bslice (s:=2) (len:=1) (vs:=[(0,.agg #[vi r_10,vi r_11])]) (cs:=[vi r_10,vi r_11]) (zs:=[vi 0,vi 0]) (m:=2) h K34 K20 Fs rfl (mpc ((hf_ 56 (List.Mem.head _)).trans rfl) mpn) rfl rfl rfl (by kernel_rfl) (by kernel_rfl) rfl)) fln) (fun hJ=>?_)
      refine rf_all [1] hJ (fun Z w h=>(ST.sel (ST.noF h) [0,1,2,3,6] rfl rfl)) (fun Z w_28 hz3 hS38=>?_)
      refine ry 51 1 rfl (yz 1 K69 (hS38.c 4)) (hS38.se [0,1,2,3,6]) ?_ aN
      refine (rf_k (L:=[O4,O3,O1,O5,O2,O6,O9,O7]) hz3 hS38 (fun Z w h=>(ST.sel (ST.noF h) [0,1,2,3,6] rfl rfl)) ?_).2
      refine rf_force hJ (fun Z w h=>(ST.sel (ST.noF h) [0,1,2,3,6] rfl rfl)) (fun b6=>?_)
      refine rf_out (fun w_29 hS39=>?_)
      have hS39:ST w0 (bl [O0]) _ [O4,O3,O1,O5,O2,O6,O9,O7,⟨aD b6,118,([(Ah.mk r_10 r_11)].flatMap eN1),1*2⟩] [R10]:=hS39
      refine rA [8] ?_
      refine rS 58 8 rfl (aP 2 16 5 r_5.Edges [(Ah.mk r_10 r_11)] hS39 K34 K20 Gi K51 A6 FC (hS39.c 8) hap1) ?_ aN
      rintro _ w_30 ⟨B13,c13,rfl,hS40⟩
      refine ⟨(hS40.se [0,1,2,3,6]),?_⟩
      refine rq 9 59 rfl (hS40.se [0,1,2,3,6]) (fun _ q=>(yd (aD b4) 0 0 K50 K40 rfl (hf.g 7 5))) ?_
      refine rA [10] ?_
      refine rZ 10 rfl (yS 4 1 (aD b4) 25 (.slice B13 ((r_5.Edges++[(Ah.mk r_10 r_11)]).length) c13) [.slice B13 ((r_5.Edges++[(Ah.mk r_10 r_11)]).length) c13] 1 [vi r_5.Nodes,.slice B13 ((r_5.Edges++[(Ah.mk r_10 r_11)]).length) c13] hS40 K40) ?_ aN
      rintro _ w_31 ⟨rfl,hS41⟩
      refine ⟨(hS41.se [0,1,2,3,6]),?_⟩
      refine ra_done (by kernel_rfl) ?_
      exact ⟨B13,c13,(hf.a 2 1 (hf.a 3 2 (hf.a 6 4 (hf.a 7 5 (hf.a 8 6 fn_))))),(hS41.sel [7,0,1,2,3,4,5,6] rfl rfl)⟩
     rintro f w ⟨B14,c14,hf3,hS25⟩
     have ho2:Org w0 (bl [O0]) [R10] [⟨B7,(start.flatMap encI)⟩]:=ST.orgOwn hS25 (i:=7) rfl
     have hcap1:start.length≤c7:=(hS25.lencap (i:=7) rfl (fm_lenn (l:=start) encI_len rfl) rfl rfl)
     have hS42:ST w0 (bl [O0]) _ [O7,O4,O3,O1,O5,⟨aD b4,25,[vi r_5.Nodes,.slice B14 ((r_5.Edges++[(Ah.mk r_10 r_11)]).length) c14],2⟩,⟨B14,118,((r_5.Edges++[(Ah.mk r_10 r_11)]).flatMap eN1),c14*2⟩] [⟨B7,(start.flatMap encI)⟩,R10]:=hS25.freeze (i:=7) rfl
     exact ⟨m8.at_,m8.seed,r_4.Qubits,r_4.Gates,(r_5.Edges++[(Ah.mk r_10 r_11)]),start,B5,c5,B14,c14,B7,c7,(sI hF8),(hf3.a 2 0 (hf3.a 3 1 (hf3.a 6 2 (hf3.a 7 3 (hf3.a 8 4 fn_))))),ho2,(len_le rfl hcap1),(hS42.sel [0,1,2,3,4,5,6] rfl rfl)⟩
    ·skip
     have hF9:=cf' hF7 hb4
     refine cq (cr ?_)
     refine sQ 61 zE<|sQ 60 yu (rn ?_)
     refine cw_cond rfl (fun hb5=>?_) (fun hb5=>?_)
     ·skip
      have hF10:=ct hF9 hb5
      refine cr ?_
      refine sQ 62 (yv rfl (hf.g 8 6))<|sQ 63 (yv rfl (hf.g 0 0))<|sQ 64 (yv rfl (hf.g 5 3)) ?_
      obtain ⟨⟨r_12,m9⟩,hc9,hF10⟩:=bI hF10
      refine sc 65 rfl rfl (yc K30 (A8 (Ag.mk c.code m5.at_ m5.seed) (i64.wrap (2+r_3)) B B1 c1 c.code.length _ rfl (hS19.inn [false,false,false,false,false,false,false,true] rfl [(true,0)] rfl) hc9)) ?_
      rintro _ w_32 ⟨rfl,hd12⟩
      have hS43:=hS19.out [false,false,false,false,false,false,false,true] rfl hd12
      refine sQ 66 (yv rfl (hf.g 0 0)) ?_
      obtain ⟨⟨r_13,m10⟩,hc10,hF10⟩:=bI hF10
      refine sc 67 rfl rfl (yc K30 (A8 (Ag.mk c.code m9.at_ m9.seed) 7 B B1 c1 c.code.length _ rfl (hS43.inn [false,false,false,false,false,false,false,true] rfl [(true,0)] rfl) hc10)) ?_
      rintro _ w_33 ⟨rfl,hd13⟩
      have hS44:=hS43.out [false,false,false,false,false,false,false,true] rfl hd13
      refine sQ 68 zM ?_
      obtain ⟨x,hx,hF10⟩:=bI hF10
      refine sQ 69 (yI B7 r_12 K5 K0 (gi_isSome encI_len rfl (hS44.c 6) hx) (getI_nn hx) (getI_ltI hx rfl)) ?_
      refine s0 (yS 6 1 B7 3 (vi (i64.wrap (r_13-1))) [vi (i64.wrap (r_13-1))] (r_12.toNat*1) ((start.set r_12.toNat (i64.wrap (r_13-1))).flatMap encI) hS44 K0 rfl rfl rfl rfl rfl rfl rfl (gi_fit0 encI_len hx) (gi_set encI_len hx (i64.wrap (r_13-1)) rfl)) ?_
      rintro _ w_34 ⟨rfl,hS45⟩
      refine rn ?_
      let R11:Ro:=⟨B7,((start.set r_12.toNat (i64.wrap (r_13-1))).flatMap encI)⟩
      have ho3:Org w0 (bl [O0]) [R10] [R11]:=ST.orgOwn hS45 (i:=6) rfl
      have hcap2:start.length≤c7:=(hS45.lencap (i:=6) rfl (fm_lenn (l:=(start.set r_12.toNat (i64.wrap (r_13-1)))) encI_len (set_len _ _ _ rfl)) rfl rfl)
      have hS46:ST w0 (bl [O0]) _ [O4,O3,O1,O5,O2,O6,⟨B,68,[.slice B1 c.code.length c1,vi m10.at_,.int .u64 m10.seed],3⟩] [R11,R10]:=hS45.freeze (i:=6) rfl
      exact ⟨m10.at_,m10.seed,r_4.Qubits,r_4.Gates,r_5.Edges,(start.set r_12.toNat (i64.wrap (r_13-1))),B5,c5,B6,c6,B7,c7,(sI hF10),(hf.a 2 1 (hf.a 3 2 (hf.a 6 4 (hf.a 7 5 (fc (sl_len (set_len _ _ _ rfl) (hf.g 8 6)) fn_))))),ho3,(len_le (set_len _ _ _ rfl) hcap2),(hS46.sel [6,0,1,2,3,4,5] rfl rfl)⟩
     ·skip
      have hF11:=cf' hF9 hb5
      refine cq (cr ?_)
      refine sQ 71 zE<|sQ 70 yu (rn ?_)
      refine cw_cond rfl (fun hb6=>?_) (fun hb6=>?_)
      ·skip
       have hF12:=ct hF11 hb6
       refine cr ?_
       refine sQ 72 (yv rfl (hf.g 8 6)) ?_
       obtain ⟨hsl,hF12⟩:=chk_inv hF12
       have hcap3:start.length≤c7:=(hS19.lencap (i:=6) rfl (fm_lenn (l:=start) encI_len rfl) rfl rfl)
       have ho5:Org w0 (bl [O0]) [R10] [⟨B7,(start.flatMap encI)⟩]:=ST.orgOwn hS19 (i:=6) rfl
       have hcap4:start.length≤c7:=(hS19.lencap (i:=6) rfl (fm_lenn (l:=start) encI_len rfl) rfl rfl)
       let O8:Ob:=⟨B,68,[.slice B1 c.code.length c1,vi m5.at_,.int .u64 m5.seed],3⟩
       have hS47:ST w0 (bl [O0]) _ [O4,O3,O1,O5,O2,O6,O8] [⟨B7,(start.flatMap encI)⟩,R10]:=hS19.freeze (i:=6) rfl
       have hv:(List.drop 1 start).length=(start.length-1):=(drop_len rfl)
       have hq1:(start.length-1)≤(c7-1):=by omega
       have ho4:Org w0 (bl [O0]) [R10] [⟨(sv B7 1 c7 1),((List.drop 1 start).flatMap encI)⟩]:=org_view encI_len (q:=c7) ho5 rfl (take_all rfl _)
       have hS48:ST w0 (bl [O0]) _ [O4,O3,O1,O5,O2,O6,O8] [⟨(sv B7 1 c7 1),((List.drop 1 start).flatMap encI)⟩,⟨B7,(start.flatMap encI)⟩,R10]:=ST.view encI_len hS47 (i:=0) rfl (lo:=1) (h:=start.length) (q:=c7) (by omega) (by omega) rfl (take_all rfl _)
       refine sQ 73 (Y_slice1 (B:=B7) (m:=start.length) (c:=c7) (l:=1) (h:=start.length) (s:=1) K5 K0 rfl rfl rfl (bnd_some rfl rfl) (by omega) (by omega))<|sQ 8 yu (rn ?_)
       have hS49:ST w0 (bl [O0]) _ [O4,O3,O1,O5,O2,O6,O8] [⟨(sv B7 1 c7 1),((List.drop 1 start).flatMap encI)⟩,R10]:=hS48.sT [0,2]
       exact ⟨m5.at_,m5.seed,r_4.Qubits,r_4.Gates,r_5.Edges,(List.drop 1 start),B5,c5,B6,c6,(sv B7 1 c7 1),(c7-1),(sI hF12),(hf.a 2 1 (hf.a 3 2 (hf.a 6 4 (hf.a 7 5 (fc (sl_len hv rfl) fn_))))),ho4,(len_le hv hq1),(hS49.sel [6,0,1,2,3,4,5] rfl rfl)⟩
      ·skip
       have hF13:=cf' hF11 hb6
       refine cw_skip ?_
       have ho6:Org w0 (bl [O0]) [R10] [⟨B7,(start.flatMap encI)⟩]:=ST.orgOwn hS19 (i:=6) rfl
       have hcap5:start.length≤c7:=(hS19.lencap (i:=6) rfl (fm_lenn (l:=start) encI_len rfl) rfl rfl)
       have hS50:ST w0 (bl [O0]) _ [O4,O3,O1,O5,O2,O6,⟨B,68,[.slice B1 c.code.length c1,vi m5.at_,.int .u64 m5.seed],3⟩] [⟨B7,(start.flatMap encI)⟩,R10]:=hS19.freeze (i:=6) rfl
       exact ⟨m5.at_,m5.seed,r_4.Qubits,r_4.Gates,r_5.Edges,start,B5,c5,B6,c6,B7,c7,(sI hF13),(hf.a 2 1 (hf.a 3 2 (hf.a 6 4 (hf.a 7 5 (hf.a 8 6 fn_))))),ho6,(len_le rfl hcap5),(hS50.sel [6,0,1,2,3,4,5] rfl rfl)⟩
  rintro f w ⟨at_1,seed1,Qubits,Gates,Edges,start1,B9,c9,B10,c10,B11,c11,rfl,hf2,ho,hq,hS18⟩
  refine cq ?_
  refine ra_start (hS18.se [0,3,4,5,6]).fn (by kernel_rfl) ?_
  have hS51:=hS18.drew
  have hQ1:=hS51.se [0,3,4,5,6]
  refine rq 0 74 rfl hQ1 (fun _ q=>(yw 0 K13 K8 (ST.c q 3) rfl (hf2.g 7 3)))<|rq 1 75 rfl hQ1 (fun _ q=>(yw 0 K10 K3 (ST.c q 1) rfl (hf2.g 6 2)))<|rq 2 76 rfl hQ1 (fun _ q=>(yv rfl (hf2.g 8 4))) ?_
  refine rA [3] ?_
  refine rZ 3 rfl (yK 1 2 0 hS51 K8 rfl (hf2.g 2 0)) ?_ aN
  rintro _ w_35 ⟨rfl,hS52⟩
  refine ⟨(hS52.se [0,3,4,5,6]),?_⟩
  refine rA [4] ?_
  refine rZ 4 rfl (yK 2 2 0 hS52 K3 rfl (hf2.g 3 1)) ?_ aN
  rintro _ w_36 ⟨rfl,hS53⟩
  refine ⟨(hS53.se [0,3,4,5,6]),?_⟩
  refine rq 5 4 rfl (hS53.se [0,3,4,5,6]) (fun _ q=>yu) ?_
  refine ra_done (by kernel_rfl) ?_
  refine ct_ ?_
  obtain ⟨rfl,rfl,rfl,rfl⟩:=pr4 (sI hF5)
  exact ret3 Tryz.results31 (rX K13 K8 (hS53.c 1) (hf2.g 2 0)) (rX K10 K3 (hS53.c 2) (hf2.g 3 1)) rT ⟨B10,c10,B9,c9,B11,c11,rfl,(len_le rfl hq),(org_cons ho org_nil),((hS53.sel [0,6,4] rfl rfl).sT [0])⟩

theorem Tx (code:List Int) (B:Option Addr) (c n:Nat) (w0:World) (hn:code.length=n) (hS:ST w0 [] w0 [] [⟨B,(code.flatMap enc_u8)⟩]) {r_:Ae} {r_1:Ad} {r_2:List Int} (hF:Gg code=some (r_,r_1,r_2)) :
  CV Tryz.prog 22 #[.slice B n c] w0 (fun v w'=>∃ (B1:Option Addr) (c1:Nat) (B2:Option Addr) (c2:Nat) (B3:Option Addr) (c3:Nat),v=.tuple #[.agg #[vi r_.Nodes,.slice B1 r_.Edges.length c1],.agg #[vi r_1.Qubits,.slice B2 r_1.Gates.length c2],.slice B3 r_2.length c3]∧r_2.length≤c3∧Org w0 [] [⟨B,(code.flatMap enc_u8)⟩] [⟨B3,(r_2.flatMap encI)⟩]∧ST w0 [] w' [⟨B1,118,(r_.Edges.flatMap eN1),c1*2⟩,⟨B2,73,(r_1.Gates.flatMap eN0),c2*3⟩] [⟨B3,(r_2.flatMap encI)⟩]):=by
 subst hn
 unfold Gg at hF
 refine cv_of_cw 48 Tryz.func22 rfl Tryz.ntmps22 rfl ?_
 refine cq (cr ?_)
 let V7:List Value:=[vi 0,.slice none 0 0]
 refine sS 2 (yN V7 2 hS K44) ?_
 rintro _ w_ ⟨b,rfl,hS1⟩
 refine sS 3 (yN V7 2 hS1 K27) ?_
 rintro _ w_1 ⟨b1,rfl,hS2⟩
 refine sQ 4 yu (rn (cq (cr ?_)))
 refine sQ 9 yv<|sQ 10 (Y_buildS (zs:=[.slice none 0 0,vi 0,.int .u64 0]) (vs:=[(0,.slice B code.length c)]) (cs:=[.slice B code.length c,vi 0,.int .u64 0]) MG MM rfl (mpc rfl mpn) rfl) ?_
 refine sS 11 (yV [.slice B code.length c,vi 0,.int .u64 0] 3 hS2) ?_
 rintro _ w_2 ⟨b2,rfl,hS3⟩
 refine sQ 5 yu (rn (cq (cq (cr ?_))))
 refine sQ 12 yv ?_
 obtain ⟨⟨r_3,m⟩,hc,hF⟩:=bI hF
 refine sc 13 rfl rfl (yc Gt (GS (Ag.mk code 0 0) 14 (aD b2) B c code.length _ rfl (hS3.inn [false,false,true] rfl [(true,0)] rfl) hc)) ?_
 rintro _ w_3 ⟨rfl,hd⟩
 have hS4:=hS3.out [false,false,true] rfl hd
 refine rn ?_
 refine cw_cond rfl (fun hb=>?_) (fun hb=>?_)
 ·skip
  have hF1:=ct hF hb
  refine cq (cr ?_)
  refine sQ 14 yv ?_
  refine sS 15 (yF 1 2 [vi 7,vi 9] 2 hS4 K5 K0 K52 rfl (mpc rfl (mpc rfl mpn))) ?_
  rintro _ w_4 ⟨b3,rfl,hS5⟩
  obtain ⟨⟨r_4,m1⟩,hc1,hF1⟩:=bI hF1
  refine sc 16 rfl rfl (yc JN (JM (Ag.mk code m.at_ m.seed) 2 9 [7,9] (aD b2) B c code.length (aD b3) 2 2 _ rfl rfl (hS5.inn [false,false,true,false] rfl [(true,0),(false,2)] rfl) hc1)) ?_
  rintro _ w_5 ⟨B4,c4,rfl,hd1⟩
  have hS6:=hS5.out [false,false,true,false] rfl hd1
  refine sS 6 (yN V7 2 hS6 K27) ?_
  rintro _ w_6 ⟨b4,rfl,hS7⟩
  refine s0 (yK 5 2 0 hS7 K3) ?_
  rintro _ w_7 ⟨rfl,hS8⟩
  refine rn (cq (cq (cr ?_)))
  refine sQ 17 yv ?_
  obtain ⟨⟨r_5,m2⟩,hc2,hF1⟩:=bI hF1
  refine sc 18 rfl rfl (yc K30 (A8 (Ag.mk code m1.at_ m1.seed) 6 (aD b2) B c code.length _ rfl (hS8.inn [false,false,false,true,false,false] rfl [(true,0)] rfl) hc2)) ?_
  rintro _ w_8 ⟨rfl,hd2⟩
  have hS9:=hS8.out [false,false,false,true,false,false] rfl hd2
  refine sQ 19 zP<|sQ 7 yu (rn ?_)
  obtain ⟨z,hz,hF2⟩:=bI hF1
  refine cw_block ?_
  let O6:Ob:=⟨aD b1,28,V7,2⟩
  refine cw_loop (fun k f w=>∃ (Gates:List Ac) (k_:Int) (B5:Option Addr) (c5:Nat),FF f [(2,pt (aD b) 0),(3,pt (aD b1) 0),(5,pt (aD b2) 0),(6,pt (aD b4) 0),(7,vi k_)]∧ST w0 [] w [⟨aD b,25,V7,2⟩,O6,⟨aD b2,68,[.slice B code.length c,vi m2.at_,.int .u64 m2.seed],3⟩,⟨aD b4,28,[vi r_4.Qubits,.slice B5 Gates.length c5],2⟩,⟨B5,73,(Gates.flatMap eN0),c5*3⟩] [⟨B,(code.flatMap enc_u8)⟩]∧whX Hi k (Gates,k_)=some z) fuel ⟨r_4.Gates,(i64.wrap (5+r_5)),B4,c4,(fc rfl (fc rfl (fc rfl (fc rfl (fc rfl fn_))))),(hS9.sel [0,1,5,4,3] rfl rfl),hz⟩ ?_
  rintro K2 f w ⟨Gates,k_,B5,c5,hf,hS10,hL⟩
  obtain ⟨K11,y,rfl,hb1,hL1⟩:=whX_go hL
  unfold Hi at hb1
  refine cq (cq (cr ?_))
  refine sQ 20 (yv rfl (hf.g 7 4))<|sQ 21 (Y_gt rfl rfl rfl) (rn ?_)
  refine cw_cond rfl (fun hb2=>?_) (fun hb2=>?_)
  ·skip
   have hF3:=ct hb1 hb2
   refine cw_skip (cq (cw_block (cr ?_)))
   refine sQ 24 (yd (aD b4) 0 0 K19 K15 rfl (hf.g 6 3))<|sQ 25 (yz 1 K21 (hS10.c 3))<|sQ 26 (yv rfl (hf.g 7 4))<|sQ 27 (Y_rem (k:=.i64) (a:=k_) (b:=2) rfl rfl rfl (by decide))<|sQ 28 (yv rfl (hf.g 7 4))<|sQ 29 (Y_rem (k:=.i64) (a:=k_) (b:=2) rfl rfl rfl (by decide)) ?_
   refine sQ 30 zM<|sQ 31 (Y_buildS (zs:=[vi 0,vi 0,vi 0]) (vs:=[(0,vi 10),(1,vi (Int.tmod k_ 2)),(2,vi (i64.wrap (1-(Int.tmod k_ 2))))]) (cs:=[vi 10,vi (Int.tmod k_ 2),vi (i64.wrap (1-(Int.tmod k_ 2)))]) K80 K28 rfl (mpc rfl (mpc rfl (mpc rfl mpn))) rfl) ?_
   refine sS 32 (yF 3 1 [vi 10,vi (Int.tmod k_ 2),vi (i64.wrap (1-(Int.tmod k_ 2)))] 3 hS10 K12 K7 K74 rfl (mpc rfl mpn)) ?_
   rintro _ w_9 ⟨b5,rfl,hS11⟩
   obtain ⟨hap,hF3⟩:=chk_inv hF3
   refine sS 33 (aP 3 24 4 Gates [(Ac.mk 10 (Int.tmod k_ 2) (i64.wrap (1-(Int.tmod k_ 2))))] hS11 K12 K7 K66 K28 eN8 BP (hS11.c 5) hap) ?_
   rintro _ w_10 ⟨B6,c6,rfl,hS12⟩
   refine sQ 34 (yd (aD b4) 0 0 K19 K15 rfl (hf.g 6 3)) ?_
   refine s0 (yS 3 1 (aD b4) 28 (.slice B6 ((Gates++[(Ac.mk 10 (Int.tmod k_ 2) (i64.wrap (1-(Int.tmod k_ 2))))]).length) c6) [.slice B6 ((Gates++[(Ac.mk 10 (Int.tmod k_ 2) (i64.wrap (1-(Int.tmod k_ 2))))]).length) c6] 1 [vi r_4.Qubits,.slice B6 ((Gates++[(Ac.mk 10 (Int.tmod k_ 2) (i64.wrap (1-(Int.tmod k_ 2))))]).length) c6] hS12 K15) ?_
   rintro _ w_11 ⟨rfl,hS13⟩
   refine rn (cr ?_)
   refine sQ 22 (yv rfl (hf.g 7 4))<|sQ 23 zM<|sQ 7 yu (rn ?_)
   obtain rfl:=sI hF3
   exact ⟨K11,Nat.lt_succ_self _,(Gates++[(Ac.mk 10 (Int.tmod k_ 2) (i64.wrap (1-(Int.tmod k_ 2))))]),(i64.wrap (k_-1)),B6,c6,(hf.a 2 0 (hf.a 3 1 (hf.a 5 2 (hf.a 6 3 (fc rfl fn_))))),(hS13.sel [0,1,2,3,4] rfl rfl),hL1⟩
  ·skip
   have hF4:=cf' hb1 hb2
   refine cw_exit rfl ?_
   obtain rfl:=sI hF4
   obtain rfl:=sI hL1
   refine cq (cr ?_)
   refine sQ 35 (yv rfl (hf.g 5 2)) ?_
   obtain ⟨⟨r_6,m3⟩,hc3,hF2⟩:=bI hF2
   refine sc 36 rfl rfl (yc Lo (LL (Ag.mk code m2.at_ m2.seed) 2 6 (aD b2) B c code.length _ rfl (hS10.inn [false,false,true,false,false] rfl [(true,0)] rfl) hc3)) ?_
   rintro _ w_12 ⟨B7,c7,rfl,hd3⟩
   have hS14:=hS10.out [false,false,true,false,false] rfl hd3
   refine sS 8 (yN V7 2 hS14 K44) ?_
   rintro _ w_13 ⟨b6,rfl,hS15⟩
   refine s0 (yK 6 2 0 hS15 K8) ?_
   rintro _ w_14 ⟨rfl,hS16⟩
   refine rn (cq ?_)
   refine ra_start (hS16.se [2,3,4,5,6]).fn (by kernel_rfl) ?_
   have hS17:=hS16.drew
   have hQ0:=hS17.se [2,3,4,5,6]
   refine rq 0 37 rfl hQ0 (fun _ q=>(yw 0 K13 K8 (ST.c q 4)))<|rq 1 38 rfl hQ0 (fun _ q=>(yw 0 K10 K3 (ST.c q 0) rfl (hf.g 6 3)))<|rq 2 39 rfl hQ0 (fun _ q=>(yd (aD b6) 0 0 K45 K0))<|rq 3 40 rfl hQ0 (fun _ q=>(yz 0 K1 (ST.c q 4)))<|rq 4 41 rfl hQ0 (fun _ q=>zM) ?_
   let V8:List Value:=[vi r_4.Qubits,.slice B5 Gates.length c5]
   let O0:Ob:=⟨aD b4,28,V8,2⟩
   let O1:Ob:=⟨aD b2,68,[.slice B code.length c,vi m3.at_,.int .u64 m3.seed],3⟩
   let O2:Ob:=⟨aD b6,25,[vi r_6.Nodes,.slice B7 r_6.Edges.length c7],2⟩
   let O3:Ob:=⟨B5,73,(Gates.flatMap eN0),c5*3⟩
   let O5:Ob:=⟨B7,118,(r_6.Edges.flatMap eN1),c7*2⟩
   refine rf_in (k:=3) (ts:=[41]) (L:=[⟨aD b,25,V7,2⟩,O6,O0,O3,O1,O5,O2]) (G:=[]) [fM 5 42 3 ([0,(i64.wrap (r_6.Nodes-1))].flatMap encI) (2*1) 2 2] hS17 (flc rfl rfl rfl (fun _ _ _ _ hf_ h=>(Ys_bslice (s:=1) (len:=2) (vs:=[(0,vi 0),(1,vi (i64.wrap (r_6.Nodes-1)))]) (cs:=[vi 0,vi (i64.wrap (r_6.Nodes-1))]) (zs:=[vi 0,vi 0]) (m:=2) h K5 K0 K52 rfl (mpc rfl (mpc ((hf_ 41 (List.Mem.head _)).trans rfl) mpn)) rfl rfl rfl (by kernel_rfl) (by kernel_rfl) rfl)) fln) (fun hJ=>?_)
   refine rf_all [6] hJ (fun Z w h=>(ST.sel (ST.noF h) [2,3,4,5,6] rfl rfl)) (fun Z w_15 hz1 hS18=>?_)
   refine rZ 6 rfl (yK 0 2 0 hS18 K8 rfl (hf.g 2 0)) ?_ aN
   rintro _ w_16 ⟨rfl,hS19⟩
   let O4:Ob:=⟨aD b,25,[vi r_6.Nodes,.slice B7 r_6.Edges.length c7],2⟩
   refine rf_k0 (L:=[O4,O6,O0,O3,O1,O5,O2]) hz1 hS19 (fun Z w h=>(ST.sel (ST.noF h) [2,3,4,5,6] rfl rfl)) ?_
   refine rf_all [7] hJ (fun Z w h=>(ST.sel (ST.noF h) [2,3,4,5,6] rfl rfl)) (fun Z1 w_17 hz2 hS20=>?_)
   refine rZ 7 rfl (yK 1 2 0 hS20 K3 rfl (hf.g 3 1)) ?_ aN
   rintro _ w_18 ⟨rfl,hS21⟩
   refine rf_k0 (L:=[O4,⟨aD b1,28,V8,2⟩,O0,O3,O1,O5,O2]) hz2 hS21 (fun Z w h=>(ST.sel (ST.noF h) [2,3,4,5,6] rfl rfl)) ?_
   refine rf_force hJ (fun Z w h=>(ST.sel (ST.noF h) [2,3,4,5,6] rfl rfl)) (fun b7=>?_)
   refine rf_out (fun w_19 hS22=>?_)
   refine rq 8 4 rfl (hS22.se [2,3,4,5,6]) (fun _ q=>yu) ?_
   refine ra_done (by kernel_rfl) ?_
   refine ct_ ?_
   have ho:Org w0 [] [⟨B,(code.flatMap enc_u8)⟩] [⟨aD b7,([0,(i64.wrap (r_6.Nodes-1))].flatMap encI)⟩]:=ST.orgOwn hS22 (i:=7) rfl
   have hcap:2≤2:=(hS22.lencap (i:=7) rfl (fm_lenn (l:=[0,(i64.wrap (r_6.Nodes-1))]) encI_len rfl) rfl rfl)
   have hS23:ST w0 [] _ [O4,⟨aD b1,28,V8,2⟩,O0,O3,O1,O5,O2] [⟨aD b7,([0,(i64.wrap (r_6.Nodes-1))].flatMap encI)⟩,⟨B,(code.flatMap enc_u8)⟩]:=hS22.freeze (i:=7) rfl
   obtain ⟨rfl,rfl,rfl⟩:=pr3 (sI hF2)
   exact ret3 Tryz.results22 (rX K13 K8 (hS23.c 0) (hf.g 2 0)) (rX K10 K3 (hS23.c 1) (hf.g 3 1)) rT ⟨B7,c7,B5,c5,aD b7,2,rfl,(len_le rfl hcap),(org_cons ho org_nil),((hS23.sel [5,3] rfl rfl).sT [0])⟩
 ·skip
  have hF5:=cf' hF hb
  refine cw_skip (cq (cr ?_))
  refine sQ 43 yv ?_
  obtain ⟨⟨r_7,r_8,r_9,m4⟩,hc4,hF5⟩:=bI hF5
  refine sc 44 rfl rfl (yc Qb (Lq (Ag.mk code m.at_ m.seed) (aD b2) B c code.length _ rfl (hS4.inn [false,false,true] rfl [(true,0)] rfl) hc4)) ?_
  rintro _ w_20 ⟨B8,c8,B9,c9,B10,c10,rfl,hq,ho1,hd4⟩
  have hS24:=ST.outR hS4 [false,false,true] rfl hd4 ho1 (sk 0 (fun _ h=>by cases h))
  have ho2:Org w0 [] [⟨B,(code.flatMap enc_u8)⟩] [⟨B10,(r_9.flatMap encI)⟩]:=org_trans hS4 (msk_mem (mask:=[false,false,true]) rfl) ho1 (org_cons (org_mem (i:=0) rfl) org_nil)
  have hS25:ST w0 [] _ [⟨aD b,25,V7,2⟩,⟨aD b1,28,V7,2⟩,⟨aD b2,68,[.slice B code.length c,vi m4.at_,.int .u64 m4.seed],3⟩,⟨B8,118,(r_7.Edges.flatMap eN1),c8*2⟩,⟨B9,73,(r_8.Gates.flatMap eN0),c9*3⟩] [⟨B10,(r_9.flatMap encI)⟩,⟨B,(code.flatMap enc_u8)⟩]:=hS24
  refine sQ 45 (ye (.agg #[vi r_7.Nodes,.slice B8 r_7.Edges.length c8]))<|sQ 46 (ye (.agg #[vi r_8.Qubits,.slice B9 r_8.Gates.length c9]))<|sQ 47 (ye (.slice B10 r_9.length c10)) ?_
  refine s0 (yK 0 2 0 hS25 K8) ?_
  rintro _ w_21 ⟨rfl,hS26⟩
  refine s0 (yK 1 2 0 hS26 K3) ?_
  rintro _ w_22 ⟨rfl,hS27⟩
  refine sQ 4 yu (rn (ct_ ?_))
  obtain ⟨rfl,rfl,rfl⟩:=pr3 (sI hF5)
  exact ret3 Tryz.results22 (rX K13 K8 (hS27.c 0)) (rX K10 K3 (hS27.c 1)) rT ⟨B8,c8,B9,c9,B10,c10,rfl,(len_le rfl hq),(org_cons (org_sub ho2 (sk 0 (fun _ h=>by cases h))) org_nil),((hS27.sel [3,4] rfl rfl).sT [0])⟩

theorem Qn (code:List Int) (B:Option Addr) (c n:Nat) (w0:World) (hn:code.length=n) (hS:ST w0 [] w0 [] [⟨B,(code.flatMap enc_u8)⟩]) {r_:Ae} {r_1:Ad} (hF:FG code=some (r_,r_1)) :
  CV Tryz.prog 4 #[.slice B n c] w0 (fun v w'=>∃ (B1:Option Addr) (c1:Nat) (B2:Option Addr) (c2:Nat),v=.tuple #[.agg #[vi r_.Nodes,.slice B1 r_.Edges.length c1],.agg #[vi r_1.Qubits,.slice B2 r_1.Gates.length c2]]∧ST w0 [] w' [⟨B1,118,(r_.Edges.flatMap eN1),c1*2⟩,⟨B2,73,(r_1.Gates.flatMap eN0),c2*3⟩] []):=by
 subst hn
 unfold FG at hF
 refine cv_of_cw 15 Tryz.func4 rfl Tryz.ntmps4 rfl ?_
 refine cq (cr ?_)
 let V0:List Value:=[vi 0,.slice none 0 0]
 refine sS 2 (yN V0 2 hS K44) ?_
 rintro _ w_ ⟨b,rfl,hS1⟩
 refine sS 3 (yN V0 2 hS1 K27) ?_
 rintro _ w_1 ⟨b1,rfl,hS2⟩
 refine rn (cq (cr ?_))
 refine sQ 8 yv ?_
 obtain ⟨⟨r_2,r_3,r_4⟩,hc,hF⟩:=bI hF
 refine sc 9 rfl rfl (yc TW (Tx code B c code.length _ rfl (hS2.inn0 [(true,0)] rfl) hc)) ?_
 rintro _ w_2 ⟨B3,c3,B4,c4,B5,c5,rfl,hq,ho,hd⟩
 have hS3:=ST.outR0 hS2 hd ho (sk 0 (fun _ h=>by cases h))
 have ho1:Org w0 [] [⟨B,(code.flatMap enc_u8)⟩] [⟨B5,(r_4.flatMap encI)⟩]:=org_trans0 hS2 ho (org_cons (org_mem (i:=0) rfl) org_nil)
 have hS4:ST w0 [] _ [⟨aD b,25,V0,2⟩,⟨aD b1,28,V0,2⟩,⟨B3,118,(r_2.Edges.flatMap eN1),c3*2⟩,⟨B4,73,(r_3.Gates.flatMap eN0),c4*3⟩] [⟨B5,(r_4.flatMap encI)⟩,⟨B,(code.flatMap enc_u8)⟩]:=hS3
 refine sQ 7 yv<|sQ 10 (ye (.agg #[vi r_2.Nodes,.slice B3 r_2.Edges.length c3]))<|sQ 11 (ye (.agg #[vi r_3.Qubits,.slice B4 r_3.Gates.length c4]))<|sQ 12 (ye (.slice B5 r_4.length c5)) ?_
 refine sS 4 (yN V0 2 hS4 K44) ?_
 rintro _ w_3 ⟨b2,rfl,hS5⟩
 refine sS 5 (yN V0 2 hS5 K27) ?_
 rintro _ w_4 ⟨b3,rfl,hS6⟩
 refine s0 (yK 4 2 0 hS6 K8) ?_
 rintro _ w_5 ⟨rfl,hS7⟩
 refine s0 (yK 5 2 0 hS7 K3) ?_
 rintro _ w_6 ⟨rfl,hS8⟩
 refine sQ 6 yu (rn (cq ?_))
 refine ra_start (hS8.se [2,3,4,5]).fn (by kernel_rfl) ?_
 have hS9:=hS8.drew
 refine rq 0 13 rfl (hS9.se [2,3,4,5]) (fun _ q=>(yw 0 K13 K8 (ST.c q 2)))<|rq 1 14 rfl (hS9.se [2,3,4,5]) (fun _ q=>(yw 0 K10 K3 (ST.c q 3))) ?_
 refine rA [2] ?_
 refine rZ 2 rfl (yK 0 2 0 hS9 K8) ?_ aN
 rintro _ w_7 ⟨rfl,hS10⟩
 refine ⟨(hS10.se [2,3,4,5]),?_⟩
 refine rA [3] ?_
 refine rZ 3 rfl (yK 1 2 0 hS10 K3) ?_ aN
 rintro _ w_8 ⟨rfl,hS11⟩
 refine ⟨(hS11.se [2,3,4,5]),?_⟩
 refine ra_done (by kernel_rfl) ?_
 refine ct_ ?_
 obtain ⟨rfl,rfl⟩:=pr2 (sI hF)
 exact ret2 Tryz.results4 (rX K13 K8 (hS11.c 0)) (rX K10 K3 (hS11.c 1)) ⟨B3,c3,B4,c4,rfl,(hS11.sN [2,3])⟩

theorem Bh (n:Int) (low:Int) (high:Int)  (w0:World)  (hS:ST w0 [] w0 [] []) {r_:Bool} (hF:A2 n low high=some r_) :
  CV Tryz.prog 38 #[vi n,vi low,vi high] w0 (fun v w'=>v=.bool r_∧ST w0 [] w' [] []):=by
 unfold A2 at hF
 refine cv_of_cw 15 Tryz.func38 rfl Tryz.ntmps38 rfl ?_
 refine cq (cr ?_)
 refine sQ 6 yu (rn (cq (cr ?_)))
 refine sQ 7 yv<|sQ 8 yv<|sQ 9 (Y_le rfl rfl rfl)<|sQ 10 yv ?_
 refine sgq 11 rfl rfl (uT_ 10) (fun hg=>yv) ?_
 refine sgq 12 rfl rfl (uT_ 10) (fun hg1=>yv) ?_
 refine sgq 13 rfl rfl (uT_ 10) (fun hg2=>(Y_le rfl (gv_of hg2) (gv_of hg2))) ?_
 refine sQ 14 yA<|sQ 6 yu (rn (ct_ ?_))
 obtain rfl:=sI hF
 exact e1 Tryz.results38 (hS.sN [])

theorem Uf (n:Int) (edges:List Ah) (B:Option Addr) (c n1:Nat) (w0:World) (hn:edges.length=n1) (hS:ST w0 [] w0 [] [⟨B,(edges.flatMap eN1)⟩]) {r_:Bool} (hF:G1 n edges=some r_) :
  CV Tryz.prog 39 #[vi n,.slice B n1 c] w0 (fun v w'=>v=.bool r_∧ST w0 [] w' [] []):=by
 subst hn
 unfold G1 at hF
 refine cv_of_cw 68 Tryz.func39 rfl Tryz.ntmps39 rfl ?_
 refine cq (cr ?_)
 refine sQ 4 yu (rn (cq (cq (cr ?_))))
 refine sQ 7 yv<|sQ 8 (Y_len K34 rfl rfl)<|sQ 9 yv (rn ?_)
 obtain ⟨hN,hF⟩:=chk_inv hF
 obtain ⟨z,hz,hF1⟩:=bI hF
 refine cw_block ?_
 refine cw_loop (fun k f w=>∃ (i:Nat),FF f [(0,vi n),(1,.slice B edges.length c),(7,.slice B edges.length c),(8,vi (edges.length:Int)),(9,vi (i:Int))]∧ST w0 [] w [] [⟨B,(edges.flatMap eN1)⟩]∧i+k=edges.length∧forX (Fb edges n) k i ()=some z) edges.length ⟨0,(fc rfl (fc rfl (fc rfl (fc rfl (fc rfl fn_))))),(hS.sel [] rfl rfl),Nat.zero_add _,hz⟩ ?_
 rintro k_ f w ⟨i,hf,hS1,hik,hL⟩
 refine cq (cr ?_)
 refine sQ 10 (zL rfl (hf.g 9 4) (hf.g 8 3)) (rn (cq ?_))
 refine cw_cond rfl (fun hlt=>?_) (fun hlt=>?_)
 ·skip
  have hlt1:i<edges.length:=by have h:=of_decide_eq_true hlt; omega
  obtain ⟨K2,rfl⟩:∃ k2,k_=k2+1:=⟨k_-1,by omega⟩
  obtain ⟨y,hb,hL1⟩:=forX_go hL
  unfold Fb at hb
  refine cw_skip (cq (cw_block (cq (cr ?_))))
  refine sQ 11 (yv rfl (hf.g 9 4)) ?_
  obtain ⟨x,hx,hb⟩:=bI hb
  refine sQ 12 (yI B (i:Int) K34 K20 (gi_isSome A6 rfl (hS1.rf (i:=0) rfl) hx) (getI_nn hx) (getI_ltI hx rfl) rfl (hf.g 7 2) (hf.g 9 4))<|sQ 13 (ya B ((i:Int).toNat*2) (edges.flatMap eN1) [vi x.A,vi x.B] K85 K20 (hS1.rf (i:=0) rfl) rfl rfl (A6 x) (gi_seg A6 hx)) ?_
  refine sS 6 (yN [vi 0,vi 0] 2 hS1 K51) ?_
  rintro _ w_ ⟨b,rfl,hS2⟩
  refine sQ 5 yu ?_
  refine s0 (yK 0 2 0 hS2 K20) ?_
  rintro _ w_1 ⟨rfl,hS3⟩
  refine rn (cq ?_)
  obtain ⟨x1,hx1,hb⟩:=bI hb
  obtain ⟨x2,hx2,hb⟩:=bI hb
  obtain ⟨x3,hx3,hb⟩:=bI hb
  refine ra_start (hS3.se [0]).fn (by kernel_rfl) ?_
  have hS4:=hS3.drew
  have hQ0:=hS4.se [0]
  refine rq 0 14 rfl hQ0 (fun _ q=>(yd (aD b) 0 0 K59 K0))<|rq 1 15 rfl hQ0 (fun _ q=>(yz 0 K1 (ST.c q 0)))<|rq 2 16 rfl hQ0 (fun _ q=>zL)<|rq 3 17 rfl hQ0 (fun _ q=>yv)<|rG 4 18 rfl rfl rfl (uF_ 17) hQ0 (fun hg _ q=>(yd (aD b) 0 0 K59 K0)) ?_
  refine rG 5 19 rfl rfl rfl (uF_ 17) hQ0 (fun hg1 _ q=>(yz 0 K1 (ST.c q 0) rfl (gv_of hg1)))<|rG 6 20 rfl rfl rfl (uF_ 17) hQ0 (fun hg2 _ q=>(yd (aD b) 0 0 K70 K0))<|rG 7 21 rfl rfl rfl (uF_ 17) hQ0 (fun hg3 _ q=>(yz 1 K1 (ST.c q 0) rfl (gv_of hg3)))<|rG 8 22 rfl rfl rfl (uF_ 17) hQ0 (fun hg4 _ q=>(Y_ge rfl (gv_of hg4) (gv_of hg4)))<|rq 9 23 rfl hQ0 (fun _ q=>yO) ?_
  refine rq 10 24 rfl hQ0 (fun _ q=>yv)<|rG 11 25 rfl rfl rfl (uF_ 24) hQ0 (fun hg5 _ q=>(yd (aD b) 0 0 K70 K0))<|rG 12 26 rfl rfl rfl (uF_ 24) hQ0 (fun hg6 _ q=>(yz 1 K1 (ST.c q 0) rfl (gv_of hg6)))<|rG 13 27 rfl rfl rfl (uF_ 24) hQ0 (fun hg7 _ q=>(yv rfl (hf.g 0 0)))<|rG 14 28 rfl rfl rfl (uF_ 24) hQ0 (fun hg8 _ q=>(Y_ge rfl (gv_of hg8) (gv_of hg8))) ?_
  refine rq 15 29 rfl hQ0 (fun _ q=>yO)<|rq 16 30 rfl hQ0 (fun _ q=>yv)<|rG 17 31 rfl rfl rfl (uF_ 30) hQ0 (fun hg9 _ q=>yv)<|rG 18 32 rfl rfl rfl (uF_ 30) hQ0 (fun hg10 _ q=>(Y_gt rfl (gv_of hg10) rfl))<|rG 19 33 rfl rfl rfl (uF_ 30) hQ0 (fun hg11 _ q=>(yv rfl (gv_of hg11))) ?_
  refine rG 20 34 rfl rfl rfl (uG_ 33) hQ0 (fun hg12 _ q=>(yv rfl (hf.g 1 1)))<|rG 21 35 rfl rfl rfl (uG_ 33) hQ0 (fun hg13 _ q=>yv)<|rG 22 36 rfl rfl rfl (uG_ 33) hQ0 (fun hg14 _ q=>(zM rfl (gv_of hg14)))<|rG 23 37 rfl rfl rfl (uG_ 33) hQ0 (fun hg15 _ q=>(yI B (i64.wrap ((i:Int)-1)) K34 K20 (gi_isSome A6 rfl (ST.rf q (i:=0) rfl) (gb_inv hx1 hg15)) (getI_nn (gb_inv hx1 hg15)) (getI_ltI (gb_inv hx1 hg15) rfl) rfl (gv_of hg15) (gv_of hg15)))<|rG 24 38 rfl rfl rfl (uG_ 33) hQ0 (fun hg16 _ q=>(yd B ((i64.wrap ((i:Int)-1)).toNat*2) 0 K59 K0 rfl (gv_of hg16))) ?_
  refine rG 25 39 rfl rfl rfl (uG_ 33) hQ0 (fun hg17 _ q=>(yz ((i64.wrap ((i:Int)-1)).toNat*2+0) K1 (ST.rf q (i:=0) rfl) rfl (gv_of hg17) (gi_at A6 (gb_inv hx1 hg17) rfl)))<|rG 26 40 rfl rfl rfl (uG_ 33) hQ0 (fun hg18 _ q=>(yd (aD b) 0 0 K59 K0))<|rG 27 41 rfl rfl rfl (uG_ 33) hQ0 (fun hg19 _ q=>(yz 0 K1 (ST.c q 0) rfl (gv_of hg19)))<|rG 28 42 rfl rfl rfl (uG_ 33) hQ0 (fun hg20 _ q=>(Y_gt rfl (gv_of hg20) (gv_of hg20)))<|rG 29 43 rfl rfl rfl (uG_ 33) hQ0 (fun hg21 _ q=>(yv rfl (gv_of hg21))) ?_
  refine rG 30 44 rfl rfl rfl (uH_ 43) hQ0 (fun hg22 _ q=>(yv rfl (hf.g 1 1)))<|rG 31 45 rfl rfl rfl (uH_ 43) hQ0 (fun hg23 _ q=>yv)<|rG 32 46 rfl rfl rfl (uH_ 43) hQ0 (fun hg24 _ q=>(zM rfl (gv_of hg24)))<|rG 33 47 rfl rfl rfl (uH_ 43) hQ0 (fun hg25 _ q=>(yI B (i64.wrap ((i:Int)-1)) K34 K20 (gi_isSome A6 rfl (ST.rf q (i:=0) rfl) (gb_inv hx2 hg25)) (getI_nn (gb_inv hx2 hg25)) (getI_ltI (gb_inv hx2 hg25) rfl) rfl (gv_of hg25) (gv_of hg25)))<|rG 34 48 rfl rfl rfl (uH_ 43) hQ0 (fun hg26 _ q=>(yd B ((i64.wrap ((i:Int)-1)).toNat*2) 0 K59 K0 rfl (gv_of hg26))) ?_
  refine rG 35 49 rfl rfl rfl (uH_ 43) hQ0 (fun hg27 _ q=>(yz ((i64.wrap ((i:Int)-1)).toNat*2+0) K1 (ST.rf q (i:=0) rfl) rfl (gv_of hg27) (gi_at A6 (gb_inv hx2 hg27) rfl)))<|rG 36 50 rfl rfl rfl (uH_ 43) hQ0 (fun hg28 _ q=>(yd (aD b) 0 0 K59 K0))<|rG 37 51 rfl rfl rfl (uH_ 43) hQ0 (fun hg29 _ q=>(yz 0 K1 (ST.c q 0) rfl (gv_of hg29)))<|rG 38 52 rfl rfl rfl (uH_ 43) hQ0 (fun hg30 _ q=>(zE rfl (gv_of hg30) (gv_of hg30)))<|rG 39 53 rfl rfl rfl (uH_ 43) hQ0 (fun hg31 _ q=>(yv rfl (gv_of hg31))) ?_
  refine rG 40 54 rfl rfl rfl (uG_ 53) hQ0 (fun hg32 _ q=>(yv rfl (hf.g 1 1)))<|rG 41 55 rfl rfl rfl (uG_ 53) hQ0 (fun hg33 _ q=>yv)<|rG 42 56 rfl rfl rfl (uG_ 53) hQ0 (fun hg34 _ q=>(zM rfl (gv_of hg34)))<|rG 43 57 rfl rfl rfl (uG_ 53) hQ0 (fun hg35 _ q=>(yI B (i64.wrap ((i:Int)-1)) K34 K20 (gi_isSome A6 rfl (ST.rf q (i:=0) rfl) (gb_inv hx3 hg35)) (getI_nn (gb_inv hx3 hg35)) (getI_ltI (gb_inv hx3 hg35) rfl) rfl (gv_of hg35) (gv_of hg35)))<|rG 44 58 rfl rfl rfl (uG_ 53) hQ0 (fun hg36 _ q=>(yd B ((i64.wrap ((i:Int)-1)).toNat*2) 0 K70 K0 rfl (gv_of hg36))) ?_
  refine rG 45 59 rfl rfl rfl (uG_ 53) hQ0 (fun hg37 _ q=>(yz ((i64.wrap ((i:Int)-1)).toNat*2+1) K1 (ST.rf q (i:=0) rfl) rfl (gv_of hg37) (gi_at A6 (gb_inv hx3 hg37) rfl)))<|rG 46 60 rfl rfl rfl (uG_ 53) hQ0 (fun hg38 _ q=>(yd (aD b) 0 0 K70 K0))<|rG 47 61 rfl rfl rfl (uG_ 53) hQ0 (fun hg39 _ q=>(yz 1 K1 (ST.c q 0) rfl (gv_of hg39)))<|rG 48 62 rfl rfl rfl (uG_ 53) hQ0 (fun hg40 _ q=>(Y_ge rfl (gv_of hg40) (gv_of hg40)))<|rG 49 63 rfl rfl rfl (uH_ 43) hQ0 (fun hg41 _ q=>(yA rfl (gv_of hg41) (gv_and hg41))) ?_
  refine rG 50 64 rfl rfl rfl (uG_ 33) hQ0 (fun hg42 _ q=>(yO rfl (gv_of hg42) rfl (gv_and hg42)))<|rG 51 65 rfl rfl rfl (uF_ 30) hQ0 (fun hg43 _ q=>(yA rfl (gv_of hg43) (gv_and hg43)))<|rq 52 66 rfl hQ0 (fun _ q=>yO) ?_
  refine ra_done (by kernel_rfl) ?_
  refine cw_cond rfl (fun hb1=>?_) (fun hb1=>?_)
  ·skip
   have hF2:=ct hb hb1
   refine cq (cr ?_)
   refine sQ 4 yu (rn (ct_ ?_))
   obtain rfl:=sI hF2
   obtain rfl:=sI hL1
   obtain rfl:=sI hF1
   exact e1 Tryz.results39 (hS4.sN [])
  ·skip
   have hF3:=cf' hb hb1
   refine cw_skip (cr ?_)
   refine sQ 67 (zP rfl (hf.g 9 4))<|sQ 9 yv (rn ?_)
   obtain rfl:=sI hF3
   exact ⟨K2,Nat.lt_succ_self _,i+1,(hf.a 0 0 (hf.a 1 1 (hf.a 7 2 (hf.a 8 3 (fc (congrArg (Value.int .i64) (wr_succ hlt1 hN)) fn_))))),(hS4.sel [] rfl rfl),(by omega),hL1⟩
 ·skip
  obtain rfl:k_=0:=by have h:=of_decide_eq_false hlt; omega
  refine cw_exit rfl ?_
  obtain rfl:=sI hL
  refine cq (cr ?_)
  refine sQ 4 yu (rn (ct_ ?_))
  obtain rfl:=sI hF1
  exact e1 Tryz.results39 (hS1.sN [])

theorem J5 (g:Ae) (B:Option Addr) (c n:Nat) (w0:World) (hn:g.Edges.length=n) (hS:ST w0 [] w0 [] [⟨B,(g.Edges.flatMap eN1)⟩]) {r_:Bool} (hF:Ck g=some r_) :
  CV Tryz.prog 12 #[.agg #[vi g.Nodes,.slice B n c]] w0 (fun v w'=>v=.bool r_∧ST w0 [] w' [] []):=by
 subst hn
 unfold Ck at hF
 refine cv_of_cw 13 Tryz.func12 rfl Tryz.ntmps12 rfl ?_
 refine cq (cr ?_)
 refine sS 1 (yV [vi g.Nodes,.slice B g.Edges.length c] 2 hS) ?_
 rintro _ w_ ⟨b,rfl,hS1⟩
 refine sQ 2 yu (rn (cq (cr ?_)))
 refine sQ 3 (yd (aD b) 0 0 K45 K0)<|sQ 4 (yz 0 K1 (hS1.c 0)) ?_
 obtain ⟨r_1,hc,hF⟩:=bI hF
 refine sc 5 rfl rfl (yc K53 (Bh g.Nodes 1 8 _  (hS1.inn0 [] rfl) hc)) ?_
 rintro _ w_1 ⟨rfl,hd⟩
 have hS2:=hS1.out00 hd
 refine sQ 6 yv ?_
 refine sgq 7 rfl rfl (uT_ 6) (fun hg=>(yd (aD b) 0 0 K45 K0)) ?_
 refine sgq 8 rfl rfl (uT_ 6) (fun hg1=>(yz 0 K1 (hS2.c 0) rfl (gv_of hg1))) ?_
 refine sgq 9 rfl rfl (uT_ 6) (fun hg2=>(yd (aD b) 0 0 K50 K40)) ?_
 refine sgq 10 rfl rfl (uT_ 6) (fun hg3=>(yz 1 K69 (hS2.c 0) rfl (gv_of hg3))) ?_
 obtain ⟨r_2,hc1,hF⟩:=bI hF
 refine sgc 11 (v:=.bool r_2) (F:=hS2.fn) rfl rfl (uT_ 6) hS2 (fun hg4=>(yc Q9 (CV.mono (Uf g.Nodes g.Edges B c g.Edges.length _ rfl (hS2.inn0 [(true,0)] rfl) (gb_inv hc1 hg4)) (by rintro _ _ ⟨rfl,h⟩; exact ⟨rfl,hS2.out00 h⟩)) rfl (mc (gv_of hg4) (mc (gv_of hg4) mn)))) ?_
 rintro w_2 hS3
 refine sQ 12 yA<|sQ 2 yu (rn (ct_ ?_))
 obtain rfl:=sI hF
 exact e1 Tryz.results12 (hS3.sN [])

theorem Rl (s:List Ac) (f_:Ac→Option (Bool)) (B:Option Addr) (c n:Nat) (kf:Nat) (caps:Array Value) (Rf:List Ro) (w0:World) (hn:s.length=n) (hk:callB Tryz.prog kf=true) (hp:∀ (w:World),ST w [] w [] Rf→∀ (x:Ac) (y:Bool),f_ x=some y→CV Tryz.prog kf ((.agg #[vi x.Kind,vi x.A,vi x.B])::caps.toList).toArray w (fun v w'=>v=.bool y∧ST w [] w' [] [])) (hS:ST w0 [] w0 [] (⟨B,(s.flatMap eN0)⟩::Rf)) {r_:Int} (hF:Fq s f_=some r_) :
  CV Tryz.prog 89 #[.slice B n c,.func (.func kf) #[] caps] w0 (fun v w'=>v=vi r_∧ST w0 [] w' [] []):=by
 subst hn
 unfold Fq at hF
 refine cv_of_cw 19 Tryz.func89 rfl Tryz.ntmps89 rfl ?_
 refine cq (cr ?_)
 refine sQ 4 yu (rn (cq (cq (cr ?_))))
 refine sQ 6 yv<|sQ 7 (Y_len K12 rfl rfl)<|sQ 8 yv (rn ?_)
 obtain ⟨hN,hF⟩:=chk_inv hF
 obtain ⟨z,hz,hF1⟩:=bI hF
 refine cw_block ?_
 refine cw_loop (fun k f w=>∃ (i:Nat),FF f [(0,.slice B s.length c),(1,.func (.func kf) #[] caps),(7,vi (s.length:Int)),(8,vi (i:Int))]∧ST w0 [] w [] (⟨B,(s.flatMap eN0)⟩::Rf)∧i+k=s.length∧forX (Ed s f_) k i ()=some z) s.length ⟨0,(fc rfl (fc rfl (fc rfl (fc rfl fn_)))),(hS.sel [] rfl rfl),Nat.zero_add _,hz⟩ ?_
 rintro k_ f w ⟨i,hf,hS1,hik,hL⟩
 refine cq (cr ?_)
 refine sQ 9 (zL rfl (hf.g 8 3) (hf.g 7 2)) (rn (cq ?_))
 refine cw_cond rfl (fun hlt=>?_) (fun hlt=>?_)
 ·skip
  have hlt1:i<s.length:=by have h:=of_decide_eq_true hlt; omega
  obtain ⟨K2,rfl⟩:∃ k2,k_=k2+1:=⟨k_-1,by omega⟩
  obtain ⟨y1,hb,hL1⟩:=forX_go hL
  unfold Ed at hb
  refine cw_skip (cq (cw_block (cq (cr ?_))))
  refine sQ 10 (yv rfl (hf.g 8 3))<|sQ 5 yu (rn (cq (cr ?_)))
  refine sQ 11 (yv rfl (hf.g 1 1))<|sQ 12 (yv rfl (hf.g 0 0))<|sQ 13 yv ?_
  obtain ⟨x1,hx,hb⟩:=bI hb
  refine sQ 14 (yI B (i:Int) K12 K7 (gi_isSome eN8 rfl (hS1.rf (i:=0) rfl) hx) (getI_nn hx) (getI_ltI hx rfl))<|sQ 15 (ya B ((i:Int).toNat*3) (s.flatMap eN0) [vi x1.Kind,vi x1.A,vi x1.B] K35 K7 (hS1.rf (i:=0) rfl) rfl rfl (eN8 x1) (gi_seg eN8 hx)) ?_
  obtain ⟨r_1,hc,hb⟩:=bI hb
  refine sc 16 rfl rfl (Yc_clos (g:=kf) (vs:=(.agg #[vi x1.Kind,vi x1.A,vi x1.B])::caps.toList) hk rfl rfl (clo_args (mc rfl mn)) (hp _ (hS1.innS (fun _ h=>mOd (i:=1) h)) x1 r_1 hc)) ?_
  rintro _ w_ ⟨rfl,hd⟩
  have hS2:=hS1.out00 hd
  refine rn ?_
  refine cw_cond rfl (fun hb1=>?_) (fun hb1=>?_)
  ·skip
   have hF2:=ct hb hb1
   refine cq (cr ?_)
   refine sQ 17 yv<|sQ 4 yu (rn (ct_ ?_))
   obtain rfl:=sI hF2
   obtain rfl:=sI hL1
   obtain rfl:=sI hF1
   exact e1 Tryz.results89 (hS2.sN [])
  ·skip
   have hF3:=cf' hb hb1
   refine cw_skip (cr ?_)
   refine sQ 18 (zP rfl (hf.g 8 3))<|sQ 8 yv (rn ?_)
   obtain rfl:=sI hF3
   exact ⟨K2,Nat.lt_succ_self _,i+1,(hf.a 0 0 (hf.a 1 1 (hf.a 7 2 (fc (congrArg (Value.int .i64) (wr_succ hlt1 hN)) fn_)))),(hS2.sel [] rfl rfl),(by omega),hL1⟩
 ·skip
  obtain rfl:k_=0:=by have h:=of_decide_eq_false hlt; omega
  refine cw_exit rfl ?_
  obtain rfl:=sI hL
  refine cq (cr ?_)
  refine sQ 4 yu (rn (ct_ ?_))
  obtain rfl:=sI hF1
  exact e1 Tryz.results89 (hS1.sN [])

theorem Ma (s:List Ac) (f_:Ac→Option (Bool)) (B:Option Addr) (c n:Nat) (kf:Nat) (caps:Array Value) (Rf:List Ro) (w0:World) (hn:s.length=n) (hk:callB Tryz.prog kf=true) (hp:∀ (w:World),ST w [] w [] Rf→∀ (x:Ac) (y:Bool),f_ x=some y→CV Tryz.prog kf ((.agg #[vi x.Kind,vi x.A,vi x.B])::caps.toList).toArray w (fun v w'=>v=.bool y∧ST w [] w' [] [])) (hS:ST w0 [] w0 [] (⟨B,(s.flatMap eN0)⟩::Rf)) {r_:Bool} (hF:Du s f_=some r_) :
  CV Tryz.prog 53 #[.slice B n c,.func (.func kf) #[] caps] w0 (fun v w'=>v=.bool r_∧ST w0 [] w' [] []):=by
 subst hn
 unfold Du at hF
 refine cv_of_cw 9 Tryz.func53 rfl Tryz.ntmps53 rfl ?_
 refine cq (cr ?_)
 refine sQ 4 yu (rn (cq (cr ?_)))
 refine sQ 5 yv<|sQ 6 yv ?_
 obtain ⟨r_1,hc,hF⟩:=bI hF
 refine sc 7 rfl rfl (yc Sp (Rl s f_ B c s.length kf caps Rf _ rfl hk hp (hS.innS (sk 0 (fun _ h=>mOd (i:=1) h))) hc)) ?_
 rintro _ w_ ⟨rfl,hd⟩
 have hS1:=hS.out00 hd
 refine sQ 8 (Y_ge rfl rfl rfl)<|sQ 4 yu (rn (ct_ ?_))
 obtain rfl:=sI hF
 exact e1 Tryz.results53 (hS1.sN [])

theorem EH (kind:Int)  (w0:World)  (hS:ST w0 [] w0 [] []) {r_:Bool} (hF:AX kind=some r_) :
  CV Tryz.prog 55 #[vi kind] w0 (fun v w'=>v=.bool r_∧ST w0 [] w' [] []):=by
 unfold AX at hF
 refine cv_of_cw 5 Tryz.func55 rfl Tryz.ntmps55 rfl ?_
 refine cq (cr ?_)
 refine sQ 2 yu (rn (cq (cr ?_)))
 refine sQ 3 yv ?_
 obtain ⟨r_1,hc,hF⟩:=bI hF
 refine sc 4 rfl rfl (yc K53 (Bh kind 9 11 _  (hS.inn0 [] rfl) hc)) ?_
 rintro _ w_ ⟨rfl,hd⟩
 have hS1:=hS.out00 hd
 refine sQ 2 yu (rn (ct_ ?_))
 obtain rfl:=sI hF
 exact e1 Tryz.results55 (hS1.sN [])

theorem NQ (n:Int) (g:Ac)  (w0:World)  (hS:ST w0 [] w0 [] []) {r_:Bool} (hF:C7 n g=some r_) :
  CV Tryz.prog 81 #[vi n,.agg #[vi g.Kind,vi g.A,vi g.B]] w0 (fun v w'=>v=.bool r_∧ST w0 [] w' [] []):=by
 unfold C7 at hF
 refine cv_of_cw 60 Tryz.func81 rfl Tryz.ntmps81 rfl ?_
 refine cq (cr ?_)
 refine sS 3 (yV [vi g.Kind,vi g.A,vi g.B] 3 hS) ?_
 rintro _ w_ ⟨b,rfl,hS1⟩
 refine sQ 4 yu (rn (cq (cw_block (cq (cr ?_)))))
 refine sQ 6 yv ?_
 obtain ⟨r_1,hc,hF⟩:=bI hF
 refine sc 7 rfl rfl (yc K53 (Bh n 1 5 _  (hS1.inn0 [] rfl) hc)) ?_
 rintro _ w_1 ⟨rfl,hd⟩
 have hS2:=hS1.out00 hd
 refine sQ 8 yn<|sQ 9 yv ?_
 refine sgq 10 rfl rfl (uF_ 9) (fun hg=>(yd (aD b) 0 0 K38 K0)) ?_
 refine sgq 11 rfl rfl (uF_ 9) (fun hg1=>(yz 0 K1 (hS2.c 0) rfl (gv_of hg1))) ?_
 obtain ⟨r_2,hc1,hF⟩:=bI hF
 refine sgc 12 (v:=.bool r_2) (F:=hS2.fn) rfl rfl (uF_ 9) hS2 (fun hg2=>(yc K53 (CV.mono (Bh g.Kind 1 12 _  (hS2.inn0 [] rfl) (gb_inv hc1 hg2)) (by rintro _ _ ⟨rfl,h⟩; exact ⟨rfl,hS2.out00 h⟩)) rfl (mc (gv_of hg2) (mc rfl (mc rfl mn))))) ?_
 rintro w_2 hS3
 refine sgq 13 rfl rfl (uF_ 9) (fun hg3=>(yn rfl (gv_of hg3))) ?_
 refine sQ 14 yO<|sQ 5 yu (rn ?_)
 refine cw_cond rfl (fun hb=>?_) (fun hb=>?_)
 ·skip
  have hF1:=ct hF hb
  refine cq (cr ?_)
  refine sQ 4 yu (rn (ct_ ?_))
  obtain rfl:=sI hF1
  exact e1 Tryz.results81 (hS3.sN [])
 ·skip
  have hF2:=cf' hF hb
  refine cq (cr ?_)
  refine sQ 16 (yd (aD b) 0 0 K38 K0)<|sQ 17 (yz 0 K1 (hS3.c 0))<|sQ 18 zE<|sQ 15 yu (rn ?_)
  refine cw_cond rfl (fun hb1=>?_) (fun hb1=>?_)
  ·skip
   have hF3:=ct hF2 hb1
   refine cq (cr ?_)
   refine sQ 19 (yd (aD b) 0 0 K39 K0)<|sQ 20 (yz 1 K1 (hS3.c 0))<|sQ 21 zE<|sQ 22 yv ?_
   refine sgq 23 rfl rfl (uT_ 22) (fun hg4=>(yd (aD b) 0 0 K43 K0)) ?_
   refine sgq 24 rfl rfl (uT_ 22) (fun hg5=>(yz 2 K1 (hS3.c 0) rfl (gv_of hg5))) ?_
   refine sgq 25 rfl rfl (uT_ 22) (fun hg6=>(zE rfl (gv_of hg6))) ?_
   refine sQ 26 yA<|sQ 4 yu (rn (ct_ ?_))
   obtain rfl:=sI hF3
   exact e1 Tryz.results81 (hS3.sN [])
  ·skip
   have hF4:=cf' hF2 hb1
   refine cq (cr ?_)
   refine sQ 28 (yd (aD b) 0 0 K38 K0)<|sQ 29 (yz 0 K1 (hS3.c 0)) ?_
   obtain ⟨r_3,hc2,hF4⟩:=bI hF4
   refine sc 30 rfl rfl (yc Er (EH g.Kind _  (hS3.inn0 [] rfl) hc2)) ?_
   rintro _ w_3 ⟨rfl,hd1⟩
   have hS4:=hS3.out00 hd1
   refine sQ 27 yu (rn ?_)
   refine cw_cond rfl (fun hb2=>?_) (fun hb2=>?_)
   ·skip
    have hF5:=ct hF4 hb2
    refine cq (cr ?_)
    refine sQ 31 (yd (aD b) 0 0 K39 K0)<|sQ 32 (yz 1 K1 (hS4.c 0))<|sQ 33 yv<|sQ 34 zM ?_
    obtain ⟨r_4,hc3,hF5⟩:=bI hF5
    refine sc 35 rfl rfl (yc K53 (Bh g.A 0 (i64.wrap (n-1)) _  (hS4.inn0 [] rfl) hc3)) ?_
    rintro _ w_4 ⟨rfl,hd2⟩
    have hS5:=hS4.out00 hd2
    refine sQ 36 yv ?_
    refine sgq 37 rfl rfl (uT_ 36) (fun hg7=>(yd (aD b) 0 0 K43 K0)) ?_
    refine sgq 38 rfl rfl (uT_ 36) (fun hg8=>(yz 2 K1 (hS5.c 0) rfl (gv_of hg8))) ?_
    refine sgq 39 rfl rfl (uT_ 36) (fun hg9=>yv) ?_
    refine sgq 40 rfl rfl (uT_ 36) (fun hg10=>(zM rfl (gv_of hg10))) ?_
    obtain ⟨r_5,hc4,hF5⟩:=bI hF5
    refine sgc 41 (v:=.bool r_5) (F:=hS5.fn) rfl rfl (uT_ 36) hS5 (fun hg11=>(yc K53 (CV.mono (Bh g.B 0 (i64.wrap (n-1)) _  (hS5.inn0 [] rfl) (gb_inv hc4 hg11)) (by rintro _ _ ⟨rfl,h⟩; exact ⟨rfl,hS5.out00 h⟩)) rfl (mc (gv_of hg11) (mc rfl (mc (gv_of hg11) mn))))) ?_
    rintro w_5 hS6
    refine sQ 42 yA<|sQ 43 yv ?_
    refine sgq 44 rfl rfl (uT_ 43) (fun hg12=>(yd (aD b) 0 0 K39 K0)) ?_
    refine sgq 45 rfl rfl (uT_ 43) (fun hg13=>(yz 1 K1 (hS6.c 0) rfl (gv_of hg13))) ?_
    refine sgq 46 rfl rfl (uT_ 43) (fun hg14=>(yd (aD b) 0 0 K43 K0)) ?_
    refine sgq 47 rfl rfl (uT_ 43) (fun hg15=>(yz 2 K1 (hS6.c 0) rfl (gv_of hg15))) ?_
    refine sgq 48 rfl rfl (uT_ 43) (fun hg16=>(Y_ne rfl (gv_of hg16) (gv_of hg16))) ?_
    refine sQ 49 yA<|sQ 4 yu (rn (ct_ ?_))
    obtain rfl:=sI hF5
    exact e1 Tryz.results81 (hS6.sN [])
   ·skip
    have hF6:=cf' hF4 hb2
    refine cw_skip (cq (cr ?_))
    refine sQ 50 (yd (aD b) 0 0 K39 K0)<|sQ 51 (yz 1 K1 (hS4.c 0))<|sQ 52 yv<|sQ 53 zM ?_
    obtain ⟨r_6,hc5,hF6⟩:=bI hF6
    refine sc 54 rfl rfl (yc K53 (Bh g.A 0 (i64.wrap (n-1)) _  (hS4.inn0 [] rfl) hc5)) ?_
    rintro _ w_6 ⟨rfl,hd3⟩
    have hS7:=hS4.out00 hd3
    refine sQ 55 yv ?_
    refine sgq 56 rfl rfl (uT_ 55) (fun hg17=>(yd (aD b) 0 0 K43 K0)) ?_
    refine sgq 57 rfl rfl (uT_ 55) (fun hg18=>(yz 2 K1 (hS7.c 0) rfl (gv_of hg18))) ?_
    refine sgq 58 rfl rfl (uT_ 55) (fun hg19=>(zE rfl (gv_of hg19))) ?_
    refine sQ 59 yA<|sQ 4 yu (rn (ct_ ?_))
    obtain rfl:=sI hF6
    exact e1 Tryz.results81 (hS7.sN [])

theorem Q7 (g:Ac) (p:Ad) (B:Option Addr) (B1:Option Addr) (c n:Nat) (w0:World) (hn:p.Gates.length=n) (hS:ST w0 [] w0 [] [⟨B,[vi p.Qubits,.slice B1 n c]⟩,⟨B1,(p.Gates.flatMap eN0)⟩]) {r_:Bool} (hF:EF g p=some r_) :
  CV Tryz.prog 80 #[.agg #[vi g.Kind,vi g.A,vi g.B],pt B 0] w0 (fun v w'=>v=.bool r_∧ST w0 [] w' [] []):=by
 subst hn
 unfold EF at hF
 refine cv_of_cw 9 Tryz.func80 rfl Tryz.ntmps80 rfl ?_
 refine cq (cr ?_)
 refine sS 2 (yV [vi g.Kind,vi g.A,vi g.B] 3 hS) ?_
 rintro _ w_ ⟨b,rfl,hS1⟩
 refine sQ 3 yu (rn (cq (cr ?_)))
 refine sQ 4 (yd B 0 0 K42 K0)<|sQ 5 (yz 0 K1 (hS1.rf (i:=0) rfl))<|sQ 6 (yw 0 K35 K7 (hS1.c 0)) ?_
 obtain ⟨r_1,hc,hF⟩:=bI hF
 refine sc 7 rfl rfl (yc LX (NQ p.Qubits g _  (hS1.inn0 [] rfl) hc)) ?_
 rintro _ w_1 ⟨rfl,hd⟩
 have hS2:=hS1.out00 hd
 refine sQ 8 yn<|sQ 3 yu (rn (ct_ ?_))
 obtain rfl:=sI hF
 exact e1 Tryz.results80 (hS2.sN [])

theorem Dv (c:Ad) (B:Option Addr) (c1 n:Nat) (w0:World) (hn:c.Gates.length=n) (hS:ST w0 [] w0 [] [⟨B,(c.Gates.flatMap eN0)⟩]) {r_:Bool} (hF:BI c=some r_) :
  CV Tryz.prog 48 #[.agg #[vi c.Qubits,.slice B n c1]] w0 (fun v w'=>v=.bool r_∧ST w0 [] w' [] []):=by
 subst hn
 unfold BI at hF
 refine cv_of_cw 19 Tryz.func48 rfl Tryz.ntmps48 rfl ?_
 refine cq (cr ?_)
 refine sS 1 (yV [vi c.Qubits,.slice B c.Gates.length c1] 2 hS) ?_
 rintro _ w_ ⟨b,rfl,hS1⟩
 refine sQ 2 yu (rn (cq (cr ?_)))
 refine sQ 3 (yd (aD b) 0 0 K42 K0)<|sQ 4 (yz 0 K1 (hS1.c 0)) ?_
 obtain ⟨r_1,hc,hF⟩:=bI hF
 refine sc 5 rfl rfl (yc K53 (Bh c.Qubits 1 5 _  (hS1.inn0 [] rfl) hc)) ?_
 rintro _ w_1 ⟨rfl,hd⟩
 have hS2:=hS1.out00 hd
 refine sQ 6 yv ?_
 refine sgq 7 rfl rfl (uT_ 6) (fun hg=>(yd (aD b) 0 0 K19 K15)) ?_
 refine sgq 8 rfl rfl (uT_ 6) (fun hg1=>(yz 1 K21 (hS2.c 0) rfl (gv_of hg1))) ?_
 refine sgq 9 rfl rfl (uT_ 6) (fun hg2=>(Y_len K12 rfl (gv_of hg2))) ?_
 refine sgq 10 rfl rfl (uT_ 6) (fun hg3=>(Y_le rfl (gv_of hg3) rfl)) ?_
 refine sQ 11 yA<|sQ 12 yv ?_
 refine sgq 13 rfl rfl (uT_ 12) (fun hg4=>(yd (aD b) 0 0 K19 K15)) ?_
 refine sgq 14 rfl rfl (uT_ 12) (fun hg5=>(yz 1 K21 (hS2.c 0) rfl (gv_of hg5))) ?_
 refine sgq 15 rfl rfl (uT_ 12) (fun hg6=>(Y_makeFunc (cs:=[pt (aD b) 0]) rfl rfl (mc rfl mn))) ?_
 obtain ⟨r_2,hc1,hF⟩:=bI hF
 refine sgc 16 (v:=.bool r_2) (F:=hS2.fn) rfl rfl (uT_ 12) hS2 (fun hg7=>(yc Mu (CV.mono (Ma c.Gates (fun x_0=>EF x_0 c) B c1 c.Gates.length 80 (#[pt (aD b) 0]) [⟨aD b,[vi c.Qubits,.slice B c.Gates.length c1]⟩,⟨B,(c.Gates.flatMap eN0)⟩] _ rfl Tf (fun w hw x_0 y_0 h_=>Q7 x_0 c (aD b) B c1 c.Gates.length w rfl hw h_) (hS2.inn0 [(true,0),(false,0),(true,0)] rfl) (gb_inv hc1 hg7)) (by rintro _ _ ⟨rfl,h⟩; exact ⟨rfl,hS2.out00 h⟩)) rfl (mc (gv_of hg7) (mc (gv_of hg7) mn)))) ?_
 rintro w_2 hS3
 refine sgq 17 rfl rfl (uT_ 12) (fun hg8=>(yn rfl (gv_of hg8))) ?_
 refine sQ 18 yA<|sQ 2 yu (rn (ct_ ?_))
 obtain rfl:=sI hF
 exact e1 Tryz.results48 (hS3.sN [])

theorem JT (g:Ae) (c1:Ad) (B:Option Addr) (c n:Nat) (B1:Option Addr) (c2 n1:Nat) (w0:World) (hn:g.Edges.length=n) (hn1:c1.Gates.length=n1) (hS:ST w0 [] w0 [] [⟨B,(g.Edges.flatMap eN1)⟩,⟨B1,(c1.Gates.flatMap eN0)⟩]) {r_:Bool} (hF:BZ g c1=some r_) :
  CV Tryz.prog 46 #[.agg #[vi g.Nodes,.slice B n c],.agg #[vi c1.Qubits,.slice B1 n1 c2]] w0 (fun v w'=>v=.bool r_∧ST w0 [] w' [] []):=by
 subst hn
 subst hn1
 unfold BZ at hF
 refine cv_of_cw 18 Tryz.func46 rfl Tryz.ntmps46 rfl ?_
 refine cq (cr ?_)
 refine sS 2 (yV [vi g.Nodes,.slice B g.Edges.length c] 2 hS) ?_
 rintro _ w_ ⟨b,rfl,hS1⟩
 refine sS 3 (yV [vi c1.Qubits,.slice B1 c1.Gates.length c2] 2 hS1) ?_
 rintro _ w_1 ⟨b1,rfl,hS2⟩
 refine sQ 4 yu (rn (cq (cr ?_)))
 refine sQ 5 (yw 0 K13 K8 (hS2.c 0)) ?_
 obtain ⟨r_1,hc,hF⟩:=bI hF
 refine sc 6 rfl rfl (yc Jv (J5 g B c g.Edges.length _ rfl (hS2.inn0 [(true,0)] rfl) hc)) ?_
 rintro _ w_2 ⟨rfl,hd⟩
 have hS3:=hS2.out00 hd
 refine sQ 7 yv ?_
 refine sgq 8 rfl rfl (uT_ 7) (fun hg=>(yw 0 K10 K3 (hS3.c 1))) ?_
 obtain ⟨r_2,hc1,hF⟩:=bI hF
 refine sgc 9 (v:=.bool r_2) (F:=hS3.fn) rfl rfl (uT_ 7) hS3 (fun hg1=>(yc K93 (CV.mono (Dv c1 B1 c2 c1.Gates.length _ rfl (hS3.inn0 [(true,1)] rfl) (gb_inv hc1 hg1)) (by rintro _ _ ⟨rfl,h⟩; exact ⟨rfl,hS3.out00 h⟩)) rfl (mc (gv_of hg1) mn))) ?_
 rintro w_3 hS4
 refine sQ 10 yA<|sQ 11 yv ?_
 refine sgq 12 rfl rfl (uT_ 11) (fun hg2=>(yd (aD b1) 0 0 K42 K0)) ?_
 refine sgq 13 rfl rfl (uT_ 11) (fun hg3=>(yz 0 K1 (hS4.c 1) rfl (gv_of hg3))) ?_
 refine sgq 14 rfl rfl (uT_ 11) (fun hg4=>(yd (aD b) 0 0 K45 K0)) ?_
 refine sgq 15 rfl rfl (uT_ 11) (fun hg5=>(yz 0 K1 (hS4.c 0) rfl (gv_of hg5))) ?_
 refine sgq 16 rfl rfl (uT_ 11) (fun hg6=>(Y_le rfl (gv_of hg6) (gv_of hg6))) ?_
 refine sQ 17 yA<|sQ 4 yu (rn (ct_ ?_))
 obtain rfl:=sI hF
 exact e1 Tryz.results46 (hS4.sN [])

theorem Uk (c:Ad) (is_:Int→Option (Bool)) (B:Option Addr) (c1 n:Nat) (kf:Nat) (caps:Array Value) (Rf:List Ro) (w0:World) (hn:c.Gates.length=n) (hk:callB Tryz.prog kf=true) (hp:∀ (w:World),ST w [] w [] Rf→∀ (x:Int) (y:Bool),is_ x=some y→CV Tryz.prog kf ((vi x)::caps.toList).toArray w (fun v w'=>v=.bool y∧ST w [] w' [] [])) (hS:ST w0 [] w0 [] (⟨B,(c.Gates.flatMap eN0)⟩::Rf)) {r_:Int} {r_1:Bool} (hF:HD c is_=some (r_,r_1)) :
  CV Tryz.prog 96 #[.agg #[vi c.Qubits,.slice B n c1],.func (.func kf) #[] caps] w0 (fun v w'=>v=.tuple #[vi r_,.bool r_1]∧ST w0 [] w' [] []):=by
 subst hn
 unfold HD at hF
 refine cv_of_cw 27 Tryz.func96 rfl Tryz.ntmps96 rfl ?_
 refine cq (cr ?_)
 refine sS 2 (yV [vi c.Qubits,.slice B c.Gates.length c1] 2 hS) ?_
 rintro _ w_ ⟨b,rfl,hS1⟩
 refine sQ 4 yu<|sQ 5 yu (rn (cq (cq (cr ?_))))
 refine sQ 9 (yw 0 K10 K3 (hS1.c 0)) ?_
 obtain ⟨r_2,hc,hF⟩:=bI hF
 refine sc 10 rfl rfl (yc K93 (Dv c B c1 c.Gates.length _ rfl (hS1.inn0 [(true,0)] rfl) hc)) ?_
 rintro _ w_1 ⟨rfl,hd⟩
 have hS2:=hS1.out00 hd
 refine sQ 11 yn (rn ?_)
 refine cw_cond rfl (fun hb=>?_) (fun hb=>?_)
 ·skip
  have hF1:=ct hF hb
  refine cq (cr ?_)
  refine sQ 4 yu<|sQ 5 yu (rn (ct_ ?_))
  obtain ⟨rfl,rfl⟩:=pr2 (sI hF1)
  exact e2 Tryz.results96 (hS2.sN [])
 ·skip
  have hF2:=cf' hF hb
  refine cw_skip (cq (cr ?_))
  refine sQ 6 yu (rn (cq (cq (cr ?_))))
  refine sQ 12 (yd (aD b) 0 0 K19 K15)<|sQ 13 (yz 1 K21 (hS2.c 0))<|sQ 14 (Y_len K12 rfl rfl)<|sQ 15 yv (rn ?_)
  obtain ⟨hN,hF2⟩:=chk_inv hF2
  obtain ⟨z,hz,hF3⟩:=bI hF2
  refine cw_block ?_
  refine cw_loop (fun k f w=>∃ (i:Nat) (count:Int),FF f [(1,.func (.func kf) #[] caps),(6,vi count),(13,.slice B c.Gates.length c1),(14,vi (c.Gates.length:Int)),(15,vi (i:Int))]∧ST w0 [] w [] (⟨B,(c.Gates.flatMap eN0)⟩::Rf)∧i+k=c.Gates.length∧forN (H1 c is_) k i count=some z) c.Gates.length ⟨0,0,(fc rfl (fc rfl (fc rfl (fc rfl (fc rfl fn_))))),(hS2.sel [] rfl rfl),Nat.zero_add _,hz⟩ ?_
  rintro k_ f w ⟨i,count,hf,hS3,hik,hL⟩
  refine cq (cr ?_)
  refine sQ 16 (zL rfl (hf.g 15 4) (hf.g 14 3)) (rn (cq ?_))
  refine cw_cond rfl (fun hlt=>?_) (fun hlt=>?_)
  ·skip
   have hlt1:i<c.Gates.length:=by have h:=of_decide_eq_true hlt; omega
   obtain ⟨K2,rfl⟩:∃ k2,k_=k2+1:=⟨k_-1,by omega⟩
   obtain ⟨y1,hb1,hL1⟩:=forN_go hL
   unfold H1 at hb1
   refine cw_skip (cq ?_)
   obtain ⟨z1,hz1,hF4⟩:=bI hb1
   refine cw_mid (fun f w=>∃ (count1:Int),count1=z1∧FF f [(1,.func (.func kf) #[] caps),(6,vi count1),(13,.slice B c.Gates.length c1),(14,vi (c.Gates.length:Int)),(15,vi (i:Int))]∧ST w0 [] w [] (⟨B,(c.Gates.flatMap eN0)⟩::Rf)) ?_ ?_
   ·skip
    refine cw_block (cq (cr ?_))
    obtain ⟨x1,hx,hz1⟩:=bI hz1
    refine sQ 17 (yI B (i:Int) K12 K7 (gi_isSome eN8 rfl (hS3.rf (i:=0) rfl) hx) (getI_nn hx) (getI_ltI hx rfl) rfl (hf.g 13 2) (hf.g 15 4))<|sQ 18 (ya B ((i:Int).toNat*3) (c.Gates.flatMap eN0) [vi x1.Kind,vi x1.A,vi x1.B] K35 K7 (hS3.rf (i:=0) rfl) rfl rfl (eN8 x1) (gi_seg eN8 hx)) ?_
    refine sS 8 (yN [vi 0,vi 0,vi 0] 3 hS3 K28) ?_
    rintro _ w_2 ⟨b1,rfl,hS5⟩
    refine s0 (yK 0 3 0 hS5 K7) ?_
    rintro _ w_3 ⟨rfl,hS6⟩
    refine rn (cq (cr ?_))
    refine sQ 19 (yv rfl (hf.g 1 0))<|sQ 20 (yd (aD b1) 0 0 K38 K0)<|sQ 21 (yz 0 K1 (hS6.c 0)) ?_
    obtain ⟨r_3,hc1,hz1⟩:=bI hz1
    refine sc 22 rfl rfl (Yc_clos (g:=kf) (vs:=(vi x1.Kind)::caps.toList) hk rfl rfl (clo_args (mc rfl mn)) (hp _ (hS6.innS (fun _ h=>mOd (i:=1) h)) x1.Kind r_3 hc1)) ?_
    rintro _ w_4 ⟨rfl,hd1⟩
    have hS7:=hS6.out00 hd1
    refine rn ?_
    refine cw_cond rfl (fun hb2=>?_) (fun hb2=>?_)
    ·skip
     have hF5:=ct hz1 hb2
     refine cr ?_
     refine sQ 23 (yv rfl (hf.g 6 1))<|sQ 24 zP<|sQ 6 yu (rn ?_)
     exact ⟨(i64.wrap (count+1)),(sI hF5),(hf.a 1 0 (fc rfl (hf.a 13 2 (hf.a 14 3 (hf.a 15 4 fn_))))),(hS7.sel [] rfl rfl)⟩
    ·skip
     have hF6:=cf' hz1 hb2
     refine cw_skip ?_
     exact ⟨count,(sI hF6),(hf.a 1 0 (hf.a 6 1 (hf.a 13 2 (hf.a 14 3 (hf.a 15 4 fn_))))),(hS7.sel [] rfl rfl)⟩
   rintro f w ⟨count1,rfl,hf1,hS4⟩
   refine cr ?_
   refine sQ 25 (zP rfl (hf1.g 15 4))<|sQ 15 yv (rn ?_)
   obtain rfl:=sI hF4
   exact ⟨K2,Nat.lt_succ_self _,i+1,count1,(hf1.a 1 0 (hf1.a 6 1 (hf1.a 13 2 (hf1.a 14 3 (fc (congrArg (Value.int .i64) (wr_succ hlt1 hN)) fn_))))),(hS4.sel [] rfl rfl),(by omega),hL1⟩
  ·skip
   obtain rfl:k_=0:=by have h:=of_decide_eq_false hlt; omega
   refine cw_exit rfl ?_
   obtain rfl:=sI hL
   refine cq (cr ?_)
   refine sQ 26 (yv rfl (hf.g 6 1))<|sQ 4 yu<|sQ 5 yu (rn (ct_ ?_))
   obtain ⟨rfl,rfl⟩:=pr2 (sI hF3)
   exact e2 Tryz.results96 (hS3.sN [])

theorem U6 (c:Ad) (B:Option Addr) (c1 n:Nat) (w0:World) (hn:c.Gates.length=n) (hS:ST w0 [] w0 [] [⟨B,(c.Gates.flatMap eN0)⟩]) {r_:Int} {r_1:Bool} (hF:FE c=some (r_,r_1)) :
  CV Tryz.prog 61 #[.agg #[vi c.Qubits,.slice B n c1]] w0 (fun v w'=>v=.tuple #[vi r_,.bool r_1]∧ST w0 [] w' [] []):=by
 subst hn
 unfold FE at hF
 refine cv_of_cw 8 Tryz.func61 rfl Tryz.ntmps61 rfl ?_
 refine cq (cr ?_)
 refine sS 1 (yV [vi c.Qubits,.slice B c.Gates.length c1] 2 hS) ?_
 rintro _ w_ ⟨b,rfl,hS1⟩
 refine sQ 2 yu<|sQ 3 yu (rn (cq (cr ?_)))
 refine sQ 4 (yw 0 K10 K3 (hS1.c 0)) ?_
 obtain ⟨⟨r_2,r_3⟩,hc,hF⟩:=bI hF
 refine sc 5 rfl rfl (yc TH (Uk c AX B c1 c.Gates.length 55 (#[]) [] _ rfl Er (fun w hw x_0 y_0 h_=>EH x_0  w  hw h_) (hS1.inn0 [(true,0)] rfl) hc)) ?_
 rintro _ w_1 ⟨rfl,hd⟩
 have hS2:=hS1.out00 hd
 refine sQ 6 (ye (vi r_2))<|sQ 7 (ye (.bool r_3))<|sQ 2 yu<|sQ 3 yu (rn (ct_ ?_))
 obtain ⟨rfl,rfl⟩:=pr2 (sI hF)
 exact e2 Tryz.results61 (hS2.sN [])

theorem Pg (g:Ae) (c1:Ad) (B:Option Addr) (c n:Nat) (B1:Option Addr) (c2 n1:Nat) (w0:World) (hn:g.Edges.length=n) (hn1:c1.Gates.length=n1) (hS:ST w0 [] w0 [] [⟨B,(g.Edges.flatMap eN1)⟩,⟨B1,(c1.Gates.flatMap eN0)⟩]) {r_:Bool} (hF:BG g c1=some r_) :
  CV Tryz.prog 23 #[.agg #[vi g.Nodes,.slice B n c],.agg #[vi c1.Qubits,.slice B1 n1 c2]] w0 (fun v w'=>v=.bool r_∧ST w0 [] w' [] []):=by
 subst hn
 subst hn1
 unfold BG at hF
 refine cv_of_cw 33 Tryz.func23 rfl Tryz.ntmps23 rfl ?_
 refine cq (cr ?_)
 refine sS 2 (yV [vi g.Nodes,.slice B g.Edges.length c] 2 hS) ?_
 rintro _ w_ ⟨b,rfl,hS1⟩
 refine sS 3 (yV [vi c1.Qubits,.slice B1 c1.Gates.length c2] 2 hS1) ?_
 rintro _ w_1 ⟨b1,rfl,hS2⟩
 refine sQ 4 yu (rn (cq (cr ?_)))
 refine sQ 8 (yw 0 K10 K3 (hS2.c 1)) ?_
 obtain ⟨⟨r_1,r_2⟩,hc,hF⟩:=bI hF
 refine sc 9 rfl rfl (yc RG (U6 c1 B1 c2 c1.Gates.length _ rfl (hS2.inn0 [(true,1)] rfl) hc)) ?_
 rintro _ w_2 ⟨rfl,hd⟩
 have hS3:=hS2.out00 hd
 refine sQ 7 yv<|sQ 10 (ye (vi r_1))<|sQ 11 (ye (.bool r_2))<|sQ 5 yu<|sQ 6 yu (rn (cq (cr ?_)))
 refine sQ 12 yv<|sQ 13 yv ?_
 refine sgq 14 rfl rfl (uT_ 13) (fun hg=>(yw 0 K13 K8 (hS3.c 0))) ?_
 refine sgq 15 rfl rfl (uT_ 13) (fun hg1=>(yw 0 K10 K3 (hS3.c 1))) ?_
 obtain ⟨r_3,hc1,hF⟩:=bI hF
 refine sgc 16 (v:=.bool r_3) (F:=hS3.fn) rfl rfl (uT_ 13) hS3 (fun hg2=>(yc JD (CV.mono (JT g c1 B c g.Edges.length B1 c2 c1.Gates.length _ rfl rfl (hS3.inn0 [(true,0),(true,1)] rfl) (gb_inv hc1 hg2)) (by rintro _ _ ⟨rfl,h⟩; exact ⟨rfl,hS3.out00 h⟩)) rfl (mc (gv_of hg2) (mc (gv_of hg2) mn)))) ?_
 rintro w_3 hS4
 refine sQ 17 yA<|sQ 18 yv ?_
 refine sgq 19 rfl rfl (uT_ 18) (fun hg3=>(yd (aD b) 0 0 K45 K0)) ?_
 refine sgq 20 rfl rfl (uT_ 18) (fun hg4=>(yz 0 K1 (hS4.c 0) rfl (gv_of hg4))) ?_
 refine sgq 21 rfl rfl (uT_ 18) (fun hg5=>(Y_le rfl (gv_of hg5) rfl)) ?_
 refine sQ 22 yA<|sQ 23 yv ?_
 refine sgq 24 rfl rfl (uT_ 23) (fun hg6=>(yd (aD b1) 0 0 K19 K15)) ?_
 refine sgq 25 rfl rfl (uT_ 23) (fun hg7=>(yz 1 K21 (hS4.c 1) rfl (gv_of hg7))) ?_
 refine sgq 26 rfl rfl (uT_ 23) (fun hg8=>(Y_len K12 rfl (gv_of hg8))) ?_
 refine sgq 27 rfl rfl (uT_ 23) (fun hg9=>(Y_le rfl (gv_of hg9) rfl)) ?_
 refine sQ 28 yA<|sQ 29 yv ?_
 refine sgq 30 rfl rfl (uT_ 29) (fun hg10=>yv) ?_
 refine sgq 31 rfl rfl (uT_ 29) (fun hg11=>(Y_le rfl (gv_of hg11) rfl)) ?_
 refine sQ 32 yA<|sQ 4 yu (rn (ct_ ?_))
 obtain rfl:=sI hF
 exact e1 Tryz.results23 (hS4.sN [])

theorem DV (s:List Int) (B:Option Addr) (c n:Nat) (w0:World) (hn:s.length=n) (hS:ST w0 [] w0 [] [⟨B,(s.flatMap encI)⟩]) {r_:List Int} (hF:Bv s=some r_) :
  CV Tryz.prog 33 #[.slice B n c] w0 (fun v w'=>∃ (B1:Option Addr) (c1:Nat),v=.slice B1 r_.length c1∧ST w0 [] w' [⟨B1,3,(r_.flatMap encI),c1*1⟩] []):=by
 subst hn
 unfold Bv at hF
 refine cv_of_cw 8 Tryz.func33 rfl Tryz.ntmps33 rfl ?_
 refine cq (cr ?_)
 refine sQ 2 yu (rn (cq (cq (cr ?_))))
 refine sQ 3 yv<|sQ 4 (Y_nileql (B:=B) (m:=s.length) (c:=c) K5 rfl rfl rfl) (rn ?_)
 refine cw_cond rfl (fun hb=>?_) (fun hb=>?_)
 ·skip
  have hl:s=[]:=nil_cont encI_len (hS.rf (i:=0) rfl) rfl hb
  rw [hl] at hF
  have hF1:(some ([]))=some r_:=by simpa [chk] using hF
  subst hl
  refine cq (cr ?_)
  refine sQ 2 yu (rn (ct_ ?_))
  have hS1:=hS.addNil 3
  obtain rfl:=sI hF1
  exact ret1 Tryz.results33 rT ⟨none,0,rfl,(hS1.sN [0])⟩
 ·skip
  refine cw_skip (cq (cr ?_))
  refine sS 5 (Ys_bslice0 (s:=1) (e:=3) hS K5 K0 rfl) ?_
  rintro _ w_ ⟨b,rfl,hS2⟩
  refine sQ 6 yv ?_
  obtain ⟨hap,hF⟩:=chk_inv hF
  refine sS 7 (Ys_append (s:=1) (by':=8) (i:=0) (nn:=0) (c:=0) (k:=s.length) (len:=s.length) (B:=aD b) (xs:=(s.flatMap encI)) (cs':=(s.flatMap encI)) hS2 K5 K0 K83 K75 rfl (by decide) rfl rfl rfl rfl (fm_lenn (l:=[]) encI_len rfl) rfl (hS2.rf (i:=0) rfl) (fm_lenn (l:=s) encI_len rfl) (fm_one' (enc:=encI) encI_one s) (by have:=hap; omega) (by have:=hap; simp only [maxLen]; omega) rfl (app_len0 (l:=s) rfl)) ?_
  rintro _ w_1 ⟨B2,c2,rfl,hS3⟩
  refine sQ 2 yu (rn (ct_ ?_))
  obtain rfl:=sI hF
  exact ret1 Tryz.results33 rT ⟨B2,c2,rfl,(hS3.sN [0])⟩

theorem Ki (g:Ae) (c1:Ad) (start:List Int) (B:Option Addr) (c n:Nat) (B1:Option Addr) (c2 n1:Nat) (B2:Option Addr) (c3 n2:Nat) (w0:World) (hn:g.Edges.length=n) (hq:n≤c) (hn1:c1.Gates.length=n1) (hq1:n1≤c2) (hn2:start.length=n2) (hS:ST w0 [] w0 [] [⟨B,(g.Edges.flatMap eN1)⟩,⟨B1,(c1.Gates.flatMap eN0)⟩,⟨B2,(start.flatMap encI)⟩]) {r_:Ap} (hF:Cs g c1 start=some r_) :
  CV Tryz.prog 42 #[.agg #[vi g.Nodes,.slice B n c],.agg #[vi c1.Qubits,.slice B1 n1 c2],.slice B2 n2 c3] w0 (fun v w'=>∃ (B3:Option Addr) (c4:Nat) (B4:Option Addr) (c5:Nat) (B5:Option Addr) (c6:Nat) (B6:Option Addr) (c7:Nat),v=.agg #[vi r_.g.Nodes,.slice B3 r_.g.Edges.length c4,vi r_.c.Qubits,.slice B4 r_.c.Gates.length c5,.slice B5 r_.place.length c6,.slice B6 r_.done.length c7]∧r_.g.Edges.length≤c4∧r_.c.Gates.length≤c5∧Org w0 [] [⟨B,(g.Edges.flatMap eN1)⟩,⟨B1,(c1.Gates.flatMap eN0)⟩,⟨B2,(start.flatMap encI)⟩] [⟨B3,(r_.g.Edges.flatMap eN1)⟩,⟨B4,(r_.c.Gates.flatMap eN0)⟩]∧ST w0 [] w' [⟨B5,3,(r_.place.flatMap encI),c6*1⟩,⟨B6,4,(r_.done.flatMap encB),c7*1⟩] [⟨B3,(r_.g.Edges.flatMap eN1)⟩,⟨B4,(r_.c.Gates.flatMap eN0)⟩]):=by
 subst hn
 subst hn1
 subst hn2
 unfold Cs at hF
 refine cv_of_cw 16 Tryz.func42 rfl Tryz.ntmps42 rfl ?_
 refine cq (cr ?_)
 let V6:List Value:=[vi g.Nodes,.slice B g.Edges.length c]
 refine sS 3 (yV V6 2 hS) ?_
 rintro _ w_ ⟨b,rfl,hS1⟩
 let V5:List Value:=[vi c1.Qubits,.slice B1 c1.Gates.length c2]
 refine sS 4 (yV V5 2 hS1) ?_
 rintro _ w_1 ⟨b1,rfl,hS2⟩
 let V4:List Value:=[vi 0,.slice none 0 0,vi 0,.slice none 0 0,.slice none 0 0,.slice none 0 0]
 refine sS 6 (yN V4 6 hS2 K86) ?_
 rintro _ w_2 ⟨b2,rfl,hS3⟩
 refine rn (cq ?_)
 obtain ⟨r_1,hc,hF⟩:=bI hF
 obtain ⟨hmk,hF⟩:=chk_inv hF
 refine ra_start (hS3.se [0,1]).fn (by kernel_rfl) ?_
 have hS5:=hS3.drew
 have hQ0:=hS5.se [0,1]
 refine rq 0 7 rfl hQ0 (fun _ q=>(yw 0 K13 K8 (ST.c q 0)))<|rq 1 8 rfl hQ0 (fun _ q=>(yw 0 K10 K3 (ST.c q 1)))<|rq 2 9 rfl hQ0 (fun _ q=>yv)<|rq 4 11 rfl hQ0 (fun _ q=>(yd (aD b1) 0 0 K19 K15))<|rq 5 12 rfl hQ0 (fun _ q=>(yz 1 K21 (ST.c q 1))) ?_
 refine rq 6 13 rfl hQ0 (fun _ q=>(Y_len K12 rfl rfl)) ?_
 let O0:Ob:=⟨aD b2,82,V4,6⟩
 let O1:Ob:=⟨aD b1,28,V5,2⟩
 let O2:Ob:=⟨aD b,25,V6,2⟩
 refine rf_in (k:=3) (ts:=[13]) (L:=[O2,O1,O0]) (G:=[]) [fM 7 14 4 ((List.replicate c1.Gates.length false).flatMap encB) (c1.Gates.length*1) c1.Gates.length c1.Gates.length] hS5 (flc rfl rfl rfl (fun _ _ _ _ hf_ h=>(Ys_make (s:=1) (by':=1) (nn:=c1.Gates.length) (a:=(c1.Gates.length:Int)) (b:=(c1.Gates.length:Int)) (cs:=((List.replicate c1.Gates.length false).flatMap encB)) h K47 K49 Iz GQ rfl rfl ((hf_ 13 (List.Mem.head _)).trans rfl) ((hf_ 13 (List.Mem.head _)).trans rfl) hmk.1 rfl (by have:=hmk; omega) (by have:=hmk; omega) (by omega) (fm_rep (enc:=encB) (d:=false) rfl _))) fln) (fun hJ=>?_)
 refine rf_all [3] hJ (fun Z w h=>(ST.sel (ST.noF h) [0,1] rfl rfl)) (fun Z w_3 hz hS6=>?_)
 refine rC 10 3 rfl (yc E5 (DV start B2 c3 start.length _ rfl (hS6.inn0 [(true,2)] rfl) hc)) ?_ aN
 rintro _ w_4 ⟨B7,c8,rfl,hd⟩
 have hS7:=hS6.out0 hd
 let O3:Ob:=⟨B7,3,(r_1.flatMap encI),c8*1⟩
 have hS8:ST w0 [] _ (O2::O1::O0::O3::(flL [fM 7 14 4 ((List.replicate c1.Gates.length false).flatMap encB) (c1.Gates.length*1) c1.Gates.length c1.Gates.length] Z++[])) [⟨B,(g.Edges.flatMap eN1)⟩,⟨B1,(c1.Gates.flatMap eN0)⟩,⟨B2,(start.flatMap encI)⟩]:=ST.rot (pre:=[O2,O1,O0]) (G:=(flL [fM 7 14 4 ((List.replicate c1.Gates.length false).flatMap encB) (c1.Gates.length*1) c1.Gates.length c1.Gates.length] Z++[])) (xs:=[O3]) hS7
 refine rf_k (L:=[O2,O1,O0,O3]) hz hS8 (fun Z w h=>(ST.sel (ST.noF h) [0,1] rfl rfl)) ?_
 refine rf_force hJ (fun Z w h=>(ST.sel (ST.noF h) [0,1] rfl rfl)) (fun b3=>?_)
 refine rf_out (fun w_5 hS9=>?_)
 refine rq 8 15 rfl (hS9.se [0,1]) (fun _ q=>(Y_buildS (zs:=V4) (vs:=[(0,.agg V6.toArray),(1,.agg V5.toArray),(2,.slice B7 r_1.length c8),(3,.slice (aD b3) c1.Gates.length c1.Gates.length)]) (cs:=[vi g.Nodes,.slice B g.Edges.length c,vi c1.Qubits,.slice B1 c1.Gates.length c2,.slice B7 r_1.length c8,.slice (aD b3) c1.Gates.length c1.Gates.length]) PG K86 rfl (mpc rfl (mpc rfl (mpc rfl (mpc rfl mpn)))) rfl)) ?_
 refine rA [9] ?_
 refine rZ 9 rfl (yK 2 6 0 hS9 K24) ?_ aN
 rintro _ w_6 ⟨rfl,hS10⟩
 refine ⟨(hS10.se [0,1]),?_⟩
 refine ra_done (by kernel_rfl) ?_
 refine ct_ ?_
 obtain rfl:=sI hF
 exact ret1 Tryz.results42 (v1:=.agg #[vi g.Nodes,.slice B g.Edges.length c,vi c1.Qubits,.slice B1 c1.Gates.length c2,.slice B7 r_1.length c8,.slice (aD b3) c1.Gates.length c1.Gates.length]) (rX K54 K24 (hS10.c 2)) ⟨B,c,B1,c2,B7,c8,aD b3,c1.Gates.length,(by simp +zetaDelta [List.length_replicate]),(len_le rfl hq),(len_le rfl hq1),(org_cons (org_mem (i:=0) rfl) (org_cons (org_mem (i:=1) rfl) org_nil)),((hS10.sel [3,4] rfl rfl).sT [0,1])⟩

theorem M7 (s:List Int) (v_:Int) (B:Option Addr) (c n:Nat) (w0:World) (hn:s.length=n) (hS:ST w0 [] w0 [] [⟨B,(s.flatMap encI)⟩]) {r_:Int} (hF:C4 s v_=some r_) :
  CV Tryz.prog 34 #[.slice B n c,vi v_] w0 (fun v w'=>v=vi r_∧ST w0 [] w' [] []):=by
 subst hn
 unfold C4 at hF
 refine cv_of_cw 19 Tryz.func34 rfl Tryz.ntmps34 rfl ?_
 refine cq (cr ?_)
 refine sQ 4 yu (rn (cq (cq (cr ?_))))
 refine sQ 6 yv<|sQ 7 (Y_len K5 rfl rfl)<|sQ 8 yv (rn ?_)
 obtain ⟨hN,hF⟩:=chk_inv hF
 obtain ⟨z,hz,hF1⟩:=bI hF
 refine cw_block ?_
 refine cw_loop (fun k f w=>∃ (i:Nat),FF f [(0,.slice B s.length c),(1,vi v_),(7,vi (s.length:Int)),(8,vi (i:Int))]∧ST w0 [] w [] [⟨B,(s.flatMap encI)⟩]∧i+k=s.length∧forX (Et s v_) k i ()=some z) s.length ⟨0,(fc rfl (fc rfl (fc rfl (fc rfl fn_)))),(hS.sel [] rfl rfl),Nat.zero_add _,hz⟩ ?_
 rintro k_ f w ⟨i,hf,hS1,hik,hL⟩
 refine cq (cr ?_)
 refine sQ 9 (zL rfl (hf.g 8 3) (hf.g 7 2)) (rn (cq ?_))
 refine cw_cond rfl (fun hlt=>?_) (fun hlt=>?_)
 ·skip
  have hlt1:i<s.length:=by have h:=of_decide_eq_true hlt; omega
  obtain ⟨K2,rfl⟩:∃ k2,k_=k2+1:=⟨k_-1,by omega⟩
  obtain ⟨y,hb,hL1⟩:=forX_go hL
  unfold Et at hb
  refine cw_skip (cq (cw_block (cq (cr ?_))))
  refine sQ 10 (yv rfl (hf.g 8 3))<|sQ 5 yu (rn (cq (cr ?_)))
  refine sQ 11 (yv rfl (hf.g 1 1))<|sQ 12 (yv rfl (hf.g 0 0))<|sQ 13 yv ?_
  obtain ⟨x,hx,hb⟩:=bI hb
  refine sQ 14 (yI B (i:Int) K5 K0 (gi_isSome encI_len rfl (hS1.rf (i:=0) rfl) hx) (getI_nn hx) (getI_ltI hx rfl))<|sQ 15 (yz ((i:Int).toNat*1) K1 (hS1.rf (i:=0) rfl) rfl rfl (gi_at0 encI_len hx rfl))<|sQ 16 zE (rn ?_)
  refine cw_cond rfl (fun hb1=>?_) (fun hb1=>?_)
  ·skip
   have hF2:=ct hb hb1
   refine cq (cr ?_)
   refine sQ 17 yv<|sQ 4 yu (rn (ct_ ?_))
   obtain rfl:=sI hF2
   obtain rfl:=sI hL1
   obtain rfl:=sI hF1
   exact e1 Tryz.results34 (hS1.sN [])
  ·skip
   have hF3:=cf' hb hb1
   refine cw_skip (cr ?_)
   refine sQ 18 (zP rfl (hf.g 8 3))<|sQ 8 yv (rn ?_)
   obtain rfl:=sI hF3
   exact ⟨K2,Nat.lt_succ_self _,i+1,(hf.a 0 0 (hf.a 1 1 (hf.a 7 2 (fc (congrArg (Value.int .i64) (wr_succ hlt1 hN)) fn_)))),(hS1.sel [] rfl rfl),(by omega),hL1⟩
 ·skip
  obtain rfl:k_=0:=by have h:=of_decide_eq_false hlt; omega
  refine cw_exit rfl ?_
  obtain rfl:=sI hL
  refine cq (cr ?_)
  refine sQ 4 yu (rn (ct_ ?_))
  obtain rfl:=sI hF1
  exact e1 Tryz.results34 (hS1.sN [])

theorem HK (s:List Int) (v_:Int) (B:Option Addr) (c n:Nat) (w0:World) (hn:s.length=n) (hS:ST w0 [] w0 [] [⟨B,(s.flatMap encI)⟩]) {r_:Bool} (hF:BT s v_=some r_) :
  CV Tryz.prog 50 #[.slice B n c,vi v_] w0 (fun v w'=>v=.bool r_∧ST w0 [] w' [] []):=by
 subst hn
 unfold BT at hF
 refine cv_of_cw 9 Tryz.func50 rfl Tryz.ntmps50 rfl ?_
 refine cq (cr ?_)
 refine sQ 4 yu (rn (cq (cr ?_)))
 refine sQ 5 yv<|sQ 6 yv ?_
 obtain ⟨r_1,hc,hF⟩:=bI hF
 refine sc 7 rfl rfl (yc MQ (M7 s v_ B c s.length _ rfl (hS.inn0 [(true,0)] rfl) hc)) ?_
 rintro _ w_ ⟨rfl,hd⟩
 have hS1:=hS.out00 hd
 refine sQ 8 (Y_ge rfl rfl rfl)<|sQ 4 yu (rn (ct_ ?_))
 obtain rfl:=sI hF
 exact e1 Tryz.results50 (hS1.sN [])

theorem MH (g:Ae) (n1:Int) (place:List Int) (B:Option Addr) (c n:Nat) (B1:Option Addr) (c1 n2:Nat) (w0:World) (hn:g.Edges.length=n) (hn1:place.length=n2) (hq:n2≤c1) (hS:ST w0 [] w0 [] [⟨B,(g.Edges.flatMap eN1)⟩,⟨B1,(place.flatMap encI)⟩]) {r_:Bool} (hF:CI g n1 place=some r_) :
  CV Tryz.prog 63 #[.agg #[vi g.Nodes,.slice B n c],vi n1,.slice B1 n2 c1] w0 (fun v w'=>v=.bool r_∧ST w0 [] w' [] []):=by
 subst hn
 subst hn1
 unfold CI at hF
 refine cv_of_cw 34 Tryz.func63 rfl Tryz.ntmps63 rfl ?_
 refine cq (cr ?_)
 refine sS 3 (yV [vi g.Nodes,.slice B g.Edges.length c] 2 hS) ?_
 rintro _ w_ ⟨b,rfl,hS1⟩
 refine sQ 6 yu (rn (cq (cq (cr ?_))))
 refine sQ 9 yv<|sQ 10 (Y_len K5 rfl rfl)<|sQ 11 yv (rn ?_)
 obtain ⟨hN,hF⟩:=chk_inv hF
 obtain ⟨z,hz,hF1⟩:=bI hF
 refine cw_block ?_
 let O0:Ob:=⟨aD b,25,[vi g.Nodes,.slice B g.Edges.length c],2⟩
 let R1:Ro:=⟨B,(g.Edges.flatMap eN1)⟩
 let R2:Ro:=⟨B1,(place.flatMap encI)⟩
 refine cw_loop (fun k f w=>∃ (i:Nat),FF f [(1,vi n1),(2,.slice B1 place.length c1),(3,pt (aD b) 0),(9,.slice B1 place.length c1),(10,vi (place.length:Int)),(11,vi (i:Int))]∧ST w0 [] w [O0] [R1,R2]∧i+k=place.length∧forX (H5 place g) k i ()=some z) place.length ⟨0,(fc rfl (fc rfl (fc rfl (fc rfl (fc rfl (fc rfl fn_)))))),(hS1.sel [0] rfl rfl),Nat.zero_add _,hz⟩ ?_
 rintro k_ f w ⟨i,hf,hS2,hik,hL⟩
 refine cq (cr ?_)
 refine sQ 12 (zL rfl (hf.g 11 5) (hf.g 10 4)) (rn (cq ?_))
 refine cw_cond rfl (fun hlt=>?_) (fun hlt=>?_)
 ·skip
  have hlt1:i<place.length:=by have h:=of_decide_eq_true hlt; omega
  obtain ⟨K2,rfl⟩:∃ k2,k_=k2+1:=⟨k_-1,by omega⟩
  obtain ⟨y,hb,hL1⟩:=forX_go hL
  unfold H5 at hb
  refine cw_skip (cq (cw_block (cq (cr ?_))))
  refine sQ 13 (yv rfl (hf.g 11 5)) ?_
  obtain ⟨x,hx,hb⟩:=bI hb
  refine sQ 14 (yI B1 (i:Int) K5 K0 (gi_isSome encI_len rfl (hS2.rf (i:=1) rfl) hx) (getI_nn hx) (getI_ltI hx rfl) rfl (hf.g 9 3) (hf.g 11 5))<|sQ 15 (yz ((i:Int).toNat*1) K1 (hS2.rf (i:=1) rfl) rfl rfl (gi_at0 encI_len hx rfl))<|sQ 7 yu<|sQ 8 yu (rn (cq (cr ?_)))
  refine sQ 16 yv<|sQ 17 (yd (aD b) 0 0 K45 K0 rfl (hf.g 3 2))<|sQ 18 (yz 0 K1 (hS2.c 0))<|sQ 19 zM ?_
  obtain ⟨r_1,hc,hb⟩:=bI hb
  refine sc 20 rfl rfl (yc K53 (Bh x 0 (i64.wrap (g.Nodes-1)) _  (hS2.inn0 [] rfl) hc)) ?_
  rintro _ w_1 ⟨rfl,hd⟩
  have hS3:=hS2.out00 hd
  refine sQ 21 yn<|sQ 22 yv ?_
  refine sgq 23 rfl rfl (uF_ 22) (fun hg=>(yv rfl (hf.g 2 1))) ?_
  refine sgq 24 rfl rfl (uF_ 22) (fun hg1=>yv) ?_
  refine rw_split (B:=(!(!r_1))) (fun hb1=>?_) (fun hb1=>?_)
  ·skip
   have hF2:=ct hb hb1
   obtain ⟨hsl,hF2⟩:=chk_inv hF2
   have hcap:place.length≤c1:=hq
   have hv:(List.take i place).length=i:=(take_len rfl (by omega))
   have hq1:i≤c1:=by omega
   have ho:Org w0 [] [R1,R2] [⟨B1,((List.take i place).flatMap encI)⟩]:=org_view encI_len (q:=c1) (org_mem (i:=1) rfl) (sv_zero _ _ _).symm rfl
   have hS4:ST w0 [] _ [O0] [⟨B1,((List.take i place).flatMap encI)⟩,R1,R2]:=ST.view encI_len hS3 (i:=1) rfl (lo:=0) (h:=i) (q:=c1) (by omega) (by omega) (sv_zero _ _ _).symm rfl
   refine sqg 25 rfl rfl (uF_ 22) hb1 (Y_slice0 (B:=B1) (m:=place.length) (c:=c1) (h:=i) (s:=1) K5 K0 rfl (gv_of hb1) (bnd_some (gv_of hb1) rfl) (by omega)) ?_
   refine sqg 26 rfl rfl (uF_ 22) hb1 yv ?_
   obtain ⟨r_2,hc1,hF2⟩:=bI hF2
   refine scg 27 rfl rfl (uF_ 22) hb1 (yc Hv (HK (List.take i place) x B1 c1 i _ hv (hS4.inn0 [(true,0)] rfl) hc1)) ?_
   rintro _ w_2 ⟨rfl,hd1⟩
   have hS5:=hS4.out00 hd1
   refine sQ 28 (Y_pickF (b:=(!r_1)) (v:=.bool r_2) rfl rfl (nt hb1) rfl) (rn ?_)
   refine cw_cond rfl (fun hb2=>?_) (fun hb2=>?_)
   ·skip
    have hF3:=ct hF2 hb2
    refine cq (cr ?_)
    refine sQ 6 yu (rn (ct_ ?_))
    obtain rfl:=sI hF3
    obtain rfl:=sI hL1
    obtain rfl:=sI hF1
    exact e1 Tryz.results63 (hS5.sN [])
   ·skip
    have hF4:=cf' hF2 hb2
    refine cw_skip (cr ?_)
    refine sQ 29 (zP rfl (hf.g 11 5))<|sQ 11 yv (rn ?_)
    obtain rfl:=sI hF4
    have hS6:ST w0 [] _ [O0] [R1,R2]:=hS5.sT [1,2]
    exact ⟨K2,Nat.lt_succ_self _,i+1,(hf.a 1 0 (hf.a 2 1 (hf.a 3 2 (hf.a 9 3 (hf.a 10 4 (fc (congrArg (Value.int .i64) (wr_succ hlt1 hN)) fn_)))))),(hS6.sel [0] rfl rfl),(by omega),hL1⟩
  ·skip
   have hF5:=cf' hb hb1
   refine sgn 25 rfl rfl (uF_ 22) hb1 ?_
   refine sgn 26 rfl rfl (uF_ 22) hb1 ?_
   refine sgn 27 rfl rfl (uF_ 22) hb1 ?_
   refine sQ 28 (Y_pickT (b:=(!r_1)) (v:=.bool true) rfl rfl (nf hb1) rfl) (rn ?_)
   refine cw_cond rfl (fun _=>?_) (fun h=>by cases h)
   refine cq (cr ?_)
   refine sQ 6 yu (rn (ct_ ?_))
   obtain rfl:=sI hF5
   obtain rfl:=sI hL1
   obtain rfl:=sI hF1
   exact e1 Tryz.results63 (hS3.sN [])
 ·skip
  obtain rfl:k_=0:=by have h:=of_decide_eq_false hlt; omega
  refine cw_exit rfl ?_
  obtain rfl:=sI hL
  refine cq (cr ?_)
  refine sQ 30 (yv rfl (hf.g 2 1))<|sQ 31 (Y_len K5 rfl rfl)<|sQ 32 (yv rfl (hf.g 1 0))<|sQ 33 zE<|sQ 6 yu (rn (ct_ ?_))
  obtain rfl:=sI hF1
  exact e1 Tryz.results63 (hS2.sN [])

theorem Vo (s:List Int) (f_:Int→Option (Bool)) (B:Option Addr) (c n:Nat) (kf:Nat) (caps:Array Value) (Rf:List Ro) (w0:World) (hn:s.length=n) (hk:callB Tryz.prog kf=true) (hp:∀ (w:World),ST w [] w [] Rf→∀ (x:Int) (y:Bool),f_ x=some y→CV Tryz.prog kf ((vi x)::caps.toList).toArray w (fun v w'=>v=.bool y∧ST w [] w' [] [])) (hS:ST w0 [] w0 [] (⟨B,(s.flatMap encI)⟩::Rf)) {r_:Int} (hF:Ho s f_=some r_) :
  CV Tryz.prog 139 #[.slice B n c,.func (.func kf) #[] caps] w0 (fun v w'=>v=vi r_∧ST w0 [] w' [] []):=by
 subst hn
 unfold Ho at hF
 refine cv_of_cw 19 Tryz.func139 rfl Tryz.ntmps139 rfl ?_
 refine cq (cr ?_)
 refine sQ 4 yu (rn (cq (cq (cr ?_))))
 refine sQ 6 yv<|sQ 7 (Y_len K5 rfl rfl)<|sQ 8 yv (rn ?_)
 obtain ⟨hN,hF⟩:=chk_inv hF
 obtain ⟨z,hz,hF1⟩:=bI hF
 refine cw_block ?_
 refine cw_loop (fun k f w=>∃ (i:Nat),FF f [(0,.slice B s.length c),(1,.func (.func kf) #[] caps),(7,vi (s.length:Int)),(8,vi (i:Int))]∧ST w0 [] w [] (⟨B,(s.flatMap encI)⟩::Rf)∧i+k=s.length∧forX (Hx s f_) k i ()=some z) s.length ⟨0,(fc rfl (fc rfl (fc rfl (fc rfl fn_)))),(hS.sel [] rfl rfl),Nat.zero_add _,hz⟩ ?_
 rintro k_ f w ⟨i,hf,hS1,hik,hL⟩
 refine cq (cr ?_)
 refine sQ 9 (zL rfl (hf.g 8 3) (hf.g 7 2)) (rn (cq ?_))
 refine cw_cond rfl (fun hlt=>?_) (fun hlt=>?_)
 ·skip
  have hlt1:i<s.length:=by have h:=of_decide_eq_true hlt; omega
  obtain ⟨K2,rfl⟩:∃ k2,k_=k2+1:=⟨k_-1,by omega⟩
  obtain ⟨y1,hb,hL1⟩:=forX_go hL
  unfold Hx at hb
  refine cw_skip (cq (cw_block (cq (cr ?_))))
  refine sQ 10 (yv rfl (hf.g 8 3))<|sQ 5 yu (rn (cq (cr ?_)))
  refine sQ 11 (yv rfl (hf.g 1 1))<|sQ 12 (yv rfl (hf.g 0 0))<|sQ 13 yv ?_
  obtain ⟨x1,hx,hb⟩:=bI hb
  refine sQ 14 (yI B (i:Int) K5 K0 (gi_isSome encI_len rfl (hS1.rf (i:=0) rfl) hx) (getI_nn hx) (getI_ltI hx rfl))<|sQ 15 (yz ((i:Int).toNat*1) K1 (hS1.rf (i:=0) rfl) rfl rfl (gi_at0 encI_len hx rfl)) ?_
  obtain ⟨r_1,hc,hb⟩:=bI hb
  refine sc 16 rfl rfl (Yc_clos (g:=kf) (vs:=(vi x1)::caps.toList) hk rfl rfl (clo_args (mc rfl mn)) (hp _ (hS1.innS (fun _ h=>mOd (i:=1) h)) x1 r_1 hc)) ?_
  rintro _ w_ ⟨rfl,hd⟩
  have hS2:=hS1.out00 hd
  refine rn ?_
  refine cw_cond rfl (fun hb1=>?_) (fun hb1=>?_)
  ·skip
   have hF2:=ct hb hb1
   refine cq (cr ?_)
   refine sQ 17 yv<|sQ 4 yu (rn (ct_ ?_))
   obtain rfl:=sI hF2
   obtain rfl:=sI hL1
   obtain rfl:=sI hF1
   exact e1 Tryz.results139 (hS2.sN [])
  ·skip
   have hF3:=cf' hb hb1
   refine cw_skip (cr ?_)
   refine sQ 18 (zP rfl (hf.g 8 3))<|sQ 8 yv (rn ?_)
   obtain rfl:=sI hF3
   exact ⟨K2,Nat.lt_succ_self _,i+1,(hf.a 0 0 (hf.a 1 1 (hf.a 7 2 (fc (congrArg (Value.int .i64) (wr_succ hlt1 hN)) fn_)))),(hS2.sel [] rfl rfl),(by omega),hL1⟩
 ·skip
  obtain rfl:k_=0:=by have h:=of_decide_eq_false hlt; omega
  refine cw_exit rfl ?_
  obtain rfl:=sI hL
  refine cq (cr ?_)
  refine sQ 4 yu (rn (ct_ ?_))
  obtain rfl:=sI hF1
  exact e1 Tryz.results139 (hS1.sN [])

theorem Vf (s:List Int) (f_:Int→Option (Bool)) (B:Option Addr) (c n:Nat) (kf:Nat) (caps:Array Value) (Rf:List Ro) (w0:World) (hn:s.length=n) (hk:callB Tryz.prog kf=true) (hp:∀ (w:World),ST w [] w [] Rf→∀ (x:Int) (y:Bool),f_ x=some y→CV Tryz.prog kf ((vi x)::caps.toList).toArray w (fun v w'=>v=.bool y∧ST w [] w' [] [])) (hS:ST w0 [] w0 [] (⟨B,(s.flatMap encI)⟩::Rf)) {r_:Bool} (hF:Hm s f_=some r_) :
  CV Tryz.prog 124 #[.slice B n c,.func (.func kf) #[] caps] w0 (fun v w'=>v=.bool r_∧ST w0 [] w' [] []):=by
 subst hn
 unfold Hm at hF
 refine cv_of_cw 9 Tryz.func124 rfl Tryz.ntmps124 rfl ?_
 refine cq (cr ?_)
 refine sQ 4 yu (rn (cq (cr ?_)))
 refine sQ 5 yv<|sQ 6 yv ?_
 obtain ⟨r_1,hc,hF⟩:=bI hF
 refine sc 7 rfl rfl (yc Rn (Vo s f_ B c s.length kf caps Rf _ rfl hk hp (hS.innS (sk 0 (fun _ h=>mOd (i:=1) h))) hc)) ?_
 rintro _ w_ ⟨rfl,hd⟩
 have hS1:=hS.out00 hd
 refine sQ 8 (Y_ge rfl rfl rfl)<|sQ 4 yu (rn (ct_ ?_))
 obtain rfl:=sI hF
 exact e1 Tryz.results124 (hS1.sN [])

theorem Nf (g:Ac)  (w0:World)  (hS:ST w0 [] w0 [] []) {r_:List Int} (hF:EU g=some r_) :
  CV Tryz.prog 125 #[.agg #[vi g.Kind,vi g.A,vi g.B]] w0 (fun v w'=>∃ (B:Option Addr) (c:Nat),v=.slice B r_.length c∧ST w0 [] w' [⟨B,3,(r_.flatMap encI),c*1⟩] []):=by
 unfold EU at hF
 refine cv_of_cw 19 Tryz.func125 rfl Tryz.ntmps125 rfl ?_
 refine cq (cr ?_)
 refine sS 1 (yV [vi g.Kind,vi g.A,vi g.B] 3 hS) ?_
 rintro _ w_ ⟨b,rfl,hS1⟩
 refine sQ 2 yu (rn (cq (cw_block (cq (cr ?_)))))
 refine sQ 4 (yd (aD b) 0 0 K38 K0)<|sQ 5 (yz 0 K1 (hS1.c 0))<|sQ 6 zE<|sQ 3 yu (rn ?_)
 refine cw_cond rfl (fun hb=>?_) (fun hb=>?_)
 ·skip
  have hF1:=ct hF hb
  refine cq (cr ?_)
  refine sQ 2 yu (rn (ct_ ?_))
  have hS2:=hS1.addNil 3
  obtain rfl:=sI hF1
  exact ret1 Tryz.results125 rT ⟨none,0,rfl,(hS2.sN [1])⟩
 ·skip
  have hF2:=cf' hF hb
  refine cq (cr ?_)
  refine sQ 8 (yd (aD b) 0 0 K38 K0)<|sQ 9 (yz 0 K1 (hS1.c 0)) ?_
  obtain ⟨r_1,hc,hF2⟩:=bI hF2
  refine sc 10 rfl rfl (yc Er (EH g.Kind _  (hS1.inn0 [] rfl) hc)) ?_
  rintro _ w_1 ⟨rfl,hd⟩
  have hS3:=hS1.out00 hd
  refine sQ 7 yu (rn ?_)
  refine cw_cond rfl (fun hb1=>?_) (fun hb1=>?_)
  ·skip
   have hF3:=ct hF2 hb1
   refine cq (cr ?_)
   refine sQ 11 (yd (aD b) 0 0 K39 K0)<|sQ 12 (yz 1 K1 (hS3.c 0))<|sQ 13 (yd (aD b) 0 0 K43 K0)<|sQ 14 (yz 2 K1 (hS3.c 0)) ?_
   refine sS 15 (yF 1 2 [vi g.A,vi g.B] 2 hS3 K5 K0 K52 rfl (mpc rfl (mpc rfl mpn))) ?_
   rintro _ w_2 ⟨b1,rfl,hS4⟩
   refine sQ 2 yu (rn (ct_ ?_))
   obtain rfl:=sI hF3
   exact ret1 Tryz.results125 rT ⟨aD b1,2,rfl,(hS4.sN [1])⟩
  ·skip
   have hF4:=cf' hF2 hb1
   refine cw_skip (cq (cr ?_))
   refine sQ 16 (yd (aD b) 0 0 K39 K0)<|sQ 17 (yz 1 K1 (hS3.c 0)) ?_
   refine sS 18 (yF 1 1 [vi g.A] 1 hS3 K5 K0 K52 rfl (mpc rfl mpn)) ?_
   rintro _ w_3 ⟨b2,rfl,hS5⟩
   refine sQ 2 yu (rn (ct_ ?_))
   obtain rfl:=sI hF4
   exact ret1 Tryz.results125 rT ⟨aD b2,1,rfl,(hS5.sN [1])⟩

theorem UB (q:Int) (p:Ac) (B:Option Addr) (w0:World)  (hS:ST w0 [] w0 [] [⟨B,[vi p.Kind,vi p.A,vi p.B]⟩]) {r_:Bool} (hF:EP q p=some r_) :
  CV Tryz.prog 126 #[vi q,pt B 0] w0 (fun v w'=>v=.bool r_∧ST w0 [] w' [] []):=by
 unfold EP at hF
 refine cv_of_cw 8 Tryz.func126 rfl Tryz.ntmps126 rfl ?_
 refine cq (cr ?_)
 refine sQ 3 yu (rn (cq (cr ?_)))
 refine sQ 4 (yw 0 K35 K7 (hS.rf (i:=0) rfl)) ?_
 obtain ⟨r_1,hc,hF⟩:=bI hF
 refine sc 5 rfl rfl (yc Mc (Nf p _  (hS.inn0 [] rfl) hc)) ?_
 rintro _ w_ ⟨B1,c,rfl,hd⟩
 have hS1:=hS.out0 hd
 refine sQ 6 yv ?_
 obtain ⟨r_2,hc1,hF⟩:=bI hF
 refine sc 7 rfl rfl (yc Hv (HK r_1 q B1 c r_1.length _ rfl (hS1.inn0 [(false,0)] rfl) hc1)) ?_
 rintro _ w_1 ⟨rfl,hd1⟩
 have hS2:=hS1.out00 hd1
 refine sQ 3 yu (rn (ct_ ?_))
 obtain rfl:=sI hF
 exact e1 Tryz.results126 (hS2.sN [])

theorem UI (g:Ac) (h:Ac)  (w0:World)  (hS:ST w0 [] w0 [] []) {r_:Bool} (hF:FV g h=some r_) :
  CV Tryz.prog 105 #[.agg #[vi g.Kind,vi g.A,vi g.B],.agg #[vi h.Kind,vi h.A,vi h.B]] w0 (fun v w'=>v=.bool r_∧ST w0 [] w' [] []):=by
 unfold FV at hF
 refine cv_of_cw 9 Tryz.func105 rfl Tryz.ntmps105 rfl ?_
 refine cq (cr ?_)
 refine sS 2 (yV [vi g.Kind,vi g.A,vi g.B] 3 hS) ?_
 rintro _ w_ ⟨b,rfl,hS1⟩
 refine sS 3 (yV [vi h.Kind,vi h.A,vi h.B] 3 hS1) ?_
 rintro _ w_1 ⟨b1,rfl,hS2⟩
 refine sQ 4 yu (rn (cq (cr ?_)))
 refine sQ 5 (yw 0 K35 K7 (hS2.c 0)) ?_
 obtain ⟨r_1,hc,hF⟩:=bI hF
 refine sc 6 rfl rfl (yc Mc (Nf g _  (hS2.inn0 [] rfl) hc)) ?_
 rintro _ w_2 ⟨B,c,rfl,hd⟩
 have hS3:=hS2.out0 hd
 refine sQ 7 (Y_makeFunc (cs:=[pt (aD b1) 0]) rfl rfl (mc rfl mn)) ?_
 obtain ⟨r_2,hc1,hF⟩:=bI hF
 refine sc 8 rfl rfl (yc Tu (Vf r_1 (fun x_0=>EP x_0 h) B c r_1.length 126 (#[pt (aD b1) 0]) [⟨aD b1,[vi h.Kind,vi h.A,vi h.B]⟩] _ rfl To (fun w hw x_0 y_0 h_=>UB x_0 h (aD b1) w  hw h_) (hS3.inn0 [(false,2),(false,1)] rfl) hc1)) ?_
 rintro _ w_3 ⟨rfl,hd1⟩
 have hS4:=hS3.out00 hd1
 refine sQ 4 yu (rn (ct_ ?_))
 obtain rfl:=sI hF
 exact e1 Tryz.results105 (hS4.sN [])

theorem OX (r_:Ap) (k_:Int) (B:Option Addr) (c n:Nat) (B1:Option Addr) (c1 n1:Nat) (B2:Option Addr) (c2 n2:Nat) (B3:Option Addr) (c3 n3:Nat) (w0:World) (hn:r_.g.Edges.length=n) (hn1:r_.c.Gates.length=n1) (hq:n1≤c1) (hn2:r_.place.length=n2) (hn3:r_.done.length=n3) (hS:ST w0 [] w0 [] [⟨B,(r_.g.Edges.flatMap eN1)⟩,⟨B1,(r_.c.Gates.flatMap eN0)⟩,⟨B2,(r_.place.flatMap encI)⟩,⟨B3,(r_.done.flatMap encB)⟩]) {r_1:Bool} (hF:DC r_ k_=some r_1) :
  CV Tryz.prog 78 #[.agg #[vi r_.g.Nodes,.slice B n c,vi r_.c.Qubits,.slice B1 n1 c1,.slice B2 n2 c2,.slice B3 n3 c3],vi k_] w0 (fun v w'=>v=.bool r_1∧ST w0 [] w' [] []):=by
 subst hn
 subst hn1
 subst hn2
 subst hn3
 unfold DC at hF
 refine cv_of_cw 50 Tryz.func78 rfl Tryz.ntmps78 rfl ?_
 refine cq (cr ?_)
 let V6:List Value:=[vi r_.g.Nodes,.slice B r_.g.Edges.length c,vi r_.c.Qubits,.slice B1 r_.c.Gates.length c1,.slice B2 r_.place.length c2,.slice B3 r_.done.length c3]
 refine sS 2 (yV V6 6 hS) ?_
 rintro _ w_ ⟨b,rfl,hS1⟩
 refine sQ 4 yu (rn (cq (cq (cr ?_))))
 refine sQ 7 yv<|sQ 8 (yd (aD b) 0 1 HO K3)<|sQ 9 (yd (aD b) 2 0 K19 K15)<|sQ 10 (yz 3 K21 (hS1.c 0))<|sQ 11 (Y_len K12 rfl rfl)<|sQ 12 zM ?_
 obtain ⟨r_2,hc,hF⟩:=bI hF
 refine sc 13 rfl rfl (yc K53 (Bh k_ 0 (i64.wrap ((r_.c.Gates.length:Int)-1)) _  (hS1.inn0 [] rfl) hc)) ?_
 rintro _ w_1 ⟨rfl,hd⟩
 have hS2:=hS1.out00 hd
 refine sQ 14 yn<|sQ 15 yv ?_
 refine sgq 16 rfl rfl (uF_ 15) (fun hg=>(yd (aD b) 0 0 K76 K41)) ?_
 refine sgq 17 rfl rfl (uF_ 15) (fun hg1=>(yz 5 K60 (hS2.c 0) rfl (gv_of hg1))) ?_
 refine sgq 18 rfl rfl (uF_ 15) (fun hg2=>yv) ?_
 obtain ⟨x,hx,hF⟩:=bI hF
 refine sgq 19 rfl rfl (uF_ 15) (fun hg3=>(yI B3 k_ K47 K49 (gi_isSome encB_len rfl (hS2.rf (i:=3) rfl) (gb_inv hx hg3)) (getI_nn (gb_inv hx hg3)) (getI_ltI (gb_inv hx hg3) rfl) rfl (gv_of hg3) (gv_of hg3))) ?_
 refine sgq 20 rfl rfl (uF_ 15) (fun hg4=>(yz (k_.toNat*1) K87 (hS2.rf (i:=3) rfl) rfl (gv_of hg4) (gi_at0 encB_len (gb_inv hx hg4) rfl))) ?_
 refine sQ 21 yO (rn ?_)
 refine cw_cond rfl (fun hb=>?_) (fun hb=>?_)
 ·skip
  have hF1:=ct hF hb
  refine cq (cr ?_)
  refine sQ 4 yu (rn (ct_ ?_))
  obtain rfl:=sI hF1
  exact e1 Tryz.results78 (hS2.sN [])
 ·skip
  have hF2:=cf' hF hb
  refine cw_skip (cq (cq (cr ?_)))
  refine sQ 22 (yd (aD b) 0 1 HO K3)<|sQ 23 (yd (aD b) 2 0 K19 K15)<|sQ 24 (yz 3 K21 (hS2.c 0))<|sQ 25 yv ?_
  obtain ⟨hsl,hF2⟩:=chk_inv hF2
  have hcap:r_.c.Gates.length≤c1:=hq
  have hv:(List.take k_.toNat r_.c.Gates).length=k_.toNat:=(take_len rfl (by omega))
  have hq1:k_.toNat≤c1:=by omega
  let R1:Ro:=⟨B1,((List.take k_.toNat r_.c.Gates).flatMap eN0)⟩
  let R2:Ro:=⟨B1,(r_.c.Gates.flatMap eN0)⟩
  let R3:Ro:=⟨B,(r_.g.Edges.flatMap eN1)⟩
  let R4:Ro:=⟨B2,(r_.place.flatMap encI)⟩
  let R5:Ro:=⟨B3,(r_.done.flatMap encB)⟩
  have ho:Org w0 [] [R3,R2,R4,R5] [R1]:=org_view eN8 (q:=c1) (org_mem (i:=1) rfl) (sv_zero _ _ _).symm rfl
  let O0:Ob:=⟨aD b,82,V6,6⟩
  have hS3:ST w0 [] _ [O0] [R1,R3,R2,R4,R5]:=ST.view eN8 hS2 (i:=1) rfl (lo:=0) (h:=k_.toNat) (q:=c1) (by omega) (by omega) (sv_zero _ _ _).symm rfl
  refine sQ 26 (Y_slice0 (B:=B1) (m:=r_.c.Gates.length) (c:=c1) (h:=k_.toNat) (s:=3) K12 K7 rfl rfl (bnd_some rfl (nn_toNat (by omega))) (by omega))<|sQ 27 (Y_len K12 rfl rfl)<|sQ 28 yv (rn ?_)
  obtain ⟨hN,hF2⟩:=chk_inv hF2
  obtain ⟨z,hz,hF3⟩:=bI hF2
  refine cw_block ?_
  refine cw_loop (fun k f w=>∃ (i:Nat),FF f [(1,vi k_),(2,pt (aD b) 0),(26,.slice B1 k_.toNat c1),(27,vi (k_.toNat:Int)),(28,vi (i:Int))]∧ST w0 [] w [O0] [R1,R3,R2,R4,R5]∧i+k=k_.toNat∧forX (IQ k_ r_) k i ()=some z) k_.toNat ⟨0,(fc rfl (fc rfl (fc rfl (fc rfl (fc rfl fn_))))),(hS3.sel [0] rfl rfl),Nat.zero_add _,hz⟩ ?_
  rintro K2 f w ⟨i,hf,hS4,hik,hL⟩
  refine cq (cr ?_)
  refine sQ 29 (zL rfl (hf.g 28 4) (hf.g 27 3)) (rn (cq ?_))
  refine cw_cond rfl (fun hlt=>?_) (fun hlt=>?_)
  ·skip
   have hlt1:i<k_.toNat:=by have h:=of_decide_eq_true hlt; omega
   obtain ⟨K11,rfl⟩:∃ k2,K2=k2+1:=⟨K2-1,by omega⟩
   obtain ⟨y,hb1,hL1⟩:=forX_go hL
   unfold IQ at hb1
   refine cw_skip (cq (cw_block (cq (cr ?_))))
   refine sQ 30 (yv rfl (hf.g 28 4)) ?_
   obtain ⟨x1,hx1,hb1⟩:=bI hb1
   refine sQ 31 (yI B1 (i:Int) K12 K7 (gi_isSome eN8 rfl (hS4.rf (i:=0) rfl) hx1) (getI_nn hx1) (getI_ltI hx1 hv) rfl (hf.g 26 2) (hf.g 28 4))<|sQ 32 (ya B1 ((i:Int).toNat*3) ((List.take k_.toNat r_.c.Gates).flatMap eN0) [vi x1.Kind,vi x1.A,vi x1.B] K35 K7 (hS4.rf (i:=0) rfl) rfl rfl (eN8 x1) (gi_seg eN8 hx1)) ?_
   refine sS 6 (yN [vi 0,vi 0,vi 0] 3 hS4 K28) ?_
   rintro _ w_2 ⟨b1,rfl,hS5⟩
   refine sQ 5 yu ?_
   refine s0 (yK 1 3 0 hS5 K7) ?_
   rintro _ w_3 ⟨rfl,hS6⟩
   refine rn (cq ?_)
   obtain ⟨x2,hx2,hb1⟩:=bI hb1
   obtain ⟨x3,hx3,hb1⟩:=bI hb1
   obtain ⟨r_3,hc1,hb1⟩:=bI hb1
   refine ra_start (hS6.se [0,1]).fn (by kernel_rfl) ?_
   have hS8:=hS6.drew
   have hQ0:=hS8.se [0,1]
   refine rq 0 33 rfl hQ0 (fun _ q=>(yd (aD b) 0 0 K76 K41 rfl (hf.g 2 1)))<|rq 1 34 rfl hQ0 (fun _ q=>(yz 5 K60 (ST.c q 0)))<|rq 2 35 rfl hQ0 (fun _ q=>yv)<|rq 3 36 rfl hQ0 (fun _ q=>(yI B3 (i:Int) K47 K49 (gi_isSome encB_len rfl (ST.rf q (i:=4) rfl) hx2) (getI_nn hx2) (getI_ltI hx2 rfl)))<|rq 4 37 rfl hQ0 (fun _ q=>(yz ((i:Int).toNat*1) K87 (ST.rf q (i:=4) rfl) rfl rfl (gi_at0 encB_len hx2 rfl))) ?_
   refine rq 5 38 rfl hQ0 (fun _ q=>yn)<|rq 6 39 rfl hQ0 (fun _ q=>yv)<|rG 7 40 rfl rfl rfl (uT_ 39) hQ0 (fun hg5 _ q=>(yw 0 K35 K7 (ST.c q 1)))<|rG 8 41 rfl rfl rfl (uT_ 39) hQ0 (fun hg6 _ q=>(yd (aD b) 0 1 HO K3 rfl (hf.g 2 1)))<|rG 9 42 rfl rfl rfl (uT_ 39) hQ0 (fun hg7 _ q=>(yd (aD b) 2 0 K19 K15 rfl (gv_of hg7))) ?_
   refine rG 10 43 rfl rfl rfl (uT_ 39) hQ0 (fun hg8 _ q=>(yz 3 K21 (ST.c q 0) rfl (gv_of hg8)))<|rG 11 44 rfl rfl rfl (uT_ 39) hQ0 (fun hg9 _ q=>(yv rfl (hf.g 1 0)))<|rG 12 45 rfl rfl rfl (uT_ 39) hQ0 (fun hg10 _ q=>(yI B1 k_ K12 K7 (gi_isSome eN8 rfl (ST.rf q (i:=2) rfl) (gb_inv hx3 hg10)) (getI_nn (gb_inv hx3 hg10)) (getI_ltI (gb_inv hx3 hg10) rfl) rfl (gv_of hg10) (gv_of hg10)))<|rG 13 46 rfl rfl rfl (uT_ 39) hQ0 (fun hg11 _ q=>(ya B1 (k_.toNat*3) (r_.c.Gates.flatMap eN0) [vi x3.Kind,vi x3.A,vi x3.B] K35 K7 (ST.rf q (i:=2) rfl) rfl (gv_of hg11) (eN8 x3) (gi_seg eN8 (gb_inv hx3 hg11)))) ?_
   refine rA [14] ?_
   refine ra_gc 47 (i:=14) (B:=(!x2)) (v:=.bool r_3) (F:=hS8.fn) rfl rfl rfl (uT_ 39) hS8 (fun hg12=>(yc Sk (CV.mono (UI x1 x3 _  (hS8.inn0 [] rfl) (gb_inv hc1 hg12)) (by rintro _ _ ⟨rfl,h⟩; exact ⟨rfl,hS8.out00 h⟩)) rfl (mc (gv_of hg12) (mc (gv_of hg12) mn)))) ?_ ?_
   ·rintro w_4 hS9
    refine ⟨(hS9.se [0,1]),?_⟩
    refine rq 15 48 rfl (hS9.se [0,1]) (fun _ q=>yA) ?_
    refine ra_done (by kernel_rfl) ?_
    refine cw_cond rfl (fun hb2=>?_) (fun hb2=>?_)
    ·skip
     have hF4:=ct hb1 hb2
     refine cq (cr ?_)
     refine sQ 4 yu (rn (ct_ ?_))
     obtain rfl:=sI hF4
     obtain rfl:=sI hL1
     obtain rfl:=sI hF3
     exact e1 Tryz.results78 (hS9.sN [])
    ·skip
     have hF5:=cf' hb1 hb2
     refine cw_skip (cr ?_)
     refine sQ 49 (zP rfl (hf.g 28 4))<|sQ 28 yv (rn ?_)
     obtain rfl:=sI hF5
     exact ⟨K11,Nat.lt_succ_self _,i+1,(hf.a 1 0 (hf.a 2 1 (hf.a 26 2 (hf.a 27 3 (fc (congrArg (Value.int .i64) (wr_succ hlt1 hN)) fn_))))),(hS9.sel [0] rfl rfl),(by omega),hL1⟩
   exact aN
  ·skip
   obtain rfl:K2=0:=by have h:=of_decide_eq_false hlt; omega
   refine cw_exit rfl ?_
   obtain rfl:=sI hL
   refine cq (cr ?_)
   refine sQ 4 yu (rn (ct_ ?_))
   obtain rfl:=sI hF3
   exact e1 Tryz.results78 (hS4.sN [])

theorem QV (s:List Ah) (v_:Ah) (B:Option Addr) (c n:Nat) (w0:World) (hn:s.length=n) (hS:ST w0 [] w0 [] [⟨B,(s.flatMap eN1)⟩]) {r_:Int} (hF:Gz s v_=some r_) :
  CV Tryz.prog 120 #[.slice B n c,.agg #[vi v_.A,vi v_.B]] w0 (fun v w'=>v=vi r_∧ST w0 [] w' [] []):=by
 subst hn
 unfold Gz at hF
 refine cv_of_cw 19 Tryz.func120 rfl Tryz.ntmps120 rfl ?_
 refine cq (cr ?_)
 refine sS 3 (yV [vi v_.A,vi v_.B] 2 hS) ?_
 rintro _ w_ ⟨b,rfl,hS1⟩
 refine sQ 4 yu (rn (cq (cq (cr ?_))))
 refine sQ 6 yv<|sQ 7 (Y_len K34 rfl rfl)<|sQ 8 yv (rn ?_)
 obtain ⟨hN,hF⟩:=chk_inv hF
 obtain ⟨z,hz,hF1⟩:=bI hF
 refine cw_block ?_
 refine cw_loop (fun k f w=>∃ (i:Nat),FF f [(0,.slice B s.length c),(3,pt (aD b) 0),(7,vi (s.length:Int)),(8,vi (i:Int))]∧ST w0 [] w [⟨aD b,118,[vi v_.A,vi v_.B],2⟩] [⟨B,(s.flatMap eN1)⟩]∧i+k=s.length∧forX (GV s v_) k i ()=some z) s.length ⟨0,(fc rfl (fc rfl (fc rfl (fc rfl fn_)))),(hS1.sel [0] rfl rfl),Nat.zero_add _,hz⟩ ?_
 rintro k_ f w ⟨i,hf,hS2,hik,hL⟩
 refine cq (cr ?_)
 refine sQ 9 (zL rfl (hf.g 8 3) (hf.g 7 2)) (rn (cq ?_))
 refine cw_cond rfl (fun hlt=>?_) (fun hlt=>?_)
 ·skip
  have hlt1:i<s.length:=by have h:=of_decide_eq_true hlt; omega
  obtain ⟨K2,rfl⟩:∃ k2,k_=k2+1:=⟨k_-1,by omega⟩
  obtain ⟨y,hb,hL1⟩:=forX_go hL
  unfold GV at hb
  refine cw_skip (cq (cw_block (cq (cr ?_))))
  refine sQ 10 (yv rfl (hf.g 8 3))<|sQ 5 yu (rn (cq ?_))
  obtain ⟨x,hx,hb⟩:=bI hb
  refine ra_start (hS2.se [0]).fn (by kernel_rfl) ?_
  have hS3:=hS2.drew
  have hQ0:=hS3.se [0]
  refine rq 0 11 rfl hQ0 (fun _ q=>(yw 0 K85 K20 (ST.c q 0) rfl (hf.g 3 1)))<|rq 1 12 rfl hQ0 (fun _ q=>(yv rfl (hf.g 0 0)))<|rq 2 13 rfl hQ0 (fun _ q=>yv)<|rq 3 14 rfl hQ0 (fun _ q=>(yI B (i:Int) K34 K20 (gi_isSome A6 rfl (ST.rf q (i:=0) rfl) hx) (getI_nn hx) (getI_ltI hx rfl)))<|rq 4 15 rfl hQ0 (fun _ q=>(ya B ((i:Int).toNat*2) (s.flatMap eN1) [vi x.A,vi x.B] K85 K20 (ST.rf q (i:=0) rfl) rfl rfl (A6 x) (gi_seg A6 hx))) ?_
  refine rq 5 16 rfl hQ0 (fun _ q=>(Y_eqA (xs:=#[vi v_.A,vi v_.B]) (ys:=#[vi x.A,vi x.B]) (b:=((v_.A==x.A)&&((v_.B==x.B)&&true))) UK rfl rfl rfl (eqr_struct (xs:=[vi v_.A,vi v_.B]) (ys:=[vi x.A,vi x.B]) VW S8 (pts_sc K1 rfl rfl (eqr_int K29) (pts_sc K1 rfl rfl (eqr_int K29) pts_nil))))) ?_
  refine ra_done (by kernel_rfl) ?_
  refine cw_cond rfl (fun hb1=>?_) (fun hb1=>?_)
  ·skip
   have hF2:=ct hb hb1
   refine cq (cr ?_)
   refine sQ 17 yv<|sQ 4 yu (rn (ct_ ?_))
   obtain rfl:=sI hF2
   obtain rfl:=sI hL1
   obtain rfl:=sI hF1
   exact e1 Tryz.results120 (hS3.sN [])
  ·skip
   have hF3:=cf' hb hb1
   refine cw_skip (cr ?_)
   refine sQ 18 (zP rfl (hf.g 8 3))<|sQ 8 yv (rn ?_)
   obtain rfl:=sI hF3
   exact ⟨K2,Nat.lt_succ_self _,i+1,(hf.a 0 0 (hf.a 3 1 (hf.a 7 2 (fc (congrArg (Value.int .i64) (wr_succ hlt1 hN)) fn_)))),(hS3.sel [0] rfl rfl),(by omega),hL1⟩
 ·skip
  obtain rfl:k_=0:=by have h:=of_decide_eq_false hlt; omega
  refine cw_exit rfl ?_
  obtain rfl:=sI hL
  refine cq (cr ?_)
  refine sQ 4 yu (rn (ct_ ?_))
  obtain rfl:=sI hF1
  exact e1 Tryz.results120 (hS2.sN [])

theorem UG (s:List Ah) (v_:Ah) (B:Option Addr) (c n:Nat) (w0:World) (hn:s.length=n) (hS:ST w0 [] w0 [] [⟨B,(s.flatMap eN1)⟩]) {r_:Bool} (hF:HH s v_=some r_) :
  CV Tryz.prog 90 #[.slice B n c,.agg #[vi v_.A,vi v_.B]] w0 (fun v w'=>v=.bool r_∧ST w0 [] w' [] []):=by
 subst hn
 unfold HH at hF
 refine cv_of_cw 9 Tryz.func90 rfl Tryz.ntmps90 rfl ?_
 refine cq (cr ?_)
 refine sS 3 (yV [vi v_.A,vi v_.B] 2 hS) ?_
 rintro _ w_ ⟨b,rfl,hS1⟩
 refine sQ 4 yu (rn (cq (cr ?_)))
 refine sQ 5 yv<|sQ 6 (yw 0 K85 K20 (hS1.c 0)) ?_
 obtain ⟨r_1,hc,hF⟩:=bI hF
 refine sc 7 rfl rfl (yc Q0 (QV s v_ B c s.length _ rfl (hS1.inn0 [(true,0)] rfl) hc)) ?_
 rintro _ w_1 ⟨rfl,hd⟩
 have hS2:=hS1.out00 hd
 refine sQ 8 (Y_ge rfl rfl rfl)<|sQ 4 yu (rn (ct_ ?_))
 obtain rfl:=sI hF
 exact e1 Tryz.results90 (hS2.sN [])

theorem KL (g:Ae) (a:Int) (b:Int) (B:Option Addr) (c n:Nat) (w0:World) (hn:g.Edges.length=n) (hS:ST w0 [] w0 [] [⟨B,(g.Edges.flatMap eN1)⟩]) {r_:Bool} (hF:C2 g a b=some r_) :
  CV Tryz.prog 56 #[.agg #[vi g.Nodes,.slice B n c],vi a,vi b] w0 (fun v w'=>v=.bool r_∧ST w0 [] w' [] []):=by
 subst hn
 unfold C2 at hF
 refine cv_of_cw 17 Tryz.func56 rfl Tryz.ntmps56 rfl ?_
 refine cq (cr ?_)
 refine sS 3 (yV [vi g.Nodes,.slice B g.Edges.length c] 2 hS) ?_
 rintro _ w_ ⟨b1,rfl,hS1⟩
 refine sQ 6 yu (rn (cq (cr ?_)))
 refine sQ 7 (yd (aD b1) 0 0 K50 K40)<|sQ 8 (yz 1 K69 (hS1.c 0))<|sQ 9 yv<|sQ 10 yv<|sQ 11 (Y_min2 (k:=.i64) (a:=a) (b:=b) rfl rfl rfl)<|sQ 12 yv ?_
 refine sQ 13 yv<|sQ 14 (Y_max2 (k:=.i64) (a:=a) (b:=b) rfl rfl rfl)<|sQ 15 (Y_buildS (zs:=[vi 0,vi 0]) (vs:=[(0,vi (if b<a then b else a)),(1,vi (if a<b then b else a))]) (cs:=[vi (if b<a then b else a),vi (if a<b then b else a)]) Ef K51 rfl (mpc rfl (mpc rfl mpn)) rfl) ?_
 obtain ⟨r_1,hc,hF⟩:=bI hF
 refine sc 16 rfl rfl (yc RZ (UG g.Edges (Ah.mk (if b<a then b else a) (if a<b then b else a)) B c g.Edges.length _ rfl (hS1.inn0 [(true,0)] rfl) hc)) ?_
 rintro _ w_1 ⟨rfl,hd⟩
 have hS2:=hS1.out00 hd
 refine sQ 6 yu (rn (ct_ ?_))
 obtain rfl:=sI hF
 exact e1 Tryz.results56 (hS2.sN [])

theorem Lv (r_:Ap) (k_:Int) (B:Option Addr) (c n:Nat) (B1:Option Addr) (c1 n1:Nat) (B2:Option Addr) (c2 n2:Nat) (B3:Option Addr) (c3 n3:Nat) (w0:World) (hn:r_.g.Edges.length=n) (hn1:r_.c.Gates.length=n1) (hn2:r_.place.length=n2) (hn3:r_.done.length=n3) (hS:ST w0 [] w0 [] [⟨B,(r_.g.Edges.flatMap eN1)⟩,⟨B1,(r_.c.Gates.flatMap eN0)⟩,⟨B2,(r_.place.flatMap encI)⟩,⟨B3,(r_.done.flatMap encB)⟩]) {r_1:Bool} (hF:Dz r_ k_=some r_1) :
  CV Tryz.prog 79 #[.agg #[vi r_.g.Nodes,.slice B n c,vi r_.c.Qubits,.slice B1 n1 c1,.slice B2 n2 c2,.slice B3 n3 c3],vi k_] w0 (fun v w'=>v=.bool r_1∧ST w0 [] w' [] []):=by
 subst hn
 subst hn1
 subst hn2
 subst hn3
 unfold Dz at hF
 refine cv_of_cw 33 Tryz.func79 rfl Tryz.ntmps79 rfl ?_
 refine cq (cr ?_)
 let V0:List Value:=[vi r_.g.Nodes,.slice B r_.g.Edges.length c,vi r_.c.Qubits,.slice B1 r_.c.Gates.length c1,.slice B2 r_.place.length c2,.slice B3 r_.done.length c3]
 refine sS 2 (yV V0 6 hS) ?_
 rintro _ w_ ⟨b,rfl,hS1⟩
 refine sQ 4 yu (rn (cq (cr ?_)))
 refine sQ 6 (yd (aD b) 0 1 HO K3)<|sQ 7 (yd (aD b) 2 0 K19 K15)<|sQ 8 (yz 3 K21 (hS1.c 0))<|sQ 9 yv ?_
 obtain ⟨x,hx,hF⟩:=bI hF
 refine sQ 10 (yI B1 k_ K12 K7 (gi_isSome eN8 rfl (hS1.rf (i:=1) rfl) hx) (getI_nn hx) (getI_ltI hx rfl))<|sQ 11 (ya B1 (k_.toNat*3) (r_.c.Gates.flatMap eN0) [vi x.Kind,vi x.A,vi x.B] K35 K7 (hS1.rf (i:=1) rfl) rfl rfl (eN8 x) (gi_seg eN8 hx)) ?_
 refine sS 5 (yN [vi 0,vi 0,vi 0] 3 hS1 K28) ?_
 rintro _ w_1 ⟨b1,rfl,hS2⟩
 refine s0 (yK 1 3 0 hS2 K7) ?_
 rintro _ w_2 ⟨rfl,hS3⟩
 refine rn (cq ?_)
 obtain ⟨r_2,hc,hF⟩:=bI hF
 obtain ⟨x1,hx1,hF⟩:=bI hF
 obtain ⟨x2,hx2,hF⟩:=bI hF
 obtain ⟨r_3,hc1,hF⟩:=bI hF
 refine ra_start (hS3.se [0,1]).fn (by kernel_rfl) ?_
 have hS6:=hS3.drew
 refine rq 0 12 rfl (hS6.se [0,1]) (fun _ q=>(yd (aD b1) 0 0 K38 K0))<|rq 1 13 rfl (hS6.se [0,1]) (fun _ q=>(yz 0 K1 (ST.c q 1))) ?_
 refine rA [2] ?_
 refine rC 14 2 rfl (yc Er (EH x.Kind _  (hS6.inn0 [] rfl) hc)) ?_ aN
 rintro _ w_3 ⟨rfl,hd⟩
 have hS7:=hS6.out00 hd
 have hQ0:=hS7.se [0,1]
 refine ⟨hQ0,?_⟩
 refine rq 3 15 rfl hQ0 (fun _ q=>yn)<|rq 4 16 rfl hQ0 (fun _ q=>yv)<|rG 5 17 rfl rfl rfl (uF_ 16) hQ0 (fun hg _ q=>(yd (aD b) 0 1 Pf K8))<|rG 6 18 rfl rfl rfl (uF_ 16) hQ0 (fun hg1 _ q=>(ya (aD b) 0 V0 [vi r_.g.Nodes,.slice B r_.g.Edges.length c] K13 K8 (ST.c q 0) rfl (gv_of hg1)))<|rG 7 19 rfl rfl rfl (uF_ 16) hQ0 (fun hg2 _ q=>(yd (aD b) 0 0 K73 K16)) ?_
 refine rG 8 20 rfl rfl rfl (uF_ 16) hQ0 (fun hg3 _ q=>(yz 4 K23 (ST.c q 0) rfl (gv_of hg3)))<|rG 9 21 rfl rfl rfl (uF_ 16) hQ0 (fun hg4 _ q=>(yd (aD b1) 0 0 K39 K0))<|rG 10 22 rfl rfl rfl (uF_ 16) hQ0 (fun hg5 _ q=>(yz 1 K1 (ST.c q 1) rfl (gv_of hg5)))<|rG 11 23 rfl rfl rfl (uF_ 16) hQ0 (fun hg6 _ q=>(yI B2 x.A K5 K0 (gi_isSome encI_len rfl (ST.rf q (i:=2) rfl) (gb_inv hx1 hg6)) (getI_nn (gb_inv hx1 hg6)) (getI_ltI (gb_inv hx1 hg6) rfl) rfl (gv_of hg6) (gv_of hg6)))<|rG 12 24 rfl rfl rfl (uF_ 16) hQ0 (fun hg7 _ q=>(yz (x.A.toNat*1) K1 (ST.rf q (i:=2) rfl) rfl (gv_of hg7) (gi_at0 encI_len (gb_inv hx1 hg7) rfl))) ?_
 refine rG 13 25 rfl rfl rfl (uF_ 16) hQ0 (fun hg8 _ q=>(yd (aD b) 0 0 K73 K16))<|rG 14 26 rfl rfl rfl (uF_ 16) hQ0 (fun hg9 _ q=>(yz 4 K23 (ST.c q 0) rfl (gv_of hg9)))<|rG 15 27 rfl rfl rfl (uF_ 16) hQ0 (fun hg10 _ q=>(yd (aD b1) 0 0 K43 K0))<|rG 16 28 rfl rfl rfl (uF_ 16) hQ0 (fun hg11 _ q=>(yz 2 K1 (ST.c q 1) rfl (gv_of hg11)))<|rG 17 29 rfl rfl rfl (uF_ 16) hQ0 (fun hg12 _ q=>(yI B2 x.B K5 K0 (gi_isSome encI_len rfl (ST.rf q (i:=2) rfl) (gb_inv hx2 hg12)) (getI_nn (gb_inv hx2 hg12)) (getI_ltI (gb_inv hx2 hg12) rfl) rfl (gv_of hg12) (gv_of hg12))) ?_
 refine rG 18 30 rfl rfl rfl (uF_ 16) hQ0 (fun hg13 _ q=>(yz (x.B.toNat*1) K1 (ST.rf q (i:=2) rfl) rfl (gv_of hg13) (gi_at0 encI_len (gb_inv hx2 hg13) rfl))) ?_
 refine rA [19] ?_
 refine ra_gc 31 (i:=19) (B:=(!(!r_2))) (v:=.bool r_3) (F:=hS7.fn) rfl rfl rfl (uF_ 16) hS7 (fun hg14=>(yc JG (CV.mono (KL r_.g x1 x2 B c r_.g.Edges.length _ rfl (hS7.inn0 [(true,0)] rfl) (gb_inv hc1 hg14)) (by rintro _ _ ⟨rfl,h⟩; exact ⟨rfl,hS7.out00 h⟩)) rfl (mc (gv_of hg14) (mc (gv_of hg14) (mc (gv_of hg14) mn))))) ?_ ?_
 ·rintro w_4 hS8
  have hQ1:=hS8.se [0,1]
  refine ⟨hQ1,?_⟩
  refine rq 20 32 rfl hQ1 (fun _ q=>yO)<|rq 21 4 rfl hQ1 (fun _ q=>yu) ?_
  refine ra_done (by kernel_rfl) ?_
  refine ct_ ?_
  obtain rfl:=sI hF
  exact e1 Tryz.results79 (hS8.sN [])
 exact aN

theorem Oc (n:Al) (B:Option Addr) (B1:Option Addr) (c n1:Nat) (B2:Option Addr) (c1 n2:Nat) (B3:Option Addr) (c2 n3:Nat) (B4:Option Addr) (c3 n4:Nat) (B5:Option Addr) (c4 n5:Nat) (w0:World) (hn:n.work.g.Edges.length=n1) (hn1:n.work.c.Gates.length=n2) (hq:n2≤c1) (hn2:n.work.place.length=n3) (hn3:n.work.done.length=n4) (hn4:n.steps.length=n5) (hS:ST w0 (bl [⟨B,109,[vi n.work.g.Nodes,.slice B1 n1 c,vi n.work.c.Qubits,.slice B2 n2 c1,.slice B3 n3 c2,.slice B4 n4 c3,.slice B5 n5 c4],7⟩,⟨B4,4,(n.work.done.flatMap encB),c3*1⟩,⟨B5,39,(n.steps.flatMap eN2),c4*3⟩]) w0 [⟨B,109,[vi n.work.g.Nodes,.slice B1 n1 c,vi n.work.c.Qubits,.slice B2 n2 c1,.slice B3 n3 c2,.slice B4 n4 c3,.slice B5 n5 c4],7⟩,⟨B4,4,(n.work.done.flatMap encB),c3*1⟩,⟨B5,39,(n.steps.flatMap eN2),c4*3⟩] [⟨B1,(n.work.g.Edges.flatMap eN1)⟩,⟨B2,(n.work.c.Gates.flatMap eN0)⟩,⟨B3,(n.work.place.flatMap encI)⟩]) {m:Al} {m1:List Bool} (hF:DP n=some (m,m1)) :
  CV Tryz.prog 64 #[pt B 0] w0 (fun v w'=>∃ (B6:Option Addr) (c5:Nat),v=.tuple #[]∧m1.length=n4∧ST w0 (bl [⟨B,109,[vi n.work.g.Nodes,.slice B1 n1 c,vi n.work.c.Qubits,.slice B2 n2 c1,.slice B3 n3 c2,.slice B4 n4 c3,.slice B5 n5 c4],7⟩,⟨B4,4,(n.work.done.flatMap encB),c3*1⟩,⟨B5,39,(n.steps.flatMap eN2),c4*3⟩]) w' [⟨B,109,[vi m.work.g.Nodes,.slice B1 n1 c,vi m.work.c.Qubits,.slice B2 n2 c1,.slice B3 n3 c2,.slice B4 n4 c3,.slice B6 m.steps.length c5],7⟩,⟨B4,4,(m1.flatMap encB),c3*1⟩,⟨B6,39,(m.steps.flatMap eN2),c5*3⟩] []):=by
 subst hn
 subst hn1
 subst hn2
 subst hn3
 subst hn4
 unfold DP at hF
 refine cv_of_cw 46 Tryz.func64 rfl Tryz.ntmps64 rfl ?_
 refine cq (cr ?_)
 refine sQ 2 yu (rn ?_)
 obtain ⟨z,hz,hF1⟩:=bI hF
 refine cw_block ?_
 let O0:Ob:=⟨B,109,[vi n.work.g.Nodes,.slice B1 n.work.g.Edges.length c,vi n.work.c.Qubits,.slice B2 n.work.c.Gates.length c1,.slice B3 n.work.place.length c2,.slice B4 n.work.done.length c3,.slice B5 n.steps.length c4],7⟩
 let P3:List Ob:=[O0,⟨B4,4,(n.work.done.flatMap encB),c3*1⟩,⟨B5,39,(n.steps.flatMap eN2),c4*3⟩]
 refine cw_loop (fun k f w=>∃ (done:List Bool) (steps:List Ak) (k_:Int) (B7:Option Addr) (c6:Nat),FF f [(0,pt B 0),(2,vi k_)]∧done.length=n.work.done.length∧ST w0 (bl P3) w [⟨B,109,[vi n.work.g.Nodes,.slice B1 n.work.g.Edges.length c,vi n.work.c.Qubits,.slice B2 n.work.c.Gates.length c1,.slice B3 n.work.place.length c2,.slice B4 n.work.done.length c3,.slice B7 steps.length c6],7⟩,⟨B4,4,(done.flatMap encB),c3*1⟩,⟨B7,39,(steps.flatMap eN2),c6*3⟩] [⟨B1,(n.work.g.Edges.flatMap eN1)⟩,⟨B2,(n.work.c.Gates.flatMap eN0)⟩,⟨B3,(n.work.place.flatMap encI)⟩]∧whX (E6 n) k (done,steps,k_)=some z) fuel ⟨n.work.done,n.steps,0,B5,c4,(fc rfl (fc rfl fn_)),rfl,(hS.sel [0,1,2] rfl rfl),hz⟩ ?_
 rintro K2 f w ⟨done,steps,k_,B7,c6,hf,hl,hS1,hL⟩
 obtain ⟨K11,y,rfl,hb,hL1⟩:=whX_go hL
 unfold E6 at hb
 refine cq (cq (cr ?_))
 refine sQ 3 (yv rfl (hf.g 2 1))<|sQ 4 (yv rfl (hf.g 0 0))<|sQ 5 (Y_nilCheck (B:=B) (i:=0) rfl rfl)<|sQ 6 (yd B 0 5 K94 K24)<|sQ 7 (yd B 0 1 HO K3)<|sQ 8 (yd B 2 0 K19 K15) ?_
 refine sQ 9 (yz 3 K21 (hS1.c 0))<|sQ 10 (Y_len K12 rfl rfl)<|sQ 11 zL (rn ?_)
 refine cw_cond rfl (fun hb1=>?_) (fun hb1=>?_)
 ·skip
  have hF2:=ct hb hb1
  refine cw_skip (cq ?_)
  obtain ⟨z1,hz1,hF3⟩:=bI hF2
  refine cw_mid (fun f w=>∃ (done1:List Bool) (steps1:List Ak) (K22:Int) (B8:Option Addr) (c7:Nat),(done1,steps1,K22)=z1∧FF f [(0,pt B 0),(2,vi K22)]∧done1.length=n.work.done.length∧ST w0 (bl P3) w [⟨B,109,[vi n.work.g.Nodes,.slice B1 n.work.g.Edges.length c,vi n.work.c.Qubits,.slice B2 n.work.c.Gates.length c1,.slice B3 n.work.place.length c2,.slice B4 n.work.done.length c3,.slice B8 steps1.length c7],7⟩,⟨B4,4,(done1.flatMap encB),c3*1⟩,⟨B8,39,(steps1.flatMap eN2),c7*3⟩] [⟨B1,(n.work.g.Edges.flatMap eN1)⟩,⟨B2,(n.work.c.Gates.flatMap eN0)⟩,⟨B3,(n.work.place.flatMap encI)⟩]) ?_ ?_
  ·skip
   refine cw_block (cq (cr ?_))
   let V1:List Value:=[vi n.work.g.Nodes,.slice B1 n.work.g.Edges.length c,vi n.work.c.Qubits,.slice B2 n.work.c.Gates.length c1,.slice B3 n.work.place.length c2,.slice B4 n.work.done.length c3,.slice B7 steps.length c6]
   let V2:List Value:=[vi n.work.g.Nodes,.slice B1 n.work.g.Edges.length c,vi n.work.c.Qubits,.slice B2 n.work.c.Gates.length c1,.slice B3 n.work.place.length c2,.slice B4 n.work.done.length c3]
   refine sQ 14 (yv rfl (hf.g 0 0))<|sQ 15 (Y_nilCheck (B:=B) (i:=0) rfl rfl)<|sQ 16 (yd B 0 5 K94 K24)<|sQ 17 (ya B 0 V1 V2 K54 K24 (hS1.c 0))<|sQ 18 (yv rfl (hf.g 2 1)) ?_
   obtain ⟨r_,hc,hz1⟩:=bI hz1
   refine sc 19 rfl rfl (yc LV (OX (Ap.mk n.work.g n.work.c n.work.place done) k_ B1 c n.work.g.Edges.length B2 c1 n.work.c.Gates.length B3 c2 n.work.place.length B4 c3 n.work.done.length _ rfl rfl hq rfl hl (hS1.inn0 [(true,0),(true,1),(true,2),(false,1)] rfl) hc)) ?_
   rintro _ w_ ⟨rfl,hd⟩
   have hS3:=hS1.out00 hd
   refine sQ 20 yv ?_
   refine sgq 21 rfl rfl (uT_ 20) (fun hg=>(yv rfl (hf.g 0 0))) ?_
   refine sgq 22 rfl rfl (uT_ 20) (fun hg1=>(Y_nilCheck (B:=B) (i:=0) rfl (gv_of hg1))) ?_
   refine sgq 23 rfl rfl (uT_ 20) (fun hg2=>(yd B 0 5 K94 K24 rfl (gv_of hg2))) ?_
   refine sgq 24 rfl rfl (uT_ 20) (fun hg3=>(ya B 0 V1 V2 K54 K24 (hS3.c 0) rfl (gv_of hg3))) ?_
   refine sgq 25 rfl rfl (uT_ 20) (fun hg4=>(yv rfl (hf.g 2 1))) ?_
   obtain ⟨r_1,hc1,hz1⟩:=bI hz1
   refine sgc 26 (v:=.bool r_1) (F:=hS3.fn) rfl rfl (uT_ 20) hS3 (fun hg5=>(yc Nk (CV.mono (Lv (Ap.mk n.work.g n.work.c n.work.place done) k_ B1 c n.work.g.Edges.length B2 c1 n.work.c.Gates.length B3 c2 n.work.place.length B4 c3 n.work.done.length _ rfl rfl rfl hl (hS3.inn0 [(true,0),(true,1),(true,2),(false,1)] rfl) (gb_inv hc1 hg5)) (by rintro _ _ ⟨rfl,h⟩; exact ⟨rfl,hS3.out00 h⟩)) rfl (mc (gv_of hg5) (mc (gv_of hg5) mn)))) ?_
   rintro w_1 hS4
   refine sQ 27 yA (rn ?_)
   refine cw_cond rfl (fun hb2=>?_) (fun hb2=>?_)
   ·skip
    have hF4:=ct hz1 hb2
    refine cq (cr ?_)
    refine sQ 28 (yv rfl (hf.g 0 0))<|sQ 29 (Y_nilCheck (B:=B) (i:=0) rfl rfl)<|sQ 30 (yd B 0 5 K94 K24)<|sQ 31 (yd B 0 0 K76 K41)<|sQ 32 (yz 5 K60 (hS4.c 0))<|sQ 33 (yv rfl (hf.g 2 1)) ?_
    obtain ⟨x,hx,hF4⟩:=bI hF4
    refine sQ 34 (yI B4 k_ K47 K49 (gi_isSome encB_len rfl (hS4.c 1) hx) (getI_nn hx) (getI_ltI hx hl)) ?_
    refine s0 (yS 1 1 B4 4 (.bool true) [.bool true] (k_.toNat*1) ((done.set k_.toNat true).flatMap encB) hS4 K49 rfl rfl rfl rfl rfl rfl rfl (gi_fit0 encB_len hx) (gi_set encB_len hx true rfl)) ?_
    rintro _ w_2 ⟨rfl,hS5⟩
    refine rn (cq (cr ?_))
    refine sQ 35 (yv rfl (hf.g 0 0))<|sQ 36 (yv rfl (hf.g 0 0))<|sQ 37 (Y_nilCheck (B:=B) (i:=0) rfl rfl)<|sQ 38 (yd B 0 0 I0 K36)<|sQ 39 (yz 6 K55 (hS5.c 0))<|sQ 40 (yv rfl (hf.g 2 1)) ?_
    refine sQ 41 (Y_buildS (zs:=[vi 0,vi 0,vi 0]) (vs:=[(0,vi k_)]) (cs:=[vi k_,vi 0,vi 0]) IN K56 rfl (mpc rfl mpn) rfl) ?_
    refine sS 42 (yF 3 1 [vi k_,vi 0,vi 0] 3 hS5 K31 K26 I9 rfl (mpc rfl mpn)) ?_
    rintro _ w_3 ⟨b,rfl,hS6⟩
    obtain ⟨hap,hF4⟩:=chk_inv hF4
    refine sS 43 (aP 3 24 2 steps [(Ak.mk k_ 0 0)] hS6 K31 K26 K84 K56 A5 C8 (hS6.c 3) hap) ?_
    rintro _ w_4 ⟨B9,c8,rfl,hS7⟩
    refine sQ 44 (Y_nilCheck (B:=B) (i:=0) rfl rfl)<|sQ 45 (yd B 0 0 I0 K36) ?_
    refine s0 (yS 0 1 B 109 (.slice B9 ((steps++[(Ak.mk k_ 0 0)]).length) c8) [.slice B9 ((steps++[(Ak.mk k_ 0 0)]).length) c8] 6 [vi n.work.g.Nodes,.slice B1 n.work.g.Edges.length c,vi n.work.c.Qubits,.slice B2 n.work.c.Gates.length c1,.slice B3 n.work.place.length c2,.slice B4 n.work.done.length c3,.slice B9 ((steps++[(Ak.mk k_ 0 0)]).length) c8] hS7 K36) ?_
    rintro _ w_5 ⟨rfl,hS8⟩
    refine rn (cr ?_)
    refine sQ 2 yu (rn ?_)
    exact ⟨(done.set k_.toNat true),(steps++[(Ak.mk k_ 0 0)]),(-1),B9,c8,(sI hF4),(hf.a 0 0 (fc rfl fn_)),(set_len _ _ _ hl),(hS8.sel [0,1,2] rfl rfl)⟩
   ·skip
    have hF5:=cf' hz1 hb2
    refine cw_skip ?_
    exact ⟨done,steps,k_,B7,c6,(sI hF5),(hf.a 0 0 (hf.a 2 1 fn_)),hl,(hS4.sel [0,1,2] rfl rfl)⟩
  rintro f w ⟨done1,steps1,K22,B8,c7,rfl,hf1,hl1,hS2⟩
  refine cr ?_
  refine sQ 12 (yv rfl (hf1.g 2 1))<|sQ 13 zP<|sQ 2 yu (rn ?_)
  obtain rfl:=sI hF3
  exact ⟨K11,Nat.lt_succ_self _,done1,steps1,(i64.wrap (K22+1)),B8,c7,(hf1.a 0 0 (fc rfl fn_)),hl1,(hS2.sel [0,1,2] rfl rfl),hL1⟩
 ·skip
  have hF6:=cf' hb hb1
  refine cw_exit rfl ?_
  obtain rfl:=sI hF6
  obtain rfl:=sI hL1
  obtain ⟨rfl,rfl⟩:=pr2 (sI hF1)
  exact ret0 Tryz.results64  ⟨B7,c6,rfl,hl,(hS1.sN [0,1,2])⟩

theorem Ld (n:Al) (B:Option Addr) (c n1:Nat) (B1:Option Addr) (c1 n2:Nat) (B2:Option Addr) (c2 n3:Nat) (B3:Option Addr) (c3 n4:Nat) (B4:Option Addr) (c4 n5:Nat) (w0:World) (hn:n.work.g.Edges.length=n1) (hn1:n.work.c.Gates.length=n2) (hn2:n.work.place.length=n3) (hn3:n.work.done.length=n4) (hn4:n.steps.length=n5) (hS:ST w0 [] w0 [] [⟨B,(n.work.g.Edges.flatMap eN1)⟩,⟨B1,(n.work.c.Gates.flatMap eN0)⟩,⟨B2,(n.work.place.flatMap encI)⟩,⟨B3,(n.work.done.flatMap encB)⟩,⟨B4,(n.steps.flatMap eN2)⟩]) {r_:AB} (hF:CU n=some r_) :
  CV Tryz.prog 65 #[.agg #[vi n.work.g.Nodes,.slice B n1 c,vi n.work.c.Qubits,.slice B1 n2 c1,.slice B2 n3 c2,.slice B3 n4 c3,.slice B4 n5 c4]] w0 (fun v w'=>v=.agg #[vi r_.place.1,vi r_.place.2.1,vi r_.place.2.2.1,vi r_.place.2.2.2.1,vi r_.place.2.2.2.2,.int .u64 r_.done]∧ST w0 [] w' [] []):=by
 subst hn
 subst hn1
 subst hn2
 subst hn3
 subst hn4
 unfold CU at hF
 refine cv_of_cw 31 Tryz.func65 rfl Tryz.ntmps65 rfl ?_
 refine cq (cr ?_)
 refine sS 1 (yV [vi n.work.g.Nodes,.slice B n.work.g.Edges.length c,vi n.work.c.Qubits,.slice B1 n.work.c.Gates.length c1,.slice B2 n.work.place.length c2,.slice B3 n.work.done.length c3,.slice B4 n.steps.length c4] 7 hS) ?_
 rintro _ w_ ⟨b,rfl,hS1⟩
 let V1:List Value:=[vi 0,vi 0,vi 0,vi 0,vi 0,.int .u64 0]
 refine sS 2 (yN V1 6 hS1 J2) ?_
 rintro _ w_1 ⟨b1,rfl,hS2⟩
 refine rn (cq (cr ?_))
 refine sQ 6 (Y_buildS (zs:=V1) (vs:=[]) (cs:=V1) VL J2 rfl mpn rfl) ?_
 refine sS 3 (yN V1 6 hS2 J2) ?_
 rintro _ w_2 ⟨b2,rfl,hS3⟩
 refine s0 (yK 2 6 0 hS3 IV) ?_
 rintro _ w_3 ⟨rfl,hS4⟩
 refine rn (cq ?_)
 refine ra_start (hS4.se [0,1]).fn (by kernel_rfl) ?_
 have hS5:=hS4.drew
 have hQ0:=hS5.se [0,1]
 refine rq 0 7 rfl hQ0 (fun _ q=>(yd (aD b2) 0 4 TB Lk))<|rq 1 8 rfl hQ0 (fun _ q=>(Y_sliceArr (B:=aD b2) (k:=0) KT K0 rfl rfl))<|rq 2 9 rfl hQ0 (fun _ q=>(yd (aD b) 0 5 K94 K24))<|rq 3 10 rfl hQ0 (fun _ q=>(yd (aD b) 0 0 K73 K16))<|rq 4 11 rfl hQ0 (fun _ q=>(yz 4 K23 (ST.c q 0))) ?_
 refine rA [5] ?_
 refine rS 12 5 rfl (Ys_copyArr (i:=2) (m:=6) (na:=5) (k:=0) (q:=n.work.place.length) (B:=aD b2) (A:=[]) (C:=[.int .u64 0]) (cs:=V1) (cs':=[vi (n.work.place.getD 0 0),vi (n.work.place.getD 1 0),vi (n.work.place.getD 2 0),vi (n.work.place.getD 3 0),vi (n.work.place.getD 4 0),.int .u64 0]) (l':=n.work.place) (old:=[0,0,0,0,0]) hS5 K5 K0 rfl rfl rfl rfl rfl rfl rfl (hS5.rf (i:=2) rfl) rfl rfl rfl) ?_ aN
 rintro _ w_4 ⟨rfl,hS6⟩
 refine ⟨(hS6.se [0,1]),?_⟩
 refine ra_done (by kernel_rfl) ?_
 refine cq (cq (cr ?_))
 refine sQ 13 (yd (aD b) 0 5 K94 K24)<|sQ 14 (yd (aD b) 0 0 K76 K41)<|sQ 15 (yz 5 K60 (hS6.c 0))<|sQ 16 (Y_len K47 rfl rfl)<|sQ 17 yv (rn ?_)
 obtain ⟨z,hz,hF1⟩:=bI hF
 refine cw_block ?_
 let O0:Ob:=⟨aD b1,112,V1,6⟩
 refine cw_loop (fun k f w=>∃ (done:Int) (t:Int),FF f [(2,pt (aD b1) 0),(3,pt (aD b2) 0),(15,.slice B3 n.work.done.length c3),(16,vi (n.work.done.length:Int)),(17,vi t)]∧ST w0 [] w [O0,⟨aD b2,112,[vi (n.work.place.getD 0 0),vi (n.work.place.getD 1 0),vi (n.work.place.getD 2 0),vi (n.work.place.getD 3 0),vi (n.work.place.getD 4 0),.int .u64 done],6⟩] [⟨B,(n.work.g.Edges.flatMap eN1)⟩,⟨B1,(n.work.c.Gates.flatMap eN0)⟩,⟨B2,(n.work.place.flatMap encI)⟩,⟨B3,(n.work.done.flatMap encB)⟩,⟨B4,(n.steps.flatMap eN2)⟩]∧whX (HN n) k (done,t)=some z) fuel ⟨0,0,(fc rfl (fc rfl (fc rfl (fc rfl (fc rfl fn_))))),(hS6.sel [1,2] rfl rfl),hz⟩ ?_
 rintro k_ f w ⟨done,t,hf,hS7,hL⟩
 obtain ⟨K2,y,rfl,hb,hL1⟩:=whX_go hL
 unfold HN at hb
 refine cq (cr ?_)
 refine sQ 18 (zL rfl (hf.g 17 4) (hf.g 16 3)) (rn (cq ?_))
 refine cw_cond rfl (fun hb1=>?_) (fun hb1=>?_)
 ·skip
  have hF2:=ct hb hb1
  refine cw_skip (cq ?_)
  obtain ⟨z1,hz1,hF3⟩:=bI hF2
  refine cw_mid (fun f w=>∃ (done1:Int),done1=z1∧FF f [(2,pt (aD b1) 0),(3,pt (aD b2) 0),(15,.slice B3 n.work.done.length c3),(16,vi (n.work.done.length:Int)),(17,vi t)]∧ST w0 [] w [O0,⟨aD b2,112,[vi (n.work.place.getD 0 0),vi (n.work.place.getD 1 0),vi (n.work.place.getD 2 0),vi (n.work.place.getD 3 0),vi (n.work.place.getD 4 0),.int .u64 done1],6⟩] [⟨B,(n.work.g.Edges.flatMap eN1)⟩,⟨B1,(n.work.c.Gates.flatMap eN0)⟩,⟨B2,(n.work.place.flatMap encI)⟩,⟨B3,(n.work.done.flatMap encB)⟩,⟨B4,(n.steps.flatMap eN2)⟩]) ?_ ?_
  ·skip
   refine cw_block (cq (cr ?_))
   refine sQ 19 (yv rfl (hf.g 17 4)) ?_
   obtain ⟨x,hx,hz1⟩:=bI hz1
   refine sQ 20 (yI B3 t K47 K49 (gi_isSome encB_len rfl (hS7.rf (i:=3) rfl) hx) (getI_nn hx) (getI_ltI hx rfl) rfl (hf.g 15 2) (hf.g 17 4))<|sQ 21 (yz (t.toNat*1) K87 (hS7.rf (i:=3) rfl) rfl rfl (gi_at0 encB_len hx rfl))<|sQ 4 yu<|sQ 5 yu (rn (cq (cr ?_)))
   refine sQ 22 yv (rn ?_)
   refine cw_cond rfl (fun hb2=>?_) (fun hb2=>?_)
   ·skip
    have hF4:=ct hz1 hb2
    obtain ⟨hsh,hF4⟩:=chk_inv hF4
    refine ra_start (hS7.se [0]).fn (by kernel_rfl) ?_
    have hS9:=hS7.drew
    have hQ1:=hS9.se [0]
    refine rq 0 23 rfl hQ1 (fun _ q=>(yd (aD b2) 0 0 Ni Es rfl (hf.g 3 1)))<|rq 2 25 rfl hQ1 (fun _ q=>yv)<|rq 3 26 rfl hQ1 (fun _ q=>(Y_shl (k:=.u64) (a:=1) (k':=.i64) (b:=t) rfl rfl rfl hsh))<|r1 24 1 rfl (yz 5 Ha (hS9.c 1)) hQ1<|rq 4 27 rfl hQ1 (fun _ q=>(Y_bor (k:=.u64) (a:=done) (b:=(shlK .u64 1 t)) rfl rfl rfl)) ?_
    refine rq 5 28 rfl hQ1 (fun _ q=>(yd (aD b2) 0 0 Ni Es rfl (hf.g 3 1))) ?_
    refine rA [6] ?_
    refine rZ 6 rfl (yS 1 1 (aD b2) 112 (.int .u64 (bits .or .u64 done (shlK .u64 1 t))) [.int .u64 (bits .or .u64 done (shlK .u64 1 t))] 5 [vi (n.work.place.getD 0 0),vi (n.work.place.getD 1 0),vi (n.work.place.getD 2 0),vi (n.work.place.getD 3 0),vi (n.work.place.getD 4 0),.int .u64 (bits .or .u64 done (shlK .u64 1 t))] hS9 Es) ?_ aN
    rintro _ w_5 ⟨rfl,hS10⟩
    refine ⟨(hS10.se [0]),?_⟩
    refine ra_done (by kernel_rfl) ?_
    exact ⟨(bits .or .u64 done (shlK .u64 1 t)),(sI hF4),(hf.a 2 0 (hf.a 3 1 (hf.a 15 2 (hf.a 16 3 (hf.a 17 4 fn_))))),(hS10.sel [0,1] rfl rfl)⟩
   ·skip
    have hF5:=cf' hz1 hb2
    refine cw_skip ?_
    exact ⟨done,(sI hF5),(hf.a 2 0 (hf.a 3 1 (hf.a 15 2 (hf.a 16 3 (hf.a 17 4 fn_))))),(hS7.sel [0,1] rfl rfl)⟩
  rintro f w ⟨done1,rfl,hf1,hS8⟩
  refine cr ?_
  refine sQ 29 (zP rfl (hf1.g 17 4))<|sQ 17 yv (rn ?_)
  obtain rfl:=sI hF3
  exact ⟨K2,Nat.lt_succ_self _,done1,(i64.wrap (t+1)),(hf1.a 2 0 (hf1.a 3 1 (hf1.a 15 2 (hf1.a 16 3 (fc rfl fn_))))),(hS8.sel [0,1] rfl rfl),hL1⟩
 ·skip
  have hF6:=cf' hb hb1
  refine cw_exit rfl ?_
  obtain rfl:=sI hF6
  obtain rfl:=sI hL1
  refine cq (cr ?_)
  refine sQ 30 (yw 0 KN IV (hS7.c 1) rfl (hf.g 3 1)) ?_
  refine s0 (yK 0 6 0 hS7 IV rfl (hf.g 2 0)) ?_
  rintro _ w_6 ⟨rfl,hS11⟩
  refine rn (ct_ ?_)
  obtain rfl:=sI hF1
  exact ret1 Tryz.results65 (rX KN IV (hS11.c 0) (hf.g 2 0)) ⟨rfl,(hS11.sN [])⟩

theorem T5 (s:List Bool) (v_:Bool) (B:Option Addr) (c n:Nat) (w0:World) (hn:s.length=n) (hS:ST w0 [] w0 [] [⟨B,(s.flatMap encB)⟩]) {r_:Int} (hF:Hz s v_=some r_) :
  CV Tryz.prog 97 #[.slice B n c,.bool v_] w0 (fun v w'=>v=vi r_∧ST w0 [] w' [] []):=by
 subst hn
 unfold Hz at hF
 refine cv_of_cw 19 Tryz.func97 rfl Tryz.ntmps97 rfl ?_
 refine cq (cr ?_)
 refine sQ 4 yu (rn (cq (cq (cr ?_))))
 refine sQ 6 yv<|sQ 7 (Y_len K47 rfl rfl)<|sQ 8 yv (rn ?_)
 obtain ⟨hN,hF⟩:=chk_inv hF
 obtain ⟨z,hz,hF1⟩:=bI hF
 refine cw_block ?_
 refine cw_loop (fun k f w=>∃ (i:Nat),FF f [(0,.slice B s.length c),(1,.bool v_),(7,vi (s.length:Int)),(8,vi (i:Int))]∧ST w0 [] w [] [⟨B,(s.flatMap encB)⟩]∧i+k=s.length∧forX (HE s v_) k i ()=some z) s.length ⟨0,(fc rfl (fc rfl (fc rfl (fc rfl fn_)))),(hS.sel [] rfl rfl),Nat.zero_add _,hz⟩ ?_
 rintro k_ f w ⟨i,hf,hS1,hik,hL⟩
 refine cq (cr ?_)
 refine sQ 9 (zL rfl (hf.g 8 3) (hf.g 7 2)) (rn (cq ?_))
 refine cw_cond rfl (fun hlt=>?_) (fun hlt=>?_)
 ·skip
  have hlt1:i<s.length:=by have h:=of_decide_eq_true hlt; omega
  obtain ⟨K2,rfl⟩:∃ k2,k_=k2+1:=⟨k_-1,by omega⟩
  obtain ⟨y,hb,hL1⟩:=forX_go hL
  unfold HE at hb
  refine cw_skip (cq (cw_block (cq (cr ?_))))
  refine sQ 10 (yv rfl (hf.g 8 3))<|sQ 5 yu (rn (cq (cr ?_)))
  refine sQ 11 (yv rfl (hf.g 1 1))<|sQ 12 (yv rfl (hf.g 0 0))<|sQ 13 yv ?_
  obtain ⟨x,hx,hb⟩:=bI hb
  refine sQ 14 (yI B (i:Int) K47 K49 (gi_isSome encB_len rfl (hS1.rf (i:=0) rfl) hx) (getI_nn hx) (getI_ltI hx rfl))<|sQ 15 (yz ((i:Int).toNat*1) K87 (hS1.rf (i:=0) rfl) rfl rfl (gi_at0 encB_len hx rfl))<|sQ 16 (Y_beq (p:=v_) (q:=x) IT rfl rfl rfl) (rn ?_)
  refine cw_cond rfl (fun hb1=>?_) (fun hb1=>?_)
  ·skip
   have hF2:=ct hb hb1
   refine cq (cr ?_)
   refine sQ 17 yv<|sQ 4 yu (rn (ct_ ?_))
   obtain rfl:=sI hF2
   obtain rfl:=sI hL1
   obtain rfl:=sI hF1
   exact e1 Tryz.results97 (hS1.sN [])
  ·skip
   have hF3:=cf' hb hb1
   refine cw_skip (cr ?_)
   refine sQ 18 (zP rfl (hf.g 8 3))<|sQ 8 yv (rn ?_)
   obtain rfl:=sI hF3
   exact ⟨K2,Nat.lt_succ_self _,i+1,(hf.a 0 0 (hf.a 1 1 (hf.a 7 2 (fc (congrArg (Value.int .i64) (wr_succ hlt1 hN)) fn_)))),(hS1.sel [] rfl rfl),(by omega),hL1⟩
 ·skip
  obtain rfl:k_=0:=by have h:=of_decide_eq_false hlt; omega
  refine cw_exit rfl ?_
  obtain rfl:=sI hL
  refine cq (cr ?_)
  refine sQ 4 yu (rn (ct_ ?_))
  obtain rfl:=sI hF1
  exact e1 Tryz.results97 (hS1.sN [])

theorem Ot (s:List Bool) (v_:Bool) (B:Option Addr) (c n:Nat) (w0:World) (hn:s.length=n) (hS:ST w0 [] w0 [] [⟨B,(s.flatMap encB)⟩]) {r_:Bool} (hF:Co s v_=some r_) :
  CV Tryz.prog 66 #[.slice B n c,.bool v_] w0 (fun v w'=>v=.bool r_∧ST w0 [] w' [] []):=by
 subst hn
 unfold Co at hF
 refine cv_of_cw 9 Tryz.func66 rfl Tryz.ntmps66 rfl ?_
 refine cq (cr ?_)
 refine sQ 4 yu (rn (cq (cr ?_)))
 refine sQ 5 yv<|sQ 6 yv ?_
 obtain ⟨r_1,hc,hF⟩:=bI hF
 refine sc 7 rfl rfl (yc Ta (T5 s v_ B c s.length _ rfl (hS.inn0 [(true,0)] rfl) hc)) ?_
 rintro _ w_ ⟨rfl,hd⟩
 have hS1:=hS.out00 hd
 refine sQ 8 (Y_ge rfl rfl rfl)<|sQ 4 yu (rn (ct_ ?_))
 obtain rfl:=sI hF
 exact e1 Tryz.results66 (hS1.sN [])

theorem Nz (r_:Ap) (a:Int) (b:Int) (B:Option Addr) (c n:Nat) (B1:Option Addr) (c1 n1:Nat) (B2:Option Addr) (c2 n2:Nat) (B3:Option Addr) (c3 n3:Nat) (w0:World) (hn:r_.g.Edges.length=n) (hn1:r_.c.Gates.length=n1) (hn2:r_.place.length=n2) (hn3:r_.done.length=n3) (hS:ST w0 (bl [⟨B2,3,(r_.place.flatMap encI),c2*1⟩]) w0 [⟨B2,3,(r_.place.flatMap encI),c2*1⟩] [⟨B,(r_.g.Edges.flatMap eN1)⟩,⟨B1,(r_.c.Gates.flatMap eN0)⟩,⟨B3,(r_.done.flatMap encB)⟩]) {m:List Int} (hF:CX r_ a b=some m) :
  CV Tryz.prog 77 #[.agg #[vi r_.g.Nodes,.slice B n c,vi r_.c.Qubits,.slice B1 n1 c1,.slice B2 n2 c2,.slice B3 n3 c3],vi a,vi b] w0 (fun v w'=>v=.tuple #[]∧m.length=n2∧ST w0 (bl [⟨B2,3,(r_.place.flatMap encI),c2*1⟩]) w' [⟨B2,3,(m.flatMap encI),c2*1⟩] []):=by
 subst hn
 subst hn1
 subst hn2
 subst hn3
 unfold CX at hF
 refine cv_of_cw 34 Tryz.func77 rfl Tryz.ntmps77 rfl ?_
 refine cq (cr ?_)
 let V1:List Value:=[vi r_.g.Nodes,.slice B r_.g.Edges.length c,vi r_.c.Qubits,.slice B1 r_.c.Gates.length c1,.slice B2 r_.place.length c2,.slice B3 r_.done.length c3]
 refine sS 3 (yV V1 6 hS) ?_
 rintro _ w_ ⟨b1,rfl,hS1⟩
 refine rn (cq (cr ?_))
 refine sQ 8 (yd (aD b1) 0 0 K73 K16)<|sQ 9 (yz 4 K23 (hS1.c 1))<|sQ 10 (Y_len K5 rfl rfl)<|sQ 11 yv (rn ?_)
 obtain ⟨hN,hF⟩:=chk_inv hF
 obtain ⟨z,hz,hF1⟩:=bI hF
 refine cw_block ?_
 let O0:Ob:=⟨aD b1,82,V1,6⟩
 refine cw_loop (fun k f w=>∃ (i:Nat) (m1:List Int),FF f [(1,vi a),(2,vi b),(3,pt (aD b1) 0),(9,.slice B2 r_.place.length c2),(10,vi (r_.place.length:Int)),(11,vi (i:Int))]∧m1.length=r_.place.length∧ST w0 (bl [⟨B2,3,(r_.place.flatMap encI),c2*1⟩]) w [⟨B2,3,(m1.flatMap encI),c2*1⟩,O0] [⟨B,(r_.g.Edges.flatMap eN1)⟩,⟨B1,(r_.c.Gates.flatMap eN0)⟩,⟨B3,(r_.done.flatMap encB)⟩]∧i+k=r_.place.length∧forN (Hl a b) k i m1=some z) r_.place.length ⟨0,r_.place,(fc rfl (fc rfl (fc rfl (fc rfl (fc rfl (fc rfl fn_)))))),rfl,(hS1.sel [0,1] rfl rfl),Nat.zero_add _,hz⟩ ?_
 rintro k_ f w ⟨i,m1,hf,hl,hS2,hik,hL⟩
 refine cq (cr ?_)
 refine sQ 12 (zL rfl (hf.g 11 5) (hf.g 10 4)) (rn (cq ?_))
 refine cw_cond rfl (fun hlt=>?_) (fun hlt=>?_)
 ·skip
  have hlt1:i<r_.place.length:=by have h:=of_decide_eq_true hlt; omega
  obtain ⟨K2,rfl⟩:∃ k2,k_=k2+1:=⟨k_-1,by omega⟩
  obtain ⟨y,hb,hL1⟩:=forN_go hL
  unfold Hl at hb
  refine cw_skip (cq ?_)
  obtain ⟨z1,hz1,hF2⟩:=bI hb
  refine cw_mid (fun f w=>∃ (m2:List Int),m2=z1∧FF f [(1,vi a),(2,vi b),(3,pt (aD b1) 0),(9,.slice B2 r_.place.length c2),(10,vi (r_.place.length:Int)),(11,vi (i:Int))]∧m2.length=r_.place.length∧ST w0 (bl [⟨B2,3,(r_.place.flatMap encI),c2*1⟩]) w [⟨B2,3,(m2.flatMap encI),c2*1⟩,O0] [⟨B,(r_.g.Edges.flatMap eN1)⟩,⟨B1,(r_.c.Gates.flatMap eN0)⟩,⟨B3,(r_.done.flatMap encB)⟩]) ?_ ?_
  ·skip
   refine cw_block (cq (cr ?_))
   refine sQ 13 (yv rfl (hf.g 11 5)) ?_
   obtain ⟨x,hx,hz1⟩:=bI hz1
   refine sQ 14 (yI B2 (i:Int) K5 K0 (gi_isSome encI_len rfl (hS2.c 0) hx) (getI_nn hx) (getI_ltI hx hl) rfl (hf.g 9 3) (hf.g 11 5))<|sQ 15 (yz ((i:Int).toNat*1) K1 (hS2.c 0) rfl rfl (gi_at0 encI_len hx rfl))<|sQ 6 yu<|sQ 7 yu (rn (cq (cr ?_)))
   refine sQ 16 yv (rn (cw_block (cq (cr ?_))))
   refine sQ 18 (yv rfl (hf.g 1 0))<|sQ 19 zE<|sQ 17 yu (rn ?_)
   refine cw_cond rfl (fun hb1=>?_) (fun hb1=>?_)
   ·skip
    have hF3:=ct hz1 hb1
    refine cr ?_
    refine sQ 20 (yd (aD b1) 0 0 K73 K16 rfl (hf.g 3 2))<|sQ 21 (yz 4 K23 (hS2.c 1))<|sQ 22 yv<|sQ 23 (yv rfl (hf.g 2 1))<|sQ 24 (yI B2 (i:Int) K5 K0 (gi_isSome encI_len rfl (hS2.c 0) hx) (getI_nn hx) (getI_ltI hx hl)) ?_
    refine s0 (yS 0 1 B2 3 (vi b) [vi b] ((i:Int).toNat*1) ((m1.set (i:Int).toNat b).flatMap encI) hS2 K0 rfl rfl rfl rfl rfl rfl rfl (gi_fit0 encI_len hx) (gi_set encI_len hx b rfl)) ?_
    rintro _ w_1 ⟨rfl,hS4⟩
    refine rn ?_
    exact ⟨(m1.set (i:Int).toNat b),(sI hF3),(hf.a 1 0 (hf.a 2 1 (hf.a 3 2 (hf.a 9 3 (hf.a 10 4 (hf.a 11 5 fn_)))))),(set_len _ _ _ hl),(hS4.sel [0,1] rfl rfl)⟩
   ·skip
    have hF4:=cf' hz1 hb1
    refine cq (cr ?_)
    refine sQ 26 (yv rfl (hf.g 2 1))<|sQ 27 zE<|sQ 25 yu (rn ?_)
    refine cw_cond rfl (fun hb2=>?_) (fun hb2=>?_)
    ·skip
     have hF5:=ct hF4 hb2
     refine cr ?_
     refine sQ 28 (yd (aD b1) 0 0 K73 K16 rfl (hf.g 3 2))<|sQ 29 (yz 4 K23 (hS2.c 1))<|sQ 30 yv<|sQ 31 (yv rfl (hf.g 1 0))<|sQ 32 (yI B2 (i:Int) K5 K0 (gi_isSome encI_len rfl (hS2.c 0) hx) (getI_nn hx) (getI_ltI hx hl)) ?_
     refine s0 (yS 0 1 B2 3 (vi a) [vi a] ((i:Int).toNat*1) ((m1.set (i:Int).toNat a).flatMap encI) hS2 K0 rfl rfl rfl rfl rfl rfl rfl (gi_fit0 encI_len hx) (gi_set encI_len hx a rfl)) ?_
     rintro _ w_2 ⟨rfl,hS5⟩
     refine rn ?_
     exact ⟨(m1.set (i:Int).toNat a),(sI hF5),(hf.a 1 0 (hf.a 2 1 (hf.a 3 2 (hf.a 9 3 (hf.a 10 4 (hf.a 11 5 fn_)))))),(set_len _ _ _ hl),(hS5.sel [0,1] rfl rfl)⟩
    ·skip
     have hF6:=cf' hF4 hb2
     refine cw_skip ?_
     exact ⟨m1,(sI hF6),(hf.a 1 0 (hf.a 2 1 (hf.a 3 2 (hf.a 9 3 (hf.a 10 4 (hf.a 11 5 fn_)))))),hl,(hS2.sel [0,1] rfl rfl)⟩
  rintro f w ⟨m2,rfl,hf1,hl1,hS3⟩
  refine cr ?_
  refine sQ 33 (zP rfl (hf1.g 11 5))<|sQ 11 yv (rn ?_)
  obtain rfl:=sI hF2
  exact ⟨K2,Nat.lt_succ_self _,i+1,m2,(hf1.a 1 0 (hf1.a 2 1 (hf1.a 3 2 (hf1.a 9 3 (hf1.a 10 4 (fc (congrArg (Value.int .i64) (wr_succ hlt1 hN)) fn_)))))),hl1,(hS3.sel [0,1] rfl rfl),(by omega),hL1⟩
 ·skip
  obtain rfl:k_=0:=by have h:=of_decide_eq_false hlt; omega
  refine cw_exit rfl ?_
  obtain rfl:=sI hL
  obtain rfl:=sI hF1
  exact ret0 Tryz.results77  ⟨rfl,hl,(hS2.sN [0])⟩

theorem Jh (s:List Bool) (B:Option Addr) (c n:Nat) (w0:World) (hn:s.length=n) (hS:ST w0 [] w0 [] [⟨B,(s.flatMap encB)⟩]) {r_:List Bool} (hF:F5 s=some r_) :
  CV Tryz.prog 98 #[.slice B n c] w0 (fun v w'=>∃ (B1:Option Addr) (c1:Nat),v=.slice B1 r_.length c1∧ST w0 [] w' [⟨B1,4,(r_.flatMap encB),c1*1⟩] []):=by
 subst hn
 unfold F5 at hF
 refine cv_of_cw 8 Tryz.func98 rfl Tryz.ntmps98 rfl ?_
 refine cq (cr ?_)
 refine sQ 2 yu (rn (cq (cq (cr ?_))))
 refine sQ 3 yv<|sQ 4 (Y_nileql (B:=B) (m:=s.length) (c:=c) K47 rfl rfl rfl) (rn ?_)
 refine cw_cond rfl (fun hb=>?_) (fun hb=>?_)
 ·skip
  have hl:s=[]:=nil_cont encB_len (hS.rf (i:=0) rfl) rfl hb
  rw [hl] at hF
  have hF1:(some ([]))=some r_:=by simpa [chk] using hF
  subst hl
  refine cq (cr ?_)
  refine sQ 2 yu (rn (ct_ ?_))
  have hS1:=hS.addNil 4
  obtain rfl:=sI hF1
  exact ret1 Tryz.results98 rT ⟨none,0,rfl,(hS1.sN [0])⟩
 ·skip
  refine cw_skip (cq (cr ?_))
  refine sS 5 (Ys_bslice0 (s:=1) (e:=4) hS K47 K49 rfl) ?_
  rintro _ w_ ⟨b,rfl,hS2⟩
  refine sQ 6 yv ?_
  obtain ⟨hap,hF⟩:=chk_inv hF
  refine sS 7 (Ys_append (s:=1) (by':=1) (i:=0) (nn:=0) (c:=0) (k:=s.length) (len:=s.length) (B:=aD b) (xs:=(s.flatMap encB)) (cs':=(s.flatMap encB)) hS2 K47 K49 Iz GQ rfl (by decide) rfl rfl rfl rfl (fm_lenn (l:=[]) encB_len rfl) rfl (hS2.rf (i:=0) rfl) (fm_lenn (l:=s) encB_len rfl) (fm_one' (enc:=encB) encB_one s) (by have:=hap; omega) (by have:=hap; simp only [maxLen]; omega) rfl (app_len0 (l:=s) rfl)) ?_
  rintro _ w_1 ⟨B2,c2,rfl,hS3⟩
  refine sQ 2 yu (rn (ct_ ?_))
  obtain rfl:=sI hF
  exact ret1 Tryz.results98 rT ⟨B2,c2,rfl,(hS3.sN [0])⟩
end Go.VK
