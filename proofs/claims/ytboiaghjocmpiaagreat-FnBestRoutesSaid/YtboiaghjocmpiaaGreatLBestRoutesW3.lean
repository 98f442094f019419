/- Walks: each Go function returns what its Lean function says. By program. -/
import Derived.Test.YtboiaghjocmpiaaGreatLBestRoutesFa
import Derived.Test.YtboiaghjocmpiaaGreatLBestRoutesShelf
import Derived.Test.YtboiaghjocmpiaaGreatLibQ
import Derived.Test.YtboiaghjocmpiaaGreatLibU
import Derived.Test.YtboiaghjocmpiaaGreatLibX
import Derived.Test.YtboiaghjocmpiaaGreatLibZ
import Derived.Test.YtboiaghjocmpiaaGreatLibY
import Derived.Test.YtboiaghjocmpiaaGreatLibW
import Derived.Test.YtboiaghjocmpiaaGreatLBestRoutesW2
set_option linter.unusedVariables false
set_option maxRecDepth 100000
set_option maxHeartbeats 4000000
namespace Go.VK
open Go.RowKit
open Go.Proofs
open Go.IntKind
attribute [local irreducible] CW RW RA CV Y Yw Yc Ys RetOf
attribute [local irreducible] AF Ce DG A2 AX BI BZ Bv Cs C4 BT CI DC C2 Dz Co CX Dq CJ Dd DH BJ Cg CA DL Cm EK EG Ee DX Eg F7 CO BS Ew Ch Fv Dy DZ DR EI GJ E9 Ej E8 Eb F3 EV Ey Cz
theorem Tj (g:Ae) (c1:Ad) (starts:List (List Int)) (B:Option Addr) (c n:Nat) (B1:Option Addr) (c2 n1:Nat) (B2:Option Addr) (c3 n2:Nat) (D:List (Hd×(List Int))) (w0:World) (hn:g.Edges.length=n) (hn1:c1.Gates.length=n1) (hn2:starts.length=n2) (hD:D.map Prod.snd=starts) (hS:ST w0 [] w0 [] (⟨B,(g.Edges.flatMap eN1)⟩::⟨B1,(c1.Gates.flatMap eN0)⟩::⟨B2,(D.flatMap eN3)⟩::((D.flatMap eN4)++[]))) {r_:Am} {r_1:Bool} (hF:EK g c1 starts=some (r_,r_1)) :
  CV Tryz.prog 29 #[.agg #[vi g.Nodes,.slice B n c],.agg #[vi c1.Qubits,.slice B1 n1 c2],.slice B2 n2 c3] w0 (fun v w'=>∃ (B3:Option Addr) (c4:Nat) (B4:Option Addr) (c5:Nat),v=.tuple #[.agg #[.slice B3 r_.Start.length c4,.slice B4 r_.Steps.length c5],.bool r_1]∧ST w0 [] w' [⟨B3,3,(r_.Start.flatMap encI),c4*1⟩,⟨B4,39,(r_.Steps.flatMap eN2),c5*3⟩] []):=by
 subst hn
 subst hn1
 subst hn2
 unfold EK at hF
 refine cv_of_cw 169 Tryz.func29 rfl Tryz.ntmps29 rfl ?_
 refine cq (cr ?_)
 refine sS 3 (yV [vi g.Nodes,.slice B g.Edges.length c] 2 hS) ?_
 rintro _ w_ ⟨b,rfl,hS1⟩
 refine sS 4 (yV [vi c1.Qubits,.slice B1 c1.Gates.length c2] 2 hS1) ?_
 rintro _ w_1 ⟨b1,rfl,hS2⟩
 let V61:List Value:=[.slice none 0 0,.slice none 0 0]
 refine sS 6 (yN V61 2 hS2 K61) ?_
 rintro _ w_2 ⟨b2,rfl,hS3⟩
 refine sQ 7 yu (rn (cq (cr ?_)))
 refine sS 22 (Ys_make (s:=1) (by':=24) (nn:=3125) (a:=3125) (b:=3125) (cs:=((List.replicate 3125 (((none,0),[]):Hd×(List Int))).flatMap eN3)) hS3 K67 K16 N4 Og rfl rfl rfl rfl (show (0:Int)≤3125∧3125≤1099511627776 by decide).1 rfl (by have:=(show (0:Int)≤3125∧3125≤1099511627776 by decide); omega) (by have:=(show (0:Int)≤3125∧3125≤1099511627776 by decide); omega) (by omega) (fm_rep (enc:=eN3) (d:=(((none,0),[]):Hd×(List Int))) rfl _)) ?_
 rintro _ w_3 ⟨b3,rfl,hS4⟩
 let O0:Ob:=⟨aD b1,28,[vi c1.Qubits,.slice B1 c1.Gates.length c2],2⟩
 let O1:Ob:=⟨aD b2,34,V61,2⟩
 let O2:Ob:=⟨aD b,25,[vi g.Nodes,.slice B g.Edges.length c],2⟩
 let R35:Ro:=⟨B1,(c1.Gates.flatMap eN0)⟩
 let R36:Ro:=⟨B,(g.Edges.flatMap eN1)⟩
 have hS5:ST w0 [] _ (O2::O0::O1::⟨aD b3,31,((List.replicate 3125 (((none,0),[]):Hd×(List Int))).flatMap eN3),3125*1⟩::((List.replicate 3125 (((none,0),[]):Hd×(List Int))).map (orow 3 encI 1))) (R36::R35::⟨B2,(D.flatMap eN3)⟩::((D.flatMap eN4)++[])):=ST.addRows (enc:=encI) (L:=[O2,O0,O1,⟨aD b3,31,((List.replicate 3125 (((none,0),[]):Hd×(List Int))).flatMap eN3),3125*1⟩]) hS4 3 1 3125
 refine sQ 8 yu (rn (cq (cr ?_)))
 refine sQ 9 yu (rn (cq (cq (cr ?_))))
 refine sQ 23 yv<|sQ 24 (Y_len K67 rfl rfl)<|sQ 25 yv (rn ?_)
 obtain ⟨hN,hF⟩:=chk_inv hF
 obtain ⟨z,hz,hF1⟩:=bI hF
 have hS7:=hS5.addNil 123
 have hS8:ST w0 [] _ (O2::O0::O1::⟨aD b3,31,((List.replicate 3125 (((none,0),[]):Hd×(List Int))).flatMap eN3),3125*1⟩::⟨none,123,(([]:List ((Hd×Hd×Hd)×Ai)).flatMap eN6),0*4⟩::((List.replicate 3125 (((none,0),[]):Hd×(List Int))).map (orow 3 encI 1))) (R36::R35::⟨B2,(D.flatMap eN3)⟩::((D.flatMap eN4)++[])):=ST.rot (pre:=[O2,O0,O1,⟨aD b3,31,((List.replicate 3125 (((none,0),[]):Hd×(List Int))).flatMap eN3),3125*1⟩]) (G:=((List.replicate 3125 (((none,0),[]):Hd×(List Int))).map (orow 3 encI 1))) (xs:=[⟨none,123,(([]:List ((Hd×Hd×Hd)×Ai)).flatMap eN6),0*4⟩]) hS7
 have hS9:ST w0 [] _ (O2::O0::O1::⟨aD b3,31,((List.replicate 3125 (((none,0),[]):Hd×(List Int))).flatMap eN3),3125*1⟩::⟨none,123,(([]:List ((Hd×Hd×Hd)×Ai)).flatMap eN6),0*4⟩::((List.replicate 3125 (((none,0),[]):Hd×(List Int))).map (orow 3 encI 1))) (R36::R35::⟨B2,(D.flatMap eN3)⟩::((D.flatMap eN4)++((([]:List ((Hd×Hd×Hd)×Ai)).flatMap eN5)++[]))):=ST.subR hS8 (sk 0 (sk 1 (sk 2 (suba (fun r_ (h:r_∈((D.flatMap eN4):List Ro))=>mOd (i:=3) (show r_∈((((D.flatMap eN4)++[])):List Ro) from mAl _ h)) (suba fsub_nil (fun _ h=>by cases h))))))
 refine cw_block ?_
 refine cw_loop (fun k f w=>∃ (i:Nat) (met:List (List Int)) (list:List Ai) (D1:List (Hd×(List Int))) (B5:Option Addr) (c6:Nat) (D2:List ((Hd×Hd×Hd)×Ai)),FF f [(3,pt (aD b) 0),(4,pt (aD b1) 0),(6,pt (aD b2) 0),(8,.slice (aD b3) 3125 3125),(9,.slice B5 list.length c6),(23,.slice B2 starts.length c3),(24,vi (starts.length:Int)),(25,vi (i:Int))]∧D1.map Prod.snd=met∧D1.length=3125∧D2.map Prod.snd=list∧Org w0 [] (R36::R35::⟨B2,(D.flatMap eN3)⟩::((D.flatMap eN4)++[])) (D2.flatMap eN5)∧ST w0 [] w (O2::O0::O1::⟨aD b3,31,(D1.flatMap eN3),3125*1⟩::⟨B5,123,(D2.flatMap eN6),c6*4⟩::(D1.map (orow 3 encI 1))) (R36::R35::⟨B2,(D.flatMap eN3)⟩::((D.flatMap eN4)++((D2.flatMap eN5)++[])))∧i+k=starts.length∧forN (Dl starts c1 g) k i (met,list)=some z) starts.length ⟨0,(List.replicate 3125 ([]:List Int)),([]:List Ai),(List.replicate 3125 (((none,0),[]):Hd×(List Int))),none,0,([]:List ((Hd×Hd×Hd)×Ai)),(fc rfl (fc rfl (fc rfl (fc rfl (fc rfl (fc rfl (fc rfl (fc rfl fn_)))))))),(rep_snd _),List.length_replicate,rfl,forg_nil,(hS9.sg 5 [0,1,2,3,4]),Nat.zero_add _,hz⟩ ?_
 rintro k_ f w ⟨i,met,list,D1,B5,c6,D2,hf,hD1,hl,hD2,ho,hS6,hik,hL⟩
 refine cq (cr ?_)
 refine sQ 26 (zL rfl (hf.g 25 7) (hf.g 24 6)) (rn (cq ?_))
 refine cw_cond rfl (fun hlt=>?_) (fun hlt=>?_)
 ·skip
  have hlt1:i<starts.length:=by have h:=of_decide_eq_true hlt; omega
  obtain ⟨K2,rfl⟩:∃ k2,k_=k2+1:=⟨k_-1,by omega⟩
  obtain ⟨y,hb,hL1⟩:=forN_go hL
  unfold Dl at hb
  refine cw_skip (cq (cw_block (cq (cr ?_))))
  obtain ⟨x,hx,hb⟩:=bI hb
  obtain ⟨⟨B6,c7⟩,hp⟩:=getI_snd hD hx
  refine sQ 27 (yI B2 (i:Int) K67 K16 (gi_isSome AJ rfl (hS6.rf (i:=2) rfl) hp) (getI_nn hp) (getI_ltI hp (dl_len hD)) rfl (hf.g 23 5) (hf.g 25 7)) ?_
  let R43:Ro:=⟨B6,(x.flatMap encI)⟩
  have hm:(R43:Ro)∈((R36::R35::⟨B2,(D.flatMap eN3)⟩::((D.flatMap eN4)++((D2.flatMap eN5)++[]))):List Ro):=app_mem (fun r_ (h:r_∈((D.flatMap eN4):List Ro))=>mOd (i:=3) (show r_∈((((D.flatMap eN4)++((D2.flatMap eN5)++[]))):List Ro) from mAl _ h)) (row_mem (rw_:=eN4) hp _ (mt 0))
  let O3:Ob:=⟨B5,123,(D2.flatMap eN6),c6*4⟩
  let O5:Ob:=⟨aD b3,31,(D1.flatMap eN3),3125*1⟩
  have hS10:ST w0 [] _ (O2::O0::O1::O5::O3::(D1.map (orow 3 encI 1))) (R43::R36::R35::⟨B2,(D.flatMap eN3)⟩::((D.flatMap eN4)++((D2.flatMap eN5)++[]))):=ST.subR hS6 (subc hm (fun _ h=>h))
  refine sQ 28 (yz ((i:Int).toNat*1) K23 (hS10.rf (i:=3) rfl) rfl rfl (gi_at0 AJ hp rfl))<|sQ 11 yu (rn (cq ?_))
  obtain ⟨r_2,hc,hb⟩:=bI hb
  obtain ⟨hmk,hb⟩:=chk_inv hb
  obtain ⟨r_3,hc1,hb⟩:=bI hb
  have hS19:=hS10.addNil 39
  let O13:Ob:=⟨none,39,([].flatMap eN2),0*3⟩
  have hS20:ST w0 [] _ (O2::O0::O1::O5::O3::O13::(D1.map (orow 3 encI 1))) (R43::R36::R35::⟨B2,(D.flatMap eN3)⟩::((D.flatMap eN4)++((D2.flatMap eN5)++[]))):=ST.rot (pre:=[O2,O0,O1,O5,O3]) (G:=(D1.map (orow 3 encI 1))) (xs:=[O13]) hS19
  refine ra_start (hS20.sg 6 [0,1,2,3,4]).fn (by kernel_rfl) ?_
  have hS21:=hS20.drew
  refine rq 0 29 rfl (hS21.sg 6 [0,1,2,3,4]) (fun _ q=>(yw 0 K13 K8 (ST.c q 0) rfl (hf.g 3 0)))<|rq 1 30 rfl (hS21.sg 6 [0,1,2,3,4]) (fun _ q=>(yw 0 K10 K3 (ST.c q 1) rfl (hf.g 4 1)))<|rq 2 31 rfl (hS21.sg 6 [0,1,2,3,4]) (fun _ q=>yv)<|rq 4 33 rfl (hS21.sg 6 [0,1,2,3,4]) (fun _ q=>(yd (aD b1) 0 0 K19 K15 rfl (hf.g 4 1)))<|rq 5 34 rfl (hS21.sg 6 [0,1,2,3,4]) (fun _ q=>(yz 1 K21 (ST.c q 1))) ?_
  refine rq 6 35 rfl (hS21.sg 6 [0,1,2,3,4]) (fun _ q=>(Y_len K12 rfl rfl)) ?_
  let V59:List Value:=[.slice none 0 0,.slice none 0 0,vi 0,.slice none 0 0]
  refine rf_in (k:=4) (ts:=[35]) (L:=[O2,O0,O1,O5,O3,O13]) (G:=(D1.map (orow 3 encI 1))) [fM 7 36 4 ((List.replicate c1.Gates.length false).flatMap encB) (c1.Gates.length*1) c1.Gates.length c1.Gates.length,fN 10 12 123 V59 4] hS21 (flc rfl rfl rfl (fun _ _ _ _ hf_ h=>(Ys_make (s:=1) (by':=1) (nn:=c1.Gates.length) (a:=(c1.Gates.length:Int)) (b:=(c1.Gates.length:Int)) (cs:=((List.replicate c1.Gates.length false).flatMap encB)) h K47 K49 Iz GQ rfl rfl ((hf_ 35 (List.Mem.head _)).trans rfl) ((hf_ 35 (List.Mem.head _)).trans rfl) hmk.1 rfl (by have:=hmk; omega) (by have:=hmk; omega) (by omega) (fm_rep (enc:=encB) (d:=false) rfl _))) (flc rfl rfl rfl (fun _ _ _ _ hf_ h=>(yN V59 4 h EC)) fln)) (fun hJ=>?_)
  refine rf_all [3] hJ (fun Z w h=>((ST.noF h).sg 6 [0,1,2,3,4])) (fun Z w_4 hz1 hS22=>?_)
  refine rC 32 3 rfl (yc GR (HC x B6 c7 x.length _ rfl (hS22.inn0 [(true,0)] rfl) hc)) ?_ aN
  rintro _ w_5 ⟨B7,c8,rfl,hd⟩
  have hS23:=hS22.out0 hd
  let O34:Ob:=⟨B7,3,(r_2.flatMap encI),c8*1⟩
  have hS24:ST w0 [] _ (O2::O0::O1::O5::O3::O13::O34::(flL [fM 7 36 4 ((List.replicate c1.Gates.length false).flatMap encB) (c1.Gates.length*1) c1.Gates.length c1.Gates.length,fN 10 12 123 V59 4] Z++(D1.map (orow 3 encI 1)))) (R43::R36::R35::⟨B2,(D.flatMap eN3)⟩::((D.flatMap eN4)++((D2.flatMap eN5)++[]))):=ST.rot (pre:=[O2,O0,O1,O5,O3,O13]) (G:=(flL [fM 7 36 4 ((List.replicate c1.Gates.length false).flatMap encB) (c1.Gates.length*1) c1.Gates.length c1.Gates.length,fN 10 12 123 V59 4] Z++(D1.map (orow 3 encI 1)))) (xs:=[O34]) hS23
  refine rf_k (L:=[O2,O0,O1,O5,O3,O13,O34]) hz1 hS24 (fun Z w h=>((ST.noF h).sg 7 [0,1,2,3,4])) ?_
  refine rf_force hJ (fun Z w h=>((ST.noF h).sg 7 [0,1,2,3,4])) (fun b4=>?_)
  refine rf_q 8 37 (v:=.agg #[.slice B7 r_2.length c8,.slice (aD b4) c1.Gates.length c1.Gates.length,vi (-1),.slice none 0 0]) rfl (fun Z w h=>((ST.noF h).sg 8 [0,1,2,3,4])) (fun Z _ q=>(Y_buildS (zs:=V59) (vs:=[(0,.slice B7 r_2.length c8),(1,.slice (aD b4) c1.Gates.length c1.Gates.length),(2,vi (-1))]) (cs:=[.slice B7 r_2.length c8,.slice (aD b4) c1.Gates.length c1.Gates.length,vi (-1),.slice none 0 0]) M9 EC rfl (mpc rfl (mpc rfl (mpc rfl mpn))) rfl)) ?_
  refine rf_all [9] (FlOK.nx hJ) (fun Z w h=>((ST.noF h).sg 8 [0,1,2,3,4])) (fun Z1 w_6 hz2 hS25=>?_)
  let R47:Ro:=⟨B7,(r_2.flatMap encI)⟩
  have ho5:Org w0 [] (R36::R35::⟨B2,(D.flatMap eN3)⟩::((D.flatMap eN4)++[])) [R47]:=ST.orgOwn hS25 (i:=6) rfl
  have hcap2:r_2.length≤c8:=(hS25.lencap (i:=6) rfl (fm_lenn (l:=r_2) encI_len rfl) rfl rfl)
  have hS26:ST w0 [] _ (O2::O0::O1::O5::O3::O13::⟨aD b4,4,((List.replicate c1.Gates.length false).flatMap encB),c1.Gates.length*1⟩::(flL [fN 10 12 123 V59 4] Z1++(D1.map (orow 3 encI 1)))) (R47::R43::R36::R35::⟨B2,(D.flatMap eN3)⟩::((D.flatMap eN4)++((D2.flatMap eN5)++[]))):=hS25.freeze (i:=6) rfl
  have ho6:Org w0 [] (R36::R35::⟨B2,(D.flatMap eN3)⟩::((D.flatMap eN4)++[])) [⟨aD b4,((List.replicate c1.Gates.length false).flatMap encB)⟩]:=ST.orgOwn hS26 (i:=6) rfl
  have hcap3:c1.Gates.length≤c1.Gates.length:=(hS26.lencap (i:=6) rfl (fm_lenn (l:=(List.replicate c1.Gates.length false)) encB_len List.length_replicate) rfl rfl)
  have hS27:ST w0 [] _ (O2::O0::O1::O5::O3::O13::(flL [fN 10 12 123 V59 4] Z1++(D1.map (orow 3 encI 1)))) (⟨aD b4,((List.replicate c1.Gates.length false).flatMap encB)⟩::R47::R43::R36::R35::⟨B2,(D.flatMap eN3)⟩::((D.flatMap eN4)++((D2.flatMap eN5)++[]))):=hS26.freeze (i:=6) rfl
  refine rC 38 9 rfl (yc NA (ML g c1 (Ai.mk r_2 (List.replicate c1.Gates.length false) (-1) []) B c g.Edges.length B1 c2 c1.Gates.length B7 c8 r_2.length (aD b4) c1.Gates.length c1.Gates.length none 0 0 _ rfl rfl rfl hcap2 List.length_replicate rfl (hS27.inn [false,false,false,false,false,true] rfl [(true,3),(true,4),(true,1),(true,0)] rfl) hc1)) ?_ aN
  rintro _ w_7 ⟨B8,c9,B9,c10,B10,c11,rfl,hq,ho1,hd1⟩
  have hS28:=ST.outRG (pre:=[O2,O0,O1,O5,O3,O13]) (G:=(flL [fN 10 12 123 V59 4] Z1++(D1.map (orow 3 encI 1)))) hS27 [false,false,false,false,false,true] rfl hd1 ho1 (sk 3 (sk 4 (sk 1 (sk 0 (fun _ h=>by cases h)))))
  let R44:Ro:=⟨B8,(r_3.place.flatMap encI)⟩
  have ho7:Org w0 [] (R36::R35::⟨B2,(D.flatMap eN3)⟩::((D.flatMap eN4)++[])) [R44]:=org_trans hS27 (msk_mem (mask:=[false,false,false,false,false,true]) rfl) ho1 (org_cons (org_mem (i:=0) rfl) (org_cons (org_mem (i:=1) rfl) (org_cons ho5 (org_cons ho6 org_nil))))
  let O9:Ob:=⟨B10,39,(r_3.steps.flatMap eN2),c11*3⟩
  let O12:Ob:=⟨B9,4,(r_3.done.flatMap encB),c10*1⟩
  have hS29:ST w0 [] _ (O2::O0::O1::O5::O3::O12::O9::(flL [fN 10 12 123 V59 4] Z1++(D1.map (orow 3 encI 1)))) (R44::⟨aD b4,((List.replicate c1.Gates.length false).flatMap encB)⟩::R47::R43::R36::R35::⟨B2,(D.flatMap eN3)⟩::((D.flatMap eN4)++((D2.flatMap eN5)++[]))):=hS28
  refine rf_k (L:=[O2,O0,O1,O5,O3,O12,O9]) hz2 hS29 (fun Z w h=>(((ST.noF h).sg 7 [0,1,2,3,4]).sR 7 [3,4,5,6])) ?_
  refine rf_force (FlOK.nx hJ) (fun Z w h=>(((ST.noF h).sg 7 [0,1,2,3,4]).sR 7 [3,4,5,6])) (fun b5=>?_)
  refine rf_out (fun w_8 hS30=>?_)
  refine rA [11] ?_
  refine rZ 11 rfl (yK 7 4 0 hS30 K62) ?_ aN
  rintro _ w_9 ⟨rfl,hS31⟩
  refine ⟨((hS31.sg 8 [0,1,2,3,4]).sR 7 [3,4,5,6]),?_⟩
  refine ra_done (by kernel_rfl) ?_
  refine cq ?_
  obtain ⟨r_4,hc2,hb⟩:=bI hb
  obtain ⟨x1,hx1,hb⟩:=bI hb
  obtain ⟨⟨B11,c12⟩,hp1⟩:=getI_snd hD1 hx1
  obtain ⟨r_6,hc4,hb⟩:=bI hb
  obtain ⟨hap,hb⟩:=chk_inv hb
  let V57:List Value:=[.slice B8 r_3.place.length c9,.slice B9 r_3.done.length c10,vi r_3.from_,.slice B10 r_3.steps.length c11]
  refine cw_mid (fun f w=>∃ (D3:List (Hd×(List Int))),FF f [(3,pt (aD b) 0),(4,pt (aD b1) 0),(6,pt (aD b2) 0),(8,.slice (aD b3) 3125 3125),(9,.slice B5 list.length c6),(12,pt (aD b5) 0),(23,.slice B2 starts.length c3),(24,vi (starts.length:Int)),(25,vi (i:Int))]∧D3.map Prod.snd=(met.set r_4.toNat (x1++[r_6]))∧D3.length=3125∧ST w0 [] w (O2::O0::O1::⟨aD b3,31,(D3.flatMap eN3),3125*1⟩::O3::⟨aD b5,123,V57,4⟩::O12::O9::(D3.map (orow 3 encI 1))) (R44::⟨aD b4,((List.replicate c1.Gates.length false).flatMap encB)⟩::R47::R43::R36::R35::⟨B2,(D.flatMap eN3)⟩::((D.flatMap eN4)++((D2.flatMap eN5)++[])))) ?_ ?_
  ·skip
   refine ra_start (hS31.se [0,1,2,4,5,6,7]).fn (by kernel_rfl) ?_
   have hS36:=hS31.drew
   have hQ0:=hS36.se [0,1,2,4,5,6,7]
   refine rq 0 39 rfl hQ0 (fun _ q=>(yv rfl (hf.g 8 3)))<|rq 1 40 rfl hQ0 (fun _ q=>(yd (aD b5) 0 0 Fx K16))<|rq 2 41 rfl hQ0 (fun _ q=>(yz 0 K23 (ST.c q 6)))<|rq 4 43 rfl hQ0 (fun _ q=>(yv rfl (hf.g 8 3)))<|rq 5 44 rfl hQ0 (fun _ q=>(yd (aD b5) 0 0 Fx K16)) ?_
   refine rq 6 45 rfl hQ0 (fun _ q=>(yz 0 K23 (ST.c q 6)))<|rq 10 49 rfl hQ0 (fun _ q=>(yd (aD b5) 0 0 K97 K41))<|rq 11 50 rfl hQ0 (fun _ q=>(yz 1 K60 (ST.c q 6))) ?_
   refine rA [3] ?_
   refine rC 42 3 rfl (yc Lh (Lb r_3.place B8 c9 r_3.place.length _ rfl (hS36.inn0 [(true,0)] rfl) hc2)) ?_ aN
   rintro _ w_10 ⟨rfl,hd2⟩
   have hS37:=hS36.out00 hd2
   refine ⟨(hS37.se [0,1,2,4,5,6,7]),?_⟩
   refine rA [7] ?_
   refine rC 46 7 rfl (yc Lh (Lb r_3.place B8 c9 r_3.place.length _ rfl (hS37.inn0 [(true,0)] rfl) hc2)) ?_ aN
   rintro _ w_11 ⟨rfl,hd3⟩
   have hS38:=hS37.out00 hd3
   have hQ1:=hS38.se [0,1,2,4,5,6,7]
   refine ⟨hQ1,?_⟩
   refine rq 8 47 rfl hQ1 (fun _ q=>(yI (aD b3) r_4 K67 K16 (gi_isSome AJ rfl (hS38.c 3) hp1) (getI_nn hp1) (getI_ltI hp1 hl))) ?_
   refine rA [9,12] ?_
   refine ry 48 9 rfl (yz (r_4.toNat*1) K23 (hS38.c 3) rfl rfl (gi_at0 AJ hp1 rfl)) hQ1 ?_ ?_
   ·skip
    refine rA [12] ?_
    refine rC 51 12 rfl (yc Jd (IE r_3.done B9 c10 r_3.done.length _ rfl (hS38.inn0 [(false,5)] rfl) hc4)) ?_ aN
    rintro _ w_12 ⟨rfl,hd4⟩
    have hS39:=hS38.out00 hd4
    refine ⟨(hS39.se [0,1,2,4,5,6,7]),?_⟩
    refine rA [13] ?_
    refine rS 52 13 rfl (yF 1 1 [vi r_6] 1 hS39 K5 K0 K52 rfl (mpc rfl mpn)) ?_ aN
    rintro _ w_13 ⟨b6,rfl,hS40⟩
    let O17:Ob:=⟨aD b6,3,([r_6].flatMap encI),1*1⟩
    have hS41:ST w0 [] _ (O2::O0::O1::O5::O3::O12::O9::⟨aD b5,123,V57,4⟩::O17::(D1.map (orow 3 encI 1))) (R44::⟨aD b4,((List.replicate c1.Gates.length false).flatMap encB)⟩::R47::R43::R36::R35::⟨B2,(D.flatMap eN3)⟩::((D.flatMap eN4)++((D2.flatMap eN5)++[]))):=ST.rot (pre:=[O2,O0,O1,O5,O3,O12,O9,⟨aD b5,123,V57,4⟩]) (G:=(D1.map (orow 3 encI 1))) (xs:=[O17]) hS40
    refine ⟨(hS41.se [0,1,2,4,5,6,7]),?_⟩
    refine rA [14] ?_
    refine rS 53 14 rfl (Ys_appendRow (pre:=[O2,O0,O1,O5,O3,O12,O9,⟨aD b5,123,V57,4⟩,O17]) (D:=D1) (enc:=encI) (s:=1) (by':=8) (i:=r_4) (c:=c12) (k:=1) (B:=B11) (l:=x1) (xs:=[r_6]) hS41 K5 K0 K83 K75 rfl (by decide) rfl rfl rfl hp1 encI_len encI_one (hS41.c 8) rfl (by have:=hap; omega) (by have:=hap; simp only [maxLen]; omega)) ?_ aN
    rintro _ w_14 ⟨B12,c13,rfl,hS42⟩
    refine ⟨(hS42.se [0,1,2,4,5,6,7]),?_⟩
    refine rq 15 54 rfl (hS42.se [0,1,2,4,5,6,7]) (fun _ q=>(yI (aD b3) r_4 K67 K16 (gi_isSome AJ rfl (hS42.c 3) hp1) (getI_nn hp1) (getI_ltI hp1 hl))) ?_
    refine rA [16] ?_
    refine rZ 16 rfl (yS 3 1 (aD b3) 31 (.slice B12 ((x1++[r_6]).length) c13) [.slice B12 ((x1++[r_6]).length) c13] (r_4.toNat*1) ((D1.set r_4.toNat ((B12,c13),(x1++[r_6]))).flatMap eN3) hS42 K16 rfl rfl rfl rfl rfl rfl rfl (gi_fit0 AJ hp1) (gi_set AJ hp1 ((B12,c13),(x1++[r_6])) rfl)) ?_ aN
    rintro _ w_15 ⟨rfl,hS43⟩
    have hD5:List.map Prod.snd (D1.set r_4.toNat ((B12,c13),(x1++[r_6])))=(met.set r_4.toNat (x1++[r_6])):=set_snd hD1 _ _
    refine ⟨(hS43.se [0,1,2,4,5,6,7]),?_⟩
    refine ra_done (by kernel_rfl) ?_
    exact ⟨(D1.set r_4.toNat ((B12,c13),(x1++[r_6]))),(hf.a 3 0 (hf.a 4 1 (hf.a 6 2 (hf.a 8 3 (hf.a 9 4 (fc rfl (hf.a 23 5 (hf.a 24 6 (hf.a 25 7 fn_))))))))),hD5,(set_len _ _ _ hl),(hS43.sg 9 [0,1,2,3,4,7,5,6])⟩
   refine rC 51 12 rfl (yc Jd (IE r_3.done B9 c10 r_3.done.length _ rfl (hS38.inn0 [(false,5)] rfl) hc4)) ?_ aN
   rintro _ w_16 ⟨rfl,hd5⟩
   have hS44:=hS38.out00 hd5
   refine ⟨(hS44.se [0,1,2,4,5,6,7]),?_⟩
   refine rA [9,13] ?_
   refine ry 48 9 rfl (yz (r_4.toNat*1) K23 (hS44.c 3) rfl rfl (gi_at0 AJ hp1 rfl)) (hS44.se [0,1,2,4,5,6,7]) ?_ ?_
   ·skip
    refine rA [13] ?_
    refine rS 52 13 rfl (yF 1 1 [vi r_6] 1 hS44 K5 K0 K52 rfl (mpc rfl mpn)) ?_ aN
    rintro _ w_17 ⟨b6,rfl,hS45⟩
    let O25:Ob:=⟨aD b6,3,([r_6].flatMap encI),1*1⟩
    have hS46:ST w0 [] _ (O2::O0::O1::O5::O3::O12::O9::⟨aD b5,123,V57,4⟩::O25::(D1.map (orow 3 encI 1))) (R44::⟨aD b4,((List.replicate c1.Gates.length false).flatMap encB)⟩::R47::R43::R36::R35::⟨B2,(D.flatMap eN3)⟩::((D.flatMap eN4)++((D2.flatMap eN5)++[]))):=ST.rot (pre:=[O2,O0,O1,O5,O3,O12,O9,⟨aD b5,123,V57,4⟩]) (G:=(D1.map (orow 3 encI 1))) (xs:=[O25]) hS45
    refine ⟨(hS46.se [0,1,2,4,5,6,7]),?_⟩
    refine rA [14] ?_
    refine rS 53 14 rfl (Ys_appendRow (pre:=[O2,O0,O1,O5,O3,O12,O9,⟨aD b5,123,V57,4⟩,O25]) (D:=D1) (enc:=encI) (s:=1) (by':=8) (i:=r_4) (c:=c12) (k:=1) (B:=B11) (l:=x1) (xs:=[r_6]) hS46 K5 K0 K83 K75 rfl (by decide) rfl rfl rfl hp1 encI_len encI_one (hS46.c 8) rfl (by have:=hap; omega) (by have:=hap; simp only [maxLen]; omega)) ?_ aN
    rintro _ w_18 ⟨B12,c13,rfl,hS47⟩
    refine ⟨(hS47.se [0,1,2,4,5,6,7]),?_⟩
    refine rq 15 54 rfl (hS47.se [0,1,2,4,5,6,7]) (fun _ q=>(yI (aD b3) r_4 K67 K16 (gi_isSome AJ rfl (hS47.c 3) hp1) (getI_nn hp1) (getI_ltI hp1 hl))) ?_
    refine rA [16] ?_
    refine rZ 16 rfl (yS 3 1 (aD b3) 31 (.slice B12 ((x1++[r_6]).length) c13) [.slice B12 ((x1++[r_6]).length) c13] (r_4.toNat*1) ((D1.set r_4.toNat ((B12,c13),(x1++[r_6]))).flatMap eN3) hS47 K16 rfl rfl rfl rfl rfl rfl rfl (gi_fit0 AJ hp1) (gi_set AJ hp1 ((B12,c13),(x1++[r_6])) rfl)) ?_ aN
    rintro _ w_19 ⟨rfl,hS48⟩
    have hD6:List.map Prod.snd (D1.set r_4.toNat ((B12,c13),(x1++[r_6])))=(met.set r_4.toNat (x1++[r_6])):=set_snd hD1 _ _
    refine ⟨(hS48.se [0,1,2,4,5,6,7]),?_⟩
    refine ra_done (by kernel_rfl) ?_
    exact ⟨(D1.set r_4.toNat ((B12,c13),(x1++[r_6]))),(hf.a 3 0 (hf.a 4 1 (hf.a 6 2 (hf.a 8 3 (hf.a 9 4 (fc rfl (hf.a 23 5 (hf.a 24 6 (hf.a 25 7 fn_))))))))),hD6,(set_len _ _ _ hl),(hS48.sg 9 [0,1,2,3,4,7,5,6])⟩
   refine rS 52 13 rfl (yF 1 1 [vi r_6] 1 hS44 K5 K0 K52 rfl (mpc rfl mpn)) ?_ aN
   rintro _ w_20 ⟨b6,rfl,hS49⟩
   let O32:Ob:=⟨aD b6,3,([r_6].flatMap encI),1*1⟩
   have hS50:ST w0 [] _ (O2::O0::O1::O5::O3::O12::O9::⟨aD b5,123,V57,4⟩::O32::(D1.map (orow 3 encI 1))) (R44::⟨aD b4,((List.replicate c1.Gates.length false).flatMap encB)⟩::R47::R43::R36::R35::⟨B2,(D.flatMap eN3)⟩::((D.flatMap eN4)++((D2.flatMap eN5)++[]))):=ST.rot (pre:=[O2,O0,O1,O5,O3,O12,O9,⟨aD b5,123,V57,4⟩]) (G:=(D1.map (orow 3 encI 1))) (xs:=[O32]) hS49
   refine ⟨(hS50.se [0,1,2,4,5,6,7]),?_⟩
   refine r1 48 9 rfl (yz (r_4.toNat*1) K23 (hS50.c 3) rfl rfl (gi_at0 AJ hp1 rfl)) (hS50.se [0,1,2,4,5,6,7]) ?_
   refine rA [14] ?_
   refine rS 53 14 rfl (Ys_appendRow (pre:=[O2,O0,O1,O5,O3,O12,O9,⟨aD b5,123,V57,4⟩,O32]) (D:=D1) (enc:=encI) (s:=1) (by':=8) (i:=r_4) (c:=c12) (k:=1) (B:=B11) (l:=x1) (xs:=[r_6]) hS50 K5 K0 K83 K75 rfl (by decide) rfl rfl rfl hp1 encI_len encI_one (hS50.c 8) rfl (by have:=hap; omega) (by have:=hap; simp only [maxLen]; omega)) ?_ aN
   rintro _ w_21 ⟨B12,c13,rfl,hS51⟩
   refine ⟨(hS51.se [0,1,2,4,5,6,7]),?_⟩
   refine rq 15 54 rfl (hS51.se [0,1,2,4,5,6,7]) (fun _ q=>(yI (aD b3) r_4 K67 K16 (gi_isSome AJ rfl (hS51.c 3) hp1) (getI_nn hp1) (getI_ltI hp1 hl))) ?_
   refine rA [16] ?_
   refine rZ 16 rfl (yS 3 1 (aD b3) 31 (.slice B12 ((x1++[r_6]).length) c13) [.slice B12 ((x1++[r_6]).length) c13] (r_4.toNat*1) ((D1.set r_4.toNat ((B12,c13),(x1++[r_6]))).flatMap eN3) hS51 K16 rfl rfl rfl rfl rfl rfl rfl (gi_fit0 AJ hp1) (gi_set AJ hp1 ((B12,c13),(x1++[r_6])) rfl)) ?_ aN
   rintro _ w_22 ⟨rfl,hS52⟩
   have hD7:List.map Prod.snd (D1.set r_4.toNat ((B12,c13),(x1++[r_6])))=(met.set r_4.toNat (x1++[r_6])):=set_snd hD1 _ _
   refine ⟨(hS52.se [0,1,2,4,5,6,7]),?_⟩
   refine ra_done (by kernel_rfl) ?_
   exact ⟨(D1.set r_4.toNat ((B12,c13),(x1++[r_6]))),(hf.a 3 0 (hf.a 4 1 (hf.a 6 2 (hf.a 8 3 (hf.a 9 4 (fc rfl (hf.a 23 5 (hf.a 24 6 (hf.a 25 7 fn_))))))))),hD7,(set_len _ _ _ hl),(hS52.sg 9 [0,1,2,3,4,7,5,6])⟩
  rintro f w ⟨D3,hf1,hD4,hl1,hS35⟩
  refine cr ?_
  refine sQ 55 (yv rfl (hf1.g 9 4))<|sQ 56 (yw 0 IF K62 (hS35.c 5) rfl (hf1.g 12 5)) ?_
  let R52:Ro:=⟨B9,(r_3.done.flatMap encB)⟩
  have ho8:Org w0 [] (R36::R35::⟨B2,(D.flatMap eN3)⟩::((D.flatMap eN4)++[])) [R52]:=ST.orgOwn hS35 (i:=6) rfl
  have hcap4:r_3.done.length≤c10:=(hS35.lencap (i:=6) rfl (fm_lenn (l:=r_3.done) encB_len rfl) rfl rfl)
  let O19:Ob:=⟨aD b3,31,(D3.flatMap eN3),3125*1⟩
  have hS53:ST w0 [] _ (O2::O0::O1::O19::O3::⟨aD b5,123,V57,4⟩::O9::(D3.map (orow 3 encI 1))) (R52::R44::⟨aD b4,((List.replicate c1.Gates.length false).flatMap encB)⟩::R47::R43::R36::R35::⟨B2,(D.flatMap eN3)⟩::((D.flatMap eN4)++((D2.flatMap eN5)++[]))):=hS35.freeze (i:=6) rfl
  let R54:Ro:=⟨B10,(r_3.steps.flatMap eN2)⟩
  have ho9:Org w0 [] (R36::R35::⟨B2,(D.flatMap eN3)⟩::((D.flatMap eN4)++[])) [R54]:=ST.orgOwn hS53 (i:=6) rfl
  have hcap5:r_3.steps.length≤c11:=(hS53.lencap (i:=6) rfl (fm_lenn (l:=r_3.steps) A5 rfl) rfl rfl)
  have hS54:ST w0 [] _ (O2::O0::O1::O19::O3::⟨aD b5,123,V57,4⟩::(D3.map (orow 3 encI 1))) (R54::R52::R44::⟨aD b4,((List.replicate c1.Gates.length false).flatMap encB)⟩::R47::R43::R36::R35::⟨B2,(D.flatMap eN3)⟩::((D.flatMap eN4)++((D2.flatMap eN5)++[]))):=hS53.freeze (i:=6) rfl
  refine sS 57 (yF 4 1 V57 4 hS54 K77 K62 M3 rfl (mpc rfl mpn)) ?_
  rintro _ w_23 ⟨b7,rfl,hS55⟩
  have hS56:ST w0 [] _ (O2::O0::O1::O19::O3::⟨aD b5,123,V57,4⟩::⟨aD b7,123,(([(((B8,c9),(B9,c10),(B10,c11)),r_3)]:List ((Hd×Hd×Hd)×Ai)).flatMap eN6),1*4⟩::(D3.map (orow 3 encI 1))) (R54::R52::R44::⟨aD b4,((List.replicate c1.Gates.length false).flatMap encB)⟩::R47::R43::R36::R35::⟨B2,(D.flatMap eN3)⟩::((D.flatMap eN4)++((D2.flatMap eN5)++[]))):=ST.rot (pre:=[O2,O0,O1,O19,O3,⟨aD b5,123,V57,4⟩]) (G:=(D3.map (orow 3 encI 1))) (xs:=[⟨aD b7,123,(([(((B8,c9),(B9,c10),(B10,c11)),r_3)]:List ((Hd×Hd×Hd)×Ai)).flatMap eN6),1*4⟩]) hS55
  have hm1:∀ r∈(([(((B8,c9),(B9,c10),(B10,c11)),r_3)]:List ((Hd×Hd×Hd)×Ai)).flatMap eN5),r∈((R54::R52::R44::⟨aD b4,((List.replicate c1.Gates.length false).flatMap encB)⟩::R47::R43::R36::R35::⟨B2,(D.flatMap eN3)⟩::((D.flatMap eN4)++((D2.flatMap eN5)++[]))):List Ro):=(fsub_cons (sk 2 (sk 1 (sk 0 (fun _ h=>by cases h)))) fsub_nil)
  have ho10:Org w0 [] (R36::R35::⟨B2,(D.flatMap eN3)⟩::((D.flatMap eN4)++[])) (([(((B8,c9),(B9,c10),(B10,c11)),r_3)]:List ((Hd×Hd×Hd)×Ai)).flatMap eN5):=(forg_cons (org_cons (org_sub ho7 (sk 0 (fun _ h=>by cases h))) (org_cons ho8 (org_cons ho9 org_nil))) forg_nil)
  have hS57:ST w0 [] _ (O2::O0::O1::O19::⟨B5,123,(D2.flatMap eN6),c6*4⟩::⟨aD b5,123,V57,4⟩::⟨aD b7,123,(([(((B8,c9),(B9,c10),(B10,c11)),r_3)]:List ((Hd×Hd×Hd)×Ai)).flatMap eN6),1*4⟩::(D3.map (orow 3 encI 1))) (R54::R52::R44::⟨aD b4,((List.replicate c1.Gates.length false).flatMap encB)⟩::R47::R43::R36::R35::⟨B2,(D.flatMap eN3)⟩::((([(((B8,c9),(B9,c10),(B10,c11)),r_3)]:List ((Hd×Hd×Hd)×Ai)).flatMap eN5)++((D.flatMap eN4)++((D2.flatMap eN5)++[])))):=ST.subR hS56 (sk 0 (sk 1 (sk 2 (sk 3 (sk 4 (sk 5 (sk 6 (sk 7 (sk 8 (suba hm1 (suba (fun r_ (h:r_∈((D.flatMap eN4):List Ro))=>mOd (i:=9) (show r_∈((((D.flatMap eN4)++((D2.flatMap eN5)++[]))):List Ro) from mAl _ h)) (suba (fun r_ (h:r_∈((D2.flatMap eN5):List Ro))=>mOd (i:=9) (show r_∈((((D.flatMap eN4)++((D2.flatMap eN5)++[]))):List Ro) from mAr _ (mAl _ h))) (fun _ h=>by cases h)))))))))))))
  obtain ⟨hap1,hb⟩:=chk_inv hb
  refine sS 58 (Ys_append (s:=4) (by':=80) (i:=4) (nn:=list.length) (c:=c6) (k:=1) (len:=(list++([r_3]:List Ai)).length) (B:=B5) (xs:=(([(((B8,c9),(B9,c10),(B10,c11)),r_3)]:List ((Hd×Hd×Hd)×Ai)).flatMap eN6)) (cs':=((D2++([(((B8,c9),(B9,c10),(B10,c11)),r_3)]:List ((Hd×Hd×Hd)×Ai))).flatMap eN6)) hS57 K77 K62 LJ EC rfl (by decide) rfl rfl rfl rfl (fm_lenn (l:=D2) Bz (dl_len hD2)) rfl (hS57.c 6) (fm_lenn (l:=([(((B8,c9),(B9,c10),(B10,c11)),r_3)]:List ((Hd×Hd×Hd)×Ai))) Bz rfl) (fm_one' (enc:=eN6) Lw ([(((B8,c9),(B9,c10),(B10,c11)),r_3)]:List ((Hd×Hd×Hd)×Ai))) (by have:=hap1; omega) (by have:=hap1; simp only [maxLen]; omega) (fm_app _ _) (dl_sum (dl_len hD2) rfl (dl_app hD2 (show List.map Prod.snd ([(((B8,c9),(B9,c10),(B10,c11)),r_3)]:List ((Hd×Hd×Hd)×Ai))=([r_3]:List Ai) from rfl)))) ?_
  rintro _ w_24 ⟨B13,c14,rfl,hS58⟩
  have ho11:Org w0 [] (R36::R35::⟨B2,(D.flatMap eN3)⟩::((D.flatMap eN4)++[])) ((D2++([(((B8,c9),(B9,c10),(B10,c11)),r_3)]:List ((Hd×Hd×Hd)×Ai))).flatMap eN5):=(forg_app ho ho10)
  have hS59:ST w0 [] _ (O2::O0::O1::O19::⟨B13,123,((D2++([(((B8,c9),(B9,c10),(B10,c11)),r_3)]:List ((Hd×Hd×Hd)×Ai))).flatMap eN6),c14*4⟩::⟨aD b5,123,[.slice B8 r_3.place.length c9,.slice B9 r_3.done.length c10,vi r_3.from_,.slice B10 r_3.steps.length c11],4⟩::⟨aD b7,123,(([(((B8,c9),(B9,c10),(B10,c11)),r_3)]:List ((Hd×Hd×Hd)×Ai)).flatMap eN6),1*4⟩::(D3.map (orow 3 encI 1))) (⟨B10,(r_3.steps.flatMap eN2)⟩::⟨B9,(r_3.done.flatMap encB)⟩::⟨B8,(r_3.place.flatMap encI)⟩::⟨aD b4,((List.replicate c1.Gates.length false).flatMap encB)⟩::R47::R43::R36::R35::⟨B2,(D.flatMap eN3)⟩::(((D2++([(((B8,c9),(B9,c10),(B10,c11)),r_3)]:List ((Hd×Hd×Hd)×Ai))).flatMap eN5)++((([(((B8,c9),(B9,c10),(B10,c11)),r_3)]:List ((Hd×Hd×Hd)×Ai)).flatMap eN5)++((D.flatMap eN4)++[])))):=ST.subR hS58 (sk 0 (sk 1 (sk 2 (sk 3 (sk 4 (sk 5 (sk 6 (sk 7 (sk 8 (suba (fsub_app (fun r_ (h:r_∈((D2.flatMap eN5):List Ro))=>mOd (i:=9) (show r_∈((((([(((B8,c9),(B9,c10),(B10,c11)),r_3)]:List ((Hd×Hd×Hd)×Ai)).flatMap eN5)++((D.flatMap eN4)++((D2.flatMap eN5)++[])))):List Ro) from mAr _ (mAr _ (mAl _ h)))) (fun r_ (h:r_∈((([(((B8,c9),(B9,c10),(B10,c11)),r_3)]:List ((Hd×Hd×Hd)×Ai)).flatMap eN5):List Ro))=>mOd (i:=9) (show r_∈((((([(((B8,c9),(B9,c10),(B10,c11)),r_3)]:List ((Hd×Hd×Hd)×Ai)).flatMap eN5)++((D.flatMap eN4)++((D2.flatMap eN5)++[])))):List Ro) from mAl _ h))) (suba (fun r_ (h:r_∈((([(((B8,c9),(B9,c10),(B10,c11)),r_3)]:List ((Hd×Hd×Hd)×Ai)).flatMap eN5):List Ro))=>mOd (i:=9) (show r_∈((((([(((B8,c9),(B9,c10),(B10,c11)),r_3)]:List ((Hd×Hd×Hd)×Ai)).flatMap eN5)++((D.flatMap eN4)++((D2.flatMap eN5)++[])))):List Ro) from mAl _ h)) (suba (fun r_ (h:r_∈((D.flatMap eN4):List Ro))=>mOd (i:=9) (show r_∈((((([(((B8,c9),(B9,c10),(B10,c11)),r_3)]:List ((Hd×Hd×Hd)×Ai)).flatMap eN5)++((D.flatMap eN4)++((D2.flatMap eN5)++[])))):List Ro) from mAr _ (mAl _ h))) (fun _ h=>by cases h)))))))))))))
  refine sQ 9 yu (rn (cr ?_))
  refine sQ 59 (zP rfl (hf1.g 25 8))<|sQ 25 yv (rn ?_)
  obtain rfl:=sI hb
  have hS60:ST w0 [] _ (O2::O0::O1::O19::⟨B13,123,((D2++([(((B8,c9),(B9,c10),(B10,c11)),r_3)]:List ((Hd×Hd×Hd)×Ai))).flatMap eN6),c14*4⟩::⟨aD b5,123,[.slice B8 r_3.place.length c9,.slice B9 r_3.done.length c10,vi r_3.from_,.slice B10 r_3.steps.length c11],4⟩::⟨aD b7,123,(([(((B8,c9),(B9,c10),(B10,c11)),r_3)]:List ((Hd×Hd×Hd)×Ai)).flatMap eN6),1*4⟩::(D3.map (orow 3 encI 1))) (R36::R35::⟨B2,(D.flatMap eN3)⟩::((D.flatMap eN4)++(((D2++([(((B8,c9),(B9,c10),(B10,c11)),r_3)]:List ((Hd×Hd×Hd)×Ai))).flatMap eN5)++[]))):=ST.subR hS59 (sk 6 (sk 7 (sk 8 (suba (fun r_ (h:r_∈((D.flatMap eN4):List Ro))=>mOd (i:=9) (show r_∈(((((D2++([(((B8,c9),(B9,c10),(B10,c11)),r_3)]:List ((Hd×Hd×Hd)×Ai))).flatMap eN5)++((([(((B8,c9),(B9,c10),(B10,c11)),r_3)]:List ((Hd×Hd×Hd)×Ai)).flatMap eN5)++((D.flatMap eN4)++[])))):List Ro) from mAr _ (mAr _ (mAl _ h)))) (suba (fun r_ (h:r_∈(((D2++([(((B8,c9),(B9,c10),(B10,c11)),r_3)]:List ((Hd×Hd×Hd)×Ai))).flatMap eN5):List Ro))=>mOd (i:=9) (show r_∈(((((D2++([(((B8,c9),(B9,c10),(B10,c11)),r_3)]:List ((Hd×Hd×Hd)×Ai))).flatMap eN5)++((([(((B8,c9),(B9,c10),(B10,c11)),r_3)]:List ((Hd×Hd×Hd)×Ai)).flatMap eN5)++((D.flatMap eN4)++[])))):List Ro) from mAl _ h)) (fun _ h=>by cases h))))))
  exact ⟨K2,Nat.lt_succ_self _,i+1,(met.set r_4.toNat (x1++[r_6])),(list++([r_3]:List Ai)),D3,B13,c14,(D2++([(((B8,c9),(B9,c10),(B10,c11)),r_3)]:List ((Hd×Hd×Hd)×Ai))),(hf1.a 3 0 (hf1.a 4 1 (hf1.a 6 2 (hf1.a 8 3 (fc rfl (hf1.a 23 6 (hf1.a 24 7 (fc (congrArg (Value.int .i64) (wr_succ hlt1 hN)) fn_)))))))),hD4,hl1,(dl_app hD2 (show List.map Prod.snd ([(((B8,c9),(B9,c10),(B10,c11)),r_3)]:List ((Hd×Hd×Hd)×Ai))=([r_3]:List Ai) from rfl)),ho11,(hS60.sg 7 [0,1,2,3,4]),(by omega),hL1⟩
 ·skip
  obtain rfl:k_=0:=by have h:=of_decide_eq_false hlt; omega
  refine cw_exit rfl ?_
  obtain rfl:=sI hL
  refine cq (cr ?_)
  refine sQ 60 (yd (aD b1) 0 0 K19 K15 rfl (hf.g 4 1))<|sQ 61 (yz 1 K21 (hS6.c 1))<|sQ 62 (Y_len K12 rfl rfl)<|sQ 63 (Y_conv (k:=.i64) (a:=(c1.Gates.length:Int)) (T:=3) (T':=127) Kx PC rfl rfl) ?_
  obtain ⟨hsh,hF1⟩:=chk_inv hF1
  refine sQ 64 (Y_shl (k:=.i64) (a:=1) (k':=.u64) (b:=(IntKind.u64.wrap (c1.Gates.length:Int))) rfl rfl rfl hsh)<|sQ 65 zM<|sQ 13 yu (rn (cq (cq (cr ?_))))
  refine sQ 14 yu (rn ?_)
  obtain ⟨z1,hz3,hF2⟩:=bI hF1
  refine cw_block ?_
  refine cw_loop (fun k f w=>∃ (met1:List (List Int)) (list1:List Ai) (i3:Int) (D4:List (Hd×(List Int))) (B14:Option Addr) (c15:Nat) (D5:List ((Hd×Hd×Hd)×Ai)),FF f [(3,pt (aD b) 0),(4,pt (aD b1) 0),(6,pt (aD b2) 0),(8,.slice (aD b3) 3125 3125),(9,.slice B14 list1.length c15),(13,vi (i64.wrap ((shlK .i64 1 (IntKind.u64.wrap (c1.Gates.length:Int)))-1))),(14,vi i3)]∧D4.map Prod.snd=met1∧D4.length=3125∧D5.map Prod.snd=list1∧Org w0 [] (R36::R35::⟨B2,(D.flatMap eN3)⟩::((D.flatMap eN4)++[])) (D5.flatMap eN5)∧ST w0 [] w (O2::O0::O1::⟨aD b3,31,(D4.flatMap eN3),3125*1⟩::⟨B14,123,(D5.flatMap eN6),c15*4⟩::(D4.map (orow 3 encI 1))) (R36::R35::⟨B2,(D.flatMap eN3)⟩::((D.flatMap eN4)++((D5.flatMap eN5)++[])))∧whX (BY c1 g) k (met1,list1,i3)=some z1) fuel ⟨met,list,0,D1,B5,c6,D2,(hf.a 3 0 (hf.a 4 1 (hf.a 6 2 (hf.a 8 3 (hf.a 9 4 (fc rfl (fc rfl fn_))))))),hD1,hl,hD2,ho,(hS6.sg 5 [0,1,2,3,4]),hz3⟩ ?_
  rintro K11 f w ⟨met1,list1,i3,D4,B14,c15,D5,hf2,hD8,hl2,hD9,ho12,hS61,hL2⟩
  obtain ⟨K22,y1,rfl,hb1,hL3⟩:=whX_go hL2
  unfold BY at hb1
  refine cq (cq (cr ?_))
  refine sQ 66 (yv rfl (hf2.g 14 6))<|sQ 67 (yv rfl (hf2.g 9 4))<|sQ 68 (Y_len K77 rfl rfl)<|sQ 69 zL (rn ?_)
  refine cw_cond rfl (fun hb2=>?_) (fun hb2=>?_)
  ·skip
   have hF3:=ct hb1 hb2
   refine cw_skip (cq (cw_block (cq (cq (cr ?_)))))
   refine sQ 72 (yv rfl (hf2.g 9 4))<|sQ 73 (yv rfl (hf2.g 14 6)) ?_
   obtain ⟨x2,hx2,hF3⟩:=bI hF3
   obtain ⟨⟨⟨B15,c16⟩,⟨B16,c17⟩,⟨B17,c18⟩⟩,hp2⟩:=getI_snd hD9 hx2
   refine sQ 74 (yI B14 i3 K77 K62 (gi_isSome Bz rfl (hS61.c 4) hp2) (getI_nn hp2) (getI_ltI hp2 (dl_len hD9)))<|sQ 75 (yd B14 (i3.toNat*4) 0 K97 K41) ?_
   let R37:Ro:=⟨B15,(x2.place.flatMap encI)⟩
   have hm2:(R37:Ro)∈((R36::R35::⟨B2,(D.flatMap eN3)⟩::((D.flatMap eN4)++((D5.flatMap eN5)++[]))):List Ro):=app_mem (fun r_ (h:r_∈((D5.flatMap eN5):List Ro))=>mOd (i:=3) (show r_∈((((D.flatMap eN4)++((D5.flatMap eN5)++[]))):List Ro) from mAr _ (mAl _ h))) (row_mem (rw_:=eN5) hp2 _ (mt 0))
   let O10:Ob:=⟨aD b3,31,(D4.flatMap eN3),3125*1⟩
   let O11:Ob:=⟨B14,123,(D5.flatMap eN6),c15*4⟩
   let P63:List Ob:=(O2::O0::O1::O10::O11::(D4.map (orow 3 encI 1)))
   have hS62:ST w0 [] _ P63 (R37::R36::R35::⟨B2,(D.flatMap eN3)⟩::((D.flatMap eN4)++((D5.flatMap eN5)++[]))):=ST.subR hS61 (subc hm2 (fun _ h=>h))
   let R38:Ro:=⟨B16,(x2.done.flatMap encB)⟩
   have hm3:(R38:Ro)∈((R37::R36::R35::⟨B2,(D.flatMap eN3)⟩::((D.flatMap eN4)++((D5.flatMap eN5)++[]))):List Ro):=app_mem (fun r_ (h:r_∈((D5.flatMap eN5):List Ro))=>mOd (i:=4) (show r_∈((((D.flatMap eN4)++((D5.flatMap eN5)++[]))):List Ro) from mAr _ (mAl _ h))) (row_mem (rw_:=eN5) hp2 _ (mt 1))
   have hS63:ST w0 [] _ P63 (R38::R37::R36::R35::⟨B2,(D.flatMap eN3)⟩::((D.flatMap eN4)++((D5.flatMap eN5)++[]))):=ST.subR hS62 (subc hm3 (fun _ h=>h))
   let R39:Ro:=⟨B17,(x2.steps.flatMap eN2)⟩
   have hm4:(R39:Ro)∈((R38::R37::R36::R35::⟨B2,(D.flatMap eN3)⟩::((D.flatMap eN4)++((D5.flatMap eN5)++[]))):List Ro):=app_mem (fun r_ (h:r_∈((D5.flatMap eN5):List Ro))=>mOd (i:=5) (show r_∈((((D.flatMap eN4)++((D5.flatMap eN5)++[]))):List Ro) from mAr _ (mAl _ h))) (row_mem (rw_:=eN5) hp2 _ (mt 2))
   have hS64:ST w0 [] _ P63 (R39::R38::R37::R36::R35::⟨B2,(D.flatMap eN3)⟩::((D.flatMap eN4)++((D5.flatMap eN5)++[]))):=ST.subR hS63 (subc hm4 (fun _ h=>h))
   refine sQ 76 (yz (i3.toNat*4+1) K60 (hS64.c 4) rfl rfl (gi_at Bz hp2 rfl)) ?_
   obtain ⟨r_7,hc5,hF3⟩:=bI hF3
   refine sc 77 rfl rfl (yc Jd (IE x2.done B16 c17 x2.done.length _ rfl (hS64.inn0 [(true,1)] rfl) hc5)) ?_
   rintro _ w_25 ⟨rfl,hd6⟩
   have hS65:=hS64.out00 hd6
   refine sQ 78 (yv rfl (hf2.g 13 5))<|sQ 79 zE (rn ?_)
   refine cw_cond rfl (fun hb3=>?_) (fun hb3=>?_)
   ·skip
    have hF4:=ct hF3 hb3
    refine cq (cr ?_)
    refine sS 15 (yN V61 2 hS65 K61) ?_
    rintro _ w_26 ⟨b8,rfl,hS66⟩
    let O21:Ob:=⟨aD b8,34,V61,2⟩
    have hS67:ST w0 [] _ (O2::O0::O1::O10::O11::O21::(D4.map (orow 3 encI 1))) (R39::R38::R37::R36::R35::⟨B2,(D.flatMap eN3)⟩::((D.flatMap eN4)++((D5.flatMap eN5)++[]))):=ST.rot (pre:=[O2,O0,O1,O10,O11]) (G:=(D4.map (orow 3 encI 1))) (xs:=[O21]) hS66
    refine rn (cq (cq (cr ?_)))
    refine sQ 80 (yv rfl (hf2.g 14 6))<|sQ 16 yu (rn ?_)
    obtain ⟨z2,hz4,hF5⟩:=bI hF4
    have hS69:=hS67.addNil 3
    let O23:Ob:=⟨none,3,([].flatMap encI),0*1⟩
    have hS70:ST w0 [] _ (O2::O0::O1::O10::O11::O21::O23::(D4.map (orow 3 encI 1))) (R39::R38::R37::R36::R35::⟨B2,(D.flatMap eN3)⟩::((D.flatMap eN4)++((D5.flatMap eN5)++[]))):=ST.rot (pre:=[O2,O0,O1,O10,O11,O21]) (G:=(D4.map (orow 3 encI 1))) (xs:=[O23]) hS69
    have hS71:=hS70.addNil 39
    have hS72:ST w0 [] _ (O2::O0::O1::O10::O11::O21::O23::⟨none,39,([].flatMap eN2),0*3⟩::(D4.map (orow 3 encI 1))) (R39::R38::R37::R36::R35::⟨B2,(D.flatMap eN3)⟩::((D.flatMap eN4)++((D5.flatMap eN5)++[]))):=ST.rot (pre:=[O2,O0,O1,O10,O11,O21,O23]) (G:=(D4.map (orow 3 encI 1))) (xs:=[⟨none,39,([].flatMap eN2),0*3⟩]) hS71
    refine cw_block ?_
    refine cw_loop (fun k f w=>∃ (Start:List Int) (Steps:List Ak) (K4:Int) (D6:List ((Hd×Hd×Hd)×Ai)) (B18:Option Addr) (c19:Nat) (B19:Option Addr) (c20:Nat),FF f [(6,pt (aD b2) 0),(9,.slice B14 list1.length c15),(15,pt (aD b8) 0),(16,vi K4)]∧D6.map Prod.snd=list1∧Org w0 [] (R36::R35::⟨B2,(D.flatMap eN3)⟩::((D.flatMap eN4)++[])) (D6.flatMap eN5)∧ST w0 [] w [O1,⟨B14,123,(D6.flatMap eN6),c15*4⟩,⟨aD b8,34,[.slice B18 Start.length c19,.slice B19 Steps.length c20],2⟩,⟨B18,3,(Start.flatMap encI),c19*1⟩,⟨B19,39,(Steps.flatMap eN2),c20*3⟩] (R39::R38::R37::R36::R35::⟨B2,(D.flatMap eN3)⟩::((D.flatMap eN4)++((D6.flatMap eN5)++[])))∧whX (Dk list1) k (Start,Steps,K4)=some z2) fuel ⟨[],[],i3,D5,none,0,none,0,(hf2.a 6 2 (hf2.a 9 4 (fc rfl (fc rfl fn_)))),hD9,ho12,(hS72.sel [2,4,5,6,7] rfl rfl),hz4⟩ ?_
    rintro K102 f w ⟨Start,Steps,K4,D6,B18,c19,B19,c20,hf3,hD10,ho13,hS68,hL4⟩
    obtain ⟨K145,y2,rfl,hb4,hL5⟩:=whX_go hL4
    unfold Dk at hb4
    refine cq (cq (cr ?_))
    refine sQ 81 (yv rfl (hf3.g 16 3))<|sQ 82 (Y_ge rfl rfl rfl) (rn ?_)
    refine cw_cond rfl (fun hb5=>?_) (fun hb5=>?_)
    ·skip
     have hF6:=ct hb4 hb5
     refine cw_skip (cq (cw_block (cq (cr ?_))))
     refine sQ 88 (yv rfl (hf3.g 9 1))<|sQ 89 (yv rfl (hf3.g 16 3)) ?_
     obtain ⟨x3,hx3,hF6⟩:=bI hF6
     obtain ⟨⟨⟨B20,c21⟩,⟨B21,c22⟩,⟨B22,c23⟩⟩,hp3⟩:=getI_snd hD10 hx3
     refine sQ 90 (yI B14 K4 K77 K62 (gi_isSome Bz rfl (hS68.c 1) hp3) (getI_nn hp3) (getI_ltI hp3 (dl_len hD10)))<|sQ 91 (yd B14 (K4.toNat*4) 0 Fx K16) ?_
     let R41:Ro:=⟨B20,(x3.place.flatMap encI)⟩
     have hm5:(R41:Ro)∈((R39::R38::R37::R36::R35::⟨B2,(D.flatMap eN3)⟩::((D.flatMap eN4)++((D6.flatMap eN5)++[]))):List Ro):=app_mem (fun r_ (h:r_∈((D6.flatMap eN5):List Ro))=>mOd (i:=6) (show r_∈((((D.flatMap eN4)++((D6.flatMap eN5)++[]))):List Ro) from mAr _ (mAl _ h))) (row_mem (rw_:=eN5) hp3 _ (mt 0))
     let O16:Ob:=⟨B14,123,(D6.flatMap eN6),c15*4⟩
     let O22:Ob:=⟨aD b8,34,[.slice B18 Start.length c19,.slice B19 Steps.length c20],2⟩
     let O27:Ob:=⟨B18,3,(Start.flatMap encI),c19*1⟩
     let O28:Ob:=⟨B19,39,(Steps.flatMap eN2),c20*3⟩
     have hS73:ST w0 [] _ [O1,O16,O22,O27,O28] (R41::R39::R38::R37::R36::R35::⟨B2,(D.flatMap eN3)⟩::((D.flatMap eN4)++((D6.flatMap eN5)++[]))):=ST.subR hS68 (subc hm5 (fun _ h=>h))
     let R45:Ro:=⟨B21,(x3.done.flatMap encB)⟩
     have hm6:(R45:Ro)∈((R41::R39::R38::R37::R36::R35::⟨B2,(D.flatMap eN3)⟩::((D.flatMap eN4)++((D6.flatMap eN5)++[]))):List Ro):=app_mem (fun r_ (h:r_∈((D6.flatMap eN5):List Ro))=>mOd (i:=7) (show r_∈((((D.flatMap eN4)++((D6.flatMap eN5)++[]))):List Ro) from mAr _ (mAl _ h))) (row_mem (rw_:=eN5) hp3 _ (mt 1))
     have hS74:ST w0 [] _ [O1,O16,O22,O27,O28] (R45::R41::R39::R38::R37::R36::R35::⟨B2,(D.flatMap eN3)⟩::((D.flatMap eN4)++((D6.flatMap eN5)++[]))):=ST.subR hS73 (subc hm6 (fun _ h=>h))
     let R48:Ro:=⟨B22,(x3.steps.flatMap eN2)⟩
     have hm7:(R48:Ro)∈((R45::R41::R39::R38::R37::R36::R35::⟨B2,(D.flatMap eN3)⟩::((D.flatMap eN4)++((D6.flatMap eN5)++[]))):List Ro):=app_mem (fun r_ (h:r_∈((D6.flatMap eN5):List Ro))=>mOd (i:=8) (show r_∈((((D.flatMap eN4)++((D6.flatMap eN5)++[]))):List Ro) from mAr _ (mAl _ h))) (row_mem (rw_:=eN5) hp3 _ (mt 2))
     have hS75:ST w0 [] _ [O1,O16,O22,O27,O28] (R48::R45::R41::R39::R38::R37::R36::R35::⟨B2,(D.flatMap eN3)⟩::((D.flatMap eN4)++((D6.flatMap eN5)++[]))):=ST.subR hS74 (subc hm7 (fun _ h=>h))
     refine sQ 92 (yz (K4.toNat*4+0) K23 (hS75.c 1) rfl rfl (gi_at Bz hp3 rfl)) ?_
     obtain ⟨r_8,hc6,hF6⟩:=bI hF6
     refine sc 93 rfl rfl (yc GR (HC x3.place B20 c21 x3.place.length _ rfl (hS75.inn0 [(true,2)] rfl) hc6)) ?_
     rintro _ w_27 ⟨B23,c24,rfl,hd7⟩
     have hS76:=hS75.out0 hd7
     refine sQ 94 (yd (aD b8) 0 0 K90 K16 rfl (hf3.g 15 2)) ?_
     refine s0 (yS 2 1 (aD b8) 34 (.slice B23 r_8.length c24) [.slice B23 r_8.length c24] 0 [.slice B23 r_8.length c24,.slice B19 Steps.length c20] hS76 K16) ?_
     rintro _ w_28 ⟨rfl,hS77⟩
     refine rn ?_
     obtain ⟨hap2,hF6⟩:=chk_inv hF6
     obtain ⟨hap3,hF6⟩:=chk_inv hF6
     let O26:Ob:=⟨B23,3,(r_8.flatMap encI),c24*1⟩
     refine cw_mid (fun f w=>∃ (B26:Option Addr) (c27:Nat),FF f [(6,pt (aD b2) 0),(9,.slice B14 list1.length c15),(15,pt (aD b8) 0),(16,vi K4)]∧ST w0 [] w [O1,O16,⟨aD b8,34,[.slice B23 r_8.length c24,.slice B26 ((x3.steps++Steps).length) c27],2⟩,O26,⟨B26,39,((x3.steps++Steps).flatMap eN2),c27*3⟩] (R48::R45::R41::R39::R38::R37::R36::R35::⟨B2,(D.flatMap eN3)⟩::((D.flatMap eN4)++((D6.flatMap eN5)++[])))) ?_ ?_
     ·skip
      refine ra_start (hS77.se [0,1,3,4,5]).fn (by kernel_rfl) ?_
      have hS79:=hS77.drew
      have hQ2:=hS79.se [0,1,3,4,5]
      refine rq 1 96 rfl hQ2 (fun _ q=>(yv rfl (hf3.g 9 1)))<|rq 2 97 rfl hQ2 (fun _ q=>(yv rfl (hf3.g 16 3)))<|rq 3 98 rfl hQ2 (fun _ q=>(yI B14 K4 K77 K62 (gi_isSome Bz rfl (ST.c q 1) hp3) (getI_nn hp3) (getI_ltI hp3 (dl_len hD10))))<|rq 4 99 rfl hQ2 (fun _ q=>(yd B14 (K4.toNat*4) 0 JZ K36))<|rq 5 100 rfl hQ2 (fun _ q=>(yz (K4.toNat*4+3) K55 (ST.c q 1) rfl rfl (gi_at Bz hp3 rfl))) ?_
      refine rq 7 102 rfl hQ2 (fun _ q=>(yd (aD b8) 0 0 K71 K36 rfl (hf3.g 15 2))) ?_
      refine rA [0,8] ?_
      refine rS 95 0 rfl (Ys_bslice0 (s:=3) (e:=39) hS79 K31 K26 rfl) ?_ ?_
      ·rintro _ w_29 ⟨b9,rfl,hS80⟩
       refine ⟨(hS80.se [0,1,3,4,5]),?_⟩
       refine rA [6,8] ?_
       refine rS 101 6 rfl (Ys_append (s:=3) (by':=24) (i:=6) (nn:=0) (c:=0) (k:=x3.steps.length) (len:=x3.steps.length) (B:=aD b9) (xs:=(x3.steps.flatMap eN2)) (cs':=(x3.steps.flatMap eN2)) hS80 K31 K26 K84 K56 rfl (by decide) rfl rfl rfl rfl (fm_lenn (l:=[]) A5 rfl) rfl (hS80.rf (i:=0) rfl) (fm_lenn (l:=x3.steps) A5 rfl) (fm_one' (enc:=eN2) C8 x3.steps) (by have:=hap2; omega) (by have:=hap2; simp only [maxLen]; omega) rfl (app_len0 (l:=x3.steps) rfl)) ?_ ?_
       ·rintro _ w_30 ⟨B24,c25,rfl,hS81⟩
        have hS81:ST w0 [] _ [O1,O16,⟨aD b8,34,[.slice B23 r_8.length c24,.slice B19 Steps.length c20],2⟩,O27,O28,O26,⟨B24,39,(x3.steps.flatMap eN2),c25*3⟩] (R48::R45::R41::R39::R38::R37::R36::R35::⟨B2,(D.flatMap eN3)⟩::((D.flatMap eN4)++((D6.flatMap eN5)++[]))):=hS81
        refine ⟨(hS81.se [0,1,3,4,5]),?_⟩
        refine r1 103 8 rfl (yz 1 K55 (hS81.c 2)) (hS81.se [0,1,3,4,5]) ?_
        refine rA [9] ?_
        refine rS 104 9 rfl (aP 3 24 6 x3.steps Steps hS81 K31 K26 K84 K56 A5 C8 (hS81.c 4) hap3) ?_ aN
        rintro _ w_31 ⟨B25,c26,rfl,hS82⟩
        refine ⟨(hS82.se [0,1,3,4,5]),?_⟩
        refine rq 10 105 rfl (hS82.se [0,1,3,4,5]) (fun _ q=>(yd (aD b8) 0 0 K71 K36 rfl (hf3.g 15 2))) ?_
        refine rA [11] ?_
        refine rZ 11 rfl (yS 2 1 (aD b8) 34 (.slice B25 ((x3.steps++Steps).length) c26) [.slice B25 ((x3.steps++Steps).length) c26] 1 [.slice B23 r_8.length c24,.slice B25 ((x3.steps++Steps).length) c26] hS82 K36) ?_ aN
        rintro _ w_32 ⟨rfl,hS83⟩
        refine ⟨(hS83.se [0,1,3,4,5]),?_⟩
        refine ra_done (by kernel_rfl) ?_
        exact ⟨B25,c26,(hf3.a 6 0 (hf3.a 9 1 (hf3.a 15 2 (hf3.a 16 3 fn_)))),(hS83.sel [0,1,2,5,6] rfl rfl)⟩
       refine ry 103 8 rfl (yz 1 K55 (hS80.c 2)) (hS80.se [0,1,3,4,5]) ?_ aN
       refine rA [6] ?_
       refine rS 101 6 rfl (Ys_append (s:=3) (by':=24) (i:=6) (nn:=0) (c:=0) (k:=x3.steps.length) (len:=x3.steps.length) (B:=aD b9) (xs:=(x3.steps.flatMap eN2)) (cs':=(x3.steps.flatMap eN2)) hS80 K31 K26 K84 K56 rfl (by decide) rfl rfl rfl rfl (fm_lenn (l:=[]) A5 rfl) rfl (hS80.rf (i:=0) rfl) (fm_lenn (l:=x3.steps) A5 rfl) (fm_one' (enc:=eN2) C8 x3.steps) (by have:=hap2; omega) (by have:=hap2; simp only [maxLen]; omega) rfl (app_len0 (l:=x3.steps) rfl)) ?_ aN
       rintro _ w_33 ⟨B24,c25,rfl,hS84⟩
       refine ⟨(hS84.se [0,1,3,4,5]),?_⟩
       refine rA [9] ?_
       refine rS 104 9 rfl (aP 3 24 6 x3.steps Steps hS84 K31 K26 K84 K56 A5 C8 (hS84.c 4) hap3) ?_ aN
       rintro _ w_34 ⟨B25,c26,rfl,hS85⟩
       refine ⟨(hS85.se [0,1,3,4,5]),?_⟩
       refine rq 10 105 rfl (hS85.se [0,1,3,4,5]) (fun _ q=>(yd (aD b8) 0 0 K71 K36 rfl (hf3.g 15 2))) ?_
       refine rA [11] ?_
       refine rZ 11 rfl (yS 2 1 (aD b8) 34 (.slice B25 ((x3.steps++Steps).length) c26) [.slice B25 ((x3.steps++Steps).length) c26] 1 [.slice B23 r_8.length c24,.slice B25 ((x3.steps++Steps).length) c26] hS85 K36) ?_ aN
       rintro _ w_35 ⟨rfl,hS86⟩
       refine ⟨(hS86.se [0,1,3,4,5]),?_⟩
       refine ra_done (by kernel_rfl) ?_
       exact ⟨B25,c26,(hf3.a 6 0 (hf3.a 9 1 (hf3.a 15 2 (hf3.a 16 3 fn_)))),(hS86.sel [0,1,2,5,6] rfl rfl)⟩
      refine ry 103 8 rfl (yz 1 K55 (hS79.c 2)) hQ2 ?_ aN
      refine rA [0] ?_
      refine rS 95 0 rfl (Ys_bslice0 (s:=3) (e:=39) hS79 K31 K26 rfl) ?_ aN
      rintro _ w_36 ⟨b9,rfl,hS87⟩
      refine ⟨(hS87.se [0,1,3,4,5]),?_⟩
      refine rA [6] ?_
      refine rS 101 6 rfl (Ys_append (s:=3) (by':=24) (i:=6) (nn:=0) (c:=0) (k:=x3.steps.length) (len:=x3.steps.length) (B:=aD b9) (xs:=(x3.steps.flatMap eN2)) (cs':=(x3.steps.flatMap eN2)) hS87 K31 K26 K84 K56 rfl (by decide) rfl rfl rfl rfl (fm_lenn (l:=[]) A5 rfl) rfl (hS87.rf (i:=0) rfl) (fm_lenn (l:=x3.steps) A5 rfl) (fm_one' (enc:=eN2) C8 x3.steps) (by have:=hap2; omega) (by have:=hap2; simp only [maxLen]; omega) rfl (app_len0 (l:=x3.steps) rfl)) ?_ aN
      rintro _ w_37 ⟨B24,c25,rfl,hS88⟩
      refine ⟨(hS88.se [0,1,3,4,5]),?_⟩
      refine rA [9] ?_
      refine rS 104 9 rfl (aP 3 24 6 x3.steps Steps hS88 K31 K26 K84 K56 A5 C8 (hS88.c 4) hap3) ?_ aN
      rintro _ w_38 ⟨B25,c26,rfl,hS89⟩
      refine ⟨(hS89.se [0,1,3,4,5]),?_⟩
      refine rq 10 105 rfl (hS89.se [0,1,3,4,5]) (fun _ q=>(yd (aD b8) 0 0 K71 K36 rfl (hf3.g 15 2))) ?_
      refine rA [11] ?_
      refine rZ 11 rfl (yS 2 1 (aD b8) 34 (.slice B25 ((x3.steps++Steps).length) c26) [.slice B25 ((x3.steps++Steps).length) c26] 1 [.slice B23 r_8.length c24,.slice B25 ((x3.steps++Steps).length) c26] hS89 K36) ?_ aN
      rintro _ w_39 ⟨rfl,hS90⟩
      refine ⟨(hS90.se [0,1,3,4,5]),?_⟩
      refine ra_done (by kernel_rfl) ?_
      exact ⟨B25,c26,(hf3.a 6 0 (hf3.a 9 1 (hf3.a 15 2 (hf3.a 16 3 fn_)))),(hS90.sel [0,1,2,5,6] rfl rfl)⟩
     rintro f w ⟨B26,c27,hf4,hS78⟩
     refine cr ?_
     refine sQ 83 (yv rfl (hf4.g 9 1))<|sQ 84 (yv rfl (hf4.g 16 3)) ?_
     obtain ⟨x4,hx4,hF6⟩:=bI hF6
     obtain ⟨⟨⟨B27,c28⟩,⟨B28,c29⟩,⟨B29,c30⟩⟩,hp4⟩:=getI_snd hD10 hx4
     refine sQ 85 (yI B14 K4 K77 K62 (gi_isSome Bz rfl (hS78.c 1) hp4) (getI_nn hp4) (getI_ltI hp4 (dl_len hD10)))<|sQ 86 (yd B14 (K4.toNat*4) 0 W2 K0) ?_
     let R55:Ro:=⟨B27,(x4.place.flatMap encI)⟩
     have hm8:(R55:Ro)∈((R48::R45::R41::R39::R38::R37::R36::R35::⟨B2,(D.flatMap eN3)⟩::((D.flatMap eN4)++((D6.flatMap eN5)++[]))):List Ro):=app_mem (fun r_ (h:r_∈((D6.flatMap eN5):List Ro))=>mOd (i:=9) (show r_∈((((D.flatMap eN4)++((D6.flatMap eN5)++[]))):List Ro) from mAr _ (mAl _ h))) (row_mem (rw_:=eN5) hp4 _ (mt 0))
     let O14:Ob:=⟨aD b8,34,[.slice B23 r_8.length c24,.slice B26 ((x3.steps++Steps).length) c27],2⟩
     let O24:Ob:=⟨B26,39,((x3.steps++Steps).flatMap eN2),c27*3⟩
     have hS91:ST w0 [] _ [O1,O16,O14,O26,O24] (R55::R48::R45::R41::R39::R38::R37::R36::R35::⟨B2,(D.flatMap eN3)⟩::((D.flatMap eN4)++((D6.flatMap eN5)++[]))):=ST.subR hS78 (subc hm8 (fun _ h=>h))
     let R56:Ro:=⟨B28,(x4.done.flatMap encB)⟩
     have hm9:(R56:Ro)∈((R55::R48::R45::R41::R39::R38::R37::R36::R35::⟨B2,(D.flatMap eN3)⟩::((D.flatMap eN4)++((D6.flatMap eN5)++[]))):List Ro):=app_mem (fun r_ (h:r_∈((D6.flatMap eN5):List Ro))=>mOd (i:=10) (show r_∈((((D.flatMap eN4)++((D6.flatMap eN5)++[]))):List Ro) from mAr _ (mAl _ h))) (row_mem (rw_:=eN5) hp4 _ (mt 1))
     have hS92:ST w0 [] _ [O1,O16,O14,O26,O24] (R56::R55::R48::R45::R41::R39::R38::R37::R36::R35::⟨B2,(D.flatMap eN3)⟩::((D.flatMap eN4)++((D6.flatMap eN5)++[]))):=ST.subR hS91 (subc hm9 (fun _ h=>h))
     have hm10:(⟨B29,(x4.steps.flatMap eN2)⟩:Ro)∈((R56::R55::R48::R45::R41::R39::R38::R37::R36::R35::⟨B2,(D.flatMap eN3)⟩::((D.flatMap eN4)++((D6.flatMap eN5)++[]))):List Ro):=app_mem (fun r_ (h:r_∈((D6.flatMap eN5):List Ro))=>mOd (i:=11) (show r_∈((((D.flatMap eN4)++((D6.flatMap eN5)++[]))):List Ro) from mAr _ (mAl _ h))) (row_mem (rw_:=eN5) hp4 _ (mt 2))
     have hS93:ST w0 [] _ [O1,O16,O14,O26,O24] (⟨B29,(x4.steps.flatMap eN2)⟩::R56::R55::R48::R45::R41::R39::R38::R37::R36::R35::⟨B2,(D.flatMap eN3)⟩::((D.flatMap eN4)++((D6.flatMap eN5)++[]))):=ST.subR hS92 (subc hm10 (fun _ h=>h))
     refine sQ 87 (yz (K4.toNat*4+2) K1 (hS93.c 1) rfl rfl (gi_at Bz hp4 rfl))<|sQ 16 yu (rn ?_)
     obtain rfl:=sI hF6
     have hS94:ST w0 [] _ [O1,O16,O14,O26,O24] (R39::R38::R37::R36::R35::⟨B2,(D.flatMap eN3)⟩::((D.flatMap eN4)++((D6.flatMap eN5)++[]))):=hS93.sR 12 [6,7,8,9,10,11]
     exact ⟨K145,Nat.lt_succ_self _,r_8,(x3.steps++Steps),x4.from_,D6,B23,c24,B26,c27,(hf4.a 6 0 (hf4.a 9 1 (hf4.a 15 2 (fc rfl fn_)))),hD10,ho13,(hS94.sel [0,1,2,3,4] rfl rfl),hL5⟩
    ·skip
     have hF7:=cf' hb4 hb5
     refine cw_exit rfl ?_
     obtain rfl:=sI hF7
     obtain rfl:=sI hL5
     refine cq (cr ?_)
     refine sQ 106 (yw 0 K46 K25 (hS68.c 2) rfl (hf3.g 15 2)) ?_
     refine s0 (yK 0 2 0 hS68 K25 rfl (hf3.g 6 0)) ?_
     rintro _ w_40 ⟨rfl,hS95⟩
     refine sQ 7 yu (rn (ct_ ?_))
     obtain rfl:=sI hF5
     obtain rfl:=sI hL3
     obtain ⟨rfl,rfl⟩:=pr2 (sI hF2)
     exact ret2 Tryz.results29 (rX K46 K25 (hS95.c 0) (hf3.g 6 0)) rT ⟨B18,c19,B19,c20,rfl,(hS95.sN [3,4])⟩
   ·skip
    have hF8:=cf' hF3 hb3
    refine cw_skip (cq (cr ?_))
    refine sQ 107 (yd (aD b) 0 0 K50 K40 rfl (hf2.g 3 0))<|sQ 108 (yz 1 K69 (hS65.c 0))<|sQ 109 (Y_len K34 rfl rfl)<|sQ 110 yv (rn ?_)
    obtain ⟨hN1,hF8⟩:=chk_inv hF8
    obtain ⟨z3,hz5,hF9⟩:=bI hF8
    refine cw_block ?_
    refine cw_loop (fun k f w=>∃ (i4:Nat) (met2:List (List Int)) (list2:List Ai) (D7:List (Hd×(List Int))) (B30:Option Addr) (c31:Nat) (D8:List ((Hd×Hd×Hd)×Ai)),FF f [(3,pt (aD b) 0),(4,pt (aD b1) 0),(6,pt (aD b2) 0),(8,.slice (aD b3) 3125 3125),(9,.slice B30 list2.length c31),(13,vi (i64.wrap ((shlK .i64 1 (IntKind.u64.wrap (c1.Gates.length:Int)))-1))),(14,vi i3),(108,.slice B g.Edges.length c),(109,vi (g.Edges.length:Int)),(110,vi (i4:Int))]∧D7.map Prod.snd=met2∧D7.length=3125∧D8.map Prod.snd=list2∧Org w0 [] (R36::R35::⟨B2,(D.flatMap eN3)⟩::((D.flatMap eN4)++[])) (D8.flatMap eN5)∧ST w0 [] w (O2::O0::O1::⟨aD b3,31,(D7.flatMap eN3),3125*1⟩::⟨B30,123,(D8.flatMap eN6),c31*4⟩::(D7.map (orow 3 encI 1))) (R39::R38::R37::R36::R35::⟨B2,(D.flatMap eN3)⟩::((D.flatMap eN4)++((D8.flatMap eN5)++[])))∧i4+k=g.Edges.length∧forN (DO g i3 c1) k i4 (met2,list2)=some z3) g.Edges.length ⟨0,met1,list1,D4,B14,c15,D5,(hf2.a 3 0 (hf2.a 4 1 (hf2.a 6 2 (hf2.a 8 3 (hf2.a 9 4 (hf2.a 13 5 (hf2.a 14 6 (fc rfl (fc rfl (fc rfl fn_)))))))))),hD8,hl2,hD9,ho12,(hS65.sg 5 [0,1,2,3,4]),Nat.zero_add _,hz5⟩ ?_
    rintro K146 f w ⟨i4,met2,list2,D7,B30,c31,D8,hf5,hD11,hl3,hD12,ho14,hS96,hik3,hL6⟩
    refine cq (cr ?_)
    refine sQ 111 (zL rfl (hf5.g 110 9) (hf5.g 109 8)) (rn (cq ?_))
    refine cw_cond rfl (fun hlt2=>?_) (fun hlt2=>?_)
    ·skip
     have hlt3:i4<g.Edges.length:=by have h:=of_decide_eq_true hlt2; omega
     obtain ⟨k_8,rfl⟩:∃ k2,K146=k2+1:=⟨K146-1,by omega⟩
     obtain ⟨y3,hb6,hL7⟩:=forN_go hL6
     unfold DO at hb6
     refine cw_skip (cq ?_)
     obtain ⟨z4,hz6,hF10⟩:=bI hb6
     refine cw_mid (fun f w=>∃ (met3:List (List Int)) (list3:List Ai) (D9:List (Hd×(List Int))) (B31:Option Addr) (c32:Nat) (D10:List ((Hd×Hd×Hd)×Ai)),(met3,list3)=z4∧FF f [(3,pt (aD b) 0),(4,pt (aD b1) 0),(6,pt (aD b2) 0),(8,.slice (aD b3) 3125 3125),(9,.slice B31 list3.length c32),(13,vi (i64.wrap ((shlK .i64 1 (IntKind.u64.wrap (c1.Gates.length:Int)))-1))),(14,vi i3),(108,.slice B g.Edges.length c),(109,vi (g.Edges.length:Int)),(110,vi (i4:Int))]∧D9.map Prod.snd=met3∧D9.length=3125∧D10.map Prod.snd=list3∧Org w0 [] (R36::R35::⟨B2,(D.flatMap eN3)⟩::((D.flatMap eN4)++[])) (D10.flatMap eN5)∧ST w0 [] w (O2::O0::O1::⟨aD b3,31,(D9.flatMap eN3),3125*1⟩::⟨B31,123,(D10.flatMap eN6),c32*4⟩::(D9.map (orow 3 encI 1))) (R39::R38::R37::R36::R35::⟨B2,(D.flatMap eN3)⟩::((D.flatMap eN4)++((D10.flatMap eN5)++[])))) ?_ ?_
     ·skip
      refine cw_block (cq (cr ?_))
      obtain ⟨x5,hx5,hz6⟩:=bI hz6
      refine sQ 112 (yI B (i4:Int) K34 K20 (gi_isSome A6 rfl (hS96.rf (i:=3) rfl) hx5) (getI_nn hx5) (getI_ltI hx5 rfl) rfl (hf5.g 108 7) (hf5.g 110 9))<|sQ 113 (ya B ((i4:Int).toNat*2) (g.Edges.flatMap eN1) [vi x5.A,vi x5.B] K85 K20 (hS96.rf (i:=3) rfl) rfl rfl (A6 x5) (gi_seg A6 hx5)) ?_
      refine sS 18 (yN [vi 0,vi 0] 2 hS96 K51) ?_
      rintro _ w_41 ⟨b10,rfl,hS98⟩
      let O4:Ob:=⟨B30,123,(D8.flatMap eN6),c31*4⟩
      let O7:Ob:=⟨aD b3,31,(D7.flatMap eN3),3125*1⟩
      have hS99:ST w0 [] _ (O2::O0::O1::O7::O4::⟨aD b10,118,[vi 0,vi 0],2⟩::(D7.map (orow 3 encI 1))) (R39::R38::R37::R36::R35::⟨B2,(D.flatMap eN3)⟩::((D.flatMap eN4)++((D8.flatMap eN5)++[]))):=ST.rot (pre:=[O2,O0,O1,O7,O4]) (G:=(D7.map (orow 3 encI 1))) (xs:=[⟨aD b10,118,[vi 0,vi 0],2⟩]) hS98
      refine s0 (yK 5 2 0 hS99 K20) ?_
      rintro _ w_42 ⟨rfl,hS100⟩
      refine rn (cq ?_)
      obtain ⟨x6,hx6,hz6⟩:=bI hz6
      obtain ⟨⟨⟨B32,c33⟩,⟨B33,c34⟩,⟨B34,c35⟩⟩,hp5⟩:=getI_snd hD12 hx6
      obtain ⟨r_9,hc7,hz6⟩:=bI hz6
      obtain ⟨r_10,hc8,hz6⟩:=bI hz6
      let R40:Ro:=⟨B32,(x6.place.flatMap encI)⟩
      have hm14:(R40:Ro)∈((R39::R38::R37::R36::R35::⟨B2,(D.flatMap eN3)⟩::((D.flatMap eN4)++((D8.flatMap eN5)++[]))):List Ro):=app_mem (fun r_ (h:r_∈((D8.flatMap eN5):List Ro))=>mOd (i:=6) (show r_∈((((D.flatMap eN4)++((D8.flatMap eN5)++[]))):List Ro) from mAr _ (mAl _ h))) (row_mem (rw_:=eN5) hp5 _ (mt 0))
      let O6:Ob:=⟨aD b10,118,[vi x5.A,vi x5.B],2⟩
      let P62:List Ob:=(O2::O0::O1::O7::O4::O6::(D7.map (orow 3 encI 1)))
      have hS109:ST w0 [] _ P62 (R40::R39::R38::R37::R36::R35::⟨B2,(D.flatMap eN3)⟩::((D.flatMap eN4)++((D8.flatMap eN5)++[]))):=ST.subR hS100 (subc hm14 (fun _ h=>h))
      let R42:Ro:=⟨B33,(x6.done.flatMap encB)⟩
      have hm15:(R42:Ro)∈((R40::R39::R38::R37::R36::R35::⟨B2,(D.flatMap eN3)⟩::((D.flatMap eN4)++((D8.flatMap eN5)++[]))):List Ro):=app_mem (fun r_ (h:r_∈((D8.flatMap eN5):List Ro))=>mOd (i:=7) (show r_∈((((D.flatMap eN4)++((D8.flatMap eN5)++[]))):List Ro) from mAr _ (mAl _ h))) (row_mem (rw_:=eN5) hp5 _ (mt 1))
      have hS110:ST w0 [] _ P62 (R42::R40::R39::R38::R37::R36::R35::⟨B2,(D.flatMap eN3)⟩::((D.flatMap eN4)++((D8.flatMap eN5)++[]))):=ST.subR hS109 (subc hm15 (fun _ h=>h))
      let R46:Ro:=⟨B34,(x6.steps.flatMap eN2)⟩
      have hm16:(R46:Ro)∈((R42::R40::R39::R38::R37::R36::R35::⟨B2,(D.flatMap eN3)⟩::((D.flatMap eN4)++((D8.flatMap eN5)++[]))):List Ro):=app_mem (fun r_ (h:r_∈((D8.flatMap eN5):List Ro))=>mOd (i:=8) (show r_∈((((D.flatMap eN4)++((D8.flatMap eN5)++[]))):List Ro) from mAr _ (mAl _ h))) (row_mem (rw_:=eN5) hp5 _ (mt 2))
      have hS111:ST w0 [] _ P62 (R46::R42::R40::R39::R38::R37::R36::R35::⟨B2,(D.flatMap eN3)⟩::((D.flatMap eN4)++((D8.flatMap eN5)++[]))):=ST.subR hS110 (subc hm16 (fun _ h=>h))
      refine ra_start (hS111.sg 6 [0,1,2,3,4,5]).fn (by kernel_rfl) ?_
      have hS112:=hS111.drew
      refine rq 0 114 rfl (hS112.sg 6 [0,1,2,3,4,5]) (fun _ q=>(yw 0 K13 K8 (ST.c q 0) rfl (hf5.g 3 0)))<|rq 1 115 rfl (hS112.sg 6 [0,1,2,3,4,5]) (fun _ q=>(yw 0 K10 K3 (ST.c q 1) rfl (hf5.g 4 1)))<|rq 2 116 rfl (hS112.sg 6 [0,1,2,3,4,5]) (fun _ q=>(yv rfl (hf5.g 9 4)))<|rq 3 117 rfl (hS112.sg 6 [0,1,2,3,4,5]) (fun _ q=>(yv rfl (hf5.g 14 6)))<|rq 4 118 rfl (hS112.sg 6 [0,1,2,3,4,5]) (fun _ q=>(yI B30 i3 K77 K62 (gi_isSome Bz rfl (ST.c q 4) hp5) (getI_nn hp5) (getI_ltI hp5 (dl_len hD12)))) ?_
      refine rq 5 119 rfl (hS112.sg 6 [0,1,2,3,4,5]) (fun _ q=>(yd B30 (i3.toNat*4) 0 Fx K16))<|rq 6 120 rfl (hS112.sg 6 [0,1,2,3,4,5]) (fun _ q=>(yz (i3.toNat*4+0) K23 (ST.c q 4) rfl rfl (gi_at Bz hp5 rfl)))<|rq 7 121 rfl (hS112.sg 6 [0,1,2,3,4,5]) (fun _ q=>(yd (aD b10) 0 0 K59 K0))<|rq 8 122 rfl (hS112.sg 6 [0,1,2,3,4,5]) (fun _ q=>(yz 0 K1 (ST.c q 5)))<|rq 9 123 rfl (hS112.sg 6 [0,1,2,3,4,5]) (fun _ q=>(yd (aD b10) 0 0 K70 K0)) ?_
      refine rq 10 124 rfl (hS112.sg 6 [0,1,2,3,4,5]) (fun _ q=>(yz 1 K1 (ST.c q 5)))<|rq 12 126 rfl (hS112.sg 6 [0,1,2,3,4,5]) (fun _ q=>(yv rfl (hf5.g 9 4)))<|rq 13 127 rfl (hS112.sg 6 [0,1,2,3,4,5]) (fun _ q=>(yv rfl (hf5.g 14 6)))<|rq 14 128 rfl (hS112.sg 6 [0,1,2,3,4,5]) (fun _ q=>(yI B30 i3 K77 K62 (gi_isSome Bz rfl (ST.c q 4) hp5) (getI_nn hp5) (getI_ltI hp5 (dl_len hD12))))<|rq 15 129 rfl (hS112.sg 6 [0,1,2,3,4,5]) (fun _ q=>(yd B30 (i3.toNat*4) 0 K97 K41)) ?_
      refine rq 16 130 rfl (hS112.sg 6 [0,1,2,3,4,5]) (fun _ q=>(yz (i3.toNat*4+1) K60 (ST.c q 4) rfl rfl (gi_at Bz hp5 rfl)))<|rq 17 131 rfl (hS112.sg 6 [0,1,2,3,4,5]) (fun _ q=>(yv rfl (hf5.g 14 6)))<|rq 18 132 rfl (hS112.sg 6 [0,1,2,3,4,5]) (fun _ q=>(yd (aD b10) 0 0 K59 K0))<|rq 19 133 rfl (hS112.sg 6 [0,1,2,3,4,5]) (fun _ q=>(yz 0 K1 (ST.c q 5)))<|rq 20 134 rfl (hS112.sg 6 [0,1,2,3,4,5]) (fun _ q=>(yd (aD b10) 0 0 K70 K0)) ?_
      refine rq 21 135 rfl (hS112.sg 6 [0,1,2,3,4,5]) (fun _ q=>(yz 1 K1 (ST.c q 5)))<|rq 22 136 rfl (hS112.sg 6 [0,1,2,3,4,5]) (fun _ q=>(Y_buildS (zs:=[vi 0,vi 0,vi 0]) (vs:=[(0,vi (-1)),(1,vi x5.A),(2,vi x5.B)]) (cs:=[vi (-1),vi x5.A,vi x5.B]) IN K56 rfl (mpc rfl (mpc rfl (mpc rfl mpn))) rfl)) ?_
      let V60:List Value:=[.slice none 0 0,.slice none 0 0,vi 0,.slice none 0 0]
      refine rf_in (k:=4) (ts:=[136]) (L:=[O2,O0,O1,O7,O4,O6]) (G:=(D7.map (orow 3 encI 1))) [fM 23 137 39 ([(Ak.mk (-1) x5.A x5.B)].flatMap eN2) (1*3) 1 1,fN 26 19 123 V60 4] hS112 (flc rfl rfl rfl (fun _ _ _ _ hf_ h=>(Ys_bslice (s:=3) (len:=1) (vs:=[(0,.agg #[vi (-1),vi x5.A,vi x5.B])]) (cs:=[vi (-1),vi x5.A,vi x5.B]) (zs:=[vi 0,vi 0,vi 0]) (m:=3) h K31 K26 I9 rfl (mpc ((hf_ 136 (List.Mem.head _)).trans rfl) mpn) rfl rfl rfl (by kernel_rfl) (by kernel_rfl) rfl)) (flc rfl rfl rfl (fun _ _ _ _ hf_ h=>(yN V60 4 h EC)) fln)) (fun hJ1=>?_)
      refine rf_all [11] hJ1 (fun Z w h=>((ST.noF h).sg 6 [0,1,2,3,4,5])) (fun Z2 w_43 hz7 hS113=>?_)
      refine rC 125 11 rfl (yc PV (OF x6.place x5.A x5.B B32 c33 x6.place.length _ rfl (hS113.inn0 [(true,2)] rfl) hc7)) ?_ aN
      rintro _ w_44 ⟨B35,c36,rfl,hd8⟩
      have hS114:=hS113.out0 hd8
      let O33:Ob:=⟨B35,3,(r_9.flatMap encI),c36*1⟩
      have hS115:ST w0 [] _ (O2::O0::O1::O7::O4::O6::O33::(flL [fM 23 137 39 ([(Ak.mk (-1) x5.A x5.B)].flatMap eN2) (1*3) 1 1,fN 26 19 123 V60 4] Z2++(D7.map (orow 3 encI 1)))) (R46::R42::R40::R39::R38::R37::R36::R35::⟨B2,(D.flatMap eN3)⟩::((D.flatMap eN4)++((D8.flatMap eN5)++[]))):=ST.rot (pre:=[O2,O0,O1,O7,O4,O6]) (G:=(flL [fM 23 137 39 ([(Ak.mk (-1) x5.A x5.B)].flatMap eN2) (1*3) 1 1,fN 26 19 123 V60 4] Z2++(D7.map (orow 3 encI 1)))) (xs:=[O33]) hS114
      refine rf_k (L:=[O2,O0,O1,O7,O4,O6,O33]) hz7 hS115 (fun Z w h=>((ST.noF h).sg 7 [0,1,2,3,4,5])) ?_
      refine rf_force hJ1 (fun Z w h=>((ST.noF h).sg 7 [0,1,2,3,4,5])) (fun b11=>?_)
      refine rf_q 24 138 (v:=.agg #[.slice B35 r_9.length c36,.slice B33 x6.done.length c34,vi i3,.slice (aD b11) 1 1]) rfl (fun Z w h=>((ST.noF h).sg 8 [0,1,2,3,4,5])) (fun Z _ q=>(Y_buildS (zs:=V60) (vs:=[(0,.slice B35 r_9.length c36),(1,.slice B33 x6.done.length c34),(2,vi i3),(3,.slice (aD b11) 1 1)]) (cs:=[.slice B35 r_9.length c36,.slice B33 x6.done.length c34,vi i3,.slice (aD b11) 1 1]) M9 EC rfl (mpc rfl (mpc rfl (mpc rfl (mpc rfl mpn)))) rfl)) ?_
      refine rf_all [25] (FlOK.nx hJ1) (fun Z w h=>((ST.noF h).sg 8 [0,1,2,3,4,5])) (fun Z3 w_45 hz8 hS116=>?_)
      let R50:Ro:=⟨B35,(r_9.flatMap encI)⟩
      have ho19:Org w0 [] (R36::R35::⟨B2,(D.flatMap eN3)⟩::((D.flatMap eN4)++[])) [R50]:=ST.orgOwn hS116 (i:=6) rfl
      have hcap7:r_9.length≤c36:=(hS116.lencap (i:=6) rfl (fm_lenn (l:=r_9) encI_len rfl) rfl rfl)
      have hS117:ST w0 [] _ (O2::O0::O1::O7::O4::O6::⟨aD b11,39,([(Ak.mk (-1) x5.A x5.B)].flatMap eN2),1*3⟩::(flL [fN 26 19 123 V60 4] Z3++(D7.map (orow 3 encI 1)))) (R50::R46::R42::R40::R39::R38::R37::R36::R35::⟨B2,(D.flatMap eN3)⟩::((D.flatMap eN4)++((D8.flatMap eN5)++[]))):=hS116.freeze (i:=6) rfl
      refine rC 139 25 rfl (yc NA (ML g c1 (Ai.mk r_9 x6.done i3 [(Ak.mk (-1) x5.A x5.B)]) B c g.Edges.length B1 c2 c1.Gates.length B35 c36 r_9.length B33 c34 x6.done.length (aD b11) 1 1 _ rfl rfl rfl hcap7 rfl rfl (hS117.inn [false,false,false,false,false,false,true] rfl [(true,7),(true,8),(true,0),(true,2)] rfl) hc8)) ?_ aN
      rintro _ w_46 ⟨B36,c37,B37,c38,B38,c39,rfl,hq1,ho16,hd9⟩
      have hS118:=ST.outRG (pre:=[O2,O0,O1,O7,O4,O6,⟨aD b11,39,([(Ak.mk (-1) x5.A x5.B)].flatMap eN2),1*3⟩]) (G:=(flL [fN 26 19 123 V60 4] Z3++(D7.map (orow 3 encI 1)))) hS117 [false,false,false,false,false,false,true] rfl hd9 ho16 (sk 7 (sk 8 (sk 0 (sk 2 (fun _ h=>by cases h)))))
      let R49:Ro:=⟨B36,(r_10.place.flatMap encI)⟩
      have ho20:Org w0 [] (R36::R35::⟨B2,(D.flatMap eN3)⟩::((D.flatMap eN4)++[])) [R49]:=org_trans hS117 (msk_mem (mask:=[false,false,false,false,false,false,true]) rfl) ho16 (org_cons (org_mem (i:=0) rfl) (org_cons (org_mem (i:=1) rfl) (org_cons ho19 (org_cons (org_sub ho14 (subc (row_mem (rw_:=eN5) hp5 _ (mt 1)) (fun _ h=>by cases h))) org_nil))))
      let O18:Ob:=⟨B38,39,(r_10.steps.flatMap eN2),c39*3⟩
      let O20:Ob:=⟨B37,4,(r_10.done.flatMap encB),c38*1⟩
      have hS119:ST w0 [] _ (O2::O0::O1::O7::O4::O6::O20::O18::(flL [fN 26 19 123 V60 4] Z3++(D7.map (orow 3 encI 1)))) (R49::R50::R46::R42::R40::R39::R38::R37::R36::R35::⟨B2,(D.flatMap eN3)⟩::((D.flatMap eN4)++((D8.flatMap eN5)++[]))):=hS118
      refine rf_k (L:=[O2,O0,O1,O7,O4,O6,O20,O18]) hz8 hS119 (fun Z w h=>(((ST.noF h).sg 8 [0,1,2,3,4,5]).sR 11 [2,3,4,5,6,7,8,9,10])) ?_
      refine rf_force (FlOK.nx hJ1) (fun Z w h=>(((ST.noF h).sg 8 [0,1,2,3,4,5]).sR 11 [2,3,4,5,6,7,8,9,10])) (fun b12=>?_)
      refine rf_out (fun w_47 hS120=>?_)
      refine rA [27] ?_
      refine rZ 27 rfl (yK 8 4 0 hS120 K62) ?_ aN
      rintro _ w_48 ⟨rfl,hS121⟩
      refine ⟨((hS121.sg 9 [0,1,2,3,4,5]).sR 11 [2,3,4,5,6,7,8,9,10]),?_⟩
      refine ra_done (by kernel_rfl) ?_
      refine cq ?_
      obtain ⟨r_11,hc9,hz6⟩:=bI hz6
      obtain ⟨r_12,hc10,hz6⟩:=bI hz6
      refine ra_start (hS121.sg 9 [0,1,2,3,4,5,6,7,8]).fn (by kernel_rfl) ?_
      have hS124:=hS121.drew
      refine rq 0 140 rfl (hS124.sg 9 [0,1,2,3,4,5,6,7,8]) (fun _ q=>(yd (aD b12) 0 0 Fx K16))<|rq 1 141 rfl (hS124.sg 9 [0,1,2,3,4,5,6,7,8]) (fun _ q=>(yz 0 K23 (ST.c q 8)))<|rq 3 143 rfl (hS124.sg 9 [0,1,2,3,4,5,6,7,8]) (fun _ q=>(yd (aD b12) 0 0 K97 K41))<|rq 4 144 rfl (hS124.sg 9 [0,1,2,3,4,5,6,7,8]) (fun _ q=>(yz 1 K60 (ST.c q 8))) ?_
      refine rA [2] ?_
      refine rC 142 2 rfl (yc Lh (Lb r_10.place B36 c37 r_10.place.length _ rfl (hS124.inn0 [(true,0)] rfl) hc9)) ?_ aN
      rintro _ w_49 ⟨rfl,hd10⟩
      have hS125:=hS124.out00 hd10
      refine ⟨(hS125.sg 9 [0,1,2,3,4,5,6,7,8]),?_⟩
      refine rA [5] ?_
      refine rC 145 5 rfl (yc Jd (IE r_10.done B37 c38 r_10.done.length _ rfl (hS125.inn0 [(false,6)] rfl) hc10)) ?_ aN
      rintro _ w_50 ⟨rfl,hd11⟩
      have hS126:=hS125.out00 hd11
      refine ⟨(hS126.sg 9 [0,1,2,3,4,5,6,7,8]),?_⟩
      refine rq 6 20 rfl (hS126.sg 9 [0,1,2,3,4,5,6,7,8]) (fun _ q=>yu)<|rq 7 21 rfl (hS126.sg 9 [0,1,2,3,4,5,6,7,8]) (fun _ q=>yu) ?_
      refine ra_done (by kernel_rfl) ?_
      refine cq (cr ?_)
      refine sQ 146 (yv rfl (hf5.g 8 3))<|sQ 147 yv ?_
      obtain ⟨x7,hx7,hz6⟩:=bI hz6
      obtain ⟨⟨B39,c40⟩,hp6⟩:=getI_snd hD11 hx7
      refine sQ 148 (yI (aD b3) r_11 K67 K16 (gi_isSome AJ rfl (hS126.c 3) hp6) (getI_nn hp6) (getI_ltI hp6 hl3))<|sQ 149 (yz (r_11.toNat*1) K23 (hS126.c 3) rfl rfl (gi_at0 AJ hp6 rfl))<|sQ 150 yv ?_
      obtain ⟨r_13,hc11,hz6⟩:=bI hz6
      let V58:List Value:=[.slice B36 r_10.place.length c37,.slice B37 r_10.done.length c38,vi r_10.from_,.slice B38 r_10.steps.length c39]
      refine sc 151 rfl rfl (yc GG (Hh x7 r_12 B39 c40 x7.length _ rfl (hS126.innR0 (srcRow (N:=[O2,O0,O1,O7,O4,O6,O20,O18,⟨aD b12,123,V58,4⟩]) (T:=3) (s:=1) (enc:=encI) hp6 (fun _ h=>by cases h))) hc11)) ?_
      rintro _ w_51 ⟨rfl,hd12⟩
      have hS127:=hS126.out00 hd12
      refine sQ 152 yn (rn ?_)
      refine cw_cond rfl (fun hb7=>?_) (fun hb7=>?_)
      ·skip
       have hF11:=ct hz6 hb7
       refine cq (cr ?_)
       refine sQ 153 (yv rfl (hf5.g 8 3))<|sQ 154 yv<|sQ 155 (yv rfl (hf5.g 8 3))<|sQ 156 yv<|sQ 157 (yI (aD b3) r_11 K67 K16 (gi_isSome AJ rfl (hS127.c 3) hp6) (getI_nn hp6) (getI_ltI hp6 hl3))<|sQ 158 (yz (r_11.toNat*1) K23 (hS127.c 3) rfl rfl (gi_at0 AJ hp6 rfl)) ?_
       refine sQ 159 yv ?_
       refine sS 160 (yF 1 1 [vi r_12] 1 hS127 K5 K0 K52 rfl (mpc rfl mpn)) ?_
       rintro _ w_52 ⟨b13,rfl,hS128⟩
       let O15:Ob:=⟨aD b13,3,([r_12].flatMap encI),1*1⟩
       have hS129:ST w0 [] _ (O2::O0::O1::O7::O4::O6::O20::O18::⟨aD b12,123,V58,4⟩::O15::(D7.map (orow 3 encI 1))) (R49::R50::R46::R42::R40::R39::R38::R37::R36::R35::⟨B2,(D.flatMap eN3)⟩::((D.flatMap eN4)++((D8.flatMap eN5)++[]))):=ST.rot (pre:=[O2,O0,O1,O7,O4,O6,O20,O18,⟨aD b12,123,V58,4⟩]) (G:=(D7.map (orow 3 encI 1))) (xs:=[O15]) hS128
       obtain ⟨hap4,hF11⟩:=chk_inv hF11
       refine sS 161 (Ys_appendRow (pre:=[O2,O0,O1,O7,O4,O6,O20,O18,⟨aD b12,123,V58,4⟩,O15]) (D:=D7) (enc:=encI) (s:=1) (by':=8) (i:=r_11) (c:=c40) (k:=1) (B:=B39) (l:=x7) (xs:=[r_12]) hS129 K5 K0 K83 K75 rfl (by decide) rfl rfl rfl hp6 encI_len encI_one (hS129.c 9) rfl (by have:=hap4; omega) (by have:=hap4; simp only [maxLen]; omega)) ?_
       rintro _ w_53 ⟨B40,c41,rfl,hS130⟩
       refine sQ 162 (yI (aD b3) r_11 K67 K16 (gi_isSome AJ rfl (hS130.c 3) hp6) (getI_nn hp6) (getI_ltI hp6 hl3)) ?_
       refine s0 (yS 3 1 (aD b3) 31 (.slice B40 ((x7++[r_12]).length) c41) [.slice B40 ((x7++[r_12]).length) c41] (r_11.toNat*1) ((D7.set r_11.toNat ((B40,c41),(x7++[r_12]))).flatMap eN3) hS130 K16 rfl rfl rfl rfl rfl rfl rfl (gi_fit0 AJ hp6) (gi_set AJ hp6 ((B40,c41),(x7++[r_12])) rfl)) ?_
       rintro _ w_54 ⟨rfl,hS131⟩
       have hD15:List.map Prod.snd (D7.set r_11.toNat ((B40,c41),(x7++[r_12])))=(met2.set r_11.toNat (x7++[r_12])):=set_snd hD11 _ _
       refine rn (cr ?_)
       refine sQ 163 (yv rfl (hf5.g 9 4))<|sQ 164 (yw 0 IF K62 (hS131.c 8)) ?_
       let R51:Ro:=⟨B37,(r_10.done.flatMap encB)⟩
       have ho21:Org w0 [] (R36::R35::⟨B2,(D.flatMap eN3)⟩::((D.flatMap eN4)++[])) [R51]:=ST.orgOwn hS131 (i:=6) rfl
       have hcap8:r_10.done.length≤c38:=(hS131.lencap (i:=6) rfl (fm_lenn (l:=r_10.done) encB_len rfl) rfl rfl)
       let O8:Ob:=⟨aD b3,31,((D7.set r_11.toNat ((B40,c41),(x7++[r_12]))).flatMap eN3),3125*1⟩
       have hS132:ST w0 [] _ (O2::O0::O1::O8::O4::O6::O18::⟨aD b12,123,V58,4⟩::O15::((D7.set r_11.toNat ((B40,c41),(x7++[r_12]))).map (orow 3 encI 1))) (R51::R49::R50::R46::R42::R40::R39::R38::R37::R36::R35::⟨B2,(D.flatMap eN3)⟩::((D.flatMap eN4)++((D8.flatMap eN5)++[]))):=hS131.freeze (i:=6) rfl
       let R53:Ro:=⟨B38,(r_10.steps.flatMap eN2)⟩
       have ho22:Org w0 [] (R36::R35::⟨B2,(D.flatMap eN3)⟩::((D.flatMap eN4)++[])) [R53]:=ST.orgOwn hS132 (i:=6) rfl
       have hcap9:r_10.steps.length≤c39:=(hS132.lencap (i:=6) rfl (fm_lenn (l:=r_10.steps) A5 rfl) rfl rfl)
       have hS133:ST w0 [] _ (O2::O0::O1::O8::O4::O6::⟨aD b12,123,V58,4⟩::O15::((D7.set r_11.toNat ((B40,c41),(x7++[r_12]))).map (orow 3 encI 1))) (R53::R51::R49::R50::R46::R42::R40::R39::R38::R37::R36::R35::⟨B2,(D.flatMap eN3)⟩::((D.flatMap eN4)++((D8.flatMap eN5)++[]))):=hS132.freeze (i:=6) rfl
       refine sS 165 (yF 4 1 V58 4 hS133 K77 K62 M3 rfl (mpc rfl mpn)) ?_
       rintro _ w_55 ⟨b14,rfl,hS134⟩
       have hS135:ST w0 [] _ (O2::O0::O1::O8::O4::O6::⟨aD b12,123,V58,4⟩::O15::⟨aD b14,123,(([(((B36,c37),(B37,c38),(B38,c39)),r_10)]:List ((Hd×Hd×Hd)×Ai)).flatMap eN6),1*4⟩::((D7.set r_11.toNat ((B40,c41),(x7++[r_12]))).map (orow 3 encI 1))) (R53::R51::R49::R50::R46::R42::R40::R39::R38::R37::R36::R35::⟨B2,(D.flatMap eN3)⟩::((D.flatMap eN4)++((D8.flatMap eN5)++[]))):=ST.rot (pre:=[O2,O0,O1,O8,O4,O6,⟨aD b12,123,V58,4⟩,O15]) (G:=((D7.set r_11.toNat ((B40,c41),(x7++[r_12]))).map (orow 3 encI 1))) (xs:=[⟨aD b14,123,(([(((B36,c37),(B37,c38),(B38,c39)),r_10)]:List ((Hd×Hd×Hd)×Ai)).flatMap eN6),1*4⟩]) hS134
       have hm17:∀ r∈(([(((B36,c37),(B37,c38),(B38,c39)),r_10)]:List ((Hd×Hd×Hd)×Ai)).flatMap eN5),r∈((R53::R51::R49::R50::R46::R42::R40::R39::R38::R37::R36::R35::⟨B2,(D.flatMap eN3)⟩::((D.flatMap eN4)++((D8.flatMap eN5)++[]))):List Ro):=(fsub_cons (sk 2 (sk 1 (sk 0 (fun _ h=>by cases h)))) fsub_nil)
       have ho23:Org w0 [] (R36::R35::⟨B2,(D.flatMap eN3)⟩::((D.flatMap eN4)++[])) (([(((B36,c37),(B37,c38),(B38,c39)),r_10)]:List ((Hd×Hd×Hd)×Ai)).flatMap eN5):=(forg_cons (org_cons (org_sub ho20 (sk 0 (fun _ h=>by cases h))) (org_cons ho21 (org_cons ho22 org_nil))) forg_nil)
       have hS136:ST w0 [] _ (O2::O0::O1::O8::⟨B30,123,(D8.flatMap eN6),c31*4⟩::O6::⟨aD b12,123,V58,4⟩::O15::⟨aD b14,123,(([(((B36,c37),(B37,c38),(B38,c39)),r_10)]:List ((Hd×Hd×Hd)×Ai)).flatMap eN6),1*4⟩::((D7.set r_11.toNat ((B40,c41),(x7++[r_12]))).map (orow 3 encI 1))) (R53::R51::R49::R50::R46::R42::R40::R39::R38::R37::R36::R35::⟨B2,(D.flatMap eN3)⟩::((([(((B36,c37),(B37,c38),(B38,c39)),r_10)]:List ((Hd×Hd×Hd)×Ai)).flatMap eN5)++((D.flatMap eN4)++((D8.flatMap eN5)++[])))):=ST.subR hS135 (sk 0 (sk 1 (sk 2 (sk 3 (sk 4 (sk 5 (sk 6 (sk 7 (sk 8 (sk 9 (sk 10 (sk 11 (sk 12 (suba hm17 (suba (fun r_ (h:r_∈((D.flatMap eN4):List Ro))=>mOd (i:=13) (show r_∈((((D.flatMap eN4)++((D8.flatMap eN5)++[]))):List Ro) from mAl _ h)) (suba (fun r_ (h:r_∈((D8.flatMap eN5):List Ro))=>mOd (i:=13) (show r_∈((((D.flatMap eN4)++((D8.flatMap eN5)++[]))):List Ro) from mAr _ (mAl _ h))) (fun _ h=>by cases h)))))))))))))))))
       obtain ⟨hap5,hF11⟩:=chk_inv hF11
       refine sS 166 (Ys_append (s:=4) (by':=80) (i:=4) (nn:=list2.length) (c:=c31) (k:=1) (len:=(list2++([r_10]:List Ai)).length) (B:=B30) (xs:=(([(((B36,c37),(B37,c38),(B38,c39)),r_10)]:List ((Hd×Hd×Hd)×Ai)).flatMap eN6)) (cs':=((D8++([(((B36,c37),(B37,c38),(B38,c39)),r_10)]:List ((Hd×Hd×Hd)×Ai))).flatMap eN6)) hS136 K77 K62 LJ EC rfl (by decide) rfl rfl rfl rfl (fm_lenn (l:=D8) Bz (dl_len hD12)) rfl (hS136.c 8) (fm_lenn (l:=([(((B36,c37),(B37,c38),(B38,c39)),r_10)]:List ((Hd×Hd×Hd)×Ai))) Bz rfl) (fm_one' (enc:=eN6) Lw ([(((B36,c37),(B37,c38),(B38,c39)),r_10)]:List ((Hd×Hd×Hd)×Ai))) (by have:=hap5; omega) (by have:=hap5; simp only [maxLen]; omega) (fm_app _ _) (dl_sum (dl_len hD12) rfl (dl_app hD12 (show List.map Prod.snd ([(((B36,c37),(B37,c38),(B38,c39)),r_10)]:List ((Hd×Hd×Hd)×Ai))=([r_10]:List Ai) from rfl)))) ?_
       rintro _ w_56 ⟨B41,c42,rfl,hS137⟩
       have ho24:Org w0 [] (R36::R35::⟨B2,(D.flatMap eN3)⟩::((D.flatMap eN4)++[])) ((D8++([(((B36,c37),(B37,c38),(B38,c39)),r_10)]:List ((Hd×Hd×Hd)×Ai))).flatMap eN5):=(forg_app ho14 ho23)
       have hS138:ST w0 [] _ (O2::O0::O1::O8::⟨B41,123,((D8++([(((B36,c37),(B37,c38),(B38,c39)),r_10)]:List ((Hd×Hd×Hd)×Ai))).flatMap eN6),c42*4⟩::O6::⟨aD b12,123,[.slice B36 r_10.place.length c37,.slice B37 r_10.done.length c38,vi r_10.from_,.slice B38 r_10.steps.length c39],4⟩::O15::⟨aD b14,123,(([(((B36,c37),(B37,c38),(B38,c39)),r_10)]:List ((Hd×Hd×Hd)×Ai)).flatMap eN6),1*4⟩::((D7.set r_11.toNat ((B40,c41),(x7++[r_12]))).map (orow 3 encI 1))) (⟨B38,(r_10.steps.flatMap eN2)⟩::⟨B37,(r_10.done.flatMap encB)⟩::⟨B36,(r_10.place.flatMap encI)⟩::R50::R46::R42::R40::R39::R38::R37::R36::R35::⟨B2,(D.flatMap eN3)⟩::(((D8++([(((B36,c37),(B37,c38),(B38,c39)),r_10)]:List ((Hd×Hd×Hd)×Ai))).flatMap eN5)++((([(((B36,c37),(B37,c38),(B38,c39)),r_10)]:List ((Hd×Hd×Hd)×Ai)).flatMap eN5)++((D.flatMap eN4)++[])))):=ST.subR hS137 (sk 0 (sk 1 (sk 2 (sk 3 (sk 4 (sk 5 (sk 6 (sk 7 (sk 8 (sk 9 (sk 10 (sk 11 (sk 12 (suba (fsub_app (fun r_ (h:r_∈((D8.flatMap eN5):List Ro))=>mOd (i:=13) (show r_∈((((([(((B36,c37),(B37,c38),(B38,c39)),r_10)]:List ((Hd×Hd×Hd)×Ai)).flatMap eN5)++((D.flatMap eN4)++((D8.flatMap eN5)++[])))):List Ro) from mAr _ (mAr _ (mAl _ h)))) (fun r_ (h:r_∈((([(((B36,c37),(B37,c38),(B38,c39)),r_10)]:List ((Hd×Hd×Hd)×Ai)).flatMap eN5):List Ro))=>mOd (i:=13) (show r_∈((((([(((B36,c37),(B37,c38),(B38,c39)),r_10)]:List ((Hd×Hd×Hd)×Ai)).flatMap eN5)++((D.flatMap eN4)++((D8.flatMap eN5)++[])))):List Ro) from mAl _ h))) (suba (fun r_ (h:r_∈((([(((B36,c37),(B37,c38),(B38,c39)),r_10)]:List ((Hd×Hd×Hd)×Ai)).flatMap eN5):List Ro))=>mOd (i:=13) (show r_∈((((([(((B36,c37),(B37,c38),(B38,c39)),r_10)]:List ((Hd×Hd×Hd)×Ai)).flatMap eN5)++((D.flatMap eN4)++((D8.flatMap eN5)++[])))):List Ro) from mAl _ h)) (suba (fun r_ (h:r_∈((D.flatMap eN4):List Ro))=>mOd (i:=13) (show r_∈((((([(((B36,c37),(B37,c38),(B38,c39)),r_10)]:List ((Hd×Hd×Hd)×Ai)).flatMap eN5)++((D.flatMap eN4)++((D8.flatMap eN5)++[])))):List Ro) from mAr _ (mAl _ h))) (fun _ h=>by cases h)))))))))))))))))
       refine sQ 9 yu (rn ?_)
       have hS139:ST w0 [] _ (O2::O0::O1::O8::⟨B41,123,((D8++([(((B36,c37),(B37,c38),(B38,c39)),r_10)]:List ((Hd×Hd×Hd)×Ai))).flatMap eN6),c42*4⟩::O6::⟨aD b12,123,[.slice B36 r_10.place.length c37,.slice B37 r_10.done.length c38,vi r_10.from_,.slice B38 r_10.steps.length c39],4⟩::O15::⟨aD b14,123,(([(((B36,c37),(B37,c38),(B38,c39)),r_10)]:List ((Hd×Hd×Hd)×Ai)).flatMap eN6),1*4⟩::((D7.set r_11.toNat ((B40,c41),(x7++[r_12]))).map (orow 3 encI 1))) (R39::R38::R37::R36::R35::⟨B2,(D.flatMap eN3)⟩::((D.flatMap eN4)++(((D8++([(((B36,c37),(B37,c38),(B38,c39)),r_10)]:List ((Hd×Hd×Hd)×Ai))).flatMap eN5)++[]))):=ST.subR hS138 (sk 7 (sk 8 (sk 9 (sk 10 (sk 11 (sk 12 (suba (fun r_ (h:r_∈((D.flatMap eN4):List Ro))=>mOd (i:=13) (show r_∈(((((D8++([(((B36,c37),(B37,c38),(B38,c39)),r_10)]:List ((Hd×Hd×Hd)×Ai))).flatMap eN5)++((([(((B36,c37),(B37,c38),(B38,c39)),r_10)]:List ((Hd×Hd×Hd)×Ai)).flatMap eN5)++((D.flatMap eN4)++[])))):List Ro) from mAr _ (mAr _ (mAl _ h)))) (suba (fun r_ (h:r_∈(((D8++([(((B36,c37),(B37,c38),(B38,c39)),r_10)]:List ((Hd×Hd×Hd)×Ai))).flatMap eN5):List Ro))=>mOd (i:=13) (show r_∈(((((D8++([(((B36,c37),(B37,c38),(B38,c39)),r_10)]:List ((Hd×Hd×Hd)×Ai))).flatMap eN5)++((([(((B36,c37),(B37,c38),(B38,c39)),r_10)]:List ((Hd×Hd×Hd)×Ai)).flatMap eN5)++((D.flatMap eN4)++[])))):List Ro) from mAl _ h)) (fun _ h=>by cases h)))))))))
       exact ⟨(met2.set r_11.toNat (x7++[r_12])),(list2++([r_10]:List Ai)),(D7.set r_11.toNat ((B40,c41),(x7++[r_12]))),B41,c42,(D8++([(((B36,c37),(B37,c38),(B38,c39)),r_10)]:List ((Hd×Hd×Hd)×Ai))),(sI hF11),(hf5.a 3 0 (hf5.a 4 1 (hf5.a 6 2 (hf5.a 8 3 (fc rfl (hf5.a 13 5 (hf5.a 14 6 (hf5.a 108 7 (hf5.a 109 8 (hf5.a 110 9 fn_)))))))))),hD15,(set_len _ _ _ hl3),(dl_app hD12 (show List.map Prod.snd ([(((B36,c37),(B37,c38),(B38,c39)),r_10)]:List ((Hd×Hd×Hd)×Ai))=([r_10]:List Ai) from rfl)),ho24,(hS139.sg 9 [0,1,2,3,4])⟩
      ·skip
       have hF12:=cf' hz6 hb7
       refine cw_skip ?_
       have hS140:ST w0 [] _ (O2::O0::O1::O7::O4::O6::O20::O18::⟨aD b12,123,V58,4⟩::(D7.map (orow 3 encI 1))) (R39::R38::R37::R36::R35::⟨B2,(D.flatMap eN3)⟩::((D.flatMap eN4)++((D8.flatMap eN5)++[]))):=hS127.sR 11 [5,6,7,8,9,10]
       exact ⟨met2,list2,D7,B30,c31,D8,(sI hF12),(hf5.a 3 0 (hf5.a 4 1 (hf5.a 6 2 (hf5.a 8 3 (hf5.a 9 4 (hf5.a 13 5 (hf5.a 14 6 (hf5.a 108 7 (hf5.a 109 8 (hf5.a 110 9 fn_)))))))))),hD11,hl3,hD12,ho14,(hS140.sg 9 [0,1,2,3,4])⟩
     rintro f w ⟨met3,list3,D9,B31,c32,D10,rfl,hf6,hD13,hl4,hD14,ho15,hS97⟩
     refine cr ?_
     refine sQ 167 (zP rfl (hf6.g 110 9))<|sQ 110 yv (rn ?_)
     obtain rfl:=sI hF10
     exact ⟨k_8,Nat.lt_succ_self _,i4+1,met3,list3,D9,B31,c32,D10,(hf6.a 3 0 (hf6.a 4 1 (hf6.a 6 2 (hf6.a 8 3 (hf6.a 9 4 (hf6.a 13 5 (hf6.a 14 6 (hf6.a 108 7 (hf6.a 109 8 (fc (congrArg (Value.int .i64) (wr_succ hlt3 hN1)) fn_)))))))))),hD13,hl4,hD14,ho15,(hS97.sg 5 [0,1,2,3,4]),(by omega),hL7⟩
    ·skip
     obtain rfl:K146=0:=by have h:=of_decide_eq_false hlt2; omega
     refine cw_exit rfl ?_
     obtain rfl:=sI hL6
     refine cr ?_
     refine sQ 70 (yv rfl (hf5.g 14 6))<|sQ 71 zP<|sQ 14 yu (rn ?_)
     obtain rfl:=sI hF9
     have hS141:ST w0 [] _ (O2::O0::O1::⟨aD b3,31,(D7.flatMap eN3),3125*1⟩::⟨B30,123,(D8.flatMap eN6),c31*4⟩::(D7.map (orow 3 encI 1))) (R36::R35::⟨B2,(D.flatMap eN3)⟩::((D.flatMap eN4)++((D8.flatMap eN5)++[]))):=hS96.sR 6 [3,4,5]
     exact ⟨K22,Nat.lt_succ_self _,met2,list2,(i64.wrap (i3+1)),D7,B30,c31,D8,(hf5.a 3 0 (hf5.a 4 1 (hf5.a 6 2 (hf5.a 8 3 (hf5.a 9 4 (hf5.a 13 5 (fc rfl fn_))))))),hD11,hl3,hD12,ho14,(hS141.sg 5 [0,1,2,3,4]),hL3⟩
  ·skip
   have hF13:=cf' hb1 hb2
   refine cw_exit rfl ?_
   obtain rfl:=sI hF13
   obtain rfl:=sI hL3
   refine cq (cr ?_)
   refine sQ 168 (Y_buildS (zs:=V61) (vs:=[]) (cs:=V61) ET K61 rfl mpn rfl) ?_
   refine s0 (yK 2 2 0 hS61 K25 rfl (hf2.g 6 2)) ?_
   rintro _ w_57 ⟨rfl,hS142⟩
   refine sQ 7 yu (rn (ct_ ?_))
   have hS143:=hS142.addNil 3
   let O29:Ob:=⟨aD b3,31,(D4.flatMap eN3),3125*1⟩
   let O30:Ob:=⟨B14,123,(D5.flatMap eN6),c15*4⟩
   let O31:Ob:=⟨none,3,([].flatMap encI),0*1⟩
   have hS144:ST w0 [] _ (O2::O0::O1::O29::O30::O31::(D4.map (orow 3 encI 1))) (R36::R35::⟨B2,(D.flatMap eN3)⟩::((D.flatMap eN4)++((D5.flatMap eN5)++[]))):=ST.rot (pre:=[O2,O0,O1,O29,O30]) (G:=(D4.map (orow 3 encI 1))) (xs:=[O31]) hS143
   have hS145:=hS144.addNil 39
   have hS146:ST w0 [] _ (O2::O0::O1::O29::O30::O31::⟨none,39,([].flatMap eN2),0*3⟩::(D4.map (orow 3 encI 1))) (R36::R35::⟨B2,(D.flatMap eN3)⟩::((D.flatMap eN4)++((D5.flatMap eN5)++[]))):=ST.rot (pre:=[O2,O0,O1,O29,O30,O31]) (G:=(D4.map (orow 3 encI 1))) (xs:=[⟨none,39,([].flatMap eN2),0*3⟩]) hS145
   obtain ⟨rfl,rfl⟩:=pr2 (sI hF2)
   exact ret2 Tryz.results29 (rX K46 K25 (hS146.c 2) (hf2.g 6 2)) rT ⟨none,0,none,0,rfl,(hS146.sN [5,6])⟩

theorem SN (g:Ae) (n1:Int) (B:Option Addr) (c n:Nat) (w0:World) (hn:g.Edges.length=n) (hS:ST w0 [] w0 [] [⟨B,(g.Edges.flatMap eN1)⟩]) {r_:List (List Int)} (hF:EG g n1=some r_) :
  CV Tryz.prog 30 #[.agg #[vi g.Nodes,.slice B n c],vi n1] w0 (fun v w'=>∃ (B1:Option Addr) (c1:Nat) (D:List (Hd×(List Int))),v=.slice B1 r_.length c1∧D.map Prod.snd=r_∧Org w0 [] [⟨B,(g.Edges.flatMap eN1)⟩] (((D.flatMap eN4)++[]))∧ST w0 [] w' [⟨B1,31,(D.flatMap eN3),c1*1⟩] (((D.flatMap eN4)++[]))):=by
 subst hn
 unfold EG at hF
 refine cv_of_cw 42 Tryz.func30 rfl Tryz.ntmps30 rfl ?_
 refine cq (cr ?_)
 refine sS 2 (yV [vi g.Nodes,.slice B g.Edges.length c] 2 hS) ?_
 rintro _ w_ ⟨b,rfl,hS1⟩
 refine sQ 4 yu (rn (cq (cr ?_)))
 let O0:Ob:=⟨aD b,25,[vi g.Nodes,.slice B g.Edges.length c],2⟩
 let R1:Ro:=⟨B,(g.Edges.flatMap eN1)⟩
 let R2:Ro:=⟨none,([].flatMap encI)⟩
 have hS2:ST w0 [] _ [O0] [R2,R1]:=ST.nilRo hS1
 refine sS 10 (yF 1 1 [.slice none 0 0] 1 hS2 K67 K16 Px rfl (mpc rfl mpn)) ?_
 rintro _ w_1 ⟨b1,rfl,hS3⟩
 have hm:∀ r∈(([((none,0),[])]:List (Hd×(List Int))).flatMap eN4),r∈([R2,R1]:List Ro):=(fsub_cons (sk 0 (fun _ h=>by cases h)) fsub_nil)
 have ho:Org w0 [] [R1] (([((none,0),[])]:List (Hd×(List Int))).flatMap eN4):=(forg_cons (org_cons org_none org_nil) forg_nil)
 have hS4:ST w0 [] _ [O0,⟨aD b1,31,(([((none,0),[])]:List (Hd×(List Int))).flatMap eN3),1*1⟩] (R2::R1::((([((none,0),[])]:List (Hd×(List Int))).flatMap eN4)++[])):=ST.subR hS3 (sk 0 (sk 1 (suba hm (fun _ h=>by cases h))))
 refine sQ 5 yu (rn (cq ?_))
 obtain ⟨z,hz,hF1⟩:=bI hF
 refine cw_block ?_
 refine cw_loop (fun k f w=>∃ (n2:Int) (out:List (List Int)) (B2:Option Addr) (c2:Nat) (D1:List (Hd×(List Int))),FF f [(1,vi n2),(2,pt (aD b) 0),(5,.slice B2 out.length c2)]∧D1.map Prod.snd=out∧Org w0 [] [R1] (D1.flatMap eN4)∧ST w0 [] w [O0,⟨B2,31,(D1.flatMap eN3),c2*1⟩] (R2::R1::((D1.flatMap eN4)++[]))∧whX (E7 g) k (n2,out)=some z) fuel ⟨n1,([[]]:List (List Int)),aD b1,1,([((none,0),[])]:List (Hd×(List Int))),(fc rfl (fc rfl (fc rfl fn_))),(show List.map Prod.snd ([((none,0),[])]:List (Hd×(List Int)))=([[]]:List (List Int)) from rfl),ho,(hS4.sel [0,1] rfl rfl),hz⟩ ?_
 rintro k_ f w ⟨n2,out,B2,c2,D1,hf,hD1,ho1,hS5,hL⟩
 obtain ⟨K2,y,rfl,hb,hL1⟩:=whX_go hL
 unfold E7 at hb
 refine cq (cq (cr ?_))
 refine sQ 11 (yv rfl (hf.g 1 0))<|sQ 12 (Y_gt rfl rfl rfl) (rn ?_)
 refine cw_cond rfl (fun hb1=>?_) (fun hb1=>?_)
 ·skip
  have hF2:=ct hb hb1
  refine cw_skip (cq (cw_block (cq (cr ?_))))
  refine sQ 6 yu (rn (cq (cq (cr ?_))))
  refine sQ 15 (yv rfl (hf.g 5 2))<|sQ 16 (Y_len K67 rfl rfl)<|sQ 17 yv (rn ?_)
  obtain ⟨hN,hF2⟩:=chk_inv hF2
  obtain ⟨z1,hz1,hF3⟩:=bI hF2
  have hS7:=hS5.addNil 31
  have hS8:ST w0 [] _ [O0,⟨B2,31,(D1.flatMap eN3),c2*1⟩,⟨none,31,(([]:List (Hd×(List Int))).flatMap eN3),0*1⟩] (R2::R1::((([]:List (Hd×(List Int))).flatMap eN4)++((D1.flatMap eN4)++[]))):=ST.subR hS7 (sk 0 (sk 1 (suba fsub_nil (suba (fun r_ (h:r_∈((D1.flatMap eN4):List Ro))=>mOd (i:=2) (show r_∈((((D1.flatMap eN4)++[])):List Ro) from mAl _ h)) (fun _ h=>by cases h)))))
  refine cw_block ?_
  refine cw_loop (fun k f w=>∃ (i:Nat) (next_:List (List Int)) (B3:Option Addr) (c3:Nat) (D2:List (Hd×(List Int))) (D3:List (Hd×(List Int))),FF f [(1,vi n2),(2,pt (aD b) 0),(6,.slice B3 next_.length c3),(15,.slice B2 out.length c2),(16,vi (out.length:Int)),(17,vi (i:Int))]∧D2.map Prod.snd=next_∧Org w0 [] [R1] (D2.flatMap eN4)∧D3.map Prod.snd=out∧Org w0 [] [R1] (D3.flatMap eN4)∧ST w0 [] w [O0,⟨B3,31,(D2.flatMap eN3),c3*1⟩,⟨B2,31,(D3.flatMap eN3),c2*1⟩] (R2::R1::((D2.flatMap eN4)++((D3.flatMap eN4)++[])))∧i+k=out.length∧forN (FY out g) k i next_=some z1) out.length ⟨0,([]:List (List Int)),none,0,([]:List (Hd×(List Int))),D1,(hf.a 1 0 (hf.a 2 1 (fc rfl (fc rfl (fc rfl (fc rfl fn_)))))),rfl,forg_nil,hD1,ho1,(hS8.sel [0,2,1] rfl rfl),Nat.zero_add _,hz1⟩ ?_
  rintro K11 f w ⟨i,next_,B3,c3,D2,D3,hf1,hD2,ho2,hD3,ho3,hS6,hik1,hL2⟩
  refine cq (cr ?_)
  refine sQ 18 (zL rfl (hf1.g 17 5) (hf1.g 16 4)) (rn (cq ?_))
  refine cw_cond rfl (fun hlt=>?_) (fun hlt=>?_)
  ·skip
   have hlt1:i<out.length:=by have h:=of_decide_eq_true hlt; omega
   obtain ⟨K22,rfl⟩:∃ k2,K11=k2+1:=⟨K11-1,by omega⟩
   obtain ⟨y1,hb2,hL3⟩:=forN_go hL2
   unfold FY at hb2
   refine cw_skip (cq (cw_block (cq (cr ?_))))
   obtain ⟨x,hx,hb2⟩:=bI hb2
   obtain ⟨⟨B4,c4⟩,hp⟩:=getI_snd hD3 hx
   refine sQ 19 (yI B2 (i:Int) K67 K16 (gi_isSome AJ rfl (hS6.c 2) hp) (getI_nn hp) (getI_ltI hp (dl_len hD3)) rfl (hf1.g 15 3) (hf1.g 17 5)) ?_
   let R3:Ro:=⟨B4,(x.flatMap encI)⟩
   have hm1:(R3:Ro)∈((R2::R1::((D2.flatMap eN4)++((D3.flatMap eN4)++[]))):List Ro):=app_mem (fun r_ (h:r_∈((D3.flatMap eN4):List Ro))=>mOd (i:=2) (show r_∈((((D2.flatMap eN4)++((D3.flatMap eN4)++[]))):List Ro) from mAr _ (mAl _ h))) (row_mem (rw_:=eN4) hp _ (mt 0))
   have hS9:ST w0 [] _ [O0,⟨B3,31,(D2.flatMap eN3),c3*1⟩,⟨B2,31,(D3.flatMap eN3),c2*1⟩] (R3::R2::R1::((D2.flatMap eN4)++((D3.flatMap eN4)++[]))):=ST.subR hS6 (subc hm1 (fun _ h=>h))
   refine sQ 20 (yz ((i:Int).toNat*1) K23 (hS9.c 2) rfl rfl (gi_at0 AJ hp rfl))<|sQ 8 yu (rn (cq (cr ?_)))
   refine sQ 9 yu (rn ?_)
   obtain ⟨hN1,hb2⟩:=chk_inv hb2
   obtain ⟨z2,hz2,hF4⟩:=bI hb2
   refine cw_block ?_
   refine cw_loop (fun k f w=>∃ (K4:Nat) (next_1:List (List Int)) (B5:Option Addr) (c5:Nat) (D4:List (Hd×(List Int))) (D5:List (Hd×(List Int))),FF f [(1,vi n2),(2,pt (aD b) 0),(6,.slice B5 next_1.length c5),(8,.slice B4 x.length c4),(9,vi (K4:Int)),(15,.slice B2 out.length c2),(16,vi (out.length:Int)),(17,vi (i:Int))]∧D4.map Prod.snd=next_1∧Org w0 [] [R1] (D4.flatMap eN4)∧D5.map Prod.snd=out∧Org w0 [] [R1] (D5.flatMap eN4)∧ST w0 [] w [O0,⟨B5,31,(D4.flatMap eN3),c5*1⟩,⟨B2,31,(D5.flatMap eN3),c2*1⟩] (R3::R2::R1::((D4.flatMap eN4)++((D5.flatMap eN4)++[])))∧K4+k=g.Nodes.toNat∧forN (DN x) k K4 next_1=some z2) g.Nodes.toNat ⟨0,next_,B3,c3,D2,D3,(hf1.a 1 0 (hf1.a 2 1 (hf1.a 6 2 (fc rfl (fc rfl (hf1.a 15 3 (hf1.a 16 4 (hf1.a 17 5 fn_)))))))),hD2,ho2,hD3,ho3,(hS9.sel [0,1,2] rfl rfl),Nat.zero_add _,hz2⟩ ?_
   rintro K102 f w ⟨K4,next_1,B5,c5,D4,D5,hf2,hD4,ho4,hD5,ho5,hS10,hik2,hL4⟩
   refine cq (cq (cr ?_))
   refine sQ 21 (yv rfl (hf2.g 9 4))<|sQ 22 (yd (aD b) 0 0 K45 K0 rfl (hf2.g 2 1))<|sQ 23 (yz 0 K1 (hS10.c 0))<|sQ 24 zL (rn ?_)
   refine cw_cond rfl (fun hlt2=>?_) (fun hlt2=>?_)
   ·skip
    have hlt3:K4<g.Nodes.toNat:=by have h:=of_decide_eq_true hlt2; omega
    obtain ⟨K145,rfl⟩:∃ k2,K102=k2+1:=⟨K102-1,by omega⟩
    obtain ⟨y2,hb3,hL5⟩:=forN_go hL4
    unfold DN at hb3
    refine cw_skip (cq ?_)
    obtain ⟨z3,hz3,hF5⟩:=bI hb3
    refine cw_mid (fun f w=>∃ (next_2:List (List Int)) (B6:Option Addr) (c6:Nat) (D6:List (Hd×(List Int))),next_2=z3∧FF f [(1,vi n2),(2,pt (aD b) 0),(6,.slice B6 next_2.length c6),(8,.slice B4 x.length c4),(9,vi (K4:Int)),(15,.slice B2 out.length c2),(16,vi (out.length:Int)),(17,vi (i:Int))]∧D6.map Prod.snd=next_2∧Org w0 [] [R1] (D6.flatMap eN4)∧ST w0 [] w [O0,⟨B6,31,(D6.flatMap eN3),c6*1⟩,⟨B2,31,(D5.flatMap eN3),c2*1⟩] (R3::R2::R1::((D6.flatMap eN4)++((D5.flatMap eN4)++[])))) ?_ ?_
    ·skip
     refine cw_block (cq (cr ?_))
     refine sQ 27 (yv rfl (hf2.g 8 3))<|sQ 28 (yv rfl (hf2.g 9 4)) ?_
     obtain ⟨r_1,hc,hz3⟩:=bI hz3
     refine sc 29 rfl rfl (yc GG (Hh x (K4:Int) B4 c4 x.length _ rfl (hS10.inn0 [(true,0)] rfl) hc)) ?_
     rintro _ w_2 ⟨rfl,hd⟩
     have hS12:=hS10.out00 hd
     refine sQ 30 yn (rn ?_)
     refine cw_cond rfl (fun hb4=>?_) (fun hb4=>?_)
     ·skip
      have hF6:=ct hz3 hb4
      refine cr ?_
      refine sQ 31 (yv rfl (hf2.g 6 2))<|sQ 32 (yv rfl (hf2.g 8 3)) ?_
      obtain ⟨r_2,hc1,hF6⟩:=bI hF6
      refine sc 33 rfl rfl (yc GR (HC x B4 c4 x.length _ rfl (hS12.inn0 [(true,0)] rfl) hc1)) ?_
      rintro _ w_3 ⟨B7,c7,rfl,hd1⟩
      have hS13:=hS12.out0 hd1
      refine sQ 34 (yv rfl (hf2.g 9 4)) ?_
      refine sS 35 (yF 1 1 [vi (K4:Int)] 1 hS13 K5 K0 K52 rfl (mpc rfl mpn)) ?_
      rintro _ w_4 ⟨b2,rfl,hS14⟩
      obtain ⟨hap,hF6⟩:=chk_inv hF6
      refine sS 36 (aP 1 8 3 r_2 [(K4:Int)] hS14 K5 K0 K83 K75 encI_len encI_one (hS14.c 4) hap) ?_
      rintro _ w_5 ⟨B8,c8,rfl,hS15⟩
      have ho7:Org w0 [] [R1] [⟨B8,((r_2++[(K4:Int)]).flatMap encI)⟩]:=ST.orgOwn hS15 (i:=3) rfl
      have hcap:(r_2++[(K4:Int)]).length≤c8:=(hS15.lencap (i:=3) rfl (fm_lenn (l:=(r_2++[(K4:Int)])) encI_len rfl) rfl rfl)
      have hS16:ST w0 [] _ [O0,⟨B5,31,(D4.flatMap eN3),c5*1⟩,⟨B2,31,(D5.flatMap eN3),c2*1⟩,⟨aD b2,3,([(K4:Int)].flatMap encI),1*1⟩] (⟨B8,((r_2++[(K4:Int)]).flatMap encI)⟩::R3::R2::R1::((D4.flatMap eN4)++((D5.flatMap eN4)++[]))):=hS15.freeze (i:=3) rfl
      refine sS 37 (yF 1 1 [.slice B8 ((r_2++[(K4:Int)]).length) c8] 1 hS16 K67 K16 Px rfl (mpc rfl mpn)) ?_
      rintro _ w_6 ⟨b3,rfl,hS17⟩
      have hm2:∀ r∈(([((B8,c8),(r_2++[(K4:Int)]))]:List (Hd×(List Int))).flatMap eN4),r∈((⟨B8,((r_2++[(K4:Int)]).flatMap encI)⟩::R3::R2::R1::((D4.flatMap eN4)++((D5.flatMap eN4)++[]))):List Ro):=(fsub_cons (sk 0 (fun _ h=>by cases h)) fsub_nil)
      have ho8:Org w0 [] [R1] (([((B8,c8),(r_2++[(K4:Int)]))]:List (Hd×(List Int))).flatMap eN4):=(forg_cons (org_cons ho7 org_nil) forg_nil)
      have hS18:ST w0 [] _ [O0,⟨B5,31,(D4.flatMap eN3),c5*1⟩,⟨B2,31,(D5.flatMap eN3),c2*1⟩,⟨aD b2,3,([(K4:Int)].flatMap encI),1*1⟩,⟨aD b3,31,(([((B8,c8),(r_2++[(K4:Int)]))]:List (Hd×(List Int))).flatMap eN3),1*1⟩] (⟨B8,((r_2++[(K4:Int)]).flatMap encI)⟩::R3::R2::R1::((([((B8,c8),(r_2++[(K4:Int)]))]:List (Hd×(List Int))).flatMap eN4)++((D4.flatMap eN4)++((D5.flatMap eN4)++[])))):=ST.subR hS17 (sk 0 (sk 1 (sk 2 (sk 3 (suba hm2 (suba (fun r_ (h:r_∈((D4.flatMap eN4):List Ro))=>mOd (i:=4) (show r_∈((((D4.flatMap eN4)++((D5.flatMap eN4)++[]))):List Ro) from mAl _ h)) (suba (fun r_ (h:r_∈((D5.flatMap eN4):List Ro))=>mOd (i:=4) (show r_∈((((D4.flatMap eN4)++((D5.flatMap eN4)++[]))):List Ro) from mAr _ (mAl _ h))) (fun _ h=>by cases h))))))))
      obtain ⟨hap1,hF6⟩:=chk_inv hF6
      refine sS 38 (Ys_append (s:=1) (by':=24) (i:=1) (nn:=next_1.length) (c:=c5) (k:=1) (len:=(next_1++([(r_2++[(K4:Int)])]:List (List Int))).length) (B:=B5) (xs:=(([((B8,c8),(r_2++[(K4:Int)]))]:List (Hd×(List Int))).flatMap eN3)) (cs':=((D4++([((B8,c8),(r_2++[(K4:Int)]))]:List (Hd×(List Int)))).flatMap eN3)) hS18 K67 K16 N4 Og rfl (by decide) rfl rfl rfl rfl (fm_lenn (l:=D4) AJ (dl_len hD4)) rfl (hS18.c 4) (fm_lenn (l:=([((B8,c8),(r_2++[(K4:Int)]))]:List (Hd×(List Int)))) AJ rfl) (fm_one' (enc:=eN3) TI ([((B8,c8),(r_2++[(K4:Int)]))]:List (Hd×(List Int)))) (by have:=hap1; omega) (by have:=hap1; simp only [maxLen]; omega) (fm_app _ _) (dl_sum (dl_len hD4) rfl (dl_app hD4 (show List.map Prod.snd ([((B8,c8),(r_2++[(K4:Int)]))]:List (Hd×(List Int)))=([(r_2++[(K4:Int)])]:List (List Int)) from rfl)))) ?_
      rintro _ w_7 ⟨B9,c9,rfl,hS19⟩
      have ho9:Org w0 [] [R1] ((D4++([((B8,c8),(r_2++[(K4:Int)]))]:List (Hd×(List Int)))).flatMap eN4):=(forg_app ho4 ho8)
      have hS20:ST w0 [] _ [O0,⟨B9,31,((D4++([((B8,c8),(r_2++[(K4:Int)]))]:List (Hd×(List Int)))).flatMap eN3),c9*1⟩,⟨B2,31,(D5.flatMap eN3),c2*1⟩,⟨aD b2,3,([(K4:Int)].flatMap encI),1*1⟩,⟨aD b3,31,(([((B8,c8),(r_2++[(K4:Int)]))]:List (Hd×(List Int))).flatMap eN3),1*1⟩] (⟨B8,((r_2++[(K4:Int)]).flatMap encI)⟩::R3::R2::R1::(((D4++([((B8,c8),(r_2++[(K4:Int)]))]:List (Hd×(List Int)))).flatMap eN4)++((([((B8,c8),(r_2++[(K4:Int)]))]:List (Hd×(List Int))).flatMap eN4)++((D5.flatMap eN4)++[])))):=ST.subR hS19 (sk 0 (sk 1 (sk 2 (sk 3 (suba (fsub_app (fun r_ (h:r_∈((D4.flatMap eN4):List Ro))=>mOd (i:=4) (show r_∈((((([((B8,c8),(r_2++[(K4:Int)]))]:List (Hd×(List Int))).flatMap eN4)++((D4.flatMap eN4)++((D5.flatMap eN4)++[])))):List Ro) from mAr _ (mAl _ h))) (fun r_ (h:r_∈((([((B8,c8),(r_2++[(K4:Int)]))]:List (Hd×(List Int))).flatMap eN4):List Ro))=>mOd (i:=4) (show r_∈((((([((B8,c8),(r_2++[(K4:Int)]))]:List (Hd×(List Int))).flatMap eN4)++((D4.flatMap eN4)++((D5.flatMap eN4)++[])))):List Ro) from mAl _ h))) (suba (fun r_ (h:r_∈((([((B8,c8),(r_2++[(K4:Int)]))]:List (Hd×(List Int))).flatMap eN4):List Ro))=>mOd (i:=4) (show r_∈((((([((B8,c8),(r_2++[(K4:Int)]))]:List (Hd×(List Int))).flatMap eN4)++((D4.flatMap eN4)++((D5.flatMap eN4)++[])))):List Ro) from mAl _ h)) (suba (fun r_ (h:r_∈((D5.flatMap eN4):List Ro))=>mOd (i:=4) (show r_∈((((([((B8,c8),(r_2++[(K4:Int)]))]:List (Hd×(List Int))).flatMap eN4)++((D4.flatMap eN4)++((D5.flatMap eN4)++[])))):List Ro) from mAr _ (mAr _ (mAl _ h)))) (fun _ h=>by cases h))))))))
      refine sQ 6 yu (rn ?_)
      have hS21:ST w0 [] _ [O0,⟨B9,31,((D4++([((B8,c8),(r_2++[(K4:Int)]))]:List (Hd×(List Int)))).flatMap eN3),c9*1⟩,⟨B2,31,(D5.flatMap eN3),c2*1⟩,⟨aD b2,3,([(K4:Int)].flatMap encI),1*1⟩,⟨aD b3,31,(([((B8,c8),(r_2++[(K4:Int)]))]:List (Hd×(List Int))).flatMap eN3),1*1⟩] (R3::R2::R1::(((D4++([((B8,c8),(r_2++[(K4:Int)]))]:List (Hd×(List Int)))).flatMap eN4)++((D5.flatMap eN4)++[]))):=ST.subR hS20 (sk 1 (sk 2 (sk 3 (suba (fun r_ (h:r_∈(((D4++([((B8,c8),(r_2++[(K4:Int)]))]:List (Hd×(List Int)))).flatMap eN4):List Ro))=>mOd (i:=4) (show r_∈(((((D4++([((B8,c8),(r_2++[(K4:Int)]))]:List (Hd×(List Int)))).flatMap eN4)++((([((B8,c8),(r_2++[(K4:Int)]))]:List (Hd×(List Int))).flatMap eN4)++((D5.flatMap eN4)++[])))):List Ro) from mAl _ h)) (suba (fun r_ (h:r_∈((D5.flatMap eN4):List Ro))=>mOd (i:=4) (show r_∈(((((D4++([((B8,c8),(r_2++[(K4:Int)]))]:List (Hd×(List Int)))).flatMap eN4)++((([((B8,c8),(r_2++[(K4:Int)]))]:List (Hd×(List Int))).flatMap eN4)++((D5.flatMap eN4)++[])))):List Ro) from mAr _ (mAr _ (mAl _ h)))) (fun _ h=>by cases h))))))
      exact ⟨(next_1++([(r_2++[(K4:Int)])]:List (List Int))),B9,c9,(D4++([((B8,c8),(r_2++[(K4:Int)]))]:List (Hd×(List Int)))),(sI hF6),(hf2.a 1 0 (hf2.a 2 1 (fc rfl (hf2.a 8 3 (hf2.a 9 4 (hf2.a 15 5 (hf2.a 16 6 (hf2.a 17 7 fn_)))))))),(dl_app hD4 (show List.map Prod.snd ([((B8,c8),(r_2++[(K4:Int)]))]:List (Hd×(List Int)))=([(r_2++[(K4:Int)])]:List (List Int)) from rfl)),ho9,(hS21.sel [0,1,2] rfl rfl)⟩
     ·skip
      have hF7:=cf' hz3 hb4
      refine cw_skip ?_
      exact ⟨next_1,B5,c5,D4,(sI hF7),(hf2.a 1 0 (hf2.a 2 1 (hf2.a 6 2 (hf2.a 8 3 (hf2.a 9 4 (hf2.a 15 5 (hf2.a 16 6 (hf2.a 17 7 fn_)))))))),hD4,ho4,(hS12.sel [0,1,2] rfl rfl)⟩
    rintro f w ⟨next_2,B6,c6,D6,rfl,hf3,hD6,ho6,hS11⟩
    refine cr ?_
    refine sQ 25 (yv rfl (hf3.g 9 4))<|sQ 26 zP<|sQ 9 yu (rn ?_)
    obtain rfl:=sI hF5
    exact ⟨K145,Nat.lt_succ_self _,K4+1,next_2,B6,c6,D6,D5,(hf3.a 1 0 (hf3.a 2 1 (hf3.a 6 2 (hf3.a 8 3 (fc (congrArg (Value.int .i64) (wr_succ hlt3 hN1)) (hf3.a 15 5 (hf3.a 16 6 (hf3.a 17 7 fn_)))))))),hD6,ho6,hD5,ho5,(hS11.sel [0,1,2] rfl rfl),(by omega),hL5⟩
   ·skip
    obtain rfl:K102=0:=by have h:=of_decide_eq_false hlt2; omega
    refine cw_exit rfl ?_
    obtain rfl:=sI hL4
    refine cr ?_
    refine sQ 39 (zP rfl (hf2.g 17 7))<|sQ 17 yv (rn ?_)
    obtain rfl:=sI hF4
    have hS22:ST w0 [] _ [O0,⟨B5,31,(D4.flatMap eN3),c5*1⟩,⟨B2,31,(D5.flatMap eN3),c2*1⟩] (R2::R1::((D4.flatMap eN4)++((D5.flatMap eN4)++[]))):=hS10.sR 3 [1,2]
    exact ⟨K22,Nat.lt_succ_self _,i+1,next_1,B5,c5,D4,D5,(hf2.a 1 0 (hf2.a 2 1 (hf2.a 6 2 (hf2.a 15 5 (hf2.a 16 6 (fc (congrArg (Value.int .i64) (wr_succ hlt1 hN)) fn_)))))),hD4,ho4,hD5,ho5,(hS22.sel [0,1,2] rfl rfl),(by omega),hL3⟩
  ·skip
   obtain rfl:K11=0:=by have h:=of_decide_eq_false hlt; omega
   refine cw_exit rfl ?_
   obtain rfl:=sI hL2
   refine cr ?_
   refine sQ 40 (yv rfl (hf1.g 6 2))<|sQ 5 yu (rn (cr ?_))
   refine sQ 13 (yv rfl (hf1.g 1 0))<|sQ 14 zM<|sQ 1 yu (rn ?_)
   obtain rfl:=sI hF3
   have hS23:ST w0 [] _ [O0,⟨B3,31,(D2.flatMap eN3),c3*1⟩,⟨B2,31,(D3.flatMap eN3),c2*1⟩] (R2::R1::((D2.flatMap eN4)++[])):=ST.subR hS6 (sk 0 (sk 1 (suba (fun r_ (h:r_∈((D2.flatMap eN4):List Ro))=>mOd (i:=2) (show r_∈((((D2.flatMap eN4)++((D3.flatMap eN4)++[]))):List Ro) from mAl _ h)) (fun _ h=>by cases h))))
   exact ⟨K2,Nat.lt_succ_self _,(i64.wrap (n2-1)),next_,B3,c3,D2,(fc rfl (hf1.a 2 1 (fc rfl fn_))),hD2,ho2,(hS23.sel [0,1] rfl rfl),hL1⟩
 ·skip
  have hF8:=cf' hb hb1
  refine cw_exit rfl ?_
  obtain rfl:=sI hF8
  obtain rfl:=sI hL1
  refine cq (cr ?_)
  refine sQ 41 (yv rfl (hf.g 5 2))<|sQ 4 yu (rn (ct_ ?_))
  obtain rfl:=sI hF1
  exact ret1 Tryz.results30 rT ⟨B2,c2,D1,rfl,hD1,(org_app ho1 org_nil),((hS5.sel [1] rfl rfl).sR 2 [])⟩

theorem RS (g:Ae) (c1:Ad) (B:Option Addr) (c n:Nat) (B1:Option Addr) (c2 n1:Nat) (w0:World) (hn:g.Edges.length=n) (hn1:c1.Gates.length=n1) (hS:ST w0 [] w0 [] [⟨B,(g.Edges.flatMap eN1)⟩,⟨B1,(c1.Gates.flatMap eN0)⟩]) {r_:Am} {r_1:Bool} (hF:Ee g c1=some (r_,r_1)) :
  CV Tryz.prog 6 #[.agg #[vi g.Nodes,.slice B n c],.agg #[vi c1.Qubits,.slice B1 n1 c2]] w0 (fun v w'=>∃ (B2:Option Addr) (c3:Nat) (B3:Option Addr) (c4:Nat),v=.tuple #[.agg #[.slice B2 r_.Start.length c3,.slice B3 r_.Steps.length c4],.bool r_1]∧ST w0 [] w' [⟨B2,3,(r_.Start.flatMap encI),c3*1⟩,⟨B3,39,(r_.Steps.flatMap eN2),c4*3⟩] []):=by
 subst hn
 subst hn1
 unfold Ee at hF
 refine cv_of_cw 20 Tryz.func6 rfl Tryz.ntmps6 rfl ?_
 refine cq (cr ?_)
 refine sS 2 (yV [vi g.Nodes,.slice B g.Edges.length c] 2 hS) ?_
 rintro _ w_ ⟨b,rfl,hS1⟩
 refine sS 3 (yV [vi c1.Qubits,.slice B1 c1.Gates.length c2] 2 hS1) ?_
 rintro _ w_1 ⟨b1,rfl,hS2⟩
 let V0:List Value:=[.slice none 0 0,.slice none 0 0]
 refine sS 4 (yN V0 2 hS2 K61) ?_
 rintro _ w_2 ⟨b2,rfl,hS3⟩
 refine sQ 5 yu (rn (cq (cq (cr ?_))))
 refine sQ 6 (yw 0 K13 K8 (hS3.c 0))<|sQ 7 (yw 0 K10 K3 (hS3.c 1)) ?_
 obtain ⟨r_2,hc,hF⟩:=bI hF
 refine sc 8 rfl rfl (yc Qz (QL g c1 B c g.Edges.length B1 c2 c1.Gates.length _ rfl rfl (hS3.inn0 [(true,0),(true,1)] rfl) hc)) ?_
 rintro _ w_3 ⟨rfl,hd⟩
 have hS4:=hS3.out00 hd
 refine sQ 9 yn (rn ?_)
 refine cw_cond rfl (fun hb=>?_) (fun hb=>?_)
 ·skip
  have hF1:=ct hF hb
  refine cq (cr ?_)
  refine sQ 10 (Y_buildS (zs:=V0) (vs:=[]) (cs:=V0) ET K61 rfl mpn rfl) ?_
  refine s0 (yK 2 2 0 hS4 K25) ?_
  rintro _ w_4 ⟨rfl,hS5⟩
  refine sQ 5 yu (rn (ct_ ?_))
  have hS6:=hS5.addNil 3
  have hS7:=hS6.addNil 39
  obtain ⟨rfl,rfl⟩:=pr2 (sI hF1)
  exact ret2 Tryz.results6 (rX K46 K25 (hS7.c 2)) rT ⟨none,0,none,0,rfl,(hS7.sN [3,4])⟩
 ·skip
  have hF2:=cf' hF hb
  refine cw_skip (cq ?_)
  obtain ⟨r_3,hc1,hF2⟩:=bI hF2
  obtain ⟨⟨r_4,r_5⟩,hc2,hF2⟩:=bI hF2
  refine ra_start (hS4.se [0,1]).fn (by kernel_rfl) ?_
  have hS11:=hS4.drew
  have hQ0:=hS11.se [0,1]
  refine rq 0 11 rfl hQ0 (fun _ q=>(yw 0 K13 K8 (ST.c q 0)))<|rq 1 12 rfl hQ0 (fun _ q=>(yw 0 K10 K3 (ST.c q 1)))<|rq 2 13 rfl hQ0 (fun _ q=>(yw 0 K13 K8 (ST.c q 0)))<|rq 3 14 rfl hQ0 (fun _ q=>(yd (aD b1) 0 0 K42 K0))<|rq 4 15 rfl hQ0 (fun _ q=>(yz 0 K1 (ST.c q 1))) ?_
  refine rA [5] ?_
  refine rC 16 5 rfl (yc Sw (SN g c1.Qubits B c g.Edges.length _ rfl (hS11.inn0 [(true,0)] rfl) hc1)) ?_ aN
  rintro _ w_5 ⟨B4,c5,D,rfl,hD,ho,hd1⟩
  have hS12:=ST.outR0 hS11 hd1 ho (sk 0 (fun _ h=>by cases h))
  have ho2:Org w0 [] [⟨B,(g.Edges.flatMap eN1)⟩,⟨B1,(c1.Gates.flatMap eN0)⟩] (((D.flatMap eN4)++[])):=org_trans0 hS11 ho (org_cons (org_mem (i:=0) rfl) org_nil)
  have hS13:ST w0 [] _ [⟨aD b,25,[vi g.Nodes,.slice B g.Edges.length c],2⟩,⟨aD b1,28,[vi c1.Qubits,.slice B1 c1.Gates.length c2],2⟩,⟨aD b2,34,V0,2⟩,⟨B4,31,(D.flatMap eN3),c5*1⟩] (⟨B,(g.Edges.flatMap eN1)⟩::⟨B1,(c1.Gates.flatMap eN0)⟩::((D.flatMap eN4)++[])):=ST.subR hS12 (subc (mAr _ (mt 0)) (subc (mAr _ (mt 1)) (suba (fun r h=>mAl _ (app_mem (fun _ h=>mOd (i:=0) (mAl _ h)) h)) (fun _ h=>by cases h))))
  refine ⟨((hS13.se [0,1]).sT [0,1]),?_⟩
  refine rA [6] ?_
  refine rC 17 6 rfl (yc Tm (Tj g c1 r_3 B c g.Edges.length B1 c2 c1.Gates.length B4 c5 r_3.length D _ rfl rfl (dl_fl hD (dl_len hD)) hD (hS13.innR0 (srcR (mt 0) (srcR (mt 1) (srcO (i:=3) rfl (srcG (fun r_ (h:r_∈((D.flatMap eN4):List Ro))=>mOd (i:=2) (show r_∈((((D.flatMap eN4)++[])):List Ro) from mAl _ h)) (fun _ h=>by cases h)))))) hc2)) ?_ aN
  rintro _ w_6 ⟨B5,c6,B6,c7,rfl,hd2⟩
  have hS14:=hS13.out0 hd2
  have hQ1:=hS14.se [0,1]
  refine ⟨(hQ1.sT [0,1]),?_⟩
  refine rq 7 18 rfl (hQ1.sT [0,1]) (fun _ q=>(ye (.agg #[.slice B5 r_4.Start.length c6,.slice B6 r_4.Steps.length c7])))<|rq 8 19 rfl (hQ1.sT [0,1]) (fun _ q=>(ye (.bool r_5))) ?_
  refine rA [9] ?_
  refine rZ 9 rfl (yK 2 2 0 hS14 K25) ?_ aN
  rintro _ w_7 ⟨rfl,hS15⟩
  refine ⟨((hS15.se [0,1]).sT [0,1]),?_⟩
  refine rq 10 5 rfl ((hS15.se [0,1]).sT [0,1]) (fun _ q=>yu) ?_
  refine ra_done (by kernel_rfl) ?_
  refine ct_ ?_
  obtain ⟨rfl,rfl⟩:=pr2 (sI hF2)
  exact ret2 Tryz.results6 (rX K46 K25 (hS15.c 2)) rT ⟨B5,c6,B6,c7,rfl,(hS15.sN [4,5])⟩

theorem UJ (a:List Int) (b:List Int) (B:Option Addr) (c n:Nat) (B1:Option Addr) (c1 n1:Nat) (w0:World) (hn:a.length=n) (hn1:b.length=n1) (hS:ST w0 [] w0 [] [⟨B,(a.flatMap encI)⟩,⟨B1,(b.flatMap encI)⟩]) {r_:Bool} (hF:DX a b=some r_) :
  CV Tryz.prog 7 #[.slice B n c,.slice B1 n1 c1] w0 (fun v w'=>v=.bool r_∧ST w0 [] w' [] []):=by
 subst hn
 subst hn1
 unfold DX at hF
 refine cv_of_cw 26 Tryz.func7 rfl Tryz.ntmps7 rfl ?_
 refine cq (cr ?_)
 refine sQ 4 yu (rn (cq (cq (cr ?_))))
 refine sQ 6 yv<|sQ 7 (Y_len K5 rfl rfl)<|sQ 8 yv<|sQ 9 (Y_len K5 rfl rfl)<|sQ 10 (Y_ne rfl rfl rfl) (rn ?_)
 refine cw_cond rfl (fun hb=>?_) (fun hb=>?_)
 ·skip
  have hF1:=ct hF hb
  refine cq (cr ?_)
  refine sQ 4 yu (rn (ct_ ?_))
  obtain rfl:=sI hF1
  exact e1 Tryz.results7 (hS.sN [])
 ·skip
  have hF2:=cf' hF hb
  refine cw_skip (cq (cq (cr ?_)))
  refine sQ 11 yv<|sQ 12 (Y_len K5 rfl rfl)<|sQ 13 yv (rn ?_)
  obtain ⟨hN,hF2⟩:=chk_inv hF2
  obtain ⟨z,hz,hF3⟩:=bI hF2
  refine cw_block ?_
  refine cw_loop (fun k f w=>∃ (i:Nat),FF f [(0,.slice B a.length c),(1,.slice B1 b.length c1),(12,vi (a.length:Int)),(13,vi (i:Int))]∧ST w0 [] w [] [⟨B,(a.flatMap encI)⟩,⟨B1,(b.flatMap encI)⟩]∧i+k=a.length∧forX (GL a b) k i ()=some z) a.length ⟨0,(fc rfl (fc rfl (fc rfl (fc rfl fn_)))),(hS.sel [] rfl rfl),Nat.zero_add _,hz⟩ ?_
  rintro k_ f w ⟨i,hf,hS1,hik,hL⟩
  refine cq (cr ?_)
  refine sQ 14 (zL rfl (hf.g 13 3) (hf.g 12 2)) (rn (cq ?_))
  refine cw_cond rfl (fun hlt=>?_) (fun hlt=>?_)
  ·skip
   have hlt1:i<a.length:=by have h:=of_decide_eq_true hlt; omega
   obtain ⟨K2,rfl⟩:∃ k2,k_=k2+1:=⟨k_-1,by omega⟩
   obtain ⟨y,hb1,hL1⟩:=forX_go hL
   unfold GL at hb1
   refine cw_skip (cq (cw_block (cq (cr ?_))))
   refine sQ 15 (yv rfl (hf.g 13 3))<|sQ 5 yu (rn (cq ?_))
   obtain ⟨x,hx,hb1⟩:=bI hb1
   obtain ⟨x1,hx1,hb1⟩:=bI hb1
   refine ra_start (hS1.se []).fn (by kernel_rfl) ?_
   have hS2:=hS1.drew
   have hQ0:=hS2.se []
   refine rq 0 16 rfl hQ0 (fun _ q=>(yv rfl (hf.g 0 0)))<|rq 1 17 rfl hQ0 (fun _ q=>yv)<|rq 2 18 rfl hQ0 (fun _ q=>(yI B (i:Int) K5 K0 (gi_isSome encI_len rfl (ST.rf q (i:=0) rfl) hx) (getI_nn hx) (getI_ltI hx rfl)))<|rq 3 19 rfl hQ0 (fun _ q=>(yz ((i:Int).toNat*1) K1 (ST.rf q (i:=0) rfl) rfl rfl (gi_at0 encI_len hx rfl)))<|rq 4 20 rfl hQ0 (fun _ q=>(yv rfl (hf.g 1 1))) ?_
   refine rq 5 21 rfl hQ0 (fun _ q=>yv)<|rq 6 22 rfl hQ0 (fun _ q=>(yI B1 (i:Int) K5 K0 (gi_isSome encI_len rfl (ST.rf q (i:=1) rfl) hx1) (getI_nn hx1) (getI_ltI hx1 rfl)))<|rq 7 23 rfl hQ0 (fun _ q=>(yz ((i:Int).toNat*1) K1 (ST.rf q (i:=1) rfl) rfl rfl (gi_at0 encI_len hx1 rfl)))<|rq 8 24 rfl hQ0 (fun _ q=>(Y_ne rfl rfl rfl)) ?_
   refine ra_done (by kernel_rfl) ?_
   refine cw_cond rfl (fun hb2=>?_) (fun hb2=>?_)
   ·skip
    have hF4:=ct hb1 hb2
    refine cq (cr ?_)
    refine sQ 4 yu (rn (ct_ ?_))
    obtain rfl:=sI hF4
    obtain rfl:=sI hL1
    obtain rfl:=sI hF3
    exact e1 Tryz.results7 (hS2.sN [])
   ·skip
    have hF5:=cf' hb1 hb2
    refine cw_skip (cr ?_)
    refine sQ 25 (zP rfl (hf.g 13 3))<|sQ 13 yv (rn ?_)
    obtain rfl:=sI hF5
    exact ⟨K2,Nat.lt_succ_self _,i+1,(hf.a 0 0 (hf.a 1 1 (hf.a 12 2 (fc (congrArg (Value.int .i64) (wr_succ hlt1 hN)) fn_)))),(hS2.sel [] rfl rfl),(by omega),hL1⟩
  ·skip
   obtain rfl:k_=0:=by have h:=of_decide_eq_false hlt; omega
   refine cw_exit rfl ?_
   obtain rfl:=sI hL
   refine cq (cr ?_)
   refine sQ 4 yu (rn (ct_ ?_))
   obtain rfl:=sI hF3
   exact e1 Tryz.results7 (hS1.sN [])

theorem Nb (code:List Int) (B:Option Addr) (c n:Nat) (w0:World) (hn:code.length=n) (hS:ST w0 [] w0 [] [⟨B,(code.flatMap enc_u8)⟩]) {r_:Ae} {r_1:Ad} {r_2:List Int} (hF:Eg code=some (r_,r_1,r_2)) :
  CV Tryz.prog 9 #[.slice B n c] w0 (fun v w'=>∃ (B1:Option Addr) (c1:Nat) (B2:Option Addr) (c2:Nat) (B3:Option Addr) (c3:Nat),v=.tuple #[.agg #[vi r_.Nodes,.slice B1 r_.Edges.length c1],.agg #[vi r_1.Qubits,.slice B2 r_1.Gates.length c2],.slice B3 r_2.length c3]∧r_2.length≤c3∧Org w0 [] [⟨B,(code.flatMap enc_u8)⟩] [⟨B3,(r_2.flatMap encI)⟩]∧ST w0 [] w' [⟨B1,118,(r_.Edges.flatMap eN1),c1*2⟩,⟨B2,73,(r_1.Gates.flatMap eN0),c2*3⟩] [⟨B3,(r_2.flatMap encI)⟩]):=by
 subst hn
 unfold Eg at hF
 refine cv_of_cw 14 Tryz.func9 rfl Tryz.ntmps9 rfl ?_
 refine cq (cr ?_)
 refine sS 2 (yN [vi 0,.slice none 0 0] 2 hS K44) ?_
 rintro _ w_ ⟨b,rfl,hS1⟩
 refine sS 3 (yN [vi 0,.slice none 0 0] 2 hS1 K27) ?_
 rintro _ w_1 ⟨b1,rfl,hS2⟩
 refine sQ 4 yu (rn (cq (cr ?_)))
 refine sQ 6 yv<|sQ 7 (Y_buildS (zs:=[.slice none 0 0,vi 0,.int .u64 0]) (vs:=[(0,.slice B code.length c)]) (cs:=[.slice B code.length c,vi 0,.int .u64 0]) MG MM rfl (mpc rfl mpn) rfl) ?_
 refine sS 8 (yV [.slice B code.length c,vi 0,.int .u64 0] 3 hS2) ?_
 rintro _ w_2 ⟨b2,rfl,hS3⟩
 refine sQ 5 yu (rn (cq (cr ?_)))
 refine sQ 9 yv ?_
 obtain ⟨⟨r_3,r_4,r_5,m⟩,hc,hF⟩:=bI hF
 refine sc 10 rfl rfl (yc Qb (Lq (Ag.mk code 0 0) (aD b2) B c code.length _ rfl (hS3.inn [false,false,true] rfl [(true,0)] rfl) hc)) ?_
 rintro _ w_3 ⟨B4,c4,B5,c5,B6,c6,rfl,hq,ho,hd⟩
 have hS4:=ST.outR hS3 [false,false,true] rfl hd ho (sk 0 (fun _ h=>by cases h))
 have ho1:Org w0 [] [⟨B,(code.flatMap enc_u8)⟩] [⟨B6,(r_5.flatMap encI)⟩]:=org_trans hS3 (msk_mem (mask:=[false,false,true]) rfl) ho (org_cons (org_mem (i:=0) rfl) org_nil)
 have hS5:ST w0 [] _ [⟨aD b,25,[vi 0,.slice none 0 0],2⟩,⟨aD b1,28,[vi 0,.slice none 0 0],2⟩,⟨aD b2,68,[.slice B code.length c,vi m.at_,.int .u64 m.seed],3⟩,⟨B4,118,(r_3.Edges.flatMap eN1),c4*2⟩,⟨B5,73,(r_4.Gates.flatMap eN0),c5*3⟩] [⟨B6,(r_5.flatMap encI)⟩,⟨B,(code.flatMap enc_u8)⟩]:=hS4
 refine sQ 11 (ye (.agg #[vi r_3.Nodes,.slice B4 r_3.Edges.length c4]))<|sQ 12 (ye (.agg #[vi r_4.Qubits,.slice B5 r_4.Gates.length c5]))<|sQ 13 (ye (.slice B6 r_5.length c6)) ?_
 refine s0 (yK 0 2 0 hS5 K8) ?_
 rintro _ w_4 ⟨rfl,hS6⟩
 refine s0 (yK 1 2 0 hS6 K3) ?_
 rintro _ w_5 ⟨rfl,hS7⟩
 refine sQ 4 yu (rn (ct_ ?_))
 obtain ⟨rfl,rfl,rfl⟩:=pr3 (sI hF)
 exact ret3 Tryz.results9 (rX K13 K8 (hS7.c 0)) (rX K10 K3 (hS7.c 1)) rT ⟨B4,c4,B5,c5,B6,c6,rfl,(len_le rfl hq),(org_cons (org_sub ho1 (sk 0 (fun _ h=>by cases h))) org_nil),((hS7.sel [3,4] rfl rfl).sT [0])⟩

theorem QN (code:List Int) (B:Option Addr) (c n:Nat) (w0:World) (hn:code.length=n) (hS:ST w0 [] w0 [] [⟨B,(code.flatMap enc_u8)⟩]) {r_:Ae} {r_1:Ad} {r_2:List Int} (hF:F7 code=some (r_,r_1,r_2)) :
  CV Tryz.prog 8 #[.slice B n c] w0 (fun v w'=>∃ (B1:Option Addr) (c1:Nat) (B2:Option Addr) (c2:Nat) (B3:Option Addr) (c3:Nat),v=.tuple #[.agg #[vi r_.Nodes,.slice B1 r_.Edges.length c1],.agg #[vi r_1.Qubits,.slice B2 r_1.Gates.length c2],.slice B3 r_2.length c3]∧r_2.length≤c3∧Org w0 [] [⟨B,(code.flatMap enc_u8)⟩] [⟨B3,(r_2.flatMap encI)⟩]∧ST w0 [] w' [⟨B1,118,(r_.Edges.flatMap eN1),c1*2⟩,⟨B2,73,(r_1.Gates.flatMap eN0),c2*3⟩] [⟨B3,(r_2.flatMap encI)⟩]):=by
 subst hn
 unfold F7 at hF
 refine cv_of_cw 10 Tryz.func8 rfl Tryz.ntmps8 rfl ?_
 refine cq (cr ?_)
 refine sS 2 (yN [vi 0,.slice none 0 0] 2 hS K44) ?_
 rintro _ w_ ⟨b,rfl,hS1⟩
 refine sS 3 (yN [vi 0,.slice none 0 0] 2 hS1 K27) ?_
 rintro _ w_1 ⟨b1,rfl,hS2⟩
 refine sQ 4 yu (rn (cq (cr ?_)))
 refine sQ 5 yv ?_
 obtain ⟨⟨r_3,r_4,r_5⟩,hc,hF⟩:=bI hF
 refine sc 6 rfl rfl (yc PB (Nb code B c code.length _ rfl (hS2.inn0 [(true,0)] rfl) hc)) ?_
 rintro _ w_2 ⟨B4,c4,B5,c5,B6,c6,rfl,hq,ho,hd⟩
 have hS3:=ST.outR0 hS2 hd ho (sk 0 (fun _ h=>by cases h))
 have ho1:Org w0 [] [⟨B,(code.flatMap enc_u8)⟩] [⟨B6,(r_5.flatMap encI)⟩]:=org_trans0 hS2 ho (org_cons (org_mem (i:=0) rfl) org_nil)
 have hS4:ST w0 [] _ [⟨aD b,25,[vi 0,.slice none 0 0],2⟩,⟨aD b1,28,[vi 0,.slice none 0 0],2⟩,⟨B4,118,(r_3.Edges.flatMap eN1),c4*2⟩,⟨B5,73,(r_4.Gates.flatMap eN0),c5*3⟩] [⟨B6,(r_5.flatMap encI)⟩,⟨B,(code.flatMap enc_u8)⟩]:=hS3
 refine sQ 7 (ye (.agg #[vi r_3.Nodes,.slice B4 r_3.Edges.length c4]))<|sQ 8 (ye (.agg #[vi r_4.Qubits,.slice B5 r_4.Gates.length c5]))<|sQ 9 (ye (.slice B6 r_5.length c6)) ?_
 refine s0 (yK 0 2 0 hS4 K8) ?_
 rintro _ w_3 ⟨rfl,hS5⟩
 refine s0 (yK 1 2 0 hS5 K3) ?_
 rintro _ w_4 ⟨rfl,hS6⟩
 refine sQ 4 yu (rn (ct_ ?_))
 obtain ⟨rfl,rfl,rfl⟩:=pr3 (sI hF)
 exact ret3 Tryz.results8 (rX K13 K8 (hS6.c 0)) (rX K10 K3 (hS6.c 1)) rT ⟨B4,c4,B5,c5,B6,c6,rfl,(len_le rfl hq),(org_cons (org_sub ho1 (sk 0 (fun _ h=>by cases h))) org_nil),((hS6.sel [2,3] rfl rfl).sT [0])⟩

theorem Pa (list:List Int) (B:Option Addr) (c n:Nat) (w0:World) (hn:list.length=n) (hq:n≤c) (hS:ST w0 [] w0 [] [⟨B,(list.flatMap encI)⟩]) {r_:Bool} (hF:CO list=some r_) :
  CV Tryz.prog 32 #[.slice B n c] w0 (fun v w'=>v=.bool r_∧ST w0 [] w' [] []):=by
 subst hn
 unfold CO at hF
 refine cv_of_cw 23 Tryz.func32 rfl Tryz.ntmps32 rfl ?_
 refine cq (cr ?_)
 refine sQ 2 yu (rn (cq (cq (cr ?_))))
 refine sQ 5 yv<|sQ 6 (Y_len K5 rfl rfl)<|sQ 7 yv (rn ?_)
 obtain ⟨hN,hF⟩:=chk_inv hF
 obtain ⟨z,hz,hF1⟩:=bI hF
 refine cw_block ?_
 let R0:Ro:=⟨B,(list.flatMap encI)⟩
 refine cw_loop (fun k f w=>∃ (i:Nat),FF f [(0,.slice B list.length c),(5,.slice B list.length c),(6,vi (list.length:Int)),(7,vi (i:Int))]∧ST w0 [] w [] [R0]∧i+k=list.length∧forX (DY list) k i ()=some z) list.length ⟨0,(fc rfl (fc rfl (fc rfl (fc rfl fn_)))),(hS.sel [] rfl rfl),Nat.zero_add _,hz⟩ ?_
 rintro k_ f w ⟨i,hf,hS1,hik,hL⟩
 refine cq (cr ?_)
 refine sQ 8 (zL rfl (hf.g 7 3) (hf.g 6 2)) (rn (cq ?_))
 refine cw_cond rfl (fun hlt=>?_) (fun hlt=>?_)
 ·skip
  have hlt1:i<list.length:=by have h:=of_decide_eq_true hlt; omega
  obtain ⟨K2,rfl⟩:∃ k2,k_=k2+1:=⟨k_-1,by omega⟩
  obtain ⟨y,hb,hL1⟩:=forX_go hL
  unfold DY at hb
  refine cw_skip (cq (cw_block (cq (cr ?_))))
  refine sQ 9 (yv rfl (hf.g 7 3)) ?_
  obtain ⟨x,hx,hb⟩:=bI hb
  refine sQ 10 (yI B (i:Int) K5 K0 (gi_isSome encI_len rfl (hS1.rf (i:=0) rfl) hx) (getI_nn hx) (getI_ltI hx rfl) rfl (hf.g 5 1) (hf.g 7 3))<|sQ 11 (yz ((i:Int).toNat*1) K1 (hS1.rf (i:=0) rfl) rfl rfl (gi_at0 encI_len hx rfl))<|sQ 3 yu<|sQ 4 yu (rn (cq (cr ?_)))
  refine sQ 12 yv ?_
  obtain ⟨r_1,hc,hb⟩:=bI hb
  refine sc 13 rfl rfl (yc K53 (Bh x 0 4 _  (hS1.inn0 [] rfl) hc)) ?_
  rintro _ w_ ⟨rfl,hd⟩
  have hS2:=hS1.out00 hd
  refine sQ 14 yn<|sQ 15 yv ?_
  refine sgq 16 rfl rfl (uF_ 15) (fun hg=>(yv rfl (hf.g 0 0))) ?_
  refine sgq 17 rfl rfl (uF_ 15) (fun hg1=>yv) ?_
  refine rw_split (B:=(!(!r_1))) (fun hb1=>?_) (fun hb1=>?_)
  ·skip
   have hF2:=ct hb hb1
   obtain ⟨hsl,hF2⟩:=chk_inv hF2
   have hcap:list.length≤c:=hq
   have hv:(List.take i list).length=i:=(take_len rfl (by omega))
   have hq1:i≤c:=by omega
   have ho:Org w0 [] [R0] [⟨B,((List.take i list).flatMap encI)⟩]:=org_view encI_len (q:=c) (org_mem (i:=0) rfl) (sv_zero _ _ _).symm rfl
   have hS3:ST w0 [] _ [] [⟨B,((List.take i list).flatMap encI)⟩,R0]:=ST.view encI_len hS2 (i:=0) rfl (lo:=0) (h:=i) (q:=c) (by omega) (by omega) (sv_zero _ _ _).symm rfl
   refine sqg 18 rfl rfl (uF_ 15) hb1 (Y_slice0 (B:=B) (m:=list.length) (c:=c) (h:=i) (s:=1) K5 K0 rfl (gv_of hb1) (bnd_some (gv_of hb1) rfl) (by omega)) ?_
   refine sqg 19 rfl rfl (uF_ 15) hb1 yv ?_
   obtain ⟨r_2,hc1,hF2⟩:=bI hF2
   refine scg 20 rfl rfl (uF_ 15) hb1 (yc Hv (HK (List.take i list) x B c i _ hv (hS3.inn0 [(true,0)] rfl) hc1)) ?_
   rintro _ w_1 ⟨rfl,hd1⟩
   have hS4:=hS3.out00 hd1
   refine sQ 21 (Y_pickF (b:=(!r_1)) (v:=.bool r_2) rfl rfl (nt hb1) rfl) (rn ?_)
   refine cw_cond rfl (fun hb2=>?_) (fun hb2=>?_)
   ·skip
    have hF3:=ct hF2 hb2
    refine cq (cr ?_)
    refine sQ 2 yu (rn (ct_ ?_))
    obtain rfl:=sI hF3
    obtain rfl:=sI hL1
    obtain rfl:=sI hF1
    exact e1 Tryz.results32 (hS4.sN [])
   ·skip
    have hF4:=cf' hF2 hb2
    refine cw_skip (cr ?_)
    refine sQ 22 (zP rfl (hf.g 7 3))<|sQ 7 yv (rn ?_)
    obtain rfl:=sI hF4
    have hS5:ST w0 [] _ [] [R0]:=hS4.sT [1]
    exact ⟨K2,Nat.lt_succ_self _,i+1,(hf.a 0 0 (hf.a 5 1 (hf.a 6 2 (fc (congrArg (Value.int .i64) (wr_succ hlt1 hN)) fn_)))),(hS5.sel [] rfl rfl),(by omega),hL1⟩
  ·skip
   have hF5:=cf' hb hb1
   refine sgn 18 rfl rfl (uF_ 15) hb1 ?_
   refine sgn 19 rfl rfl (uF_ 15) hb1 ?_
   refine sgn 20 rfl rfl (uF_ 15) hb1 ?_
   refine sQ 21 (Y_pickT (b:=(!r_1)) (v:=.bool true) rfl rfl (nf hb1) rfl) (rn ?_)
   refine cw_cond rfl (fun _=>?_) (fun h=>by cases h)
   refine cq (cr ?_)
   refine sQ 2 yu (rn (ct_ ?_))
   obtain rfl:=sI hF5
   obtain rfl:=sI hL1
   obtain rfl:=sI hF1
   exact e1 Tryz.results32 (hS2.sN [])
 ·skip
  obtain rfl:k_=0:=by have h:=of_decide_eq_false hlt; omega
  refine cw_exit rfl ?_
  obtain rfl:=sI hL
  refine cq (cr ?_)
  refine sQ 2 yu (rn (ct_ ?_))
  obtain rfl:=sI hF1
  exact e1 Tryz.results32 (hS1.sN [])

theorem Nm (from_:List Int) (to_:List Int) (B:Option Addr) (c n:Nat) (B1:Option Addr) (c1 n1:Nat) (w0:World) (hn:from_.length=n) (hq:n≤c) (hn1:to_.length=n1) (hq1:n1≤c1) (hS:ST w0 [] w0 [] [⟨B,(from_.flatMap encI)⟩,⟨B1,(to_.flatMap encI)⟩]) {r_:List Ac} {r_1:Bool} (hF:BS from_ to_=some (r_,r_1)) :
  CV Tryz.prog 10 #[.slice B n c,.slice B1 n1 c1] w0 (fun v w'=>∃ (B2:Option Addr) (c2:Nat),v=.tuple #[.slice B2 r_.length c2,.bool r_1]∧ST w0 [] w' [⟨B2,73,(r_.flatMap eN0),c2*3⟩] []):=by
 subst hn
 subst hn1
 unfold BS at hF
 refine cv_of_cw 65 Tryz.func10 rfl Tryz.ntmps10 rfl ?_
 refine cq (cr ?_)
 refine sQ 4 yu<|sQ 5 yu (rn (cq (cq (cr ?_))))
 refine sQ 12 yv<|sQ 13 (Y_len K5 rfl rfl)<|sQ 14 yv<|sQ 15 (Y_len K5 rfl rfl)<|sQ 16 (Y_ne rfl rfl rfl)<|sQ 17 yv ?_
 refine sgq 18 rfl rfl (uF_ 17) (fun hg=>yv) ?_
 obtain ⟨r_2,hc,hF⟩:=bI hF
 refine sgc 19 (v:=.bool r_2) (F:=hS.fn) rfl rfl (uF_ 17) hS (fun hg1=>(yc MA (CV.mono (Pa from_ B c from_.length _ rfl hq (hS.inn0 [(true,0)] rfl) (gb_inv hc hg1)) (by rintro _ _ ⟨rfl,h⟩; exact ⟨rfl,hS.out00 h⟩)) rfl (mc (gv_of hg1) mn))) ?_
 rintro w_ hS1
 refine sgq 20 rfl rfl (uF_ 17) (fun hg2=>(yn rfl (gv_of hg2))) ?_
 refine sQ 21 yO<|sQ 22 yv ?_
 refine sgq 23 rfl rfl (uF_ 22) (fun hg3=>yv) ?_
 obtain ⟨r_3,hc1,hF⟩:=bI hF
 refine sgc 24 (v:=.bool r_3) (F:=hS1.fn) rfl rfl (uF_ 22) hS1 (fun hg4=>(yc MA (CV.mono (Pa to_ B1 c1 to_.length _ rfl hq1 (hS1.inn0 [(true,1)] rfl) (gb_inv hc1 hg4)) (by rintro _ _ ⟨rfl,h⟩; exact ⟨rfl,hS1.out00 h⟩)) rfl (mc (gv_of hg4) mn))) ?_
 rintro w_1 hS2
 refine sgq 25 rfl rfl (uF_ 22) (fun hg5=>(yn rfl (gv_of hg5))) ?_
 refine sQ 26 yO (rn ?_)
 refine cw_cond rfl (fun hb=>?_) (fun hb=>?_)
 ·skip
  have hF1:=ct hF hb
  refine cq (cr ?_)
  refine sQ 4 yu<|sQ 5 yu (rn (ct_ ?_))
  have hS3:=hS2.addNil 73
  obtain ⟨rfl,rfl⟩:=pr2 (sI hF1)
  exact ret2 Tryz.results10 rT rT ⟨none,0,rfl,(hS3.sN [0])⟩
 ·skip
  have hF2:=cf' hF hb
  refine cw_skip (cq (cr ?_))
  refine sQ 27 yv ?_
  obtain ⟨r_4,hc2,hF2⟩:=bI hF2
  refine sc 28 rfl rfl (yc E5 (DV from_ B c from_.length _ rfl (hS2.inn0 [(true,0)] rfl) hc2)) ?_
  rintro _ w_2 ⟨B3,c3,rfl,hd⟩
  have hS4:=hS2.out0 hd
  refine sS 29 (Ys_bslice0 (s:=3) (e:=73) hS4 K12 K7 rfl) ?_
  rintro _ w_3 ⟨b,rfl,hS5⟩
  refine sQ 6 yu<|sQ 7 yu (rn (cq (cq (cr ?_))))
  refine sQ 30 yv<|sQ 31 (Y_len K5 rfl rfl)<|sQ 32 yv (rn ?_)
  obtain ⟨hN,hF2⟩:=chk_inv hF2
  obtain ⟨z,hz,hF3⟩:=bI hF2
  refine cw_block ?_
  refine cw_loop (fun k f w=>∃ (i:Nat) (at_:List Int) (out:List Ac) (B4:Option Addr) (c4:Nat),FF f [(6,.slice B3 r_4.length c3),(7,.slice B4 out.length c4),(30,.slice B1 to_.length c1),(31,vi (to_.length:Int)),(32,vi (i:Int))]∧at_.length=r_4.length∧ST w0 [] w [⟨B3,3,(at_.flatMap encI),c3*1⟩,⟨B4,73,(out.flatMap eN0),c4*3⟩] [⟨B,(from_.flatMap encI)⟩,⟨B1,(to_.flatMap encI)⟩]∧i+k=to_.length∧forN (Dg to_) k i (at_,out)=some z) to_.length ⟨0,r_4,[],aD b,0,(fc rfl (fc rfl (fc rfl (fc rfl (fc rfl fn_))))),rfl,(hS5.sel [0,1] rfl rfl),Nat.zero_add _,hz⟩ ?_
  rintro k_ f w ⟨i,at_,out,B4,c4,hf,hl,hS6,hik,hL⟩
  refine cq (cr ?_)
  refine sQ 33 (zL rfl (hf.g 32 4) (hf.g 31 3)) (rn (cq ?_))
  refine cw_cond rfl (fun hlt=>?_) (fun hlt=>?_)
  ·skip
   have hlt1:i<to_.length:=by have h:=of_decide_eq_true hlt; omega
   obtain ⟨K2,rfl⟩:∃ k2,k_=k2+1:=⟨k_-1,by omega⟩
   obtain ⟨y,hb1,hL1⟩:=forN_go hL
   unfold Dg at hb1
   refine cw_skip (cq ?_)
   obtain ⟨z1,hz1,hF4⟩:=bI hb1
   refine cw_mid (fun f w=>∃ (at_1:List Int) (out1:List Ac) (B5:Option Addr) (c5:Nat),(at_1,out1)=z1∧FF f [(6,.slice B3 r_4.length c3),(7,.slice B5 out1.length c5),(30,.slice B1 to_.length c1),(31,vi (to_.length:Int)),(32,vi (i:Int))]∧at_1.length=r_4.length∧ST w0 [] w [⟨B3,3,(at_1.flatMap encI),c3*1⟩,⟨B5,73,(out1.flatMap eN0),c5*3⟩] [⟨B,(from_.flatMap encI)⟩,⟨B1,(to_.flatMap encI)⟩]) ?_ ?_
   ·skip
    refine cw_block (cq (cr ?_))
    refine sQ 34 (yv rfl (hf.g 32 4)) ?_
    obtain ⟨x,hx,hz1⟩:=bI hz1
    refine sQ 35 (yI B1 (i:Int) K5 K0 (gi_isSome encI_len rfl (hS6.rf (i:=1) rfl) hx) (getI_nn hx) (getI_ltI hx rfl) rfl (hf.g 30 2) (hf.g 32 4))<|sQ 36 (yz ((i:Int).toNat*1) K1 (hS6.rf (i:=1) rfl) rfl rfl (gi_at0 encI_len hx rfl))<|sQ 8 yu<|sQ 9 yu (rn (cq (cr ?_)))
    refine sQ 37 (yv rfl (hf.g 6 0))<|sQ 38 yv ?_
    obtain ⟨x1,hx1,hz1⟩:=bI hz1
    refine sQ 39 (yI B3 (i:Int) K5 K0 (gi_isSome encI_len rfl (hS6.c 0) hx1) (getI_nn hx1) (getI_ltI hx1 hl))<|sQ 40 (yz ((i:Int).toNat*1) K1 (hS6.c 0) rfl rfl (gi_at0 encI_len hx1 rfl))<|sQ 10 yu (rn (cq (cq (cr ?_))))
    refine sQ 41 yv<|sQ 42 yv<|sQ 43 zE (rn ?_)
    refine cw_cond rfl (fun hb2=>?_) (fun hb2=>?_)
    ·skip
     have hF5:=ct hz1 hb2
     refine cw_exit rfl ?_
     exact ⟨at_,out,B4,c4,(sI hF5),(hf.a 6 0 (hf.a 7 1 (hf.a 30 2 (hf.a 31 3 (hf.a 32 4 fn_))))),hl,(hS6.sel [0,1] rfl rfl)⟩
    ·skip
     have hF6:=cf' hz1 hb2
     refine cw_skip (cq (cr ?_))
     refine sQ 44 (yv rfl (hf.g 7 1))<|sQ 45 yv<|sQ 46 yv<|sQ 47 (Y_buildS (zs:=[vi 0,vi 0,vi 0]) (vs:=[(0,vi 11),(1,vi x1),(2,vi x)]) (cs:=[vi 11,vi x1,vi x]) K80 K28 rfl (mpc rfl (mpc rfl (mpc rfl mpn))) rfl) ?_
     refine sS 48 (yF 3 1 [vi 11,vi x1,vi x] 3 hS6 K12 K7 K74 rfl (mpc rfl mpn)) ?_
     rintro _ w_4 ⟨b1,rfl,hS8⟩
     obtain ⟨hap,hF6⟩:=chk_inv hF6
     refine sS 49 (aP 3 24 1 out [(Ac.mk 11 x1 x)] hS8 K12 K7 K66 K28 eN8 BP (hS8.c 2) hap) ?_
     rintro _ w_5 ⟨B6,c6,rfl,hS9⟩
     refine sQ 7 yu (rn (cq ?_))
     obtain ⟨z2,hz2,hF7⟩:=bI hF6
     refine cw_mid (fun f w=>∃ (at_2:List Int),at_2=z2∧FF f [(6,.slice B3 r_4.length c3),(7,.slice B6 ((out++[(Ac.mk 11 x1 x)]).length) c6),(8,vi (i:Int)),(9,vi x),(30,.slice B1 to_.length c1),(31,vi (to_.length:Int)),(32,vi (i:Int))]∧at_2.length=r_4.length∧ST w0 [] w [⟨B3,3,(at_2.flatMap encI),c3*1⟩,⟨B6,73,((out++[(Ac.mk 11 x1 x)]).flatMap eN0),c6*3⟩] [⟨B,(from_.flatMap encI)⟩,⟨B1,(to_.flatMap encI)⟩]) ?_ ?_
     ·skip
      refine cq (cr ?_)
      refine sQ 50 (yv rfl (hf.g 6 0))<|sQ 51 yv ?_
      obtain ⟨r_5,hc3,hz2⟩:=bI hz2
      refine sc 52 rfl rfl (yc MQ (M7 at_ x B3 c3 r_4.length _ hl (hS9.inn0 [(false,0)] rfl) hc3)) ?_
      rintro _ w_6 ⟨rfl,hd1⟩
      have hS11:=hS9.out00 hd1
      refine sQ 11 yu (rn (cq (cr ?_)))
      refine sQ 53 yv<|sQ 54 (Y_ge rfl rfl rfl) (rn ?_)
      refine cw_cond rfl (fun hb3=>?_) (fun hb3=>?_)
      ·skip
       have hF8:=ct hz2 hb3
       refine cr ?_
       refine sQ 55 (yv rfl (hf.g 6 0))<|sQ 56 yv<|sQ 57 yv ?_
       obtain ⟨x2,hx2,hF8⟩:=bI hF8
       refine sQ 58 (yI B3 r_5 K5 K0 (gi_isSome encI_len rfl (hS11.c 0) hx2) (getI_nn hx2) (getI_ltI hx2 hl)) ?_
       refine s0 (yS 0 1 B3 3 (vi x1) [vi x1] (r_5.toNat*1) ((at_.set r_5.toNat x1).flatMap encI) hS11 K0 rfl rfl rfl rfl rfl rfl rfl (gi_fit0 encI_len hx2) (gi_set encI_len hx2 x1 rfl)) ?_
       rintro _ w_7 ⟨rfl,hS12⟩
       refine rn ?_
       exact ⟨(at_.set r_5.toNat x1),(sI hF8),(hf.a 6 0 (fc rfl (fc rfl (fc rfl (hf.a 30 2 (hf.a 31 3 (hf.a 32 4 fn_))))))),(set_len _ _ _ hl),(hS12.sel [0,1] rfl rfl)⟩
      ·skip
       have hF9:=cf' hz2 hb3
       refine cw_skip ?_
       exact ⟨at_,(sI hF9),(hf.a 6 0 (fc rfl (fc rfl (fc rfl (hf.a 30 2 (hf.a 31 3 (hf.a 32 4 fn_))))))),hl,(hS11.sel [0,1] rfl rfl)⟩
     rintro f w ⟨at_2,rfl,hf2,hl2,hS10⟩
     refine cr ?_
     refine sQ 59 (yv rfl (hf2.g 6 0))<|sQ 60 (yv rfl (hf2.g 8 2))<|sQ 61 (yv rfl (hf2.g 9 3)) ?_
     obtain ⟨x3,hx3,hF7⟩:=bI hF7
     refine sQ 62 (yI B3 (i:Int) K5 K0 (gi_isSome encI_len rfl (hS10.c 0) hx3) (getI_nn hx3) (getI_ltI hx3 hl2)) ?_
     refine s0 (yS 0 1 B3 3 (vi x) [vi x] ((i:Int).toNat*1) ((at_2.set (i:Int).toNat x).flatMap encI) hS10 K0 rfl rfl rfl rfl rfl rfl rfl (gi_fit0 encI_len hx3) (gi_set encI_len hx3 x rfl)) ?_
     rintro _ w_8 ⟨rfl,hS13⟩
     refine rn ?_
     exact ⟨(at_2.set (i:Int).toNat x),(out++[(Ac.mk 11 x1 x)]),B6,c6,(sI hF7),(hf2.a 6 0 (hf2.a 7 1 (hf2.a 30 4 (hf2.a 31 5 (hf2.a 32 6 fn_))))),(set_len _ _ _ hl2),(hS13.sel [0,1] rfl rfl)⟩
   rintro f w ⟨at_1,out1,B5,c5,rfl,hf1,hl1,hS7⟩
   refine cr ?_
   refine sQ 63 (zP rfl (hf1.g 32 4))<|sQ 32 yv (rn ?_)
   obtain rfl:=sI hF4
   exact ⟨K2,Nat.lt_succ_self _,i+1,at_1,out1,B5,c5,(hf1.a 6 0 (hf1.a 7 1 (hf1.a 30 2 (hf1.a 31 3 (fc (congrArg (Value.int .i64) (wr_succ hlt1 hN)) fn_))))),hl1,(hS7.sel [0,1] rfl rfl),(by omega),hL1⟩
  ·skip
   obtain rfl:k_=0:=by have h:=of_decide_eq_false hlt; omega
   refine cw_exit rfl ?_
   obtain rfl:=sI hL
   refine cq (cr ?_)
   refine sQ 64 (yv rfl (hf.g 7 1))<|sQ 4 yu<|sQ 5 yu (rn (ct_ ?_))
   obtain ⟨rfl,rfl⟩:=pr2 (sI hF3)
   exact ret2 Tryz.results10 rT rT ⟨B4,c4,rfl,(hS6.sN [1])⟩

theorem OQ (l:List Int) (B:Option Addr) (c n:Nat) (w0:World) (hn:l.length=n) (hq:n≤c) (hS:ST w0 [] w0 [] [⟨B,(l.flatMap encI)⟩]) {r_:Bool} (hF:Ew l=some r_) :
  CV Tryz.prog 35 #[.slice B n c] w0 (fun v w'=>v=.bool r_∧ST w0 [] w' [] []):=by
 subst hn
 unfold Ew at hF
 refine cv_of_cw 23 Tryz.func35 rfl Tryz.ntmps35 rfl ?_
 refine cq (cr ?_)
 refine sQ 2 yu (rn (cq (cq (cr ?_))))
 refine sQ 5 yv<|sQ 6 (Y_len K5 rfl rfl)<|sQ 7 yv (rn ?_)
 obtain ⟨hN,hF⟩:=chk_inv hF
 obtain ⟨z,hz,hF1⟩:=bI hF
 refine cw_block ?_
 refine cw_loop (fun k f w=>∃ (i:Nat),FF f [(0,.slice B l.length c),(5,.slice B l.length c),(6,vi (l.length:Int)),(7,vi (i:Int))]∧ST w0 [] w [] [⟨B,(l.flatMap encI)⟩]∧i+k=l.length∧forX (G4 l) k i ()=some z) l.length ⟨0,(fc rfl (fc rfl (fc rfl (fc rfl fn_)))),(hS.sel [] rfl rfl),Nat.zero_add _,hz⟩ ?_
 rintro k_ f w ⟨i,hf,hS1,hik,hL⟩
 refine cq (cr ?_)
 refine sQ 8 (zL rfl (hf.g 7 3) (hf.g 6 2)) (rn (cq ?_))
 refine cw_cond rfl (fun hlt=>?_) (fun hlt=>?_)
 ·skip
  have hlt1:i<l.length:=by have h:=of_decide_eq_true hlt; omega
  obtain ⟨K2,rfl⟩:∃ k2,k_=k2+1:=⟨k_-1,by omega⟩
  obtain ⟨y,hb,hL1⟩:=forX_go hL
  unfold G4 at hb
  refine cw_skip (cq (cw_block (cq (cr ?_))))
  refine sQ 9 (yv rfl (hf.g 7 3)) ?_
  obtain ⟨x,hx,hb⟩:=bI hb
  refine sQ 10 (yI B (i:Int) K5 K0 (gi_isSome encI_len rfl (hS1.rf (i:=0) rfl) hx) (getI_nn hx) (getI_ltI hx rfl) rfl (hf.g 5 1) (hf.g 7 3))<|sQ 11 (yz ((i:Int).toNat*1) K1 (hS1.rf (i:=0) rfl) rfl rfl (gi_at0 encI_len hx rfl))<|sQ 3 yu<|sQ 4 yu (rn (cq (cr ?_)))
  refine sQ 12 yv ?_
  obtain ⟨r_1,hc,hb⟩:=bI hb
  refine sc 13 rfl rfl (yc K68 (BO x 0 4 _  (hS1.inn0 [] rfl) hc)) ?_
  rintro _ w_ ⟨rfl,hd⟩
  have hS2:=hS1.out00 hd
  refine sQ 14 yn<|sQ 15 yv ?_
  refine sgq 16 rfl rfl (uF_ 15) (fun hg=>(yv rfl (hf.g 0 0))) ?_
  refine sgq 17 rfl rfl (uF_ 15) (fun hg1=>yv) ?_
  refine rw_split (B:=(!(!r_1))) (fun hb1=>?_) (fun hb1=>?_)
  ·skip
   have hF2:=ct hb hb1
   obtain ⟨hsl,hF2⟩:=chk_inv hF2
   have hcap:l.length≤c:=hq
   have hv:(List.take i l).length=i:=(take_len rfl (by omega))
   have hq1:i≤c:=by omega
   have ho:Org w0 [] [⟨B,(l.flatMap encI)⟩] [⟨B,((List.take i l).flatMap encI)⟩]:=org_view encI_len (q:=c) (org_mem (i:=0) rfl) (sv_zero _ _ _).symm rfl
   have hS3:ST w0 [] _ [] [⟨B,((List.take i l).flatMap encI)⟩,⟨B,(l.flatMap encI)⟩]:=ST.view encI_len hS2 (i:=0) rfl (lo:=0) (h:=i) (q:=c) (by omega) (by omega) (sv_zero _ _ _).symm rfl
   refine sqg 18 rfl rfl (uF_ 15) hb1 (Y_slice0 (B:=B) (m:=l.length) (c:=c) (h:=i) (s:=1) K5 K0 rfl (gv_of hb1) (bnd_some (gv_of hb1) rfl) (by omega)) ?_
   refine sqg 19 rfl rfl (uF_ 15) hb1 yv ?_
   obtain ⟨r_2,hc1,hF2⟩:=bI hF2
   refine scg 20 rfl rfl (uF_ 15) hb1 (yc GG (Hh (List.take i l) x B c i _ hv (hS3.inn0 [(true,0)] rfl) hc1)) ?_
   rintro _ w_1 ⟨rfl,hd1⟩
   have hS4:=hS3.out00 hd1
   refine sQ 21 (Y_pickF (b:=(!r_1)) (v:=.bool r_2) rfl rfl (nt hb1) rfl) (rn ?_)
   refine cw_cond rfl (fun hb2=>?_) (fun hb2=>?_)
   ·skip
    have hF3:=ct hF2 hb2
    refine cq (cr ?_)
    refine sQ 2 yu (rn (ct_ ?_))
    obtain rfl:=sI hF3
    obtain rfl:=sI hL1
    obtain rfl:=sI hF1
    exact e1 Tryz.results35 (hS4.sN [])
   ·skip
    have hF4:=cf' hF2 hb2
    refine cw_skip (cr ?_)
    refine sQ 22 (zP rfl (hf.g 7 3))<|sQ 7 yv (rn ?_)
    obtain rfl:=sI hF4
    have hS5:ST w0 [] _ [] [⟨B,(l.flatMap encI)⟩]:=hS4.sT [1]
    exact ⟨K2,Nat.lt_succ_self _,i+1,(hf.a 0 0 (hf.a 5 1 (hf.a 6 2 (fc (congrArg (Value.int .i64) (wr_succ hlt1 hN)) fn_)))),(hS5.sel [] rfl rfl),(by omega),hL1⟩
  ·skip
   have hF5:=cf' hb hb1
   refine sgn 18 rfl rfl (uF_ 15) hb1 ?_
   refine sgn 19 rfl rfl (uF_ 15) hb1 ?_
   refine sgn 20 rfl rfl (uF_ 15) hb1 ?_
   refine sQ 21 (Y_pickT (b:=(!r_1)) (v:=.bool true) rfl rfl (nf hb1) rfl) (rn ?_)
   refine cw_cond rfl (fun _=>?_) (fun h=>by cases h)
   refine cq (cr ?_)
   refine sQ 2 yu (rn (ct_ ?_))
   obtain rfl:=sI hF5
   obtain rfl:=sI hL1
   obtain rfl:=sI hF1
   exact e1 Tryz.results35 (hS2.sN [])
 ·skip
  obtain rfl:k_=0:=by have h:=of_decide_eq_false hlt; omega
  refine cw_exit rfl ?_
  obtain rfl:=sI hL
  refine cq (cr ?_)
  refine sQ 2 yu (rn (ct_ ?_))
  obtain rfl:=sI hF1
  exact e1 Tryz.results35 (hS1.sN [])

theorem Ww (from_:List Int) (to_:List Int) (B:Option Addr) (c n:Nat) (B1:Option Addr) (c1 n1:Nat) (w0:World) (hn:from_.length=n) (hq:n≤c) (hn1:to_.length=n1) (hq1:n1≤c1) (hS:ST w0 [] w0 [] [⟨B,(from_.flatMap encI)⟩,⟨B1,(to_.flatMap encI)⟩]) {r_:List Ac} {r_1:Bool} (hF:Ch from_ to_=some (r_,r_1)) :
  CV Tryz.prog 11 #[.slice B n c,.slice B1 n1 c1] w0 (fun v w'=>∃ (B2:Option Addr) (c2:Nat),v=.tuple #[.slice B2 r_.length c2,.bool r_1]∧ST w0 [] w' [⟨B2,73,(r_.flatMap eN0),c2*3⟩] []):=by
 subst hn
 subst hn1
 unfold Ch at hF
 refine cv_of_cw 54 Tryz.func11 rfl Tryz.ntmps11 rfl ?_
 refine cq (cr ?_)
 refine sQ 4 yu<|sQ 5 yu (rn (cq (cq (cr ?_))))
 refine sQ 11 yv<|sQ 12 (Y_len K5 rfl rfl)<|sQ 13 yv<|sQ 14 (Y_len K5 rfl rfl)<|sQ 15 (Y_ne rfl rfl rfl)<|sQ 16 yv ?_
 refine sgq 17 rfl rfl (uF_ 16) (fun hg=>yv) ?_
 obtain ⟨r_2,hc,hF⟩:=bI hF
 refine sgc 18 (v:=.bool r_2) (F:=hS.fn) rfl rfl (uF_ 16) hS (fun hg1=>(yc Nx (CV.mono (OQ from_ B c from_.length _ rfl hq (hS.inn0 [(true,0)] rfl) (gb_inv hc hg1)) (by rintro _ _ ⟨rfl,h⟩; exact ⟨rfl,hS.out00 h⟩)) rfl (mc (gv_of hg1) mn))) ?_
 rintro w_ hS1
 refine sgq 19 rfl rfl (uF_ 16) (fun hg2=>(yn rfl (gv_of hg2))) ?_
 refine sQ 20 yO<|sQ 21 yv ?_
 refine sgq 22 rfl rfl (uF_ 21) (fun hg3=>yv) ?_
 obtain ⟨r_3,hc1,hF⟩:=bI hF
 refine sgc 23 (v:=.bool r_3) (F:=hS1.fn) rfl rfl (uF_ 21) hS1 (fun hg4=>(yc Nx (CV.mono (OQ to_ B1 c1 to_.length _ rfl hq1 (hS1.inn0 [(true,1)] rfl) (gb_inv hc1 hg4)) (by rintro _ _ ⟨rfl,h⟩; exact ⟨rfl,hS1.out00 h⟩)) rfl (mc (gv_of hg4) mn))) ?_
 rintro w_1 hS2
 refine sgq 24 rfl rfl (uF_ 21) (fun hg5=>(yn rfl (gv_of hg5))) ?_
 refine sQ 25 yO (rn ?_)
 refine cw_cond rfl (fun hb=>?_) (fun hb=>?_)
 ·skip
  have hF1:=ct hF hb
  refine cq (cr ?_)
  refine sQ 4 yu<|sQ 5 yu (rn (ct_ ?_))
  have hS3:=hS2.addNil 73
  obtain ⟨rfl,rfl⟩:=pr2 (sI hF1)
  exact ret2 Tryz.results11 rT rT ⟨none,0,rfl,(hS3.sN [0])⟩
 ·skip
  have hF2:=cf' hF hb
  refine cw_skip (cq (cr ?_))
  refine sQ 6 yu (rn (cq (cr ?_)))
  refine sQ 26 yv ?_
  obtain ⟨r_4,hc2,hF2⟩:=bI hF2
  refine sc 27 rfl rfl (yc GR (HC from_ B c from_.length _ rfl (hS2.inn0 [(true,0)] rfl) hc2)) ?_
  rintro _ w_2 ⟨B3,c3,rfl,hd⟩
  have hS4:=hS2.out0 hd
  refine sQ 7 yu (rn (cq (cq (cr ?_))))
  refine sQ 28 yv<|sQ 29 (Y_len K5 rfl rfl)<|sQ 30 yv (rn ?_)
  obtain ⟨hN,hF2⟩:=chk_inv hF2
  obtain ⟨z,hz,hF3⟩:=bI hF2
  have hS6:=hS4.addNil 73
  refine cw_block ?_
  refine cw_loop (fun k f w=>∃ (i:Nat) (out:List Ac) (at_:List Int) (B4:Option Addr) (c4:Nat) (B5:Option Addr) (c5:Nat),FF f [(6,.slice B4 out.length c4),(7,.slice B5 at_.length c5),(28,.slice B1 to_.length c1),(29,vi (to_.length:Int)),(30,vi (i:Int))]∧ST w0 [] w [⟨B4,73,(out.flatMap eN0),c4*3⟩,⟨B5,3,(at_.flatMap encI),c5*1⟩] [⟨B,(from_.flatMap encI)⟩,⟨B1,(to_.flatMap encI)⟩]∧i+k=to_.length∧forN (De to_) k i (out,at_)=some z) to_.length ⟨0,[],r_4,none,0,B3,c3,(fc rfl (fc rfl (fc rfl (fc rfl (fc rfl fn_))))),(hS6.sel [1,0] rfl rfl),Nat.zero_add _,hz⟩ ?_
  rintro k_ f w ⟨i,out,at_,B4,c4,B5,c5,hf,hS5,hik,hL⟩
  refine cq (cr ?_)
  refine sQ 31 (zL rfl (hf.g 30 4) (hf.g 29 3)) (rn (cq ?_))
  refine cw_cond rfl (fun hlt=>?_) (fun hlt=>?_)
  ·skip
   have hlt1:i<to_.length:=by have h:=of_decide_eq_true hlt; omega
   obtain ⟨K2,rfl⟩:∃ k2,k_=k2+1:=⟨k_-1,by omega⟩
   obtain ⟨y,hb1,hL1⟩:=forN_go hL
   unfold De at hb1
   refine cw_skip (cq ?_)
   obtain ⟨z1,hz1,hF4⟩:=bI hb1
   refine cw_mid (fun f w=>∃ (out1:List Ac) (at_1:List Int) (B6:Option Addr) (c6:Nat) (B7:Option Addr) (c7:Nat),(out1,at_1)=z1∧FF f [(6,.slice B6 out1.length c6),(7,.slice B7 at_1.length c7),(28,.slice B1 to_.length c1),(29,vi (to_.length:Int)),(30,vi (i:Int))]∧ST w0 [] w [⟨B6,73,(out1.flatMap eN0),c6*3⟩,⟨B7,3,(at_1.flatMap encI),c7*1⟩] [⟨B,(from_.flatMap encI)⟩,⟨B1,(to_.flatMap encI)⟩]) ?_ ?_
   ·skip
    refine cw_block (cq (cr ?_))
    refine sQ 32 (yv rfl (hf.g 30 4)) ?_
    obtain ⟨x,hx,hz1⟩:=bI hz1
    refine sQ 33 (yI B1 (i:Int) K5 K0 (gi_isSome encI_len rfl (hS5.rf (i:=1) rfl) hx) (getI_nn hx) (getI_ltI hx rfl) rfl (hf.g 28 2) (hf.g 30 4))<|sQ 34 (yz ((i:Int).toNat*1) K1 (hS5.rf (i:=1) rfl) rfl rfl (gi_at0 encI_len hx rfl))<|sQ 8 yu<|sQ 9 yu (rn (cq (cr ?_)))
    refine sQ 35 (yv rfl (hf.g 7 1))<|sQ 36 yv ?_
    obtain ⟨x1,hx1,hz1⟩:=bI hz1
    refine sQ 37 (yI B5 (i:Int) K5 K0 (gi_isSome encI_len rfl (hS5.c 1) hx1) (getI_nn hx1) (getI_ltI hx1 rfl))<|sQ 38 (yz ((i:Int).toNat*1) K1 (hS5.c 1) rfl rfl (gi_at0 encI_len hx1 rfl))<|sQ 10 yu (rn (cq (cr ?_)))
    refine sQ 39 yv<|sQ 40 yv<|sQ 41 (Y_ne rfl rfl rfl) (rn ?_)
    refine cw_cond rfl (fun hb2=>?_) (fun hb2=>?_)
    ·skip
     have hF5:=ct hz1 hb2
     refine cq (cr ?_)
     refine sQ 42 (yv rfl (hf.g 6 0))<|sQ 43 yv<|sQ 44 yv<|sQ 45 (Y_buildS (zs:=[vi 0,vi 0,vi 0]) (vs:=[(0,vi 11),(1,vi x1),(2,vi x)]) (cs:=[vi 11,vi x1,vi x]) K80 K28 rfl (mpc rfl (mpc rfl (mpc rfl mpn))) rfl) ?_
     refine sS 46 (yF 3 1 [vi 11,vi x1,vi x] 3 hS5 K12 K7 K74 rfl (mpc rfl mpn)) ?_
     rintro _ w_3 ⟨b,rfl,hS8⟩
     obtain ⟨hap,hF5⟩:=chk_inv hF5
     refine sS 47 (aP 3 24 0 out [(Ac.mk 11 x1 x)] hS8 K12 K7 K66 K28 eN8 BP (hS8.c 2) hap) ?_
     rintro _ w_4 ⟨B8,c8,rfl,hS9⟩
     refine sQ 6 yu (rn (cr ?_))
     refine sQ 48 (yv rfl (hf.g 7 1))<|sQ 49 yv<|sQ 50 yv ?_
     obtain ⟨r_5,hc3,hF5⟩:=bI hF5
     refine sc 51 rfl rfl (yc PV (OF at_ x1 x B5 c5 at_.length _ rfl (hS9.inn0 [(false,1)] rfl) hc3)) ?_
     rintro _ w_5 ⟨B9,c9,rfl,hd1⟩
     have hS10:=hS9.out0 hd1
     refine sQ 7 yu (rn ?_)
     exact ⟨(out++[(Ac.mk 11 x1 x)]),r_5,B8,c8,B9,c9,(sI hF5),(fc rfl (fc rfl (hf.a 28 2 (hf.a 29 3 (hf.a 30 4 fn_))))),(hS10.sel [0,3] rfl rfl)⟩
    ·skip
     have hF6:=cf' hz1 hb2
     refine cw_skip ?_
     exact ⟨out,at_,B4,c4,B5,c5,(sI hF6),(hf.a 6 0 (hf.a 7 1 (hf.a 28 2 (hf.a 29 3 (hf.a 30 4 fn_))))),(hS5.sel [0,1] rfl rfl)⟩
   rintro f w ⟨out1,at_1,B6,c6,B7,c7,rfl,hf1,hS7⟩
   refine cr ?_
   refine sQ 52 (zP rfl (hf1.g 30 4))<|sQ 30 yv (rn ?_)
   obtain rfl:=sI hF4
   exact ⟨K2,Nat.lt_succ_self _,i+1,out1,at_1,B6,c6,B7,c7,(hf1.a 6 0 (hf1.a 7 1 (hf1.a 28 2 (hf1.a 29 3 (fc (congrArg (Value.int .i64) (wr_succ hlt1 hN)) fn_))))),(hS7.sel [0,1] rfl rfl),(by omega),hL1⟩
  ·skip
   obtain rfl:k_=0:=by have h:=of_decide_eq_false hlt; omega
   refine cw_exit rfl ?_
   obtain rfl:=sI hL
   refine cq (cr ?_)
   refine sQ 53 (yv rfl (hf.g 6 0))<|sQ 4 yu<|sQ 5 yu (rn (ct_ ?_))
   obtain ⟨rfl,rfl⟩:=pr2 (sI hF3)
   exact ret2 Tryz.results11 rT rT ⟨B4,c4,rfl,(hS5.sN [0])⟩

theorem RK (g:Ae) (B:Option Addr) (c n:Nat) (w0:World) (hn:g.Edges.length=n) (hS:ST w0 [] w0 [] [⟨B,(g.Edges.flatMap eN1)⟩]) {r_:Bool} (hF:Fv g=some r_) :
  CV Tryz.prog 13 #[.agg #[vi g.Nodes,.slice B n c]] w0 (fun v w'=>v=.bool r_∧ST w0 [] w' [] []):=by
 subst hn
 unfold Fv at hF
 refine cv_of_cw 5 Tryz.func13 rfl Tryz.ntmps13 rfl ?_
 refine cq (cr ?_)
 refine sS 1 (yV [vi g.Nodes,.slice B g.Edges.length c] 2 hS) ?_
 rintro _ w_ ⟨b,rfl,hS1⟩
 refine sQ 2 yu (rn (cq (cr ?_)))
 refine sQ 3 (yw 0 K13 K8 (hS1.c 0)) ?_
 obtain ⟨r_1,hc,hF⟩:=bI hF
 refine sc 4 rfl rfl (yc Lx (OT g B c g.Edges.length _ rfl (hS1.inn0 [(true,0)] rfl) hc)) ?_
 rintro _ w_1 ⟨rfl,hd⟩
 have hS2:=hS1.out00 hd
 refine sQ 2 yu (rn (ct_ ?_))
 obtain rfl:=sI hF
 exact e1 Tryz.results13 (hS2.sN [])

theorem NR (g:Ae) (c1:Ad) (start:List Int) (B:Option Addr) (c n:Nat) (B1:Option Addr) (c2 n1:Nat) (B2:Option Addr) (c3 n2:Nat) (w0:World) (hn:g.Edges.length=n) (hq:n≤c) (hn1:c1.Gates.length=n1) (hq1:n1≤c2) (hn2:start.length=n2) (hq2:n2≤c3) (hS:ST w0 [] w0 [] [⟨B,(g.Edges.flatMap eN1)⟩,⟨B1,(c1.Gates.flatMap eN0)⟩,⟨B2,(start.flatMap encI)⟩]) {r_:Int} {r_1:Bool} (hF:Dy g c1 start=some (r_,r_1)) :
  CV Tryz.prog 14 #[.agg #[vi g.Nodes,.slice B n c],.agg #[vi c1.Qubits,.slice B1 n1 c2],.slice B2 n2 c3] w0 (fun v w'=>v=.tuple #[vi r_,.bool r_1]∧ST w0 [] w' [] []):=by
 subst hn
 subst hn1
 subst hn2
 unfold Dy at hF
 refine cv_of_cw 20 Tryz.func14 rfl Tryz.ntmps14 rfl ?_
 refine cq (cr ?_)
 refine sS 3 (yV [vi g.Nodes,.slice B g.Edges.length c] 2 hS) ?_
 rintro _ w_ ⟨b,rfl,hS1⟩
 refine sS 4 (yV [vi c1.Qubits,.slice B1 c1.Gates.length c2] 2 hS1) ?_
 rintro _ w_1 ⟨b1,rfl,hS2⟩
 refine sQ 6 yu<|sQ 7 yu (rn (cq (cr ?_)))
 refine sQ 11 (yw 0 K13 K8 (hS2.c 0))<|sQ 12 (yw 0 K10 K3 (hS2.c 1))<|sQ 13 yv ?_
 obtain ⟨⟨r_2,r_3⟩,hc,hF⟩:=bI hF
 refine sc 14 rfl rfl (yc PK (MT g c1 start B c g.Edges.length B1 c2 c1.Gates.length B2 c3 start.length _ rfl hq rfl hq1 rfl hq2 (hS2.inn0 [(true,0),(true,1),(true,2)] rfl) hc)) ?_
 rintro _ w_2 ⟨B3,c4,B4,c5,rfl,hq3,ho,hd⟩
 have hS3:=ST.outR0 hS2 hd ho (sk 0 (sk 1 (sk 2 (fun _ h=>by cases h))))
 have ho1:Org w0 [] [⟨B,(g.Edges.flatMap eN1)⟩,⟨B1,(c1.Gates.flatMap eN0)⟩,⟨B2,(start.flatMap encI)⟩] [⟨B4,(r_2.Steps.flatMap eN2)⟩]:=org_trans0 hS2 ho (org_cons (org_mem (i:=0) rfl) (org_cons (org_mem (i:=1) rfl) (org_cons (org_mem (i:=2) rfl) org_nil)))
 have hS4:ST w0 [] _ [⟨aD b,25,[vi g.Nodes,.slice B g.Edges.length c],2⟩,⟨aD b1,28,[vi c1.Qubits,.slice B1 c1.Gates.length c2],2⟩,⟨B3,3,(r_2.Start.flatMap encI),c4*1⟩] [⟨B4,(r_2.Steps.flatMap eN2)⟩,⟨B,(g.Edges.flatMap eN1)⟩,⟨B1,(c1.Gates.flatMap eN0)⟩,⟨B2,(start.flatMap encI)⟩]:=hS3
 refine sQ 10 yv<|sQ 15 (ye (.agg #[.slice B3 r_2.Start.length c4,.slice B4 r_2.Steps.length c5]))<|sQ 16 (ye (.bool r_3)) ?_
 refine sS 8 (yN [.slice none 0 0,.slice none 0 0] 2 hS4 K61) ?_
 rintro _ w_3 ⟨b2,rfl,hS5⟩
 refine s0 (yK 3 2 0 hS5 K25) ?_
 rintro _ w_4 ⟨rfl,hS6⟩
 refine sQ 9 yu (rn (cq (cr ?_)))
 refine sQ 17 (yw 0 K46 K25 (hS6.c 3)) ?_
 obtain ⟨r_4,hc1,hF⟩:=bI hF
 refine sc 18 rfl rfl (yc Jq (KU r_2 B3 c4 r_2.Start.length B4 c5 r_2.Steps.length _ rfl rfl (hS6.inn0 [(false,2),(true,0)] rfl) hc1)) ?_
 rintro _ w_5 ⟨rfl,hd1⟩
 have hS7:=hS6.out00 hd1
 refine sQ 19 yv<|sQ 6 yu<|sQ 7 yu (rn (ct_ ?_))
 obtain ⟨rfl,rfl⟩:=pr2 (sI hF)
 exact e2 Tryz.results14 (hS7.sN [])

theorem Vc (r_:Am) (B:Option Addr) (c n:Nat) (B1:Option Addr) (c1 n1:Nat) (w0:World) (hn:r_.Start.length=n) (hn1:r_.Steps.length=n1) (hS:ST w0 [] w0 [] [⟨B,(r_.Start.flatMap encI)⟩,⟨B1,(r_.Steps.flatMap eN2)⟩]) {r_1:Int} (hF:DZ r_=some r_1) :
  CV Tryz.prog 15 #[.agg #[.slice B n c,.slice B1 n1 c1]] w0 (fun v w'=>v=vi r_1∧ST w0 [] w' [] []):=by
 subst hn
 subst hn1
 unfold DZ at hF
 refine cv_of_cw 20 Tryz.func15 rfl Tryz.ntmps15 rfl ?_
 refine cq (cr ?_)
 refine sS 1 (yV [.slice B r_.Start.length c,.slice B1 r_.Steps.length c1] 2 hS) ?_
 rintro _ w_ ⟨b,rfl,hS1⟩
 refine sQ 2 yu (rn (cq (cr ?_)))
 refine sQ 3 yu (rn (cq (cq (cr ?_))))
 refine sQ 6 (yd (aD b) 0 0 K71 K36)<|sQ 7 (yz 1 K55 (hS1.c 0))<|sQ 8 (Y_len K31 rfl rfl)<|sQ 9 yv (rn ?_)
 obtain ⟨hN,hF⟩:=chk_inv hF
 obtain ⟨z,hz,hF1⟩:=bI hF
 refine cw_block ?_
 refine cw_loop (fun k f w=>∃ (i:Nat) (n2:Int),FF f [(3,vi n2),(7,.slice B1 r_.Steps.length c1),(8,vi (r_.Steps.length:Int)),(9,vi (i:Int))]∧ST w0 [] w [] [⟨B,(r_.Start.flatMap encI)⟩,⟨B1,(r_.Steps.flatMap eN2)⟩]∧i+k=r_.Steps.length∧forN (HF r_) k i n2=some z) r_.Steps.length ⟨0,0,(fc rfl (fc rfl (fc rfl (fc rfl fn_)))),(hS1.sel [] rfl rfl),Nat.zero_add _,hz⟩ ?_
 rintro k_ f w ⟨i,n2,hf,hS2,hik,hL⟩
 refine cq (cr ?_)
 refine sQ 10 (zL rfl (hf.g 9 3) (hf.g 8 2)) (rn (cq ?_))
 refine cw_cond rfl (fun hlt=>?_) (fun hlt=>?_)
 ·skip
  have hlt1:i<r_.Steps.length:=by have h:=of_decide_eq_true hlt; omega
  obtain ⟨K2,rfl⟩:∃ k2,k_=k2+1:=⟨k_-1,by omega⟩
  obtain ⟨y,hb,hL1⟩:=forN_go hL
  unfold HF at hb
  refine cw_skip (cq ?_)
  obtain ⟨z1,hz1,hF2⟩:=bI hb
  refine cw_mid (fun f w=>∃ (n3:Int),n3=z1∧FF f [(3,vi n3),(7,.slice B1 r_.Steps.length c1),(8,vi (r_.Steps.length:Int)),(9,vi (i:Int))]∧ST w0 [] w [] [⟨B,(r_.Start.flatMap encI)⟩,⟨B1,(r_.Steps.flatMap eN2)⟩]) ?_ ?_
  ·skip
   refine cw_block (cq (cr ?_))
   obtain ⟨x,hx,hz1⟩:=bI hz1
   refine sQ 11 (yI B1 (i:Int) K31 K26 (gi_isSome A5 rfl (hS2.rf (i:=1) rfl) hx) (getI_nn hx) (getI_ltI hx rfl) rfl (hf.g 7 1) (hf.g 9 3))<|sQ 12 (ya B1 ((i:Int).toNat*3) (r_.Steps.flatMap eN2) [vi x.Gate,vi x.A,vi x.B] K96 K26 (hS2.rf (i:=1) rfl) rfl rfl (A5 x) (gi_seg A5 hx)) ?_
   refine sS 5 (yN [vi 0,vi 0,vi 0] 3 hS2 K56) ?_
   rintro _ w_1 ⟨b1,rfl,hS4⟩
   refine s0 (yK 0 3 0 hS4 K26) ?_
   rintro _ w_2 ⟨rfl,hS5⟩
   refine rn (cq (cr ?_))
   refine sQ 13 (yd (aD b1) 0 0 K89 K0)<|sQ 14 (yz 0 K1 (hS5.c 0))<|sQ 15 zE (rn ?_)
   refine cw_cond rfl (fun hb1=>?_) (fun hb1=>?_)
   ·skip
    have hF3:=ct hz1 hb1
    refine cr ?_
    refine sQ 16 (yv rfl (hf.g 3 0))<|sQ 17 zP<|sQ 3 yu (rn ?_)
    exact ⟨(i64.wrap (n2+1)),(sI hF3),(fc rfl (hf.a 7 1 (hf.a 8 2 (hf.a 9 3 fn_)))),(hS5.sel [] rfl rfl)⟩
   ·skip
    have hF4:=cf' hz1 hb1
    refine cw_skip ?_
    exact ⟨n2,(sI hF4),(hf.a 3 0 (hf.a 7 1 (hf.a 8 2 (hf.a 9 3 fn_)))),(hS5.sel [] rfl rfl)⟩
  rintro f w ⟨n3,rfl,hf1,hS3⟩
  refine cr ?_
  refine sQ 18 (zP rfl (hf1.g 9 3))<|sQ 9 yv (rn ?_)
  obtain rfl:=sI hF2
  exact ⟨K2,Nat.lt_succ_self _,i+1,n3,(hf1.a 3 0 (hf1.a 7 1 (hf1.a 8 2 (fc (congrArg (Value.int .i64) (wr_succ hlt1 hN)) fn_)))),(hS3.sel [] rfl rfl),(by omega),hL1⟩
 ·skip
  obtain rfl:k_=0:=by have h:=of_decide_eq_false hlt; omega
  refine cw_exit rfl ?_
  obtain rfl:=sI hL
  refine cq (cr ?_)
  refine sQ 19 (yv rfl (hf.g 3 0))<|sQ 2 yu (rn (ct_ ?_))
  obtain rfl:=sI hF1
  exact e1 Tryz.results15 (hS2.sN [])

theorem LH (r_:Ap) (s:Ak) (B:Option Addr) (c n:Nat) (B1:Option Addr) (c1 n1:Nat) (B2:Option Addr) (c2 n2:Nat) (B3:Option Addr) (c3 n3:Nat) (w0:World) (hn:r_.g.Edges.length=n) (hn1:r_.c.Gates.length=n1) (hq:n1≤c1) (hn2:r_.place.length=n2) (hn3:r_.done.length=n3) (hS:ST w0 (bl [⟨B2,3,(r_.place.flatMap encI),c2*1⟩,⟨B3,4,(r_.done.flatMap encB),c3*1⟩]) w0 [⟨B2,3,(r_.place.flatMap encI),c2*1⟩,⟨B3,4,(r_.done.flatMap encB),c3*1⟩] [⟨B,(r_.g.Edges.flatMap eN1)⟩,⟨B1,(r_.c.Gates.flatMap eN0)⟩]) {r_1:Int} {m:List Int} {m1:List Bool} (hF:DR r_ s=some (r_1,m,m1)) :
  CV Tryz.prog 44 #[.agg #[vi r_.g.Nodes,.slice B n c,vi r_.c.Qubits,.slice B1 n1 c1,.slice B2 n2 c2,.slice B3 n3 c3],.agg #[vi s.Gate,vi s.A,vi s.B]] w0 (fun v w'=>v=vi r_1∧m.length=n2∧m1.length=n3∧ST w0 (bl [⟨B2,3,(r_.place.flatMap encI),c2*1⟩,⟨B3,4,(r_.done.flatMap encB),c3*1⟩]) w' [⟨B2,3,(m.flatMap encI),c2*1⟩,⟨B3,4,(m1.flatMap encB),c3*1⟩] []):=by
 subst hn
 subst hn1
 subst hn2
 subst hn3
 unfold DR at hF
 refine cv_of_cw 50 Tryz.func44 rfl Tryz.ntmps44 rfl ?_
 refine cq (cr ?_)
 let V0:List Value:=[vi r_.g.Nodes,.slice B r_.g.Edges.length c,vi r_.c.Qubits,.slice B1 r_.c.Gates.length c1,.slice B2 r_.place.length c2,.slice B3 r_.done.length c3]
 refine sS 2 (yV V0 6 hS) ?_
 rintro _ w_ ⟨b,rfl,hS1⟩
 refine sS 3 (yV [vi s.Gate,vi s.A,vi s.B] 3 hS1) ?_
 rintro _ w_1 ⟨b1,rfl,hS2⟩
 refine sQ 4 yu (rn (cq (cw_block (cq (cr ?_)))))
 refine sQ 6 (yd (aD b1) 0 0 K89 K0)<|sQ 7 (yz 0 K1 (hS2.c 3))<|sQ 8 zE<|sQ 5 yu (rn ?_)
 refine cw_cond rfl (fun hb=>?_) (fun hb=>?_)
 ·skip
  have hF1:=ct hF hb
  refine cq (cq (cr ?_))
  refine sQ 9 (yd (aD b) 0 1 Pf K8)<|sQ 10 (ya (aD b) 0 V0 [vi r_.g.Nodes,.slice B r_.g.Edges.length c] K13 K8 (hS2.c 2))<|sQ 11 (yd (aD b1) 0 0 Ix K0)<|sQ 12 (yz 1 K1 (hS2.c 3))<|sQ 13 (yd (aD b1) 0 0 HV K0)<|sQ 14 (yz 2 K1 (hS2.c 3)) ?_
  obtain ⟨r_2,hc,hF1⟩:=bI hF1
  refine sc 15 rfl rfl (yc JG (KL r_.g s.A s.B B c r_.g.Edges.length _ rfl (hS2.inn0 [(true,0)] rfl) hc)) ?_
  rintro _ w_2 ⟨rfl,hd⟩
  have hS3:=hS2.out00 hd
  refine sQ 16 yn (rn ?_)
  refine cw_cond rfl (fun hb1=>?_) (fun hb1=>?_)
  ·skip
   have hF2:=ct hF1 hb1
   refine cq (cr ?_)
   refine sQ 4 yu (rn (ct_ ?_))
   obtain ⟨rfl,rfl,rfl⟩:=pr3 (sI hF2)
   exact ret1 Tryz.results44 (v1:=vi 2) (resAt_tmp rfl) ⟨rfl,rfl,rfl,(hS3.sN [0,1])⟩
  ·skip
   have hF3:=cf' hF1 hb1
   refine cw_skip (cq (cr ?_))
   refine sQ 17 (yw 0 K54 K24 (hS3.c 2))<|sQ 18 (yd (aD b1) 0 0 Ix K0)<|sQ 19 (yz 1 K1 (hS3.c 3))<|sQ 20 (yd (aD b1) 0 0 HV K0)<|sQ 21 (yz 2 K1 (hS3.c 3)) ?_
   obtain ⟨m2,hc1,hF3⟩:=bI hF3
   refine sc 22 rfl rfl (yc PZ (Nz r_ s.A s.B B c r_.g.Edges.length B1 c1 r_.c.Gates.length B2 c2 r_.place.length B3 c3 r_.done.length _ rfl rfl rfl rfl (hS3.inn [true,false,false,false] rfl [(true,0),(true,1),(false,0)] rfl) hc1)) ?_
   rintro _ w_3 ⟨rfl,hl,hd1⟩
   have hS4:=hS3.out [true,false,false,false] rfl hd1
   refine rn (cq (cr ?_))
   refine sQ 4 yu (rn (ct_ ?_))
   obtain ⟨rfl,rfl,rfl⟩:=pr3 (sI hF3)
   exact ret1 Tryz.results44 (v1:=vi 0) (resAt_tmp rfl) ⟨rfl,hl,rfl,(hS4.sN [3,0])⟩
 ·skip
  have hF4:=cf' hF hb
  refine cq (cr ?_)
  refine sQ 24 (yd (aD b1) 0 0 Ix K0)<|sQ 25 (yz 1 K1 (hS2.c 3))<|sQ 26 (Y_ne rfl rfl rfl)<|sQ 27 yv ?_
  refine sgq 28 rfl rfl (uF_ 27) (fun hg=>(yd (aD b1) 0 0 HV K0)) ?_
  refine sgq 29 rfl rfl (uF_ 27) (fun hg1=>(yz 2 K1 (hS2.c 3) rfl (gv_of hg1))) ?_
  refine sgq 30 rfl rfl (uF_ 27) (fun hg2=>(Y_ne rfl (gv_of hg2) rfl)) ?_
  refine sQ 31 yO<|sQ 32 yv ?_
  refine sgq 33 rfl rfl (uF_ 32) (fun hg3=>(yw 0 K54 K24 (hS2.c 2))) ?_
  refine sgq 34 rfl rfl (uF_ 32) (fun hg4=>(yd (aD b1) 0 0 K89 K0)) ?_
  refine sgq 35 rfl rfl (uF_ 32) (fun hg5=>(yz 0 K1 (hS2.c 3) rfl (gv_of hg5))) ?_
  obtain ⟨r_3,hc2,hF4⟩:=bI hF4
  refine sgc 36 (v:=.bool r_3) (F:=hS2.fn) rfl rfl (uF_ 32) hS2 (fun hg6=>(yc LV (CV.mono (OX r_ s.Gate B c r_.g.Edges.length B1 c1 r_.c.Gates.length B2 c2 r_.place.length B3 c3 r_.done.length _ rfl rfl hq rfl rfl (hS2.inn0 [(true,0),(true,1),(false,0),(false,1)] rfl) (gb_inv hc2 hg6)) (by rintro _ _ ⟨rfl,h⟩; exact ⟨rfl,hS2.out00 h⟩)) rfl (mc (gv_of hg6) (mc (gv_of hg6) mn)))) ?_
  rintro w_4 hS5
  refine sgq 37 rfl rfl (uF_ 32) (fun hg7=>(yn rfl (gv_of hg7))) ?_
  refine sQ 38 yO<|sQ 23 yu (rn ?_)
  refine cw_cond rfl (fun hb2=>?_) (fun hb2=>?_)
  ·skip
   have hF5:=ct hF4 hb2
   refine cq (cr ?_)
   refine sQ 4 yu (rn (ct_ ?_))
   obtain ⟨rfl,rfl,rfl⟩:=pr3 (sI hF5)
   exact ret1 Tryz.results44 (v1:=vi 3) (resAt_tmp rfl) ⟨rfl,rfl,rfl,(hS5.sN [0,1])⟩
  ·skip
   have hF6:=cf' hF4 hb2
   refine cq (cr ?_)
   refine sQ 40 (yw 0 K54 K24 (hS5.c 2))<|sQ 41 (yd (aD b1) 0 0 K89 K0)<|sQ 42 (yz 0 K1 (hS5.c 3)) ?_
   obtain ⟨r_4,hc3,hF6⟩:=bI hF6
   refine sc 43 rfl rfl (yc Nk (Lv r_ s.Gate B c r_.g.Edges.length B1 c1 r_.c.Gates.length B2 c2 r_.place.length B3 c3 r_.done.length _ rfl rfl rfl rfl (hS5.inn0 [(true,0),(true,1),(false,0),(false,1)] rfl) hc3)) ?_
   rintro _ w_5 ⟨rfl,hd2⟩
   have hS6:=hS5.out00 hd2
   refine sQ 44 yn<|sQ 39 yu (rn ?_)
   refine cw_cond rfl (fun hb3=>?_) (fun hb3=>?_)
   ·skip
    have hF7:=ct hF6 hb3
    refine cq (cr ?_)
    refine sQ 4 yu (rn (ct_ ?_))
    obtain ⟨rfl,rfl,rfl⟩:=pr3 (sI hF7)
    exact ret1 Tryz.results44 (v1:=vi 4) (resAt_tmp rfl) ⟨rfl,rfl,rfl,(hS6.sN [0,1])⟩
   ·skip
    have hF8:=cf' hF6 hb3
    refine cw_skip (cq (cr ?_))
    refine sQ 45 (yd (aD b) 0 0 K76 K41)<|sQ 46 (yz 5 K60 (hS6.c 2))<|sQ 47 (yd (aD b1) 0 0 K89 K0)<|sQ 48 (yz 0 K1 (hS6.c 3)) ?_
    obtain ⟨x,hx,hF8⟩:=bI hF8
    refine sQ 49 (yI B3 s.Gate K47 K49 (gi_isSome encB_len rfl (hS6.c 1) hx) (getI_nn hx) (getI_ltI hx rfl)) ?_
    refine s0 (yS 1 1 B3 4 (.bool true) [.bool true] (s.Gate.toNat*1) ((r_.done.set s.Gate.toNat true).flatMap encB) hS6 K49 rfl rfl rfl rfl rfl rfl rfl (gi_fit0 encB_len hx) (gi_set encB_len hx true rfl)) ?_
    rintro _ w_6 ⟨rfl,hS7⟩
    refine rn (cq (cr ?_))
    refine sQ 4 yu (rn (ct_ ?_))
    obtain ⟨rfl,rfl,rfl⟩:=pr3 (sI hF8)
    exact ret1 Tryz.results44 (v1:=vi 0) (resAt_tmp rfl) ⟨rfl,rfl,(set_len _ _ _ rfl),(hS7.sN [0,1])⟩

theorem OH (g:Ae) (c1:Ad) (route:Am) (B:Option Addr) (c n:Nat) (B1:Option Addr) (c2 n1:Nat) (B2:Option Addr) (c3 n2:Nat) (B3:Option Addr) (c4 n3:Nat) (w0:World) (hn:g.Edges.length=n) (hq:n≤c) (hn1:c1.Gates.length=n1) (hq1:n1≤c2) (hn2:route.Start.length=n2) (hq2:n2≤c3) (hn3:route.Steps.length=n3) (hS:ST w0 [] w0 [] [⟨B,(g.Edges.flatMap eN1)⟩,⟨B1,(c1.Gates.flatMap eN0)⟩,⟨B2,(route.Start.flatMap encI)⟩,⟨B3,(route.Steps.flatMap eN2)⟩]) {r_:Int} {r_1:Int} {r_2:Ap} (hF:EI g c1 route=some (r_,r_1,r_2)) :
  CV Tryz.prog 47 #[.agg #[vi g.Nodes,.slice B n c],.agg #[vi c1.Qubits,.slice B1 n1 c2],.agg #[.slice B2 n2 c3,.slice B3 n3 c4]] w0 (fun v w'=>∃ (B4:Option Addr) (c5:Nat) (B5:Option Addr) (c6:Nat) (B6:Option Addr) (c7:Nat) (B7:Option Addr) (c8:Nat),v=.tuple #[vi r_,vi r_1,.agg #[vi r_2.g.Nodes,.slice B4 r_2.g.Edges.length c5,vi r_2.c.Qubits,.slice B5 r_2.c.Gates.length c6,.slice B6 r_2.place.length c7,.slice B7 r_2.done.length c8]]∧r_2.g.Edges.length≤c5∧r_2.c.Gates.length≤c6∧Org w0 [] [⟨B,(g.Edges.flatMap eN1)⟩,⟨B1,(c1.Gates.flatMap eN0)⟩,⟨B2,(route.Start.flatMap encI)⟩,⟨B3,(route.Steps.flatMap eN2)⟩] [⟨B4,(r_2.g.Edges.flatMap eN1)⟩,⟨B5,(r_2.c.Gates.flatMap eN0)⟩]∧ST w0 [] w' [⟨B6,3,(r_2.place.flatMap encI),c7*1⟩,⟨B7,4,(r_2.done.flatMap encB),c8*1⟩] [⟨B4,(r_2.g.Edges.flatMap eN1)⟩,⟨B5,(r_2.c.Gates.flatMap eN0)⟩]):=by
 subst hn
 subst hn1
 subst hn2
 subst hn3
 unfold EI at hF
 refine cv_of_cw 51 Tryz.func47 rfl Tryz.ntmps47 rfl ?_
 refine cq (cr ?_)
 let V13:List Value:=[vi g.Nodes,.slice B g.Edges.length c]
 refine sS 3 (yV V13 2 hS) ?_
 rintro _ w_ ⟨b,rfl,hS1⟩
 let V14:List Value:=[vi c1.Qubits,.slice B1 c1.Gates.length c2]
 refine sS 4 (yV V14 2 hS1) ?_
 rintro _ w_1 ⟨b1,rfl,hS2⟩
 let V12:List Value:=[.slice B2 route.Start.length c3,.slice B3 route.Steps.length c4]
 refine sS 5 (yV V12 2 hS2) ?_
 rintro _ w_2 ⟨b2,rfl,hS3⟩
 refine sQ 6 (yg (vi 0))<|sQ 7 (yg (vi 0)) ?_
 let V11:List Value:=[vi 0,.slice none 0 0,vi 0,.slice none 0 0,.slice none 0 0,.slice none 0 0]
 refine sS 8 (yN V11 6 hS3 K86) ?_
 rintro _ w_3 ⟨b3,rfl,hS4⟩
 refine rn (cq (cq (cr ?_)))
 refine sQ 13 (yw 0 K13 K8 (hS4.c 0))<|sQ 14 (yd (aD b1) 0 0 K42 K0)<|sQ 15 (yz 0 K1 (hS4.c 1))<|sQ 16 (yd (aD b2) 0 0 K90 K16)<|sQ 17 (yz 0 K23 (hS4.c 2)) ?_
 obtain ⟨r_3,hc,hF⟩:=bI hF
 refine sc 18 rfl rfl (yc Pu (MH g c1.Qubits route.Start B c g.Edges.length B2 c3 route.Start.length _ rfl rfl hq2 (hS4.inn0 [(true,0),(true,2)] rfl) hc)) ?_
 rintro _ w_4 ⟨rfl,hd⟩
 have hS5:=hS4.out00 hd
 refine sQ 19 yn (rn ?_)
 refine cw_cond rfl (fun hb=>?_) (fun hb=>?_)
 ·skip
  have hF1:=ct hF hb
  refine cq (cr ?_)
  refine sQ 20 (Y_buildS (zs:=V11) (vs:=[]) (cs:=V11) PG K86 rfl mpn rfl)<|sQ 6 (yg (vi 1))<|sQ 7 (yg (vi 0)) ?_
  refine s0 (yK 3 6 0 hS5 K24) ?_
  rintro _ w_5 ⟨rfl,hS6⟩
  refine rn (ct_ ?_)
  let O0:Ob:=⟨aD b3,82,V11,6⟩
  let O1:Ob:=⟨aD b2,34,V12,2⟩
  let O3:Ob:=⟨aD b1,28,V14,2⟩
  have hS7:ST w0 [] _ [⟨aD b,25,V13,2⟩,O3,O1,O0] [⟨none,([].flatMap eN1)⟩,⟨B,(g.Edges.flatMap eN1)⟩,⟨B1,(c1.Gates.flatMap eN0)⟩,⟨B2,(route.Start.flatMap encI)⟩,⟨B3,(route.Steps.flatMap eN2)⟩]:=ST.nilRo hS6
  have hS8:ST w0 [] _ [⟨aD b,25,V13,2⟩,O3,O1,O0] [⟨none,([].flatMap eN0)⟩,⟨none,([].flatMap eN1)⟩,⟨B,(g.Edges.flatMap eN1)⟩,⟨B1,(c1.Gates.flatMap eN0)⟩,⟨B2,(route.Start.flatMap encI)⟩,⟨B3,(route.Steps.flatMap eN2)⟩]:=ST.nilRo hS7
  have hS9:=hS8.addNil 3
  have hS10:=hS9.addNil 4
  obtain ⟨rfl,rfl,rfl⟩:=pr3 (sI hF1)
  exact ret3 Tryz.results47 rT rT (rX K54 K24 (hS10.c 3)) ⟨none,0,none,0,none,0,none,0,rfl,(len_le rfl (Nat.le_refl 0)),(len_le rfl (Nat.le_refl 0)),(org_cons org_none (org_cons org_none org_nil)),((hS10.sel [4,5] rfl rfl).sT [1,0])⟩
 ·skip
  have hF2:=cf' hF hb
  refine cw_skip (cq (cr ?_))
  refine sQ 21 (yw 0 K13 K8 (hS5.c 0))<|sQ 22 (yw 0 K10 K3 (hS5.c 1))<|sQ 23 (yd (aD b2) 0 0 K90 K16)<|sQ 24 (yz 0 K23 (hS5.c 2)) ?_
  obtain ⟨r_4,hc1,hF2⟩:=bI hF2
  refine sc 25 rfl rfl (yc Kf (Ki g c1 route.Start B c g.Edges.length B1 c2 c1.Gates.length B2 c3 route.Start.length _ rfl hq rfl hq1 rfl (hS5.inn0 [(true,0),(true,1),(true,2)] rfl) hc1)) ?_
  rintro _ w_6 ⟨B8,c9,B9,c10,B10,c11,B11,c12,rfl,hq3,hq4,ho,hd1⟩
  have hS11:=ST.outR0 hS5 hd1 ho (sk 0 (sk 1 (sk 2 (fun _ h=>by cases h))))
  let R5:Ro:=⟨B2,(route.Start.flatMap encI)⟩
  let R6:Ro:=⟨B3,(route.Steps.flatMap eN2)⟩
  let R7:Ro:=⟨B1,(c1.Gates.flatMap eN0)⟩
  let R8:Ro:=⟨B8,(r_4.g.Edges.flatMap eN1)⟩
  let R9:Ro:=⟨B9,(r_4.c.Gates.flatMap eN0)⟩
  have ho1:Org w0 [] [⟨B,(g.Edges.flatMap eN1)⟩,R7,R5,R6] [R8,R9]:=org_trans0 hS5 ho (org_cons (org_mem (i:=0) rfl) (org_cons (org_mem (i:=1) rfl) (org_cons (org_mem (i:=2) rfl) org_nil)))
  let O2:Ob:=⟨aD b3,82,V11,6⟩
  let O4:Ob:=⟨aD b2,34,V12,2⟩
  have hS12:ST w0 [] _ [⟨aD b,25,V13,2⟩,⟨aD b1,28,V14,2⟩,O4,O2,⟨B10,3,(r_4.place.flatMap encI),c11*1⟩,⟨B11,4,(r_4.done.flatMap encB),c12*1⟩] [R8,R9,⟨B,(g.Edges.flatMap eN1)⟩,R7,R5,R6]:=hS11
  refine sS 9 (yN V11 6 hS12 K86) ?_
  rintro _ w_7 ⟨b4,rfl,hS13⟩
  refine s0 (yK 6 6 0 hS13 K24) ?_
  rintro _ w_8 ⟨rfl,hS14⟩
  refine rn (cq (cq (cr ?_)))
  refine sQ 26 (yd (aD b2) 0 0 K71 K36)<|sQ 27 (yz 1 K55 (hS14.c 2))<|sQ 28 (Y_len K31 rfl rfl)<|sQ 29 (ym (vi 0)) (rn ?_)
  obtain ⟨hN,hF2⟩:=chk_inv hF2
  obtain ⟨z,hz,hF3⟩:=bI hF2
  refine cw_block ?_
  let V10:List Value:=[vi r_4.g.Nodes,.slice B8 r_4.g.Edges.length c9,vi r_4.c.Qubits,.slice B9 r_4.c.Gates.length c10,.slice B10 r_4.place.length c11,.slice B11 r_4.done.length c12]
  refine cw_loop (fun k f w=>∃ (i:Nat) (place:List Int) (done:List Bool),FF f [(5,pt (aD b2) 0),(8,pt (aD b3) 0),(9,pt (aD b4) 0),(27,.slice B3 route.Steps.length c4),(28,vi (route.Steps.length:Int)),(29,vi (i:Int))]∧place.length=r_4.place.length∧done.length=r_4.done.length∧ST w0 [] w [O4,O2,⟨aD b4,82,V10,6⟩,⟨B10,3,(place.flatMap encI),c11*1⟩,⟨B11,4,(done.flatMap encB),c12*1⟩] [R8,R9,⟨B,(g.Edges.flatMap eN1)⟩,R7,R5,R6]∧i+k=route.Steps.length∧forX (EQ route r_4 g) k i (place,done)=some z) route.Steps.length ⟨0,r_4.place,r_4.done,(fc rfl (fc rfl (fc rfl (fc rfl (fc rfl (fc rfl fn_)))))),rfl,rfl,(hS14.sel [2,3,6,4,5] rfl rfl),Nat.zero_add _,hz⟩ ?_
  rintro k_ f w ⟨i,place,done,hf,hl,hl1,hS15,hik,hL⟩
  refine cq (cr ?_)
  refine sQ 30 (zL rfl (hf.g 29 5) (hf.g 28 4)) (rn (cq ?_))
  refine cw_cond rfl (fun hlt=>?_) (fun hlt=>?_)
  ·skip
   have hlt1:i<route.Steps.length:=by have h:=of_decide_eq_true hlt; omega
   obtain ⟨K2,rfl⟩:∃ k2,k_=k2+1:=⟨k_-1,by omega⟩
   obtain ⟨y,hb1,hL1⟩:=forX_go hL
   unfold EQ at hb1
   refine cw_skip (cq (cw_block (cq (cr ?_))))
   refine sQ 31 (ym (vi (i:Int)) rfl (hf.g 29 5)) ?_
   obtain ⟨x,hx,hb1⟩:=bI hb1
   refine sQ 32 (yI B3 (i:Int) K31 K26 (gi_isSome A5 rfl (hS15.rf (i:=5) rfl) hx) (getI_nn hx) (getI_ltI hx rfl) rfl (hf.g 27 3) (hf.g 29 5))<|sQ 33 (ya B3 ((i:Int).toNat*3) (route.Steps.flatMap eN2) [vi x.Gate,vi x.A,vi x.B] K96 K26 (hS15.rf (i:=5) rfl) rfl rfl (A5 x) (gi_seg A5 hx)) ?_
   refine sS 11 (yN [vi 0,vi 0,vi 0] 3 hS15 K56) ?_
   rintro _ w_9 ⟨b5,rfl,hS16⟩
   refine sQ 10 (yg (vi (i:Int))) ?_
   refine s0 (yK 5 3 0 hS16 K26) ?_
   rintro _ w_10 ⟨rfl,hS17⟩
   refine rn (cq (cr ?_))
   refine sQ 34 (yw 0 K54 K24 (hS17.c 2) rfl (hf.g 9 2))<|sQ 35 (yw 0 K96 K26 (hS17.c 5)) ?_
   obtain ⟨⟨r_5,m,m1⟩,hc2,hb1⟩:=bI hb1
   refine sc 36 rfl rfl (yc N8 (LH (Ap.mk r_4.g r_4.c place done) x B8 c9 r_4.g.Edges.length B9 c10 r_4.c.Gates.length B10 c11 r_4.place.length B11 c12 r_4.done.length _ rfl rfl hq4 hl hl1 (hS17.inn [false,false,false,true,true,false] rfl [(true,0),(true,1)] rfl) hc2)) ?_
   rintro _ w_11 ⟨rfl,hl2,hl3,hd2⟩
   have hS18:=hS17.out [false,false,false,true,true,false] rfl hd2
   refine sQ 12 (yg (vi r_5)) (rn (cq (cr ?_)))
   refine sQ 37 (ym (vi r_5))<|sQ 38 (Y_ne rfl rfl rfl) (rn ?_)
   refine cw_cond rfl (fun hb2=>?_) (fun hb2=>?_)
   ·skip
    have hF4:=ct hb1 hb2
    refine cq ?_
    refine ra_start (hS18.se [0,2,3,4,5]).fn (by kernel_rfl) ?_
    have hS19:=hS18.drew
    have hQ0:=hS19.se [0,2,3,4,5]
    refine rq 0 39 rfl hQ0 (fun _ q=>(ym (vi r_5)))<|rq 1 40 rfl hQ0 (fun _ q=>(ym (vi (i:Int))))<|rq 2 41 rfl hQ0 (fun _ q=>(yw 0 K54 K24 (ST.c q 1) rfl (hf.g 9 2)))<|rq 3 6 rfl hQ0 (fun _ q=>(yg (vi r_5)))<|rq 4 7 rfl hQ0 (fun _ q=>(yg (vi (i:Int)))) ?_
    refine rA [5] ?_
    refine rZ 5 rfl (yK 1 6 0 hS19 K24 rfl (hf.g 8 1)) ?_ aN
    rintro _ w_12 ⟨rfl,hS20⟩
    refine ⟨(hS20.se [0,2,3,4,5]),?_⟩
    refine ra_done (by kernel_rfl) ?_
    refine ct_ ?_
    obtain rfl:=sI hF4
    obtain rfl:=sI hL1
    obtain ⟨rfl,rfl,rfl⟩:=pr3 (sI hF3)
    exact ret3 Tryz.results47 (v1:=vi r_5) (resAt_tmp rfl) (v2:=vi (i:Int)) (resAt_tmp rfl) (v3:=.agg V10.toArray) (rX K54 K24 (hS20.c 1) (hf.g 8 1)) ⟨B8,c9,B9,c10,B10,c11,B11,c12,(by simp +zetaDelta [hl2,hl3]),(len_le rfl hq3),(len_le rfl hq4),(org_cons (org_sub ho1 (sk 0 (fun _ h=>by cases h))) (org_cons (org_sub ho1 (sk 1 (fun _ h=>by cases h))) org_nil)),((hS20.sel [4,5] rfl rfl).sT [0,1])⟩
   ·skip
    have hF5:=cf' hb1 hb2
    refine cw_skip (cr ?_)
    refine sQ 42 (zP rfl (hf.g 29 5))<|sQ 29 (ym (vi (i64.wrap ((i:Int)+1)))) (rn ?_)
    obtain rfl:=sI hF5
    exact ⟨K2,Nat.lt_succ_self _,i+1,m,m1,(hf.a 5 0 (hf.a 8 1 (hf.a 9 2 (hf.a 27 3 (hf.a 28 4 (fc (congrArg (Value.int .i64) (wr_succ hlt1 hN)) fn_)))))),hl2,hl3,(hS18.sel [0,1,2,4,5] rfl rfl),(by omega),hL1⟩
  ·skip
   obtain rfl:k_=0:=by have h:=of_decide_eq_false hlt; omega
   refine cw_exit rfl ?_
   obtain rfl:=sI hL
   refine cq (cq (cr ?_))
   refine sQ 43 (yd (aD b4) 0 0 K76 K41 rfl (hf.g 9 2))<|sQ 44 (yz 5 K60 (hS15.c 2)) ?_
   obtain ⟨r_6,hc3,hF3⟩:=bI hF3
   refine sc 45 rfl rfl (yc LI (Ot done false B11 c12 r_4.done.length _ hl1 (hS15.inn0 [(false,4)] rfl) hc3)) ?_
   rintro _ w_13 ⟨rfl,hd3⟩
   have hS21:=hS15.out00 hd3
   refine rn ?_
   refine cw_cond rfl (fun hb3=>?_) (fun hb3=>?_)
   ·skip
    have hF6:=ct hF3 hb3
    refine cq ?_
    refine ra_start (hS21.se [0,2,3,4]).fn (by kernel_rfl) ?_
    have hS22:=hS21.drew
    have hQ1:=hS22.se [0,2,3,4]
    refine rq 0 46 rfl hQ1 (fun _ q=>(yd (aD b2) 0 0 K71 K36 rfl (hf.g 5 0)))<|rq 1 47 rfl hQ1 (fun _ q=>(yz 1 K55 (ST.c q 0)))<|rq 2 48 rfl hQ1 (fun _ q=>(Y_len K31 rfl rfl))<|rq 3 49 rfl hQ1 (fun _ q=>(yw 0 K54 K24 (ST.c q 1) rfl (hf.g 9 2)))<|rq 4 6 rfl hQ1 (fun _ q=>(yg (vi 5))) ?_
    refine rq 5 7 rfl hQ1 (fun _ q=>(yg (vi (route.Steps.length:Int)))) ?_
    refine rA [6] ?_
    refine rZ 6 rfl (yK 1 6 0 hS22 K24 rfl (hf.g 8 1)) ?_ aN
    rintro _ w_14 ⟨rfl,hS23⟩
    refine ⟨(hS23.se [0,2,3,4]),?_⟩
    refine ra_done (by kernel_rfl) ?_
    refine ct_ ?_
    obtain ⟨rfl,rfl,rfl⟩:=pr3 (sI hF6)
    exact ret3 Tryz.results47 (v1:=vi 5) (resAt_tmp rfl) (v2:=vi (route.Steps.length:Int)) (resAt_tmp rfl) (v3:=.agg V10.toArray) (rX K54 K24 (hS23.c 1) (hf.g 8 1)) ⟨B8,c9,B9,c10,B10,c11,B11,c12,(by simp +zetaDelta [hl,hl1]),(len_le rfl hq3),(len_le rfl hq4),(org_cons (org_sub ho1 (sk 0 (fun _ h=>by cases h))) (org_cons (org_sub ho1 (sk 1 (fun _ h=>by cases h))) org_nil)),((hS23.sel [3,4] rfl rfl).sT [0,1])⟩
   ·skip
    have hF7:=cf' hF3 hb3
    refine cw_skip (cq ?_)
    refine ra_start (hS21.se [0,2,3,4]).fn (by kernel_rfl) ?_
    have hS24:=hS21.drew
    have hQ2:=hS24.se [0,2,3,4]
    refine rq 0 50 rfl hQ2 (fun _ q=>(yw 0 K54 K24 (ST.c q 1) rfl (hf.g 9 2)))<|rq 1 6 rfl hQ2 (fun _ q=>(yg (vi 0)))<|rq 2 7 rfl hQ2 (fun _ q=>(yg (vi 0))) ?_
    refine rA [3] ?_
    refine rZ 3 rfl (yK 1 6 0 hS24 K24 rfl (hf.g 8 1)) ?_ aN
    rintro _ w_15 ⟨rfl,hS25⟩
    refine ⟨(hS25.se [0,2,3,4]),?_⟩
    refine ra_done (by kernel_rfl) ?_
    refine ct_ ?_
    obtain ⟨rfl,rfl,rfl⟩:=pr3 (sI hF7)
    exact ret3 Tryz.results47 (v1:=vi 0) (resAt_tmp rfl) (v2:=vi 0) (resAt_tmp rfl) (v3:=.agg V10.toArray) (rX K54 K24 (hS25.c 1) (hf.g 8 1)) ⟨B8,c9,B9,c10,B10,c11,B11,c12,(by simp +zetaDelta [hl,hl1]),(len_le rfl hq3),(len_le rfl hq4),(org_cons (org_sub ho1 (sk 0 (fun _ h=>by cases h))) (org_cons (org_sub ho1 (sk 1 (fun _ h=>by cases h))) org_nil)),((hS25.sel [3,4] rfl rfl).sT [0,1])⟩

theorem Wq (g:Ae) (c1:Ad) (r_:Am) (B:Option Addr) (c n:Nat) (B1:Option Addr) (c2 n1:Nat) (B2:Option Addr) (c3 n2:Nat) (B3:Option Addr) (c4 n3:Nat) (w0:World) (hn:g.Edges.length=n) (hq:n≤c) (hn1:c1.Gates.length=n1) (hq1:n1≤c2) (hn2:r_.Start.length=n2) (hq2:n2≤c3) (hn3:r_.Steps.length=n3) (hS:ST w0 [] w0 [] [⟨B,(g.Edges.flatMap eN1)⟩,⟨B1,(c1.Gates.flatMap eN0)⟩,⟨B2,(r_.Start.flatMap encI)⟩,⟨B3,(r_.Steps.flatMap eN2)⟩]) {r_1:Int} {r_2:Int} {r_3:Bool} (hF:GJ g c1 r_=some (r_1,r_2,r_3)) :
  CV Tryz.prog 41 #[.agg #[vi g.Nodes,.slice B n c],.agg #[vi c1.Qubits,.slice B1 n1 c2],.agg #[.slice B2 n2 c3,.slice B3 n3 c4]] w0 (fun v w'=>v=.tuple #[vi r_1,vi r_2,.bool r_3]∧ST w0 [] w' [] []):=by
 subst hn
 subst hn1
 subst hn2
 subst hn3
 unfold GJ at hF
 refine cv_of_cw 26 Tryz.func41 rfl Tryz.ntmps41 rfl ?_
 refine cq (cr ?_)
 refine sS 3 (yV [vi g.Nodes,.slice B g.Edges.length c] 2 hS) ?_
 rintro _ w_ ⟨b,rfl,hS1⟩
 refine sS 4 (yV [vi c1.Qubits,.slice B1 c1.Gates.length c2] 2 hS1) ?_
 rintro _ w_1 ⟨b1,rfl,hS2⟩
 refine sS 5 (yV [.slice B2 r_.Start.length c3,.slice B3 r_.Steps.length c4] 2 hS2) ?_
 rintro _ w_2 ⟨b2,rfl,hS3⟩
 refine sQ 6 yu<|sQ 7 yu<|sQ 8 yu (rn (cq (cq (cr ?_))))
 refine sQ 12 (yw 0 K13 K8 (hS3.c 0))<|sQ 13 (yw 0 K10 K3 (hS3.c 1)) ?_
 obtain ⟨r_4,hc,hF⟩:=bI hF
 refine sc 14 rfl rfl (yc JD (JT g c1 B c g.Edges.length B1 c2 c1.Gates.length _ rfl rfl (hS3.inn0 [(true,0),(true,1)] rfl) hc)) ?_
 rintro _ w_3 ⟨rfl,hd⟩
 have hS4:=hS3.out00 hd
 refine sQ 15 yn (rn ?_)
 refine cw_cond rfl (fun hb=>?_) (fun hb=>?_)
 ·skip
  have hF1:=ct hF hb
  refine cq (cr ?_)
  refine sQ 6 yu<|sQ 7 yu<|sQ 8 yu (rn (ct_ ?_))
  obtain ⟨rfl,rfl,rfl⟩:=pr3 (sI hF1)
  exact e3 Tryz.results41 (hS4.sN [])
 ·skip
  have hF2:=cf' hF hb
  refine cw_skip (cq (cr ?_))
  refine sQ 17 (yw 0 K13 K8 (hS4.c 0))<|sQ 18 (yw 0 K10 K3 (hS4.c 1))<|sQ 19 (yw 0 K46 K25 (hS4.c 2)) ?_
  obtain ⟨⟨r_5,r_6,r_7⟩,hc1,hF2⟩:=bI hF2
  refine sc 20 rfl rfl (yc My (OH g c1 r_ B c g.Edges.length B1 c2 c1.Gates.length B2 c3 r_.Start.length B3 c4 r_.Steps.length _ rfl hq rfl hq1 rfl hq2 rfl (hS4.inn0 [(true,0),(true,1),(true,2),(true,3)] rfl) hc1)) ?_
  rintro _ w_4 ⟨B4,c5,B5,c6,B6,c7,B7,c8,rfl,hq3,hq4,ho,hd1⟩
  have hS5:=ST.outR0 hS4 hd1 ho (sk 0 (sk 1 (sk 2 (sk 3 (fun _ h=>by cases h)))))
  have ho1:Org w0 [] [⟨B,(g.Edges.flatMap eN1)⟩,⟨B1,(c1.Gates.flatMap eN0)⟩,⟨B2,(r_.Start.flatMap encI)⟩,⟨B3,(r_.Steps.flatMap eN2)⟩] [⟨B4,(r_7.g.Edges.flatMap eN1)⟩,⟨B5,(r_7.c.Gates.flatMap eN0)⟩]:=org_trans0 hS4 ho (org_cons (org_mem (i:=0) rfl) (org_cons (org_mem (i:=1) rfl) (org_cons (org_mem (i:=2) rfl) (org_cons (org_mem (i:=3) rfl) org_nil))))
  have hS6:ST w0 [] _ [⟨aD b,25,[vi g.Nodes,.slice B g.Edges.length c],2⟩,⟨aD b1,28,[vi c1.Qubits,.slice B1 c1.Gates.length c2],2⟩,⟨aD b2,34,[.slice B2 r_.Start.length c3,.slice B3 r_.Steps.length c4],2⟩,⟨B6,3,(r_7.place.flatMap encI),c7*1⟩,⟨B7,4,(r_7.done.flatMap encB),c8*1⟩] [⟨B4,(r_7.g.Edges.flatMap eN1)⟩,⟨B5,(r_7.c.Gates.flatMap eN0)⟩,⟨B,(g.Edges.flatMap eN1)⟩,⟨B1,(c1.Gates.flatMap eN0)⟩,⟨B2,(r_.Start.flatMap encI)⟩,⟨B3,(r_.Steps.flatMap eN2)⟩]:=hS5
  refine sQ 16 yv<|sQ 21 (ye (vi r_5))<|sQ 22 (ye (vi r_6))<|sQ 23 (ye (.agg #[vi r_7.g.Nodes,.slice B4 r_7.g.Edges.length c5,vi r_7.c.Qubits,.slice B5 r_7.c.Gates.length c6,.slice B6 r_7.place.length c7,.slice B7 r_7.done.length c8])) ?_
  refine sS 11 (yN [vi 0,.slice none 0 0,vi 0,.slice none 0 0,.slice none 0 0,.slice none 0 0] 6 hS6 K86) ?_
  rintro _ w_5 ⟨b3,rfl,hS7⟩
  refine sQ 9 yu<|sQ 10 yu ?_
  refine s0 (yK 5 6 0 hS7 K24) ?_
  rintro _ w_6 ⟨rfl,hS8⟩
  refine rn (cq (cr ?_))
  refine sQ 24 yv<|sQ 25 yv<|sQ 6 yu<|sQ 7 yu<|sQ 8 yu (rn (ct_ ?_))
  obtain ⟨rfl,rfl,rfl⟩:=pr3 (sI hF2)
  exact e3 Tryz.results41 (hS8.sN [])

theorem MX (gates:List Ac) (to_:List Int) (B:Option Addr) (c n:Nat) (B1:Option Addr) (c1 n1:Nat) (w0:World) (hn:gates.length=n) (hn1:to_.length=n1) (hS:ST w0 [] w0 [] [⟨B,(gates.flatMap eN0)⟩,⟨B1,(to_.flatMap encI)⟩]) {r_:List Ac} (hF:E9 gates to_=some r_) :
  CV Tryz.prog 43 #[.slice B n c,.slice B1 n1 c1] w0 (fun v w'=>∃ (B2:Option Addr) (c2:Nat),v=.slice B2 r_.length c2∧ST w0 [] w' [⟨B2,73,(r_.flatMap eN0),c2*3⟩] []):=by
 subst hn
 subst hn1
 unfold E9 at hF
 refine cv_of_cw 39 Tryz.func43 rfl Tryz.ntmps43 rfl ?_
 refine cq (cr ?_)
 refine sQ 4 yu (rn (cq (cr ?_)))
 refine sS 8 (Ys_bslice0 (s:=3) (e:=73) hS K12 K7 rfl) ?_
 rintro _ w_ ⟨b,rfl,hS1⟩
 refine sQ 5 yu (rn (cq (cq (cr ?_))))
 refine sQ 9 yv<|sQ 10 (Y_len K12 rfl rfl)<|sQ 11 yv (rn ?_)
 obtain ⟨hN,hF⟩:=chk_inv hF
 obtain ⟨z,hz,hF1⟩:=bI hF
 refine cw_block ?_
 refine cw_loop (fun k f w=>∃ (i:Nat) (out:List Ac) (B3:Option Addr) (c3:Nat),FF f [(1,.slice B1 to_.length c1),(5,.slice B3 out.length c3),(9,.slice B gates.length c),(10,vi (gates.length:Int)),(11,vi (i:Int))]∧ST w0 [] w [⟨B3,73,(out.flatMap eN0),c3*3⟩] [⟨B,(gates.flatMap eN0)⟩,⟨B1,(to_.flatMap encI)⟩]∧i+k=gates.length∧forN (HA gates to_) k i out=some z) gates.length ⟨0,[],aD b,0,(fc rfl (fc rfl (fc rfl (fc rfl (fc rfl fn_))))),(hS1.sel [0] rfl rfl),Nat.zero_add _,hz⟩ ?_
 rintro k_ f w ⟨i,out,B3,c3,hf,hS2,hik,hL⟩
 refine cq (cr ?_)
 refine sQ 12 (zL rfl (hf.g 11 4) (hf.g 10 3)) (rn (cq ?_))
 refine cw_cond rfl (fun hlt=>?_) (fun hlt=>?_)
 ·skip
  have hlt1:i<gates.length:=by have h:=of_decide_eq_true hlt; omega
  obtain ⟨K2,rfl⟩:∃ k2,k_=k2+1:=⟨k_-1,by omega⟩
  obtain ⟨y,hb,hL1⟩:=forN_go hL
  unfold HA at hb
  refine cw_skip (cq (cw_block (cq (cr ?_))))
  obtain ⟨x,hx,hb⟩:=bI hb
  refine sQ 13 (yI B (i:Int) K12 K7 (gi_isSome eN8 rfl (hS2.rf (i:=0) rfl) hx) (getI_nn hx) (getI_ltI hx rfl) rfl (hf.g 9 2) (hf.g 11 4))<|sQ 14 (ya B ((i:Int).toNat*3) (gates.flatMap eN0) [vi x.Kind,vi x.A,vi x.B] K35 K7 (hS2.rf (i:=0) rfl) rfl rfl (eN8 x) (gi_seg eN8 hx)) ?_
  refine sS 7 (yN [vi 0,vi 0,vi 0] 3 hS2 K28) ?_
  rintro _ w_1 ⟨b1,rfl,hS3⟩
  refine s0 (yK 1 3 0 hS3 K7) ?_
  rintro _ w_2 ⟨rfl,hS4⟩
  refine rn (cq ?_)
  obtain ⟨z1,hz1,hF2⟩:=bI hb
  refine cw_mid (fun f w=>∃ (A:Int),A=z1∧FF f [(1,.slice B1 to_.length c1),(5,.slice B3 out.length c3),(7,pt (aD b1) 0),(9,.slice B gates.length c),(10,vi (gates.length:Int)),(11,vi (i:Int))]∧ST w0 [] w [⟨B3,73,(out.flatMap eN0),c3*3⟩,⟨aD b1,73,[vi x.Kind,vi A,vi x.B],3⟩] [⟨B,(gates.flatMap eN0)⟩,⟨B1,(to_.flatMap encI)⟩]) ?_ ?_
  ·skip
   refine cq (cr ?_)
   refine sQ 15 (yd (aD b1) 0 0 K38 K0)<|sQ 16 (yz 0 K1 (hS4.c 1))<|sQ 17 (Y_ne rfl rfl rfl) (rn ?_)
   refine cw_cond rfl (fun hb1=>?_) (fun hb1=>?_)
   ·skip
    have hF3:=ct hz1 hb1
    refine cr ?_
    refine sQ 18 (yv rfl (hf.g 1 0))<|sQ 19 (yd (aD b1) 0 0 K39 K0)<|sQ 20 (yz 1 K1 (hS4.c 1)) ?_
    obtain ⟨x1,hx1,hF3⟩:=bI hF3
    refine sQ 21 (yI B1 x.A K5 K0 (gi_isSome encI_len rfl (hS4.rf (i:=1) rfl) hx1) (getI_nn hx1) (getI_ltI hx1 rfl))<|sQ 22 (yz (x.A.toNat*1) K1 (hS4.rf (i:=1) rfl) rfl rfl (gi_at0 encI_len hx1 rfl))<|sQ 23 (yd (aD b1) 0 0 K39 K0) ?_
    refine s0 (yS 1 1 (aD b1) 73 (vi x1) [vi x1] 1 [vi x.Kind,vi x1,vi x.B] hS4 K0) ?_
    rintro _ w_3 ⟨rfl,hS6⟩
    refine rn ?_
    exact ⟨x1,(sI hF3),(hf.a 1 0 (hf.a 5 1 (fc rfl (hf.a 9 2 (hf.a 10 3 (hf.a 11 4 fn_)))))),(hS6.sel [0,1] rfl rfl)⟩
   ·skip
    have hF4:=cf' hz1 hb1
    refine cw_skip ?_
    exact ⟨x.A,(sI hF4),(hf.a 1 0 (hf.a 5 1 (fc rfl (hf.a 9 2 (hf.a 10 3 (hf.a 11 4 fn_)))))),(hS4.sel [0,1] rfl rfl)⟩
  rintro f w ⟨A,rfl,hf1,hS5⟩
  refine cq ?_
  obtain ⟨z2,hz2,hF5⟩:=bI hF2
  refine cw_mid (fun f w=>∃ (B4:Int),B4=z2∧FF f [(1,.slice B1 to_.length c1),(5,.slice B3 out.length c3),(7,pt (aD b1) 0),(9,.slice B gates.length c),(10,vi (gates.length:Int)),(11,vi (i:Int))]∧ST w0 [] w [⟨B3,73,(out.flatMap eN0),c3*3⟩,⟨aD b1,73,[vi x.Kind,vi A,vi B4],3⟩] [⟨B,(gates.flatMap eN0)⟩,⟨B1,(to_.flatMap encI)⟩]) ?_ ?_
  ·skip
   refine cq (cr ?_)
   refine sQ 24 (yd (aD b1) 0 0 K38 K0 rfl (hf1.g 7 2))<|sQ 25 (yz 0 K1 (hS5.c 1)) ?_
   obtain ⟨r_1,hc,hz2⟩:=bI hz2
   refine sc 26 rfl rfl (yc Er (EH x.Kind _  (hS5.inn0 [] rfl) hc)) ?_
   rintro _ w_4 ⟨rfl,hd⟩
   have hS8:=hS5.out00 hd
   refine rn ?_
   refine cw_cond rfl (fun hb2=>?_) (fun hb2=>?_)
   ·skip
    have hF6:=ct hz2 hb2
    refine cr ?_
    refine sQ 27 (yv rfl (hf1.g 1 0))<|sQ 28 (yd (aD b1) 0 0 K43 K0 rfl (hf1.g 7 2))<|sQ 29 (yz 2 K1 (hS8.c 1)) ?_
    obtain ⟨x2,hx2,hF6⟩:=bI hF6
    refine sQ 30 (yI B1 x.B K5 K0 (gi_isSome encI_len rfl (hS8.rf (i:=1) rfl) hx2) (getI_nn hx2) (getI_ltI hx2 rfl))<|sQ 31 (yz (x.B.toNat*1) K1 (hS8.rf (i:=1) rfl) rfl rfl (gi_at0 encI_len hx2 rfl))<|sQ 32 (yd (aD b1) 0 0 K43 K0 rfl (hf1.g 7 2)) ?_
    refine s0 (yS 1 1 (aD b1) 73 (vi x2) [vi x2] 2 [vi x.Kind,vi A,vi x2] hS8 K0) ?_
    rintro _ w_5 ⟨rfl,hS9⟩
    refine rn ?_
    exact ⟨x2,(sI hF6),(hf1.a 1 0 (hf1.a 5 1 (hf1.a 7 2 (hf1.a 9 3 (hf1.a 10 4 (hf1.a 11 5 fn_)))))),(hS9.sel [0,1] rfl rfl)⟩
   ·skip
    have hF7:=cf' hz2 hb2
    refine cw_skip ?_
    exact ⟨x.B,(sI hF7),(hf1.a 1 0 (hf1.a 5 1 (hf1.a 7 2 (hf1.a 9 3 (hf1.a 10 4 (hf1.a 11 5 fn_)))))),(hS8.sel [0,1] rfl rfl)⟩
  rintro f w ⟨B4,rfl,hf2,hS7⟩
  refine cr ?_
  refine sQ 33 (yv rfl (hf2.g 5 1))<|sQ 34 (yw 0 K35 K7 (hS7.c 1) rfl (hf2.g 7 2)) ?_
  refine sS 35 (yF 3 1 [vi x.Kind,vi A,vi B4] 3 hS7 K12 K7 K74 rfl (mpc rfl mpn)) ?_
  rintro _ w_6 ⟨b2,rfl,hS10⟩
  obtain ⟨hap,hF5⟩:=chk_inv hF5
  refine sS 36 (aP 3 24 0 out [(Ac.mk x.Kind A B4)] hS10 K12 K7 K66 K28 eN8 BP (hS10.c 2) hap) ?_
  rintro _ w_7 ⟨B5,c4,rfl,hS11⟩
  refine sQ 5 yu (rn (cr ?_))
  refine sQ 37 (zP rfl (hf2.g 11 5))<|sQ 11 yv (rn ?_)
  obtain rfl:=sI hF5
  exact ⟨K2,Nat.lt_succ_self _,i+1,(out++[(Ac.mk x.Kind A B4)]),B5,c4,(hf2.a 1 0 (fc rfl (hf2.a 9 3 (hf2.a 10 4 (fc (congrArg (Value.int .i64) (wr_succ hlt1 hN)) fn_))))),(hS11.sel [0] rfl rfl),(by omega),hL1⟩
 ·skip
  obtain rfl:k_=0:=by have h:=of_decide_eq_false hlt; omega
  refine cw_exit rfl ?_
  obtain rfl:=sI hL
  refine cq (cr ?_)
  refine sQ 38 (yv rfl (hf.g 5 1))<|sQ 4 yu (rn (ct_ ?_))
  obtain rfl:=sI hF1
  exact ret1 Tryz.results43 rT ⟨B3,c3,rfl,(hS2.sN [0])⟩

theorem LY (n:Int) (gates:List Ac) (B:Option Addr) (c n1:Nat) (w0:World) (hn:gates.length=n1) (hS:ST w0 [] w0 [] [⟨B,(gates.flatMap eN0)⟩]) {r_:Ad} {r_1:Bool} (hF:Ej n gates=some (r_,r_1)) :
  CV Tryz.prog 45 #[vi n,.slice B n1 c] w0 (fun v w'=>∃ (B1:Option Addr) (c1:Nat),v=.tuple #[.agg #[vi r_.Qubits,.slice B1 r_.Gates.length c1],.bool r_1]∧ST w0 [] w' [⟨B1,73,(r_.Gates.flatMap eN0),c1*3⟩] []):=by
 subst hn
 unfold Ej at hF
 refine cv_of_cw 17 Tryz.func45 rfl Tryz.ntmps45 rfl ?_
 refine cq (cr ?_)
 let V0:List Value:=[vi 0,.slice none 0 0]
 refine sS 4 (yN V0 2 hS K27) ?_
 rintro _ w_ ⟨b,rfl,hS1⟩
 refine sQ 5 yu (rn (cq (cr ?_)))
 refine sQ 7 yv ?_
 refine sS 8 (Ys_bslice0 (s:=3) (e:=73) hS1 K12 K7 rfl) ?_
 rintro _ w_1 ⟨b1,rfl,hS2⟩
 refine sQ 9 yv ?_
 obtain ⟨hap,hF⟩:=chk_inv hF
 refine sS 10 (Ys_append (s:=3) (by':=24) (i:=1) (nn:=0) (c:=0) (k:=gates.length) (len:=gates.length) (B:=aD b1) (xs:=(gates.flatMap eN0)) (cs':=(gates.flatMap eN0)) hS2 K12 K7 K66 K28 rfl (by decide) rfl rfl rfl rfl (fm_lenn (l:=[]) eN8 rfl) rfl (hS2.rf (i:=0) rfl) (fm_lenn (l:=gates) eN8 rfl) (fm_one' (enc:=eN0) BP gates) (by have:=hap; omega) (by have:=hap; simp only [maxLen]; omega) rfl (app_len0 (l:=gates) rfl)) ?_
 rintro _ w_2 ⟨B2,c2,rfl,hS3⟩
 refine sQ 11 (Y_buildS (zs:=V0) (vs:=[(0,vi n),(1,.slice B2 gates.length c2)]) (cs:=[vi n,.slice B2 gates.length c2]) K81 K27 rfl (mpc rfl (mpc rfl mpn)) rfl) ?_
 refine sS 6 (yN V0 2 hS3 K27) ?_
 rintro _ w_3 ⟨b2,rfl,hS4⟩
 refine s0 (yK 2 2 0 hS4 K3) ?_
 rintro _ w_4 ⟨rfl,hS5⟩
 refine rn (cq (cq (cr ?_)))
 refine sQ 12 (yw 0 K10 K3 (hS5.c 2)) ?_
 obtain ⟨r_2,hc,hF⟩:=bI hF
 refine sc 13 rfl rfl (yc K93 (Dv (Ad.mk n gates) B2 c2 gates.length _ rfl (hS5.inn0 [(false,1)] rfl) hc)) ?_
 rintro _ w_5 ⟨rfl,hd⟩
 have hS6:=hS5.out00 hd
 refine sQ 14 yn (rn ?_)
 refine cw_cond rfl (fun hb=>?_) (fun hb=>?_)
 ·skip
  have hF1:=ct hF hb
  refine cq (cr ?_)
  refine sQ 15 (Y_buildS (zs:=V0) (vs:=[]) (cs:=V0) K81 K27 rfl mpn rfl) ?_
  refine s0 (yK 0 2 0 hS6 K3) ?_
  rintro _ w_6 ⟨rfl,hS7⟩
  refine sQ 5 yu (rn (ct_ ?_))
  have hS8:=hS7.addNil 73
  obtain ⟨rfl,rfl⟩:=pr2 (sI hF1)
  exact ret2 Tryz.results45 (rX K10 K3 (hS8.c 0)) rT ⟨none,0,rfl,(hS8.sN [3])⟩
 ·skip
  have hF2:=cf' hF hb
  refine cw_skip (cq (cr ?_))
  refine sQ 16 (yw 0 K10 K3 (hS6.c 2)) ?_
  refine s0 (yK 0 2 0 hS6 K3) ?_
  rintro _ w_7 ⟨rfl,hS9⟩
  refine sQ 5 yu (rn (ct_ ?_))
  obtain ⟨rfl,rfl⟩:=pr2 (sI hF2)
  exact ret2 Tryz.results45 (rX K10 K3 (hS9.c 0)) rT ⟨B2,c2,rfl,(hS9.sN [1])⟩

theorem UR (g:Ae) (c1:Ad) (r_:Am) (B:Option Addr) (c n:Nat) (B1:Option Addr) (c2 n1:Nat) (B2:Option Addr) (c3 n2:Nat) (B3:Option Addr) (c4 n3:Nat) (w0:World) (hn:g.Edges.length=n) (hq:n≤c) (hn1:c1.Gates.length=n1) (hq1:n1≤c2) (hn2:r_.Start.length=n2) (hq2:n2≤c3) (hn3:r_.Steps.length=n3) (hS:ST w0 [] w0 [] [⟨B,(g.Edges.flatMap eN1)⟩,⟨B1,(c1.Gates.flatMap eN0)⟩,⟨B2,(r_.Start.flatMap encI)⟩,⟨B3,(r_.Steps.flatMap eN2)⟩]) {r_1:Ad} {r_2:Bool} (hF:E8 g c1 r_=some (r_1,r_2)) :
  CV Tryz.prog 16 #[.agg #[vi g.Nodes,.slice B n c],.agg #[vi c1.Qubits,.slice B1 n1 c2],.agg #[.slice B2 n2 c3,.slice B3 n3 c4]] w0 (fun v w'=>∃ (B4:Option Addr) (c5:Nat),v=.tuple #[.agg #[vi r_1.Qubits,.slice B4 r_1.Gates.length c5],.bool r_2]∧ST w0 [] w' [⟨B4,73,(r_1.Gates.flatMap eN0),c5*3⟩] []):=by
 subst hn
 subst hn1
 subst hn2
 subst hn3
 unfold E8 at hF
 refine cv_of_cw 82 Tryz.func16 rfl Tryz.ntmps16 rfl ?_
 refine cq (cr ?_)
 refine sS 3 (yV [vi g.Nodes,.slice B g.Edges.length c] 2 hS) ?_
 rintro _ w_ ⟨b,rfl,hS1⟩
 refine sS 4 (yV [vi c1.Qubits,.slice B1 c1.Gates.length c2] 2 hS1) ?_
 rintro _ w_1 ⟨b1,rfl,hS2⟩
 refine sS 5 (yV [.slice B2 r_.Start.length c3,.slice B3 r_.Steps.length c4] 2 hS2) ?_
 rintro _ w_2 ⟨b2,rfl,hS3⟩
 refine sS 6 (yN [vi 0,.slice none 0 0] 2 hS3 K27) ?_
 rintro _ w_3 ⟨b3,rfl,hS4⟩
 refine sQ 7 yu (rn (cq (cq (cr ?_))))
 refine sQ 16 (yw 0 K13 K8 (hS4.c 0))<|sQ 17 (yw 0 K10 K3 (hS4.c 1))<|sQ 18 (yw 0 K46 K25 (hS4.c 2)) ?_
 obtain ⟨⟨r_3,r_4,r_5⟩,hc,hF⟩:=bI hF
 refine sc 19 rfl rfl (yc SC (Wq g c1 r_ B c g.Edges.length B1 c2 c1.Gates.length B2 c3 r_.Start.length B3 c4 r_.Steps.length _ rfl hq rfl hq1 rfl hq2 rfl (hS4.inn0 [(true,0),(true,1),(true,2),(true,3)] rfl) hc)) ?_
 rintro _ w_4 ⟨rfl,hd⟩
 have hS5:=hS4.out00 hd
 refine sQ 15 yv<|sQ 20 (ye (vi r_3))<|sQ 21 (ye (vi r_4))<|sQ 22 (ye (.bool r_5))<|sQ 8 yu<|sQ 9 yu ?_
 refine sQ 10 yu (rn (cq (cr ?_)))
 refine sQ 23 yv<|sQ 24 yn<|sQ 25 yv ?_
 refine sgq 26 rfl rfl (uF_ 25) (fun hg=>yv) ?_
 refine sgq 27 rfl rfl (uF_ 25) (fun hg1=>(Y_ne rfl (gv_of hg1) rfl)) ?_
 refine sQ 28 yO<|sQ 29 yv ?_
 refine sgq 30 rfl rfl (uF_ 29) (fun hg2=>(yd (aD b) 0 0 K45 K0)) ?_
 refine sgq 31 rfl rfl (uF_ 29) (fun hg3=>(yz 0 K1 (hS5.c 0) rfl (gv_of hg3))) ?_
 refine sgq 32 rfl rfl (uF_ 29) (fun hg4=>(Y_gt rfl (gv_of hg4) rfl)) ?_
 refine sQ 33 yO (rn ?_)
 refine cw_cond rfl (fun hb=>?_) (fun hb=>?_)
 ·skip
  have hF1:=ct hF hb
  refine cq (cr ?_)
  refine sQ 34 (Y_buildS (zs:=[vi 0,.slice none 0 0]) (vs:=[]) (cs:=[vi 0,.slice none 0 0]) K81 K27 rfl mpn rfl) ?_
  refine s0 (yK 3 2 0 hS5 K3) ?_
  rintro _ w_5 ⟨rfl,hS6⟩
  refine sQ 7 yu (rn (ct_ ?_))
  have hS7:=hS6.addNil 73
  obtain ⟨rfl,rfl⟩:=pr2 (sI hF1)
  exact ret2 Tryz.results16 (rX K10 K3 (hS7.c 3)) rT ⟨none,0,rfl,(hS7.sN [4])⟩
 ·skip
  have hF2:=cf' hF hb
  refine cw_skip (cq (cr ?_))
  refine sQ 35 (yw 0 K13 K8 (hS5.c 0))<|sQ 36 (yw 0 K10 K3 (hS5.c 1))<|sQ 37 (yd (aD b2) 0 0 K90 K16)<|sQ 38 (yz 0 K23 (hS5.c 2)) ?_
  obtain ⟨r_6,hc1,hF2⟩:=bI hF2
  refine sc 39 rfl rfl (yc Kf (Ki g c1 r_.Start B c g.Edges.length B1 c2 c1.Gates.length B2 c3 r_.Start.length _ rfl hq rfl hq1 rfl (hS5.inn0 [(true,0),(true,1),(true,2)] rfl) hc1)) ?_
  rintro _ w_6 ⟨B5,c6,B6,c7,B7,c8,B8,c9,rfl,hq3,hq4,ho,hd1⟩
  have hS8:=ST.outR0 hS5 hd1 ho (sk 0 (sk 1 (sk 2 (fun _ h=>by cases h))))
  let R7:Ro:=⟨B2,(r_.Start.flatMap encI)⟩
  let R8:Ro:=⟨B1,(c1.Gates.flatMap eN0)⟩
  let R9:Ro:=⟨B3,(r_.Steps.flatMap eN2)⟩
  let R10:Ro:=⟨B,(g.Edges.flatMap eN1)⟩
  let R11:Ro:=⟨B5,(r_6.g.Edges.flatMap eN1)⟩
  let R12:Ro:=⟨B6,(r_6.c.Gates.flatMap eN0)⟩
  have ho1:Org w0 [] [R10,R8,R7,R9] [R11,R12]:=org_trans0 hS5 ho (org_cons (org_mem (i:=0) rfl) (org_cons (org_mem (i:=1) rfl) (org_cons (org_mem (i:=2) rfl) org_nil)))
  let O1:Ob:=⟨aD b1,28,[vi c1.Qubits,.slice B1 c1.Gates.length c2],2⟩
  let O2:Ob:=⟨aD b,25,[vi g.Nodes,.slice B g.Edges.length c],2⟩
  let O3:Ob:=⟨aD b3,28,[vi 0,.slice none 0 0],2⟩
  have hS9:ST w0 [] _ [O2,O1,⟨aD b2,34,[.slice B2 r_.Start.length c3,.slice B3 r_.Steps.length c4],2⟩,O3,⟨B7,3,(r_6.place.flatMap encI),c8*1⟩,⟨B8,4,(r_6.done.flatMap encB),c9*1⟩] [R11,R12,R10,R8,R7,R9]:=hS8
  refine sS 40 (Ys_bslice0 (s:=3) (e:=73) hS9 K12 K7 rfl) ?_
  rintro _ w_7 ⟨b4,rfl,hS10⟩
  refine sS 11 (yN [vi 0,.slice none 0 0,vi 0,.slice none 0 0,.slice none 0 0,.slice none 0 0] 6 hS10 K86) ?_
  rintro _ w_8 ⟨b5,rfl,hS11⟩
  refine s0 (yK 7 6 0 hS11 K24) ?_
  rintro _ w_9 ⟨rfl,hS12⟩
  refine sQ 12 yu (rn (cq (cq (cr ?_))))
  refine sQ 41 (yd (aD b2) 0 0 K71 K36)<|sQ 42 (yz 1 K55 (hS12.c 2))<|sQ 43 (Y_len K31 rfl rfl)<|sQ 44 yv (rn ?_)
  obtain ⟨hN,hF2⟩:=chk_inv hF2
  obtain ⟨z,hz,hF3⟩:=bI hF2
  refine cw_block ?_
  let O0:Ob:=⟨aD b5,82,[vi r_6.g.Nodes,.slice B5 r_6.g.Edges.length c6,vi r_6.c.Qubits,.slice B6 r_6.c.Gates.length c7,.slice B7 r_6.place.length c8,.slice B8 r_6.done.length c9],6⟩
  refine cw_loop (fun k f w=>∃ (i:Nat) (place:List Int) (done:List Bool) (out:List Ac) (B9:Option Addr) (c10:Nat),FF f [(3,pt (aD b) 0),(4,pt (aD b1) 0),(6,pt (aD b3) 0),(11,pt (aD b5) 0),(12,.slice B9 out.length c10),(42,.slice B3 r_.Steps.length c4),(43,vi (r_.Steps.length:Int)),(44,vi (i:Int))]∧place.length=r_6.place.length∧done.length=r_6.done.length∧ST w0 [] w [O2,O1,O3,O0,⟨B7,3,(place.flatMap encI),c8*1⟩,⟨B8,4,(done.flatMap encB),c9*1⟩,⟨B9,73,(out.flatMap eN0),c10*3⟩] [R11,R12,R10,R8,R7,R9]∧i+k=r_.Steps.length∧forN (E2 r_ c1 r_6) k i (place,done,out)=some z) r_.Steps.length ⟨0,r_6.place,r_6.done,[],aD b4,0,(fc rfl (fc rfl (fc rfl (fc rfl (fc rfl (fc rfl (fc rfl (fc rfl fn_)))))))),rfl,rfl,(hS12.sel [0,1,3,7,4,5,6] rfl rfl),Nat.zero_add _,hz⟩ ?_
  rintro k_ f w ⟨i,place,done,out,B9,c10,hf,hl,hl1,hS13,hik,hL⟩
  refine cq (cr ?_)
  refine sQ 45 (zL rfl (hf.g 44 7) (hf.g 43 6)) (rn (cq ?_))
  refine cw_cond rfl (fun hlt=>?_) (fun hlt=>?_)
  ·skip
   have hlt1:i<r_.Steps.length:=by have h:=of_decide_eq_true hlt; omega
   obtain ⟨K2,rfl⟩:∃ k2,k_=k2+1:=⟨k_-1,by omega⟩
   obtain ⟨y,hb1,hL1⟩:=forN_go hL
   unfold E2 at hb1
   refine cw_skip (cq (cw_block (cq (cr ?_))))
   obtain ⟨x,hx,hb1⟩:=bI hb1
   refine sQ 46 (yI B3 (i:Int) K31 K26 (gi_isSome A5 rfl (hS13.rf (i:=5) rfl) hx) (getI_nn hx) (getI_ltI hx rfl) rfl (hf.g 42 5) (hf.g 44 7))<|sQ 47 (ya B3 ((i:Int).toNat*3) (r_.Steps.flatMap eN2) [vi x.Gate,vi x.A,vi x.B] K96 K26 (hS13.rf (i:=5) rfl) rfl rfl (A5 x) (gi_seg A5 hx)) ?_
   refine sS 14 (yN [vi 0,vi 0,vi 0] 3 hS13 K56) ?_
   rintro _ w_10 ⟨b6,rfl,hS14⟩
   refine s0 (yK 7 3 0 hS14 K26) ?_
   rintro _ w_11 ⟨rfl,hS15⟩
   refine rn (cq ?_)
   obtain ⟨z1,hz1,hF4⟩:=bI hb1
   let O4:Ob:=⟨B7,3,(place.flatMap encI),c8*1⟩
   let O5:Ob:=⟨B8,4,(done.flatMap encB),c9*1⟩
   let O6:Ob:=⟨aD b6,39,[vi x.Gate,vi x.A,vi x.B],3⟩
   refine cw_mid (fun f w=>∃ (out1:List Ac) (B10:Option Addr) (c11:Nat),out1=z1∧FF f [(3,pt (aD b) 0),(4,pt (aD b1) 0),(6,pt (aD b3) 0),(11,pt (aD b5) 0),(12,.slice B10 out1.length c11),(14,pt (aD b6) 0),(42,.slice B3 r_.Steps.length c4),(43,vi (r_.Steps.length:Int)),(44,vi (i:Int))]∧ST w0 [] w [O2,O1,O3,O0,O4,O5,⟨B10,73,(out1.flatMap eN0),c11*3⟩,O6] [R11,R12,R10,R8,R7,R9]) ?_ ?_
   ·skip
    refine cq (cr ?_)
    refine sQ 48 (yd (aD b6) 0 0 K89 K0)<|sQ 49 (yz 0 K1 (hS15.c 7))<|sQ 50 zE (rn ?_)
    refine cw_cond rfl (fun hb2=>?_) (fun hb2=>?_)
    ·skip
     have hF5:=ct hz1 hb2
     refine cr ?_
     refine sQ 51 (yv rfl (hf.g 12 4))<|sQ 52 (yd (aD b6) 0 0 Ix K0)<|sQ 53 (yz 1 K1 (hS15.c 7))<|sQ 54 (yd (aD b6) 0 0 HV K0)<|sQ 55 (yz 2 K1 (hS15.c 7))<|sQ 56 (Y_buildS (zs:=[vi 0,vi 0,vi 0]) (vs:=[(0,vi 11),(1,vi x.A),(2,vi x.B)]) (cs:=[vi 11,vi x.A,vi x.B]) K80 K28 rfl (mpc rfl (mpc rfl (mpc rfl mpn))) rfl) ?_
     refine sS 57 (yF 3 1 [vi 11,vi x.A,vi x.B] 3 hS15 K12 K7 K74 rfl (mpc rfl mpn)) ?_
     rintro _ w_12 ⟨b7,rfl,hS17⟩
     obtain ⟨hap,hF5⟩:=chk_inv hF5
     refine sS 58 (aP 3 24 6 out [(Ac.mk 11 x.A x.B)] hS17 K12 K7 K66 K28 eN8 BP (hS17.c 8) hap) ?_
     rintro _ w_13 ⟨B11,c12,rfl,hS18⟩
     refine sQ 12 yu (rn ?_)
     exact ⟨(out++[(Ac.mk 11 x.A x.B)]),B11,c12,(sI hF5),(hf.a 3 0 (hf.a 4 1 (hf.a 6 2 (hf.a 11 3 (fc rfl (fc rfl (hf.a 42 5 (hf.a 43 6 (hf.a 44 7 fn_))))))))),(hS18.sel [0,1,2,3,4,5,6,7] rfl rfl)⟩
    ·skip
     have hF6:=cf' hz1 hb2
     obtain ⟨hsl,hF6⟩:=chk_inv hF6
     obtain ⟨r_7,hc2,hF6⟩:=bI hF6
     obtain ⟨hap1,hF6⟩:=chk_inv hF6
     have hcap:c1.Gates.length≤c2:=hq1
     have hv:(List.drop x.Gate.toNat (List.take ((i64.wrap (x.Gate+1)).toNat) c1.Gates)).length=((i64.wrap (x.Gate+1)).toNat-x.Gate.toNat):=(view_len rfl (by omega))
     have hq5:((i64.wrap (x.Gate+1)).toNat-x.Gate.toNat)≤(c2-x.Gate.toNat):=by omega
     have ho2:Org w0 [] [R10,R8,R7,R9] [⟨(sv B1 x.Gate.toNat c2 3),((List.drop x.Gate.toNat (List.take ((i64.wrap (x.Gate+1)).toNat) c1.Gates)).flatMap eN0)⟩]:=org_view eN8 (q:=c2) (org_mem (i:=1) rfl) rfl rfl
     have hS21:ST w0 [] _ [O2,O1,O3,O0,O4,O5,⟨B9,73,(out.flatMap eN0),c10*3⟩,O6] [⟨(sv B1 x.Gate.toNat c2 3),((List.drop x.Gate.toNat (List.take ((i64.wrap (x.Gate+1)).toNat) c1.Gates)).flatMap eN0)⟩,R11,R12,R10,R8,R7,R9]:=ST.view eN8 hS15 (i:=3) rfl (lo:=x.Gate.toNat) (h:=(i64.wrap (x.Gate+1)).toNat) (q:=c2) (by omega) (by omega) rfl rfl
     refine ra_start (hS21.se [0,1,2,3,4,5,7]).fn (by kernel_rfl) ?_
     have hS22:=hS21.drew
     have hQ0:=hS22.se [0,1,2,3,4,5,7]
     refine rq 0 59 rfl hQ0 (fun _ q=>(yv rfl (hf.g 12 4)))<|rq 1 60 rfl hQ0 (fun _ q=>(yd (aD b1) 0 0 K19 K15 rfl (hf.g 4 1)))<|rq 2 61 rfl hQ0 (fun _ q=>(yz 1 K21 (ST.c q 1)))<|rq 3 62 rfl hQ0 (fun _ q=>(yd (aD b6) 0 0 K89 K0))<|rq 4 63 rfl hQ0 (fun _ q=>(yz 0 K1 (ST.c q 6))) ?_
     refine rq 5 64 rfl hQ0 (fun _ q=>(yd (aD b6) 0 0 K89 K0))<|rq 6 65 rfl hQ0 (fun _ q=>(yz 0 K1 (ST.c q 6)))<|rq 7 66 rfl hQ0 (fun _ q=>zP)<|rq 8 67 rfl hQ0 (fun _ q=>(Y_slice1 (B:=B1) (m:=c1.Gates.length) (c:=c2) (l:=x.Gate.toNat) (h:=(i64.wrap (x.Gate+1)).toNat) (s:=3) K12 K7 rfl rfl (bnd_some rfl (nn_toNat (by omega))) (bnd_some rfl (nn_toNat (by omega))) (by omega) (by omega)))<|rq 9 68 rfl hQ0 (fun _ q=>(yd (aD b5) 0 0 K73 K16 rfl (hf.g 11 3))) ?_
     refine rq 10 69 rfl hQ0 (fun _ q=>(yz 4 K23 (ST.c q 3))) ?_
     refine rA [11] ?_
     refine rC 70 11 rfl (yc MI (MX (List.drop x.Gate.toNat (List.take ((i64.wrap (x.Gate+1)).toNat) c1.Gates)) place (sv B1 x.Gate.toNat c2 3) (c2-x.Gate.toNat) ((i64.wrap (x.Gate+1)).toNat-x.Gate.toNat) B7 c8 r_6.place.length _ hv hl (hS22.inn0 [(true,0),(false,4)] rfl) hc2)) ?_ aN
     rintro _ w_14 ⟨B12,c13,rfl,hd2⟩
     have hS23:=hS22.out0 hd2
     refine ⟨(hS23.se [0,1,2,3,4,5,7]),?_⟩
     refine rA [12] ?_
     refine rS 71 12 rfl (aP 3 24 6 out r_7 hS23 K12 K7 K66 K28 eN8 BP (hS23.c 8) hap1) ?_ aN
     rintro _ w_15 ⟨B13,c14,rfl,hS24⟩
     refine ⟨(hS24.se [0,1,2,3,4,5,7]),?_⟩
     refine rq 13 12 rfl (hS24.se [0,1,2,3,4,5,7]) (fun _ q=>yu) ?_
     refine ra_done (by kernel_rfl) ?_
     have hS25:ST w0 [] _ [O2,O1,O3,O0,O4,O5,⟨B13,73,((out++r_7).flatMap eN0),c14*3⟩,O6,⟨B12,73,(r_7.flatMap eN0),c13*3⟩] [R11,R12,R10,R8,R7,R9]:=hS24.sT [1,2,3,4,5,6]
     exact ⟨(out++r_7),B13,c14,(sI hF6),(hf.a 3 0 (hf.a 4 1 (hf.a 6 2 (hf.a 11 3 (fc rfl (fc rfl (hf.a 42 5 (hf.a 43 6 (hf.a 44 7 fn_))))))))),(hS25.sel [0,1,2,3,4,5,6,7] rfl rfl)⟩
   rintro f w ⟨out1,B10,c11,rfl,hf1,hS16⟩
   refine cr ?_
   refine sQ 72 (yw 0 K54 K24 (hS16.c 3) rfl (hf1.g 11 3))<|sQ 73 (yw 0 K96 K26 (hS16.c 7) rfl (hf1.g 14 5)) ?_
   obtain ⟨⟨r_8,m,m1⟩,hc3,hF4⟩:=bI hF4
   refine sc 74 rfl rfl (yc N8 (LH (Ap.mk r_6.g r_6.c place done) x B5 c6 r_6.g.Edges.length B6 c7 r_6.c.Gates.length B7 c8 r_6.place.length B8 c9 r_6.done.length _ rfl rfl hq4 hl hl1 (hS16.inn [false,false,false,false,true,true,false,false] rfl [(true,0),(true,1)] rfl) hc3)) ?_
   rintro _ w_16 ⟨rfl,hl2,hl3,hd3⟩
   have hS26:=hS16.out [false,false,false,false,true,true,false,false] rfl hd3
   refine rn (cr ?_)
   refine sQ 75 (zP rfl (hf1.g 44 8))<|sQ 44 yv (rn ?_)
   obtain rfl:=sI hF4
   exact ⟨K2,Nat.lt_succ_self _,i+1,m,m1,out1,B10,c11,(hf1.a 3 0 (hf1.a 4 1 (hf1.a 6 2 (hf1.a 11 3 (hf1.a 12 4 (hf1.a 42 6 (hf1.a 43 7 (fc (congrArg (Value.int .i64) (wr_succ hlt1 hN)) fn_)))))))),hl2,hl3,(hS26.sel [0,1,2,3,6,7,4] rfl rfl),(by omega),hL1⟩
  ·skip
   obtain rfl:k_=0:=by have h:=of_decide_eq_false hlt; omega
   refine cw_exit rfl ?_
   obtain rfl:=sI hL
   refine cq (cr ?_)
   refine sQ 76 (yd (aD b) 0 0 K45 K0 rfl (hf.g 3 0))<|sQ 77 (yz 0 K1 (hS13.c 0))<|sQ 78 (yv rfl (hf.g 12 4)) ?_
   obtain ⟨⟨r_9,r_10⟩,hc4,hF3⟩:=bI hF3
   refine sc 79 rfl rfl (yc OE (LY g.Nodes out B9 c10 out.length _ rfl (hS13.inn0 [(false,6)] rfl) hc4)) ?_
   rintro _ w_17 ⟨B14,c15,rfl,hd4⟩
   have hS27:=hS13.out0 hd4
   refine sQ 80 (ye (.agg #[vi r_9.Qubits,.slice B14 r_9.Gates.length c15]))<|sQ 81 (ye (.bool r_10)) ?_
   refine s0 (yK 2 2 0 hS27 K3 rfl (hf.g 6 2)) ?_
   rintro _ w_18 ⟨rfl,hS28⟩
   refine sQ 7 yu (rn (ct_ ?_))
   obtain ⟨rfl,rfl⟩:=pr2 (sI hF3)
   exact ret2 Tryz.results16 (rX K10 K3 (hS28.c 2) (hf.g 6 2)) rT ⟨B14,c15,rfl,(hS28.sN [7])⟩

theorem Qu (g:Ae) (c1:Ad) (r_:Am) (B:Option Addr) (c n:Nat) (B1:Option Addr) (c2 n1:Nat) (B2:Option Addr) (c3 n2:Nat) (B3:Option Addr) (c4 n3:Nat) (w0:World) (hn:g.Edges.length=n) (hq:n≤c) (hn1:c1.Gates.length=n1) (hq1:n1≤c2) (hn2:r_.Start.length=n2) (hq2:n2≤c3) (hn3:r_.Steps.length=n3) (hS:ST w0 [] w0 [] [⟨B,(g.Edges.flatMap eN1)⟩,⟨B1,(c1.Gates.flatMap eN0)⟩,⟨B2,(r_.Start.flatMap encI)⟩,⟨B3,(r_.Steps.flatMap eN2)⟩]) {r_1:List Int} {r_2:Bool} (hF:Eb g c1 r_=some (r_1,r_2)) :
  CV Tryz.prog 17 #[.agg #[vi g.Nodes,.slice B n c],.agg #[vi c1.Qubits,.slice B1 n1 c2],.agg #[.slice B2 n2 c3,.slice B3 n3 c4]] w0 (fun v w'=>∃ (B4:Option Addr) (c5:Nat),v=.tuple #[.slice B4 r_1.length c5,.bool r_2]∧ST w0 [] w' [⟨B4,3,(r_1.flatMap encI),c5*1⟩] []):=by
 subst hn
 subst hn1
 subst hn2
 subst hn3
 unfold Eb at hF
 refine cv_of_cw 27 Tryz.func17 rfl Tryz.ntmps17 rfl ?_
 refine cq (cr ?_)
 refine sS 3 (yV [vi g.Nodes,.slice B g.Edges.length c] 2 hS) ?_
 rintro _ w_ ⟨b,rfl,hS1⟩
 refine sS 4 (yV [vi c1.Qubits,.slice B1 c1.Gates.length c2] 2 hS1) ?_
 rintro _ w_1 ⟨b1,rfl,hS2⟩
 refine sS 5 (yV [.slice B2 r_.Start.length c3,.slice B3 r_.Steps.length c4] 2 hS2) ?_
 rintro _ w_2 ⟨b2,rfl,hS3⟩
 refine sQ 6 yu<|sQ 7 yu (rn (cq (cq (cr ?_))))
 refine sQ 11 (yw 0 K13 K8 (hS3.c 0))<|sQ 12 (yw 0 K10 K3 (hS3.c 1)) ?_
 obtain ⟨r_3,hc,hF⟩:=bI hF
 refine sc 13 rfl rfl (yc JD (JT g c1 B c g.Edges.length B1 c2 c1.Gates.length _ rfl rfl (hS3.inn0 [(true,0),(true,1)] rfl) hc)) ?_
 rintro _ w_3 ⟨rfl,hd⟩
 have hS4:=hS3.out00 hd
 refine sQ 14 yn (rn ?_)
 refine cw_cond rfl (fun hb=>?_) (fun hb=>?_)
 ·skip
  have hF1:=ct hF hb
  refine cq (cr ?_)
  refine sQ 6 yu<|sQ 7 yu (rn (ct_ ?_))
  have hS5:=hS4.addNil 3
  obtain ⟨rfl,rfl⟩:=pr2 (sI hF1)
  exact ret2 Tryz.results17 rT rT ⟨none,0,rfl,(hS5.sN [3])⟩
 ·skip
  have hF2:=cf' hF hb
  refine cw_skip (cq (cr ?_))
  refine sQ 16 (yw 0 K13 K8 (hS4.c 0))<|sQ 17 (yw 0 K10 K3 (hS4.c 1))<|sQ 18 (yw 0 K46 K25 (hS4.c 2)) ?_
  obtain ⟨⟨r_4,r_5,r_6⟩,hc1,hF2⟩:=bI hF2
  refine sc 19 rfl rfl (yc My (OH g c1 r_ B c g.Edges.length B1 c2 c1.Gates.length B2 c3 r_.Start.length B3 c4 r_.Steps.length _ rfl hq rfl hq1 rfl hq2 rfl (hS4.inn0 [(true,0),(true,1),(true,2),(true,3)] rfl) hc1)) ?_
  rintro _ w_4 ⟨B5,c6,B6,c7,B7,c8,B8,c9,rfl,hq3,hq4,ho,hd1⟩
  have hS6:=ST.outR0 hS4 hd1 ho (sk 0 (sk 1 (sk 2 (sk 3 (fun _ h=>by cases h)))))
  have ho1:Org w0 [] [⟨B,(g.Edges.flatMap eN1)⟩,⟨B1,(c1.Gates.flatMap eN0)⟩,⟨B2,(r_.Start.flatMap encI)⟩,⟨B3,(r_.Steps.flatMap eN2)⟩] [⟨B5,(r_6.g.Edges.flatMap eN1)⟩,⟨B6,(r_6.c.Gates.flatMap eN0)⟩]:=org_trans0 hS4 ho (org_cons (org_mem (i:=0) rfl) (org_cons (org_mem (i:=1) rfl) (org_cons (org_mem (i:=2) rfl) (org_cons (org_mem (i:=3) rfl) org_nil))))
  have hS7:ST w0 [] _ [⟨aD b,25,[vi g.Nodes,.slice B g.Edges.length c],2⟩,⟨aD b1,28,[vi c1.Qubits,.slice B1 c1.Gates.length c2],2⟩,⟨aD b2,34,[.slice B2 r_.Start.length c3,.slice B3 r_.Steps.length c4],2⟩,⟨B7,3,(r_6.place.flatMap encI),c8*1⟩,⟨B8,4,(r_6.done.flatMap encB),c9*1⟩] [⟨B5,(r_6.g.Edges.flatMap eN1)⟩,⟨B6,(r_6.c.Gates.flatMap eN0)⟩,⟨B,(g.Edges.flatMap eN1)⟩,⟨B1,(c1.Gates.flatMap eN0)⟩,⟨B2,(r_.Start.flatMap encI)⟩,⟨B3,(r_.Steps.flatMap eN2)⟩]:=hS6
  refine sQ 15 yv<|sQ 20 (ye (vi r_4))<|sQ 21 (ye (vi r_5))<|sQ 22 (ye (.agg #[vi r_6.g.Nodes,.slice B5 r_6.g.Edges.length c6,vi r_6.c.Qubits,.slice B6 r_6.c.Gates.length c7,.slice B7 r_6.place.length c8,.slice B8 r_6.done.length c9])) ?_
  refine sS 10 (yN [vi 0,.slice none 0 0,vi 0,.slice none 0 0,.slice none 0 0,.slice none 0 0] 6 hS7 K86) ?_
  rintro _ w_5 ⟨b3,rfl,hS8⟩
  refine sQ 8 yu<|sQ 9 yu ?_
  refine s0 (yK 5 6 0 hS8 K24) ?_
  rintro _ w_6 ⟨rfl,hS9⟩
  refine rn (cq (cq (cr ?_)))
  refine sQ 23 yv<|sQ 24 (Y_ne rfl rfl rfl) (rn ?_)
  refine cw_cond rfl (fun hb1=>?_) (fun hb1=>?_)
  ·skip
   have hF3:=ct hF2 hb1
   refine cq (cr ?_)
   refine sQ 6 yu<|sQ 7 yu (rn (ct_ ?_))
   have hS10:=hS9.addNil 3
   obtain ⟨rfl,rfl⟩:=pr2 (sI hF3)
   exact ret2 Tryz.results17 rT rT ⟨none,0,rfl,(hS10.sN [6])⟩
  ·skip
   have hF4:=cf' hF2 hb1
   refine cw_skip (cq (cr ?_))
   refine sQ 25 (yd (aD b3) 0 0 K73 K16)<|sQ 26 (yz 4 K23 (hS9.c 5))<|sQ 6 yu<|sQ 7 yu (rn (ct_ ?_))
   obtain ⟨rfl,rfl⟩:=pr2 (sI hF4)
   exact ret2 Tryz.results17 rT rT ⟨B7,c8,rfl,(hS9.sN [3])⟩

theorem Sy (slices:List (List Ac)) (B:Option Addr) (c n:Nat) (D:List (Hd×(List Ac))) (w0:World) (hn:slices.length=n) (hD:D.map Prod.snd=slices) (hS:ST w0 [] w0 [] (⟨B,(D.flatMap Ek)⟩::((D.flatMap AW)++[]))) {r_:List Ac} (hF:F3 slices=some r_) :
  CV Tryz.prog 49 #[.slice B n c] w0 (fun v w'=>∃ (B1:Option Addr) (c1:Nat),v=.slice B1 r_.length c1∧ST w0 [] w' [⟨B1,73,(r_.flatMap eN0),c1*3⟩] []):=by
 subst hn
 unfold F3 at hF
 refine cv_of_cw 36 Tryz.func49 rfl Tryz.ntmps49 rfl ?_
 refine cq (cr ?_)
 refine sQ 2 yu (rn (cq (cr ?_)))
 refine sQ 3 yu (rn (cq (cq (cr ?_))))
 refine sQ 9 yv<|sQ 10 (Y_len H2 rfl rfl)<|sQ 11 yv (rn ?_)
 obtain ⟨hN,hF⟩:=chk_inv hF
 obtain ⟨z,hz,hF1⟩:=bI hF
 refine cw_block ?_
 let R0:Ro:=⟨B,(D.flatMap Ek)⟩
 refine cw_loop (fun k f w=>∃ (i:Nat) (size:Int),FF f [(0,.slice B slices.length c),(3,vi size),(9,.slice B slices.length c),(10,vi (slices.length:Int)),(11,vi (i:Int))]∧ST w0 [] w [] (R0::((D.flatMap AW)++[]))∧i+k=slices.length∧forN (Ds slices) k i size=some z) slices.length ⟨0,0,(fc rfl (fc rfl (fc rfl (fc rfl (fc rfl fn_))))),(hS.sel [] rfl rfl),Nat.zero_add _,hz⟩ ?_
 rintro k_ f w ⟨i,size,hf,hS1,hik,hL⟩
 refine cq (cr ?_)
 refine sQ 12 (zL rfl (hf.g 11 4) (hf.g 10 3)) (rn (cq ?_))
 refine cw_cond rfl (fun hlt=>?_) (fun hlt=>?_)
 ·skip
  have hlt1:i<slices.length:=by have h:=of_decide_eq_true hlt; omega
  obtain ⟨K2,rfl⟩:∃ k2,k_=k2+1:=⟨k_-1,by omega⟩
  obtain ⟨y,hb,hL1⟩:=forN_go hL
  unfold Ds at hb
  refine cw_skip (cq (cw_block (cq (cr ?_))))
  obtain ⟨x,hx,hb⟩:=bI hb
  obtain ⟨⟨B2,c2⟩,hp⟩:=getI_snd hD hx
  refine sQ 13 (yI B (i:Int) H2 K15 (gi_isSome Iq rfl (hS1.rf (i:=0) rfl) hp) (getI_nn hp) (getI_ltI hp (dl_len hD)) rfl (hf.g 9 2) (hf.g 11 4)) ?_
  have hm:(⟨B2,(x.flatMap eN0)⟩:Ro)∈((⟨B,(D.flatMap Ek)⟩::((D.flatMap AW)++[])):List Ro):=app_mem (fun r_ (h:r_∈((D.flatMap AW):List Ro))=>mOd (i:=1) (show r_∈((((D.flatMap AW)++[])):List Ro) from mAl _ h)) (row_mem (rw_:=AW) hp _ (mt 0))
  have hS2:ST w0 [] _ [] (⟨B2,(x.flatMap eN0)⟩::R0::((D.flatMap AW)++[])):=ST.subR hS1 (subc hm (fun _ h=>h))
  refine sQ 14 (yz ((i:Int).toNat*1) K21 (hS2.rf (i:=1) rfl) rfl rfl (gi_at0 Iq hp rfl))<|sQ 5 yu (rn (cq (cr ?_)))
  refine sQ 15 (yv rfl (hf.g 3 1))<|sQ 16 yv<|sQ 17 (Y_len K12 rfl rfl)<|sQ 18 zP<|sQ 3 yu (rn (cq (cr ?_)))
  refine sQ 19 yv<|sQ 20 zL (rn ?_)
  refine cw_cond rfl (fun hb1=>?_) (fun hb1=>?_)
  ·skip
   have hF2:=ct hb hb1
   cases hF2
  ·skip
   have hF3:=cf' hb hb1
   refine cw_skip (cr ?_)
   refine sQ 22 (zP rfl (hf.g 11 4))<|sQ 11 yv (rn ?_)
   obtain rfl:=sI hF3
   have hS3:ST w0 [] _ [] (R0::((D.flatMap AW)++[])):=hS2.sR 2 [1]
   exact ⟨K2,Nat.lt_succ_self _,i+1,(i64.wrap (size+(x.length:Int))),(hf.a 0 0 (fc rfl (hf.a 9 2 (hf.a 10 3 (fc (congrArg (Value.int .i64) (wr_succ hlt1 hN)) fn_))))),(hS3.sel [] rfl rfl),(by omega),hL1⟩
 ·skip
  obtain rfl:k_=0:=by have h:=of_decide_eq_false hlt; omega
  refine cw_exit rfl ?_
  obtain rfl:=sI hL
  refine cq (cr ?_)
  refine sQ 23 (yv rfl (hf.g 3 1)) ?_
  obtain ⟨hmk,hF1⟩:=chk_inv hF1
  refine sc 24 rfl rfl (yc Vz (grow_c Tryz.grow82 82 73 rfl rfl size K7 K66 K28 rfl (by decide) (by decide) hmk hS1)) ?_
  rintro _ w_ ⟨B3,c3,rfl,hd⟩
  refine sQ 6 yu (rn (cq (cq (cr ?_))))
  refine sQ 25 (yv rfl (hf.g 0 0))<|sQ 26 (Y_len H2 rfl rfl)<|sQ 27 yv (rn ?_)
  obtain ⟨hN1,hF1⟩:=chk_inv hF1
  obtain ⟨z1,hz1,hF4⟩:=bI hF1
  refine cw_block ?_
  refine cw_loop (fun k f w=>∃ (i1:Nat) (newslice:List Ac) (B4:Option Addr) (c4:Nat),FF f [(6,.slice B4 newslice.length c4),(25,.slice B slices.length c),(26,vi (slices.length:Int)),(27,vi (i1:Int))]∧ST w0 [] w [⟨B4,73,(newslice.flatMap eN0),c4*3⟩] (R0::((D.flatMap AW)++[]))∧i1+k=slices.length∧forN (Dn slices) k i1 newslice=some z1) slices.length ⟨0,([]:List Ac),B3,c3,(fc rfl (fc rfl (fc rfl (fc rfl fn_)))),(hd.sel [0] rfl rfl),Nat.zero_add _,hz1⟩ ?_
  rintro K11 f w ⟨i1,newslice,B4,c4,hf1,hS4,hik1,hL2⟩
  refine cq (cr ?_)
  refine sQ 28 (zL rfl (hf1.g 27 3) (hf1.g 26 2)) (rn (cq ?_))
  refine cw_cond rfl (fun hlt2=>?_) (fun hlt2=>?_)
  ·skip
   have hlt3:i1<slices.length:=by have h:=of_decide_eq_true hlt2; omega
   obtain ⟨K22,rfl⟩:∃ k2,K11=k2+1:=⟨K11-1,by omega⟩
   obtain ⟨y1,hb2,hL3⟩:=forN_go hL2
   unfold Dn at hb2
   refine cw_skip (cq (cw_block (cq (cr ?_))))
   obtain ⟨x1,hx1,hb2⟩:=bI hb2
   obtain ⟨⟨B5,c5⟩,hp1⟩:=getI_snd hD hx1
   refine sQ 29 (yI B (i1:Int) H2 K15 (gi_isSome Iq rfl (hS4.rf (i:=0) rfl) hp1) (getI_nn hp1) (getI_ltI hp1 (dl_len hD)) rfl (hf1.g 25 1) (hf1.g 27 3)) ?_
   have hm1:(⟨B5,(x1.flatMap eN0)⟩:Ro)∈((⟨B,(D.flatMap Ek)⟩::((D.flatMap AW)++[])):List Ro):=app_mem (fun r_ (h:r_∈((D.flatMap AW):List Ro))=>mOd (i:=1) (show r_∈((((D.flatMap AW)++[])):List Ro) from mAl _ h)) (row_mem (rw_:=AW) hp1 _ (mt 0))
   have hS5:ST w0 [] _ [⟨B4,73,(newslice.flatMap eN0),c4*3⟩] (⟨B5,(x1.flatMap eN0)⟩::R0::((D.flatMap AW)++[])):=ST.subR hS4 (subc hm1 (fun _ h=>h))
   refine sQ 30 (yz ((i1:Int).toNat*1) K21 (hS5.rf (i:=1) rfl) rfl rfl (gi_at0 Iq hp1 rfl))<|sQ 8 yu (rn (cr ?_))
   refine sQ 31 (yv rfl (hf1.g 6 0))<|sQ 32 yv ?_
   obtain ⟨hap,hb2⟩:=chk_inv hb2
   refine sS 33 (aP 3 24 0 newslice x1 hS5 K12 K7 K66 K28 eN8 BP (hS5.rf (i:=0) rfl) hap) ?_
   rintro _ w_1 ⟨B6,c6,rfl,hS6⟩
   refine sQ 6 yu (rn (cr ?_))
   refine sQ 34 (zP rfl (hf1.g 27 3))<|sQ 27 yv (rn ?_)
   obtain rfl:=sI hb2
   have hS7:ST w0 [] _ [⟨B6,73,((newslice++x1).flatMap eN0),c6*3⟩] (R0::((D.flatMap AW)++[])):=hS6.sR 2 [1]
   exact ⟨K22,Nat.lt_succ_self _,i1+1,(newslice++x1),B6,c6,(fc rfl (hf1.a 25 1 (hf1.a 26 2 (fc (congrArg (Value.int .i64) (wr_succ hlt3 hN1)) fn_)))),(hS7.sel [0] rfl rfl),(by omega),hL3⟩
  ·skip
   obtain rfl:K11=0:=by have h:=of_decide_eq_false hlt2; omega
   refine cw_exit rfl ?_
   obtain rfl:=sI hL2
   refine cq (cr ?_)
   refine sQ 35 (yv rfl (hf1.g 6 0))<|sQ 2 yu (rn (ct_ ?_))
   obtain rfl:=sI hF4
   exact ret1 Tryz.results49 rT ⟨B4,c4,rfl,(hS4.sN [0])⟩

theorem Tc (a:Ad) (b:Ad) (B:Option Addr) (c n:Nat) (B1:Option Addr) (c1 n1:Nat) (w0:World) (hn:a.Gates.length=n) (hn1:b.Gates.length=n1) (hS:ST w0 [] w0 [] [⟨B,(a.Gates.flatMap eN0)⟩,⟨B1,(b.Gates.flatMap eN0)⟩]) {r_:Ad} {r_1:Bool} (hF:EV a b=some (r_,r_1)) :
  CV Tryz.prog 18 #[.agg #[vi a.Qubits,.slice B n c],.agg #[vi b.Qubits,.slice B1 n1 c1]] w0 (fun v w'=>∃ (B2:Option Addr) (c2:Nat),v=.tuple #[.agg #[vi r_.Qubits,.slice B2 r_.Gates.length c2],.bool r_1]∧ST w0 [] w' [⟨B2,73,(r_.Gates.flatMap eN0),c2*3⟩] []):=by
 subst hn
 subst hn1
 unfold EV at hF
 refine cv_of_cw 33 Tryz.func18 rfl Tryz.ntmps18 rfl ?_
 refine cq (cr ?_)
 refine sS 2 (yV [vi a.Qubits,.slice B a.Gates.length c] 2 hS) ?_
 rintro _ w_ ⟨b1,rfl,hS1⟩
 refine sS 3 (yV [vi b.Qubits,.slice B1 b.Gates.length c1] 2 hS1) ?_
 rintro _ w_1 ⟨b2,rfl,hS2⟩
 refine sS 4 (yN [vi 0,.slice none 0 0] 2 hS2 K27) ?_
 rintro _ w_2 ⟨b3,rfl,hS3⟩
 refine sQ 5 yu (rn (cq (cq (cr ?_))))
 refine sQ 6 (yw 0 K10 K3 (hS3.c 0)) ?_
 obtain ⟨r_2,hc,hF⟩:=bI hF
 refine sc 7 rfl rfl (yc K93 (Dv a B c a.Gates.length _ rfl (hS3.inn0 [(true,0)] rfl) hc)) ?_
 rintro _ w_3 ⟨rfl,hd⟩
 have hS4:=hS3.out00 hd
 refine sQ 8 yn<|sQ 9 yv ?_
 refine sgq 10 rfl rfl (uF_ 9) (fun hg=>(yw 0 K10 K3 (hS4.c 1))) ?_
 obtain ⟨r_3,hc1,hF⟩:=bI hF
 refine sgc 11 (v:=.bool r_3) (F:=hS4.fn) rfl rfl (uF_ 9) hS4 (fun hg1=>(yc K93 (CV.mono (Dv b B1 c1 b.Gates.length _ rfl (hS4.inn0 [(true,1)] rfl) (gb_inv hc1 hg1)) (by rintro _ _ ⟨rfl,h⟩; exact ⟨rfl,hS4.out00 h⟩)) rfl (mc (gv_of hg1) mn))) ?_
 rintro w_4 hS5
 refine sgq 12 rfl rfl (uF_ 9) (fun hg2=>(yn rfl (gv_of hg2))) ?_
 refine sQ 13 yO<|sQ 14 yv ?_
 refine sgq 15 rfl rfl (uF_ 14) (fun hg3=>(yd (aD b1) 0 0 K42 K0)) ?_
 refine sgq 16 rfl rfl (uF_ 14) (fun hg4=>(yz 0 K1 (hS5.c 0) rfl (gv_of hg4))) ?_
 refine sgq 17 rfl rfl (uF_ 14) (fun hg5=>(yd (aD b2) 0 0 K42 K0)) ?_
 refine sgq 18 rfl rfl (uF_ 14) (fun hg6=>(yz 0 K1 (hS5.c 1) rfl (gv_of hg6))) ?_
 refine sgq 19 rfl rfl (uF_ 14) (fun hg7=>(Y_ne rfl (gv_of hg7) (gv_of hg7))) ?_
 refine sQ 20 yO (rn ?_)
 refine cw_cond rfl (fun hb=>?_) (fun hb=>?_)
 ·skip
  have hF1:=ct hF hb
  refine cq (cr ?_)
  refine sQ 21 (Y_buildS (zs:=[vi 0,.slice none 0 0]) (vs:=[]) (cs:=[vi 0,.slice none 0 0]) K81 K27 rfl mpn rfl) ?_
  refine s0 (yK 2 2 0 hS5 K3) ?_
  rintro _ w_5 ⟨rfl,hS6⟩
  refine sQ 5 yu (rn (ct_ ?_))
  have hS7:=hS6.addNil 73
  obtain ⟨rfl,rfl⟩:=pr2 (sI hF1)
  exact ret2 Tryz.results18 (rX K10 K3 (hS7.c 2)) rT ⟨none,0,rfl,(hS7.sN [3])⟩
 ·skip
  have hF2:=cf' hF hb
  refine cw_skip (cq ?_)
  obtain ⟨r_4,hc2,hF2⟩:=bI hF2
  obtain ⟨⟨r_5,r_6⟩,hc3,hF2⟩:=bI hF2
  refine ra_start (hS5.se [0,1]).fn (by kernel_rfl) ?_
  have hS11:=hS5.drew
  have hQ0:=hS11.se [0,1]
  refine rq 0 22 rfl hQ0 (fun _ q=>(yd (aD b1) 0 0 K42 K0))<|rq 1 23 rfl hQ0 (fun _ q=>(yz 0 K1 (ST.c q 0)))<|rq 2 24 rfl hQ0 (fun _ q=>(yd (aD b1) 0 0 K19 K15))<|rq 3 25 rfl hQ0 (fun _ q=>(yz 1 K21 (ST.c q 0)))<|rq 4 26 rfl hQ0 (fun _ q=>(yd (aD b2) 0 0 K19 K15)) ?_
  refine rq 5 27 rfl hQ0 (fun _ q=>(yz 1 K21 (ST.c q 1))) ?_
  refine rA [6] ?_
  refine rS 28 6 rfl (yF 1 2 [.slice B a.Gates.length c,.slice B1 b.Gates.length c1] 2 hS11 H2 K15 Vb rfl (mpc rfl (mpc rfl mpn))) ?_ aN
  rintro _ w_6 ⟨b4,rfl,hS12⟩
  have hm1:∀ r∈(([((B,c),a.Gates),((B1,c1),b.Gates)]:List (Hd×(List Ac))).flatMap AW),r∈([⟨B,(a.Gates.flatMap eN0)⟩,⟨B1,(b.Gates.flatMap eN0)⟩]:List Ro):=(fsub_cons (sk 0 (fun _ h=>by cases h)) (fsub_cons (sk 1 (fun _ h=>by cases h)) fsub_nil))
  have ho1:Org w0 [] [⟨B,(a.Gates.flatMap eN0)⟩,⟨B1,(b.Gates.flatMap eN0)⟩] (([((B,c),a.Gates),((B1,c1),b.Gates)]:List (Hd×(List Ac))).flatMap AW):=(forg_cons (org_cons (org_mem (i:=0) rfl) org_nil) (forg_cons (org_cons (org_mem (i:=1) rfl) org_nil) forg_nil))
  have hS13:ST w0 [] _ [⟨aD b1,28,[vi a.Qubits,.slice B a.Gates.length c],2⟩,⟨aD b2,28,[vi b.Qubits,.slice B1 b.Gates.length c1],2⟩,⟨aD b3,28,[vi 0,.slice none 0 0],2⟩,⟨aD b4,26,(([((B,c),a.Gates),((B1,c1),b.Gates)]:List (Hd×(List Ac))).flatMap Ek),2*1⟩] (⟨B,(a.Gates.flatMap eN0)⟩::⟨B1,(b.Gates.flatMap eN0)⟩::((([((B,c),a.Gates),((B1,c1),b.Gates)]:List (Hd×(List Ac))).flatMap AW)++[])):=ST.subR hS12 (sk 0 (sk 1 (suba hm1 (fun _ h=>by cases h))))
  refine ⟨((hS13.se [0,1]).sT [0,1]),?_⟩
  refine rA [7] ?_
  refine rC 29 7 rfl (yc SE (Sy ([a.Gates,b.Gates]:List (List Ac)) (aD b4) 2 2 ([((B,c),a.Gates),((B1,c1),b.Gates)]:List (Hd×(List Ac))) _ (dl_fl (show List.map Prod.snd ([((B,c),a.Gates),((B1,c1),b.Gates)]:List (Hd×(List Ac)))=([a.Gates,b.Gates]:List (List Ac)) from rfl) rfl) (show List.map Prod.snd ([((B,c),a.Gates),((B1,c1),b.Gates)]:List (Hd×(List Ac)))=([a.Gates,b.Gates]:List (List Ac)) from rfl) (hS13.innR0 (srcO (i:=3) rfl (srcG (fun r_ (h:r_∈((([((B,c),a.Gates),((B1,c1),b.Gates)]:List (Hd×(List Ac))).flatMap AW):List Ro))=>mOd (i:=2) (show r_∈((((([((B,c),a.Gates),((B1,c1),b.Gates)]:List (Hd×(List Ac))).flatMap AW)++[])):List Ro) from mAl _ h)) (fun _ h=>by cases h)))) hc2)) ?_ aN
  rintro _ w_7 ⟨B3,c3,rfl,hd1⟩
  have hS14:=hS13.out0 hd1
  refine ⟨((hS14.se [0,1]).sT [0,1]),?_⟩
  refine rA [8] ?_
  refine rC 30 8 rfl (yc OE (LY a.Qubits r_4 B3 c3 r_4.length _ rfl (hS14.inn0 [(false,4)] rfl) hc3)) ?_ aN
  rintro _ w_8 ⟨B4,c4,rfl,hd2⟩
  have hS15:=hS14.out0 hd2
  have hQ1:=hS15.se [0,1]
  refine ⟨(hQ1.sT [0,1]),?_⟩
  refine rq 9 31 rfl (hQ1.sT [0,1]) (fun _ q=>(ye (.agg #[vi r_5.Qubits,.slice B4 r_5.Gates.length c4])))<|rq 10 32 rfl (hQ1.sT [0,1]) (fun _ q=>(ye (.bool r_6))) ?_
  refine rA [11] ?_
  refine rZ 11 rfl (yK 2 2 0 hS15 K3) ?_ aN
  rintro _ w_9 ⟨rfl,hS16⟩
  refine ⟨((hS16.se [0,1]).sT [0,1]),?_⟩
  refine rq 12 5 rfl ((hS16.se [0,1]).sT [0,1]) (fun _ q=>yu) ?_
  refine ra_done (by kernel_rfl) ?_
  refine ct_ ?_
  obtain ⟨rfl,rfl⟩:=pr2 (sI hF2)
  exact ret2 Tryz.results18 (rX K10 K3 (hS16.c 2)) rT ⟨B4,c4,rfl,(hS16.sN [5])⟩

theorem Sj (c:Ad) (to_:List Int) (n2:Int) (B:Option Addr) (c1 n:Nat) (B1:Option Addr) (c2 n1:Nat) (w0:World) (hn:c.Gates.length=n) (hn1:to_.length=n1) (hq:n1≤c2) (hS:ST w0 [] w0 [] [⟨B,(c.Gates.flatMap eN0)⟩,⟨B1,(to_.flatMap encI)⟩]) {r_:Ad} {r_1:Bool} (hF:Ey c to_ n2=some (r_,r_1)) :
  CV Tryz.prog 19 #[.agg #[vi c.Qubits,.slice B n c1],.slice B1 n1 c2,vi n2] w0 (fun v w'=>∃ (B2:Option Addr) (c3:Nat),v=.tuple #[.agg #[vi r_.Qubits,.slice B2 r_.Gates.length c3],.bool r_1]∧ST w0 [] w' [⟨B2,73,(r_.Gates.flatMap eN0),c3*3⟩] []):=by
 subst hn
 subst hn1
 unfold Ey at hF
 refine cv_of_cw 53 Tryz.func19 rfl Tryz.ntmps19 rfl ?_
 refine cq (cr ?_)
 refine sS 3 (yV [vi c.Qubits,.slice B c.Gates.length c1] 2 hS) ?_
 rintro _ w_ ⟨b,rfl,hS1⟩
 let V4:List Value:=[vi 0,.slice none 0 0]
 refine sS 6 (yN V4 2 hS1 K27) ?_
 rintro _ w_1 ⟨b1,rfl,hS2⟩
 refine sQ 7 yu (rn (cq (cq (cr ?_))))
 refine sQ 10 (yw 0 K10 K3 (hS2.c 0)) ?_
 obtain ⟨r_2,hc,hF⟩:=bI hF
 refine sc 11 rfl rfl (yc K93 (Dv c B c1 c.Gates.length _ rfl (hS2.inn0 [(true,0)] rfl) hc)) ?_
 rintro _ w_2 ⟨rfl,hd⟩
 have hS3:=hS2.out00 hd
 refine sQ 12 yn<|sQ 13 yv ?_
 refine sgq 14 rfl rfl (uF_ 13) (fun hg=>yv) ?_
 obtain ⟨r_3,hc1,hF⟩:=bI hF
 refine sgc 15 (v:=.bool r_3) (F:=hS3.fn) rfl rfl (uF_ 13) hS3 (fun hg1=>(yc K53 (CV.mono (Bh n2 1 5 _  (hS3.inn0 [] rfl) (gb_inv hc1 hg1)) (by rintro _ _ ⟨rfl,h⟩; exact ⟨rfl,hS3.out00 h⟩)) rfl (mc (gv_of hg1) (mc rfl (mc rfl mn))))) ?_
 rintro w_3 hS4
 refine sgq 16 rfl rfl (uF_ 13) (fun hg2=>(yn rfl (gv_of hg2))) ?_
 refine sQ 17 yO<|sQ 18 yv ?_
 refine sgq 19 rfl rfl (uF_ 18) (fun hg3=>yv) ?_
 refine sgq 20 rfl rfl (uF_ 18) (fun hg4=>(Y_len K5 rfl (gv_of hg4))) ?_
 refine sgq 21 rfl rfl (uF_ 18) (fun hg5=>(yd (aD b) 0 0 K42 K0)) ?_
 refine sgq 22 rfl rfl (uF_ 18) (fun hg6=>(yz 0 K1 (hS4.c 0) rfl (gv_of hg6))) ?_
 refine sgq 23 rfl rfl (uF_ 18) (fun hg7=>(Y_ne rfl (gv_of hg7) (gv_of hg7))) ?_
 refine sQ 24 yO (rn ?_)
 refine cw_cond rfl (fun hb=>?_) (fun hb=>?_)
 ·skip
  have hF1:=ct hF hb
  refine cq (cr ?_)
  refine sQ 25 (Y_buildS (zs:=V4) (vs:=[]) (cs:=V4) K81 K27 rfl mpn rfl) ?_
  refine s0 (yK 1 2 0 hS4 K3) ?_
  rintro _ w_4 ⟨rfl,hS5⟩
  refine sQ 7 yu (rn (ct_ ?_))
  have hS6:=hS5.addNil 73
  obtain ⟨rfl,rfl⟩:=pr2 (sI hF1)
  exact ret2 Tryz.results19 (rX K10 K3 (hS6.c 1)) rT ⟨none,0,rfl,(hS6.sN [2])⟩
 ·skip
  have hF2:=cf' hF hb
  refine cw_skip (cq (cq (cr ?_)))
  refine sQ 26 yv<|sQ 27 (Y_len K5 rfl rfl)<|sQ 28 yv (rn ?_)
  obtain ⟨hN,hF2⟩:=chk_inv hF2
  obtain ⟨z,hz,hF3⟩:=bI hF2
  refine cw_block ?_
  let O0:Ob:=⟨aD b,28,[vi c.Qubits,.slice B c.Gates.length c1],2⟩
  let O1:Ob:=⟨aD b1,28,V4,2⟩
  let R2:Ro:=⟨B,(c.Gates.flatMap eN0)⟩
  let R3:Ro:=⟨B1,(to_.flatMap encI)⟩
  refine cw_loop (fun k f w=>∃ (i:Nat),FF f [(1,.slice B1 to_.length c2),(2,vi n2),(3,pt (aD b) 0),(6,pt (aD b1) 0),(26,.slice B1 to_.length c2),(27,vi (to_.length:Int)),(28,vi (i:Int))]∧ST w0 [] w [O0,O1] [R2,R3]∧i+k=to_.length∧forX (GB to_ n2) k i ()=some z) to_.length ⟨0,(fc rfl (fc rfl (fc rfl (fc rfl (fc rfl (fc rfl (fc rfl fn_))))))),(hS4.sel [0,1] rfl rfl),Nat.zero_add _,hz⟩ ?_
  rintro k_ f w ⟨i,hf,hS7,hik,hL⟩
  refine cq (cr ?_)
  refine sQ 29 (zL rfl (hf.g 28 6) (hf.g 27 5)) (rn (cq ?_))
  refine cw_cond rfl (fun hlt=>?_) (fun hlt=>?_)
  ·skip
   have hlt1:i<to_.length:=by have h:=of_decide_eq_true hlt; omega
   obtain ⟨K2,rfl⟩:∃ k2,k_=k2+1:=⟨k_-1,by omega⟩
   obtain ⟨y,hb1,hL1⟩:=forX_go hL
   unfold GB at hb1
   refine cw_skip (cq (cw_block (cq (cr ?_))))
   refine sQ 30 (yv rfl (hf.g 28 6)) ?_
   obtain ⟨x,hx,hb1⟩:=bI hb1
   refine sQ 31 (yI B1 (i:Int) K5 K0 (gi_isSome encI_len rfl (hS7.rf (i:=1) rfl) hx) (getI_nn hx) (getI_ltI hx rfl) rfl (hf.g 26 4) (hf.g 28 6))<|sQ 32 (yz ((i:Int).toNat*1) K1 (hS7.rf (i:=1) rfl) rfl rfl (gi_at0 encI_len hx rfl))<|sQ 8 yu<|sQ 9 yu (rn (cq (cr ?_)))
   refine sQ 33 yv<|sQ 34 (yv rfl (hf.g 2 1))<|sQ 35 zM ?_
   obtain ⟨r_4,hc2,hb1⟩:=bI hb1
   refine sc 36 rfl rfl (yc K53 (Bh x 0 (i64.wrap (n2-1)) _  (hS7.inn0 [] rfl) hc2)) ?_
   rintro _ w_5 ⟨rfl,hd1⟩
   have hS8:=hS7.out00 hd1
   refine sQ 37 yn<|sQ 38 yv ?_
   refine sgq 39 rfl rfl (uF_ 38) (fun hg8=>(yv rfl (hf.g 1 0))) ?_
   refine sgq 40 rfl rfl (uF_ 38) (fun hg9=>yv) ?_
   refine rw_split (B:=(!(!r_4))) (fun hb2=>?_) (fun hb2=>?_)
   ·skip
    have hF4:=ct hb1 hb2
    obtain ⟨hsl,hF4⟩:=chk_inv hF4
    have hcap:to_.length≤c2:=hq
    have hv:(List.take i to_).length=i:=(take_len rfl (by omega))
    have hq1:i≤c2:=by omega
    have ho:Org w0 [] [R2,R3] [⟨B1,((List.take i to_).flatMap encI)⟩]:=org_view encI_len (q:=c2) (org_mem (i:=1) rfl) (sv_zero _ _ _).symm rfl
    have hS9:ST w0 [] _ [O0,O1] [⟨B1,((List.take i to_).flatMap encI)⟩,R2,R3]:=ST.view encI_len hS8 (i:=1) rfl (lo:=0) (h:=i) (q:=c2) (by omega) (by omega) (sv_zero _ _ _).symm rfl
    refine sqg 41 rfl rfl (uF_ 38) hb2 (Y_slice0 (B:=B1) (m:=to_.length) (c:=c2) (h:=i) (s:=1) K5 K0 rfl (gv_of hb2) (bnd_some (gv_of hb2) rfl) (by omega)) ?_
    refine sqg 42 rfl rfl (uF_ 38) hb2 yv ?_
    obtain ⟨r_5,hc3,hF4⟩:=bI hF4
    refine scg 43 rfl rfl (uF_ 38) hb2 (yc Hv (HK (List.take i to_) x B1 c2 i _ hv (hS9.inn0 [(true,0)] rfl) hc3)) ?_
    rintro _ w_6 ⟨rfl,hd2⟩
    have hS10:=hS9.out00 hd2
    refine sQ 44 (Y_pickF (b:=(!r_4)) (v:=.bool r_5) rfl rfl (nt hb2) rfl) (rn ?_)
    refine cw_cond rfl (fun hb3=>?_) (fun hb3=>?_)
    ·skip
     have hF5:=ct hF4 hb3
     refine cq (cr ?_)
     refine sQ 45 (Y_buildS (zs:=V4) (vs:=[]) (cs:=V4) K81 K27 rfl mpn rfl) ?_
     refine s0 (yK 1 2 0 hS10 K3 rfl (hf.g 6 3)) ?_
     rintro _ w_7 ⟨rfl,hS11⟩
     refine sQ 7 yu (rn (ct_ ?_))
     have hS12:=hS11.addNil 73
     obtain rfl:=sI hF5
     obtain rfl:=sI hL1
     obtain ⟨rfl,rfl⟩:=pr2 (sI hF3)
     exact ret2 Tryz.results19 (rX K10 K3 (hS12.c 1) (hf.g 6 3)) rT ⟨none,0,rfl,(hS12.sN [2])⟩
    ·skip
     have hF6:=cf' hF4 hb3
     refine cw_skip (cr ?_)
     refine sQ 46 (zP rfl (hf.g 28 6))<|sQ 28 yv (rn ?_)
     obtain rfl:=sI hF6
     have hS13:ST w0 [] _ [O0,O1] [R2,R3]:=hS10.sT [1,2]
     exact ⟨K2,Nat.lt_succ_self _,i+1,(hf.a 1 0 (hf.a 2 1 (hf.a 3 2 (hf.a 6 3 (hf.a 26 4 (hf.a 27 5 (fc (congrArg (Value.int .i64) (wr_succ hlt1 hN)) fn_))))))),(hS13.sel [0,1] rfl rfl),(by omega),hL1⟩
   ·skip
    have hF7:=cf' hb1 hb2
    refine sgn 41 rfl rfl (uF_ 38) hb2 ?_
    refine sgn 42 rfl rfl (uF_ 38) hb2 ?_
    refine sgn 43 rfl rfl (uF_ 38) hb2 ?_
    refine sQ 44 (Y_pickT (b:=(!r_4)) (v:=.bool true) rfl rfl (nf hb2) rfl) (rn ?_)
    refine cw_cond rfl (fun _=>?_) (fun h=>by cases h)
    refine cq (cr ?_)
    refine sQ 45 (Y_buildS (zs:=V4) (vs:=[]) (cs:=V4) K81 K27 rfl mpn rfl) ?_
    refine s0 (yK 1 2 0 hS8 K3 rfl (hf.g 6 3)) ?_
    rintro _ w_8 ⟨rfl,hS14⟩
    refine sQ 7 yu (rn (ct_ ?_))
    have hS15:=hS14.addNil 73
    obtain rfl:=sI hF7
    obtain rfl:=sI hL1
    obtain ⟨rfl,rfl⟩:=pr2 (sI hF3)
    exact ret2 Tryz.results19 (rX K10 K3 (hS15.c 1) (hf.g 6 3)) rT ⟨none,0,rfl,(hS15.sN [2])⟩
  ·skip
   obtain rfl:k_=0:=by have h:=of_decide_eq_false hlt; omega
   refine cw_exit rfl ?_
   obtain rfl:=sI hL
   refine cq (cr ?_)
   refine sQ 47 (yv rfl (hf.g 2 1))<|sQ 48 (yd (aD b) 0 0 K19 K15 rfl (hf.g 3 2))<|sQ 49 (yz 1 K21 (hS7.c 0))<|sQ 50 (yv rfl (hf.g 1 0)) ?_
   obtain ⟨r_6,hc4,hF3⟩:=bI hF3
   refine sc 51 rfl rfl (yc MI (MX c.Gates to_ B c1 c.Gates.length B1 c2 to_.length _ rfl rfl (hS7.inn0 [(true,0),(true,1)] rfl) hc4)) ?_
   rintro _ w_9 ⟨B3,c4,rfl,hd3⟩
   have hS16:=hS7.out0 hd3
   refine sQ 52 (Y_buildS (zs:=V4) (vs:=[(0,vi n2),(1,.slice B3 r_6.length c4)]) (cs:=[vi n2,.slice B3 r_6.length c4]) K81 K27 rfl (mpc rfl (mpc rfl mpn)) rfl) ?_
   refine s0 (yK 1 2 0 hS16 K3 rfl (hf.g 6 3)) ?_
   rintro _ w_10 ⟨rfl,hS17⟩
   refine sQ 7 yu (rn (ct_ ?_))
   obtain ⟨rfl,rfl⟩:=pr2 (sI hF3)
   exact ret2 Tryz.results19 (rX K10 K3 (hS17.c 1) (hf.g 6 3)) rT ⟨B3,c4,rfl,(hS17.sN [2])⟩

theorem IC (n:Int)  (w0:World)  (hS:ST w0 [] w0 [] []) {r_:Bool} (hF:Cz n=some r_) :
  CV Tryz.prog 111 #[vi n] w0 (fun v w'=>v=.bool r_∧ST w0 [] w' [] []):=by
 unfold Cz at hF
 refine cv_of_cw 12 Tryz.func111 rfl Tryz.ntmps111 rfl ?_
 refine cq (cr ?_)
 refine sQ 2 yu (rn (cq (cr ?_)))
 refine sQ 3 yv ?_
 obtain ⟨r_1,hc,hF⟩:=bI hF
 refine sc 4 rfl rfl (yc K53 (Bh n 1 32 _  (hS.inn0 [] rfl) hc)) ?_
 rintro _ w_ ⟨rfl,hd⟩
 have hS1:=hS.out00 hd
 refine sQ 5 yv ?_
 refine sgq 6 rfl rfl (uT_ 5) (fun hg=>yv) ?_
 refine sgq 7 rfl rfl (uT_ 5) (fun hg1=>yv) ?_
 refine sgq 8 rfl rfl (uT_ 5) (fun hg2=>(zM rfl (gv_of hg2))) ?_
 refine sgq 9 rfl rfl (uT_ 5) (fun hg3=>(Y_band (k:=.i64) (a:=n) (b:=(i64.wrap (n-1))) rfl (gv_of hg3) (gv_of hg3))) ?_
 refine sgq 10 rfl rfl (uT_ 5) (fun hg4=>(zE rfl (gv_of hg4))) ?_
 refine sQ 11 yA<|sQ 2 yu (rn (ct_ ?_))
 obtain rfl:=sI hF
 exact e1 Tryz.results111 (hS1.sN [])
end Go.VK
