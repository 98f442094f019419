/- Walks: each Go function returns what its Lean function says. By program. -/
import Derived.Test.YteafjgodcdlanaaLRoutesFa
import Derived.Test.YteafjgodcdlanaaLibU
import Derived.Test.YteafjgodcdlanaaLibX
import Derived.Test.YteafjgodcdlanaaLibW
import Derived.Test.YteafjgodcdlanaaLRoutesW3
set_option linter.unusedVariables false
set_option maxRecDepth 100000
set_option maxHeartbeats 4000000
namespace Go.VK
open Go.RowKit
open Go.Proofs
open Go.IntKind
attribute [local irreducible] CW RW RA CV Y Yw Yc Ys RetOf
attribute [local irreducible] F_spec_l1Has F_spec_l23Small F_spec_l23Placement F_spec_l1Own F_spec_l23Swap F_spec_l22Edge F_spec_l23Run F_spec_l23Code F_spec_l23Mask F_spec_l23Search F_spec_RouteFrom F_spec_LeastSwaps F_spec_l22Far F_spec_l22Near F_spec_l22Path
theorem c_spec_l23Search (g:TCouplingGraph) (c1:TCircuit) (starts:List (List Int)) (B:Option Addr) (c n:Nat) (B1:Option Addr) (c2 n1:Nat) (B2:Option Addr) (c3 n2:Nat) (D:List (Hd×(List Int))) (w0:World) (hn:g.Edges.length=n) (hn1:c1.Gates.length=n1) (hn2:starts.length=n2) (hD:D.map Prod.snd=starts) (hS:ST w0 [] w0 [] (⟨B,(g.Edges.flatMap eN1)⟩::⟨B1,(c1.Gates.flatMap eN2)⟩::⟨B2,(D.flatMap eN3)⟩::((D.flatMap eN4)++[]))) {r_:TRoute} {r_1:Bool} (hF:F_spec_l23Search g c1 starts=some (r_,r_1)) :
  CV Try.prog 55 #[.agg #[vi g.Nodes,.slice B n c],.agg #[vi c1.Qubits,.slice B1 n1 c2],.slice B2 n2 c3] w0 (fun v w'=>∃ (B3:Option Addr) (c4:Nat) (B4:Option Addr) (c5:Nat),v=.tuple #[.agg #[.slice B3 r_.Start.length c4,.slice B4 r_.Steps.length c5],.bool r_1]∧ST w0 [] w' [⟨B3,3,(r_.Start.flatMap encI),c4*1⟩,⟨B4,60,(r_.Steps.flatMap eN0),c5*3⟩] []):=by
 subst hn
 subst hn1
 subst hn2
 unfold F_spec_l23Search at hF
 refine cv_of_cw 169 Try.func55 rfl Try.ntmps55 rfl ?_
 refine cq (cr ?_)
 let V144:List Value:=[vi g.Nodes,.slice B g.Edges.length c]
 refine sS 3 (yB 25 (.agg V144.toArray) V144 2 hS) ?_
 rintro _ w_ ⟨b,rfl,hS1⟩
 let V138:List Value:=[vi c1.Qubits,.slice B1 c1.Gates.length c2]
 refine sS 4 (yB 28 (.agg V138.toArray) V138 2 hS1) ?_
 rintro _ w_1 ⟨b1,rfl,hS2⟩
 let V150:List Value:=[.slice none 0 0,.slice none 0 0]
 refine sS 6 (yN V150 2 hS2 K35) ?_
 rintro _ w_2 ⟨b2,rfl,hS3⟩
 refine sQ 7 (yg (.bool false)) (rn (cq (cr ?_)))
 refine sS 22 (Ys_make (s:=1) (by':=24) (nn:=3125) (a:=3125) (b:=3125) (cs:=((List.replicate 3125 (((none,0),[]):Hd×(List Int))).flatMap eN3)) hS3 K57 K11 k_by_29_24 k_zero_29 rfl rfl rfl rfl (show (0:Int)≤3125∧3125≤1099511627776 by decide).1 rfl (by have:=(show (0:Int)≤3125∧3125≤1099511627776 by decide); omega) (by have:=(show (0:Int)≤3125∧3125≤1099511627776 by decide); omega) (by omega) (fm_rep (enc:=eN3) (d:=(((none,0),[]):Hd×(List Int))) rfl _)) ?_
 rintro _ w_3 ⟨b3,rfl,hS4⟩
 let O0:Ob:=⟨aD b1,28,V138,2⟩
 let O1:Ob:=⟨aD b,25,V144,2⟩
 let O2:Ob:=⟨aD b2,36,V150,2⟩
 let R73:Ro:=⟨B1,(c1.Gates.flatMap eN2)⟩
 let R74:Ro:=⟨B,(g.Edges.flatMap eN1)⟩
 have hS5:ST w0 [] _ (O1::O0::O2::⟨aD b3,29,((List.replicate 3125 (((none,0),[]):Hd×(List Int))).flatMap eN3),3125*1⟩::((List.replicate 3125 (((none,0),[]):Hd×(List Int))).map (orow 3 encI 1))) (R74::R73::⟨B2,(D.flatMap eN3)⟩::((D.flatMap eN4)++[])):=ST.addRows (enc:=encI) (L:=[O1,O0,O2,⟨aD b3,29,((List.replicate 3125 (((none,0),[]):Hd×(List Int))).flatMap eN3),3125*1⟩]) hS4 3 1 3125
 refine sQ 8 (yg (.slice (aD b3) 3125 3125)) (rn (cq (cr ?_)))
 refine sQ 9 (yg (.slice none 0 0)) (rn (cq (cq (cr ?_))))
 refine sQ 23 (ym (.slice B2 starts.length c3))<|sQ 24 (Y_len (B:=B2) (m:=starts.length) (c:=c3) K57 rfl rfl)<|sQ 25 (ym (vi 0)) (rn ?_)
 obtain ⟨hN,hF⟩:=chk_inv hF
 obtain ⟨z,hz,hF1⟩:=bI hF
 have hS7:=hS5.addNil 122
 have hS8:ST w0 [] _ (O1::O0::O2::⟨aD b3,29,((List.replicate 3125 (((none,0),[]):Hd×(List Int))).flatMap eN3),3125*1⟩::⟨none,122,(([]:List ((Hd×Hd×Hd)×Tl23Node)).flatMap eN6),0*4⟩::((List.replicate 3125 (((none,0),[]):Hd×(List Int))).map (orow 3 encI 1))) (R74::R73::⟨B2,(D.flatMap eN3)⟩::((D.flatMap eN4)++[])):=ST.rot (pre:=[O1,O0,O2,⟨aD b3,29,((List.replicate 3125 (((none,0),[]):Hd×(List Int))).flatMap eN3),3125*1⟩]) (G:=((List.replicate 3125 (((none,0),[]):Hd×(List Int))).map (orow 3 encI 1))) (xs:=[⟨none,122,(([]:List ((Hd×Hd×Hd)×Tl23Node)).flatMap eN6),0*4⟩]) hS7
 have hS9:ST w0 [] _ (O1::O0::O2::⟨aD b3,29,((List.replicate 3125 (((none,0),[]):Hd×(List Int))).flatMap eN3),3125*1⟩::⟨none,122,(([]:List ((Hd×Hd×Hd)×Tl23Node)).flatMap eN6),0*4⟩::((List.replicate 3125 (((none,0),[]):Hd×(List Int))).map (orow 3 encI 1))) (R74::R73::⟨B2,(D.flatMap eN3)⟩::((D.flatMap eN4)++((([]:List ((Hd×Hd×Hd)×Tl23Node)).flatMap eN5)++[]))):=ST.subR hS8 (sk 0 (sk 1 (sk 2 (suba (fun r_ (h:r_∈((D.flatMap eN4):List Ro))=>mOd (i:=3) (show r_∈((((D.flatMap eN4)++[])):List Ro) from mAl _ h)) (suba fsub_nil (fun _ h=>by cases h))))))
 refine cw_block ?_
 refine cw_loop (fun k f w=>∃ (i:Nat) (met:List (List Int)) (list:List Tl23Node) (D1:List (Hd×(List Int))) (B5:Option Addr) (c6:Nat) (D2:List ((Hd×Hd×Hd)×Tl23Node)),FF f [(3,pt (aD b) 0),(4,pt (aD b1) 0),(6,pt (aD b2) 0),(8,.slice (aD b3) 3125 3125),(9,.slice B5 list.length c6),(23,.slice B2 starts.length c3),(24,vi (starts.length:Int)),(25,vi (i:Int))]∧D1.map Prod.snd=met∧D1.length=3125∧D2.map Prod.snd=list∧Org w0 [] (R74::R73::⟨B2,(D.flatMap eN3)⟩::((D.flatMap eN4)++[])) (D2.flatMap eN5)∧ST w0 [] w (O1::O0::O2::⟨aD b3,29,(D1.flatMap eN3),3125*1⟩::⟨B5,122,(D2.flatMap eN6),c6*4⟩::(D1.map (orow 3 encI 1))) (R74::R73::⟨B2,(D.flatMap eN3)⟩::((D.flatMap eN4)++((D2.flatMap eN5)++[])))∧i+k=starts.length∧forN (F_spec_l23Search_l1 starts c1 g) k i (met,list)=some z) starts.length ⟨0,(List.replicate 3125 ([]:List Int)),([]:List Tl23Node),(List.replicate 3125 (((none,0),[]):Hd×(List Int))),none,0,([]:List ((Hd×Hd×Hd)×Tl23Node)),(fc rfl (fc rfl (fc rfl (fc rfl (fc rfl (fc rfl (fc rfl (fc rfl fn_)))))))),(rep_snd _),List.length_replicate,rfl,forg_nil,(hS9.sg 5 [0,1,2,3,4]),Nat.zero_add _,hz⟩ ?_
 rintro k_ f w ⟨i,met,list,D1,B5,c6,D2,hf,hD1,hl,hD2,ho,hS6,hik,hL⟩
 refine cq (cr ?_)
 refine sQ 26 (yL (i:Int) (starts.length:Int) rfl (hf.g 25 7) (hf.g 24 6)) (rn (cq ?_))
 refine cw_cond (b:=(decide ((i:Int)<(starts.length:Int)))) rfl (fun hlt=>?_) (fun hlt=>?_)
 ·skip
  have hlt1:i<starts.length:=by have h:=of_decide_eq_true hlt; omega
  obtain ⟨K4,rfl⟩:∃ k2,k_=k2+1:=⟨k_-1,by omega⟩
  obtain ⟨y,hb,hL1⟩:=forN_go hL
  unfold F_spec_l23Search_l1 at hb
  refine cw_skip (cq (cw_block (cq (cr ?_))))
  obtain ⟨x,hx,hb⟩:=bI hb
  obtain ⟨⟨B6,c7⟩,hp⟩:=getI_snd hD hx
  refine sQ 27 (Y_index (B:=B2) (m:=starts.length) (c:=c3) (k:=.i64) (i:=(i:Int)) K57 K11 rfl (hf.g 23 5) (hf.g 25 7) (gi_isSome encD_SInt_len rfl (hS6.rf (i:=2) rfl) hp) (getI_nn hp) (getI_ltI hp (dl_len hD))) ?_
  let R80:Ro:=⟨B6,(x.flatMap encI)⟩
  have hm:(R80:Ro)∈((R74::R73::⟨B2,(D.flatMap eN3)⟩::((D.flatMap eN4)++((D2.flatMap eN5)++[]))):List Ro):=app_mem (fun r_ (h:r_∈((D.flatMap eN4):List Ro))=>mOd (i:=3) (show r_∈((((D.flatMap eN4)++((D2.flatMap eN5)++[]))):List Ro) from mAl _ h)) (row_mem (rw_:=eN4) hp _ (mt 0))
  let O3:Ob:=⟨aD b3,29,(D1.flatMap eN3),3125*1⟩
  let O4:Ob:=⟨B5,122,(D2.flatMap eN6),c6*4⟩
  have hS10:ST w0 [] _ (O1::O0::O2::O3::O4::(D1.map (orow 3 encI 1))) (R80::R74::R73::⟨B2,(D.flatMap eN3)⟩::((D.flatMap eN4)++((D2.flatMap eN5)++[]))):=ST.subR hS6 (subc hm (fun _ h=>h))
  refine sQ 28 (yl B2 ((i:Int).toNat*1) (D.flatMap eN3) (.slice B6 x.length c7) K25 (hS10.rf (i:=3) rfl) rfl rfl (gi_at0 encD_SInt_len hp rfl))<|sQ 11 (yg (.slice B6 x.length c7)) (rn (cq ?_))
  obtain ⟨r_2,hc,hb⟩:=bI hb
  obtain ⟨hmk,hb⟩:=chk_inv hb
  obtain ⟨r_3,hc1,hb⟩:=bI hb
  have hS19:=hS10.addNil 60
  let O18:Ob:=⟨none,60,([].flatMap eN0),0*3⟩
  let P157:List Ob:=(O1::O0::O2::O3::O4::O18::(D1.map (orow 3 encI 1)))
  have hS20:ST w0 [] _ P157 (R80::R74::R73::⟨B2,(D.flatMap eN3)⟩::((D.flatMap eN4)++((D2.flatMap eN5)++[]))):=ST.rot (pre:=[O1,O0,O2,O3,O4]) (G:=(D1.map (orow 3 encI 1))) (xs:=[O18]) hS19
  refine cw_mid (fun f w=>∃ (B11:Option Addr) (B12:Option Addr) (c12:Nat) (B13:Option Addr) (c13:Nat) (B14:Option Addr) (c14:Nat),FF f [(3,pt (aD b) 0),(4,pt (aD b1) 0),(6,pt (aD b2) 0),(8,.slice (aD b3) 3125 3125),(9,.slice B5 list.length c6),(12,pt B11 0),(23,.slice B2 starts.length c3),(24,vi (starts.length:Int)),(25,vi (i:Int))]∧Org w0 [] (R74::R73::⟨B2,(D.flatMap eN3)⟩::((D.flatMap eN4)++[])) [⟨B12,(r_3.place.flatMap encI)⟩]∧r_3.place.length≤c12∧ST w0 [] w (O1::O0::O2::O3::O4::⟨B11,122,[.slice B12 r_3.place.length c12,.slice B13 r_3.done.length c13,vi r_3.from_,.slice B14 r_3.steps.length c14],4⟩::⟨B13,4,(r_3.done.flatMap encB),c13*1⟩::⟨B14,60,(r_3.steps.flatMap eN0),c14*3⟩::(D1.map (orow 3 encI 1))) (⟨B12,(r_3.place.flatMap encI)⟩::R80::R74::R73::⟨B2,(D.flatMap eN3)⟩::((D.flatMap eN4)++((D2.flatMap eN5)++[])))) ?_ ?_
  ·skip
   refine ra_start (hS20.sg 6 [0,1,2,3,4]).fn (by kernel_rfl) ?_
   have hS22:=hS20.drew
   refine rq 0 29 (v:=.agg V144.toArray) rfl (hS22.sg 6 [0,1,2,3,4]) (fun w' hw'=>(yb (aD b) 0 V144 K5 K3 (ST.cf hw' (i:=0) rfl) rfl (hf.g 3 0))) ?_
   refine rq 1 30 (v:=.agg V138.toArray) rfl (hS22.sg 6 [0,1,2,3,4]) (fun w' hw'=>(yb (aD b1) 0 V138 K14 K7 (ST.cf hw' (i:=1) rfl) rfl (hf.g 4 1))) ?_
   refine rq 2 31 rfl (hS22.sg 6 [0,1,2,3,4]) (fun w' hw'=>(ym (.slice B6 x.length c7))) ?_
   refine rq 4 33 (v:=pt (aD b1) 1) rfl (hS22.sg 6 [0,1,2,3,4]) (fun w' hw'=>(yd (aD b1) 0 0 K19 K16 rfl (hf.g 4 1))) ?_
   refine rq 5 34 rfl (hS22.sg 6 [0,1,2,3,4]) (fun w' hw'=>(yl (aD b1) 1 V138 (.slice B1 c1.Gates.length c2) K21 (ST.cf hw' (i:=1) rfl))) ?_
   refine rq 6 35 (v:=vi (c1.Gates.length:Int)) rfl (hS22.sg 6 [0,1,2,3,4]) (fun w' hw'=>(Y_len (B:=B1) (m:=c1.Gates.length) (c:=c2) K12 rfl rfl)) ?_
   refine rA [3,7,10] ?_
   let V154:List Value:=[.slice B6 x.length c7]
   refine rC 32 3 rfl (yC V154 K77 (c_spec_l1Own x B6 c7 x.length _ rfl (hS22.inn0 [(true,0)] rfl) hc)) ?_ ?_
   ·rintro _ w_4 ⟨B7,c8,rfl,hd⟩
    have hS23:=hS22.out0 hd
    let O35:Ob:=⟨B7,3,(r_2.flatMap encI),c8*1⟩
    have hS24:ST w0 [] _ (O1::O0::O2::O3::O4::O18::O35::(D1.map (orow 3 encI 1))) (R80::R74::R73::⟨B2,(D.flatMap eN3)⟩::((D.flatMap eN4)++((D2.flatMap eN5)++[]))):=ST.rot (pre:=[O1,O0,O2,O3,O4,O18]) (G:=(D1.map (orow 3 encI 1))) (xs:=[O35]) hS23
    refine ⟨(hS24.sg 7 [0,1,2,3,4]),?_⟩
    refine rA [7,10] ?_
    refine rS 36 7 rfl (Ys_make (s:=1) (by':=1) (nn:=c1.Gates.length) (a:=(c1.Gates.length:Int)) (b:=(c1.Gates.length:Int)) (cs:=((List.replicate c1.Gates.length false).flatMap encB)) hS24 K36 K37 K74 K68 rfl rfl rfl rfl hmk.1 rfl (by have:=hmk; omega) (by have:=hmk; omega) (by omega) (fm_rep (enc:=encB) (d:=false) rfl _)) ?_ ?_
    ·rintro _ w_5 ⟨b4,rfl,hS25⟩
     have hS26:ST w0 [] _ (O1::O0::O2::O3::O4::O18::O35::⟨aD b4,4,((List.replicate c1.Gates.length false).flatMap encB),c1.Gates.length*1⟩::(D1.map (orow 3 encI 1))) (R80::R74::R73::⟨B2,(D.flatMap eN3)⟩::((D.flatMap eN4)++((D2.flatMap eN5)++[]))):=ST.rot (pre:=[O1,O0,O2,O3,O4,O18,O35]) (G:=(D1.map (orow 3 encI 1))) (xs:=[⟨aD b4,4,((List.replicate c1.Gates.length false).flatMap encB),c1.Gates.length*1⟩]) hS25
     refine ⟨(hS26.sg 8 [0,1,2,3,4]),?_⟩
     let V111:List Value:=[.slice none 0 0,.slice none 0 0,vi 0,.slice none 0 0]
     let V117:List Value:=[.slice B7 r_2.length c8,.slice (aD b4) c1.Gates.length c1.Gates.length,vi (-1),.slice none 0 0]
     refine rq 8 37 (v:=.agg V117.toArray) rfl (hS26.sg 8 [0,1,2,3,4]) (fun w' hw'=>(Y_buildS (zs:=V111) (vs:=[(0,.slice B7 r_2.length c8),(1,.slice (aD b4) c1.Gates.length c1.Gates.length),(2,vi (-1))]) (cs:=V117) K65 K33 rfl (mpc rfl (mpc rfl (mpc rfl mpn))) rfl)) ?_
     refine rA [9,10] ?_
     let R83:Ro:=⟨B7,(r_2.flatMap encI)⟩
     have ho6:Org w0 [] (R74::R73::⟨B2,(D.flatMap eN3)⟩::((D.flatMap eN4)++[])) [R83]:=ST.orgOwn hS26 (i:=6) rfl
     have hcap2:r_2.length≤c8:=(hS26.lencap (i:=6) rfl (fm_lenn (l:=r_2) encI_len rfl) rfl rfl)
     have hS27:ST w0 [] _ (O1::O0::O2::O3::O4::O18::⟨aD b4,4,((List.replicate c1.Gates.length false).flatMap encB),c1.Gates.length*1⟩::(D1.map (orow 3 encI 1))) (R83::R80::R74::R73::⟨B2,(D.flatMap eN3)⟩::((D.flatMap eN4)++((D2.flatMap eN5)++[]))):=hS26.freeze (i:=6) rfl
     have ho7:Org w0 [] (R74::R73::⟨B2,(D.flatMap eN3)⟩::((D.flatMap eN4)++[])) [⟨aD b4,((List.replicate c1.Gates.length false).flatMap encB)⟩]:=ST.orgOwn hS27 (i:=6) rfl
     have hcap3:c1.Gates.length≤c1.Gates.length:=(hS27.lencap (i:=6) rfl (fm_lenn (l:=(List.replicate c1.Gates.length false)) encB_len List.length_replicate) rfl rfl)
     have hS28:ST w0 [] _ P157 (⟨aD b4,((List.replicate c1.Gates.length false).flatMap encB)⟩::R83::R80::R74::R73::⟨B2,(D.flatMap eN3)⟩::((D.flatMap eN4)++((D2.flatMap eN5)++[]))):=hS27.freeze (i:=6) rfl
     refine rC 38 9 rfl (yC [.agg V144.toArray,.agg V138.toArray,.agg V117.toArray] K58 (c_spec_l23Run g c1 (Tl23Node.mk r_2 (List.replicate c1.Gates.length false) (-1) []) B c g.Edges.length B1 c2 c1.Gates.length B7 c8 r_2.length (aD b4) c1.Gates.length c1.Gates.length none 0 0 _ rfl rfl rfl hcap2 List.length_replicate rfl (hS28.inn [false,false,false,false,false,true] rfl [(true,3),(true,4),(true,1),(true,0)] rfl) hc1)) ?_ ?_
     ·rintro _ w_6 ⟨B8,c9,B9,c10,B10,c11,rfl,hq,ho1,hd1⟩
      have hS29:=ST.outRG (pre:=[O1,O0,O2,O3,O4,O18]) (G:=(D1.map (orow 3 encI 1))) hS28 [false,false,false,false,false,true] rfl hd1 ho1 (sk 3 (sk 4 (sk 1 (sk 0 (fun _ h=>by cases h)))))
      let R84:Ro:=⟨B8,(r_3.place.flatMap encI)⟩
      have ho8:Org w0 [] (R74::R73::⟨B2,(D.flatMap eN3)⟩::((D.flatMap eN4)++[])) [R84]:=org_trans hS28 (msk_mem (mask:=[false,false,false,false,false,true]) rfl) ho1 (org_cons (org_mem (i:=0) rfl) (org_cons (org_mem (i:=1) rfl) (org_cons ho6 (org_cons ho7 org_nil))))
      let O31:Ob:=⟨B10,60,(r_3.steps.flatMap eN0),c11*3⟩
      let O34:Ob:=⟨B9,4,(r_3.done.flatMap encB),c10*1⟩
      have hS30:ST w0 [] _ (O1::O0::O2::O3::O4::O34::O31::(D1.map (orow 3 encI 1))) (R84::⟨aD b4,((List.replicate c1.Gates.length false).flatMap encB)⟩::R83::R80::R74::R73::⟨B2,(D.flatMap eN3)⟩::((D.flatMap eN4)++((D2.flatMap eN5)++[]))):=hS29
      refine ⟨((hS30.sg 7 [0,1,2,3,4]).sR 7 [3,4,5,6]),?_⟩
      refine rA [10] ?_
      refine rS 12 10 rfl (yN V111 4 hS30 K33) ?_ aN
      rintro _ w_7 ⟨b5,rfl,hS31⟩
      let O5:Ob:=⟨aD b5,122,V111,4⟩
      have hS32:ST w0 [] _ (O1::O0::O2::O3::O4::O34::O31::O5::(D1.map (orow 3 encI 1))) (R84::⟨aD b4,((List.replicate c1.Gates.length false).flatMap encB)⟩::R83::R80::R74::R73::⟨B2,(D.flatMap eN3)⟩::((D.flatMap eN4)++((D2.flatMap eN5)++[]))):=ST.rot (pre:=[O1,O0,O2,O3,O4,O34,O31]) (G:=(D1.map (orow 3 encI 1))) (xs:=[O5]) hS31
      refine ⟨((hS32.sg 8 [0,1,2,3,4]).sR 7 [3,4,5,6]),?_⟩
      refine rA [11] ?_
      let V108:List Value:=[.slice B8 r_3.place.length c9,.slice B9 r_3.done.length c10,vi r_3.from_,.slice B10 r_3.steps.length c11]
      refine rZ 11 rfl (yT 7 4 (aD b5) 122 (.agg V108.toArray) V108 0 hS32 K28) ?_ aN
      rintro _ w_8 ⟨rfl,hS33⟩
      refine ⟨((hS33.sg 8 [0,1,2,3,4]).sR 7 [3,4,5,6]),?_⟩
      refine ra_done (by kernel_rfl) ?_
      have hS34:ST w0 [] _ (O1::O0::O2::O3::O4::O34::O31::⟨aD b5,122,V108,4⟩::(D1.map (orow 3 encI 1))) (R84::R80::R74::R73::⟨B2,(D.flatMap eN3)⟩::((D.flatMap eN4)++((D2.flatMap eN5)++[]))):=hS33.sR 7 [0,3,4,5,6]
      exact ⟨aD b5,B8,c9,B9,c10,B10,c11,(hf.a 3 0 (hf.a 4 1 (hf.a 6 2 (hf.a 8 3 (hf.a 9 4 (fc rfl (hf.a 23 5 (hf.a 24 6 (hf.a 25 7 fn_))))))))),(org_sub ho8 (sk 0 (fun _ h=>by cases h))),(len_le rfl hq),(hS34.sg 8 [0,1,2,3,4,7,5,6])⟩
     refine rS 12 10 rfl (yN V111 4 hS26 K33) ?_ aN
     rintro _ w_9 ⟨b5,rfl,hS35⟩
     let O6:Ob:=⟨aD b5,122,V111,4⟩
     have hS36:ST w0 [] _ (O1::O0::O2::O3::O4::O18::O35::⟨aD b4,4,((List.replicate c1.Gates.length false).flatMap encB),c1.Gates.length*1⟩::O6::(D1.map (orow 3 encI 1))) (R80::R74::R73::⟨B2,(D.flatMap eN3)⟩::((D.flatMap eN4)++((D2.flatMap eN5)++[]))):=ST.rot (pre:=[O1,O0,O2,O3,O4,O18,O35,⟨aD b4,4,((List.replicate c1.Gates.length false).flatMap encB),c1.Gates.length*1⟩]) (G:=(D1.map (orow 3 encI 1))) (xs:=[O6]) hS35
     refine ⟨(hS36.sg 9 [0,1,2,3,4]),?_⟩
     refine rA [9] ?_
     have ho9:Org w0 [] (R74::R73::⟨B2,(D.flatMap eN3)⟩::((D.flatMap eN4)++[])) [R83]:=ST.orgOwn hS36 (i:=6) rfl
     have hcap4:r_2.length≤c8:=(hS36.lencap (i:=6) rfl (fm_lenn (l:=r_2) encI_len rfl) rfl rfl)
     have hS37:ST w0 [] _ (O1::O0::O2::O3::O4::O18::⟨aD b4,4,((List.replicate c1.Gates.length false).flatMap encB),c1.Gates.length*1⟩::O6::(D1.map (orow 3 encI 1))) (R83::R80::R74::R73::⟨B2,(D.flatMap eN3)⟩::((D.flatMap eN4)++((D2.flatMap eN5)++[]))):=hS36.freeze (i:=6) rfl
     have ho10:Org w0 [] (R74::R73::⟨B2,(D.flatMap eN3)⟩::((D.flatMap eN4)++[])) [⟨aD b4,((List.replicate c1.Gates.length false).flatMap encB)⟩]:=ST.orgOwn hS37 (i:=6) rfl
     have hcap5:c1.Gates.length≤c1.Gates.length:=(hS37.lencap (i:=6) rfl (fm_lenn (l:=(List.replicate c1.Gates.length false)) encB_len List.length_replicate) rfl rfl)
     have hS38:ST w0 [] _ (O1::O0::O2::O3::O4::O18::O6::(D1.map (orow 3 encI 1))) (⟨aD b4,((List.replicate c1.Gates.length false).flatMap encB)⟩::R83::R80::R74::R73::⟨B2,(D.flatMap eN3)⟩::((D.flatMap eN4)++((D2.flatMap eN5)++[]))):=hS37.freeze (i:=6) rfl
     refine rC 38 9 rfl (yC [.agg V144.toArray,.agg V138.toArray,.agg V117.toArray] K58 (c_spec_l23Run g c1 (Tl23Node.mk r_2 (List.replicate c1.Gates.length false) (-1) []) B c g.Edges.length B1 c2 c1.Gates.length B7 c8 r_2.length (aD b4) c1.Gates.length c1.Gates.length none 0 0 _ rfl rfl rfl hcap4 List.length_replicate rfl (hS38.inn [false,false,false,false,false,true,false] rfl [(true,3),(true,4),(true,1),(true,0)] rfl) hc1)) ?_ aN
     rintro _ w_10 ⟨B8,c9,B9,c10,B10,c11,rfl,hq,ho1,hd2⟩
     have hS39:=ST.outRG (pre:=[O1,O0,O2,O3,O4,O18,O6]) (G:=(D1.map (orow 3 encI 1))) hS38 [false,false,false,false,false,true,false] rfl hd2 ho1 (sk 3 (sk 4 (sk 1 (sk 0 (fun _ h=>by cases h)))))
     have ho11:Org w0 [] (R74::R73::⟨B2,(D.flatMap eN3)⟩::((D.flatMap eN4)++[])) [⟨B8,(r_3.place.flatMap encI)⟩]:=org_trans hS38 (msk_mem (mask:=[false,false,false,false,false,true,false]) rfl) ho1 (org_cons (org_mem (i:=0) rfl) (org_cons (org_mem (i:=1) rfl) (org_cons ho9 (org_cons ho10 org_nil))))
     have hS40:ST w0 [] _ (O1::O0::O2::O3::O4::O6::⟨B9,4,(r_3.done.flatMap encB),c10*1⟩::⟨B10,60,(r_3.steps.flatMap eN0),c11*3⟩::(D1.map (orow 3 encI 1))) (⟨B8,(r_3.place.flatMap encI)⟩::⟨aD b4,((List.replicate c1.Gates.length false).flatMap encB)⟩::R83::R80::R74::R73::⟨B2,(D.flatMap eN3)⟩::((D.flatMap eN4)++((D2.flatMap eN5)++[]))):=hS39
     refine ⟨((hS40.sg 8 [0,1,2,3,4]).sR 7 [3,4,5,6]),?_⟩
     refine rA [11] ?_
     let V110:List Value:=[.slice B8 r_3.place.length c9,.slice B9 r_3.done.length c10,vi r_3.from_,.slice B10 r_3.steps.length c11]
     refine rZ 11 rfl (yT 5 4 (aD b5) 122 (.agg V110.toArray) V110 0 hS40 K28) ?_ aN
     rintro _ w_11 ⟨rfl,hS41⟩
     refine ⟨((hS41.sg 8 [0,1,2,3,4]).sR 7 [3,4,5,6]),?_⟩
     refine ra_done (by kernel_rfl) ?_
     have hS42:ST w0 [] _ (O1::O0::O2::O3::O4::⟨aD b5,122,V110,4⟩::⟨B9,4,(r_3.done.flatMap encB),c10*1⟩::⟨B10,60,(r_3.steps.flatMap eN0),c11*3⟩::(D1.map (orow 3 encI 1))) (⟨B8,(r_3.place.flatMap encI)⟩::R80::R74::R73::⟨B2,(D.flatMap eN3)⟩::((D.flatMap eN4)++((D2.flatMap eN5)++[]))):=hS41.sR 7 [0,3,4,5,6]
     exact ⟨aD b5,B8,c9,B9,c10,B10,c11,(hf.a 3 0 (hf.a 4 1 (hf.a 6 2 (hf.a 8 3 (hf.a 9 4 (fc rfl (hf.a 23 5 (hf.a 24 6 (hf.a 25 7 fn_))))))))),(org_sub ho11 (sk 0 (fun _ h=>by cases h))),(len_le rfl hq),(hS42.sg 8 [0,1,2,3,4,5,6,7])⟩
    let V114:List Value:=[.slice none 0 0,.slice none 0 0,vi 0,.slice none 0 0]
    refine rS 12 10 rfl (yN V114 4 hS24 K33) ?_ aN
    rintro _ w_12 ⟨b5,rfl,hS43⟩
    let O12:Ob:=⟨aD b5,122,V114,4⟩
    have hS44:ST w0 [] _ (O1::O0::O2::O3::O4::O18::O35::O12::(D1.map (orow 3 encI 1))) (R80::R74::R73::⟨B2,(D.flatMap eN3)⟩::((D.flatMap eN4)++((D2.flatMap eN5)++[]))):=ST.rot (pre:=[O1,O0,O2,O3,O4,O18,O35]) (G:=(D1.map (orow 3 encI 1))) (xs:=[O12]) hS43
    refine ⟨(hS44.sg 8 [0,1,2,3,4]),?_⟩
    refine rA [7] ?_
    refine rS 36 7 rfl (Ys_make (s:=1) (by':=1) (nn:=c1.Gates.length) (a:=(c1.Gates.length:Int)) (b:=(c1.Gates.length:Int)) (cs:=((List.replicate c1.Gates.length false).flatMap encB)) hS44 K36 K37 K74 K68 rfl rfl rfl rfl hmk.1 rfl (by have:=hmk; omega) (by have:=hmk; omega) (by omega) (fm_rep (enc:=encB) (d:=false) rfl _)) ?_ aN
    rintro _ w_13 ⟨b4,rfl,hS45⟩
    have hS46:ST w0 [] _ (O1::O0::O2::O3::O4::O18::O35::O12::⟨aD b4,4,((List.replicate c1.Gates.length false).flatMap encB),c1.Gates.length*1⟩::(D1.map (orow 3 encI 1))) (R80::R74::R73::⟨B2,(D.flatMap eN3)⟩::((D.flatMap eN4)++((D2.flatMap eN5)++[]))):=ST.rot (pre:=[O1,O0,O2,O3,O4,O18,O35,O12]) (G:=(D1.map (orow 3 encI 1))) (xs:=[⟨aD b4,4,((List.replicate c1.Gates.length false).flatMap encB),c1.Gates.length*1⟩]) hS45
    refine ⟨(hS46.sg 9 [0,1,2,3,4]),?_⟩
    let V124:List Value:=[.slice B7 r_2.length c8,.slice (aD b4) c1.Gates.length c1.Gates.length,vi (-1),.slice none 0 0]
    refine rq 8 37 (v:=.agg V124.toArray) rfl (hS46.sg 9 [0,1,2,3,4]) (fun w' hw'=>(Y_buildS (zs:=V114) (vs:=[(0,.slice B7 r_2.length c8),(1,.slice (aD b4) c1.Gates.length c1.Gates.length),(2,vi (-1))]) (cs:=V124) K65 K33 rfl (mpc rfl (mpc rfl (mpc rfl mpn))) rfl)) ?_
    refine rA [9] ?_
    let R88:Ro:=⟨B7,(r_2.flatMap encI)⟩
    have ho12:Org w0 [] (R74::R73::⟨B2,(D.flatMap eN3)⟩::((D.flatMap eN4)++[])) [R88]:=ST.orgOwn hS46 (i:=6) rfl
    have hcap6:r_2.length≤c8:=(hS46.lencap (i:=6) rfl (fm_lenn (l:=r_2) encI_len rfl) rfl rfl)
    have hS47:ST w0 [] _ (O1::O0::O2::O3::O4::O18::O12::⟨aD b4,4,((List.replicate c1.Gates.length false).flatMap encB),c1.Gates.length*1⟩::(D1.map (orow 3 encI 1))) (R88::R80::R74::R73::⟨B2,(D.flatMap eN3)⟩::((D.flatMap eN4)++((D2.flatMap eN5)++[]))):=hS46.freeze (i:=6) rfl
    have ho13:Org w0 [] (R74::R73::⟨B2,(D.flatMap eN3)⟩::((D.flatMap eN4)++[])) [⟨aD b4,((List.replicate c1.Gates.length false).flatMap encB)⟩]:=ST.orgOwn hS47 (i:=7) rfl
    have hcap7:c1.Gates.length≤c1.Gates.length:=(hS47.lencap (i:=7) rfl (fm_lenn (l:=(List.replicate c1.Gates.length false)) encB_len List.length_replicate) rfl rfl)
    have hS48:ST w0 [] _ (O1::O0::O2::O3::O4::O18::O12::(D1.map (orow 3 encI 1))) (⟨aD b4,((List.replicate c1.Gates.length false).flatMap encB)⟩::R88::R80::R74::R73::⟨B2,(D.flatMap eN3)⟩::((D.flatMap eN4)++((D2.flatMap eN5)++[]))):=hS47.freeze (i:=7) rfl
    refine rC 38 9 rfl (yC [.agg V144.toArray,.agg V138.toArray,.agg V124.toArray] K58 (c_spec_l23Run g c1 (Tl23Node.mk r_2 (List.replicate c1.Gates.length false) (-1) []) B c g.Edges.length B1 c2 c1.Gates.length B7 c8 r_2.length (aD b4) c1.Gates.length c1.Gates.length none 0 0 _ rfl rfl rfl hcap6 List.length_replicate rfl (hS48.inn [false,false,false,false,false,true,false] rfl [(true,3),(true,4),(true,1),(true,0)] rfl) hc1)) ?_ aN
    rintro _ w_14 ⟨B8,c9,B9,c10,B10,c11,rfl,hq,ho1,hd3⟩
    have hS49:=ST.outRG (pre:=[O1,O0,O2,O3,O4,O18,O12]) (G:=(D1.map (orow 3 encI 1))) hS48 [false,false,false,false,false,true,false] rfl hd3 ho1 (sk 3 (sk 4 (sk 1 (sk 0 (fun _ h=>by cases h)))))
    have ho14:Org w0 [] (R74::R73::⟨B2,(D.flatMap eN3)⟩::((D.flatMap eN4)++[])) [⟨B8,(r_3.place.flatMap encI)⟩]:=org_trans hS48 (msk_mem (mask:=[false,false,false,false,false,true,false]) rfl) ho1 (org_cons (org_mem (i:=0) rfl) (org_cons (org_mem (i:=1) rfl) (org_cons ho12 (org_cons ho13 org_nil))))
    have hS50:ST w0 [] _ (O1::O0::O2::O3::O4::O12::⟨B9,4,(r_3.done.flatMap encB),c10*1⟩::⟨B10,60,(r_3.steps.flatMap eN0),c11*3⟩::(D1.map (orow 3 encI 1))) (⟨B8,(r_3.place.flatMap encI)⟩::⟨aD b4,((List.replicate c1.Gates.length false).flatMap encB)⟩::R88::R80::R74::R73::⟨B2,(D.flatMap eN3)⟩::((D.flatMap eN4)++((D2.flatMap eN5)++[]))):=hS49
    refine ⟨((hS50.sg 8 [0,1,2,3,4]).sR 7 [3,4,5,6]),?_⟩
    refine rA [11] ?_
    let V113:List Value:=[.slice B8 r_3.place.length c9,.slice B9 r_3.done.length c10,vi r_3.from_,.slice B10 r_3.steps.length c11]
    refine rZ 11 rfl (yT 5 4 (aD b5) 122 (.agg V113.toArray) V113 0 hS50 K28) ?_ aN
    rintro _ w_15 ⟨rfl,hS51⟩
    refine ⟨((hS51.sg 8 [0,1,2,3,4]).sR 7 [3,4,5,6]),?_⟩
    refine ra_done (by kernel_rfl) ?_
    have hS52:ST w0 [] _ (O1::O0::O2::O3::O4::⟨aD b5,122,V113,4⟩::⟨B9,4,(r_3.done.flatMap encB),c10*1⟩::⟨B10,60,(r_3.steps.flatMap eN0),c11*3⟩::(D1.map (orow 3 encI 1))) (⟨B8,(r_3.place.flatMap encI)⟩::R80::R74::R73::⟨B2,(D.flatMap eN3)⟩::((D.flatMap eN4)++((D2.flatMap eN5)++[]))):=hS51.sR 7 [0,3,4,5,6]
    exact ⟨aD b5,B8,c9,B9,c10,B10,c11,(hf.a 3 0 (hf.a 4 1 (hf.a 6 2 (hf.a 8 3 (hf.a 9 4 (fc rfl (hf.a 23 5 (hf.a 24 6 (hf.a 25 7 fn_))))))))),(org_sub ho14 (sk 0 (fun _ h=>by cases h))),(len_le rfl hq),(hS52.sg 8 [0,1,2,3,4,5,6,7])⟩
   refine rS 36 7 rfl (Ys_make (s:=1) (by':=1) (nn:=c1.Gates.length) (a:=(c1.Gates.length:Int)) (b:=(c1.Gates.length:Int)) (cs:=((List.replicate c1.Gates.length false).flatMap encB)) hS22 K36 K37 K74 K68 rfl rfl rfl rfl hmk.1 rfl (by have:=hmk; omega) (by have:=hmk; omega) (by omega) (fm_rep (enc:=encB) (d:=false) rfl _)) ?_ ?_
   ·rintro _ w_16 ⟨b4,rfl,hS53⟩
    have hS54:ST w0 [] _ (O1::O0::O2::O3::O4::O18::⟨aD b4,4,((List.replicate c1.Gates.length false).flatMap encB),c1.Gates.length*1⟩::(D1.map (orow 3 encI 1))) (R80::R74::R73::⟨B2,(D.flatMap eN3)⟩::((D.flatMap eN4)++((D2.flatMap eN5)++[]))):=ST.rot (pre:=[O1,O0,O2,O3,O4,O18]) (G:=(D1.map (orow 3 encI 1))) (xs:=[⟨aD b4,4,((List.replicate c1.Gates.length false).flatMap encB),c1.Gates.length*1⟩]) hS53
    refine ⟨(hS54.sg 7 [0,1,2,3,4]),?_⟩
    refine rA [3,10] ?_
    refine rC 32 3 rfl (yC V154 K77 (c_spec_l1Own x B6 c7 x.length _ rfl (hS54.inn0 [(true,0)] rfl) hc)) ?_ ?_
    ·rintro _ w_17 ⟨B7,c8,rfl,hd4⟩
     have hS55:=hS54.out0 hd4
     let O49:Ob:=⟨B7,3,(r_2.flatMap encI),c8*1⟩
     have hS56:ST w0 [] _ (O1::O0::O2::O3::O4::O18::⟨aD b4,4,((List.replicate c1.Gates.length false).flatMap encB),c1.Gates.length*1⟩::O49::(D1.map (orow 3 encI 1))) (R80::R74::R73::⟨B2,(D.flatMap eN3)⟩::((D.flatMap eN4)++((D2.flatMap eN5)++[]))):=ST.rot (pre:=[O1,O0,O2,O3,O4,O18,⟨aD b4,4,((List.replicate c1.Gates.length false).flatMap encB),c1.Gates.length*1⟩]) (G:=(D1.map (orow 3 encI 1))) (xs:=[O49]) hS55
     refine ⟨(hS56.sg 8 [0,1,2,3,4]),?_⟩
     let V116:List Value:=[.slice none 0 0,.slice none 0 0,vi 0,.slice none 0 0]
     let V128:List Value:=[.slice B7 r_2.length c8,.slice (aD b4) c1.Gates.length c1.Gates.length,vi (-1),.slice none 0 0]
     refine rq 8 37 (v:=.agg V128.toArray) rfl (hS56.sg 8 [0,1,2,3,4]) (fun w' hw'=>(Y_buildS (zs:=V116) (vs:=[(0,.slice B7 r_2.length c8),(1,.slice (aD b4) c1.Gates.length c1.Gates.length),(2,vi (-1))]) (cs:=V128) K65 K33 rfl (mpc rfl (mpc rfl (mpc rfl mpn))) rfl)) ?_
     refine rA [9,10] ?_
     let R90:Ro:=⟨B7,(r_2.flatMap encI)⟩
     have ho15:Org w0 [] (R74::R73::⟨B2,(D.flatMap eN3)⟩::((D.flatMap eN4)++[])) [R90]:=ST.orgOwn hS56 (i:=7) rfl
     have hcap8:r_2.length≤c8:=(hS56.lencap (i:=7) rfl (fm_lenn (l:=r_2) encI_len rfl) rfl rfl)
     have hS57:ST w0 [] _ (O1::O0::O2::O3::O4::O18::⟨aD b4,4,((List.replicate c1.Gates.length false).flatMap encB),c1.Gates.length*1⟩::(D1.map (orow 3 encI 1))) (R90::R80::R74::R73::⟨B2,(D.flatMap eN3)⟩::((D.flatMap eN4)++((D2.flatMap eN5)++[]))):=hS56.freeze (i:=7) rfl
     have ho16:Org w0 [] (R74::R73::⟨B2,(D.flatMap eN3)⟩::((D.flatMap eN4)++[])) [⟨aD b4,((List.replicate c1.Gates.length false).flatMap encB)⟩]:=ST.orgOwn hS57 (i:=6) rfl
     have hcap9:c1.Gates.length≤c1.Gates.length:=(hS57.lencap (i:=6) rfl (fm_lenn (l:=(List.replicate c1.Gates.length false)) encB_len List.length_replicate) rfl rfl)
     have hS58:ST w0 [] _ P157 (⟨aD b4,((List.replicate c1.Gates.length false).flatMap encB)⟩::R90::R80::R74::R73::⟨B2,(D.flatMap eN3)⟩::((D.flatMap eN4)++((D2.flatMap eN5)++[]))):=hS57.freeze (i:=6) rfl
     refine rC 38 9 rfl (yC [.agg V144.toArray,.agg V138.toArray,.agg V128.toArray] K58 (c_spec_l23Run g c1 (Tl23Node.mk r_2 (List.replicate c1.Gates.length false) (-1) []) B c g.Edges.length B1 c2 c1.Gates.length B7 c8 r_2.length (aD b4) c1.Gates.length c1.Gates.length none 0 0 _ rfl rfl rfl hcap8 List.length_replicate rfl (hS58.inn [false,false,false,false,false,true] rfl [(true,3),(true,4),(true,1),(true,0)] rfl) hc1)) ?_ ?_
     ·rintro _ w_18 ⟨B8,c9,B9,c10,B10,c11,rfl,hq,ho1,hd5⟩
      have hS59:=ST.outRG (pre:=[O1,O0,O2,O3,O4,O18]) (G:=(D1.map (orow 3 encI 1))) hS58 [false,false,false,false,false,true] rfl hd5 ho1 (sk 3 (sk 4 (sk 1 (sk 0 (fun _ h=>by cases h)))))
      let R87:Ro:=⟨B8,(r_3.place.flatMap encI)⟩
      have ho17:Org w0 [] (R74::R73::⟨B2,(D.flatMap eN3)⟩::((D.flatMap eN4)++[])) [R87]:=org_trans hS58 (msk_mem (mask:=[false,false,false,false,false,true]) rfl) ho1 (org_cons (org_mem (i:=0) rfl) (org_cons (org_mem (i:=1) rfl) (org_cons ho15 (org_cons ho16 org_nil))))
      let O39:Ob:=⟨B10,60,(r_3.steps.flatMap eN0),c11*3⟩
      let O40:Ob:=⟨B9,4,(r_3.done.flatMap encB),c10*1⟩
      have hS60:ST w0 [] _ (O1::O0::O2::O3::O4::O40::O39::(D1.map (orow 3 encI 1))) (R87::⟨aD b4,((List.replicate c1.Gates.length false).flatMap encB)⟩::R90::R80::R74::R73::⟨B2,(D.flatMap eN3)⟩::((D.flatMap eN4)++((D2.flatMap eN5)++[]))):=hS59
      refine ⟨((hS60.sg 7 [0,1,2,3,4]).sR 7 [3,4,5,6]),?_⟩
      refine rA [10] ?_
      refine rS 12 10 rfl (yN V116 4 hS60 K33) ?_ aN
      rintro _ w_19 ⟨b5,rfl,hS61⟩
      let O15:Ob:=⟨aD b5,122,V116,4⟩
      have hS62:ST w0 [] _ (O1::O0::O2::O3::O4::O40::O39::O15::(D1.map (orow 3 encI 1))) (R87::⟨aD b4,((List.replicate c1.Gates.length false).flatMap encB)⟩::R90::R80::R74::R73::⟨B2,(D.flatMap eN3)⟩::((D.flatMap eN4)++((D2.flatMap eN5)++[]))):=ST.rot (pre:=[O1,O0,O2,O3,O4,O40,O39]) (G:=(D1.map (orow 3 encI 1))) (xs:=[O15]) hS61
      refine ⟨((hS62.sg 8 [0,1,2,3,4]).sR 7 [3,4,5,6]),?_⟩
      refine rA [11] ?_
      let V118:List Value:=[.slice B8 r_3.place.length c9,.slice B9 r_3.done.length c10,vi r_3.from_,.slice B10 r_3.steps.length c11]
      refine rZ 11 rfl (yT 7 4 (aD b5) 122 (.agg V118.toArray) V118 0 hS62 K28) ?_ aN
      rintro _ w_20 ⟨rfl,hS63⟩
      refine ⟨((hS63.sg 8 [0,1,2,3,4]).sR 7 [3,4,5,6]),?_⟩
      refine ra_done (by kernel_rfl) ?_
      have hS64:ST w0 [] _ (O1::O0::O2::O3::O4::O40::O39::⟨aD b5,122,V118,4⟩::(D1.map (orow 3 encI 1))) (R87::R80::R74::R73::⟨B2,(D.flatMap eN3)⟩::((D.flatMap eN4)++((D2.flatMap eN5)++[]))):=hS63.sR 7 [0,3,4,5,6]
      exact ⟨aD b5,B8,c9,B9,c10,B10,c11,(hf.a 3 0 (hf.a 4 1 (hf.a 6 2 (hf.a 8 3 (hf.a 9 4 (fc rfl (hf.a 23 5 (hf.a 24 6 (hf.a 25 7 fn_))))))))),(org_sub ho17 (sk 0 (fun _ h=>by cases h))),(len_le rfl hq),(hS64.sg 8 [0,1,2,3,4,7,5,6])⟩
     refine rS 12 10 rfl (yN V116 4 hS56 K33) ?_ aN
     rintro _ w_21 ⟨b5,rfl,hS65⟩
     let O17:Ob:=⟨aD b5,122,V116,4⟩
     have hS66:ST w0 [] _ (O1::O0::O2::O3::O4::O18::⟨aD b4,4,((List.replicate c1.Gates.length false).flatMap encB),c1.Gates.length*1⟩::O49::O17::(D1.map (orow 3 encI 1))) (R80::R74::R73::⟨B2,(D.flatMap eN3)⟩::((D.flatMap eN4)++((D2.flatMap eN5)++[]))):=ST.rot (pre:=[O1,O0,O2,O3,O4,O18,⟨aD b4,4,((List.replicate c1.Gates.length false).flatMap encB),c1.Gates.length*1⟩,O49]) (G:=(D1.map (orow 3 encI 1))) (xs:=[O17]) hS65
     refine ⟨(hS66.sg 9 [0,1,2,3,4]),?_⟩
     refine rA [9] ?_
     have ho18:Org w0 [] (R74::R73::⟨B2,(D.flatMap eN3)⟩::((D.flatMap eN4)++[])) [R90]:=ST.orgOwn hS66 (i:=7) rfl
     have hcap10:r_2.length≤c8:=(hS66.lencap (i:=7) rfl (fm_lenn (l:=r_2) encI_len rfl) rfl rfl)
     have hS67:ST w0 [] _ (O1::O0::O2::O3::O4::O18::⟨aD b4,4,((List.replicate c1.Gates.length false).flatMap encB),c1.Gates.length*1⟩::O17::(D1.map (orow 3 encI 1))) (R90::R80::R74::R73::⟨B2,(D.flatMap eN3)⟩::((D.flatMap eN4)++((D2.flatMap eN5)++[]))):=hS66.freeze (i:=7) rfl
     have ho19:Org w0 [] (R74::R73::⟨B2,(D.flatMap eN3)⟩::((D.flatMap eN4)++[])) [⟨aD b4,((List.replicate c1.Gates.length false).flatMap encB)⟩]:=ST.orgOwn hS67 (i:=6) rfl
     have hcap11:c1.Gates.length≤c1.Gates.length:=(hS67.lencap (i:=6) rfl (fm_lenn (l:=(List.replicate c1.Gates.length false)) encB_len List.length_replicate) rfl rfl)
     have hS68:ST w0 [] _ (O1::O0::O2::O3::O4::O18::O17::(D1.map (orow 3 encI 1))) (⟨aD b4,((List.replicate c1.Gates.length false).flatMap encB)⟩::R90::R80::R74::R73::⟨B2,(D.flatMap eN3)⟩::((D.flatMap eN4)++((D2.flatMap eN5)++[]))):=hS67.freeze (i:=6) rfl
     refine rC 38 9 rfl (yC [.agg V144.toArray,.agg V138.toArray,.agg V128.toArray] K58 (c_spec_l23Run g c1 (Tl23Node.mk r_2 (List.replicate c1.Gates.length false) (-1) []) B c g.Edges.length B1 c2 c1.Gates.length B7 c8 r_2.length (aD b4) c1.Gates.length c1.Gates.length none 0 0 _ rfl rfl rfl hcap10 List.length_replicate rfl (hS68.inn [false,false,false,false,false,true,false] rfl [(true,3),(true,4),(true,1),(true,0)] rfl) hc1)) ?_ aN
     rintro _ w_22 ⟨B8,c9,B9,c10,B10,c11,rfl,hq,ho1,hd6⟩
     have hS69:=ST.outRG (pre:=[O1,O0,O2,O3,O4,O18,O17]) (G:=(D1.map (orow 3 encI 1))) hS68 [false,false,false,false,false,true,false] rfl hd6 ho1 (sk 3 (sk 4 (sk 1 (sk 0 (fun _ h=>by cases h)))))
     have ho20:Org w0 [] (R74::R73::⟨B2,(D.flatMap eN3)⟩::((D.flatMap eN4)++[])) [⟨B8,(r_3.place.flatMap encI)⟩]:=org_trans hS68 (msk_mem (mask:=[false,false,false,false,false,true,false]) rfl) ho1 (org_cons (org_mem (i:=0) rfl) (org_cons (org_mem (i:=1) rfl) (org_cons ho18 (org_cons ho19 org_nil))))
     have hS70:ST w0 [] _ (O1::O0::O2::O3::O4::O17::⟨B9,4,(r_3.done.flatMap encB),c10*1⟩::⟨B10,60,(r_3.steps.flatMap eN0),c11*3⟩::(D1.map (orow 3 encI 1))) (⟨B8,(r_3.place.flatMap encI)⟩::⟨aD b4,((List.replicate c1.Gates.length false).flatMap encB)⟩::R90::R80::R74::R73::⟨B2,(D.flatMap eN3)⟩::((D.flatMap eN4)++((D2.flatMap eN5)++[]))):=hS69
     refine ⟨((hS70.sg 8 [0,1,2,3,4]).sR 7 [3,4,5,6]),?_⟩
     refine rA [11] ?_
     let V121:List Value:=[.slice B8 r_3.place.length c9,.slice B9 r_3.done.length c10,vi r_3.from_,.slice B10 r_3.steps.length c11]
     refine rZ 11 rfl (yT 5 4 (aD b5) 122 (.agg V121.toArray) V121 0 hS70 K28) ?_ aN
     rintro _ w_23 ⟨rfl,hS71⟩
     refine ⟨((hS71.sg 8 [0,1,2,3,4]).sR 7 [3,4,5,6]),?_⟩
     refine ra_done (by kernel_rfl) ?_
     have hS72:ST w0 [] _ (O1::O0::O2::O3::O4::⟨aD b5,122,V121,4⟩::⟨B9,4,(r_3.done.flatMap encB),c10*1⟩::⟨B10,60,(r_3.steps.flatMap eN0),c11*3⟩::(D1.map (orow 3 encI 1))) (⟨B8,(r_3.place.flatMap encI)⟩::R80::R74::R73::⟨B2,(D.flatMap eN3)⟩::((D.flatMap eN4)++((D2.flatMap eN5)++[]))):=hS71.sR 7 [0,3,4,5,6]
     exact ⟨aD b5,B8,c9,B9,c10,B10,c11,(hf.a 3 0 (hf.a 4 1 (hf.a 6 2 (hf.a 8 3 (hf.a 9 4 (fc rfl (hf.a 23 5 (hf.a 24 6 (hf.a 25 7 fn_))))))))),(org_sub ho20 (sk 0 (fun _ h=>by cases h))),(len_le rfl hq),(hS72.sg 8 [0,1,2,3,4,5,6,7])⟩
    let V120:List Value:=[.slice none 0 0,.slice none 0 0,vi 0,.slice none 0 0]
    refine rS 12 10 rfl (yN V120 4 hS54 K33) ?_ aN
    rintro _ w_24 ⟨b5,rfl,hS73⟩
    let O22:Ob:=⟨aD b5,122,V120,4⟩
    have hS74:ST w0 [] _ (O1::O0::O2::O3::O4::O18::⟨aD b4,4,((List.replicate c1.Gates.length false).flatMap encB),c1.Gates.length*1⟩::O22::(D1.map (orow 3 encI 1))) (R80::R74::R73::⟨B2,(D.flatMap eN3)⟩::((D.flatMap eN4)++((D2.flatMap eN5)++[]))):=ST.rot (pre:=[O1,O0,O2,O3,O4,O18,⟨aD b4,4,((List.replicate c1.Gates.length false).flatMap encB),c1.Gates.length*1⟩]) (G:=(D1.map (orow 3 encI 1))) (xs:=[O22]) hS73
    refine ⟨(hS74.sg 8 [0,1,2,3,4]),?_⟩
    refine rA [3] ?_
    refine rC 32 3 rfl (yC V154 K77 (c_spec_l1Own x B6 c7 x.length _ rfl (hS74.inn0 [(true,0)] rfl) hc)) ?_ aN
    rintro _ w_25 ⟨B7,c8,rfl,hd7⟩
    have hS75:=hS74.out0 hd7
    have hS76:ST w0 [] _ (O1::O0::O2::O3::O4::O18::⟨aD b4,4,((List.replicate c1.Gates.length false).flatMap encB),c1.Gates.length*1⟩::O22::⟨B7,3,(r_2.flatMap encI),c8*1⟩::(D1.map (orow 3 encI 1))) (R80::R74::R73::⟨B2,(D.flatMap eN3)⟩::((D.flatMap eN4)++((D2.flatMap eN5)++[]))):=ST.rot (pre:=[O1,O0,O2,O3,O4,O18,⟨aD b4,4,((List.replicate c1.Gates.length false).flatMap encB),c1.Gates.length*1⟩,O22]) (G:=(D1.map (orow 3 encI 1))) (xs:=[⟨B7,3,(r_2.flatMap encI),c8*1⟩]) hS75
    refine ⟨(hS76.sg 9 [0,1,2,3,4]),?_⟩
    let V135:List Value:=[.slice B7 r_2.length c8,.slice (aD b4) c1.Gates.length c1.Gates.length,vi (-1),.slice none 0 0]
    refine rq 8 37 (v:=.agg V135.toArray) rfl (hS76.sg 9 [0,1,2,3,4]) (fun w' hw'=>(Y_buildS (zs:=V120) (vs:=[(0,.slice B7 r_2.length c8),(1,.slice (aD b4) c1.Gates.length c1.Gates.length),(2,vi (-1))]) (cs:=V135) K65 K33 rfl (mpc rfl (mpc rfl (mpc rfl mpn))) rfl)) ?_
    refine rA [9] ?_
    let R97:Ro:=⟨B7,(r_2.flatMap encI)⟩
    have ho21:Org w0 [] (R74::R73::⟨B2,(D.flatMap eN3)⟩::((D.flatMap eN4)++[])) [R97]:=ST.orgOwn hS76 (i:=8) rfl
    have hcap12:r_2.length≤c8:=(hS76.lencap (i:=8) rfl (fm_lenn (l:=r_2) encI_len rfl) rfl rfl)
    have hS77:ST w0 [] _ (O1::O0::O2::O3::O4::O18::⟨aD b4,4,((List.replicate c1.Gates.length false).flatMap encB),c1.Gates.length*1⟩::O22::(D1.map (orow 3 encI 1))) (R97::R80::R74::R73::⟨B2,(D.flatMap eN3)⟩::((D.flatMap eN4)++((D2.flatMap eN5)++[]))):=hS76.freeze (i:=8) rfl
    have ho22:Org w0 [] (R74::R73::⟨B2,(D.flatMap eN3)⟩::((D.flatMap eN4)++[])) [⟨aD b4,((List.replicate c1.Gates.length false).flatMap encB)⟩]:=ST.orgOwn hS77 (i:=6) rfl
    have hcap13:c1.Gates.length≤c1.Gates.length:=(hS77.lencap (i:=6) rfl (fm_lenn (l:=(List.replicate c1.Gates.length false)) encB_len List.length_replicate) rfl rfl)
    have hS78:ST w0 [] _ (O1::O0::O2::O3::O4::O18::O22::(D1.map (orow 3 encI 1))) (⟨aD b4,((List.replicate c1.Gates.length false).flatMap encB)⟩::R97::R80::R74::R73::⟨B2,(D.flatMap eN3)⟩::((D.flatMap eN4)++((D2.flatMap eN5)++[]))):=hS77.freeze (i:=6) rfl
    refine rC 38 9 rfl (yC [.agg V144.toArray,.agg V138.toArray,.agg V135.toArray] K58 (c_spec_l23Run g c1 (Tl23Node.mk r_2 (List.replicate c1.Gates.length false) (-1) []) B c g.Edges.length B1 c2 c1.Gates.length B7 c8 r_2.length (aD b4) c1.Gates.length c1.Gates.length none 0 0 _ rfl rfl rfl hcap12 List.length_replicate rfl (hS78.inn [false,false,false,false,false,true,false] rfl [(true,3),(true,4),(true,1),(true,0)] rfl) hc1)) ?_ aN
    rintro _ w_26 ⟨B8,c9,B9,c10,B10,c11,rfl,hq,ho1,hd8⟩
    have hS79:=ST.outRG (pre:=[O1,O0,O2,O3,O4,O18,O22]) (G:=(D1.map (orow 3 encI 1))) hS78 [false,false,false,false,false,true,false] rfl hd8 ho1 (sk 3 (sk 4 (sk 1 (sk 0 (fun _ h=>by cases h)))))
    have ho23:Org w0 [] (R74::R73::⟨B2,(D.flatMap eN3)⟩::((D.flatMap eN4)++[])) [⟨B8,(r_3.place.flatMap encI)⟩]:=org_trans hS78 (msk_mem (mask:=[false,false,false,false,false,true,false]) rfl) ho1 (org_cons (org_mem (i:=0) rfl) (org_cons (org_mem (i:=1) rfl) (org_cons ho21 (org_cons ho22 org_nil))))
    have hS80:ST w0 [] _ (O1::O0::O2::O3::O4::O22::⟨B9,4,(r_3.done.flatMap encB),c10*1⟩::⟨B10,60,(r_3.steps.flatMap eN0),c11*3⟩::(D1.map (orow 3 encI 1))) (⟨B8,(r_3.place.flatMap encI)⟩::⟨aD b4,((List.replicate c1.Gates.length false).flatMap encB)⟩::R97::R80::R74::R73::⟨B2,(D.flatMap eN3)⟩::((D.flatMap eN4)++((D2.flatMap eN5)++[]))):=hS79
    refine ⟨((hS80.sg 8 [0,1,2,3,4]).sR 7 [3,4,5,6]),?_⟩
    refine rA [11] ?_
    let V127:List Value:=[.slice B8 r_3.place.length c9,.slice B9 r_3.done.length c10,vi r_3.from_,.slice B10 r_3.steps.length c11]
    refine rZ 11 rfl (yT 5 4 (aD b5) 122 (.agg V127.toArray) V127 0 hS80 K28) ?_ aN
    rintro _ w_27 ⟨rfl,hS81⟩
    refine ⟨((hS81.sg 8 [0,1,2,3,4]).sR 7 [3,4,5,6]),?_⟩
    refine ra_done (by kernel_rfl) ?_
    have hS82:ST w0 [] _ (O1::O0::O2::O3::O4::⟨aD b5,122,V127,4⟩::⟨B9,4,(r_3.done.flatMap encB),c10*1⟩::⟨B10,60,(r_3.steps.flatMap eN0),c11*3⟩::(D1.map (orow 3 encI 1))) (⟨B8,(r_3.place.flatMap encI)⟩::R80::R74::R73::⟨B2,(D.flatMap eN3)⟩::((D.flatMap eN4)++((D2.flatMap eN5)++[]))):=hS81.sR 7 [0,3,4,5,6]
    exact ⟨aD b5,B8,c9,B9,c10,B10,c11,(hf.a 3 0 (hf.a 4 1 (hf.a 6 2 (hf.a 8 3 (hf.a 9 4 (fc rfl (hf.a 23 5 (hf.a 24 6 (hf.a 25 7 fn_))))))))),(org_sub ho23 (sk 0 (fun _ h=>by cases h))),(len_le rfl hq),(hS82.sg 8 [0,1,2,3,4,5,6,7])⟩
   let V123:List Value:=[.slice none 0 0,.slice none 0 0,vi 0,.slice none 0 0]
   refine rS 12 10 rfl (yN V123 4 hS22 K33) ?_ aN
   rintro _ w_28 ⟨b5,rfl,hS83⟩
   let O26:Ob:=⟨aD b5,122,V123,4⟩
   let P155:List Ob:=(O1::O0::O2::O3::O4::O18::O26::(D1.map (orow 3 encI 1)))
   have hS84:ST w0 [] _ P155 (R80::R74::R73::⟨B2,(D.flatMap eN3)⟩::((D.flatMap eN4)++((D2.flatMap eN5)++[]))):=ST.rot (pre:=[O1,O0,O2,O3,O4,O18]) (G:=(D1.map (orow 3 encI 1))) (xs:=[O26]) hS83
   refine ⟨(hS84.sg 7 [0,1,2,3,4]),?_⟩
   refine rA [3,7] ?_
   refine rC 32 3 rfl (yC V154 K77 (c_spec_l1Own x B6 c7 x.length _ rfl (hS84.inn0 [(true,0)] rfl) hc)) ?_ ?_
   ·rintro _ w_29 ⟨B7,c8,rfl,hd9⟩
    have hS85:=hS84.out0 hd9
    let O57:Ob:=⟨B7,3,(r_2.flatMap encI),c8*1⟩
    have hS86:ST w0 [] _ (O1::O0::O2::O3::O4::O18::O26::O57::(D1.map (orow 3 encI 1))) (R80::R74::R73::⟨B2,(D.flatMap eN3)⟩::((D.flatMap eN4)++((D2.flatMap eN5)++[]))):=ST.rot (pre:=[O1,O0,O2,O3,O4,O18,O26]) (G:=(D1.map (orow 3 encI 1))) (xs:=[O57]) hS85
    refine ⟨(hS86.sg 8 [0,1,2,3,4]),?_⟩
    refine rA [7] ?_
    refine rS 36 7 rfl (Ys_make (s:=1) (by':=1) (nn:=c1.Gates.length) (a:=(c1.Gates.length:Int)) (b:=(c1.Gates.length:Int)) (cs:=((List.replicate c1.Gates.length false).flatMap encB)) hS86 K36 K37 K74 K68 rfl rfl rfl rfl hmk.1 rfl (by have:=hmk; omega) (by have:=hmk; omega) (by omega) (fm_rep (enc:=encB) (d:=false) rfl _)) ?_ aN
    rintro _ w_30 ⟨b4,rfl,hS87⟩
    have hS88:ST w0 [] _ (O1::O0::O2::O3::O4::O18::O26::O57::⟨aD b4,4,((List.replicate c1.Gates.length false).flatMap encB),c1.Gates.length*1⟩::(D1.map (orow 3 encI 1))) (R80::R74::R73::⟨B2,(D.flatMap eN3)⟩::((D.flatMap eN4)++((D2.flatMap eN5)++[]))):=ST.rot (pre:=[O1,O0,O2,O3,O4,O18,O26,O57]) (G:=(D1.map (orow 3 encI 1))) (xs:=[⟨aD b4,4,((List.replicate c1.Gates.length false).flatMap encB),c1.Gates.length*1⟩]) hS87
    have hS88:ST w0 [] _ (O1::O0::O2::O3::O4::O18::O26::O57::⟨aD b4,4,((List.replicate c1.Gates.length false).flatMap encB),c1.Gates.length*1⟩::(D1.map (orow 3 encI 1))) (R80::R74::R73::⟨B2,(D.flatMap eN3)⟩::((D.flatMap eN4)++((D2.flatMap eN5)++[]))):=hS88
    refine ⟨(hS88.sg 9 [0,1,2,3,4]),?_⟩
    let V142:List Value:=[.slice B7 r_2.length c8,.slice (aD b4) c1.Gates.length c1.Gates.length,vi (-1),.slice none 0 0]
    refine rq 8 37 (v:=.agg V142.toArray) rfl (hS88.sg 9 [0,1,2,3,4]) (fun w' hw'=>(Y_buildS (zs:=V123) (vs:=[(0,.slice B7 r_2.length c8),(1,.slice (aD b4) c1.Gates.length c1.Gates.length),(2,vi (-1))]) (cs:=V142) K65 K33 rfl (mpc rfl (mpc rfl (mpc rfl mpn))) rfl)) ?_
    refine rA [9] ?_
    let R103:Ro:=⟨B7,(r_2.flatMap encI)⟩
    have ho24:Org w0 [] (R74::R73::⟨B2,(D.flatMap eN3)⟩::((D.flatMap eN4)++[])) [R103]:=ST.orgOwn hS88 (i:=7) rfl
    have hcap14:r_2.length≤c8:=(hS88.lencap (i:=7) rfl (fm_lenn (l:=r_2) encI_len rfl) rfl rfl)
    have hS89:ST w0 [] _ (O1::O0::O2::O3::O4::O18::O26::⟨aD b4,4,((List.replicate c1.Gates.length false).flatMap encB),c1.Gates.length*1⟩::(D1.map (orow 3 encI 1))) (R103::R80::R74::R73::⟨B2,(D.flatMap eN3)⟩::((D.flatMap eN4)++((D2.flatMap eN5)++[]))):=hS88.freeze (i:=7) rfl
    have ho25:Org w0 [] (R74::R73::⟨B2,(D.flatMap eN3)⟩::((D.flatMap eN4)++[])) [⟨aD b4,((List.replicate c1.Gates.length false).flatMap encB)⟩]:=ST.orgOwn hS89 (i:=7) rfl
    have hcap15:c1.Gates.length≤c1.Gates.length:=(hS89.lencap (i:=7) rfl (fm_lenn (l:=(List.replicate c1.Gates.length false)) encB_len List.length_replicate) rfl rfl)
    have hS90:ST w0 [] _ P155 (⟨aD b4,((List.replicate c1.Gates.length false).flatMap encB)⟩::R103::R80::R74::R73::⟨B2,(D.flatMap eN3)⟩::((D.flatMap eN4)++((D2.flatMap eN5)++[]))):=hS89.freeze (i:=7) rfl
    refine rC 38 9 rfl (yC [.agg V144.toArray,.agg V138.toArray,.agg V142.toArray] K58 (c_spec_l23Run g c1 (Tl23Node.mk r_2 (List.replicate c1.Gates.length false) (-1) []) B c g.Edges.length B1 c2 c1.Gates.length B7 c8 r_2.length (aD b4) c1.Gates.length c1.Gates.length none 0 0 _ rfl rfl rfl hcap14 List.length_replicate rfl (hS90.inn [false,false,false,false,false,true,false] rfl [(true,3),(true,4),(true,1),(true,0)] rfl) hc1)) ?_ aN
    rintro _ w_31 ⟨B8,c9,B9,c10,B10,c11,rfl,hq,ho1,hd10⟩
    have hS91:=ST.outRG (pre:=[O1,O0,O2,O3,O4,O18,O26]) (G:=(D1.map (orow 3 encI 1))) hS90 [false,false,false,false,false,true,false] rfl hd10 ho1 (sk 3 (sk 4 (sk 1 (sk 0 (fun _ h=>by cases h)))))
    have ho26:Org w0 [] (R74::R73::⟨B2,(D.flatMap eN3)⟩::((D.flatMap eN4)++[])) [⟨B8,(r_3.place.flatMap encI)⟩]:=org_trans hS90 (msk_mem (mask:=[false,false,false,false,false,true,false]) rfl) ho1 (org_cons (org_mem (i:=0) rfl) (org_cons (org_mem (i:=1) rfl) (org_cons ho24 (org_cons ho25 org_nil))))
    have hS92:ST w0 [] _ (O1::O0::O2::O3::O4::O26::⟨B9,4,(r_3.done.flatMap encB),c10*1⟩::⟨B10,60,(r_3.steps.flatMap eN0),c11*3⟩::(D1.map (orow 3 encI 1))) (⟨B8,(r_3.place.flatMap encI)⟩::⟨aD b4,((List.replicate c1.Gates.length false).flatMap encB)⟩::R103::R80::R74::R73::⟨B2,(D.flatMap eN3)⟩::((D.flatMap eN4)++((D2.flatMap eN5)++[]))):=hS91
    refine ⟨((hS92.sg 8 [0,1,2,3,4]).sR 7 [3,4,5,6]),?_⟩
    refine rA [11] ?_
    let V132:List Value:=[.slice B8 r_3.place.length c9,.slice B9 r_3.done.length c10,vi r_3.from_,.slice B10 r_3.steps.length c11]
    refine rZ 11 rfl (yT 5 4 (aD b5) 122 (.agg V132.toArray) V132 0 hS92 K28) ?_ aN
    rintro _ w_32 ⟨rfl,hS93⟩
    refine ⟨((hS93.sg 8 [0,1,2,3,4]).sR 7 [3,4,5,6]),?_⟩
    refine ra_done (by kernel_rfl) ?_
    have hS94:ST w0 [] _ (O1::O0::O2::O3::O4::⟨aD b5,122,V132,4⟩::⟨B9,4,(r_3.done.flatMap encB),c10*1⟩::⟨B10,60,(r_3.steps.flatMap eN0),c11*3⟩::(D1.map (orow 3 encI 1))) (⟨B8,(r_3.place.flatMap encI)⟩::R80::R74::R73::⟨B2,(D.flatMap eN3)⟩::((D.flatMap eN4)++((D2.flatMap eN5)++[]))):=hS93.sR 7 [0,3,4,5,6]
    exact ⟨aD b5,B8,c9,B9,c10,B10,c11,(hf.a 3 0 (hf.a 4 1 (hf.a 6 2 (hf.a 8 3 (hf.a 9 4 (fc rfl (hf.a 23 5 (hf.a 24 6 (hf.a 25 7 fn_))))))))),(org_sub ho26 (sk 0 (fun _ h=>by cases h))),(len_le rfl hq),(hS94.sg 8 [0,1,2,3,4,5,6,7])⟩
   refine rS 36 7 rfl (Ys_make (s:=1) (by':=1) (nn:=c1.Gates.length) (a:=(c1.Gates.length:Int)) (b:=(c1.Gates.length:Int)) (cs:=((List.replicate c1.Gates.length false).flatMap encB)) hS84 K36 K37 K74 K68 rfl rfl rfl rfl hmk.1 rfl (by have:=hmk; omega) (by have:=hmk; omega) (by omega) (fm_rep (enc:=encB) (d:=false) rfl _)) ?_ aN
   rintro _ w_33 ⟨b4,rfl,hS95⟩
   have hS96:ST w0 [] _ (O1::O0::O2::O3::O4::O18::O26::⟨aD b4,4,((List.replicate c1.Gates.length false).flatMap encB),c1.Gates.length*1⟩::(D1.map (orow 3 encI 1))) (R80::R74::R73::⟨B2,(D.flatMap eN3)⟩::((D.flatMap eN4)++((D2.flatMap eN5)++[]))):=ST.rot (pre:=[O1,O0,O2,O3,O4,O18,O26]) (G:=(D1.map (orow 3 encI 1))) (xs:=[⟨aD b4,4,((List.replicate c1.Gates.length false).flatMap encB),c1.Gates.length*1⟩]) hS95
   refine ⟨(hS96.sg 8 [0,1,2,3,4]),?_⟩
   refine rA [3] ?_
   refine rC 32 3 rfl (yC V154 K77 (c_spec_l1Own x B6 c7 x.length _ rfl (hS96.inn0 [(true,0)] rfl) hc)) ?_ aN
   rintro _ w_34 ⟨B7,c8,rfl,hd11⟩
   have hS97:=hS96.out0 hd11
   have hS98:ST w0 [] _ (O1::O0::O2::O3::O4::O18::O26::⟨aD b4,4,((List.replicate c1.Gates.length false).flatMap encB),c1.Gates.length*1⟩::⟨B7,3,(r_2.flatMap encI),c8*1⟩::(D1.map (orow 3 encI 1))) (R80::R74::R73::⟨B2,(D.flatMap eN3)⟩::((D.flatMap eN4)++((D2.flatMap eN5)++[]))):=ST.rot (pre:=[O1,O0,O2,O3,O4,O18,O26,⟨aD b4,4,((List.replicate c1.Gates.length false).flatMap encB),c1.Gates.length*1⟩]) (G:=(D1.map (orow 3 encI 1))) (xs:=[⟨B7,3,(r_2.flatMap encI),c8*1⟩]) hS97
   refine ⟨(hS98.sg 9 [0,1,2,3,4]),?_⟩
   let V147:List Value:=[.slice B7 r_2.length c8,.slice (aD b4) c1.Gates.length c1.Gates.length,vi (-1),.slice none 0 0]
   refine rq 8 37 (v:=.agg V147.toArray) rfl (hS98.sg 9 [0,1,2,3,4]) (fun w' hw'=>(Y_buildS (zs:=V123) (vs:=[(0,.slice B7 r_2.length c8),(1,.slice (aD b4) c1.Gates.length c1.Gates.length),(2,vi (-1))]) (cs:=V147) K65 K33 rfl (mpc rfl (mpc rfl (mpc rfl mpn))) rfl)) ?_
   refine rA [9] ?_
   let R106:Ro:=⟨B7,(r_2.flatMap encI)⟩
   have ho27:Org w0 [] (R74::R73::⟨B2,(D.flatMap eN3)⟩::((D.flatMap eN4)++[])) [R106]:=ST.orgOwn hS98 (i:=8) rfl
   have hcap16:r_2.length≤c8:=(hS98.lencap (i:=8) rfl (fm_lenn (l:=r_2) encI_len rfl) rfl rfl)
   have hS99:ST w0 [] _ (O1::O0::O2::O3::O4::O18::O26::⟨aD b4,4,((List.replicate c1.Gates.length false).flatMap encB),c1.Gates.length*1⟩::(D1.map (orow 3 encI 1))) (R106::R80::R74::R73::⟨B2,(D.flatMap eN3)⟩::((D.flatMap eN4)++((D2.flatMap eN5)++[]))):=hS98.freeze (i:=8) rfl
   have ho28:Org w0 [] (R74::R73::⟨B2,(D.flatMap eN3)⟩::((D.flatMap eN4)++[])) [⟨aD b4,((List.replicate c1.Gates.length false).flatMap encB)⟩]:=ST.orgOwn hS99 (i:=7) rfl
   have hcap17:c1.Gates.length≤c1.Gates.length:=(hS99.lencap (i:=7) rfl (fm_lenn (l:=(List.replicate c1.Gates.length false)) encB_len List.length_replicate) rfl rfl)
   have hS100:ST w0 [] _ P155 (⟨aD b4,((List.replicate c1.Gates.length false).flatMap encB)⟩::R106::R80::R74::R73::⟨B2,(D.flatMap eN3)⟩::((D.flatMap eN4)++((D2.flatMap eN5)++[]))):=hS99.freeze (i:=7) rfl
   refine rC 38 9 rfl (yC [.agg V144.toArray,.agg V138.toArray,.agg V147.toArray] K58 (c_spec_l23Run g c1 (Tl23Node.mk r_2 (List.replicate c1.Gates.length false) (-1) []) B c g.Edges.length B1 c2 c1.Gates.length B7 c8 r_2.length (aD b4) c1.Gates.length c1.Gates.length none 0 0 _ rfl rfl rfl hcap16 List.length_replicate rfl (hS100.inn [false,false,false,false,false,true,false] rfl [(true,3),(true,4),(true,1),(true,0)] rfl) hc1)) ?_ aN
   rintro _ w_35 ⟨B8,c9,B9,c10,B10,c11,rfl,hq,ho1,hd12⟩
   have hS101:=ST.outRG (pre:=[O1,O0,O2,O3,O4,O18,O26]) (G:=(D1.map (orow 3 encI 1))) hS100 [false,false,false,false,false,true,false] rfl hd12 ho1 (sk 3 (sk 4 (sk 1 (sk 0 (fun _ h=>by cases h)))))
   have ho29:Org w0 [] (R74::R73::⟨B2,(D.flatMap eN3)⟩::((D.flatMap eN4)++[])) [⟨B8,(r_3.place.flatMap encI)⟩]:=org_trans hS100 (msk_mem (mask:=[false,false,false,false,false,true,false]) rfl) ho1 (org_cons (org_mem (i:=0) rfl) (org_cons (org_mem (i:=1) rfl) (org_cons ho27 (org_cons ho28 org_nil))))
   have hS102:ST w0 [] _ (O1::O0::O2::O3::O4::O26::⟨B9,4,(r_3.done.flatMap encB),c10*1⟩::⟨B10,60,(r_3.steps.flatMap eN0),c11*3⟩::(D1.map (orow 3 encI 1))) (⟨B8,(r_3.place.flatMap encI)⟩::⟨aD b4,((List.replicate c1.Gates.length false).flatMap encB)⟩::R106::R80::R74::R73::⟨B2,(D.flatMap eN3)⟩::((D.flatMap eN4)++((D2.flatMap eN5)++[]))):=hS101
   refine ⟨((hS102.sg 8 [0,1,2,3,4]).sR 7 [3,4,5,6]),?_⟩
   refine rA [11] ?_
   let V139:List Value:=[.slice B8 r_3.place.length c9,.slice B9 r_3.done.length c10,vi r_3.from_,.slice B10 r_3.steps.length c11]
   refine rZ 11 rfl (yT 5 4 (aD b5) 122 (.agg V139.toArray) V139 0 hS102 K28) ?_ aN
   rintro _ w_36 ⟨rfl,hS103⟩
   refine ⟨((hS103.sg 8 [0,1,2,3,4]).sR 7 [3,4,5,6]),?_⟩
   refine ra_done (by kernel_rfl) ?_
   have hS104:ST w0 [] _ (O1::O0::O2::O3::O4::⟨aD b5,122,V139,4⟩::⟨B9,4,(r_3.done.flatMap encB),c10*1⟩::⟨B10,60,(r_3.steps.flatMap eN0),c11*3⟩::(D1.map (orow 3 encI 1))) (⟨B8,(r_3.place.flatMap encI)⟩::R80::R74::R73::⟨B2,(D.flatMap eN3)⟩::((D.flatMap eN4)++((D2.flatMap eN5)++[]))):=hS103.sR 7 [0,3,4,5,6]
   exact ⟨aD b5,B8,c9,B9,c10,B10,c11,(hf.a 3 0 (hf.a 4 1 (hf.a 6 2 (hf.a 8 3 (hf.a 9 4 (fc rfl (hf.a 23 5 (hf.a 24 6 (hf.a 25 7 fn_))))))))),(org_sub ho29 (sk 0 (fun _ h=>by cases h))),(len_le rfl hq),(hS104.sg 8 [0,1,2,3,4,5,6,7])⟩
  rintro f w ⟨B11,B12,c12,B13,c13,B14,c14,hf1,ho5,hq1,hS21⟩
  refine cq ?_
  obtain ⟨r_4,hc2,hb⟩:=bI hb
  obtain ⟨x1,hx1,hb⟩:=bI hb
  obtain ⟨⟨B15,c15⟩,hp1⟩:=getI_snd hD1 hx1
  obtain ⟨r_6,hc4,hb⟩:=bI hb
  obtain ⟨hap,hb⟩:=chk_inv hb
  let V137:List Value:=[.slice B12 r_3.place.length c12,.slice B13 r_3.done.length c13,vi r_3.from_,.slice B14 r_3.steps.length c14]
  let O7:Ob:=⟨B11,122,V137,4⟩
  let O29:Ob:=⟨B14,60,(r_3.steps.flatMap eN0),c14*3⟩
  let O32:Ob:=⟨B13,4,(r_3.done.flatMap encB),c13*1⟩
  let R92:Ro:=⟨B12,(r_3.place.flatMap encI)⟩
  refine cw_mid (fun f w=>∃ (D3:List (Hd×(List Int))),FF f [(3,pt (aD b) 0),(4,pt (aD b1) 0),(6,pt (aD b2) 0),(8,.slice (aD b3) 3125 3125),(9,.slice B5 list.length c6),(12,pt B11 0),(23,.slice B2 starts.length c3),(24,vi (starts.length:Int)),(25,vi (i:Int))]∧D3.map Prod.snd=(met.set r_4.toNat (x1++[r_6]))∧D3.length=3125∧ST w0 [] w (O1::O0::O2::⟨aD b3,29,(D3.flatMap eN3),3125*1⟩::O4::O7::O32::O29::(D3.map (orow 3 encI 1))) (R92::R80::R74::R73::⟨B2,(D.flatMap eN3)⟩::((D.flatMap eN4)++((D2.flatMap eN5)++[])))) ?_ ?_
  ·skip
   refine ra_start (hS21.se [0,1,2,4,5,6,7]).fn (by kernel_rfl) ?_
   have hS109:=hS21.drew
   refine rq 0 39 rfl (hS109.se [0,1,2,4,5,6,7]) (fun w' hw'=>(ym (.slice (aD b3) 3125 3125) rfl (hf1.g 8 3))) ?_
   refine rq 1 40 (v:=pt B11 0) rfl (hS109.se [0,1,2,4,5,6,7]) (fun w' hw'=>(yd B11 0 0 K102 K11 rfl (hf1.g 12 5))) ?_
   refine rq 2 41 rfl (hS109.se [0,1,2,4,5,6,7]) (fun w' hw'=>(yl B11 0 V137 (.slice B12 r_3.place.length c12) K25 (ST.cf hw' (i:=4) rfl))) ?_
   refine rq 4 43 rfl (hS109.se [0,1,2,4,5,6,7]) (fun w' hw'=>(ym (.slice (aD b3) 3125 3125) rfl (hf1.g 8 3))) ?_
   refine rq 5 44 (v:=pt B11 0) rfl (hS109.se [0,1,2,4,5,6,7]) (fun w' hw'=>(yd B11 0 0 K102 K11 rfl (hf1.g 12 5))) ?_
   refine rq 6 45 rfl (hS109.se [0,1,2,4,5,6,7]) (fun w' hw'=>(yl B11 0 V137 (.slice B12 r_3.place.length c12) K25 (ST.cf hw' (i:=4) rfl))) ?_
   refine rq 10 49 (v:=pt B11 1) rfl (hS109.se [0,1,2,4,5,6,7]) (fun w' hw'=>(yd B11 0 0 K89 K40 rfl (hf1.g 12 5))) ?_
   refine rq 11 50 rfl (hS109.se [0,1,2,4,5,6,7]) (fun w' hw'=>(yl B11 1 V137 (.slice B13 r_3.done.length c13) K56 (ST.cf hw' (i:=4) rfl))) ?_
   refine rA [3] ?_
   refine rC 42 3 rfl (yC [.slice B12 r_3.place.length c12] K147 (c_spec_l23Code r_3.place B12 c12 r_3.place.length _ rfl (hS109.inn0 [(true,0)] rfl) hc2)) ?_ aN
   rintro _ w_37 ⟨rfl,hd13⟩
   have hS110:=hS109.out00 hd13
   refine ⟨(hS110.se [0,1,2,4,5,6,7]),?_⟩
   refine rA [7] ?_
   refine rC 46 7 rfl (yC [.slice B12 r_3.place.length c12] K147 (c_spec_l23Code r_3.place B12 c12 r_3.place.length _ rfl (hS110.inn0 [(true,0)] rfl) hc2)) ?_ aN
   rintro _ w_38 ⟨rfl,hd14⟩
   have hS111:=hS110.out00 hd14
   refine ⟨(hS111.se [0,1,2,4,5,6,7]),?_⟩
   refine rA [8,12] ?_
   refine ra_y 47 (i:=8) (v:=pt (aD b3) (r_4.toNat*1)) rfl rfl rfl (Y_index (B:=aD b3) (m:=3125) (c:=3125) (k:=.i64) (i:=r_4) K57 K11 rfl rfl rfl (gi_isSome encD_SInt_len rfl (hS111.c 3) hp1) (getI_nn hp1) (getI_ltI hp1 hl)) (hS111.se [0,1,2,4,5,6,7]) ?_ ?_
   ·skip
    refine rA [9,12] ?_
    refine ra_y 48 (i:=9) (v:=.slice B15 x1.length c15) rfl rfl rfl (yl (aD b3) (r_4.toNat*1) (D1.flatMap eN3) (.slice B15 x1.length c15) K25 (hS111.c 3) rfl rfl (gi_at0 encD_SInt_len hp1 rfl)) (hS111.se [0,1,2,4,5,6,7]) ?_ ?_
    ·skip
     refine rA [12] ?_
     refine rC 51 12 rfl (yC [.slice B13 r_3.done.length c13] K116 (c_spec_l23Mask r_3.done B13 c13 r_3.done.length _ rfl (hS111.inn0 [(false,6)] rfl) hc4)) ?_ aN
     rintro _ w_39 ⟨rfl,hd15⟩
     have hS112:=hS111.out00 hd15
     refine ⟨(hS112.se [0,1,2,4,5,6,7]),?_⟩
     refine rA [13] ?_
     refine rS 52 13 rfl (Ys_bslice (s:=1) (len:=1) (vs:=[(0,vi r_6)]) (cs:=[vi r_6]) (zs:=[vi 0]) (m:=1) hS112 K2 K0 K30 rfl (mpc rfl mpn) rfl rfl rfl (by kernel_rfl) (by kernel_rfl) rfl) ?_ aN
     rintro _ w_40 ⟨b6,rfl,hS113⟩
     let O38:Ob:=⟨aD b6,3,([r_6].flatMap encI),1*1⟩
     have hS114:ST w0 [] _ (O1::O0::O2::O3::O4::O7::O32::O29::O38::(D1.map (orow 3 encI 1))) (R92::R80::R74::R73::⟨B2,(D.flatMap eN3)⟩::((D.flatMap eN4)++((D2.flatMap eN5)++[]))):=ST.rot (pre:=[O1,O0,O2,O3,O4,O7,O32,O29]) (G:=(D1.map (orow 3 encI 1))) (xs:=[O38]) hS113
     refine ⟨(hS114.se [0,1,2,4,5,6,7]),?_⟩
     refine rA [14] ?_
     refine rS 53 14 rfl (Ys_appendRow (pre:=[O1,O0,O2,O3,O4,O7,O32,O29,O38]) (D:=D1) (enc:=encI) (s:=1) (by':=8) (i:=r_4) (c:=c15) (k:=1) (B:=B15) (l:=x1) (xs:=[r_6]) hS114 K2 K0 K53 K54 rfl (by decide) rfl rfl rfl hp1 encI_len encI_one (hS114.c 8) rfl (by have:=hap; omega) (by have:=hap; simp only [maxLen]; omega)) ?_ aN
     rintro _ w_41 ⟨B16,c16,rfl,hS115⟩
     refine ⟨(hS115.se [0,1,2,4,5,6,7]),?_⟩
     refine rA [15] ?_
     refine ra_y 54 (i:=15) (v:=pt (aD b3) (r_4.toNat*1)) rfl rfl rfl (Y_index (B:=aD b3) (m:=3125) (c:=3125) (k:=.i64) (i:=r_4) K57 K11 rfl rfl rfl (gi_isSome encD_SInt_len rfl (hS115.c 3) hp1) (getI_nn hp1) (getI_ltI hp1 hl)) (hS115.se [0,1,2,4,5,6,7]) ?_ aN
     refine rA [16] ?_
     refine rZ 16 rfl (yS 3 1 (aD b3) 29 (.slice B16 ((x1++[r_6]).length) c16) [.slice B16 ((x1++[r_6]).length) c16] (r_4.toNat*1) ((D1.set r_4.toNat ((B16,c16),(x1++[r_6]))).flatMap eN3) hS115 K11 rfl rfl rfl rfl rfl rfl rfl (gi_fit0 encD_SInt_len hp1) (gi_set encD_SInt_len hp1 ((B16,c16),(x1++[r_6])) rfl)) ?_ aN
     rintro _ w_42 ⟨rfl,hS116⟩
     have hD5:List.map Prod.snd (D1.set r_4.toNat ((B16,c16),(x1++[r_6])))=(met.set r_4.toNat (x1++[r_6])):=set_snd hD1 _ _
     refine ⟨(hS116.se [0,1,2,4,5,6,7]),?_⟩
     refine ra_done (by kernel_rfl) ?_
     exact ⟨(D1.set r_4.toNat ((B16,c16),(x1++[r_6]))),(hf1.a 3 0 (hf1.a 4 1 (hf1.a 6 2 (hf1.a 8 3 (hf1.a 9 4 (hf1.a 12 5 (hf1.a 23 6 (hf1.a 24 7 (hf1.a 25 8 fn_))))))))),hD5,(set_len _ _ _ hl),(hS116.sg 9 [0,1,2,3,4,5,6,7])⟩
    refine rC 51 12 rfl (yC [.slice B13 r_3.done.length c13] K116 (c_spec_l23Mask r_3.done B13 c13 r_3.done.length _ rfl (hS111.inn0 [(false,6)] rfl) hc4)) ?_ aN
    rintro _ w_43 ⟨rfl,hd16⟩
    have hS117:=hS111.out00 hd16
    refine ⟨(hS117.se [0,1,2,4,5,6,7]),?_⟩
    refine rA [9,13] ?_
    refine ra_y 48 (i:=9) (v:=.slice B15 x1.length c15) rfl rfl rfl (yl (aD b3) (r_4.toNat*1) (D1.flatMap eN3) (.slice B15 x1.length c15) K25 (hS117.c 3) rfl rfl (gi_at0 encD_SInt_len hp1 rfl)) (hS117.se [0,1,2,4,5,6,7]) ?_ ?_
    ·skip
     refine rA [13] ?_
     refine rS 52 13 rfl (Ys_bslice (s:=1) (len:=1) (vs:=[(0,vi r_6)]) (cs:=[vi r_6]) (zs:=[vi 0]) (m:=1) hS117 K2 K0 K30 rfl (mpc rfl mpn) rfl rfl rfl (by kernel_rfl) (by kernel_rfl) rfl) ?_ aN
     rintro _ w_44 ⟨b6,rfl,hS118⟩
     let O45:Ob:=⟨aD b6,3,([r_6].flatMap encI),1*1⟩
     have hS119:ST w0 [] _ (O1::O0::O2::O3::O4::O7::O32::O29::O45::(D1.map (orow 3 encI 1))) (R92::R80::R74::R73::⟨B2,(D.flatMap eN3)⟩::((D.flatMap eN4)++((D2.flatMap eN5)++[]))):=ST.rot (pre:=[O1,O0,O2,O3,O4,O7,O32,O29]) (G:=(D1.map (orow 3 encI 1))) (xs:=[O45]) hS118
     refine ⟨(hS119.se [0,1,2,4,5,6,7]),?_⟩
     refine rA [14] ?_
     refine rS 53 14 rfl (Ys_appendRow (pre:=[O1,O0,O2,O3,O4,O7,O32,O29,O45]) (D:=D1) (enc:=encI) (s:=1) (by':=8) (i:=r_4) (c:=c15) (k:=1) (B:=B15) (l:=x1) (xs:=[r_6]) hS119 K2 K0 K53 K54 rfl (by decide) rfl rfl rfl hp1 encI_len encI_one (hS119.c 8) rfl (by have:=hap; omega) (by have:=hap; simp only [maxLen]; omega)) ?_ aN
     rintro _ w_45 ⟨B16,c16,rfl,hS120⟩
     refine ⟨(hS120.se [0,1,2,4,5,6,7]),?_⟩
     refine rA [15] ?_
     refine ra_y 54 (i:=15) (v:=pt (aD b3) (r_4.toNat*1)) rfl rfl rfl (Y_index (B:=aD b3) (m:=3125) (c:=3125) (k:=.i64) (i:=r_4) K57 K11 rfl rfl rfl (gi_isSome encD_SInt_len rfl (hS120.c 3) hp1) (getI_nn hp1) (getI_ltI hp1 hl)) (hS120.se [0,1,2,4,5,6,7]) ?_ aN
     refine rA [16] ?_
     refine rZ 16 rfl (yS 3 1 (aD b3) 29 (.slice B16 ((x1++[r_6]).length) c16) [.slice B16 ((x1++[r_6]).length) c16] (r_4.toNat*1) ((D1.set r_4.toNat ((B16,c16),(x1++[r_6]))).flatMap eN3) hS120 K11 rfl rfl rfl rfl rfl rfl rfl (gi_fit0 encD_SInt_len hp1) (gi_set encD_SInt_len hp1 ((B16,c16),(x1++[r_6])) rfl)) ?_ aN
     rintro _ w_46 ⟨rfl,hS121⟩
     have hD6:List.map Prod.snd (D1.set r_4.toNat ((B16,c16),(x1++[r_6])))=(met.set r_4.toNat (x1++[r_6])):=set_snd hD1 _ _
     refine ⟨(hS121.se [0,1,2,4,5,6,7]),?_⟩
     refine ra_done (by kernel_rfl) ?_
     exact ⟨(D1.set r_4.toNat ((B16,c16),(x1++[r_6]))),(hf1.a 3 0 (hf1.a 4 1 (hf1.a 6 2 (hf1.a 8 3 (hf1.a 9 4 (hf1.a 12 5 (hf1.a 23 6 (hf1.a 24 7 (hf1.a 25 8 fn_))))))))),hD6,(set_len _ _ _ hl),(hS121.sg 9 [0,1,2,3,4,5,6,7])⟩
    refine rS 52 13 rfl (Ys_bslice (s:=1) (len:=1) (vs:=[(0,vi r_6)]) (cs:=[vi r_6]) (zs:=[vi 0]) (m:=1) hS117 K2 K0 K30 rfl (mpc rfl mpn) rfl rfl rfl (by kernel_rfl) (by kernel_rfl) rfl) ?_ aN
    rintro _ w_47 ⟨b6,rfl,hS122⟩
    let O48:Ob:=⟨aD b6,3,([r_6].flatMap encI),1*1⟩
    have hS123:ST w0 [] _ (O1::O0::O2::O3::O4::O7::O32::O29::O48::(D1.map (orow 3 encI 1))) (R92::R80::R74::R73::⟨B2,(D.flatMap eN3)⟩::((D.flatMap eN4)++((D2.flatMap eN5)++[]))):=ST.rot (pre:=[O1,O0,O2,O3,O4,O7,O32,O29]) (G:=(D1.map (orow 3 encI 1))) (xs:=[O48]) hS122
    refine ⟨(hS123.se [0,1,2,4,5,6,7]),?_⟩
    refine rA [9] ?_
    refine ra_y 48 (i:=9) (v:=.slice B15 x1.length c15) rfl rfl rfl (yl (aD b3) (r_4.toNat*1) (D1.flatMap eN3) (.slice B15 x1.length c15) K25 (hS123.c 3) rfl rfl (gi_at0 encD_SInt_len hp1 rfl)) (hS123.se [0,1,2,4,5,6,7]) ?_ aN
    refine rA [14] ?_
    refine rS 53 14 rfl (Ys_appendRow (pre:=[O1,O0,O2,O3,O4,O7,O32,O29,O48]) (D:=D1) (enc:=encI) (s:=1) (by':=8) (i:=r_4) (c:=c15) (k:=1) (B:=B15) (l:=x1) (xs:=[r_6]) hS123 K2 K0 K53 K54 rfl (by decide) rfl rfl rfl hp1 encI_len encI_one (hS123.c 8) rfl (by have:=hap; omega) (by have:=hap; simp only [maxLen]; omega)) ?_ aN
    rintro _ w_48 ⟨B16,c16,rfl,hS124⟩
    refine ⟨(hS124.se [0,1,2,4,5,6,7]),?_⟩
    refine rA [15] ?_
    refine ra_y 54 (i:=15) (v:=pt (aD b3) (r_4.toNat*1)) rfl rfl rfl (Y_index (B:=aD b3) (m:=3125) (c:=3125) (k:=.i64) (i:=r_4) K57 K11 rfl rfl rfl (gi_isSome encD_SInt_len rfl (hS124.c 3) hp1) (getI_nn hp1) (getI_ltI hp1 hl)) (hS124.se [0,1,2,4,5,6,7]) ?_ aN
    refine rA [16] ?_
    refine rZ 16 rfl (yS 3 1 (aD b3) 29 (.slice B16 ((x1++[r_6]).length) c16) [.slice B16 ((x1++[r_6]).length) c16] (r_4.toNat*1) ((D1.set r_4.toNat ((B16,c16),(x1++[r_6]))).flatMap eN3) hS124 K11 rfl rfl rfl rfl rfl rfl rfl (gi_fit0 encD_SInt_len hp1) (gi_set encD_SInt_len hp1 ((B16,c16),(x1++[r_6])) rfl)) ?_ aN
    rintro _ w_49 ⟨rfl,hS125⟩
    have hD7:List.map Prod.snd (D1.set r_4.toNat ((B16,c16),(x1++[r_6])))=(met.set r_4.toNat (x1++[r_6])):=set_snd hD1 _ _
    refine ⟨(hS125.se [0,1,2,4,5,6,7]),?_⟩
    refine ra_done (by kernel_rfl) ?_
    exact ⟨(D1.set r_4.toNat ((B16,c16),(x1++[r_6]))),(hf1.a 3 0 (hf1.a 4 1 (hf1.a 6 2 (hf1.a 8 3 (hf1.a 9 4 (hf1.a 12 5 (hf1.a 23 6 (hf1.a 24 7 (hf1.a 25 8 fn_))))))))),hD7,(set_len _ _ _ hl),(hS125.sg 9 [0,1,2,3,4,5,6,7])⟩
   refine rC 51 12 rfl (yC [.slice B13 r_3.done.length c13] K116 (c_spec_l23Mask r_3.done B13 c13 r_3.done.length _ rfl (hS111.inn0 [(false,6)] rfl) hc4)) ?_ aN
   rintro _ w_50 ⟨rfl,hd17⟩
   have hS126:=hS111.out00 hd17
   refine ⟨(hS126.se [0,1,2,4,5,6,7]),?_⟩
   refine rA [8,13] ?_
   refine ra_y 47 (i:=8) (v:=pt (aD b3) (r_4.toNat*1)) rfl rfl rfl (Y_index (B:=aD b3) (m:=3125) (c:=3125) (k:=.i64) (i:=r_4) K57 K11 rfl rfl rfl (gi_isSome encD_SInt_len rfl (hS126.c 3) hp1) (getI_nn hp1) (getI_ltI hp1 hl)) (hS126.se [0,1,2,4,5,6,7]) ?_ ?_
   ·skip
    refine rA [9,13] ?_
    refine ra_y 48 (i:=9) (v:=.slice B15 x1.length c15) rfl rfl rfl (yl (aD b3) (r_4.toNat*1) (D1.flatMap eN3) (.slice B15 x1.length c15) K25 (hS126.c 3) rfl rfl (gi_at0 encD_SInt_len hp1 rfl)) (hS126.se [0,1,2,4,5,6,7]) ?_ ?_
    ·skip
     refine rA [13] ?_
     refine rS 52 13 rfl (Ys_bslice (s:=1) (len:=1) (vs:=[(0,vi r_6)]) (cs:=[vi r_6]) (zs:=[vi 0]) (m:=1) hS126 K2 K0 K30 rfl (mpc rfl mpn) rfl rfl rfl (by kernel_rfl) (by kernel_rfl) rfl) ?_ aN
     rintro _ w_51 ⟨b6,rfl,hS127⟩
     let O55:Ob:=⟨aD b6,3,([r_6].flatMap encI),1*1⟩
     have hS128:ST w0 [] _ (O1::O0::O2::O3::O4::O7::O32::O29::O55::(D1.map (orow 3 encI 1))) (R92::R80::R74::R73::⟨B2,(D.flatMap eN3)⟩::((D.flatMap eN4)++((D2.flatMap eN5)++[]))):=ST.rot (pre:=[O1,O0,O2,O3,O4,O7,O32,O29]) (G:=(D1.map (orow 3 encI 1))) (xs:=[O55]) hS127
     refine ⟨(hS128.se [0,1,2,4,5,6,7]),?_⟩
     refine rA [14] ?_
     refine rS 53 14 rfl (Ys_appendRow (pre:=[O1,O0,O2,O3,O4,O7,O32,O29,O55]) (D:=D1) (enc:=encI) (s:=1) (by':=8) (i:=r_4) (c:=c15) (k:=1) (B:=B15) (l:=x1) (xs:=[r_6]) hS128 K2 K0 K53 K54 rfl (by decide) rfl rfl rfl hp1 encI_len encI_one (hS128.c 8) rfl (by have:=hap; omega) (by have:=hap; simp only [maxLen]; omega)) ?_ aN
     rintro _ w_52 ⟨B16,c16,rfl,hS129⟩
     refine ⟨(hS129.se [0,1,2,4,5,6,7]),?_⟩
     refine rA [15] ?_
     refine ra_y 54 (i:=15) (v:=pt (aD b3) (r_4.toNat*1)) rfl rfl rfl (Y_index (B:=aD b3) (m:=3125) (c:=3125) (k:=.i64) (i:=r_4) K57 K11 rfl rfl rfl (gi_isSome encD_SInt_len rfl (hS129.c 3) hp1) (getI_nn hp1) (getI_ltI hp1 hl)) (hS129.se [0,1,2,4,5,6,7]) ?_ aN
     refine rA [16] ?_
     refine rZ 16 rfl (yS 3 1 (aD b3) 29 (.slice B16 ((x1++[r_6]).length) c16) [.slice B16 ((x1++[r_6]).length) c16] (r_4.toNat*1) ((D1.set r_4.toNat ((B16,c16),(x1++[r_6]))).flatMap eN3) hS129 K11 rfl rfl rfl rfl rfl rfl rfl (gi_fit0 encD_SInt_len hp1) (gi_set encD_SInt_len hp1 ((B16,c16),(x1++[r_6])) rfl)) ?_ aN
     rintro _ w_53 ⟨rfl,hS130⟩
     have hD8:List.map Prod.snd (D1.set r_4.toNat ((B16,c16),(x1++[r_6])))=(met.set r_4.toNat (x1++[r_6])):=set_snd hD1 _ _
     refine ⟨(hS130.se [0,1,2,4,5,6,7]),?_⟩
     refine ra_done (by kernel_rfl) ?_
     exact ⟨(D1.set r_4.toNat ((B16,c16),(x1++[r_6]))),(hf1.a 3 0 (hf1.a 4 1 (hf1.a 6 2 (hf1.a 8 3 (hf1.a 9 4 (hf1.a 12 5 (hf1.a 23 6 (hf1.a 24 7 (hf1.a 25 8 fn_))))))))),hD8,(set_len _ _ _ hl),(hS130.sg 9 [0,1,2,3,4,5,6,7])⟩
    refine rS 52 13 rfl (Ys_bslice (s:=1) (len:=1) (vs:=[(0,vi r_6)]) (cs:=[vi r_6]) (zs:=[vi 0]) (m:=1) hS126 K2 K0 K30 rfl (mpc rfl mpn) rfl rfl rfl (by kernel_rfl) (by kernel_rfl) rfl) ?_ aN
    rintro _ w_54 ⟨b6,rfl,hS131⟩
    let O65:Ob:=⟨aD b6,3,([r_6].flatMap encI),1*1⟩
    have hS132:ST w0 [] _ (O1::O0::O2::O3::O4::O7::O32::O29::O65::(D1.map (orow 3 encI 1))) (R92::R80::R74::R73::⟨B2,(D.flatMap eN3)⟩::((D.flatMap eN4)++((D2.flatMap eN5)++[]))):=ST.rot (pre:=[O1,O0,O2,O3,O4,O7,O32,O29]) (G:=(D1.map (orow 3 encI 1))) (xs:=[O65]) hS131
    refine ⟨(hS132.se [0,1,2,4,5,6,7]),?_⟩
    refine rA [9] ?_
    refine ra_y 48 (i:=9) (v:=.slice B15 x1.length c15) rfl rfl rfl (yl (aD b3) (r_4.toNat*1) (D1.flatMap eN3) (.slice B15 x1.length c15) K25 (hS132.c 3) rfl rfl (gi_at0 encD_SInt_len hp1 rfl)) (hS132.se [0,1,2,4,5,6,7]) ?_ aN
    refine rA [14] ?_
    refine rS 53 14 rfl (Ys_appendRow (pre:=[O1,O0,O2,O3,O4,O7,O32,O29,O65]) (D:=D1) (enc:=encI) (s:=1) (by':=8) (i:=r_4) (c:=c15) (k:=1) (B:=B15) (l:=x1) (xs:=[r_6]) hS132 K2 K0 K53 K54 rfl (by decide) rfl rfl rfl hp1 encI_len encI_one (hS132.c 8) rfl (by have:=hap; omega) (by have:=hap; simp only [maxLen]; omega)) ?_ aN
    rintro _ w_55 ⟨B16,c16,rfl,hS133⟩
    refine ⟨(hS133.se [0,1,2,4,5,6,7]),?_⟩
    refine rA [15] ?_
    refine ra_y 54 (i:=15) (v:=pt (aD b3) (r_4.toNat*1)) rfl rfl rfl (Y_index (B:=aD b3) (m:=3125) (c:=3125) (k:=.i64) (i:=r_4) K57 K11 rfl rfl rfl (gi_isSome encD_SInt_len rfl (hS133.c 3) hp1) (getI_nn hp1) (getI_ltI hp1 hl)) (hS133.se [0,1,2,4,5,6,7]) ?_ aN
    refine rA [16] ?_
    refine rZ 16 rfl (yS 3 1 (aD b3) 29 (.slice B16 ((x1++[r_6]).length) c16) [.slice B16 ((x1++[r_6]).length) c16] (r_4.toNat*1) ((D1.set r_4.toNat ((B16,c16),(x1++[r_6]))).flatMap eN3) hS133 K11 rfl rfl rfl rfl rfl rfl rfl (gi_fit0 encD_SInt_len hp1) (gi_set encD_SInt_len hp1 ((B16,c16),(x1++[r_6])) rfl)) ?_ aN
    rintro _ w_56 ⟨rfl,hS134⟩
    have hD9:List.map Prod.snd (D1.set r_4.toNat ((B16,c16),(x1++[r_6])))=(met.set r_4.toNat (x1++[r_6])):=set_snd hD1 _ _
    refine ⟨(hS134.se [0,1,2,4,5,6,7]),?_⟩
    refine ra_done (by kernel_rfl) ?_
    exact ⟨(D1.set r_4.toNat ((B16,c16),(x1++[r_6]))),(hf1.a 3 0 (hf1.a 4 1 (hf1.a 6 2 (hf1.a 8 3 (hf1.a 9 4 (hf1.a 12 5 (hf1.a 23 6 (hf1.a 24 7 (hf1.a 25 8 fn_))))))))),hD9,(set_len _ _ _ hl),(hS134.sg 9 [0,1,2,3,4,5,6,7])⟩
   refine rS 52 13 rfl (Ys_bslice (s:=1) (len:=1) (vs:=[(0,vi r_6)]) (cs:=[vi r_6]) (zs:=[vi 0]) (m:=1) hS126 K2 K0 K30 rfl (mpc rfl mpn) rfl rfl rfl (by kernel_rfl) (by kernel_rfl) rfl) ?_ aN
   rintro _ w_57 ⟨b6,rfl,hS135⟩
   let O72:Ob:=⟨aD b6,3,([r_6].flatMap encI),1*1⟩
   have hS136:ST w0 [] _ (O1::O0::O2::O3::O4::O7::O32::O29::O72::(D1.map (orow 3 encI 1))) (R92::R80::R74::R73::⟨B2,(D.flatMap eN3)⟩::((D.flatMap eN4)++((D2.flatMap eN5)++[]))):=ST.rot (pre:=[O1,O0,O2,O3,O4,O7,O32,O29]) (G:=(D1.map (orow 3 encI 1))) (xs:=[O72]) hS135
   refine ⟨(hS136.se [0,1,2,4,5,6,7]),?_⟩
   refine rA [8] ?_
   refine ra_y 47 (i:=8) (v:=pt (aD b3) (r_4.toNat*1)) rfl rfl rfl (Y_index (B:=aD b3) (m:=3125) (c:=3125) (k:=.i64) (i:=r_4) K57 K11 rfl rfl rfl (gi_isSome encD_SInt_len rfl (hS136.c 3) hp1) (getI_nn hp1) (getI_ltI hp1 hl)) (hS136.se [0,1,2,4,5,6,7]) ?_ aN
   refine rA [9] ?_
   refine ra_y 48 (i:=9) (v:=.slice B15 x1.length c15) rfl rfl rfl (yl (aD b3) (r_4.toNat*1) (D1.flatMap eN3) (.slice B15 x1.length c15) K25 (hS136.c 3) rfl rfl (gi_at0 encD_SInt_len hp1 rfl)) (hS136.se [0,1,2,4,5,6,7]) ?_ aN
   refine rA [14] ?_
   refine rS 53 14 rfl (Ys_appendRow (pre:=[O1,O0,O2,O3,O4,O7,O32,O29,O72]) (D:=D1) (enc:=encI) (s:=1) (by':=8) (i:=r_4) (c:=c15) (k:=1) (B:=B15) (l:=x1) (xs:=[r_6]) hS136 K2 K0 K53 K54 rfl (by decide) rfl rfl rfl hp1 encI_len encI_one (hS136.c 8) rfl (by have:=hap; omega) (by have:=hap; simp only [maxLen]; omega)) ?_ aN
   rintro _ w_58 ⟨B16,c16,rfl,hS137⟩
   refine ⟨(hS137.se [0,1,2,4,5,6,7]),?_⟩
   refine rA [15] ?_
   refine ra_y 54 (i:=15) (v:=pt (aD b3) (r_4.toNat*1)) rfl rfl rfl (Y_index (B:=aD b3) (m:=3125) (c:=3125) (k:=.i64) (i:=r_4) K57 K11 rfl rfl rfl (gi_isSome encD_SInt_len rfl (hS137.c 3) hp1) (getI_nn hp1) (getI_ltI hp1 hl)) (hS137.se [0,1,2,4,5,6,7]) ?_ aN
   refine rA [16] ?_
   refine rZ 16 rfl (yS 3 1 (aD b3) 29 (.slice B16 ((x1++[r_6]).length) c16) [.slice B16 ((x1++[r_6]).length) c16] (r_4.toNat*1) ((D1.set r_4.toNat ((B16,c16),(x1++[r_6]))).flatMap eN3) hS137 K11 rfl rfl rfl rfl rfl rfl rfl (gi_fit0 encD_SInt_len hp1) (gi_set encD_SInt_len hp1 ((B16,c16),(x1++[r_6])) rfl)) ?_ aN
   rintro _ w_59 ⟨rfl,hS138⟩
   have hD10:List.map Prod.snd (D1.set r_4.toNat ((B16,c16),(x1++[r_6])))=(met.set r_4.toNat (x1++[r_6])):=set_snd hD1 _ _
   refine ⟨(hS138.se [0,1,2,4,5,6,7]),?_⟩
   refine ra_done (by kernel_rfl) ?_
   exact ⟨(D1.set r_4.toNat ((B16,c16),(x1++[r_6]))),(hf1.a 3 0 (hf1.a 4 1 (hf1.a 6 2 (hf1.a 8 3 (hf1.a 9 4 (hf1.a 12 5 (hf1.a 23 6 (hf1.a 24 7 (hf1.a 25 8 fn_))))))))),hD10,(set_len _ _ _ hl),(hS138.sg 9 [0,1,2,3,4,5,6,7])⟩
  rintro f w ⟨D3,hf2,hD4,hl1,hS108⟩
  refine cr ?_
  refine sQ 55 (ym (.slice B5 list.length c6) rfl (hf2.g 9 4))<|sQ 56 (yb B11 0 V137 K123 K28 (hS108.c 5) rfl (hf2.g 12 5)) ?_
  let R100:Ro:=⟨B13,(r_3.done.flatMap encB)⟩
  have ho30:Org w0 [] (R74::R73::⟨B2,(D.flatMap eN3)⟩::((D.flatMap eN4)++[])) [R100]:=ST.orgOwn hS108 (i:=6) rfl
  have hcap18:r_3.done.length≤c13:=(hS108.lencap (i:=6) rfl (fm_lenn (l:=r_3.done) encB_len rfl) rfl rfl)
  let O54:Ob:=⟨aD b3,29,(D3.flatMap eN3),3125*1⟩
  have hS139:ST w0 [] _ (O1::O0::O2::O54::O4::O7::O29::(D3.map (orow 3 encI 1))) (R100::R92::R80::R74::R73::⟨B2,(D.flatMap eN3)⟩::((D.flatMap eN4)++((D2.flatMap eN5)++[]))):=hS108.freeze (i:=6) rfl
  let R102:Ro:=⟨B14,(r_3.steps.flatMap eN0)⟩
  have ho31:Org w0 [] (R74::R73::⟨B2,(D.flatMap eN3)⟩::((D.flatMap eN4)++[])) [R102]:=ST.orgOwn hS139 (i:=6) rfl
  have hcap19:r_3.steps.length≤c14:=(hS139.lencap (i:=6) rfl (fm_lenn (l:=r_3.steps) eN8 rfl) rfl rfl)
  have hS140:ST w0 [] _ (O1::O0::O2::O54::O4::O7::(D3.map (orow 3 encI 1))) (R102::R100::R92::R80::R74::R73::⟨B2,(D.flatMap eN3)⟩::((D.flatMap eN4)++((D2.flatMap eN5)++[]))):=hS139.freeze (i:=6) rfl
  refine sS 57 (Ys_bslice (s:=4) (len:=1) (vs:=[(0,.agg V137.toArray)]) (cs:=V137) (zs:=[.slice none 0 0,.slice none 0 0,vi 0,.slice none 0 0]) (m:=4) hS140 K72 K28 k_zc_122 rfl (mpc rfl mpn) rfl rfl rfl (by kernel_rfl) (by kernel_rfl) rfl) ?_
  rintro _ w_60 ⟨b7,rfl,hS141⟩
  have hS142:ST w0 [] _ (O1::O0::O2::O54::O4::O7::⟨aD b7,122,(([(((B12,c12),(B13,c13),(B14,c14)),r_3)]:List ((Hd×Hd×Hd)×Tl23Node)).flatMap eN6),1*4⟩::(D3.map (orow 3 encI 1))) (R102::R100::R92::R80::R74::R73::⟨B2,(D.flatMap eN3)⟩::((D.flatMap eN4)++((D2.flatMap eN5)++[]))):=ST.rot (pre:=[O1,O0,O2,O54,O4,O7]) (G:=(D3.map (orow 3 encI 1))) (xs:=[⟨aD b7,122,(([(((B12,c12),(B13,c13),(B14,c14)),r_3)]:List ((Hd×Hd×Hd)×Tl23Node)).flatMap eN6),1*4⟩]) hS141
  have hm1:∀ r∈(([(((B12,c12),(B13,c13),(B14,c14)),r_3)]:List ((Hd×Hd×Hd)×Tl23Node)).flatMap eN5),r∈((R102::R100::R92::R80::R74::R73::⟨B2,(D.flatMap eN3)⟩::((D.flatMap eN4)++((D2.flatMap eN5)++[]))):List Ro):=(fsub_cons (sk 2 (sk 1 (sk 0 (fun _ h=>by cases h)))) fsub_nil)
  have ho32:Org w0 [] (R74::R73::⟨B2,(D.flatMap eN3)⟩::((D.flatMap eN4)++[])) (([(((B12,c12),(B13,c13),(B14,c14)),r_3)]:List ((Hd×Hd×Hd)×Tl23Node)).flatMap eN5):=(forg_cons (org_cons ho5 (org_cons ho30 (org_cons ho31 org_nil))) forg_nil)
  have hS143:ST w0 [] _ (O1::O0::O2::O54::⟨B5,122,(D2.flatMap eN6),c6*4⟩::O7::⟨aD b7,122,(([(((B12,c12),(B13,c13),(B14,c14)),r_3)]:List ((Hd×Hd×Hd)×Tl23Node)).flatMap eN6),1*4⟩::(D3.map (orow 3 encI 1))) (R102::R100::R92::R80::R74::R73::⟨B2,(D.flatMap eN3)⟩::((([(((B12,c12),(B13,c13),(B14,c14)),r_3)]:List ((Hd×Hd×Hd)×Tl23Node)).flatMap eN5)++((D.flatMap eN4)++((D2.flatMap eN5)++[])))):=ST.subR hS142 (sk 0 (sk 1 (sk 2 (sk 3 (sk 4 (sk 5 (sk 6 (suba hm1 (suba (fun r_ (h:r_∈((D.flatMap eN4):List Ro))=>mOd (i:=7) (show r_∈((((D.flatMap eN4)++((D2.flatMap eN5)++[]))):List Ro) from mAl _ h)) (suba (fun r_ (h:r_∈((D2.flatMap eN5):List Ro))=>mOd (i:=7) (show r_∈((((D.flatMap eN4)++((D2.flatMap eN5)++[]))):List Ro) from mAr _ (mAl _ h))) (fun _ h=>by cases h)))))))))))
  have hS143:ST w0 [] _ (O1::O0::O2::O54::O4::O7::⟨aD b7,122,(([(((B12,c12),(B13,c13),(B14,c14)),r_3)]:List ((Hd×Hd×Hd)×Tl23Node)).flatMap eN6),1*4⟩::(D3.map (orow 3 encI 1))) (R102::R100::R92::R80::R74::R73::⟨B2,(D.flatMap eN3)⟩::((([(((B12,c12),(B13,c13),(B14,c14)),r_3)]:List ((Hd×Hd×Hd)×Tl23Node)).flatMap eN5)++((D.flatMap eN4)++((D2.flatMap eN5)++[])))):=hS143
  obtain ⟨hap1,hb⟩:=chk_inv hb
  refine sS 58 (Ys_append (s:=4) (by':=80) (i:=4) (nn:=list.length) (c:=c6) (k:=1) (len:=(list++([r_3]:List Tl23Node)).length) (B:=B5) (xs:=(([(((B12,c12),(B13,c13),(B14,c14)),r_3)]:List ((Hd×Hd×Hd)×Tl23Node)).flatMap eN6)) (cs':=((D2++([(((B12,c12),(B13,c13),(B14,c14)),r_3)]:List ((Hd×Hd×Hd)×Tl23Node))).flatMap eN6)) hS143 K72 K28 k_by_122_80 K33 rfl (by decide) rfl rfl rfl rfl (fm_lenn (l:=D2) encD_l23Node_len (dl_len hD2)) rfl (hS143.c 6) (fm_lenn (l:=([(((B12,c12),(B13,c13),(B14,c14)),r_3)]:List ((Hd×Hd×Hd)×Tl23Node))) encD_l23Node_len rfl) (fm_one' (enc:=eN6) encD_l23Node_one ([(((B12,c12),(B13,c13),(B14,c14)),r_3)]:List ((Hd×Hd×Hd)×Tl23Node))) (by have:=hap1; omega) (by have:=hap1; simp only [maxLen]; omega) (fm_app _ _) (dl_sum (dl_len hD2) rfl (dl_app hD2 (show List.map Prod.snd ([(((B12,c12),(B13,c13),(B14,c14)),r_3)]:List ((Hd×Hd×Hd)×Tl23Node))=([r_3]:List Tl23Node) from rfl)))) ?_
  rintro _ w_61 ⟨B17,c17,rfl,hS144⟩
  have ho33:Org w0 [] (R74::R73::⟨B2,(D.flatMap eN3)⟩::((D.flatMap eN4)++[])) ((D2++([(((B12,c12),(B13,c13),(B14,c14)),r_3)]:List ((Hd×Hd×Hd)×Tl23Node))).flatMap eN5):=(forg_app ho ho32)
  have hS145:ST w0 [] _ (O1::O0::O2::O54::⟨B17,122,((D2++([(((B12,c12),(B13,c13),(B14,c14)),r_3)]:List ((Hd×Hd×Hd)×Tl23Node))).flatMap eN6),c17*4⟩::⟨B11,122,[.slice B12 r_3.place.length c12,.slice B13 r_3.done.length c13,vi r_3.from_,.slice B14 r_3.steps.length c14],4⟩::⟨aD b7,122,(([(((B12,c12),(B13,c13),(B14,c14)),r_3)]:List ((Hd×Hd×Hd)×Tl23Node)).flatMap eN6),1*4⟩::(D3.map (orow 3 encI 1))) (⟨B14,(r_3.steps.flatMap eN0)⟩::⟨B13,(r_3.done.flatMap encB)⟩::⟨B12,(r_3.place.flatMap encI)⟩::R80::R74::R73::⟨B2,(D.flatMap eN3)⟩::(((D2++([(((B12,c12),(B13,c13),(B14,c14)),r_3)]:List ((Hd×Hd×Hd)×Tl23Node))).flatMap eN5)++((([(((B12,c12),(B13,c13),(B14,c14)),r_3)]:List ((Hd×Hd×Hd)×Tl23Node)).flatMap eN5)++((D.flatMap eN4)++[])))):=ST.subR hS144 (sk 0 (sk 1 (sk 2 (sk 3 (sk 4 (sk 5 (sk 6 (suba (fsub_app (fun r_ (h:r_∈((D2.flatMap eN5):List Ro))=>mOd (i:=7) (show r_∈((((([(((B12,c12),(B13,c13),(B14,c14)),r_3)]:List ((Hd×Hd×Hd)×Tl23Node)).flatMap eN5)++((D.flatMap eN4)++((D2.flatMap eN5)++[])))):List Ro) from mAr _ (mAr _ (mAl _ h)))) (fun r_ (h:r_∈((([(((B12,c12),(B13,c13),(B14,c14)),r_3)]:List ((Hd×Hd×Hd)×Tl23Node)).flatMap eN5):List Ro))=>mOd (i:=7) (show r_∈((((([(((B12,c12),(B13,c13),(B14,c14)),r_3)]:List ((Hd×Hd×Hd)×Tl23Node)).flatMap eN5)++((D.flatMap eN4)++((D2.flatMap eN5)++[])))):List Ro) from mAl _ h))) (suba (fun r_ (h:r_∈((([(((B12,c12),(B13,c13),(B14,c14)),r_3)]:List ((Hd×Hd×Hd)×Tl23Node)).flatMap eN5):List Ro))=>mOd (i:=7) (show r_∈((((([(((B12,c12),(B13,c13),(B14,c14)),r_3)]:List ((Hd×Hd×Hd)×Tl23Node)).flatMap eN5)++((D.flatMap eN4)++((D2.flatMap eN5)++[])))):List Ro) from mAl _ h)) (suba (fun r_ (h:r_∈((D.flatMap eN4):List Ro))=>mOd (i:=7) (show r_∈((((([(((B12,c12),(B13,c13),(B14,c14)),r_3)]:List ((Hd×Hd×Hd)×Tl23Node)).flatMap eN5)++((D.flatMap eN4)++((D2.flatMap eN5)++[])))):List Ro) from mAr _ (mAl _ h))) (fun _ h=>by cases h)))))))))))
  refine sQ 9 (yg (.slice B17 ((list++([r_3]:List Tl23Node)).length) c17)) (rn (cr ?_))
  refine sQ 59 (yP (i:Int) 1 rfl (hf2.g 25 8))<|sQ 25 (ym (vi (i64.wrap ((i:Int)+1)))) (rn ?_)
  obtain rfl:=sI hb
  have hS146:ST w0 [] _ (O1::O0::O2::O54::⟨B17,122,((D2++([(((B12,c12),(B13,c13),(B14,c14)),r_3)]:List ((Hd×Hd×Hd)×Tl23Node))).flatMap eN6),c17*4⟩::⟨B11,122,[.slice B12 r_3.place.length c12,.slice B13 r_3.done.length c13,vi r_3.from_,.slice B14 r_3.steps.length c14],4⟩::⟨aD b7,122,(([(((B12,c12),(B13,c13),(B14,c14)),r_3)]:List ((Hd×Hd×Hd)×Tl23Node)).flatMap eN6),1*4⟩::(D3.map (orow 3 encI 1))) (R74::R73::⟨B2,(D.flatMap eN3)⟩::((D.flatMap eN4)++(((D2++([(((B12,c12),(B13,c13),(B14,c14)),r_3)]:List ((Hd×Hd×Hd)×Tl23Node))).flatMap eN5)++[]))):=ST.subR hS145 (sk 4 (sk 5 (sk 6 (suba (fun r_ (h:r_∈((D.flatMap eN4):List Ro))=>mOd (i:=7) (show r_∈(((((D2++([(((B12,c12),(B13,c13),(B14,c14)),r_3)]:List ((Hd×Hd×Hd)×Tl23Node))).flatMap eN5)++((([(((B12,c12),(B13,c13),(B14,c14)),r_3)]:List ((Hd×Hd×Hd)×Tl23Node)).flatMap eN5)++((D.flatMap eN4)++[])))):List Ro) from mAr _ (mAr _ (mAl _ h)))) (suba (fun r_ (h:r_∈(((D2++([(((B12,c12),(B13,c13),(B14,c14)),r_3)]:List ((Hd×Hd×Hd)×Tl23Node))).flatMap eN5):List Ro))=>mOd (i:=7) (show r_∈(((((D2++([(((B12,c12),(B13,c13),(B14,c14)),r_3)]:List ((Hd×Hd×Hd)×Tl23Node))).flatMap eN5)++((([(((B12,c12),(B13,c13),(B14,c14)),r_3)]:List ((Hd×Hd×Hd)×Tl23Node)).flatMap eN5)++((D.flatMap eN4)++[])))):List Ro) from mAl _ h)) (fun _ h=>by cases h))))))
  exact ⟨K4,Nat.lt_succ_self _,i+1,(met.set r_4.toNat (x1++[r_6])),(list++([r_3]:List Tl23Node)),D3,B17,c17,(D2++([(((B12,c12),(B13,c13),(B14,c14)),r_3)]:List ((Hd×Hd×Hd)×Tl23Node))),(hf2.a 3 0 (hf2.a 4 1 (hf2.a 6 2 (hf2.a 8 3 (fc rfl (hf2.a 23 6 (hf2.a 24 7 (fc (congrArg (Value.int .i64) (wr_succ hlt1 hN)) fn_)))))))),hD4,hl1,(dl_app hD2 (show List.map Prod.snd ([(((B12,c12),(B13,c13),(B14,c14)),r_3)]:List ((Hd×Hd×Hd)×Tl23Node))=([r_3]:List Tl23Node) from rfl)),ho33,(hS146.sg 7 [0,1,2,3,4]),(by omega),hL1⟩
 ·skip
  obtain rfl:k_=0:=by have h:=of_decide_eq_false hlt; omega
  refine cw_exit rfl ?_
  obtain rfl:=sI hL
  refine cq (cr ?_)
  refine sQ 60 (yd (aD b1) 0 0 K19 K16 rfl (hf.g 4 1))<|sQ 61 (yl (aD b1) 1 V138 (.slice B1 c1.Gates.length c2) K21 (hS6.c 1))<|sQ 62 (Y_len (B:=B1) (m:=c1.Gates.length) (c:=c2) K12 rfl rfl)<|sQ 63 (Y_conv (k:=.i64) (a:=(c1.Gates.length:Int)) (T:=3) (T':=112) K110 K124 rfl rfl) ?_
  obtain ⟨hsh,hF1⟩:=chk_inv hF1
  refine sQ 64 (Y_shl (k:=.i64) (a:=1) (k':=.u64) (b:=(IntKind.u64.wrap (c1.Gates.length:Int))) rfl rfl rfl hsh)<|sQ 65 (yM (shlK .i64 1 (IntKind.u64.wrap (c1.Gates.length:Int))) 1)<|sQ 13 (yg (vi (i64.wrap ((shlK .i64 1 (IntKind.u64.wrap (c1.Gates.length:Int)))-1)))) (rn (cq (cq (cr ?_))))
  refine sQ 14 (yg (vi 0)) (rn ?_)
  obtain ⟨z1,hz1,hF2⟩:=bI hF1
  refine cw_block ?_
  refine cw_loop (fun k f w=>∃ (met1:List (List Int)) (list1:List Tl23Node) (i3:Int) (D4:List (Hd×(List Int))) (B18:Option Addr) (c18:Nat) (D5:List ((Hd×Hd×Hd)×Tl23Node)),FF f [(3,pt (aD b) 0),(4,pt (aD b1) 0),(6,pt (aD b2) 0),(8,.slice (aD b3) 3125 3125),(9,.slice B18 list1.length c18),(13,vi (i64.wrap ((shlK .i64 1 (IntKind.u64.wrap (c1.Gates.length:Int)))-1))),(14,vi i3)]∧D4.map Prod.snd=met1∧D4.length=3125∧D5.map Prod.snd=list1∧Org w0 [] (R74::R73::⟨B2,(D.flatMap eN3)⟩::((D.flatMap eN4)++[])) (D5.flatMap eN5)∧ST w0 [] w (O1::O0::O2::⟨aD b3,29,(D4.flatMap eN3),3125*1⟩::⟨B18,122,(D5.flatMap eN6),c18*4⟩::(D4.map (orow 3 encI 1))) (R74::R73::⟨B2,(D.flatMap eN3)⟩::((D.flatMap eN4)++((D5.flatMap eN5)++[])))∧whX (F_spec_l23Search_l2 c1 g) k (met1,list1,i3)=some z1) fuel ⟨met,list,0,D1,B5,c6,D2,(hf.a 3 0 (hf.a 4 1 (hf.a 6 2 (hf.a 8 3 (hf.a 9 4 (fc rfl (fc rfl fn_))))))),hD1,hl,hD2,ho,(hS6.sg 5 [0,1,2,3,4]),hz1⟩ ?_
  rintro K10 f w ⟨met1,list1,i3,D4,B18,c18,D5,hf3,hD11,hl2,hD12,ho34,hS147,hL2⟩
  obtain ⟨K18,y1,rfl,hb1,hL3⟩:=whX_go hL2
  unfold F_spec_l23Search_l2 at hb1
  refine cq (cq (cr ?_))
  refine sQ 66 (ym (vi i3) rfl (hf3.g 14 6))<|sQ 67 (ym (.slice B18 list1.length c18) rfl (hf3.g 9 4))<|sQ 68 (Y_len (B:=B18) (m:=list1.length) (c:=c18) K72 rfl rfl)<|sQ 69 (yL i3 (list1.length:Int)) (rn ?_)
  refine cw_cond (b:=(decide (i3<(list1.length:Int)))) rfl (fun hb2=>?_) (fun hb2=>?_)
  ·skip
   have hF3:=ct hb1 hb2
   refine cw_skip (cq (cw_block (cq (cq (cr ?_)))))
   refine sQ 72 (ym (.slice B18 list1.length c18) rfl (hf3.g 9 4))<|sQ 73 (ym (vi i3) rfl (hf3.g 14 6)) ?_
   obtain ⟨x2,hx2,hF3⟩:=bI hF3
   obtain ⟨⟨⟨B19,c19⟩,⟨B20,c20⟩,⟨B21,c21⟩⟩,hp2⟩:=getI_snd hD12 hx2
   refine sQ 74 (Y_index (B:=B18) (m:=list1.length) (c:=c18) (k:=.i64) (i:=i3) K72 K28 rfl rfl rfl (gi_isSome encD_l23Node_len rfl (hS147.c 4) hp2) (getI_nn hp2) (getI_ltI hp2 (dl_len hD12)))<|sQ 75 (yd B18 (i3.toNat*4) 0 K89 K40) ?_
   let R75:Ro:=⟨B19,(x2.place.flatMap encI)⟩
   have hm2:(R75:Ro)∈((R74::R73::⟨B2,(D.flatMap eN3)⟩::((D.flatMap eN4)++((D5.flatMap eN5)++[]))):List Ro):=app_mem (fun r_ (h:r_∈((D5.flatMap eN5):List Ro))=>mOd (i:=3) (show r_∈((((D.flatMap eN4)++((D5.flatMap eN5)++[]))):List Ro) from mAr _ (mAl _ h))) (row_mem (rw_:=eN5) hp2 _ (mt 0))
   let O46:Ob:=⟨aD b3,29,(D4.flatMap eN3),3125*1⟩
   let O47:Ob:=⟨B18,122,(D5.flatMap eN6),c18*4⟩
   let P158:List Ob:=(O1::O0::O2::O46::O47::(D4.map (orow 3 encI 1)))
   have hS148:ST w0 [] _ P158 (R75::R74::R73::⟨B2,(D.flatMap eN3)⟩::((D.flatMap eN4)++((D5.flatMap eN5)++[]))):=ST.subR hS147 (subc hm2 (fun _ h=>h))
   let R76:Ro:=⟨B20,(x2.done.flatMap encB)⟩
   have hm3:(R76:Ro)∈((R75::R74::R73::⟨B2,(D.flatMap eN3)⟩::((D.flatMap eN4)++((D5.flatMap eN5)++[]))):List Ro):=app_mem (fun r_ (h:r_∈((D5.flatMap eN5):List Ro))=>mOd (i:=4) (show r_∈((((D.flatMap eN4)++((D5.flatMap eN5)++[]))):List Ro) from mAr _ (mAl _ h))) (row_mem (rw_:=eN5) hp2 _ (mt 1))
   have hS149:ST w0 [] _ P158 (R76::R75::R74::R73::⟨B2,(D.flatMap eN3)⟩::((D.flatMap eN4)++((D5.flatMap eN5)++[]))):=ST.subR hS148 (subc hm3 (fun _ h=>h))
   let R77:Ro:=⟨B21,(x2.steps.flatMap eN0)⟩
   have hm4:(R77:Ro)∈((R76::R75::R74::R73::⟨B2,(D.flatMap eN3)⟩::((D.flatMap eN4)++((D5.flatMap eN5)++[]))):List Ro):=app_mem (fun r_ (h:r_∈((D5.flatMap eN5):List Ro))=>mOd (i:=5) (show r_∈((((D.flatMap eN4)++((D5.flatMap eN5)++[]))):List Ro) from mAr _ (mAl _ h))) (row_mem (rw_:=eN5) hp2 _ (mt 2))
   have hS150:ST w0 [] _ P158 (R77::R76::R75::R74::R73::⟨B2,(D.flatMap eN3)⟩::((D.flatMap eN4)++((D5.flatMap eN5)++[]))):=ST.subR hS149 (subc hm4 (fun _ h=>h))
   refine sQ 76 (yl B18 (i3.toNat*4+1) (D5.flatMap eN6) (.slice B20 x2.done.length c20) K56 (hS150.c 4) rfl rfl (gi_at encD_l23Node_len hp2 rfl)) ?_
   obtain ⟨r_7,hc5,hF3⟩:=bI hF3
   refine sc 77 rfl rfl (yC [.slice B20 x2.done.length c20] K116 (c_spec_l23Mask x2.done B20 c20 x2.done.length _ rfl (hS150.inn0 [(true,1)] rfl) hc5)) ?_
   rintro _ w_62 ⟨rfl,hd18⟩
   have hS151:=hS150.out00 hd18
   refine sQ 78 (ym (vi (i64.wrap ((shlK .i64 1 (IntKind.u64.wrap (c1.Gates.length:Int)))-1))) rfl (hf3.g 13 5))<|sQ 79 (yE r_7 (i64.wrap ((shlK .i64 1 (IntKind.u64.wrap (c1.Gates.length:Int)))-1))) (rn ?_)
   refine cw_cond (b:=(r_7==(i64.wrap ((shlK .i64 1 (IntKind.u64.wrap (c1.Gates.length:Int)))-1)))) rfl (fun hb3=>?_) (fun hb3=>?_)
   ·skip
    have hF4:=ct hF3 hb3
    refine cq (cr ?_)
    refine sS 15 (yN V150 2 hS151 K35) ?_
    rintro _ w_63 ⟨b8,rfl,hS152⟩
    let O60:Ob:=⟨aD b8,36,V150,2⟩
    have hS153:ST w0 [] _ (O1::O0::O2::O46::O47::O60::(D4.map (orow 3 encI 1))) (R77::R76::R75::R74::R73::⟨B2,(D.flatMap eN3)⟩::((D.flatMap eN4)++((D5.flatMap eN5)++[]))):=ST.rot (pre:=[O1,O0,O2,O46,O47]) (G:=(D4.map (orow 3 encI 1))) (xs:=[O60]) hS152
    refine rn (cq (cq (cr ?_)))
    refine sQ 80 (ym (vi i3) rfl (hf3.g 14 6))<|sQ 16 (yg (vi i3)) (rn ?_)
    obtain ⟨z2,hz2,hF5⟩:=bI hF4
    have hS155:=hS153.addNil 3
    let O62:Ob:=⟨none,3,([].flatMap encI),0*1⟩
    have hS156:ST w0 [] _ (O1::O0::O2::O46::O47::O60::O62::(D4.map (orow 3 encI 1))) (R77::R76::R75::R74::R73::⟨B2,(D.flatMap eN3)⟩::((D.flatMap eN4)++((D5.flatMap eN5)++[]))):=ST.rot (pre:=[O1,O0,O2,O46,O47,O60]) (G:=(D4.map (orow 3 encI 1))) (xs:=[O62]) hS155
    have hS157:=hS156.addNil 60
    have hS158:ST w0 [] _ (O1::O0::O2::O46::O47::O60::O62::⟨none,60,([].flatMap eN0),0*3⟩::(D4.map (orow 3 encI 1))) (R77::R76::R75::R74::R73::⟨B2,(D.flatMap eN3)⟩::((D.flatMap eN4)++((D5.flatMap eN5)++[]))):=ST.rot (pre:=[O1,O0,O2,O46,O47,O60,O62]) (G:=(D4.map (orow 3 encI 1))) (xs:=[⟨none,60,([].flatMap eN0),0*3⟩]) hS157
    refine cw_block ?_
    refine cw_loop (fun k f w=>∃ (Start:List Int) (Steps:List TRouteStep) (K24:Int) (D6:List ((Hd×Hd×Hd)×Tl23Node)) (B22:Option Addr) (c22:Nat) (B23:Option Addr) (c23:Nat),FF f [(6,pt (aD b2) 0),(9,.slice B18 list1.length c18),(15,pt (aD b8) 0),(16,vi K24)]∧D6.map Prod.snd=list1∧Org w0 [] (R74::R73::⟨B2,(D.flatMap eN3)⟩::((D.flatMap eN4)++[])) (D6.flatMap eN5)∧ST w0 [] w [O2,⟨B18,122,(D6.flatMap eN6),c18*4⟩,⟨aD b8,36,[.slice B22 Start.length c22,.slice B23 Steps.length c23],2⟩,⟨B22,3,(Start.flatMap encI),c22*1⟩,⟨B23,60,(Steps.flatMap eN0),c23*3⟩] (R77::R76::R75::R74::R73::⟨B2,(D.flatMap eN3)⟩::((D.flatMap eN4)++((D6.flatMap eN5)++[])))∧whX (F_spec_l23Search_l3 list1) k (Start,Steps,K24)=some z2) fuel ⟨[],[],i3,D5,none,0,none,0,(hf3.a 6 2 (hf3.a 9 4 (fc rfl (fc rfl fn_)))),hD12,ho34,(hS158.sel [2,4,5,6,7] rfl rfl),hz2⟩ ?_
    rintro K111 f w ⟨Start,Steps,K24,D6,B22,c22,B23,c23,hf4,hD13,ho35,hS154,hL4⟩
    obtain ⟨K103,y2,rfl,hb4,hL5⟩:=whX_go hL4
    unfold F_spec_l23Search_l3 at hb4
    refine cq (cq (cr ?_))
    refine sQ 81 (ym (vi K24) rfl (hf4.g 16 3))<|sQ 82 (Y_ge (k:=.i64) (a:=K24) (b:=0) rfl rfl rfl) (rn ?_)
    refine cw_cond (b:=(decide (0≤K24))) rfl (fun hb5=>?_) (fun hb5=>?_)
    ·skip
     have hF6:=ct hb4 hb5
     refine cw_skip (cq (cw_block (cq (cr ?_))))
     refine sQ 88 (ym (.slice B18 list1.length c18) rfl (hf4.g 9 1))<|sQ 89 (ym (vi K24) rfl (hf4.g 16 3)) ?_
     obtain ⟨x3,hx3,hF6⟩:=bI hF6
     obtain ⟨⟨⟨B24,c24⟩,⟨B25,c25⟩,⟨B26,c26⟩⟩,hp3⟩:=getI_snd hD13 hx3
     refine sQ 90 (Y_index (B:=B18) (m:=list1.length) (c:=c18) (k:=.i64) (i:=K24) K72 K28 rfl rfl rfl (gi_isSome encD_l23Node_len rfl (hS154.c 1) hp3) (getI_nn hp3) (getI_ltI hp3 (dl_len hD13)))<|sQ 91 (yd B18 (K24.toNat*4) 0 K102 K11) ?_
     let R94:Ro:=⟨B24,(x3.place.flatMap encI)⟩
     have hm5:(R94:Ro)∈((R77::R76::R75::R74::R73::⟨B2,(D.flatMap eN3)⟩::((D.flatMap eN4)++((D6.flatMap eN5)++[]))):List Ro):=app_mem (fun r_ (h:r_∈((D6.flatMap eN5):List Ro))=>mOd (i:=6) (show r_∈((((D.flatMap eN4)++((D6.flatMap eN5)++[]))):List Ro) from mAr _ (mAl _ h))) (row_mem (rw_:=eN5) hp3 _ (mt 0))
     let O56:Ob:=⟨B18,122,(D6.flatMap eN6),c18*4⟩
     let O61:Ob:=⟨aD b8,36,[.slice B22 Start.length c22,.slice B23 Steps.length c23],2⟩
     let O69:Ob:=⟨B22,3,(Start.flatMap encI),c22*1⟩
     let O70:Ob:=⟨B23,60,(Steps.flatMap eN0),c23*3⟩
     have hS159:ST w0 [] _ [O2,O56,O61,O69,O70] (R94::R77::R76::R75::R74::R73::⟨B2,(D.flatMap eN3)⟩::((D.flatMap eN4)++((D6.flatMap eN5)++[]))):=ST.subR hS154 (subc hm5 (fun _ h=>h))
     let R95:Ro:=⟨B25,(x3.done.flatMap encB)⟩
     have hm6:(R95:Ro)∈((R94::R77::R76::R75::R74::R73::⟨B2,(D.flatMap eN3)⟩::((D.flatMap eN4)++((D6.flatMap eN5)++[]))):List Ro):=app_mem (fun r_ (h:r_∈((D6.flatMap eN5):List Ro))=>mOd (i:=7) (show r_∈((((D.flatMap eN4)++((D6.flatMap eN5)++[]))):List Ro) from mAr _ (mAl _ h))) (row_mem (rw_:=eN5) hp3 _ (mt 1))
     have hS160:ST w0 [] _ [O2,O56,O61,O69,O70] (R95::R94::R77::R76::R75::R74::R73::⟨B2,(D.flatMap eN3)⟩::((D.flatMap eN4)++((D6.flatMap eN5)++[]))):=ST.subR hS159 (subc hm6 (fun _ h=>h))
     let R98:Ro:=⟨B26,(x3.steps.flatMap eN0)⟩
     have hm7:(R98:Ro)∈((R95::R94::R77::R76::R75::R74::R73::⟨B2,(D.flatMap eN3)⟩::((D.flatMap eN4)++((D6.flatMap eN5)++[]))):List Ro):=app_mem (fun r_ (h:r_∈((D6.flatMap eN5):List Ro))=>mOd (i:=8) (show r_∈((((D.flatMap eN4)++((D6.flatMap eN5)++[]))):List Ro) from mAr _ (mAl _ h))) (row_mem (rw_:=eN5) hp3 _ (mt 2))
     have hS161:ST w0 [] _ [O2,O56,O61,O69,O70] (R98::R95::R94::R77::R76::R75::R74::R73::⟨B2,(D.flatMap eN3)⟩::((D.flatMap eN4)++((D6.flatMap eN5)++[]))):=ST.subR hS160 (subc hm7 (fun _ h=>h))
     refine sQ 92 (yl B18 (K24.toNat*4+0) (D6.flatMap eN6) (.slice B24 x3.place.length c24) K25 (hS161.c 1) rfl rfl (gi_at encD_l23Node_len hp3 rfl)) ?_
     obtain ⟨r_8,hc6,hF6⟩:=bI hF6
     refine sc 93 rfl rfl (yC [.slice B24 x3.place.length c24] K77 (c_spec_l1Own x3.place B24 c24 x3.place.length _ rfl (hS161.inn0 [(true,2)] rfl) hc6)) ?_
     rintro _ w_64 ⟨B27,c27,rfl,hd19⟩
     have hS162:=hS161.out0 hd19
     refine sQ 94 (yd (aD b8) 0 0 K66 K11 rfl (hf4.g 15 2)) ?_
     let V153:List Value:=[.slice B27 r_8.length c27,.slice B23 Steps.length c23]
     refine s0 (yS 2 1 (aD b8) 36 (.slice B27 r_8.length c27) [.slice B27 r_8.length c27] 0 V153 hS162 K11) ?_
     rintro _ w_65 ⟨rfl,hS163⟩
     refine rn ?_
     obtain ⟨hap2,hF6⟩:=chk_inv hF6
     obtain ⟨hap3,hF6⟩:=chk_inv hF6
     let O68:Ob:=⟨B27,3,(r_8.flatMap encI),c27*1⟩
     refine cw_mid (fun f w=>∃ (B30:Option Addr) (c30:Nat),FF f [(6,pt (aD b2) 0),(9,.slice B18 list1.length c18),(15,pt (aD b8) 0),(16,vi K24)]∧ST w0 [] w [O2,O56,⟨aD b8,36,[.slice B27 r_8.length c27,.slice B30 ((x3.steps++Steps).length) c30],2⟩,O68,⟨B30,60,((x3.steps++Steps).flatMap eN0),c30*3⟩] (R98::R95::R94::R77::R76::R75::R74::R73::⟨B2,(D.flatMap eN3)⟩::((D.flatMap eN4)++((D6.flatMap eN5)++[])))) ?_ ?_
     ·skip
      refine ra_start (hS163.se [0,1,3,4,5]).fn (by kernel_rfl) ?_
      have hS165:=hS163.drew
      refine rq 1 96 rfl (hS165.se [0,1,3,4,5]) (fun w' hw'=>(ym (.slice B18 list1.length c18) rfl (hf4.g 9 1))) ?_
      refine rq 2 97 rfl (hS165.se [0,1,3,4,5]) (fun w' hw'=>(ym (vi K24) rfl (hf4.g 16 3))) ?_
      refine rq 3 98 (v:=pt B18 (K24.toNat*4)) rfl (hS165.se [0,1,3,4,5]) (fun w' hw'=>(Y_index (B:=B18) (m:=list1.length) (c:=c18) (k:=.i64) (i:=K24) K72 K28 rfl rfl rfl (gi_isSome encD_l23Node_len rfl (ST.cf hw' (i:=1) rfl) hp3) (getI_nn hp3) (getI_ltI hp3 (dl_len hD13)))) ?_
      refine rq 4 99 (v:=pt B18 (K24.toNat*4+3)) rfl (hS165.se [0,1,3,4,5]) (fun w' hw'=>(yd B18 (K24.toNat*4) 0 K146 K15)) ?_
      refine rq 5 100 rfl (hS165.se [0,1,3,4,5]) (fun w' hw'=>(yl B18 (K24.toNat*4+3) (D6.flatMap eN6) (.slice B26 x3.steps.length c26) K31 (ST.cf hw' (i:=1) rfl) rfl rfl (gi_at encD_l23Node_len hp3 rfl))) ?_
      refine rq 7 102 (v:=pt (aD b8) 1) rfl (hS165.se [0,1,3,4,5]) (fun w' hw'=>(yd (aD b8) 0 0 K29 K15 rfl (hf4.g 15 2))) ?_
      refine rA [0,8] ?_
      refine rS 95 0 rfl (Ys_bslice0 (s:=3) (e:=60) hS165 K9 K8 rfl) ?_ ?_
      ·rintro _ w_66 ⟨b9,rfl,hS166⟩
       refine ⟨(hS166.se [0,1,3,4,5]),?_⟩
       refine rA [6,8] ?_
       refine rS 101 6 rfl (Ys_append (s:=3) (by':=24) (i:=6) (nn:=0) (c:=0) (k:=x3.steps.length) (len:=x3.steps.length) (B:=aD b9) (xs:=(x3.steps.flatMap eN0)) (cs':=(x3.steps.flatMap eN0)) hS166 K9 K8 K41 K23 rfl (by decide) rfl rfl rfl rfl (fm_lenn (l:=[]) eN8 rfl) rfl (hS166.rf (i:=0) rfl) (fm_lenn (l:=x3.steps) eN8 rfl) (fm_one' (enc:=eN0) enc_RouteStep_one x3.steps) (by have:=hap2; omega) (by have:=hap2; simp only [maxLen]; omega) rfl (app_len0 (l:=x3.steps) rfl)) ?_ ?_
       ·rintro _ w_67 ⟨B28,c28,rfl,hS167⟩
        refine ⟨(hS167.se [0,1,3,4,5]),?_⟩
        refine rA [8] ?_
        refine ra_y 103 (i:=8) (v:=.slice B23 Steps.length c23) rfl rfl rfl (yl (aD b8) 1 V153 (.slice B23 Steps.length c23) K31 (hS167.c 2)) (hS167.se [0,1,3,4,5]) ?_ aN
        refine rA [9] ?_
        refine rS 104 9 rfl (Ys_append (s:=3) (by':=24) (i:=6) (nn:=x3.steps.length) (c:=c28) (k:=Steps.length) (len:=(x3.steps++Steps).length) (B:=B28) (xs:=(Steps.flatMap eN0)) (cs':=((x3.steps++Steps).flatMap eN0)) hS167 K9 K8 K41 K23 rfl (by decide) rfl rfl rfl rfl (fm_lenn (l:=x3.steps) eN8 rfl) rfl (hS167.c 4) (fm_lenn (l:=Steps) eN8 rfl) (fm_one' (enc:=eN0) enc_RouteStep_one Steps) (by have:=hap3; omega) (by have:=hap3; simp only [maxLen]; omega) (fm_app _ _) (app_len (l:=x3.steps) (l':=Steps) rfl rfl)) ?_ aN
        rintro _ w_68 ⟨B29,c29,rfl,hS168⟩
        refine ⟨(hS168.se [0,1,3,4,5]),?_⟩
        refine rq 10 105 (v:=pt (aD b8) 1) rfl (hS168.se [0,1,3,4,5]) (fun w' hw'=>(yd (aD b8) 0 0 K29 K15 rfl (hf4.g 15 2))) ?_
        refine rA [11] ?_
        refine rZ 11 rfl (yS 2 1 (aD b8) 36 (.slice B29 ((x3.steps++Steps).length) c29) [.slice B29 ((x3.steps++Steps).length) c29] 1 [.slice B27 r_8.length c27,.slice B29 ((x3.steps++Steps).length) c29] hS168 K15) ?_ aN
        rintro _ w_69 ⟨rfl,hS169⟩
        refine ⟨(hS169.se [0,1,3,4,5]),?_⟩
        refine ra_done (by kernel_rfl) ?_
        exact ⟨B29,c29,(hf4.a 6 0 (hf4.a 9 1 (hf4.a 15 2 (hf4.a 16 3 fn_)))),(hS169.sel [0,1,2,5,6] rfl rfl)⟩
       refine ra_y 103 (i:=8) (v:=.slice B23 Steps.length c23) rfl rfl rfl (yl (aD b8) 1 V153 (.slice B23 Steps.length c23) K31 (hS166.c 2)) (hS166.se [0,1,3,4,5]) ?_ aN
       refine rA [6] ?_
       refine rS 101 6 rfl (Ys_append (s:=3) (by':=24) (i:=6) (nn:=0) (c:=0) (k:=x3.steps.length) (len:=x3.steps.length) (B:=aD b9) (xs:=(x3.steps.flatMap eN0)) (cs':=(x3.steps.flatMap eN0)) hS166 K9 K8 K41 K23 rfl (by decide) rfl rfl rfl rfl (fm_lenn (l:=[]) eN8 rfl) rfl (hS166.rf (i:=0) rfl) (fm_lenn (l:=x3.steps) eN8 rfl) (fm_one' (enc:=eN0) enc_RouteStep_one x3.steps) (by have:=hap2; omega) (by have:=hap2; simp only [maxLen]; omega) rfl (app_len0 (l:=x3.steps) rfl)) ?_ aN
       rintro _ w_70 ⟨B28,c28,rfl,hS170⟩
       refine ⟨(hS170.se [0,1,3,4,5]),?_⟩
       refine rA [9] ?_
       refine rS 104 9 rfl (Ys_append (s:=3) (by':=24) (i:=6) (nn:=x3.steps.length) (c:=c28) (k:=Steps.length) (len:=(x3.steps++Steps).length) (B:=B28) (xs:=(Steps.flatMap eN0)) (cs':=((x3.steps++Steps).flatMap eN0)) hS170 K9 K8 K41 K23 rfl (by decide) rfl rfl rfl rfl (fm_lenn (l:=x3.steps) eN8 rfl) rfl (hS170.c 4) (fm_lenn (l:=Steps) eN8 rfl) (fm_one' (enc:=eN0) enc_RouteStep_one Steps) (by have:=hap3; omega) (by have:=hap3; simp only [maxLen]; omega) (fm_app _ _) (app_len (l:=x3.steps) (l':=Steps) rfl rfl)) ?_ aN
       rintro _ w_71 ⟨B29,c29,rfl,hS171⟩
       refine ⟨(hS171.se [0,1,3,4,5]),?_⟩
       refine rq 10 105 (v:=pt (aD b8) 1) rfl (hS171.se [0,1,3,4,5]) (fun w' hw'=>(yd (aD b8) 0 0 K29 K15 rfl (hf4.g 15 2))) ?_
       refine rA [11] ?_
       refine rZ 11 rfl (yS 2 1 (aD b8) 36 (.slice B29 ((x3.steps++Steps).length) c29) [.slice B29 ((x3.steps++Steps).length) c29] 1 [.slice B27 r_8.length c27,.slice B29 ((x3.steps++Steps).length) c29] hS171 K15) ?_ aN
       rintro _ w_72 ⟨rfl,hS172⟩
       refine ⟨(hS172.se [0,1,3,4,5]),?_⟩
       refine ra_done (by kernel_rfl) ?_
       exact ⟨B29,c29,(hf4.a 6 0 (hf4.a 9 1 (hf4.a 15 2 (hf4.a 16 3 fn_)))),(hS172.sel [0,1,2,5,6] rfl rfl)⟩
      refine ra_y 103 (i:=8) (v:=.slice B23 Steps.length c23) rfl rfl rfl (yl (aD b8) 1 V153 (.slice B23 Steps.length c23) K31 (hS165.c 2)) (hS165.se [0,1,3,4,5]) ?_ aN
      refine rA [0] ?_
      refine rS 95 0 rfl (Ys_bslice0 (s:=3) (e:=60) hS165 K9 K8 rfl) ?_ aN
      rintro _ w_73 ⟨b9,rfl,hS173⟩
      refine ⟨(hS173.se [0,1,3,4,5]),?_⟩
      refine rA [6] ?_
      refine rS 101 6 rfl (Ys_append (s:=3) (by':=24) (i:=6) (nn:=0) (c:=0) (k:=x3.steps.length) (len:=x3.steps.length) (B:=aD b9) (xs:=(x3.steps.flatMap eN0)) (cs':=(x3.steps.flatMap eN0)) hS173 K9 K8 K41 K23 rfl (by decide) rfl rfl rfl rfl (fm_lenn (l:=[]) eN8 rfl) rfl (hS173.rf (i:=0) rfl) (fm_lenn (l:=x3.steps) eN8 rfl) (fm_one' (enc:=eN0) enc_RouteStep_one x3.steps) (by have:=hap2; omega) (by have:=hap2; simp only [maxLen]; omega) rfl (app_len0 (l:=x3.steps) rfl)) ?_ aN
      rintro _ w_74 ⟨B28,c28,rfl,hS174⟩
      refine ⟨(hS174.se [0,1,3,4,5]),?_⟩
      refine rA [9] ?_
      refine rS 104 9 rfl (Ys_append (s:=3) (by':=24) (i:=6) (nn:=x3.steps.length) (c:=c28) (k:=Steps.length) (len:=(x3.steps++Steps).length) (B:=B28) (xs:=(Steps.flatMap eN0)) (cs':=((x3.steps++Steps).flatMap eN0)) hS174 K9 K8 K41 K23 rfl (by decide) rfl rfl rfl rfl (fm_lenn (l:=x3.steps) eN8 rfl) rfl (hS174.c 4) (fm_lenn (l:=Steps) eN8 rfl) (fm_one' (enc:=eN0) enc_RouteStep_one Steps) (by have:=hap3; omega) (by have:=hap3; simp only [maxLen]; omega) (fm_app _ _) (app_len (l:=x3.steps) (l':=Steps) rfl rfl)) ?_ aN
      rintro _ w_75 ⟨B29,c29,rfl,hS175⟩
      refine ⟨(hS175.se [0,1,3,4,5]),?_⟩
      refine rq 10 105 (v:=pt (aD b8) 1) rfl (hS175.se [0,1,3,4,5]) (fun w' hw'=>(yd (aD b8) 0 0 K29 K15 rfl (hf4.g 15 2))) ?_
      refine rA [11] ?_
      refine rZ 11 rfl (yS 2 1 (aD b8) 36 (.slice B29 ((x3.steps++Steps).length) c29) [.slice B29 ((x3.steps++Steps).length) c29] 1 [.slice B27 r_8.length c27,.slice B29 ((x3.steps++Steps).length) c29] hS175 K15) ?_ aN
      rintro _ w_76 ⟨rfl,hS176⟩
      refine ⟨(hS176.se [0,1,3,4,5]),?_⟩
      refine ra_done (by kernel_rfl) ?_
      exact ⟨B29,c29,(hf4.a 6 0 (hf4.a 9 1 (hf4.a 15 2 (hf4.a 16 3 fn_)))),(hS176.sel [0,1,2,5,6] rfl rfl)⟩
     rintro f w ⟨B30,c30,hf5,hS164⟩
     refine cr ?_
     refine sQ 83 (ym (.slice B18 list1.length c18) rfl (hf5.g 9 1))<|sQ 84 (ym (vi K24) rfl (hf5.g 16 3)) ?_
     obtain ⟨x4,hx4,hF6⟩:=bI hF6
     obtain ⟨⟨⟨B31,c31⟩,⟨B32,c32⟩,⟨B33,c33⟩⟩,hp4⟩:=getI_snd hD13 hx4
     refine sQ 85 (Y_index (B:=B18) (m:=list1.length) (c:=c18) (k:=.i64) (i:=K24) K72 K28 rfl rfl rfl (gi_isSome encD_l23Node_len rfl (hS164.c 1) hp4) (getI_nn hp4) (getI_ltI hp4 (dl_len hD13)))<|sQ 86 (yd B18 (K24.toNat*4) 0 k_fd_122_2_2_3 K0) ?_
     let R104:Ro:=⟨B31,(x4.place.flatMap encI)⟩
     have hm8:(R104:Ro)∈((R98::R95::R94::R77::R76::R75::R74::R73::⟨B2,(D.flatMap eN3)⟩::((D.flatMap eN4)++((D6.flatMap eN5)++[]))):List Ro):=app_mem (fun r_ (h:r_∈((D6.flatMap eN5):List Ro))=>mOd (i:=9) (show r_∈((((D.flatMap eN4)++((D6.flatMap eN5)++[]))):List Ro) from mAr _ (mAl _ h))) (row_mem (rw_:=eN5) hp4 _ (mt 0))
     let O52:Ob:=⟨aD b8,36,[.slice B27 r_8.length c27,.slice B30 ((x3.steps++Steps).length) c30],2⟩
     let O63:Ob:=⟨B30,60,((x3.steps++Steps).flatMap eN0),c30*3⟩
     have hS177:ST w0 [] _ [O2,O56,O52,O68,O63] (R104::R98::R95::R94::R77::R76::R75::R74::R73::⟨B2,(D.flatMap eN3)⟩::((D.flatMap eN4)++((D6.flatMap eN5)++[]))):=ST.subR hS164 (subc hm8 (fun _ h=>h))
     let R105:Ro:=⟨B32,(x4.done.flatMap encB)⟩
     have hm9:(R105:Ro)∈((R104::R98::R95::R94::R77::R76::R75::R74::R73::⟨B2,(D.flatMap eN3)⟩::((D.flatMap eN4)++((D6.flatMap eN5)++[]))):List Ro):=app_mem (fun r_ (h:r_∈((D6.flatMap eN5):List Ro))=>mOd (i:=10) (show r_∈((((D.flatMap eN4)++((D6.flatMap eN5)++[]))):List Ro) from mAr _ (mAl _ h))) (row_mem (rw_:=eN5) hp4 _ (mt 1))
     have hS178:ST w0 [] _ [O2,O56,O52,O68,O63] (R105::R104::R98::R95::R94::R77::R76::R75::R74::R73::⟨B2,(D.flatMap eN3)⟩::((D.flatMap eN4)++((D6.flatMap eN5)++[]))):=ST.subR hS177 (subc hm9 (fun _ h=>h))
     have hm10:(⟨B33,(x4.steps.flatMap eN0)⟩:Ro)∈((R105::R104::R98::R95::R94::R77::R76::R75::R74::R73::⟨B2,(D.flatMap eN3)⟩::((D.flatMap eN4)++((D6.flatMap eN5)++[]))):List Ro):=app_mem (fun r_ (h:r_∈((D6.flatMap eN5):List Ro))=>mOd (i:=11) (show r_∈((((D.flatMap eN4)++((D6.flatMap eN5)++[]))):List Ro) from mAr _ (mAl _ h))) (row_mem (rw_:=eN5) hp4 _ (mt 2))
     have hS179:ST w0 [] _ [O2,O56,O52,O68,O63] (⟨B33,(x4.steps.flatMap eN0)⟩::R105::R104::R98::R95::R94::R77::R76::R75::R74::R73::⟨B2,(D.flatMap eN3)⟩::((D.flatMap eN4)++((D6.flatMap eN5)++[]))):=ST.subR hS178 (subc hm10 (fun _ h=>h))
     refine sQ 87 (yl B18 (K24.toNat*4+2) (D6.flatMap eN6) (vi x4.from_) K1 (hS179.c 1) rfl rfl (gi_at encD_l23Node_len hp4 rfl))<|sQ 16 (yg (vi x4.from_)) (rn ?_)
     obtain rfl:=sI hF6
     have hS180:ST w0 [] _ [O2,O56,O52,O68,O63] (R77::R76::R75::R74::R73::⟨B2,(D.flatMap eN3)⟩::((D.flatMap eN4)++((D6.flatMap eN5)++[]))):=hS179.sR 12 [6,7,8,9,10,11]
     exact ⟨K103,Nat.lt_succ_self _,r_8,(x3.steps++Steps),x4.from_,D6,B27,c27,B30,c30,(hf5.a 6 0 (hf5.a 9 1 (hf5.a 15 2 (fc rfl fn_)))),hD13,ho35,(hS180.sel [0,1,2,3,4] rfl rfl),hL5⟩
    ·skip
     have hF7:=cf' hb4 hb5
     refine cw_exit rfl ?_
     obtain rfl:=sI hF7
     obtain rfl:=sI hL5
     refine cq (cr ?_)
     let V149:List Value:=[.slice B22 Start.length c22,.slice B23 Steps.length c23]
     refine sQ 106 (yb (aD b8) 0 V149 K32 K13 (hS154.c 2) rfl (hf4.g 15 2)) ?_
     refine s0 (yT 0 2 (aD b2) 36 (.agg V149.toArray) V149 0 hS154 K13 rfl (hf4.g 6 0)) ?_
     rintro _ w_77 ⟨rfl,hS181⟩
     refine sQ 7 (yg (.bool true)) (rn (ct_ ?_))
     obtain rfl:=sI hF5
     obtain rfl:=sI hL3
     obtain ⟨rfl,rfl⟩:=pr2 (sI hF2)
     exact ret2 Try.results55 (v1:=.agg V149.toArray) (resAt_cellA (B:=aD b2) (i:=0) (cs:=V149) (vs:=V149) (hf4.g 6 0) K32 K13 (hS181.c 0) rfl rfl) (v2:=.bool true) (resAt_tmp rfl) ⟨B22,c22,B23,c23,rfl,(hS181.sN [3,4])⟩
   ·skip
    have hF8:=cf' hF3 hb3
    refine cw_skip (cq (cr ?_))
    refine sQ 107 (yd (aD b) 0 0 K45 K39 rfl (hf3.g 3 0))<|sQ 108 (yl (aD b) 1 V144 (.slice B g.Edges.length c) K59 (hS151.c 0))<|sQ 109 (Y_len (B:=B) (m:=g.Edges.length) (c:=c) K26 rfl rfl)<|sQ 110 (ym (vi 0)) (rn ?_)
    obtain ⟨hN1,hF8⟩:=chk_inv hF8
    obtain ⟨z3,hz3,hF9⟩:=bI hF8
    refine cw_block ?_
    refine cw_loop (fun k f w=>∃ (i4:Nat) (met2:List (List Int)) (list2:List Tl23Node) (D7:List (Hd×(List Int))) (B34:Option Addr) (c34:Nat) (D8:List ((Hd×Hd×Hd)×Tl23Node)),FF f [(3,pt (aD b) 0),(4,pt (aD b1) 0),(6,pt (aD b2) 0),(8,.slice (aD b3) 3125 3125),(9,.slice B34 list2.length c34),(13,vi (i64.wrap ((shlK .i64 1 (IntKind.u64.wrap (c1.Gates.length:Int)))-1))),(14,vi i3),(108,.slice B g.Edges.length c),(109,vi (g.Edges.length:Int)),(110,vi (i4:Int))]∧D7.map Prod.snd=met2∧D7.length=3125∧D8.map Prod.snd=list2∧Org w0 [] (R74::R73::⟨B2,(D.flatMap eN3)⟩::((D.flatMap eN4)++[])) (D8.flatMap eN5)∧ST w0 [] w (O1::O0::O2::⟨aD b3,29,(D7.flatMap eN3),3125*1⟩::⟨B34,122,(D8.flatMap eN6),c34*4⟩::(D7.map (orow 3 encI 1))) (R77::R76::R75::R74::R73::⟨B2,(D.flatMap eN3)⟩::((D.flatMap eN4)++((D8.flatMap eN5)++[])))∧i4+k=g.Edges.length∧forN (F_spec_l23Search_l4 g i3 c1) k i4 (met2,list2)=some z3) g.Edges.length ⟨0,met1,list1,D4,B18,c18,D5,(hf3.a 3 0 (hf3.a 4 1 (hf3.a 6 2 (hf3.a 8 3 (hf3.a 9 4 (hf3.a 13 5 (hf3.a 14 6 (fc rfl (fc rfl (fc rfl fn_)))))))))),hD11,hl2,hD12,ho34,(hS151.sg 5 [0,1,2,3,4]),Nat.zero_add _,hz3⟩ ?_
    rintro K104 f w ⟨i4,met2,list2,D7,B34,c34,D8,hf6,hD14,hl3,hD15,ho36,hS182,hik3,hL6⟩
    refine cq (cr ?_)
    refine sQ 111 (yL (i4:Int) (g.Edges.length:Int) rfl (hf6.g 110 9) (hf6.g 109 8)) (rn (cq ?_))
    refine cw_cond (b:=(decide ((i4:Int)<(g.Edges.length:Int)))) rfl (fun hlt2=>?_) (fun hlt2=>?_)
    ·skip
     have hlt3:i4<g.Edges.length:=by have h:=of_decide_eq_true hlt2; omega
     obtain ⟨k_8,rfl⟩:∃ k2,K104=k2+1:=⟨K104-1,by omega⟩
     obtain ⟨y3,hb6,hL7⟩:=forN_go hL6
     unfold F_spec_l23Search_l4 at hb6
     refine cw_skip (cq ?_)
     obtain ⟨z4,hz4,hF10⟩:=bI hb6
     refine cw_mid (fun f w=>∃ (met3:List (List Int)) (list3:List Tl23Node) (D9:List (Hd×(List Int))) (B35:Option Addr) (c35:Nat) (D10:List ((Hd×Hd×Hd)×Tl23Node)),(met3,list3)=z4∧FF f [(3,pt (aD b) 0),(4,pt (aD b1) 0),(6,pt (aD b2) 0),(8,.slice (aD b3) 3125 3125),(9,.slice B35 list3.length c35),(13,vi (i64.wrap ((shlK .i64 1 (IntKind.u64.wrap (c1.Gates.length:Int)))-1))),(14,vi i3),(108,.slice B g.Edges.length c),(109,vi (g.Edges.length:Int)),(110,vi (i4:Int))]∧D9.map Prod.snd=met3∧D9.length=3125∧D10.map Prod.snd=list3∧Org w0 [] (R74::R73::⟨B2,(D.flatMap eN3)⟩::((D.flatMap eN4)++[])) (D10.flatMap eN5)∧ST w0 [] w (O1::O0::O2::⟨aD b3,29,(D9.flatMap eN3),3125*1⟩::⟨B35,122,(D10.flatMap eN6),c35*4⟩::(D9.map (orow 3 encI 1))) (R77::R76::R75::R74::R73::⟨B2,(D.flatMap eN3)⟩::((D.flatMap eN4)++((D10.flatMap eN5)++[])))) ?_ ?_
     ·skip
      refine cw_block (cq (cr ?_))
      obtain ⟨x5,hx5,hz4⟩:=bI hz4
      refine sQ 112 (Y_index (B:=B) (m:=g.Edges.length) (c:=c) (k:=.i64) (i:=(i4:Int)) K26 K20 rfl (hf6.g 108 7) (hf6.g 110 9) (gi_isSome enc_Edge_len rfl (hS182.rf (i:=3) rfl) hx5) (getI_nn hx5) (getI_ltI hx5 rfl))<|sQ 113 (ya B ((i4:Int).toNat*2) (g.Edges.flatMap eN1) [vi x5.A,vi x5.B] K81 K20 (hS182.rf (i:=3) rfl) rfl rfl (enc_Edge_len x5) (gi_seg enc_Edge_len hx5)) ?_
      refine sS 18 (yN [vi 0,vi 0] 2 hS182 K46) ?_
      rintro _ w_78 ⟨b10,rfl,hS184⟩
      let O9:Ob:=⟨B34,122,(D8.flatMap eN6),c34*4⟩
      let O10:Ob:=⟨aD b3,29,(D7.flatMap eN3),3125*1⟩
      have hS185:ST w0 [] _ (O1::O0::O2::O10::O9::⟨aD b10,87,[vi 0,vi 0],2⟩::(D7.map (orow 3 encI 1))) (R77::R76::R75::R74::R73::⟨B2,(D.flatMap eN3)⟩::((D.flatMap eN4)++((D8.flatMap eN5)++[]))):=ST.rot (pre:=[O1,O0,O2,O10,O9]) (G:=(D7.map (orow 3 encI 1))) (xs:=[⟨aD b10,87,[vi 0,vi 0],2⟩]) hS184
      refine s0 (yT 5 2 (aD b10) 87 (.agg #[vi x5.A,vi x5.B]) [vi x5.A,vi x5.B] 0 hS185 K20) ?_
      rintro _ w_79 ⟨rfl,hS186⟩
      refine rn (cq ?_)
      obtain ⟨x6,hx6,hz4⟩:=bI hz4
      obtain ⟨⟨⟨B36,c36⟩,⟨B37,c37⟩,⟨B38,c38⟩⟩,hp5⟩:=getI_snd hD15 hx6
      obtain ⟨r_9,hc7,hz4⟩:=bI hz4
      obtain ⟨r_10,hc8,hz4⟩:=bI hz4
      let R78:Ro:=⟨B36,(x6.place.flatMap encI)⟩
      have hm14:(R78:Ro)∈((R77::R76::R75::R74::R73::⟨B2,(D.flatMap eN3)⟩::((D.flatMap eN4)++((D8.flatMap eN5)++[]))):List Ro):=app_mem (fun r_ (h:r_∈((D8.flatMap eN5):List Ro))=>mOd (i:=6) (show r_∈((((D.flatMap eN4)++((D8.flatMap eN5)++[]))):List Ro) from mAr _ (mAl _ h))) (row_mem (rw_:=eN5) hp5 _ (mt 0))
      let O14:Ob:=⟨aD b10,87,[vi x5.A,vi x5.B],2⟩
      let P156:List Ob:=(O1::O0::O2::O10::O9::O14::(D7.map (orow 3 encI 1)))
      have hS195:ST w0 [] _ P156 (R78::R77::R76::R75::R74::R73::⟨B2,(D.flatMap eN3)⟩::((D.flatMap eN4)++((D8.flatMap eN5)++[]))):=ST.subR hS186 (subc hm14 (fun _ h=>h))
      let R79:Ro:=⟨B37,(x6.done.flatMap encB)⟩
      have hm15:(R79:Ro)∈((R78::R77::R76::R75::R74::R73::⟨B2,(D.flatMap eN3)⟩::((D.flatMap eN4)++((D8.flatMap eN5)++[]))):List Ro):=app_mem (fun r_ (h:r_∈((D8.flatMap eN5):List Ro))=>mOd (i:=7) (show r_∈((((D.flatMap eN4)++((D8.flatMap eN5)++[]))):List Ro) from mAr _ (mAl _ h))) (row_mem (rw_:=eN5) hp5 _ (mt 1))
      have hS196:ST w0 [] _ P156 (R79::R78::R77::R76::R75::R74::R73::⟨B2,(D.flatMap eN3)⟩::((D.flatMap eN4)++((D8.flatMap eN5)++[]))):=ST.subR hS195 (subc hm15 (fun _ h=>h))
      let R81:Ro:=⟨B38,(x6.steps.flatMap eN0)⟩
      have hm16:(R81:Ro)∈((R79::R78::R77::R76::R75::R74::R73::⟨B2,(D.flatMap eN3)⟩::((D.flatMap eN4)++((D8.flatMap eN5)++[]))):List Ro):=app_mem (fun r_ (h:r_∈((D8.flatMap eN5):List Ro))=>mOd (i:=8) (show r_∈((((D.flatMap eN4)++((D8.flatMap eN5)++[]))):List Ro) from mAr _ (mAl _ h))) (row_mem (rw_:=eN5) hp5 _ (mt 2))
      have hS197:ST w0 [] _ P156 (R81::R79::R78::R77::R76::R75::R74::R73::⟨B2,(D.flatMap eN3)⟩::((D.flatMap eN4)++((D8.flatMap eN5)++[]))):=ST.subR hS196 (subc hm16 (fun _ h=>h))
      refine cw_mid (fun f w=>∃ (B43:Option Addr) (B44:Option Addr) (c43:Nat) (B45:Option Addr) (c44:Nat) (B46:Option Addr) (c45:Nat),FF f [(3,pt (aD b) 0),(4,pt (aD b1) 0),(6,pt (aD b2) 0),(8,.slice (aD b3) 3125 3125),(9,.slice B34 list2.length c34),(13,vi (i64.wrap ((shlK .i64 1 (IntKind.u64.wrap (c1.Gates.length:Int)))-1))),(14,vi i3),(19,pt B43 0),(108,.slice B g.Edges.length c),(109,vi (g.Edges.length:Int)),(110,vi (i4:Int))]∧Org w0 [] (R74::R73::⟨B2,(D.flatMap eN3)⟩::((D.flatMap eN4)++[])) [⟨B44,(r_10.place.flatMap encI)⟩]∧r_10.place.length≤c43∧ST w0 [] w (O1::O0::O2::O10::O9::⟨B43,122,[.slice B44 r_10.place.length c43,.slice B45 r_10.done.length c44,vi r_10.from_,.slice B46 r_10.steps.length c45],4⟩::⟨B45,4,(r_10.done.flatMap encB),c44*1⟩::⟨B46,60,(r_10.steps.flatMap eN0),c45*3⟩::(D7.map (orow 3 encI 1))) (⟨B44,(r_10.place.flatMap encI)⟩::R81::R79::R78::R77::R76::R75::R74::R73::⟨B2,(D.flatMap eN3)⟩::((D.flatMap eN4)++((D8.flatMap eN5)++[])))) ?_ ?_
      ·skip
       refine ra_start (hS197.sg 6 [0,1,2,3,4,5]).fn (by kernel_rfl) ?_
       have hS199:=hS197.drew
       refine rq 0 114 (v:=.agg V144.toArray) rfl (hS199.sg 6 [0,1,2,3,4,5]) (fun w' hw'=>(yb (aD b) 0 V144 K5 K3 (ST.cf hw' (i:=0) rfl) rfl (hf6.g 3 0))) ?_
       refine rq 1 115 (v:=.agg V138.toArray) rfl (hS199.sg 6 [0,1,2,3,4,5]) (fun w' hw'=>(yb (aD b1) 0 V138 K14 K7 (ST.cf hw' (i:=1) rfl) rfl (hf6.g 4 1))) ?_
       refine rq 2 116 rfl (hS199.sg 6 [0,1,2,3,4,5]) (fun w' hw'=>(ym (.slice B34 list2.length c34) rfl (hf6.g 9 4))) ?_
       refine rq 3 117 rfl (hS199.sg 6 [0,1,2,3,4,5]) (fun w' hw'=>(ym (vi i3) rfl (hf6.g 14 6))) ?_
       refine rq 4 118 (v:=pt B34 (i3.toNat*4)) rfl (hS199.sg 6 [0,1,2,3,4,5]) (fun w' hw'=>(Y_index (B:=B34) (m:=list2.length) (c:=c34) (k:=.i64) (i:=i3) K72 K28 rfl rfl rfl (gi_isSome encD_l23Node_len rfl (ST.cf hw' (i:=4) rfl) hp5) (getI_nn hp5) (getI_ltI hp5 (dl_len hD15)))) ?_
       refine rq 5 119 (v:=pt B34 (i3.toNat*4+0)) rfl (hS199.sg 6 [0,1,2,3,4,5]) (fun w' hw'=>(yd B34 (i3.toNat*4) 0 K102 K11)) ?_
       refine rq 6 120 rfl (hS199.sg 6 [0,1,2,3,4,5]) (fun w' hw'=>(yl B34 (i3.toNat*4+0) (D8.flatMap eN6) (.slice B36 x6.place.length c36) K25 (ST.cf hw' (i:=4) rfl) rfl rfl (gi_at encD_l23Node_len hp5 rfl))) ?_
       refine rq 7 121 (v:=pt (aD b10) 0) rfl (hS199.sg 6 [0,1,2,3,4,5]) (fun w' hw'=>(yd (aD b10) 0 0 K55 K0)) ?_
       refine rq 8 122 rfl (hS199.sg 6 [0,1,2,3,4,5]) (fun w' hw'=>(yl (aD b10) 0 [vi x5.A,vi x5.B] (vi x5.A) K1 (ST.cf hw' (i:=5) rfl))) ?_
       refine rq 9 123 (v:=pt (aD b10) 1) rfl (hS199.sg 6 [0,1,2,3,4,5]) (fun w' hw'=>(yd (aD b10) 0 0 K63 K0)) ?_
       refine rq 10 124 rfl (hS199.sg 6 [0,1,2,3,4,5]) (fun w' hw'=>(yl (aD b10) 1 [vi x5.A,vi x5.B] (vi x5.B) K1 (ST.cf hw' (i:=5) rfl))) ?_
       refine rq 12 126 rfl (hS199.sg 6 [0,1,2,3,4,5]) (fun w' hw'=>(ym (.slice B34 list2.length c34) rfl (hf6.g 9 4))) ?_
       refine rq 13 127 rfl (hS199.sg 6 [0,1,2,3,4,5]) (fun w' hw'=>(ym (vi i3) rfl (hf6.g 14 6))) ?_
       refine rq 14 128 (v:=pt B34 (i3.toNat*4)) rfl (hS199.sg 6 [0,1,2,3,4,5]) (fun w' hw'=>(Y_index (B:=B34) (m:=list2.length) (c:=c34) (k:=.i64) (i:=i3) K72 K28 rfl rfl rfl (gi_isSome encD_l23Node_len rfl (ST.cf hw' (i:=4) rfl) hp5) (getI_nn hp5) (getI_ltI hp5 (dl_len hD15)))) ?_
       refine rq 15 129 (v:=pt B34 (i3.toNat*4+1)) rfl (hS199.sg 6 [0,1,2,3,4,5]) (fun w' hw'=>(yd B34 (i3.toNat*4) 0 K89 K40)) ?_
       refine rq 16 130 rfl (hS199.sg 6 [0,1,2,3,4,5]) (fun w' hw'=>(yl B34 (i3.toNat*4+1) (D8.flatMap eN6) (.slice B37 x6.done.length c37) K56 (ST.cf hw' (i:=4) rfl) rfl rfl (gi_at encD_l23Node_len hp5 rfl))) ?_
       refine rq 17 131 rfl (hS199.sg 6 [0,1,2,3,4,5]) (fun w' hw'=>(ym (vi i3) rfl (hf6.g 14 6))) ?_
       refine rq 18 132 (v:=pt (aD b10) 0) rfl (hS199.sg 6 [0,1,2,3,4,5]) (fun w' hw'=>(yd (aD b10) 0 0 K55 K0)) ?_
       refine rq 19 133 rfl (hS199.sg 6 [0,1,2,3,4,5]) (fun w' hw'=>(yl (aD b10) 0 [vi x5.A,vi x5.B] (vi x5.A) K1 (ST.cf hw' (i:=5) rfl))) ?_
       refine rq 20 134 (v:=pt (aD b10) 1) rfl (hS199.sg 6 [0,1,2,3,4,5]) (fun w' hw'=>(yd (aD b10) 0 0 K63 K0)) ?_
       refine rq 21 135 rfl (hS199.sg 6 [0,1,2,3,4,5]) (fun w' hw'=>(yl (aD b10) 1 [vi x5.A,vi x5.B] (vi x5.B) K1 (ST.cf hw' (i:=5) rfl))) ?_
       let V151:List Value:=[vi (-1),vi x5.A,vi x5.B]
       refine rq 22 136 (v:=.agg V151.toArray) rfl (hS199.sg 6 [0,1,2,3,4,5]) (fun w' hw'=>(Y_buildS (zs:=[vi 0,vi 0,vi 0]) (vs:=[(0,vi (-1)),(1,vi x5.A),(2,vi x5.B)]) (cs:=V151) K82 K23 rfl (mpc rfl (mpc rfl (mpc rfl mpn))) rfl)) ?_
       refine rA [11,23,26] ?_
       let V152:List Value:=[.slice B36 x6.place.length c36,vi x5.A,vi x5.B]
       refine rC 125 11 rfl (yC V152 K99 (c_spec_l23Swap x6.place x5.A x5.B B36 c36 x6.place.length _ rfl (hS199.inn0 [(true,2)] rfl) hc7)) ?_ ?_
       ·rintro _ w_80 ⟨B39,c39,rfl,hd20⟩
        have hS200:=hS199.out0 hd20
        let O33:Ob:=⟨B39,3,(r_9.flatMap encI),c39*1⟩
        have hS201:ST w0 [] _ (O1::O0::O2::O10::O9::O14::O33::(D7.map (orow 3 encI 1))) (R81::R79::R78::R77::R76::R75::R74::R73::⟨B2,(D.flatMap eN3)⟩::((D.flatMap eN4)++((D8.flatMap eN5)++[]))):=ST.rot (pre:=[O1,O0,O2,O10,O9,O14]) (G:=(D7.map (orow 3 encI 1))) (xs:=[O33]) hS200
        refine ⟨(hS201.sg 7 [0,1,2,3,4,5]),?_⟩
        refine rA [23,26] ?_
        refine rS 137 23 rfl (Ys_bslice (s:=3) (len:=1) (vs:=[(0,.agg V151.toArray)]) (cs:=V151) (zs:=[vi 0,vi 0,vi 0]) (m:=3) hS201 K9 K8 K50 rfl (mpc rfl mpn) rfl rfl rfl (by kernel_rfl) (by kernel_rfl) rfl) ?_ ?_
        ·rintro _ w_81 ⟨b11,rfl,hS202⟩
         let O16:Ob:=⟨aD b11,60,([(TRouteStep.mk (-1) x5.A x5.B)].flatMap eN0),1*3⟩
         have hS203:ST w0 [] _ (O1::O0::O2::O10::O9::O14::O33::O16::(D7.map (orow 3 encI 1))) (R81::R79::R78::R77::R76::R75::R74::R73::⟨B2,(D.flatMap eN3)⟩::((D.flatMap eN4)++((D8.flatMap eN5)++[]))):=ST.rot (pre:=[O1,O0,O2,O10,O9,O14,O33]) (G:=(D7.map (orow 3 encI 1))) (xs:=[O16]) hS202
         refine ⟨(hS203.sg 8 [0,1,2,3,4,5]),?_⟩
         let V122:List Value:=[.slice B39 r_9.length c39,.slice B37 x6.done.length c37,vi i3,.slice (aD b11) 1 1]
         let V126:List Value:=[.slice none 0 0,.slice none 0 0,vi 0,.slice none 0 0]
         refine rq 24 138 (v:=.agg V122.toArray) rfl (hS203.sg 8 [0,1,2,3,4,5]) (fun w' hw'=>(Y_buildS (zs:=V126) (vs:=[(0,.slice B39 r_9.length c39),(1,.slice B37 x6.done.length c37),(2,vi i3),(3,.slice (aD b11) 1 1)]) (cs:=V122) K65 K33 rfl (mpc rfl (mpc rfl (mpc rfl (mpc rfl mpn)))) rfl)) ?_
         refine rA [25,26] ?_
         let R86:Ro:=⟨B39,(r_9.flatMap encI)⟩
         have ho42:Org w0 [] (R74::R73::⟨B2,(D.flatMap eN3)⟩::((D.flatMap eN4)++[])) [R86]:=ST.orgOwn hS203 (i:=6) rfl
         have hcap21:r_9.length≤c39:=(hS203.lencap (i:=6) rfl (fm_lenn (l:=r_9) encI_len rfl) rfl rfl)
         have hS204:ST w0 [] _ (O1::O0::O2::O10::O9::O14::O16::(D7.map (orow 3 encI 1))) (R86::R81::R79::R78::R77::R76::R75::R74::R73::⟨B2,(D.flatMap eN3)⟩::((D.flatMap eN4)++((D8.flatMap eN5)++[]))):=hS203.freeze (i:=6) rfl
         refine rC 139 25 rfl (yC [.agg V144.toArray,.agg V138.toArray,.agg V122.toArray] K58 (c_spec_l23Run g c1 (Tl23Node.mk r_9 x6.done i3 [(TRouteStep.mk (-1) x5.A x5.B)]) B c g.Edges.length B1 c2 c1.Gates.length B39 c39 r_9.length B37 c37 x6.done.length (aD b11) 1 1 _ rfl rfl rfl hcap21 rfl rfl (hS204.inn [false,false,false,false,false,false,true] rfl [(true,7),(true,8),(true,0),(true,2)] rfl) hc8)) ?_ ?_
         ·rintro _ w_82 ⟨B40,c40,B41,c41,B42,c42,rfl,hq2,ho38,hd21⟩
          have hS205:=ST.outRG (pre:=[O1,O0,O2,O10,O9,O14,O16]) (G:=(D7.map (orow 3 encI 1))) hS204 [false,false,false,false,false,false,true] rfl hd21 ho38 (sk 7 (sk 8 (sk 0 (sk 2 (fun _ h=>by cases h)))))
          let R82:Ro:=⟨B40,(r_10.place.flatMap encI)⟩
          have ho43:Org w0 [] (R74::R73::⟨B2,(D.flatMap eN3)⟩::((D.flatMap eN4)++[])) [R82]:=org_trans hS204 (msk_mem (mask:=[false,false,false,false,false,false,true]) rfl) ho38 (org_cons (org_mem (i:=0) rfl) (org_cons (org_mem (i:=1) rfl) (org_cons ho42 (org_cons (org_sub ho36 (subc (row_mem (rw_:=eN5) hp5 _ (mt 1)) (fun _ h=>by cases h))) org_nil))))
          let O28:Ob:=⟨B42,60,(r_10.steps.flatMap eN0),c42*3⟩
          let O30:Ob:=⟨B41,4,(r_10.done.flatMap encB),c41*1⟩
          have hS206:ST w0 [] _ (O1::O0::O2::O10::O9::O14::O30::O28::(D7.map (orow 3 encI 1))) (R82::R86::R81::R79::R78::R77::R76::R75::R74::R73::⟨B2,(D.flatMap eN3)⟩::((D.flatMap eN4)++((D8.flatMap eN5)++[]))):=hS205
          refine ⟨((hS206.sg 8 [0,1,2,3,4,5]).sR 11 [2,3,4,5,6,7,8,9,10]),?_⟩
          refine rA [26] ?_
          refine rS 19 26 rfl (yN V126 4 hS206 K33) ?_ aN
          rintro _ w_83 ⟨b12,rfl,hS207⟩
          let O8:Ob:=⟨aD b12,122,V126,4⟩
          have hS208:ST w0 [] _ (O1::O0::O2::O10::O9::O14::O30::O28::O8::(D7.map (orow 3 encI 1))) (R82::R86::R81::R79::R78::R77::R76::R75::R74::R73::⟨B2,(D.flatMap eN3)⟩::((D.flatMap eN4)++((D8.flatMap eN5)++[]))):=ST.rot (pre:=[O1,O0,O2,O10,O9,O14,O30,O28]) (G:=(D7.map (orow 3 encI 1))) (xs:=[O8]) hS207
          refine ⟨((hS208.sg 9 [0,1,2,3,4,5]).sR 11 [2,3,4,5,6,7,8,9,10]),?_⟩
          refine rA [27] ?_
          let V107:List Value:=[.slice B40 r_10.place.length c40,.slice B41 r_10.done.length c41,vi r_10.from_,.slice B42 r_10.steps.length c42]
          refine rZ 27 rfl (yT 8 4 (aD b12) 122 (.agg V107.toArray) V107 0 hS208 K28) ?_ aN
          rintro _ w_84 ⟨rfl,hS209⟩
          refine ⟨((hS209.sg 9 [0,1,2,3,4,5]).sR 11 [2,3,4,5,6,7,8,9,10]),?_⟩
          refine ra_done (by kernel_rfl) ?_
          have hS210:ST w0 [] _ (O1::O0::O2::O10::O9::O14::O30::O28::⟨aD b12,122,V107,4⟩::(D7.map (orow 3 encI 1))) (R82::R81::R79::R78::R77::R76::R75::R74::R73::⟨B2,(D.flatMap eN3)⟩::((D.flatMap eN4)++((D8.flatMap eN5)++[]))):=hS209.sR 11 [0,2,3,4,5,6,7,8,9,10]
          exact ⟨aD b12,B40,c40,B41,c41,B42,c42,(hf6.a 3 0 (hf6.a 4 1 (hf6.a 6 2 (hf6.a 8 3 (hf6.a 9 4 (hf6.a 13 5 (hf6.a 14 6 (fc rfl (hf6.a 108 7 (hf6.a 109 8 (hf6.a 110 9 fn_))))))))))),(org_sub ho43 (sk 0 (fun _ h=>by cases h))),(len_le rfl hq2),(hS210.sg 9 [0,1,2,3,4,8,6,7])⟩
         refine rS 19 26 rfl (yN V126 4 hS203 K33) ?_ aN
         rintro _ w_85 ⟨b12,rfl,hS211⟩
         let O11:Ob:=⟨aD b12,122,V126,4⟩
         have hS212:ST w0 [] _ (O1::O0::O2::O10::O9::O14::O33::O16::O11::(D7.map (orow 3 encI 1))) (R81::R79::R78::R77::R76::R75::R74::R73::⟨B2,(D.flatMap eN3)⟩::((D.flatMap eN4)++((D8.flatMap eN5)++[]))):=ST.rot (pre:=[O1,O0,O2,O10,O9,O14,O33,O16]) (G:=(D7.map (orow 3 encI 1))) (xs:=[O11]) hS211
         refine ⟨(hS212.sg 9 [0,1,2,3,4,5]),?_⟩
         refine rA [25] ?_
         have ho44:Org w0 [] (R74::R73::⟨B2,(D.flatMap eN3)⟩::((D.flatMap eN4)++[])) [R86]:=ST.orgOwn hS212 (i:=6) rfl
         have hcap22:r_9.length≤c39:=(hS212.lencap (i:=6) rfl (fm_lenn (l:=r_9) encI_len rfl) rfl rfl)
         have hS213:ST w0 [] _ (O1::O0::O2::O10::O9::O14::O16::O11::(D7.map (orow 3 encI 1))) (R86::R81::R79::R78::R77::R76::R75::R74::R73::⟨B2,(D.flatMap eN3)⟩::((D.flatMap eN4)++((D8.flatMap eN5)++[]))):=hS212.freeze (i:=6) rfl
         refine rC 139 25 rfl (yC [.agg V144.toArray,.agg V138.toArray,.agg V122.toArray] K58 (c_spec_l23Run g c1 (Tl23Node.mk r_9 x6.done i3 [(TRouteStep.mk (-1) x5.A x5.B)]) B c g.Edges.length B1 c2 c1.Gates.length B39 c39 r_9.length B37 c37 x6.done.length (aD b11) 1 1 _ rfl rfl rfl hcap22 rfl rfl (hS213.inn [false,false,false,false,false,false,true,false] rfl [(true,7),(true,8),(true,0),(true,2)] rfl) hc8)) ?_ aN
         rintro _ w_86 ⟨B40,c40,B41,c41,B42,c42,rfl,hq2,ho38,hd22⟩
         have hS214:=ST.outRG (pre:=[O1,O0,O2,O10,O9,O14,O16,O11]) (G:=(D7.map (orow 3 encI 1))) hS213 [false,false,false,false,false,false,true,false] rfl hd22 ho38 (sk 7 (sk 8 (sk 0 (sk 2 (fun _ h=>by cases h)))))
         have ho45:Org w0 [] (R74::R73::⟨B2,(D.flatMap eN3)⟩::((D.flatMap eN4)++[])) [⟨B40,(r_10.place.flatMap encI)⟩]:=org_trans hS213 (msk_mem (mask:=[false,false,false,false,false,false,true,false]) rfl) ho38 (org_cons (org_mem (i:=0) rfl) (org_cons (org_mem (i:=1) rfl) (org_cons ho44 (org_cons (org_sub ho36 (subc (row_mem (rw_:=eN5) hp5 _ (mt 1)) (fun _ h=>by cases h))) org_nil))))
         have hS215:ST w0 [] _ (O1::O0::O2::O10::O9::O14::O11::⟨B41,4,(r_10.done.flatMap encB),c41*1⟩::⟨B42,60,(r_10.steps.flatMap eN0),c42*3⟩::(D7.map (orow 3 encI 1))) (⟨B40,(r_10.place.flatMap encI)⟩::R86::R81::R79::R78::R77::R76::R75::R74::R73::⟨B2,(D.flatMap eN3)⟩::((D.flatMap eN4)++((D8.flatMap eN5)++[]))):=hS214
         refine ⟨((hS215.sg 9 [0,1,2,3,4,5]).sR 11 [2,3,4,5,6,7,8,9,10]),?_⟩
         refine rA [27] ?_
         let V109:List Value:=[.slice B40 r_10.place.length c40,.slice B41 r_10.done.length c41,vi r_10.from_,.slice B42 r_10.steps.length c42]
         refine rZ 27 rfl (yT 6 4 (aD b12) 122 (.agg V109.toArray) V109 0 hS215 K28) ?_ aN
         rintro _ w_87 ⟨rfl,hS216⟩
         refine ⟨((hS216.sg 9 [0,1,2,3,4,5]).sR 11 [2,3,4,5,6,7,8,9,10]),?_⟩
         refine ra_done (by kernel_rfl) ?_
         have hS217:ST w0 [] _ (O1::O0::O2::O10::O9::O14::⟨aD b12,122,V109,4⟩::⟨B41,4,(r_10.done.flatMap encB),c41*1⟩::⟨B42,60,(r_10.steps.flatMap eN0),c42*3⟩::(D7.map (orow 3 encI 1))) (⟨B40,(r_10.place.flatMap encI)⟩::R81::R79::R78::R77::R76::R75::R74::R73::⟨B2,(D.flatMap eN3)⟩::((D.flatMap eN4)++((D8.flatMap eN5)++[]))):=hS216.sR 11 [0,2,3,4,5,6,7,8,9,10]
         exact ⟨aD b12,B40,c40,B41,c41,B42,c42,(hf6.a 3 0 (hf6.a 4 1 (hf6.a 6 2 (hf6.a 8 3 (hf6.a 9 4 (hf6.a 13 5 (hf6.a 14 6 (fc rfl (hf6.a 108 7 (hf6.a 109 8 (hf6.a 110 9 fn_))))))))))),(org_sub ho45 (sk 0 (fun _ h=>by cases h))),(len_le rfl hq2),(hS217.sg 9 [0,1,2,3,4,6,7,8])⟩
        let V131:List Value:=[.slice none 0 0,.slice none 0 0,vi 0,.slice none 0 0]
        refine rS 19 26 rfl (yN V131 4 hS201 K33) ?_ aN
        rintro _ w_88 ⟨b12,rfl,hS218⟩
        let O13:Ob:=⟨aD b12,122,V131,4⟩
        have hS219:ST w0 [] _ (O1::O0::O2::O10::O9::O14::O33::O13::(D7.map (orow 3 encI 1))) (R81::R79::R78::R77::R76::R75::R74::R73::⟨B2,(D.flatMap eN3)⟩::((D.flatMap eN4)++((D8.flatMap eN5)++[]))):=ST.rot (pre:=[O1,O0,O2,O10,O9,O14,O33]) (G:=(D7.map (orow 3 encI 1))) (xs:=[O13]) hS218
        refine ⟨(hS219.sg 8 [0,1,2,3,4,5]),?_⟩
        refine rA [23] ?_
        refine rS 137 23 rfl (Ys_bslice (s:=3) (len:=1) (vs:=[(0,.agg V151.toArray)]) (cs:=V151) (zs:=[vi 0,vi 0,vi 0]) (m:=3) hS219 K9 K8 K50 rfl (mpc rfl mpn) rfl rfl rfl (by kernel_rfl) (by kernel_rfl) rfl) ?_ aN
        rintro _ w_89 ⟨b11,rfl,hS220⟩
        let O21:Ob:=⟨aD b11,60,([(TRouteStep.mk (-1) x5.A x5.B)].flatMap eN0),1*3⟩
        have hS221:ST w0 [] _ (O1::O0::O2::O10::O9::O14::O33::O13::O21::(D7.map (orow 3 encI 1))) (R81::R79::R78::R77::R76::R75::R74::R73::⟨B2,(D.flatMap eN3)⟩::((D.flatMap eN4)++((D8.flatMap eN5)++[]))):=ST.rot (pre:=[O1,O0,O2,O10,O9,O14,O33,O13]) (G:=(D7.map (orow 3 encI 1))) (xs:=[O21]) hS220
        refine ⟨(hS221.sg 9 [0,1,2,3,4,5]),?_⟩
        let V129:List Value:=[.slice B39 r_9.length c39,.slice B37 x6.done.length c37,vi i3,.slice (aD b11) 1 1]
        refine rq 24 138 (v:=.agg V129.toArray) rfl (hS221.sg 9 [0,1,2,3,4,5]) (fun w' hw'=>(Y_buildS (zs:=V131) (vs:=[(0,.slice B39 r_9.length c39),(1,.slice B37 x6.done.length c37),(2,vi i3),(3,.slice (aD b11) 1 1)]) (cs:=V129) K65 K33 rfl (mpc rfl (mpc rfl (mpc rfl (mpc rfl mpn)))) rfl)) ?_
        refine rA [25] ?_
        let R91:Ro:=⟨B39,(r_9.flatMap encI)⟩
        have ho46:Org w0 [] (R74::R73::⟨B2,(D.flatMap eN3)⟩::((D.flatMap eN4)++[])) [R91]:=ST.orgOwn hS221 (i:=6) rfl
        have hcap23:r_9.length≤c39:=(hS221.lencap (i:=6) rfl (fm_lenn (l:=r_9) encI_len rfl) rfl rfl)
        have hS222:ST w0 [] _ (O1::O0::O2::O10::O9::O14::O13::O21::(D7.map (orow 3 encI 1))) (R91::R81::R79::R78::R77::R76::R75::R74::R73::⟨B2,(D.flatMap eN3)⟩::((D.flatMap eN4)++((D8.flatMap eN5)++[]))):=hS221.freeze (i:=6) rfl
        refine rC 139 25 rfl (yC [.agg V144.toArray,.agg V138.toArray,.agg V129.toArray] K58 (c_spec_l23Run g c1 (Tl23Node.mk r_9 x6.done i3 [(TRouteStep.mk (-1) x5.A x5.B)]) B c g.Edges.length B1 c2 c1.Gates.length B39 c39 r_9.length B37 c37 x6.done.length (aD b11) 1 1 _ rfl rfl rfl hcap23 rfl rfl (hS222.inn [false,false,false,false,false,false,false,true] rfl [(true,7),(true,8),(true,0),(true,2)] rfl) hc8)) ?_ aN
        rintro _ w_90 ⟨B40,c40,B41,c41,B42,c42,rfl,hq2,ho38,hd23⟩
        have hS223:=ST.outRG (pre:=[O1,O0,O2,O10,O9,O14,O13,O21]) (G:=(D7.map (orow 3 encI 1))) hS222 [false,false,false,false,false,false,false,true] rfl hd23 ho38 (sk 7 (sk 8 (sk 0 (sk 2 (fun _ h=>by cases h)))))
        let R85:Ro:=⟨B40,(r_10.place.flatMap encI)⟩
        have ho47:Org w0 [] (R74::R73::⟨B2,(D.flatMap eN3)⟩::((D.flatMap eN4)++[])) [R85]:=org_trans hS222 (msk_mem (mask:=[false,false,false,false,false,false,false,true]) rfl) ho38 (org_cons (org_mem (i:=0) rfl) (org_cons (org_mem (i:=1) rfl) (org_cons ho46 (org_cons (org_sub ho36 (subc (row_mem (rw_:=eN5) hp5 _ (mt 1)) (fun _ h=>by cases h))) org_nil))))
        let O36:Ob:=⟨B42,60,(r_10.steps.flatMap eN0),c42*3⟩
        let O37:Ob:=⟨B41,4,(r_10.done.flatMap encB),c41*1⟩
        let P159:List Ob:=(O1::O0::O2::O10::O9::O14::O13::O37::O36::(D7.map (orow 3 encI 1)))
        have hS224:ST w0 [] _ P159 (R85::R91::R81::R79::R78::R77::R76::R75::R74::R73::⟨B2,(D.flatMap eN3)⟩::((D.flatMap eN4)++((D8.flatMap eN5)++[]))):=hS223
        have hS224:ST w0 [] _ P159 (R85::R91::R81::R79::R78::R77::R76::R75::R74::R73::⟨B2,(D.flatMap eN3)⟩::((D.flatMap eN4)++((D8.flatMap eN5)++[]))):=hS224
        refine ⟨((hS224.sg 9 [0,1,2,3,4,5]).sR 11 [2,3,4,5,6,7,8,9,10]),?_⟩
        refine rA [27] ?_
        let V112:List Value:=[.slice B40 r_10.place.length c40,.slice B41 r_10.done.length c41,vi r_10.from_,.slice B42 r_10.steps.length c42]
        refine rZ 27 rfl (yT 6 4 (aD b12) 122 (.agg V112.toArray) V112 0 hS224 K28) ?_ aN
        rintro _ w_91 ⟨rfl,hS225⟩
        refine ⟨((hS225.sg 9 [0,1,2,3,4,5]).sR 11 [2,3,4,5,6,7,8,9,10]),?_⟩
        refine ra_done (by kernel_rfl) ?_
        have hS226:ST w0 [] _ (O1::O0::O2::O10::O9::O14::⟨aD b12,122,V112,4⟩::O37::O36::(D7.map (orow 3 encI 1))) (R85::R81::R79::R78::R77::R76::R75::R74::R73::⟨B2,(D.flatMap eN3)⟩::((D.flatMap eN4)++((D8.flatMap eN5)++[]))):=hS225.sR 11 [0,2,3,4,5,6,7,8,9,10]
        exact ⟨aD b12,B40,c40,B41,c41,B42,c42,(hf6.a 3 0 (hf6.a 4 1 (hf6.a 6 2 (hf6.a 8 3 (hf6.a 9 4 (hf6.a 13 5 (hf6.a 14 6 (fc rfl (hf6.a 108 7 (hf6.a 109 8 (hf6.a 110 9 fn_))))))))))),(org_sub ho47 (sk 0 (fun _ h=>by cases h))),(len_le rfl hq2),(hS226.sg 9 [0,1,2,3,4,6,7,8])⟩
       refine rS 137 23 rfl (Ys_bslice (s:=3) (len:=1) (vs:=[(0,.agg V151.toArray)]) (cs:=V151) (zs:=[vi 0,vi 0,vi 0]) (m:=3) hS199 K9 K8 K50 rfl (mpc rfl mpn) rfl rfl rfl (by kernel_rfl) (by kernel_rfl) rfl) ?_ ?_
       ·rintro _ w_92 ⟨b11,rfl,hS227⟩
        let O24:Ob:=⟨aD b11,60,([(TRouteStep.mk (-1) x5.A x5.B)].flatMap eN0),1*3⟩
        have hS228:ST w0 [] _ (O1::O0::O2::O10::O9::O14::O24::(D7.map (orow 3 encI 1))) (R81::R79::R78::R77::R76::R75::R74::R73::⟨B2,(D.flatMap eN3)⟩::((D.flatMap eN4)++((D8.flatMap eN5)++[]))):=ST.rot (pre:=[O1,O0,O2,O10,O9,O14]) (G:=(D7.map (orow 3 encI 1))) (xs:=[O24]) hS227
        refine ⟨(hS228.sg 7 [0,1,2,3,4,5]),?_⟩
        refine rA [11,26] ?_
        refine rC 125 11 rfl (yC V152 K99 (c_spec_l23Swap x6.place x5.A x5.B B36 c36 x6.place.length _ rfl (hS228.inn0 [(true,2)] rfl) hc7)) ?_ ?_
        ·rintro _ w_93 ⟨B39,c39,rfl,hd24⟩
         have hS229:=hS228.out0 hd24
         let O51:Ob:=⟨B39,3,(r_9.flatMap encI),c39*1⟩
         have hS230:ST w0 [] _ (O1::O0::O2::O10::O9::O14::O24::O51::(D7.map (orow 3 encI 1))) (R81::R79::R78::R77::R76::R75::R74::R73::⟨B2,(D.flatMap eN3)⟩::((D.flatMap eN4)++((D8.flatMap eN5)++[]))):=ST.rot (pre:=[O1,O0,O2,O10,O9,O14,O24]) (G:=(D7.map (orow 3 encI 1))) (xs:=[O51]) hS229
         refine ⟨(hS230.sg 8 [0,1,2,3,4,5]),?_⟩
         let V133:List Value:=[.slice B39 r_9.length c39,.slice B37 x6.done.length c37,vi i3,.slice (aD b11) 1 1]
         let V134:List Value:=[.slice none 0 0,.slice none 0 0,vi 0,.slice none 0 0]
         refine rq 24 138 (v:=.agg V133.toArray) rfl (hS230.sg 8 [0,1,2,3,4,5]) (fun w' hw'=>(Y_buildS (zs:=V134) (vs:=[(0,.slice B39 r_9.length c39),(1,.slice B37 x6.done.length c37),(2,vi i3),(3,.slice (aD b11) 1 1)]) (cs:=V133) K65 K33 rfl (mpc rfl (mpc rfl (mpc rfl (mpc rfl mpn)))) rfl)) ?_
         refine rA [25,26] ?_
         let R93:Ro:=⟨B39,(r_9.flatMap encI)⟩
         have ho48:Org w0 [] (R74::R73::⟨B2,(D.flatMap eN3)⟩::((D.flatMap eN4)++[])) [R93]:=ST.orgOwn hS230 (i:=7) rfl
         have hcap24:r_9.length≤c39:=(hS230.lencap (i:=7) rfl (fm_lenn (l:=r_9) encI_len rfl) rfl rfl)
         have hS231:ST w0 [] _ (O1::O0::O2::O10::O9::O14::O24::(D7.map (orow 3 encI 1))) (R93::R81::R79::R78::R77::R76::R75::R74::R73::⟨B2,(D.flatMap eN3)⟩::((D.flatMap eN4)++((D8.flatMap eN5)++[]))):=hS230.freeze (i:=7) rfl
         refine rC 139 25 rfl (yC [.agg V144.toArray,.agg V138.toArray,.agg V133.toArray] K58 (c_spec_l23Run g c1 (Tl23Node.mk r_9 x6.done i3 [(TRouteStep.mk (-1) x5.A x5.B)]) B c g.Edges.length B1 c2 c1.Gates.length B39 c39 r_9.length B37 c37 x6.done.length (aD b11) 1 1 _ rfl rfl rfl hcap24 rfl rfl (hS231.inn [false,false,false,false,false,false,true] rfl [(true,7),(true,8),(true,0),(true,2)] rfl) hc8)) ?_ ?_
         ·rintro _ w_94 ⟨B40,c40,B41,c41,B42,c42,rfl,hq2,ho38,hd25⟩
          have hS232:=ST.outRG (pre:=[O1,O0,O2,O10,O9,O14,O24]) (G:=(D7.map (orow 3 encI 1))) hS231 [false,false,false,false,false,false,true] rfl hd25 ho38 (sk 7 (sk 8 (sk 0 (sk 2 (fun _ h=>by cases h)))))
          let R89:Ro:=⟨B40,(r_10.place.flatMap encI)⟩
          have ho49:Org w0 [] (R74::R73::⟨B2,(D.flatMap eN3)⟩::((D.flatMap eN4)++[])) [R89]:=org_trans hS231 (msk_mem (mask:=[false,false,false,false,false,false,true]) rfl) ho38 (org_cons (org_mem (i:=0) rfl) (org_cons (org_mem (i:=1) rfl) (org_cons ho48 (org_cons (org_sub ho36 (subc (row_mem (rw_:=eN5) hp5 _ (mt 1)) (fun _ h=>by cases h))) org_nil))))
          let O43:Ob:=⟨B42,60,(r_10.steps.flatMap eN0),c42*3⟩
          let O44:Ob:=⟨B41,4,(r_10.done.flatMap encB),c41*1⟩
          have hS233:ST w0 [] _ (O1::O0::O2::O10::O9::O14::O44::O43::(D7.map (orow 3 encI 1))) (R89::R93::R81::R79::R78::R77::R76::R75::R74::R73::⟨B2,(D.flatMap eN3)⟩::((D.flatMap eN4)++((D8.flatMap eN5)++[]))):=hS232
          refine ⟨((hS233.sg 8 [0,1,2,3,4,5]).sR 11 [2,3,4,5,6,7,8,9,10]),?_⟩
          refine rA [26] ?_
          refine rS 19 26 rfl (yN V134 4 hS233 K33) ?_ aN
          rintro _ w_95 ⟨b12,rfl,hS234⟩
          let O19:Ob:=⟨aD b12,122,V134,4⟩
          have hS235:ST w0 [] _ (O1::O0::O2::O10::O9::O14::O44::O43::O19::(D7.map (orow 3 encI 1))) (R89::R93::R81::R79::R78::R77::R76::R75::R74::R73::⟨B2,(D.flatMap eN3)⟩::((D.flatMap eN4)++((D8.flatMap eN5)++[]))):=ST.rot (pre:=[O1,O0,O2,O10,O9,O14,O44,O43]) (G:=(D7.map (orow 3 encI 1))) (xs:=[O19]) hS234
          refine ⟨((hS235.sg 9 [0,1,2,3,4,5]).sR 11 [2,3,4,5,6,7,8,9,10]),?_⟩
          refine rA [27] ?_
          let V115:List Value:=[.slice B40 r_10.place.length c40,.slice B41 r_10.done.length c41,vi r_10.from_,.slice B42 r_10.steps.length c42]
          refine rZ 27 rfl (yT 8 4 (aD b12) 122 (.agg V115.toArray) V115 0 hS235 K28) ?_ aN
          rintro _ w_96 ⟨rfl,hS236⟩
          refine ⟨((hS236.sg 9 [0,1,2,3,4,5]).sR 11 [2,3,4,5,6,7,8,9,10]),?_⟩
          refine ra_done (by kernel_rfl) ?_
          have hS237:ST w0 [] _ (O1::O0::O2::O10::O9::O14::O44::O43::⟨aD b12,122,V115,4⟩::(D7.map (orow 3 encI 1))) (R89::R81::R79::R78::R77::R76::R75::R74::R73::⟨B2,(D.flatMap eN3)⟩::((D.flatMap eN4)++((D8.flatMap eN5)++[]))):=hS236.sR 11 [0,2,3,4,5,6,7,8,9,10]
          exact ⟨aD b12,B40,c40,B41,c41,B42,c42,(hf6.a 3 0 (hf6.a 4 1 (hf6.a 6 2 (hf6.a 8 3 (hf6.a 9 4 (hf6.a 13 5 (hf6.a 14 6 (fc rfl (hf6.a 108 7 (hf6.a 109 8 (hf6.a 110 9 fn_))))))))))),(org_sub ho49 (sk 0 (fun _ h=>by cases h))),(len_le rfl hq2),(hS237.sg 9 [0,1,2,3,4,8,6,7])⟩
         refine rS 19 26 rfl (yN V134 4 hS230 K33) ?_ aN
         rintro _ w_97 ⟨b12,rfl,hS238⟩
         let O20:Ob:=⟨aD b12,122,V134,4⟩
         have hS239:ST w0 [] _ (O1::O0::O2::O10::O9::O14::O24::O51::O20::(D7.map (orow 3 encI 1))) (R81::R79::R78::R77::R76::R75::R74::R73::⟨B2,(D.flatMap eN3)⟩::((D.flatMap eN4)++((D8.flatMap eN5)++[]))):=ST.rot (pre:=[O1,O0,O2,O10,O9,O14,O24,O51]) (G:=(D7.map (orow 3 encI 1))) (xs:=[O20]) hS238
         refine ⟨(hS239.sg 9 [0,1,2,3,4,5]),?_⟩
         refine rA [25] ?_
         have ho50:Org w0 [] (R74::R73::⟨B2,(D.flatMap eN3)⟩::((D.flatMap eN4)++[])) [R93]:=ST.orgOwn hS239 (i:=7) rfl
         have hcap25:r_9.length≤c39:=(hS239.lencap (i:=7) rfl (fm_lenn (l:=r_9) encI_len rfl) rfl rfl)
         have hS240:ST w0 [] _ (O1::O0::O2::O10::O9::O14::O24::O20::(D7.map (orow 3 encI 1))) (R93::R81::R79::R78::R77::R76::R75::R74::R73::⟨B2,(D.flatMap eN3)⟩::((D.flatMap eN4)++((D8.flatMap eN5)++[]))):=hS239.freeze (i:=7) rfl
         refine rC 139 25 rfl (yC [.agg V144.toArray,.agg V138.toArray,.agg V133.toArray] K58 (c_spec_l23Run g c1 (Tl23Node.mk r_9 x6.done i3 [(TRouteStep.mk (-1) x5.A x5.B)]) B c g.Edges.length B1 c2 c1.Gates.length B39 c39 r_9.length B37 c37 x6.done.length (aD b11) 1 1 _ rfl rfl rfl hcap25 rfl rfl (hS240.inn [false,false,false,false,false,false,true,false] rfl [(true,7),(true,8),(true,0),(true,2)] rfl) hc8)) ?_ aN
         rintro _ w_98 ⟨B40,c40,B41,c41,B42,c42,rfl,hq2,ho38,hd26⟩
         have hS241:=ST.outRG (pre:=[O1,O0,O2,O10,O9,O14,O24,O20]) (G:=(D7.map (orow 3 encI 1))) hS240 [false,false,false,false,false,false,true,false] rfl hd26 ho38 (sk 7 (sk 8 (sk 0 (sk 2 (fun _ h=>by cases h)))))
         have ho51:Org w0 [] (R74::R73::⟨B2,(D.flatMap eN3)⟩::((D.flatMap eN4)++[])) [⟨B40,(r_10.place.flatMap encI)⟩]:=org_trans hS240 (msk_mem (mask:=[false,false,false,false,false,false,true,false]) rfl) ho38 (org_cons (org_mem (i:=0) rfl) (org_cons (org_mem (i:=1) rfl) (org_cons ho50 (org_cons (org_sub ho36 (subc (row_mem (rw_:=eN5) hp5 _ (mt 1)) (fun _ h=>by cases h))) org_nil))))
         have hS242:ST w0 [] _ (O1::O0::O2::O10::O9::O14::O20::⟨B41,4,(r_10.done.flatMap encB),c41*1⟩::⟨B42,60,(r_10.steps.flatMap eN0),c42*3⟩::(D7.map (orow 3 encI 1))) (⟨B40,(r_10.place.flatMap encI)⟩::R93::R81::R79::R78::R77::R76::R75::R74::R73::⟨B2,(D.flatMap eN3)⟩::((D.flatMap eN4)++((D8.flatMap eN5)++[]))):=hS241
         refine ⟨((hS242.sg 9 [0,1,2,3,4,5]).sR 11 [2,3,4,5,6,7,8,9,10]),?_⟩
         refine rA [27] ?_
         let V119:List Value:=[.slice B40 r_10.place.length c40,.slice B41 r_10.done.length c41,vi r_10.from_,.slice B42 r_10.steps.length c42]
         refine rZ 27 rfl (yT 6 4 (aD b12) 122 (.agg V119.toArray) V119 0 hS242 K28) ?_ aN
         rintro _ w_99 ⟨rfl,hS243⟩
         refine ⟨((hS243.sg 9 [0,1,2,3,4,5]).sR 11 [2,3,4,5,6,7,8,9,10]),?_⟩
         refine ra_done (by kernel_rfl) ?_
         have hS244:ST w0 [] _ (O1::O0::O2::O10::O9::O14::⟨aD b12,122,V119,4⟩::⟨B41,4,(r_10.done.flatMap encB),c41*1⟩::⟨B42,60,(r_10.steps.flatMap eN0),c42*3⟩::(D7.map (orow 3 encI 1))) (⟨B40,(r_10.place.flatMap encI)⟩::R81::R79::R78::R77::R76::R75::R74::R73::⟨B2,(D.flatMap eN3)⟩::((D.flatMap eN4)++((D8.flatMap eN5)++[]))):=hS243.sR 11 [0,2,3,4,5,6,7,8,9,10]
         exact ⟨aD b12,B40,c40,B41,c41,B42,c42,(hf6.a 3 0 (hf6.a 4 1 (hf6.a 6 2 (hf6.a 8 3 (hf6.a 9 4 (hf6.a 13 5 (hf6.a 14 6 (fc rfl (hf6.a 108 7 (hf6.a 109 8 (hf6.a 110 9 fn_))))))))))),(org_sub ho51 (sk 0 (fun _ h=>by cases h))),(len_le rfl hq2),(hS244.sg 9 [0,1,2,3,4,6,7,8])⟩
        let V143:List Value:=[.slice none 0 0,.slice none 0 0,vi 0,.slice none 0 0]
        refine rS 19 26 rfl (yN V143 4 hS228 K33) ?_ aN
        rintro _ w_100 ⟨b12,rfl,hS245⟩
        let O25:Ob:=⟨aD b12,122,V143,4⟩
        have hS246:ST w0 [] _ (O1::O0::O2::O10::O9::O14::O24::O25::(D7.map (orow 3 encI 1))) (R81::R79::R78::R77::R76::R75::R74::R73::⟨B2,(D.flatMap eN3)⟩::((D.flatMap eN4)++((D8.flatMap eN5)++[]))):=ST.rot (pre:=[O1,O0,O2,O10,O9,O14,O24]) (G:=(D7.map (orow 3 encI 1))) (xs:=[O25]) hS245
        refine ⟨(hS246.sg 8 [0,1,2,3,4,5]),?_⟩
        refine rA [11] ?_
        refine rC 125 11 rfl (yC V152 K99 (c_spec_l23Swap x6.place x5.A x5.B B36 c36 x6.place.length _ rfl (hS246.inn0 [(true,2)] rfl) hc7)) ?_ aN
        rintro _ w_101 ⟨B39,c39,rfl,hd27⟩
        have hS247:=hS246.out0 hd27
        have hS248:ST w0 [] _ (O1::O0::O2::O10::O9::O14::O24::O25::⟨B39,3,(r_9.flatMap encI),c39*1⟩::(D7.map (orow 3 encI 1))) (R81::R79::R78::R77::R76::R75::R74::R73::⟨B2,(D.flatMap eN3)⟩::((D.flatMap eN4)++((D8.flatMap eN5)++[]))):=ST.rot (pre:=[O1,O0,O2,O10,O9,O14,O24,O25]) (G:=(D7.map (orow 3 encI 1))) (xs:=[⟨B39,3,(r_9.flatMap encI),c39*1⟩]) hS247
        refine ⟨(hS248.sg 9 [0,1,2,3,4,5]),?_⟩
        let V141:List Value:=[.slice B39 r_9.length c39,.slice B37 x6.done.length c37,vi i3,.slice (aD b11) 1 1]
        refine rq 24 138 (v:=.agg V141.toArray) rfl (hS248.sg 9 [0,1,2,3,4,5]) (fun w' hw'=>(Y_buildS (zs:=V143) (vs:=[(0,.slice B39 r_9.length c39),(1,.slice B37 x6.done.length c37),(2,vi i3),(3,.slice (aD b11) 1 1)]) (cs:=V141) K65 K33 rfl (mpc rfl (mpc rfl (mpc rfl (mpc rfl mpn)))) rfl)) ?_
        refine rA [25] ?_
        have ho52:Org w0 [] (R74::R73::⟨B2,(D.flatMap eN3)⟩::((D.flatMap eN4)++[])) [⟨B39,(r_9.flatMap encI)⟩]:=ST.orgOwn hS248 (i:=8) rfl
        have hcap26:r_9.length≤c39:=(hS248.lencap (i:=8) rfl (fm_lenn (l:=r_9) encI_len rfl) rfl rfl)
        have hS249:ST w0 [] _ (O1::O0::O2::O10::O9::O14::O24::O25::(D7.map (orow 3 encI 1))) (⟨B39,(r_9.flatMap encI)⟩::R81::R79::R78::R77::R76::R75::R74::R73::⟨B2,(D.flatMap eN3)⟩::((D.flatMap eN4)++((D8.flatMap eN5)++[]))):=hS248.freeze (i:=8) rfl
        refine rC 139 25 rfl (yC [.agg V144.toArray,.agg V138.toArray,.agg V141.toArray] K58 (c_spec_l23Run g c1 (Tl23Node.mk r_9 x6.done i3 [(TRouteStep.mk (-1) x5.A x5.B)]) B c g.Edges.length B1 c2 c1.Gates.length B39 c39 r_9.length B37 c37 x6.done.length (aD b11) 1 1 _ rfl rfl rfl hcap26 rfl rfl (hS249.inn [false,false,false,false,false,false,true,false] rfl [(true,7),(true,8),(true,0),(true,2)] rfl) hc8)) ?_ aN
        rintro _ w_102 ⟨B40,c40,B41,c41,B42,c42,rfl,hq2,ho38,hd28⟩
        have hS250:=ST.outRG (pre:=[O1,O0,O2,O10,O9,O14,O24,O25]) (G:=(D7.map (orow 3 encI 1))) hS249 [false,false,false,false,false,false,true,false] rfl hd28 ho38 (sk 7 (sk 8 (sk 0 (sk 2 (fun _ h=>by cases h)))))
        have ho53:Org w0 [] (R74::R73::⟨B2,(D.flatMap eN3)⟩::((D.flatMap eN4)++[])) [⟨B40,(r_10.place.flatMap encI)⟩]:=org_trans hS249 (msk_mem (mask:=[false,false,false,false,false,false,true,false]) rfl) ho38 (org_cons (org_mem (i:=0) rfl) (org_cons (org_mem (i:=1) rfl) (org_cons ho52 (org_cons (org_sub ho36 (subc (row_mem (rw_:=eN5) hp5 _ (mt 1)) (fun _ h=>by cases h))) org_nil))))
        have hS251:ST w0 [] _ (O1::O0::O2::O10::O9::O14::O25::⟨B41,4,(r_10.done.flatMap encB),c41*1⟩::⟨B42,60,(r_10.steps.flatMap eN0),c42*3⟩::(D7.map (orow 3 encI 1))) (⟨B40,(r_10.place.flatMap encI)⟩::⟨B39,(r_9.flatMap encI)⟩::R81::R79::R78::R77::R76::R75::R74::R73::⟨B2,(D.flatMap eN3)⟩::((D.flatMap eN4)++((D8.flatMap eN5)++[]))):=hS250
        refine ⟨((hS251.sg 9 [0,1,2,3,4,5]).sR 11 [2,3,4,5,6,7,8,9,10]),?_⟩
        refine rA [27] ?_
        let V125:List Value:=[.slice B40 r_10.place.length c40,.slice B41 r_10.done.length c41,vi r_10.from_,.slice B42 r_10.steps.length c42]
        refine rZ 27 rfl (yT 6 4 (aD b12) 122 (.agg V125.toArray) V125 0 hS251 K28) ?_ aN
        rintro _ w_103 ⟨rfl,hS252⟩
        refine ⟨((hS252.sg 9 [0,1,2,3,4,5]).sR 11 [2,3,4,5,6,7,8,9,10]),?_⟩
        refine ra_done (by kernel_rfl) ?_
        have hS253:ST w0 [] _ (O1::O0::O2::O10::O9::O14::⟨aD b12,122,V125,4⟩::⟨B41,4,(r_10.done.flatMap encB),c41*1⟩::⟨B42,60,(r_10.steps.flatMap eN0),c42*3⟩::(D7.map (orow 3 encI 1))) (⟨B40,(r_10.place.flatMap encI)⟩::R81::R79::R78::R77::R76::R75::R74::R73::⟨B2,(D.flatMap eN3)⟩::((D.flatMap eN4)++((D8.flatMap eN5)++[]))):=hS252.sR 11 [0,2,3,4,5,6,7,8,9,10]
        exact ⟨aD b12,B40,c40,B41,c41,B42,c42,(hf6.a 3 0 (hf6.a 4 1 (hf6.a 6 2 (hf6.a 8 3 (hf6.a 9 4 (hf6.a 13 5 (hf6.a 14 6 (fc rfl (hf6.a 108 7 (hf6.a 109 8 (hf6.a 110 9 fn_))))))))))),(org_sub ho53 (sk 0 (fun _ h=>by cases h))),(len_le rfl hq2),(hS253.sg 9 [0,1,2,3,4,6,7,8])⟩
       let V146:List Value:=[.slice none 0 0,.slice none 0 0,vi 0,.slice none 0 0]
       refine rS 19 26 rfl (yN V146 4 hS199 K33) ?_ aN
       rintro _ w_104 ⟨b12,rfl,hS254⟩
       let O27:Ob:=⟨aD b12,122,V146,4⟩
       have hS255:ST w0 [] _ (O1::O0::O2::O10::O9::O14::O27::(D7.map (orow 3 encI 1))) (R81::R79::R78::R77::R76::R75::R74::R73::⟨B2,(D.flatMap eN3)⟩::((D.flatMap eN4)++((D8.flatMap eN5)++[]))):=ST.rot (pre:=[O1,O0,O2,O10,O9,O14]) (G:=(D7.map (orow 3 encI 1))) (xs:=[O27]) hS254
       refine ⟨(hS255.sg 7 [0,1,2,3,4,5]),?_⟩
       refine rA [11,23] ?_
       refine rC 125 11 rfl (yC V152 K99 (c_spec_l23Swap x6.place x5.A x5.B B36 c36 x6.place.length _ rfl (hS255.inn0 [(true,2)] rfl) hc7)) ?_ ?_
       ·rintro _ w_105 ⟨B39,c39,rfl,hd29⟩
        have hS256:=hS255.out0 hd29
        let O59:Ob:=⟨B39,3,(r_9.flatMap encI),c39*1⟩
        have hS257:ST w0 [] _ (O1::O0::O2::O10::O9::O14::O27::O59::(D7.map (orow 3 encI 1))) (R81::R79::R78::R77::R76::R75::R74::R73::⟨B2,(D.flatMap eN3)⟩::((D.flatMap eN4)++((D8.flatMap eN5)++[]))):=ST.rot (pre:=[O1,O0,O2,O10,O9,O14,O27]) (G:=(D7.map (orow 3 encI 1))) (xs:=[O59]) hS256
        refine ⟨(hS257.sg 8 [0,1,2,3,4,5]),?_⟩
        refine rA [23] ?_
        refine rS 137 23 rfl (Ys_bslice (s:=3) (len:=1) (vs:=[(0,.agg V151.toArray)]) (cs:=V151) (zs:=[vi 0,vi 0,vi 0]) (m:=3) hS257 K9 K8 K50 rfl (mpc rfl mpn) rfl rfl rfl (by kernel_rfl) (by kernel_rfl) rfl) ?_ aN
        rintro _ w_106 ⟨b11,rfl,hS258⟩
        let O42:Ob:=⟨aD b11,60,([(TRouteStep.mk (-1) x5.A x5.B)].flatMap eN0),1*3⟩
        have hS259:ST w0 [] _ (O1::O0::O2::O10::O9::O14::O27::O59::O42::(D7.map (orow 3 encI 1))) (R81::R79::R78::R77::R76::R75::R74::R73::⟨B2,(D.flatMap eN3)⟩::((D.flatMap eN4)++((D8.flatMap eN5)++[]))):=ST.rot (pre:=[O1,O0,O2,O10,O9,O14,O27,O59]) (G:=(D7.map (orow 3 encI 1))) (xs:=[O42]) hS258
        refine ⟨(hS259.sg 9 [0,1,2,3,4,5]),?_⟩
        let V145:List Value:=[.slice B39 r_9.length c39,.slice B37 x6.done.length c37,vi i3,.slice (aD b11) 1 1]
        refine rq 24 138 (v:=.agg V145.toArray) rfl (hS259.sg 9 [0,1,2,3,4,5]) (fun w' hw'=>(Y_buildS (zs:=V146) (vs:=[(0,.slice B39 r_9.length c39),(1,.slice B37 x6.done.length c37),(2,vi i3),(3,.slice (aD b11) 1 1)]) (cs:=V145) K65 K33 rfl (mpc rfl (mpc rfl (mpc rfl (mpc rfl mpn)))) rfl)) ?_
        refine rA [25] ?_
        have ho54:Org w0 [] (R74::R73::⟨B2,(D.flatMap eN3)⟩::((D.flatMap eN4)++[])) [⟨B39,(r_9.flatMap encI)⟩]:=ST.orgOwn hS259 (i:=7) rfl
        have hcap27:r_9.length≤c39:=(hS259.lencap (i:=7) rfl (fm_lenn (l:=r_9) encI_len rfl) rfl rfl)
        have hS260:ST w0 [] _ (O1::O0::O2::O10::O9::O14::O27::O42::(D7.map (orow 3 encI 1))) (⟨B39,(r_9.flatMap encI)⟩::R81::R79::R78::R77::R76::R75::R74::R73::⟨B2,(D.flatMap eN3)⟩::((D.flatMap eN4)++((D8.flatMap eN5)++[]))):=hS259.freeze (i:=7) rfl
        refine rC 139 25 rfl (yC [.agg V144.toArray,.agg V138.toArray,.agg V145.toArray] K58 (c_spec_l23Run g c1 (Tl23Node.mk r_9 x6.done i3 [(TRouteStep.mk (-1) x5.A x5.B)]) B c g.Edges.length B1 c2 c1.Gates.length B39 c39 r_9.length B37 c37 x6.done.length (aD b11) 1 1 _ rfl rfl rfl hcap27 rfl rfl (hS260.inn [false,false,false,false,false,false,false,true] rfl [(true,7),(true,8),(true,0),(true,2)] rfl) hc8)) ?_ aN
        rintro _ w_107 ⟨B40,c40,B41,c41,B42,c42,rfl,hq2,ho38,hd30⟩
        have hS261:=ST.outRG (pre:=[O1,O0,O2,O10,O9,O14,O27,O42]) (G:=(D7.map (orow 3 encI 1))) hS260 [false,false,false,false,false,false,false,true] rfl hd30 ho38 (sk 7 (sk 8 (sk 0 (sk 2 (fun _ h=>by cases h)))))
        have ho55:Org w0 [] (R74::R73::⟨B2,(D.flatMap eN3)⟩::((D.flatMap eN4)++[])) [⟨B40,(r_10.place.flatMap encI)⟩]:=org_trans hS260 (msk_mem (mask:=[false,false,false,false,false,false,false,true]) rfl) ho38 (org_cons (org_mem (i:=0) rfl) (org_cons (org_mem (i:=1) rfl) (org_cons ho54 (org_cons (org_sub ho36 (subc (row_mem (rw_:=eN5) hp5 _ (mt 1)) (fun _ h=>by cases h))) org_nil))))
        have hS262:ST w0 [] _ (O1::O0::O2::O10::O9::O14::O27::⟨B41,4,(r_10.done.flatMap encB),c41*1⟩::⟨B42,60,(r_10.steps.flatMap eN0),c42*3⟩::(D7.map (orow 3 encI 1))) (⟨B40,(r_10.place.flatMap encI)⟩::⟨B39,(r_9.flatMap encI)⟩::R81::R79::R78::R77::R76::R75::R74::R73::⟨B2,(D.flatMap eN3)⟩::((D.flatMap eN4)++((D8.flatMap eN5)++[]))):=hS261
        refine ⟨((hS262.sg 9 [0,1,2,3,4,5]).sR 11 [2,3,4,5,6,7,8,9,10]),?_⟩
        refine rA [27] ?_
        let V130:List Value:=[.slice B40 r_10.place.length c40,.slice B41 r_10.done.length c41,vi r_10.from_,.slice B42 r_10.steps.length c42]
        refine rZ 27 rfl (yT 6 4 (aD b12) 122 (.agg V130.toArray) V130 0 hS262 K28) ?_ aN
        rintro _ w_108 ⟨rfl,hS263⟩
        refine ⟨((hS263.sg 9 [0,1,2,3,4,5]).sR 11 [2,3,4,5,6,7,8,9,10]),?_⟩
        refine ra_done (by kernel_rfl) ?_
        have hS264:ST w0 [] _ (O1::O0::O2::O10::O9::O14::⟨aD b12,122,V130,4⟩::⟨B41,4,(r_10.done.flatMap encB),c41*1⟩::⟨B42,60,(r_10.steps.flatMap eN0),c42*3⟩::(D7.map (orow 3 encI 1))) (⟨B40,(r_10.place.flatMap encI)⟩::R81::R79::R78::R77::R76::R75::R74::R73::⟨B2,(D.flatMap eN3)⟩::((D.flatMap eN4)++((D8.flatMap eN5)++[]))):=hS263.sR 11 [0,2,3,4,5,6,7,8,9,10]
        exact ⟨aD b12,B40,c40,B41,c41,B42,c42,(hf6.a 3 0 (hf6.a 4 1 (hf6.a 6 2 (hf6.a 8 3 (hf6.a 9 4 (hf6.a 13 5 (hf6.a 14 6 (fc rfl (hf6.a 108 7 (hf6.a 109 8 (hf6.a 110 9 fn_))))))))))),(org_sub ho55 (sk 0 (fun _ h=>by cases h))),(len_le rfl hq2),(hS264.sg 9 [0,1,2,3,4,6,7,8])⟩
       refine rS 137 23 rfl (Ys_bslice (s:=3) (len:=1) (vs:=[(0,.agg V151.toArray)]) (cs:=V151) (zs:=[vi 0,vi 0,vi 0]) (m:=3) hS255 K9 K8 K50 rfl (mpc rfl mpn) rfl rfl rfl (by kernel_rfl) (by kernel_rfl) rfl) ?_ aN
       rintro _ w_109 ⟨b11,rfl,hS265⟩
       let O53:Ob:=⟨aD b11,60,([(TRouteStep.mk (-1) x5.A x5.B)].flatMap eN0),1*3⟩
       let P160:List Ob:=(O1::O0::O2::O10::O9::O14::O27::O53::(D7.map (orow 3 encI 1)))
       have hS266:ST w0 [] _ P160 (R81::R79::R78::R77::R76::R75::R74::R73::⟨B2,(D.flatMap eN3)⟩::((D.flatMap eN4)++((D8.flatMap eN5)++[]))):=ST.rot (pre:=[O1,O0,O2,O10,O9,O14,O27]) (G:=(D7.map (orow 3 encI 1))) (xs:=[O53]) hS265
       refine ⟨(hS266.sg 8 [0,1,2,3,4,5]),?_⟩
       refine rA [11] ?_
       refine rC 125 11 rfl (yC V152 K99 (c_spec_l23Swap x6.place x5.A x5.B B36 c36 x6.place.length _ rfl (hS266.inn0 [(true,2)] rfl) hc7)) ?_ aN
       rintro _ w_110 ⟨B39,c39,rfl,hd31⟩
       have hS267:=hS266.out0 hd31
       have hS268:ST w0 [] _ (O1::O0::O2::O10::O9::O14::O27::O53::⟨B39,3,(r_9.flatMap encI),c39*1⟩::(D7.map (orow 3 encI 1))) (R81::R79::R78::R77::R76::R75::R74::R73::⟨B2,(D.flatMap eN3)⟩::((D.flatMap eN4)++((D8.flatMap eN5)++[]))):=ST.rot (pre:=[O1,O0,O2,O10,O9,O14,O27,O53]) (G:=(D7.map (orow 3 encI 1))) (xs:=[⟨B39,3,(r_9.flatMap encI),c39*1⟩]) hS267
       refine ⟨(hS268.sg 9 [0,1,2,3,4,5]),?_⟩
       let V148:List Value:=[.slice B39 r_9.length c39,.slice B37 x6.done.length c37,vi i3,.slice (aD b11) 1 1]
       refine rq 24 138 (v:=.agg V148.toArray) rfl (hS268.sg 9 [0,1,2,3,4,5]) (fun w' hw'=>(Y_buildS (zs:=V146) (vs:=[(0,.slice B39 r_9.length c39),(1,.slice B37 x6.done.length c37),(2,vi i3),(3,.slice (aD b11) 1 1)]) (cs:=V148) K65 K33 rfl (mpc rfl (mpc rfl (mpc rfl (mpc rfl mpn)))) rfl)) ?_
       refine rA [25] ?_
       have ho56:Org w0 [] (R74::R73::⟨B2,(D.flatMap eN3)⟩::((D.flatMap eN4)++[])) [⟨B39,(r_9.flatMap encI)⟩]:=ST.orgOwn hS268 (i:=8) rfl
       have hcap28:r_9.length≤c39:=(hS268.lencap (i:=8) rfl (fm_lenn (l:=r_9) encI_len rfl) rfl rfl)
       have hS269:ST w0 [] _ P160 (⟨B39,(r_9.flatMap encI)⟩::R81::R79::R78::R77::R76::R75::R74::R73::⟨B2,(D.flatMap eN3)⟩::((D.flatMap eN4)++((D8.flatMap eN5)++[]))):=hS268.freeze (i:=8) rfl
       refine rC 139 25 rfl (yC [.agg V144.toArray,.agg V138.toArray,.agg V148.toArray] K58 (c_spec_l23Run g c1 (Tl23Node.mk r_9 x6.done i3 [(TRouteStep.mk (-1) x5.A x5.B)]) B c g.Edges.length B1 c2 c1.Gates.length B39 c39 r_9.length B37 c37 x6.done.length (aD b11) 1 1 _ rfl rfl rfl hcap28 rfl rfl (hS269.inn [false,false,false,false,false,false,false,true] rfl [(true,7),(true,8),(true,0),(true,2)] rfl) hc8)) ?_ aN
       rintro _ w_111 ⟨B40,c40,B41,c41,B42,c42,rfl,hq2,ho38,hd32⟩
       have hS270:=ST.outRG (pre:=[O1,O0,O2,O10,O9,O14,O27,O53]) (G:=(D7.map (orow 3 encI 1))) hS269 [false,false,false,false,false,false,false,true] rfl hd32 ho38 (sk 7 (sk 8 (sk 0 (sk 2 (fun _ h=>by cases h)))))
       have ho57:Org w0 [] (R74::R73::⟨B2,(D.flatMap eN3)⟩::((D.flatMap eN4)++[])) [⟨B40,(r_10.place.flatMap encI)⟩]:=org_trans hS269 (msk_mem (mask:=[false,false,false,false,false,false,false,true]) rfl) ho38 (org_cons (org_mem (i:=0) rfl) (org_cons (org_mem (i:=1) rfl) (org_cons ho56 (org_cons (org_sub ho36 (subc (row_mem (rw_:=eN5) hp5 _ (mt 1)) (fun _ h=>by cases h))) org_nil))))
       have hS271:ST w0 [] _ (O1::O0::O2::O10::O9::O14::O27::⟨B41,4,(r_10.done.flatMap encB),c41*1⟩::⟨B42,60,(r_10.steps.flatMap eN0),c42*3⟩::(D7.map (orow 3 encI 1))) (⟨B40,(r_10.place.flatMap encI)⟩::⟨B39,(r_9.flatMap encI)⟩::R81::R79::R78::R77::R76::R75::R74::R73::⟨B2,(D.flatMap eN3)⟩::((D.flatMap eN4)++((D8.flatMap eN5)++[]))):=hS270
       refine ⟨((hS271.sg 9 [0,1,2,3,4,5]).sR 11 [2,3,4,5,6,7,8,9,10]),?_⟩
       refine rA [27] ?_
       let V136:List Value:=[.slice B40 r_10.place.length c40,.slice B41 r_10.done.length c41,vi r_10.from_,.slice B42 r_10.steps.length c42]
       refine rZ 27 rfl (yT 6 4 (aD b12) 122 (.agg V136.toArray) V136 0 hS271 K28) ?_ aN
       rintro _ w_112 ⟨rfl,hS272⟩
       refine ⟨((hS272.sg 9 [0,1,2,3,4,5]).sR 11 [2,3,4,5,6,7,8,9,10]),?_⟩
       refine ra_done (by kernel_rfl) ?_
       have hS273:ST w0 [] _ (O1::O0::O2::O10::O9::O14::⟨aD b12,122,V136,4⟩::⟨B41,4,(r_10.done.flatMap encB),c41*1⟩::⟨B42,60,(r_10.steps.flatMap eN0),c42*3⟩::(D7.map (orow 3 encI 1))) (⟨B40,(r_10.place.flatMap encI)⟩::R81::R79::R78::R77::R76::R75::R74::R73::⟨B2,(D.flatMap eN3)⟩::((D.flatMap eN4)++((D8.flatMap eN5)++[]))):=hS272.sR 11 [0,2,3,4,5,6,7,8,9,10]
       exact ⟨aD b12,B40,c40,B41,c41,B42,c42,(hf6.a 3 0 (hf6.a 4 1 (hf6.a 6 2 (hf6.a 8 3 (hf6.a 9 4 (hf6.a 13 5 (hf6.a 14 6 (fc rfl (hf6.a 108 7 (hf6.a 109 8 (hf6.a 110 9 fn_))))))))))),(org_sub ho57 (sk 0 (fun _ h=>by cases h))),(len_le rfl hq2),(hS273.sg 9 [0,1,2,3,4,6,7,8])⟩
      rintro f w ⟨B43,B44,c43,B45,c44,B46,c45,hf8,ho41,hq3,hS198⟩
      refine cq ?_
      obtain ⟨r_11,hc9,hz4⟩:=bI hz4
      obtain ⟨r_12,hc10,hz4⟩:=bI hz4
      refine ra_start (hS198.sg 8 [0,1,2,3,4,5,6,7]).fn (by kernel_rfl) ?_
      have hS276:=hS198.drew
      refine rq 0 140 (v:=pt B43 0) rfl (hS276.sg 8 [0,1,2,3,4,5,6,7]) (fun w' hw'=>(yd B43 0 0 K102 K11 rfl (hf8.g 19 7))) ?_
      let V140:List Value:=[.slice B44 r_10.place.length c43,.slice B45 r_10.done.length c44,vi r_10.from_,.slice B46 r_10.steps.length c45]
      refine rq 1 141 rfl (hS276.sg 8 [0,1,2,3,4,5,6,7]) (fun w' hw'=>(yl B43 0 V140 (.slice B44 r_10.place.length c43) K25 (ST.cf hw' (i:=5) rfl))) ?_
      refine rq 3 143 (v:=pt B43 1) rfl (hS276.sg 8 [0,1,2,3,4,5,6,7]) (fun w' hw'=>(yd B43 0 0 K89 K40 rfl (hf8.g 19 7))) ?_
      refine rq 4 144 rfl (hS276.sg 8 [0,1,2,3,4,5,6,7]) (fun w' hw'=>(yl B43 1 V140 (.slice B45 r_10.done.length c44) K56 (ST.cf hw' (i:=5) rfl))) ?_
      refine rA [2] ?_
      refine rC 142 2 rfl (yC [.slice B44 r_10.place.length c43] K147 (c_spec_l23Code r_10.place B44 c43 r_10.place.length _ rfl (hS276.inn0 [(true,0)] rfl) hc9)) ?_ aN
      rintro _ w_113 ⟨rfl,hd33⟩
      have hS277:=hS276.out00 hd33
      refine ⟨(hS277.sg 8 [0,1,2,3,4,5,6,7]),?_⟩
      refine rA [5] ?_
      refine rC 145 5 rfl (yC [.slice B45 r_10.done.length c44] K116 (c_spec_l23Mask r_10.done B45 c44 r_10.done.length _ rfl (hS277.inn0 [(false,6)] rfl) hc10)) ?_ aN
      rintro _ w_114 ⟨rfl,hd34⟩
      have hS278:=hS277.out00 hd34
      refine ⟨(hS278.sg 8 [0,1,2,3,4,5,6,7]),?_⟩
      refine rq 6 20 rfl (hS278.sg 8 [0,1,2,3,4,5,6,7]) (fun w' hw'=>(yg (vi r_11))) ?_
      refine rq 7 21 rfl (hS278.sg 8 [0,1,2,3,4,5,6,7]) (fun w' hw'=>(yg (vi r_12))) ?_
      refine ra_done (by kernel_rfl) ?_
      refine cq (cr ?_)
      refine sQ 146 (ym (.slice (aD b3) 3125 3125) rfl (hf8.g 8 3))<|sQ 147 (ym (vi r_11)) ?_
      obtain ⟨x7,hx7,hz4⟩:=bI hz4
      obtain ⟨⟨B47,c46⟩,hp6⟩:=getI_snd hD14 hx7
      refine sQ 148 (Y_index (B:=aD b3) (m:=3125) (c:=3125) (k:=.i64) (i:=r_11) K57 K11 rfl rfl rfl (gi_isSome encD_SInt_len rfl (hS278.c 3) hp6) (getI_nn hp6) (getI_ltI hp6 hl3))<|sQ 149 (yl (aD b3) (r_11.toNat*1) (D7.flatMap eN3) (.slice B47 x7.length c46) K25 (hS278.c 3) rfl rfl (gi_at0 encD_SInt_len hp6 rfl))<|sQ 150 (ym (vi r_12)) ?_
      obtain ⟨r_13,hc11,hz4⟩:=bI hz4
      let O23:Ob:=⟨B43,122,V140,4⟩
      let O58:Ob:=⟨B46,60,(r_10.steps.flatMap eN0),c45*3⟩
      let O64:Ob:=⟨B45,4,(r_10.done.flatMap encB),c44*1⟩
      refine sc 151 rfl rfl (yC [.slice B47 x7.length c46,vi r_12] K118 (c_spec_l1Has x7 r_12 B47 c46 x7.length _ rfl (hS278.innR0 (srcRow (N:=[O1,O0,O2,O10,O9,O23,O64,O58]) (T:=3) (s:=1) (enc:=encI) hp6 (fun _ h=>by cases h))) hc11)) ?_
      rintro _ w_115 ⟨rfl,hd35⟩
      have hS279:=hS278.out00 hd35
      refine sQ 152 (Y_not (p:=r_13) rfl rfl) (rn ?_)
      refine cw_cond (b:=(!r_13)) rfl (fun hb7=>?_) (fun hb7=>?_)
      ·skip
       have hF11:=ct hz4 hb7
       refine cq (cr ?_)
       refine sQ 153 (ym (.slice (aD b3) 3125 3125) rfl (hf8.g 8 3))<|sQ 154 (ym (vi r_11))<|sQ 155 (ym (.slice (aD b3) 3125 3125) rfl (hf8.g 8 3))<|sQ 156 (ym (vi r_11))<|sQ 157 (Y_index (B:=aD b3) (m:=3125) (c:=3125) (k:=.i64) (i:=r_11) K57 K11 rfl rfl rfl (gi_isSome encD_SInt_len rfl (hS279.c 3) hp6) (getI_nn hp6) (getI_ltI hp6 hl3))<|sQ 158 (yl (aD b3) (r_11.toNat*1) (D7.flatMap eN3) (.slice B47 x7.length c46) K25 (hS279.c 3) rfl rfl (gi_at0 encD_SInt_len hp6 rfl)) ?_
       refine sQ 159 (ym (vi r_12)) ?_
       refine sS 160 (Ys_bslice (s:=1) (len:=1) (vs:=[(0,vi r_12)]) (cs:=[vi r_12]) (zs:=[vi 0]) (m:=1) hS279 K2 K0 K30 rfl (mpc rfl mpn) rfl rfl rfl (by kernel_rfl) (by kernel_rfl) rfl) ?_
       rintro _ w_116 ⟨b13,rfl,hS280⟩
       let O50:Ob:=⟨aD b13,3,([r_12].flatMap encI),1*1⟩
       let R96:Ro:=⟨B44,(r_10.place.flatMap encI)⟩
       have hS281:ST w0 [] _ (O1::O0::O2::O10::O9::O23::O64::O58::O50::(D7.map (orow 3 encI 1))) (R96::R81::R79::R78::R77::R76::R75::R74::R73::⟨B2,(D.flatMap eN3)⟩::((D.flatMap eN4)++((D8.flatMap eN5)++[]))):=ST.rot (pre:=[O1,O0,O2,O10,O9,O23,O64,O58]) (G:=(D7.map (orow 3 encI 1))) (xs:=[O50]) hS280
       obtain ⟨hap4,hF11⟩:=chk_inv hF11
       refine sS 161 (Ys_appendRow (pre:=[O1,O0,O2,O10,O9,O23,O64,O58,O50]) (D:=D7) (enc:=encI) (s:=1) (by':=8) (i:=r_11) (c:=c46) (k:=1) (B:=B47) (l:=x7) (xs:=[r_12]) hS281 K2 K0 K53 K54 rfl (by decide) rfl rfl rfl hp6 encI_len encI_one (hS281.c 8) rfl (by have:=hap4; omega) (by have:=hap4; simp only [maxLen]; omega)) ?_
       rintro _ w_117 ⟨B48,c47,rfl,hS282⟩
       refine sQ 162 (Y_index (B:=aD b3) (m:=3125) (c:=3125) (k:=.i64) (i:=r_11) K57 K11 rfl rfl rfl (gi_isSome encD_SInt_len rfl (hS282.c 3) hp6) (getI_nn hp6) (getI_ltI hp6 hl3)) ?_
       refine s0 (yS 3 1 (aD b3) 29 (.slice B48 ((x7++[r_12]).length) c47) [.slice B48 ((x7++[r_12]).length) c47] (r_11.toNat*1) ((D7.set r_11.toNat ((B48,c47),(x7++[r_12]))).flatMap eN3) hS282 K11 rfl rfl rfl rfl rfl rfl rfl (gi_fit0 encD_SInt_len hp6) (gi_set encD_SInt_len hp6 ((B48,c47),(x7++[r_12])) rfl)) ?_
       rintro _ w_118 ⟨rfl,hS283⟩
       have hD18:List.map Prod.snd (D7.set r_11.toNat ((B48,c47),(x7++[r_12])))=(met2.set r_11.toNat (x7++[r_12])):=set_snd hD14 _ _
       refine rn (cr ?_)
       refine sQ 163 (ym (.slice B34 list2.length c34) rfl (hf8.g 9 4))<|sQ 164 (yb B43 0 V140 K123 K28 (hS283.c 5) rfl (hf8.g 19 7)) ?_
       let R99:Ro:=⟨B45,(r_10.done.flatMap encB)⟩
       have ho58:Org w0 [] (R74::R73::⟨B2,(D.flatMap eN3)⟩::((D.flatMap eN4)++[])) [R99]:=ST.orgOwn hS283 (i:=6) rfl
       have hcap29:r_10.done.length≤c44:=(hS283.lencap (i:=6) rfl (fm_lenn (l:=r_10.done) encB_len rfl) rfl rfl)
       let O41:Ob:=⟨aD b3,29,((D7.set r_11.toNat ((B48,c47),(x7++[r_12]))).flatMap eN3),3125*1⟩
       have hS284:ST w0 [] _ (O1::O0::O2::O41::O9::O23::O58::O50::((D7.set r_11.toNat ((B48,c47),(x7++[r_12]))).map (orow 3 encI 1))) (R99::R96::R81::R79::R78::R77::R76::R75::R74::R73::⟨B2,(D.flatMap eN3)⟩::((D.flatMap eN4)++((D8.flatMap eN5)++[]))):=hS283.freeze (i:=6) rfl
       let R101:Ro:=⟨B46,(r_10.steps.flatMap eN0)⟩
       have ho59:Org w0 [] (R74::R73::⟨B2,(D.flatMap eN3)⟩::((D.flatMap eN4)++[])) [R101]:=ST.orgOwn hS284 (i:=6) rfl
       have hcap30:r_10.steps.length≤c45:=(hS284.lencap (i:=6) rfl (fm_lenn (l:=r_10.steps) eN8 rfl) rfl rfl)
       have hS285:ST w0 [] _ (O1::O0::O2::O41::O9::O23::O50::((D7.set r_11.toNat ((B48,c47),(x7++[r_12]))).map (orow 3 encI 1))) (R101::R99::R96::R81::R79::R78::R77::R76::R75::R74::R73::⟨B2,(D.flatMap eN3)⟩::((D.flatMap eN4)++((D8.flatMap eN5)++[]))):=hS284.freeze (i:=6) rfl
       refine sS 165 (Ys_bslice (s:=4) (len:=1) (vs:=[(0,.agg V140.toArray)]) (cs:=V140) (zs:=[.slice none 0 0,.slice none 0 0,vi 0,.slice none 0 0]) (m:=4) hS285 K72 K28 k_zc_122 rfl (mpc rfl mpn) rfl rfl rfl (by kernel_rfl) (by kernel_rfl) rfl) ?_
       rintro _ w_119 ⟨b14,rfl,hS286⟩
       have hS287:ST w0 [] _ (O1::O0::O2::O41::O9::O23::O50::⟨aD b14,122,(([(((B44,c43),(B45,c44),(B46,c45)),r_10)]:List ((Hd×Hd×Hd)×Tl23Node)).flatMap eN6),1*4⟩::((D7.set r_11.toNat ((B48,c47),(x7++[r_12]))).map (orow 3 encI 1))) (R101::R99::R96::R81::R79::R78::R77::R76::R75::R74::R73::⟨B2,(D.flatMap eN3)⟩::((D.flatMap eN4)++((D8.flatMap eN5)++[]))):=ST.rot (pre:=[O1,O0,O2,O41,O9,O23,O50]) (G:=((D7.set r_11.toNat ((B48,c47),(x7++[r_12]))).map (orow 3 encI 1))) (xs:=[⟨aD b14,122,(([(((B44,c43),(B45,c44),(B46,c45)),r_10)]:List ((Hd×Hd×Hd)×Tl23Node)).flatMap eN6),1*4⟩]) hS286
       have hm17:∀ r∈(([(((B44,c43),(B45,c44),(B46,c45)),r_10)]:List ((Hd×Hd×Hd)×Tl23Node)).flatMap eN5),r∈((R101::R99::R96::R81::R79::R78::R77::R76::R75::R74::R73::⟨B2,(D.flatMap eN3)⟩::((D.flatMap eN4)++((D8.flatMap eN5)++[]))):List Ro):=(fsub_cons (sk 2 (sk 1 (sk 0 (fun _ h=>by cases h)))) fsub_nil)
       have ho60:Org w0 [] (R74::R73::⟨B2,(D.flatMap eN3)⟩::((D.flatMap eN4)++[])) (([(((B44,c43),(B45,c44),(B46,c45)),r_10)]:List ((Hd×Hd×Hd)×Tl23Node)).flatMap eN5):=(forg_cons (org_cons ho41 (org_cons ho58 (org_cons ho59 org_nil))) forg_nil)
       have hS288:ST w0 [] _ (O1::O0::O2::O41::⟨B34,122,(D8.flatMap eN6),c34*4⟩::O23::O50::⟨aD b14,122,(([(((B44,c43),(B45,c44),(B46,c45)),r_10)]:List ((Hd×Hd×Hd)×Tl23Node)).flatMap eN6),1*4⟩::((D7.set r_11.toNat ((B48,c47),(x7++[r_12]))).map (orow 3 encI 1))) (R101::R99::R96::R81::R79::R78::R77::R76::R75::R74::R73::⟨B2,(D.flatMap eN3)⟩::((([(((B44,c43),(B45,c44),(B46,c45)),r_10)]:List ((Hd×Hd×Hd)×Tl23Node)).flatMap eN5)++((D.flatMap eN4)++((D8.flatMap eN5)++[])))):=ST.subR hS287 (sk 0 (sk 1 (sk 2 (sk 3 (sk 4 (sk 5 (sk 6 (sk 7 (sk 8 (sk 9 (sk 10 (sk 11 (suba hm17 (suba (fun r_ (h:r_∈((D.flatMap eN4):List Ro))=>mOd (i:=12) (show r_∈((((D.flatMap eN4)++((D8.flatMap eN5)++[]))):List Ro) from mAl _ h)) (suba (fun r_ (h:r_∈((D8.flatMap eN5):List Ro))=>mOd (i:=12) (show r_∈((((D.flatMap eN4)++((D8.flatMap eN5)++[]))):List Ro) from mAr _ (mAl _ h))) (fun _ h=>by cases h))))))))))))))))
       obtain ⟨hap5,hF11⟩:=chk_inv hF11
       refine sS 166 (Ys_append (s:=4) (by':=80) (i:=4) (nn:=list2.length) (c:=c34) (k:=1) (len:=(list2++([r_10]:List Tl23Node)).length) (B:=B34) (xs:=(([(((B44,c43),(B45,c44),(B46,c45)),r_10)]:List ((Hd×Hd×Hd)×Tl23Node)).flatMap eN6)) (cs':=((D8++([(((B44,c43),(B45,c44),(B46,c45)),r_10)]:List ((Hd×Hd×Hd)×Tl23Node))).flatMap eN6)) hS288 K72 K28 k_by_122_80 K33 rfl (by decide) rfl rfl rfl rfl (fm_lenn (l:=D8) encD_l23Node_len (dl_len hD15)) rfl (hS288.c 7) (fm_lenn (l:=([(((B44,c43),(B45,c44),(B46,c45)),r_10)]:List ((Hd×Hd×Hd)×Tl23Node))) encD_l23Node_len rfl) (fm_one' (enc:=eN6) encD_l23Node_one ([(((B44,c43),(B45,c44),(B46,c45)),r_10)]:List ((Hd×Hd×Hd)×Tl23Node))) (by have:=hap5; omega) (by have:=hap5; simp only [maxLen]; omega) (fm_app _ _) (dl_sum (dl_len hD15) rfl (dl_app hD15 (show List.map Prod.snd ([(((B44,c43),(B45,c44),(B46,c45)),r_10)]:List ((Hd×Hd×Hd)×Tl23Node))=([r_10]:List Tl23Node) from rfl)))) ?_
       rintro _ w_120 ⟨B49,c48,rfl,hS289⟩
       have ho61:Org w0 [] (R74::R73::⟨B2,(D.flatMap eN3)⟩::((D.flatMap eN4)++[])) ((D8++([(((B44,c43),(B45,c44),(B46,c45)),r_10)]:List ((Hd×Hd×Hd)×Tl23Node))).flatMap eN5):=(forg_app ho36 ho60)
       have hS290:ST w0 [] _ (O1::O0::O2::O41::⟨B49,122,((D8++([(((B44,c43),(B45,c44),(B46,c45)),r_10)]:List ((Hd×Hd×Hd)×Tl23Node))).flatMap eN6),c48*4⟩::⟨B43,122,[.slice B44 r_10.place.length c43,.slice B45 r_10.done.length c44,vi r_10.from_,.slice B46 r_10.steps.length c45],4⟩::O50::⟨aD b14,122,(([(((B44,c43),(B45,c44),(B46,c45)),r_10)]:List ((Hd×Hd×Hd)×Tl23Node)).flatMap eN6),1*4⟩::((D7.set r_11.toNat ((B48,c47),(x7++[r_12]))).map (orow 3 encI 1))) (⟨B46,(r_10.steps.flatMap eN0)⟩::⟨B45,(r_10.done.flatMap encB)⟩::⟨B44,(r_10.place.flatMap encI)⟩::R81::R79::R78::R77::R76::R75::R74::R73::⟨B2,(D.flatMap eN3)⟩::(((D8++([(((B44,c43),(B45,c44),(B46,c45)),r_10)]:List ((Hd×Hd×Hd)×Tl23Node))).flatMap eN5)++((([(((B44,c43),(B45,c44),(B46,c45)),r_10)]:List ((Hd×Hd×Hd)×Tl23Node)).flatMap eN5)++((D.flatMap eN4)++[])))):=ST.subR hS289 (sk 0 (sk 1 (sk 2 (sk 3 (sk 4 (sk 5 (sk 6 (sk 7 (sk 8 (sk 9 (sk 10 (sk 11 (suba (fsub_app (fun r_ (h:r_∈((D8.flatMap eN5):List Ro))=>mOd (i:=12) (show r_∈((((([(((B44,c43),(B45,c44),(B46,c45)),r_10)]:List ((Hd×Hd×Hd)×Tl23Node)).flatMap eN5)++((D.flatMap eN4)++((D8.flatMap eN5)++[])))):List Ro) from mAr _ (mAr _ (mAl _ h)))) (fun r_ (h:r_∈((([(((B44,c43),(B45,c44),(B46,c45)),r_10)]:List ((Hd×Hd×Hd)×Tl23Node)).flatMap eN5):List Ro))=>mOd (i:=12) (show r_∈((((([(((B44,c43),(B45,c44),(B46,c45)),r_10)]:List ((Hd×Hd×Hd)×Tl23Node)).flatMap eN5)++((D.flatMap eN4)++((D8.flatMap eN5)++[])))):List Ro) from mAl _ h))) (suba (fun r_ (h:r_∈((([(((B44,c43),(B45,c44),(B46,c45)),r_10)]:List ((Hd×Hd×Hd)×Tl23Node)).flatMap eN5):List Ro))=>mOd (i:=12) (show r_∈((((([(((B44,c43),(B45,c44),(B46,c45)),r_10)]:List ((Hd×Hd×Hd)×Tl23Node)).flatMap eN5)++((D.flatMap eN4)++((D8.flatMap eN5)++[])))):List Ro) from mAl _ h)) (suba (fun r_ (h:r_∈((D.flatMap eN4):List Ro))=>mOd (i:=12) (show r_∈((((([(((B44,c43),(B45,c44),(B46,c45)),r_10)]:List ((Hd×Hd×Hd)×Tl23Node)).flatMap eN5)++((D.flatMap eN4)++((D8.flatMap eN5)++[])))):List Ro) from mAr _ (mAl _ h))) (fun _ h=>by cases h))))))))))))))))
       have hS290:ST w0 [] _ (O1::O0::O2::O41::⟨B49,122,((D8++([(((B44,c43),(B45,c44),(B46,c45)),r_10)]:List ((Hd×Hd×Hd)×Tl23Node))).flatMap eN6),c48*4⟩::O23::O50::⟨aD b14,122,(([(((B44,c43),(B45,c44),(B46,c45)),r_10)]:List ((Hd×Hd×Hd)×Tl23Node)).flatMap eN6),1*4⟩::((D7.set r_11.toNat ((B48,c47),(x7++[r_12]))).map (orow 3 encI 1))) (R101::R99::R96::R81::R79::R78::R77::R76::R75::R74::R73::⟨B2,(D.flatMap eN3)⟩::(((D8++([(((B44,c43),(B45,c44),(B46,c45)),r_10)]:List ((Hd×Hd×Hd)×Tl23Node))).flatMap eN5)++((([(((B44,c43),(B45,c44),(B46,c45)),r_10)]:List ((Hd×Hd×Hd)×Tl23Node)).flatMap eN5)++((D.flatMap eN4)++[])))):=hS290
       refine sQ 9 (yg (.slice B49 ((list2++([r_10]:List Tl23Node)).length) c48)) (rn ?_)
       have hS291:ST w0 [] _ (O1::O0::O2::O41::⟨B49,122,((D8++([(((B44,c43),(B45,c44),(B46,c45)),r_10)]:List ((Hd×Hd×Hd)×Tl23Node))).flatMap eN6),c48*4⟩::⟨B43,122,[.slice B44 r_10.place.length c43,.slice B45 r_10.done.length c44,vi r_10.from_,.slice B46 r_10.steps.length c45],4⟩::O50::⟨aD b14,122,(([(((B44,c43),(B45,c44),(B46,c45)),r_10)]:List ((Hd×Hd×Hd)×Tl23Node)).flatMap eN6),1*4⟩::((D7.set r_11.toNat ((B48,c47),(x7++[r_12]))).map (orow 3 encI 1))) (R77::R76::R75::R74::R73::⟨B2,(D.flatMap eN3)⟩::((D.flatMap eN4)++(((D8++([(((B44,c43),(B45,c44),(B46,c45)),r_10)]:List ((Hd×Hd×Hd)×Tl23Node))).flatMap eN5)++[]))):=ST.subR hS290 (sk 6 (sk 7 (sk 8 (sk 9 (sk 10 (sk 11 (suba (fun r_ (h:r_∈((D.flatMap eN4):List Ro))=>mOd (i:=12) (show r_∈(((((D8++([(((B44,c43),(B45,c44),(B46,c45)),r_10)]:List ((Hd×Hd×Hd)×Tl23Node))).flatMap eN5)++((([(((B44,c43),(B45,c44),(B46,c45)),r_10)]:List ((Hd×Hd×Hd)×Tl23Node)).flatMap eN5)++((D.flatMap eN4)++[])))):List Ro) from mAr _ (mAr _ (mAl _ h)))) (suba (fun r_ (h:r_∈(((D8++([(((B44,c43),(B45,c44),(B46,c45)),r_10)]:List ((Hd×Hd×Hd)×Tl23Node))).flatMap eN5):List Ro))=>mOd (i:=12) (show r_∈(((((D8++([(((B44,c43),(B45,c44),(B46,c45)),r_10)]:List ((Hd×Hd×Hd)×Tl23Node))).flatMap eN5)++((([(((B44,c43),(B45,c44),(B46,c45)),r_10)]:List ((Hd×Hd×Hd)×Tl23Node)).flatMap eN5)++((D.flatMap eN4)++[])))):List Ro) from mAl _ h)) (fun _ h=>by cases h)))))))))
       exact ⟨(met2.set r_11.toNat (x7++[r_12])),(list2++([r_10]:List Tl23Node)),(D7.set r_11.toNat ((B48,c47),(x7++[r_12]))),B49,c48,(D8++([(((B44,c43),(B45,c44),(B46,c45)),r_10)]:List ((Hd×Hd×Hd)×Tl23Node))),(sI hF11),(hf8.a 3 0 (hf8.a 4 1 (hf8.a 6 2 (hf8.a 8 3 (fc rfl (hf8.a 13 5 (hf8.a 14 6 (hf8.a 108 8 (hf8.a 109 9 (hf8.a 110 10 fn_)))))))))),hD18,(set_len _ _ _ hl3),(dl_app hD15 (show List.map Prod.snd ([(((B44,c43),(B45,c44),(B46,c45)),r_10)]:List ((Hd×Hd×Hd)×Tl23Node))=([r_10]:List Tl23Node) from rfl)),ho61,(hS291.sg 8 [0,1,2,3,4])⟩
      ·skip
       have hF12:=cf' hz4 hb7
       refine cw_skip ?_
       have hS292:ST w0 [] _ (O1::O0::O2::O10::O9::O23::O64::O58::(D7.map (orow 3 encI 1))) (R77::R76::R75::R74::R73::⟨B2,(D.flatMap eN3)⟩::((D.flatMap eN4)++((D8.flatMap eN5)++[]))):=hS279.sR 10 [4,5,6,7,8,9]
       exact ⟨met2,list2,D7,B34,c34,D8,(sI hF12),(hf8.a 3 0 (hf8.a 4 1 (hf8.a 6 2 (hf8.a 8 3 (hf8.a 9 4 (hf8.a 13 5 (hf8.a 14 6 (hf8.a 108 8 (hf8.a 109 9 (hf8.a 110 10 fn_)))))))))),hD14,hl3,hD15,ho36,(hS292.sg 8 [0,1,2,3,4])⟩
     rintro f w ⟨met3,list3,D9,B35,c35,D10,rfl,hf7,hD16,hl4,hD17,ho37,hS183⟩
     refine cr ?_
     refine sQ 167 (yP (i4:Int) 1 rfl (hf7.g 110 9))<|sQ 110 (ym (vi (i64.wrap ((i4:Int)+1)))) (rn ?_)
     obtain rfl:=sI hF10
     exact ⟨k_8,Nat.lt_succ_self _,i4+1,met3,list3,D9,B35,c35,D10,(hf7.a 3 0 (hf7.a 4 1 (hf7.a 6 2 (hf7.a 8 3 (hf7.a 9 4 (hf7.a 13 5 (hf7.a 14 6 (hf7.a 108 7 (hf7.a 109 8 (fc (congrArg (Value.int .i64) (wr_succ hlt3 hN1)) fn_)))))))))),hD16,hl4,hD17,ho37,(hS183.sg 5 [0,1,2,3,4]),(by omega),hL7⟩
    ·skip
     obtain rfl:K104=0:=by have h:=of_decide_eq_false hlt2; omega
     refine cw_exit rfl ?_
     obtain rfl:=sI hL6
     refine cr ?_
     refine sQ 70 (ym (vi i3) rfl (hf6.g 14 6))<|sQ 71 (yP i3 1)<|sQ 14 (yg (vi (i64.wrap (i3+1)))) (rn ?_)
     obtain rfl:=sI hF9
     have hS293:ST w0 [] _ (O1::O0::O2::⟨aD b3,29,(D7.flatMap eN3),3125*1⟩::⟨B34,122,(D8.flatMap eN6),c34*4⟩::(D7.map (orow 3 encI 1))) (R74::R73::⟨B2,(D.flatMap eN3)⟩::((D.flatMap eN4)++((D8.flatMap eN5)++[]))):=hS182.sR 6 [3,4,5]
     exact ⟨K18,Nat.lt_succ_self _,met2,list2,(i64.wrap (i3+1)),D7,B34,c34,D8,(hf6.a 3 0 (hf6.a 4 1 (hf6.a 6 2 (hf6.a 8 3 (hf6.a 9 4 (hf6.a 13 5 (fc rfl fn_))))))),hD14,hl3,hD15,ho36,(hS293.sg 5 [0,1,2,3,4]),hL3⟩
  ·skip
   have hF13:=cf' hb1 hb2
   refine cw_exit rfl ?_
   obtain rfl:=sI hF13
   obtain rfl:=sI hL3
   refine cq (cr ?_)
   refine sQ 168 (Y_buildS (zs:=V150) (vs:=[]) (cs:=V150) K70 K35 rfl mpn rfl) ?_
   refine s0 (yT 2 2 (aD b2) 36 (.agg V150.toArray) V150 0 hS147 K13 rfl (hf3.g 6 2)) ?_
   rintro _ w_121 ⟨rfl,hS294⟩
   refine sQ 7 (yg (.bool false)) (rn (ct_ ?_))
   have hS295:=hS294.addNil 3
   let O66:Ob:=⟨aD b3,29,(D4.flatMap eN3),3125*1⟩
   let O67:Ob:=⟨B18,122,(D5.flatMap eN6),c18*4⟩
   let O71:Ob:=⟨none,3,([].flatMap encI),0*1⟩
   have hS296:ST w0 [] _ (O1::O0::O2::O66::O67::O71::(D4.map (orow 3 encI 1))) (R74::R73::⟨B2,(D.flatMap eN3)⟩::((D.flatMap eN4)++((D5.flatMap eN5)++[]))):=ST.rot (pre:=[O1,O0,O2,O66,O67]) (G:=(D4.map (orow 3 encI 1))) (xs:=[O71]) hS295
   have hS297:=hS296.addNil 60
   have hS298:ST w0 [] _ (O1::O0::O2::O66::O67::O71::⟨none,60,([].flatMap eN0),0*3⟩::(D4.map (orow 3 encI 1))) (R74::R73::⟨B2,(D.flatMap eN3)⟩::((D.flatMap eN4)++((D5.flatMap eN5)++[]))):=ST.rot (pre:=[O1,O0,O2,O66,O67,O71]) (G:=(D4.map (orow 3 encI 1))) (xs:=[⟨none,60,([].flatMap eN0),0*3⟩]) hS297
   obtain ⟨rfl,rfl⟩:=pr2 (sI hF2)
   exact ret2 Try.results55 (v1:=.agg V150.toArray) (resAt_cellA (B:=aD b2) (i:=0) (cs:=V150) (vs:=V150) (hf3.g 6 2) K32 K13 (hS298.c 2) rfl rfl) (v2:=.bool false) (resAt_tmp rfl) ⟨none,0,none,0,rfl,(hS298.sN [5,6])⟩

theorem c_spec_RouteFrom (g:TCouplingGraph) (c1:TCircuit) (start:List Int) (B:Option Addr) (c n:Nat) (B1:Option Addr) (c2 n1:Nat) (B2:Option Addr) (c3 n2:Nat) (w0:World) (hn:g.Edges.length=n) (hn1:c1.Gates.length=n1) (hn2:start.length=n2) (hq:n2≤c3) (hS:ST w0 [] w0 [] [⟨B,(g.Edges.flatMap eN1)⟩,⟨B1,(c1.Gates.flatMap eN2)⟩,⟨B2,(start.flatMap encI)⟩]) {r_:TRoute} {r_1:Bool} (hF:F_spec_RouteFrom g c1 start=some (r_,r_1)) :
  CV Try.prog 23 #[.agg #[vi g.Nodes,.slice B n c],.agg #[vi c1.Qubits,.slice B1 n1 c2],.slice B2 n2 c3] w0 (fun v w'=>∃ (B3:Option Addr) (c4:Nat) (B4:Option Addr) (c5:Nat),v=.tuple #[.agg #[.slice B3 r_.Start.length c4,.slice B4 r_.Steps.length c5],.bool r_1]∧ST w0 [] w' [⟨B3,3,(r_.Start.flatMap encI),c4*1⟩,⟨B4,60,(r_.Steps.flatMap eN0),c5*3⟩] []):=by
 subst hn
 subst hn1
 subst hn2
 unfold F_spec_RouteFrom at hF
 refine cv_of_cw 28 Try.func23 rfl Try.ntmps23 rfl ?_
 refine cq (cr ?_)
 let V1:List Value:=[vi g.Nodes,.slice B g.Edges.length c]
 refine sS 3 (yB 25 (.agg V1.toArray) V1 2 hS) ?_
 rintro _ w_ ⟨b,rfl,hS1⟩
 let V3:List Value:=[vi c1.Qubits,.slice B1 c1.Gates.length c2]
 refine sS 4 (yB 28 (.agg V3.toArray) V3 2 hS1) ?_
 rintro _ w_1 ⟨b1,rfl,hS2⟩
 let V4:List Value:=[.slice none 0 0,.slice none 0 0]
 refine sS 6 (yN V4 2 hS2 K35) ?_
 rintro _ w_2 ⟨b2,rfl,hS3⟩
 refine sQ 7 (yg (.bool false)) (rn (cq (cq (cr ?_))))
 refine sQ 8 (yb (aD b) 0 V1 K5 K3 (hS3.c 0))<|sQ 9 (yb (aD b1) 0 V3 K14 K7 (hS3.c 1)) ?_
 obtain ⟨r_2,hc,hF⟩:=bI hF
 refine sc 10 rfl rfl (yC [.agg V1.toArray,.agg V3.toArray] k_call_53 (c_spec_l23Small g c1 B c g.Edges.length B1 c2 c1.Gates.length _ rfl rfl (hS3.inn0 [(true,0),(true,1)] rfl) hc)) ?_
 rintro _ w_3 ⟨rfl,hd⟩
 have hS4:=hS3.out00 hd
 refine sQ 11 (Y_not (p:=r_2) rfl rfl)<|sQ 12 (ym (.bool (!r_2))) ?_
 refine sgq 13 (B:=(!(!r_2))) (v:=.agg V1.toArray) rfl rfl (uF_ 12) (fun hg=>(yb (aD b) 0 V1 K5 K3 (hS4.c 0))) ?_
 refine sgq 14 (B:=(!(!r_2))) (v:=pt (aD b1) 0) rfl rfl (uF_ 12) (fun hg1=>(yd (aD b1) 0 0 K60 K0)) ?_
 refine sgq 15 (B:=(!(!r_2))) rfl rfl (uF_ 12) (fun hg2=>(yl (aD b1) 0 V3 (vi c1.Qubits) K1 (hS4.c 1) rfl (gv_of (v:=pt (aD b1) 0) hg2))) ?_
 refine sgq 16 (B:=(!(!r_2))) rfl rfl (uF_ 12) (fun hg3=>(ym (.slice B2 start.length c3))) ?_
 obtain ⟨r_3,hc1,hF⟩:=bI hF
 refine sgc 17 (B:=(!(!r_2))) (v:=.bool r_3) (F:=hS4.fn) rfl rfl (uF_ 12) hS4 (fun hg4=>(yC [.agg V1.toArray,vi c1.Qubits,.slice B2 start.length c3] K148 (CV.mono (c_spec_l23Placement g c1.Qubits start B c g.Edges.length B2 c3 start.length _ rfl rfl hq (hS4.inn0 [(true,0),(true,2)] rfl) (gb_inv hc1 hg4)) (by rintro _ _ ⟨rfl,h⟩; exact ⟨rfl,hS4.out00 h⟩)) rfl (mc (gv_of (v:=.agg V1.toArray) hg4) (mc (gv_of (v:=vi c1.Qubits) hg4) (mc (gv_of (v:=.slice B2 start.length c3) hg4) mn))))) ?_
 rintro w_4 hS5
 refine sgq 18 (B:=(!(!r_2))) (v:=.bool (!r_3)) rfl rfl (uF_ 12) (fun hg5=>(Y_not (p:=r_3) rfl (gv_of (v:=.bool r_3) hg5))) ?_
 refine sQ 19 (Y_or (b:=(!r_2)) (z:=(!r_3)) rfl rfl rfl rfl) (rn ?_)
 refine cw_cond (b:=((!r_2)||(!r_3))) rfl (fun hb=>?_) (fun hb=>?_)
 ·skip
  have hF1:=ct hF hb
  refine cq (cr ?_)
  refine sQ 20 (Y_buildS (zs:=V4) (vs:=[]) (cs:=V4) K70 K35 rfl mpn rfl) ?_
  refine s0 (yT 2 2 (aD b2) 36 (.agg V4.toArray) V4 0 hS5 K13) ?_
  rintro _ w_5 ⟨rfl,hS6⟩
  refine sQ 7 (yg (.bool false)) (rn (ct_ ?_))
  have hS7:=hS6.addNil 3
  have hS8:=hS7.addNil 60
  obtain ⟨rfl,rfl⟩:=pr2 (sI hF1)
  exact ret2 Try.results23 (v1:=.agg V4.toArray) (resAt_cellA (B:=aD b2) (i:=0) (cs:=V4) (vs:=V4) rfl K32 K13 (hS8.c 2) rfl rfl) (v2:=.bool false) (resAt_tmp rfl) ⟨none,0,none,0,rfl,(hS8.sN [3,4])⟩
 ·skip
  have hF2:=cf' hF hb
  refine cw_skip (cq (cr ?_))
  refine sQ 21 (yb (aD b) 0 V1 K5 K3 (hS5.c 0))<|sQ 22 (yb (aD b1) 0 V3 K14 K7 (hS5.c 1))<|sQ 23 (ym (.slice B2 start.length c3)) ?_
  refine sS 24 (Ys_bslice (s:=1) (len:=1) (vs:=[(0,.slice B2 start.length c3)]) (cs:=[.slice B2 start.length c3]) (zs:=[.slice none 0 0]) (m:=1) hS5 K57 K11 k_zc_29 rfl (mpc rfl mpn) rfl rfl rfl (by kernel_rfl) (by kernel_rfl) rfl) ?_
  rintro _ w_6 ⟨b3,rfl,hS9⟩
  let R0:Ro:=⟨B1,(c1.Gates.flatMap eN2)⟩
  have hm:∀ r∈(([((B2,c3),start)]:List (Hd×(List Int))).flatMap eN4),r∈([⟨B,(g.Edges.flatMap eN1)⟩,R0,⟨B2,(start.flatMap encI)⟩]:List Ro):=(fsub_cons (sk 2 (fun _ h=>by cases h)) fsub_nil)
  have ho:Org w0 [] [⟨B,(g.Edges.flatMap eN1)⟩,R0,⟨B2,(start.flatMap encI)⟩] (([((B2,c3),start)]:List (Hd×(List Int))).flatMap eN4):=(forg_cons (org_cons (org_mem (i:=2) rfl) org_nil) forg_nil)
  have hS10:ST w0 [] _ [⟨aD b,25,V1,2⟩,⟨aD b1,28,V3,2⟩,⟨aD b2,36,V4,2⟩,⟨aD b3,29,(([((B2,c3),start)]:List (Hd×(List Int))).flatMap eN3),1*1⟩] (⟨B,(g.Edges.flatMap eN1)⟩::R0::⟨B2,(start.flatMap encI)⟩::((([((B2,c3),start)]:List (Hd×(List Int))).flatMap eN4)++[])):=ST.subR hS9 (sk 0 (sk 1 (sk 2 (suba hm (fun _ h=>by cases h)))))
  obtain ⟨⟨r_4,r_5⟩,hc2,hF2⟩:=bI hF2
  refine sc 25 rfl rfl (yC [.agg V1.toArray,.agg V3.toArray,.slice (aD b3) 1 1] k_call_55 (c_spec_l23Search g c1 ([start]:List (List Int)) B c g.Edges.length B1 c2 c1.Gates.length (aD b3) 1 1 ([((B2,c3),start)]:List (Hd×(List Int))) _ rfl rfl (dl_fl (show List.map Prod.snd ([((B2,c3),start)]:List (Hd×(List Int)))=([start]:List (List Int)) from rfl) rfl) (show List.map Prod.snd ([((B2,c3),start)]:List (Hd×(List Int)))=([start]:List (List Int)) from rfl) (hS10.innR0 (srcR (mt 0) (srcR (mt 1) (srcO (i:=3) rfl (srcG (fun r_ (h:r_∈((([((B2,c3),start)]:List (Hd×(List Int))).flatMap eN4):List Ro))=>mOd (i:=3) (show r_∈((((([((B2,c3),start)]:List (Hd×(List Int))).flatMap eN4)++[])):List Ro) from mAl _ h)) (fun _ h=>by cases h)))))) hc2)) ?_
  rintro _ w_7 ⟨B5,c6,B6,c7,rfl,hd1⟩
  have hS11:=hS10.out0 hd1
  let V2:List Value:=[.slice B5 r_4.Start.length c6,.slice B6 r_4.Steps.length c7]
  refine sQ 26 (ye (.agg V2.toArray))<|sQ 27 (ye (.bool r_5)) ?_
  refine s0 (yT 2 2 (aD b2) 36 (.agg V2.toArray) V2 0 hS11 K13) ?_
  rintro _ w_8 ⟨rfl,hS12⟩
  refine sQ 7 (yg (.bool r_5)) (rn (ct_ ?_))
  obtain ⟨rfl,rfl⟩:=pr2 (sI hF2)
  exact ret2 Try.results23 (v1:=.agg V2.toArray) (resAt_cellA (B:=aD b2) (i:=0) (cs:=V2) (vs:=V2) rfl K32 K13 (hS12.c 2) rfl rfl) (v2:=.bool r_5) (resAt_tmp rfl) ⟨B5,c6,B6,c7,rfl,(hS12.sN [4,5])⟩

theorem c_spec_LeastSwaps (g:TCouplingGraph) (c1:TCircuit) (start:List Int) (B:Option Addr) (c n:Nat) (B1:Option Addr) (c2 n1:Nat) (B2:Option Addr) (c3 n2:Nat) (w0:World) (hn:g.Edges.length=n) (hn1:c1.Gates.length=n1) (hn2:start.length=n2) (hq:n2≤c3) (hS:ST w0 [] w0 [] [⟨B,(g.Edges.flatMap eN1)⟩,⟨B1,(c1.Gates.flatMap eN2)⟩,⟨B2,(start.flatMap encI)⟩]) {r_:Int} {r_1:Bool} (hF:F_spec_LeastSwaps g c1 start=some (r_,r_1)) :
  CV Try.prog 6 #[.agg #[vi g.Nodes,.slice B n c],.agg #[vi c1.Qubits,.slice B1 n1 c2],.slice B2 n2 c3] w0 (fun v w'=>v=.tuple #[vi r_,.bool r_1]∧ST w0 [] w' [] []):=by
 subst hn
 subst hn1
 subst hn2
 unfold F_spec_LeastSwaps at hF
 refine cv_of_cw 26 Try.func6 rfl Try.ntmps6 rfl ?_
 refine cq (cr ?_)
 let V2:List Value:=[vi g.Nodes,.slice B g.Edges.length c]
 refine sS 3 (yB 25 (.agg V2.toArray) V2 2 hS) ?_
 rintro _ w_ ⟨b,rfl,hS1⟩
 let V1:List Value:=[vi c1.Qubits,.slice B1 c1.Gates.length c2]
 refine sS 4 (yB 28 (.agg V1.toArray) V1 2 hS1) ?_
 rintro _ w_1 ⟨b1,rfl,hS2⟩
 refine sQ 6 (yg (vi 0))<|sQ 7 (yg (.bool false)) (rn (cq (cr ?_)))
 refine sQ 11 (yb (aD b) 0 V2 K5 K3 (hS2.c 0))<|sQ 12 (yb (aD b1) 0 V1 K14 K7 (hS2.c 1))<|sQ 13 (ym (.slice B2 start.length c3)) ?_
 obtain ⟨⟨r_2,r_3⟩,hc,hF⟩:=bI hF
 refine sc 14 rfl rfl (yC [.agg V2.toArray,.agg V1.toArray,.slice B2 start.length c3] k_call_23 (c_spec_RouteFrom g c1 start B c g.Edges.length B1 c2 c1.Gates.length B2 c3 start.length _ rfl rfl rfl hq (hS2.inn0 [(true,0),(true,1),(true,2)] rfl) hc)) ?_
 rintro _ w_2 ⟨B3,c4,B4,c5,rfl,hd⟩
 have hS3:=hS2.out0 hd
 let V0:List Value:=[.slice B3 r_2.Start.length c4,.slice B4 r_2.Steps.length c5]
 refine sQ 10 (ym (.tuple #[.agg V0.toArray,.bool r_3]))<|sQ 15 (ye (.agg V0.toArray))<|sQ 16 (ye (.bool r_3)) ?_
 refine sS 8 (yN [.slice none 0 0,.slice none 0 0] 2 hS3 K35) ?_
 rintro _ w_3 ⟨b2,rfl,hS4⟩
 refine s0 (yT 4 2 (aD b2) 36 (.agg V0.toArray) V0 0 hS4 K13) ?_
 rintro _ w_4 ⟨rfl,hS5⟩
 refine sQ 9 (yg (.bool r_3)) (rn (cq (cq (cr ?_))))
 refine sQ 17 (ym (.bool r_3))<|sQ 18 (Y_not (p:=r_3) rfl rfl) (rn ?_)
 refine cw_cond (b:=(!r_3)) rfl (fun hb=>?_) (fun hb=>?_)
 ·skip
  have hF1:=ct hF hb
  refine cq (cr ?_)
  refine sQ 6 (yg (vi 0))<|sQ 7 (yg (.bool false)) (rn (ct_ ?_))
  obtain ⟨rfl,rfl⟩:=pr2 (sI hF1)
  exact ret2 Try.results6 (v1:=vi 0) (resAt_tmp rfl) (v2:=.bool false) (resAt_tmp rfl) ⟨rfl,(hS5.sN [])⟩
 ·skip
  have hF2:=cf' hF hb
  refine cw_skip (cq (cr ?_))
  refine sQ 19 (yd (aD b2) 0 0 K29 K15)<|sQ 20 (yl (aD b2) 1 V0 (.slice B4 r_2.Steps.length c5) K31 (hS5.c 4))<|sQ 21 (Y_len (B:=B4) (m:=r_2.Steps.length) (c:=c5) K9 rfl rfl)<|sQ 22 (yd (aD b1) 0 0 K19 K16)<|sQ 23 (yl (aD b1) 1 V1 (.slice B1 c1.Gates.length c2) K21 (hS5.c 1))<|sQ 24 (Y_len (B:=B1) (m:=c1.Gates.length) (c:=c2) K12 rfl rfl) ?_
  refine sQ 25 (yM (r_2.Steps.length:Int) (c1.Gates.length:Int))<|sQ 6 (yg (vi (i64.wrap ((r_2.Steps.length:Int)-(c1.Gates.length:Int)))))<|sQ 7 (yg (.bool true)) (rn (ct_ ?_))
  obtain ⟨rfl,rfl⟩:=pr2 (sI hF2)
  exact ret2 Try.results6 (v1:=vi (i64.wrap ((r_2.Steps.length:Int)-(c1.Gates.length:Int)))) (resAt_tmp rfl) (v2:=.bool true) (resAt_tmp rfl) ⟨rfl,(hS5.sN [])⟩

theorem c_spec_l22Far (g:TCouplingGraph) (node:Int) (B:Option Addr) (c n:Nat) (w0:World) (hn:g.Edges.length=n) (hS:ST w0 [] w0 [] [⟨B,(g.Edges.flatMap eN1)⟩]) {r_:List Int} (hF:F_spec_l22Far g node=some r_) :
  CV Try.prog 82 #[.agg #[vi g.Nodes,.slice B n c],vi node] w0 (fun v w'=>∃ (B1:Option Addr) (c1:Nat),v=.slice B1 r_.length c1∧ST w0 [] w' [⟨B1,3,(r_.flatMap encI),c1*1⟩] []):=by
 subst hn
 unfold F_spec_l22Far at hF
 refine cv_of_cw 68 Try.func82 rfl Try.ntmps82 rfl ?_
 refine cq (cr ?_)
 let V2:List Value:=[vi g.Nodes,.slice B g.Edges.length c]
 refine sS 2 (yB 25 (.agg V2.toArray) V2 2 hS) ?_
 rintro _ w_ ⟨b,rfl,hS1⟩
 refine sQ 4 (yg (.slice none 0 0)) (rn (cq (cr ?_)))
 refine sQ 10 (yd (aD b) 0 0 K49 K0)<|sQ 11 (yl (aD b) 0 V2 (vi g.Nodes) K1 (hS1.c 0)) ?_
 obtain ⟨hmk,hF⟩:=chk_inv hF
 refine sS 12 (Ys_make (s:=1) (by':=8) (nn:=g.Nodes.toNat) (a:=g.Nodes) (b:=g.Nodes) (cs:=((List.replicate g.Nodes.toNat 0).flatMap encI)) hS1 K2 K0 K53 K54 rfl rfl rfl rfl hmk.1 rfl (by have:=hmk; omega) (by have:=hmk; omega) (by omega) (fm_rep (enc:=encI) (d:=0) rfl _)) ?_
 rintro _ w_1 ⟨b1,rfl,hS2⟩
 refine sQ 5 (yg (.slice (aD b1) g.Nodes.toNat g.Nodes.toNat)) (rn (cq (cq (cr ?_))))
 refine sQ 13 (ym (.slice (aD b1) g.Nodes.toNat g.Nodes.toNat))<|sQ 14 (Y_len (B:=aD b1) (m:=g.Nodes.toNat) (c:=g.Nodes.toNat) K2 rfl rfl)<|sQ 15 (ym (vi 0)) (rn ?_)
 obtain ⟨hN,hF⟩:=chk_inv hF
 obtain ⟨z,hz,hF1⟩:=bI hF
 refine cw_block ?_
 let O0:Ob:=⟨aD b,25,V2,2⟩
 let R1:Ro:=⟨B,(g.Edges.flatMap eN1)⟩
 refine cw_loop (fun k f w=>∃ (i:Nat) (far:List Int),FF f [(1,vi node),(2,pt (aD b) 0),(5,.slice (aD b1) g.Nodes.toNat g.Nodes.toNat),(14,vi (g.Nodes.toNat:Int)),(15,vi (i:Int))]∧far.length=g.Nodes.toNat∧ST w0 [] w [O0,⟨aD b1,3,(far.flatMap encI),g.Nodes.toNat*1⟩] [R1]∧i+k=g.Nodes.toNat∧forN F_spec_l22Far_l1 k i far=some z) g.Nodes.toNat ⟨0,(List.replicate g.Nodes.toNat 0),(fc rfl (fc rfl (fc rfl (fc rfl (fc rfl fn_))))),List.length_replicate,(hS2.sel [0,1] rfl rfl),Nat.zero_add _,hz⟩ ?_
 rintro k_ f w ⟨i,far,hf,hl,hS3,hik,hL⟩
 refine cq (cr ?_)
 refine sQ 16 (yL (i:Int) (g.Nodes.toNat:Int) rfl (hf.g 15 4) (hf.g 14 3)) (rn (cq ?_))
 refine cw_cond (b:=(decide ((i:Int)<(g.Nodes.toNat:Int)))) rfl (fun hlt=>?_) (fun hlt=>?_)
 ·skip
  have hlt1:i<g.Nodes.toNat:=by have h:=of_decide_eq_true hlt; omega
  obtain ⟨K4,rfl⟩:∃ k2,k_=k2+1:=⟨k_-1,by omega⟩
  obtain ⟨y,hb,hL1⟩:=forN_go hL
  unfold F_spec_l22Far_l1 at hb
  refine cw_skip (cq (cw_block (cq (cr ?_))))
  refine sQ 17 (ym (vi (i:Int)) rfl (hf.g 15 4))<|sQ 6 (yg (vi (i:Int))) (rn (cr ?_))
  refine sQ 18 (ym (.slice (aD b1) g.Nodes.toNat g.Nodes.toNat) rfl (hf.g 5 2))<|sQ 19 (ym (vi (i:Int))) ?_
  obtain ⟨x,hx,hb⟩:=bI hb
  refine sQ 20 (Y_index (B:=aD b1) (m:=g.Nodes.toNat) (c:=g.Nodes.toNat) (k:=.i64) (i:=(i:Int)) K2 K0 rfl rfl rfl (gi_isSome encI_len rfl (hS3.c 1) hx) (getI_nn hx) (getI_ltI hx hl)) ?_
  refine s0 (yS 1 1 (aD b1) 3 (vi (-1)) [vi (-1)] ((i:Int).toNat*1) ((far.set (i:Int).toNat (-1)).flatMap encI) hS3 K0 rfl rfl rfl rfl rfl rfl rfl (gi_fit0 encI_len hx) (gi_set encI_len hx (-1) rfl)) ?_
  rintro _ w_2 ⟨rfl,hS4⟩
  refine rn (cr ?_)
  refine sQ 21 (yP (i:Int) 1 rfl (hf.g 15 4))<|sQ 15 (ym (vi (i64.wrap ((i:Int)+1)))) (rn ?_)
  obtain rfl:=sI hb
  exact ⟨K4,Nat.lt_succ_self _,i+1,(far.set (i:Int).toNat (-1)),(hf.a 1 0 (hf.a 2 1 (hf.a 5 2 (hf.a 14 3 (fc (congrArg (Value.int .i64) (wr_succ hlt1 hN)) fn_))))),(set_len _ _ _ hl),(hS4.sel [0,1] rfl rfl),(by omega),hL1⟩
 ·skip
  obtain rfl:k_=0:=by have h:=of_decide_eq_false hlt; omega
  refine cw_exit rfl ?_
  obtain rfl:=sI hL
  refine cq (cr ?_)
  refine sQ 22 (ym (.slice (aD b1) g.Nodes.toNat g.Nodes.toNat) rfl (hf.g 5 2))<|sQ 23 (ym (vi node) rfl (hf.g 1 0)) ?_
  obtain ⟨x1,hx1,hF1⟩:=bI hF1
  refine sQ 24 (Y_index (B:=aD b1) (m:=g.Nodes.toNat) (c:=g.Nodes.toNat) (k:=.i64) (i:=node) K2 K0 rfl rfl rfl (gi_isSome encI_len rfl (hS3.c 1) hx1) (getI_nn hx1) (getI_ltI hx1 hl)) ?_
  refine s0 (yS 1 1 (aD b1) 3 (vi 0) [vi 0] (node.toNat*1) ((far.set node.toNat 0).flatMap encI) hS3 K0 rfl rfl rfl rfl rfl rfl rfl (gi_fit0 encI_len hx1) (gi_set encI_len hx1 0 rfl)) ?_
  rintro _ w_3 ⟨rfl,hS5⟩
  refine rn (cq (cq (cr ?_)))
  refine sQ 7 (yg (vi 0)) (rn ?_)
  obtain ⟨hN1,hF1⟩:=chk_inv hF1
  obtain ⟨z1,hz1,hF2⟩:=bI hF1
  refine cw_block ?_
  refine cw_loop (fun k f w=>∃ (d:Nat) (far1:List Int),FF f [(2,pt (aD b) 0),(5,.slice (aD b1) g.Nodes.toNat g.Nodes.toNat),(7,vi (d:Int))]∧far1.length=g.Nodes.toNat∧ST w0 [] w [O0,⟨aD b1,3,(far1.flatMap encI),g.Nodes.toNat*1⟩] [R1]∧d+k=g.Nodes.toNat∧forN (F_spec_l22Far_l2 g) k d far1=some z1) g.Nodes.toNat ⟨0,(far.set node.toNat 0),(hf.a 2 1 (hf.a 5 2 (fc rfl fn_))),(set_len _ _ _ hl),(hS5.sel [0,1] rfl rfl),Nat.zero_add _,hz1⟩ ?_
  rintro K10 f w ⟨d,far1,hf1,hl1,hS6,hik1,hL2⟩
  refine cq (cq (cr ?_))
  refine sQ 25 (ym (vi (d:Int)) rfl (hf1.g 7 2))<|sQ 26 (yd (aD b) 0 0 K49 K0 rfl (hf1.g 2 0))<|sQ 27 (yl (aD b) 0 V2 (vi g.Nodes) K1 (hS6.c 0))<|sQ 28 (yL (d:Int) g.Nodes) (rn ?_)
  refine cw_cond (b:=(decide ((d:Int)<g.Nodes))) rfl (fun hlt2=>?_) (fun hlt2=>?_)
  ·skip
   have hlt3:d<g.Nodes.toNat:=by have h:=of_decide_eq_true hlt2; omega
   obtain ⟨K18,rfl⟩:∃ k2,K10=k2+1:=⟨K10-1,by omega⟩
   obtain ⟨y1,hb1,hL3⟩:=forN_go hL2
   unfold F_spec_l22Far_l2 at hb1
   refine cw_skip (cq (cw_block (cq (cr ?_))))
   refine sQ 31 (ym (.slice (aD b1) g.Nodes.toNat g.Nodes.toNat) rfl (hf1.g 5 1))<|sQ 32 (Y_len (B:=aD b1) (m:=g.Nodes.toNat) (c:=g.Nodes.toNat) K2 rfl rfl)<|sQ 33 (ym (vi 0)) (rn ?_)
   obtain ⟨hN2,hb1⟩:=chk_inv hb1
   obtain ⟨z2,hz2,hF3⟩:=bI hb1
   refine cw_block ?_
   refine cw_loop (fun k f w=>∃ (i2:Nat) (far2:List Int),FF f [(2,pt (aD b) 0),(5,.slice (aD b1) g.Nodes.toNat g.Nodes.toNat),(7,vi (d:Int)),(32,vi (g.Nodes.toNat:Int)),(33,vi (i2:Int))]∧far2.length=g.Nodes.toNat∧ST w0 [] w [O0,⟨aD b1,3,(far2.flatMap encI),g.Nodes.toNat*1⟩] [R1]∧i2+k=g.Nodes.toNat∧forN (F_spec_l22Far_l3 g d) k i2 far2=some z2) g.Nodes.toNat ⟨0,far1,(hf1.a 2 0 (hf1.a 5 1 (hf1.a 7 2 (fc rfl (fc rfl fn_))))),hl1,(hS6.sel [0,1] rfl rfl),Nat.zero_add _,hz2⟩ ?_
   rintro K24 f w ⟨i2,far2,hf2,hl2,hS7,hik2,hL4⟩
   refine cq (cr ?_)
   refine sQ 34 (yL (i2:Int) (g.Nodes.toNat:Int) rfl (hf2.g 33 4) (hf2.g 32 3)) (rn (cq ?_))
   refine cw_cond (b:=(decide ((i2:Int)<(g.Nodes.toNat:Int)))) rfl (fun hlt4=>?_) (fun hlt4=>?_)
   ·skip
    have hlt5:i2<g.Nodes.toNat:=by have h:=of_decide_eq_true hlt4; omega
    obtain ⟨K111,rfl⟩:∃ k2,K24=k2+1:=⟨K24-1,by omega⟩
    obtain ⟨y2,hb2,hL5⟩:=forN_go hL4
    unfold F_spec_l22Far_l3 at hb2
    refine cw_skip (cq (cw_block (cq (cr ?_))))
    refine sQ 35 (ym (vi (i2:Int)) rfl (hf2.g 33 4))<|sQ 8 (yg (vi (i2:Int))) (rn (cq (cr ?_)))
    refine sQ 36 (ym (.slice (aD b1) g.Nodes.toNat g.Nodes.toNat) rfl (hf2.g 5 1))<|sQ 37 (Y_len (B:=aD b1) (m:=g.Nodes.toNat) (c:=g.Nodes.toNat) K2 rfl rfl)<|sQ 38 (ym (vi 0)) (rn ?_)
    obtain ⟨hN3,hb2⟩:=chk_inv hb2
    obtain ⟨z3,hz3,hF4⟩:=bI hb2
    refine cw_block ?_
    refine cw_loop (fun k f w=>∃ (i3:Nat) (far3:List Int),FF f [(2,pt (aD b) 0),(5,.slice (aD b1) g.Nodes.toNat g.Nodes.toNat),(7,vi (d:Int)),(8,vi (i2:Int)),(32,vi (g.Nodes.toNat:Int)),(33,vi (i2:Int)),(37,vi (g.Nodes.toNat:Int)),(38,vi (i3:Int))]∧far3.length=g.Nodes.toNat∧ST w0 [] w [O0,⟨aD b1,3,(far3.flatMap encI),g.Nodes.toNat*1⟩] [R1]∧i3+k=g.Nodes.toNat∧forN (F_spec_l22Far_l4 i2 d g) k i3 far3=some z3) g.Nodes.toNat ⟨0,far2,(hf2.a 2 0 (hf2.a 5 1 (hf2.a 7 2 (fc rfl (hf2.a 32 3 (hf2.a 33 4 (fc rfl (fc rfl fn_)))))))),hl2,(hS7.sel [0,1] rfl rfl),Nat.zero_add _,hz3⟩ ?_
    rintro K103 f w ⟨i3,far3,hf3,hl3,hS8,hik3,hL6⟩
    refine cq (cr ?_)
    refine sQ 39 (yL (i3:Int) (g.Nodes.toNat:Int) rfl (hf3.g 38 7) (hf3.g 37 6)) (rn (cq ?_))
    refine cw_cond (b:=(decide ((i3:Int)<(g.Nodes.toNat:Int)))) rfl (fun hlt6=>?_) (fun hlt6=>?_)
    ·skip
     have hlt7:i3<g.Nodes.toNat:=by have h:=of_decide_eq_true hlt6; omega
     obtain ⟨K104,rfl⟩:∃ k2,K103=k2+1:=⟨K103-1,by omega⟩
     obtain ⟨y3,hb3,hL7⟩:=forN_go hL6
     unfold F_spec_l22Far_l4 at hb3
     refine cw_skip (cq ?_)
     obtain ⟨z4,hz4,hF5⟩:=bI hb3
     refine cw_mid (fun f w=>∃ (far4:List Int),far4=z4∧FF f [(2,pt (aD b) 0),(5,.slice (aD b1) g.Nodes.toNat g.Nodes.toNat),(7,vi (d:Int)),(8,vi (i2:Int)),(32,vi (g.Nodes.toNat:Int)),(33,vi (i2:Int)),(37,vi (g.Nodes.toNat:Int)),(38,vi (i3:Int))]∧far4.length=g.Nodes.toNat∧ST w0 [] w [O0,⟨aD b1,3,(far4.flatMap encI),g.Nodes.toNat*1⟩] [R1]) ?_ ?_
     ·skip
      refine cw_block (cq (cr ?_))
      refine sQ 40 (ym (vi (i3:Int)) rfl (hf3.g 38 7))<|sQ 9 (yg (vi (i3:Int))) (rn (cq (cr ?_)))
      refine sQ 41 (ym (.slice (aD b1) g.Nodes.toNat g.Nodes.toNat) rfl (hf3.g 5 1))<|sQ 42 (ym (vi (i2:Int)) rfl (hf3.g 8 3)) ?_
      obtain ⟨x2,hx2,hz4⟩:=bI hz4
      refine sQ 43 (Y_index (B:=aD b1) (m:=g.Nodes.toNat) (c:=g.Nodes.toNat) (k:=.i64) (i:=(i2:Int)) K2 K0 rfl rfl rfl (gi_isSome encI_len rfl (hS8.c 1) hx2) (getI_nn hx2) (getI_ltI hx2 hl3))<|sQ 44 (yl (aD b1) ((i2:Int).toNat*1) (far3.flatMap encI) (vi x2) K1 (hS8.c 1) rfl rfl (gi_at0 encI_len hx2 rfl))<|sQ 45 (ym (vi (d:Int)) rfl (hf3.g 7 2))<|sQ 46 (yE x2 (d:Int))<|sQ 47 (ym (.bool (x2==(d:Int)))) ?_
      refine sgq 48 (B:=(x2==(d:Int))) rfl rfl (uT_ 47) (fun hg=>(ym (.slice (aD b1) g.Nodes.toNat g.Nodes.toNat) rfl (hf3.g 5 1))) ?_
      refine sgq 49 (B:=(x2==(d:Int))) rfl rfl (uT_ 47) (fun hg1=>(ym (vi (i3:Int)))) ?_
      obtain ⟨x3,hx3,hz4⟩:=bI hz4
      refine sgq 50 (B:=(x2==(d:Int))) (v:=pt (aD b1) ((i3:Int).toNat*1)) rfl rfl (uT_ 47) (fun hg2=>(Y_index (B:=aD b1) (m:=g.Nodes.toNat) (c:=g.Nodes.toNat) (k:=.i64) (i:=(i3:Int)) K2 K0 rfl (gv_of (v:=.slice (aD b1) g.Nodes.toNat g.Nodes.toNat) hg2) (gv_of (v:=vi (i3:Int)) hg2) (gi_isSome encI_len rfl (hS8.c 1) (gb_inv hx3 hg2)) (getI_nn (gb_inv hx3 hg2)) (getI_ltI (gb_inv hx3 hg2) hl3))) ?_
      refine sgq 51 (B:=(x2==(d:Int))) rfl rfl (uT_ 47) (fun hg3=>(yl (aD b1) ((i3:Int).toNat*1) (far3.flatMap encI) (vi x3) K1 (hS8.c 1) rfl (gv_of (v:=pt (aD b1) ((i3:Int).toNat*1)) hg3) (gi_at0 encI_len (gb_inv hx3 hg3) rfl))) ?_
      refine sgq 52 (B:=(x2==(d:Int))) rfl rfl (uT_ 47) (fun hg4=>(yL x3 0 rfl (gv_of (v:=vi x3) hg4))) ?_
      refine sQ 53 (Y_and (b:=(x2==(d:Int))) (z:=(decide (x3<0))) rfl rfl rfl rfl)<|sQ 54 (ym (.bool ((x2==(d:Int))&&(decide (x3<0))))) ?_
      refine sgq 55 (B:=((x2==(d:Int))&&(decide (x3<0)))) (v:=.agg V2.toArray) rfl rfl (uT_ 54) (fun hg5=>(yb (aD b) 0 V2 K5 K3 (hS8.c 0) rfl (hf3.g 2 0))) ?_
      refine sgq 56 (B:=((x2==(d:Int))&&(decide (x3<0)))) rfl rfl (uT_ 54) (fun hg6=>(ym (vi (i2:Int)) rfl (hf3.g 8 3))) ?_
      refine sgq 57 (B:=((x2==(d:Int))&&(decide (x3<0)))) rfl rfl (uT_ 54) (fun hg7=>(ym (vi (i3:Int)))) ?_
      obtain ⟨r_1,hc,hz4⟩:=bI hz4
      refine sgc 58 (B:=((x2==(d:Int))&&(decide (x3<0)))) (v:=.bool r_1) (F:=hS8.fn) rfl rfl (uT_ 54) hS8 (fun hg8=>(yC [.agg V2.toArray,vi (i2:Int),vi (i3:Int)] K122 (CV.mono (c_spec_l22Edge g (i2:Int) (i3:Int) B c g.Edges.length _ rfl (hS8.inn0 [(true,0)] rfl) (gb_inv hc hg8)) (by rintro _ _ ⟨rfl,h⟩; exact ⟨rfl,hS8.out00 h⟩)) rfl (mc (gv_of (v:=.agg V2.toArray) hg8) (mc (gv_of (v:=vi (i2:Int)) hg8) (mc (gv_of (v:=vi (i3:Int)) hg8) mn))))) ?_
      rintro w_4 hS10
      refine sQ 59 (Y_and (b:=((x2==(d:Int))&&(decide (x3<0)))) (z:=r_1) rfl rfl rfl rfl) (rn ?_)
      refine cw_cond (b:=(((x2==(d:Int))&&(decide (x3<0)))&&r_1)) rfl (fun hb4=>?_) (fun hb4=>?_)
      ·skip
       have hF6:=ct hz4 hb4
       refine cr ?_
       refine sQ 60 (ym (.slice (aD b1) g.Nodes.toNat g.Nodes.toNat) rfl (hf3.g 5 1))<|sQ 61 (ym (vi (i3:Int)))<|sQ 62 (ym (vi (d:Int)) rfl (hf3.g 7 2))<|sQ 63 (yP (d:Int) 1) ?_
       obtain ⟨x4,hx4,hF6⟩:=bI hF6
       refine sQ 64 (Y_index (B:=aD b1) (m:=g.Nodes.toNat) (c:=g.Nodes.toNat) (k:=.i64) (i:=(i3:Int)) K2 K0 rfl rfl rfl (gi_isSome encI_len rfl (hS10.c 1) hx4) (getI_nn hx4) (getI_ltI hx4 hl3)) ?_
       refine s0 (yS 1 1 (aD b1) 3 (vi (i64.wrap ((d:Int)+1))) [vi (i64.wrap ((d:Int)+1))] ((i3:Int).toNat*1) ((far3.set (i3:Int).toNat (i64.wrap ((d:Int)+1))).flatMap encI) hS10 K0 rfl rfl rfl rfl rfl rfl rfl (gi_fit0 encI_len hx4) (gi_set encI_len hx4 (i64.wrap ((d:Int)+1)) rfl)) ?_
       rintro _ w_5 ⟨rfl,hS11⟩
       refine rn ?_
       exact ⟨(far3.set (i3:Int).toNat (i64.wrap ((d:Int)+1))),(sI hF6),(hf3.a 2 0 (hf3.a 5 1 (hf3.a 7 2 (hf3.a 8 3 (hf3.a 32 4 (hf3.a 33 5 (hf3.a 37 6 (hf3.a 38 7 fn_)))))))),(set_len _ _ _ hl3),(hS11.sel [0,1] rfl rfl)⟩
      ·skip
       have hF7:=cf' hz4 hb4
       refine cw_skip ?_
       exact ⟨far3,(sI hF7),(hf3.a 2 0 (hf3.a 5 1 (hf3.a 7 2 (hf3.a 8 3 (hf3.a 32 4 (hf3.a 33 5 (hf3.a 37 6 (hf3.a 38 7 fn_)))))))),hl3,(hS10.sel [0,1] rfl rfl)⟩
     rintro f w ⟨far4,rfl,hf4,hl4,hS9⟩
     refine cr ?_
     refine sQ 65 (yP (i3:Int) 1 rfl (hf4.g 38 7))<|sQ 38 (ym (vi (i64.wrap ((i3:Int)+1)))) (rn ?_)
     obtain rfl:=sI hF5
     exact ⟨K104,Nat.lt_succ_self _,i3+1,far4,(hf4.a 2 0 (hf4.a 5 1 (hf4.a 7 2 (hf4.a 8 3 (hf4.a 32 4 (hf4.a 33 5 (hf4.a 37 6 (fc (congrArg (Value.int .i64) (wr_succ hlt7 hN3)) fn_)))))))),hl4,(hS9.sel [0,1] rfl rfl),(by omega),hL7⟩
    ·skip
     obtain rfl:K103=0:=by have h:=of_decide_eq_false hlt6; omega
     refine cw_exit rfl ?_
     obtain rfl:=sI hL6
     refine cr ?_
     refine sQ 66 (yP (i2:Int) 1 rfl (hf3.g 33 5))<|sQ 33 (ym (vi (i64.wrap ((i2:Int)+1)))) (rn ?_)
     obtain rfl:=sI hF4
     exact ⟨K111,Nat.lt_succ_self _,i2+1,far3,(hf3.a 2 0 (hf3.a 5 1 (hf3.a 7 2 (hf3.a 32 4 (fc (congrArg (Value.int .i64) (wr_succ hlt5 hN2)) fn_))))),hl3,(hS8.sel [0,1] rfl rfl),(by omega),hL5⟩
   ·skip
    obtain rfl:K24=0:=by have h:=of_decide_eq_false hlt4; omega
    refine cw_exit rfl ?_
    obtain rfl:=sI hL4
    refine cr ?_
    refine sQ 29 (ym (vi (d:Int)) rfl (hf2.g 7 2))<|sQ 30 (yP (d:Int) 1)<|sQ 7 (yg (vi (i64.wrap ((d:Int)+1)))) (rn ?_)
    obtain rfl:=sI hF3
    exact ⟨K18,Nat.lt_succ_self _,d+1,far2,(hf2.a 2 0 (hf2.a 5 1 (fc (congrArg (Value.int .i64) (wr_succ hlt3 hN1)) fn_))),hl2,(hS7.sel [0,1] rfl rfl),(by omega),hL3⟩
  ·skip
   obtain rfl:K10=0:=by have h:=of_decide_eq_false hlt2; omega
   refine cw_exit rfl ?_
   obtain rfl:=sI hL2
   refine cq (cr ?_)
   refine sQ 67 (ym (.slice (aD b1) g.Nodes.toNat g.Nodes.toNat) rfl (hf1.g 5 1))<|sQ 4 (yg (.slice (aD b1) g.Nodes.toNat g.Nodes.toNat)) (rn (ct_ ?_))
   obtain rfl:=sI hF2
   exact ret1 Try.results82 (v1:=.slice (aD b1) g.Nodes.toNat g.Nodes.toNat) (resAt_tmp rfl) ⟨aD b1,g.Nodes.toNat,(sl_eqv hl1),(hS6.sN [1])⟩

theorem c_spec_l22Near (g:TCouplingGraph) (node:Int) (B:Option Addr) (c n:Nat) (w0:World) (hn:g.Edges.length=n) (hS:ST w0 [] w0 [] [⟨B,(g.Edges.flatMap eN1)⟩]) {r_:List Int} (hF:F_spec_l22Near g node=some r_) :
  CV Try.prog 83 #[.agg #[vi g.Nodes,.slice B n c],vi node] w0 (fun v w'=>∃ (B1:Option Addr) (c1:Nat),v=.slice B1 r_.length c1∧ST w0 [] w' [⟨B1,3,(r_.flatMap encI),c1*1⟩] []):=by
 subst hn
 unfold F_spec_l22Near at hF
 refine cv_of_cw 22 Try.func83 rfl Try.ntmps83 rfl ?_
 refine cq (cr ?_)
 let V0:List Value:=[vi g.Nodes,.slice B g.Edges.length c]
 refine sS 2 (yB 25 (.agg V0.toArray) V0 2 hS) ?_
 rintro _ w_ ⟨b,rfl,hS1⟩
 refine sQ 4 (yg (.slice none 0 0)) (rn (cq (cr ?_)))
 refine sQ 5 (yg (.slice none 0 0)) (rn (cq (cq (cr ?_))))
 refine sQ 6 (yg (vi 0)) (rn ?_)
 obtain ⟨hN,hF⟩:=chk_inv hF
 obtain ⟨z,hz,hF1⟩:=bI hF
 have hS3:=hS1.addNil 3
 refine cw_block ?_
 refine cw_loop (fun k f w=>∃ (k_:Nat) (out:List Int) (B2:Option Addr) (c2:Nat),FF f [(1,vi node),(2,pt (aD b) 0),(5,.slice B2 out.length c2),(6,vi (k_:Int))]∧ST w0 [] w [⟨aD b,25,V0,2⟩,⟨B2,3,(out.flatMap encI),c2*1⟩] [⟨B,(g.Edges.flatMap eN1)⟩]∧k_+k=g.Nodes.toNat∧forN (F_spec_l22Near_l1 g node) k k_ out=some z) g.Nodes.toNat ⟨0,[],none,0,(fc rfl (fc rfl (fc rfl (fc rfl fn_)))),(hS3.sel [0,1] rfl rfl),Nat.zero_add _,hz⟩ ?_
 rintro K4 f w ⟨k_,out,B2,c2,hf,hS2,hik,hL⟩
 refine cq (cq (cr ?_))
 refine sQ 7 (ym (vi (k_:Int)) rfl (hf.g 6 3))<|sQ 8 (yd (aD b) 0 0 K49 K0 rfl (hf.g 2 1))<|sQ 9 (yl (aD b) 0 V0 (vi g.Nodes) K1 (hS2.c 0))<|sQ 10 (yL (k_:Int) g.Nodes) (rn ?_)
 refine cw_cond (b:=(decide ((k_:Int)<g.Nodes))) rfl (fun hlt=>?_) (fun hlt=>?_)
 ·skip
  have hlt1:k_<g.Nodes.toNat:=by have h:=of_decide_eq_true hlt; omega
  obtain ⟨K10,rfl⟩:∃ k2,K4=k2+1:=⟨K4-1,by omega⟩
  obtain ⟨y,hb,hL1⟩:=forN_go hL
  unfold F_spec_l22Near_l1 at hb
  refine cw_skip (cq ?_)
  obtain ⟨z1,hz1,hF2⟩:=bI hb
  refine cw_mid (fun f w=>∃ (out1:List Int) (B3:Option Addr) (c3:Nat),out1=z1∧FF f [(1,vi node),(2,pt (aD b) 0),(5,.slice B3 out1.length c3),(6,vi (k_:Int))]∧ST w0 [] w [⟨aD b,25,V0,2⟩,⟨B3,3,(out1.flatMap encI),c3*1⟩] [⟨B,(g.Edges.flatMap eN1)⟩]) ?_ ?_
  ·skip
   refine cw_block (cq (cr ?_))
   refine sQ 13 (yb (aD b) 0 V0 K5 K3 (hS2.c 0) rfl (hf.g 2 1))<|sQ 14 (ym (vi node) rfl (hf.g 1 0))<|sQ 15 (ym (vi (k_:Int)) rfl (hf.g 6 3)) ?_
   obtain ⟨r_1,hc,hz1⟩:=bI hz1
   refine sc 16 rfl rfl (yC [.agg V0.toArray,vi node,vi (k_:Int)] K122 (c_spec_l22Edge g node (k_:Int) B c g.Edges.length _ rfl (hS2.inn0 [(true,0)] rfl) hc)) ?_
   rintro _ w_1 ⟨rfl,hd⟩
   have hS5:=hS2.out00 hd
   refine rn ?_
   refine cw_cond (b:=r_1) rfl (fun hb1=>?_) (fun hb1=>?_)
   ·skip
    have hF3:=ct hz1 hb1
    refine cr ?_
    refine sQ 17 (ym (.slice B2 out.length c2) rfl (hf.g 5 2))<|sQ 18 (ym (vi (k_:Int)) rfl (hf.g 6 3)) ?_
    refine sS 19 (Ys_bslice (s:=1) (len:=1) (vs:=[(0,vi (k_:Int))]) (cs:=[vi (k_:Int)]) (zs:=[vi 0]) (m:=1) hS5 K2 K0 K30 rfl (mpc rfl mpn) rfl rfl rfl (by kernel_rfl) (by kernel_rfl) rfl) ?_
    rintro _ w_2 ⟨b1,rfl,hS6⟩
    obtain ⟨hap,hF3⟩:=chk_inv hF3
    refine sS 20 (Ys_append (s:=1) (by':=8) (i:=1) (nn:=out.length) (c:=c2) (k:=1) (len:=(out++[(k_:Int)]).length) (B:=B2) (xs:=([(k_:Int)].flatMap encI)) (cs':=((out++[(k_:Int)]).flatMap encI)) hS6 K2 K0 K53 K54 rfl (by decide) rfl rfl rfl rfl (fm_lenn (l:=out) encI_len rfl) rfl (hS6.c 2) (fm_lenn (l:=[(k_:Int)]) encI_len rfl) (fm_one' (enc:=encI) encI_one [(k_:Int)]) (by have:=hap; omega) (by have:=hap; simp only [maxLen]; omega) (fm_app _ _) (app_len (l:=out) (l':=[(k_:Int)]) rfl rfl)) ?_
    rintro _ w_3 ⟨B4,c4,rfl,hS7⟩
    refine sQ 5 (yg (.slice B4 ((out++[(k_:Int)]).length) c4)) (rn ?_)
    exact ⟨(out++[(k_:Int)]),B4,c4,(sI hF3),(hf.a 1 0 (hf.a 2 1 (fc rfl (hf.a 6 3 fn_)))),(hS7.sel [0,1] rfl rfl)⟩
   ·skip
    have hF4:=cf' hz1 hb1
    refine cw_skip ?_
    exact ⟨out,B2,c2,(sI hF4),(hf.a 1 0 (hf.a 2 1 (hf.a 5 2 (hf.a 6 3 fn_)))),(hS5.sel [0,1] rfl rfl)⟩
  rintro f w ⟨out1,B3,c3,rfl,hf1,hS4⟩
  refine cr ?_
  refine sQ 11 (ym (vi (k_:Int)) rfl (hf1.g 6 3))<|sQ 12 (yP (k_:Int) 1)<|sQ 6 (yg (vi (i64.wrap ((k_:Int)+1)))) (rn ?_)
  obtain rfl:=sI hF2
  exact ⟨K10,Nat.lt_succ_self _,k_+1,out1,B3,c3,(hf1.a 1 0 (hf1.a 2 1 (hf1.a 5 2 (fc (congrArg (Value.int .i64) (wr_succ hlt1 hN)) fn_)))),(hS4.sel [0,1] rfl rfl),(by omega),hL1⟩
 ·skip
  obtain rfl:K4=0:=by have h:=of_decide_eq_false hlt; omega
  refine cw_exit rfl ?_
  obtain rfl:=sI hL
  refine cq (cr ?_)
  refine sQ 21 (ym (.slice B2 out.length c2) rfl (hf.g 5 2))<|sQ 4 (yg (.slice B2 out.length c2)) (rn (ct_ ?_))
  obtain rfl:=sI hF1
  exact ret1 Try.results83 (v1:=.slice B2 out.length c2) (resAt_tmp rfl) ⟨B2,c2,rfl,(hS2.sN [1])⟩

theorem c_spec_l22Path (g:TCouplingGraph) (a:Int) (b:Int) (B:Option Addr) (c n:Nat) (w0:World) (hn:g.Edges.length=n) (hS:ST w0 [] w0 [] [⟨B,(g.Edges.flatMap eN1)⟩]) {r_:List Int} (hF:F_spec_l22Path g a b=some r_) :
  CV Try.prog 57 #[.agg #[vi g.Nodes,.slice B n c],vi a,vi b] w0 (fun v w'=>∃ (B1:Option Addr) (c1:Nat),v=.slice B1 r_.length c1∧ST w0 [] w' [⟨B1,3,(r_.flatMap encI),c1*1⟩] []):=by
 subst hn
 unfold F_spec_l22Path at hF
 refine cv_of_cw 49 Try.func57 rfl Try.ntmps57 rfl ?_
 refine cq (cr ?_)
 let V2:List Value:=[vi g.Nodes,.slice B g.Edges.length c]
 refine sS 3 (yB 25 (.agg V2.toArray) V2 2 hS) ?_
 rintro _ w_ ⟨b1,rfl,hS1⟩
 refine sQ 6 (yg (.slice none 0 0)) (rn (cq (cr ?_)))
 refine sQ 11 (yb (aD b1) 0 V2 K5 K3 (hS1.c 0))<|sQ 12 (ym (vi b)) ?_
 obtain ⟨r_1,hc,hF⟩:=bI hF
 refine sc 13 rfl rfl (yC [.agg V2.toArray,vi b] k_call_82 (c_spec_l22Far g b B c g.Edges.length _ rfl (hS1.inn0 [(true,0)] rfl) hc)) ?_
 rintro _ w_1 ⟨B2,c2,rfl,hd⟩
 have hS2:=hS1.out0 hd
 refine sQ 7 (yg (.slice B2 r_1.length c2)) (rn (cq (cq (cr ?_))))
 refine sQ 14 (ym (.slice B2 r_1.length c2))<|sQ 15 (ym (vi a)) ?_
 obtain ⟨x,hx,hF⟩:=bI hF
 refine sQ 16 (Y_index (B:=B2) (m:=r_1.length) (c:=c2) (k:=.i64) (i:=a) K2 K0 rfl rfl rfl (gi_isSome encI_len rfl (hS2.c 1) hx) (getI_nn hx) (getI_ltI hx rfl))<|sQ 17 (yl B2 (a.toNat*1) (r_1.flatMap encI) (vi x) K1 (hS2.c 1) rfl rfl (gi_at0 encI_len hx rfl))<|sQ 18 (yL x 0) (rn ?_)
 refine cw_cond (b:=(decide (x<0))) rfl (fun hb=>?_) (fun hb=>?_)
 ·skip
  have hF1:=ct hF hb
  refine cq (cr ?_)
  refine sQ 6 (yg (.slice none 0 0)) (rn (ct_ ?_))
  have hS3:=hS2.addNil 3
  obtain rfl:=sI hF1
  exact ret1 Try.results57 (v1:=.slice none 0 0) (resAt_tmp rfl) ⟨none,0,rfl,(hS3.sN [2])⟩
 ·skip
  have hF2:=cf' hF hb
  refine cw_skip (cq (cr ?_))
  refine sQ 19 (ym (vi a)) ?_
  refine sS 20 (Ys_bslice (s:=1) (len:=1) (vs:=[(0,vi a)]) (cs:=[vi a]) (zs:=[vi 0]) (m:=1) hS2 K2 K0 K30 rfl (mpc rfl mpn) rfl rfl rfl (by kernel_rfl) (by kernel_rfl) rfl) ?_
  rintro _ w_2 ⟨b2,rfl,hS4⟩
  refine sQ 8 (yg (.slice (aD b2) 1 1)) (rn (cq ?_))
  obtain ⟨z,hz,hF3⟩:=bI hF2
  refine cw_block ?_
  let O0:Ob:=⟨aD b1,25,V2,2⟩
  let O1:Ob:=⟨B2,3,(r_1.flatMap encI),c2*1⟩
  refine cw_loop (fun k f w=>∃ (a1:Int) (out:List Int) (B3:Option Addr) (c3:Nat),FF f [(1,vi a1),(2,vi b),(3,pt (aD b1) 0),(7,.slice B2 r_1.length c2),(8,.slice B3 out.length c3)]∧ST w0 [] w [O0,O1,⟨B3,3,(out.flatMap encI),c3*1⟩] [⟨B,(g.Edges.flatMap eN1)⟩]∧whX (F_spec_l22Path_l1 b g r_1) k (a1,out)=some z) fuel ⟨a,[a],aD b2,1,(fc rfl (fc rfl (fc rfl (fc rfl (fc rfl fn_))))),(hS4.sel [0,1,2] rfl rfl),hz⟩ ?_
  rintro k_ f w ⟨a1,out,B3,c3,hf,hS5,hL⟩
  obtain ⟨K4,y,rfl,hb1,hL1⟩:=whX_go hL
  unfold F_spec_l22Path_l1 at hb1
  refine cq (cq (cr ?_))
  refine sQ 21 (ym (vi a1) rfl (hf.g 1 0))<|sQ 22 (ym (vi b) rfl (hf.g 2 1))<|sQ 23 (Y_ne (k:=.i64) (a:=a1) (b:=b) rfl rfl rfl) (rn ?_)
  refine cw_cond (b:=(a1 != b)) rfl (fun hb2=>?_) (fun hb2=>?_)
  ·skip
   have hF4:=ct hb1 hb2
   refine cw_skip (cw_block (cq (cr ?_)))
   refine sQ 24 (yb (aD b1) 0 V2 K5 K3 (hS5.c 0) rfl (hf.g 3 2))<|sQ 25 (ym (vi a1) rfl (hf.g 1 0)) ?_
   obtain ⟨r_2,hc1,hF4⟩:=bI hF4
   refine sc 26 rfl rfl (yC [.agg V2.toArray,vi a1] k_call_83 (c_spec_l22Near g a1 B c g.Edges.length _ rfl (hS5.inn0 [(true,0)] rfl) hc1)) ?_
   rintro _ w_3 ⟨B4,c4,rfl,hd1⟩
   have hS6:=hS5.out0 hd1
   refine sQ 27 (Y_len (B:=B4) (m:=r_2.length) (c:=c4) K2 rfl rfl)<|sQ 28 (ym (vi 0)) (rn ?_)
   obtain ⟨hN,hF4⟩:=chk_inv hF4
   obtain ⟨z1,hz1,hF5⟩:=bI hF4
   refine cw_mid (fun f w=>∃ (a2:Int) (out1:List Int) (B5:Option Addr) (c5:Nat),.inl (a2,out1)=z1∧FF f [(1,vi a2),(2,vi b),(3,pt (aD b1) 0),(7,.slice B2 r_1.length c2),(8,.slice B5 out1.length c5)]∧ST w0 [] w [O0,O1,⟨B5,3,(out1.flatMap encI),c5*1⟩,⟨B4,3,(r_2.flatMap encI),c4*1⟩] [⟨B,(g.Edges.flatMap eN1)⟩]) ?_ ?_
   ·skip
    refine cw_block ?_
    refine cw_loop (fun k f w=>∃ (i:Nat) (a3:Int) (out2:List Int) (B6:Option Addr) (c6:Nat),FF f [(1,vi a3),(2,vi b),(3,pt (aD b1) 0),(7,.slice B2 r_1.length c2),(8,.slice B6 out2.length c6),(26,.slice B4 r_2.length c4),(27,vi (r_2.length:Int)),(28,vi (i:Int))]∧ST w0 [] w [O0,O1,⟨B6,3,(out2.flatMap encI),c6*1⟩,⟨B4,3,(r_2.flatMap encI),c4*1⟩] [⟨B,(g.Edges.flatMap eN1)⟩]∧i+k=r_2.length∧forX (F_spec_l22Path_l2 r_2 r_1) k i (a3,out2)=some z1) r_2.length ⟨0,a1,out,B3,c3,(hf.a 1 0 (hf.a 2 1 (hf.a 3 2 (hf.a 7 3 (hf.a 8 4 (fc rfl (fc rfl (fc rfl fn_)))))))),(hS6.sel [0,1,2,3] rfl rfl),Nat.zero_add _,hz1⟩ ?_
    rintro K10 f w ⟨i,a3,out2,B6,c6,hf2,hS8,hik1,hL2⟩
    refine cq (cr ?_)
    refine sQ 29 (yL (i:Int) (r_2.length:Int) rfl (hf2.g 28 7) (hf2.g 27 6)) (rn (cq ?_))
    refine cw_cond (b:=(decide ((i:Int)<(r_2.length:Int)))) rfl (fun hlt=>?_) (fun hlt=>?_)
    ·skip
     have hlt1:i<r_2.length:=by have h:=of_decide_eq_true hlt; omega
     obtain ⟨K18,rfl⟩:∃ k2,K10=k2+1:=⟨K10-1,by omega⟩
     obtain ⟨y1,hb3,hL3⟩:=forX_go hL2
     unfold F_spec_l22Path_l2 at hb3
     refine cw_skip (cq (cw_block (cq (cr ?_))))
     obtain ⟨x1,hx1,hb3⟩:=bI hb3
     refine sQ 30 (Y_index (B:=B4) (m:=r_2.length) (c:=c4) (k:=.i64) (i:=(i:Int)) K2 K0 rfl (hf2.g 26 5) (hf2.g 28 7) (gi_isSome encI_len rfl (hS8.c 3) hx1) (getI_nn hx1) (getI_ltI hx1 rfl))<|sQ 31 (yl B4 ((i:Int).toNat*1) (r_2.flatMap encI) (vi x1) K1 (hS8.c 3) rfl rfl (gi_at0 encI_len hx1 rfl))<|sQ 10 (yg (vi x1)) (rn (cq ?_))
     obtain ⟨x2,hx2,hb3⟩:=bI hb3
     obtain ⟨x3,hx3,hb3⟩:=bI hb3
     refine ra_start (hS8.se [0,1,2,3]).fn (by kernel_rfl) ?_
     have hS9:=hS8.drew
     refine rq 0 32 rfl (hS9.se [0,1,2,3]) (fun w' hw'=>(ym (.slice B2 r_1.length c2) rfl (hf2.g 7 3))) ?_
     refine rq 1 33 rfl (hS9.se [0,1,2,3]) (fun w' hw'=>(ym (vi x1))) ?_
     refine rq 2 34 (v:=pt B2 (x1.toNat*1)) rfl (hS9.se [0,1,2,3]) (fun w' hw'=>(Y_index (B:=B2) (m:=r_1.length) (c:=c2) (k:=.i64) (i:=x1) K2 K0 rfl rfl rfl (gi_isSome encI_len rfl (ST.cf hw' (i:=1) rfl) hx2) (getI_nn hx2) (getI_ltI hx2 rfl))) ?_
     refine rq 3 35 rfl (hS9.se [0,1,2,3]) (fun w' hw'=>(yl B2 (x1.toNat*1) (r_1.flatMap encI) (vi x2) K1 (ST.cf hw' (i:=1) rfl) rfl rfl (gi_at0 encI_len hx2 rfl))) ?_
     refine rq 4 36 rfl (hS9.se [0,1,2,3]) (fun w' hw'=>(ym (.slice B2 r_1.length c2) rfl (hf2.g 7 3))) ?_
     refine rq 5 37 rfl (hS9.se [0,1,2,3]) (fun w' hw'=>(ym (vi a3) rfl (hf2.g 1 0))) ?_
     refine rq 6 38 (v:=pt B2 (a3.toNat*1)) rfl (hS9.se [0,1,2,3]) (fun w' hw'=>(Y_index (B:=B2) (m:=r_1.length) (c:=c2) (k:=.i64) (i:=a3) K2 K0 rfl rfl rfl (gi_isSome encI_len rfl (ST.cf hw' (i:=1) rfl) hx3) (getI_nn hx3) (getI_ltI hx3 rfl))) ?_
     refine rq 7 39 rfl (hS9.se [0,1,2,3]) (fun w' hw'=>(yl B2 (a3.toNat*1) (r_1.flatMap encI) (vi x3) K1 (ST.cf hw' (i:=1) rfl) rfl rfl (gi_at0 encI_len hx3 rfl))) ?_
     refine rq 8 40 rfl (hS9.se [0,1,2,3]) (fun w' hw'=>(yM x3 1)) ?_
     refine rq 9 41 rfl (hS9.se [0,1,2,3]) (fun w' hw'=>(yE x2 (i64.wrap (x3-1)))) ?_
     refine ra_done (by kernel_rfl) ?_
     refine cw_cond (b:=(x2==(i64.wrap (x3-1)))) rfl (fun hb4=>?_) (fun hb4=>?_)
     ·skip
      have hF6:=ct hb3 hb4
      refine cq (cr ?_)
      refine sQ 42 (ym (vi x1))<|sQ 1 (yg (vi x1)) (rn (cq (cr ?_)))
      refine sQ 43 (ym (.slice B6 out2.length c6) rfl (hf2.g 8 4))<|sQ 44 (ym (vi x1)) ?_
      refine sS 45 (Ys_bslice (s:=1) (len:=1) (vs:=[(0,vi x1)]) (cs:=[vi x1]) (zs:=[vi 0]) (m:=1) hS9 K2 K0 K30 rfl (mpc rfl mpn) rfl rfl rfl (by kernel_rfl) (by kernel_rfl) rfl) ?_
      rintro _ w_4 ⟨b3,rfl,hS10⟩
      obtain ⟨hap,hF6⟩:=chk_inv hF6
      refine sS 46 (Ys_append (s:=1) (by':=8) (i:=2) (nn:=out2.length) (c:=c6) (k:=1) (len:=(out2++[x1]).length) (B:=B6) (xs:=([x1].flatMap encI)) (cs':=((out2++[x1]).flatMap encI)) hS10 K2 K0 K53 K54 rfl (by decide) rfl rfl rfl rfl (fm_lenn (l:=out2) encI_len rfl) rfl (hS10.c 4) (fm_lenn (l:=[x1]) encI_len rfl) (fm_one' (enc:=encI) encI_one [x1]) (by have:=hap; omega) (by have:=hap; simp only [maxLen]; omega) (fm_app _ _) (app_len (l:=out2) (l':=[x1]) rfl rfl)) ?_
      rintro _ w_5 ⟨B7,c7,rfl,hS11⟩
      refine sQ 8 (yg (.slice B7 ((out2++[x1]).length) c7)) (rn ?_)
      refine cw_exit rfl ?_
      obtain rfl:=sI hF6
      exact ⟨x1,(out2++[x1]),B7,c7,(sI hL3),(fc rfl (hf2.a 2 1 (hf2.a 3 2 (hf2.a 7 3 (fc rfl fn_))))),(hS11.sel [0,1,2,3] rfl rfl)⟩
     ·skip
      have hF7:=cf' hb3 hb4
      refine cw_skip (cr ?_)
      refine sQ 47 (yP (i:Int) 1 rfl (hf2.g 28 7))<|sQ 28 (ym (vi (i64.wrap ((i:Int)+1)))) (rn ?_)
      obtain rfl:=sI hF7
      exact ⟨K18,Nat.lt_succ_self _,i+1,a3,out2,B6,c6,(hf2.a 1 0 (hf2.a 2 1 (hf2.a 3 2 (hf2.a 7 3 (hf2.a 8 4 (hf2.a 26 5 (hf2.a 27 6 (fc (congrArg (Value.int .i64) (wr_succ hlt1 hN)) fn_)))))))),(hS9.sel [0,1,2,3] rfl rfl),(by omega),hL3⟩
    ·skip
     obtain rfl:K10=0:=by have h:=of_decide_eq_false hlt; omega
     refine cw_exit rfl ?_
     exact ⟨a3,out2,B6,c6,(sI hL2),(hf2.a 1 0 (hf2.a 2 1 (hf2.a 3 2 (hf2.a 7 3 (hf2.a 8 4 fn_))))),(hS8.sel [0,1,2,3] rfl rfl)⟩
   rintro f w ⟨a2,out1,B5,c5,rfl,hf1,hS7⟩
   obtain rfl:=sI hF5
   exact ⟨K4,Nat.lt_succ_self _,a2,out1,B5,c5,(hf1.a 1 0 (hf1.a 2 1 (hf1.a 3 2 (hf1.a 7 3 (hf1.a 8 4 fn_))))),(hS7.sel [0,1,2] rfl rfl),hL1⟩
  ·skip
   have hF8:=cf' hb1 hb2
   refine cw_exit rfl ?_
   obtain rfl:=sI hF8
   obtain rfl:=sI hL1
   refine cq (cr ?_)
   refine sQ 48 (ym (.slice B3 out.length c3) rfl (hf.g 8 4))<|sQ 6 (yg (.slice B3 out.length c3)) (rn (ct_ ?_))
   obtain rfl:=sI hF3
   exact ret1 Try.results57 (v1:=.slice B3 out.length c3) (resAt_tmp rfl) ⟨B3,c3,rfl,(hS5.sN [2])⟩
end Go.VK
