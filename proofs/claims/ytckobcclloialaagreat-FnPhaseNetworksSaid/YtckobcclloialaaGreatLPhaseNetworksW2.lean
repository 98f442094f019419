/- Walks: each Go function returns what its Lean function says. By program. -/
import Derived.Test.YtckobcclloialaaGreatLPhaseNetworksFa
import Derived.Test.YtckobcclloialaaGreatLPhaseNetworksShelf
import Derived.Test.YtckobcclloialaaGreatLibQ
import Derived.Test.YtckobcclloialaaGreatLibU
import Derived.Test.YtckobcclloialaaGreatLibZ
import Derived.Test.YtckobcclloialaaGreatLibY
import Derived.Test.YtckobcclloialaaGreatLPhaseNetworksW1
set_option linter.unusedVariables false
set_option maxRecDepth 100000
set_option maxHeartbeats 4000000
namespace Go.VK
open Go.RowKit
open Go.Proofs
open Go.IntKind
attribute [local irreducible] CW RW RA CV Y Yw Yc Ys RetOf
attribute [local irreducible] AA AL AO AD CC Dh AW Bu E3 Ea Ed DD Ds BP Cp F0 CP C6 Dg F1 Cz Cd Eq Eb Ee BV FQ FC FK F7 BH Ay Ek Cv BE BB AK Co Dt
theorem Mo (c:Ae) (B:Option Addr) (c1 n:Nat) (w0:World) (hn:c.Gates.length=n) (hS:ST w0 [] w0 [] [⟨B,(c.Gates.flatMap eN0)⟩]) {r_:Ad} {r_1:Bool} (hF:Ea c=some (r_,r_1)) :
  CV Tryz.prog 20 #[.agg #[vi c.Qubits,.slice B n c1]] w0 (fun v w'=>∃ (B1:Option Addr) (c2:Nat),v=.tuple #[.agg #[.slice B1 r_.Rows.length c2],.bool r_1]∧ST w0 [] w' [⟨B1,3,(r_.Rows.flatMap encI),c2*1⟩] []):=by
 subst hn
 unfold Ea at hF
 refine cv_of_cw 58 Tryz.func20 rfl Tryz.ntmps20 rfl ?_
 refine cq (cr ?_)
 let V3:List Value:=[vi c.Qubits,.slice B c.Gates.length c1]
 refine sS 1 (yB 32 (.agg V3.toArray) V3 2 hS) ?_
 rintro _ w_ ⟨b,rfl,hS1⟩
 refine sS 2 (yN [.slice none 0 0] 1 hS1 K22) ?_
 rintro _ w_1 ⟨b1,rfl,hS2⟩
 refine sQ 3 (yg (.bool false)) (rn (cq (cq (cr ?_))))
 refine sQ 7 (yb (aD b) 0 V3 K12 K7 (hS2.c 0)) ?_
 obtain ⟨r_2,hc,hF⟩:=bI hF
 refine sc 8 rfl rfl (yC [.agg V3.toArray] K85 (EX c B c1 c.Gates.length _ rfl (hS2.inn0 [(true,0)] rfl) hc)) ?_
 rintro _ w_2 ⟨rfl,hd⟩
 have hS3:=hS2.out00 hd
 refine sQ 9 (Y_not (p:=r_2) rfl rfl) (rn ?_)
 refine cw_cond (b:=(!r_2)) rfl (fun hb=>?_) (fun hb=>?_)
 ·skip
  have hF1:=ct hF hb
  refine cq (cr ?_)
  refine sQ 10 (Y_buildS (zs:=[.slice none 0 0]) (vs:=[]) (cs:=[.slice none 0 0]) K55 K22 rfl mpn rfl) ?_
  refine s0 (yT 1 1 (aD b1) 26 (.agg #[.slice none 0 0]) [.slice none 0 0] 0 hS3 K6) ?_
  rintro _ w_3 ⟨rfl,hS4⟩
  refine sQ 3 (yg (.bool false)) (rn (ct_ ?_))
  have hS5:=hS4.addNil 3
  obtain ⟨rfl,rfl⟩:=pr2 (sI hF1)
  exact ret2 Tryz.results20 (v1:=.agg #[.slice none 0 0]) (resAt_cellA (B:=aD b1) (i:=0) (cs:=[.slice none 0 0]) (vs:=[.slice none 0 0]) rfl K16 K6 (hS5.c 1) rfl rfl) (v2:=.bool false) (resAt_tmp rfl) ⟨none,0,rfl,(hS5.sN [2])⟩
 ·skip
  have hF2:=cf' hF hb
  refine cw_skip (cq (cr ?_))
  refine sQ 11 (yd (aD b) 0 0 K36 K0)<|sQ 12 (yl (aD b) 0 V3 (vi c.Qubits) K1 (hS3.c 0)) ?_
  obtain ⟨r_3,hc1,hF2⟩:=bI hF2
  refine sc 13 rfl rfl (yC [vi c.Qubits] K68 (Cu c.Qubits _  (hS3.inn0 [] rfl) hc1)) ?_
  rintro _ w_4 ⟨B2,c3,rfl,hd1⟩
  have hS6:=hS3.out0 hd1
  refine sS 4 (yN [.slice none 0 0] 1 hS6 K22) ?_
  rintro _ w_5 ⟨b2,rfl,hS7⟩
  refine s0 (yT 3 1 (aD b2) 26 (.agg #[.slice B2 r_3.Rows.length c3]) [.slice B2 r_3.Rows.length c3] 0 hS7 K6) ?_
  rintro _ w_6 ⟨rfl,hS8⟩
  refine rn (cq (cq (cr ?_)))
  refine sQ 14 (yd (aD b) 0 0 K17 K11)<|sQ 15 (yl (aD b) 1 V3 (.slice B c.Gates.length c1) K18 (hS8.c 0))<|sQ 16 (Y_len (B:=B) (m:=c.Gates.length) (c:=c1) K4 rfl rfl)<|sQ 17 (ym (vi 0)) (rn ?_)
  obtain ⟨hN,hF2⟩:=chk_inv hF2
  obtain ⟨z,hz,hF3⟩:=bI hF2
  refine cw_block ?_
  refine cw_loop (fun k f w=>∃ (i:Nat) (Rows:List Int) (B3:Option Addr) (c4:Nat),FF f [(2,pt (aD b1) 0),(4,pt (aD b2) 0),(15,.slice B c.Gates.length c1),(16,vi (c.Gates.length:Int)),(17,vi (i:Int))]∧ST w0 [] w [⟨aD b1,26,[.slice none 0 0],1⟩,⟨aD b2,26,[.slice B3 Rows.length c4],1⟩,⟨B3,3,(Rows.flatMap encI),c4*1⟩] [⟨B,(c.Gates.flatMap eN0)⟩]∧i+k=c.Gates.length∧forX (Cm c) k i Rows=some z) c.Gates.length ⟨0,r_3.Rows,B2,c3,(fc rfl (fc rfl (fc rfl (fc rfl (fc rfl fn_))))),(hS8.sel [1,3,2] rfl rfl),Nat.zero_add _,hz⟩ ?_
  rintro k_ f w ⟨i,Rows,B3,c4,hf,hS9,hik,hL⟩
  refine cq (cr ?_)
  refine sQ 18 (yL (i:Int) (c.Gates.length:Int) rfl (hf.g 17 4) (hf.g 16 3)) (rn (cq ?_))
  refine cw_cond (b:=(decide ((i:Int)<(c.Gates.length:Int)))) rfl (fun hlt=>?_) (fun hlt=>?_)
  ·skip
   have hlt1:i<c.Gates.length:=by have h:=of_decide_eq_true hlt; omega
   obtain ⟨K5,rfl⟩:∃ k2,k_=k2+1:=⟨k_-1,by omega⟩
   obtain ⟨y,hb1,hL1⟩:=forX_go hL
   unfold Cm at hb1
   refine cw_skip (cq ?_)
   obtain ⟨z1,hz1,hF4⟩:=bI hb1
   refine cw_mid (fun f w=>∃ (Rows1:List Int) (B4:Option Addr) (c5:Nat),.inl Rows1=z1∧FF f [(2,pt (aD b1) 0),(4,pt (aD b2) 0),(15,.slice B c.Gates.length c1),(16,vi (c.Gates.length:Int)),(17,vi (i:Int))]∧ST w0 [] w [⟨aD b1,26,[.slice none 0 0],1⟩,⟨aD b2,26,[.slice B4 Rows1.length c5],1⟩,⟨B4,3,(Rows1.flatMap encI),c5*1⟩] [⟨B,(c.Gates.flatMap eN0)⟩]) ?_ ?_
   ·skip
    refine cw_block (cq (cr ?_))
    obtain ⟨x,hx,hz1⟩:=bI hz1
    let V1:List Value:=[vi x.Kind,vi x.A,vi x.B]
    refine sQ 19 (yI B (i:Int) K4 K3 (gi_isSome eN2 rfl (hS9.rf (i:=0) rfl) hx) (getI_nn hx) (getI_ltI hx rfl) rfl (hf.g 15 2) (hf.g 17 4))<|sQ 20 (ya B ((i:Int).toNat*3) (c.Gates.flatMap eN0) V1 K30 K3 (hS9.rf (i:=0) rfl) rfl rfl (eN2 x) (gi_seg eN2 hx)) ?_
    refine sS 6 (yN [vi 0,vi 0,vi 0] 3 hS9 K10) ?_
    rintro _ w_7 ⟨b3,rfl,hS11⟩
    refine s0 (yT 3 3 (aD b3) 59 (.agg V1.toArray) V1 0 hS11 K3) ?_
    rintro _ w_8 ⟨rfl,hS12⟩
    refine rn (cq (cr ?_))
    refine sQ 21 (yd (aD b3) 0 0 K45 K0)<|sQ 22 (yl (aD b3) 0 V1 (vi x.Kind) K1 (hS12.c 3)) (rn (cw_block (cq (cr ?_))))
    refine sQ 25 (yE x.Kind 9)<|sQ 24 (yg (.bool (x.Kind==9))) (rn ?_)
    refine cw_cond (b:=(x.Kind==9)) rfl (fun hb2=>?_) (fun hb2=>?_)
    ·skip
     have hF5:=ct hz1 hb2
     refine cr ?_
     refine sQ 26 (yb (aD b2) 0 [.slice B3 Rows.length c4] K16 K6 (hS12.c 1) rfl (hf.g 4 1))<|sQ 27 (yd (aD b3) 0 0 K29 K0)<|sQ 28 (yl (aD b3) 1 V1 (vi x.A) K1 (hS12.c 3))<|sQ 29 (yd (aD b3) 0 0 K27 K0)<|sQ 30 (yl (aD b3) 2 V1 (vi x.B) K1 (hS12.c 3)) ?_
     obtain ⟨r_4,hc2,hF5⟩:=bI hF5
     refine sc 31 rfl rfl (yC [.agg #[.slice B3 Rows.length c4],vi x.A,vi x.B] N8 (N0 (Ad.mk Rows) x.A x.B B3 c4 Rows.length _ rfl (hS12.inn0 [(false,2)] rfl) hc2)) ?_
     rintro _ w_9 ⟨B5,c6,rfl,hd2⟩
     have hS13:=hS12.out0 hd2
     refine s0 (yT 1 1 (aD b2) 26 (.agg #[.slice B5 r_4.Rows.length c6]) [.slice B5 r_4.Rows.length c6] 0 hS13 K6 rfl (hf.g 4 1)) ?_
     rintro _ w_10 ⟨rfl,hS14⟩
     refine rn ?_
     exact ⟨r_4.Rows,B5,c6,(sI hF5),(hf.a 2 0 (hf.a 4 1 (hf.a 15 2 (hf.a 16 3 (hf.a 17 4 fn_))))),(hS14.sel [0,1,4] rfl rfl)⟩
    ·skip
     have hF6:=cf' hz1 hb2
     refine cq (cr ?_)
     refine sQ 33 (yE x.Kind 11)<|sQ 32 (yg (.bool (x.Kind==11))) (rn ?_)
     refine cw_cond (b:=(x.Kind==11)) rfl (fun hb3=>?_) (fun hb3=>?_)
     ·skip
      have hF7:=ct hF6 hb3
      obtain ⟨x1,hx1,hF7⟩:=bI hF7
      obtain ⟨x2,hx2,hF7⟩:=bI hF7
      obtain ⟨x3,hx3,hF7⟩:=bI hF7
      refine ra_start (hS12.se [0,1,3]).fn (by kernel_rfl) ?_
      have hS15:=hS12.drew
      have hQ0:=hS15.se [0,1,3]
      let V0:List Value:=[.slice B3 Rows.length c4]
      refine rq 0 34 (v:=pt (aD b2) 0) rfl hQ0 (fun w' hw'=>(yd (aD b2) 0 0 K13 K8 rfl (hf.g 4 1)))<|rq 1 35 rfl hQ0 (fun w' hw'=>(yl (aD b2) 0 V0 (.slice B3 Rows.length c4) K9 (ST.cf hw' (i:=1) rfl)))<|rq 2 36 (v:=pt (aD b3) 1) rfl hQ0 (fun w' hw'=>(yd (aD b3) 0 0 K29 K0))<|rq 3 37 rfl hQ0 (fun w' hw'=>(yl (aD b3) 1 V1 (vi x.A) K1 (ST.cf hw' (i:=2) rfl)))<|rq 4 38 (v:=pt (aD b2) 0) rfl hQ0 (fun w' hw'=>(yd (aD b2) 0 0 K13 K8 rfl (hf.g 4 1))) ?_
      refine rq 5 39 rfl hQ0 (fun w' hw'=>(yl (aD b2) 0 V0 (.slice B3 Rows.length c4) K9 (ST.cf hw' (i:=1) rfl)))<|rq 6 40 (v:=pt (aD b3) 2) rfl hQ0 (fun w' hw'=>(yd (aD b3) 0 0 K27 K0))<|rq 7 41 rfl hQ0 (fun w' hw'=>(yl (aD b3) 2 V1 (vi x.B) K1 (ST.cf hw' (i:=2) rfl)))<|rq 8 42 (v:=pt (aD b2) 0) rfl hQ0 (fun w' hw'=>(yd (aD b2) 0 0 K13 K8 rfl (hf.g 4 1)))<|rq 9 43 rfl hQ0 (fun w' hw'=>(yl (aD b2) 0 V0 (.slice B3 Rows.length c4) K9 (ST.cf hw' (i:=1) rfl))) ?_
      refine rq 10 44 (v:=pt (aD b3) 2) rfl hQ0 (fun w' hw'=>(yd (aD b3) 0 0 K27 K0))<|rq 11 45 rfl hQ0 (fun w' hw'=>(yl (aD b3) 2 V1 (vi x.B) K1 (ST.cf hw' (i:=2) rfl)))<|rq 12 46 (v:=pt B3 (x.B.toNat*1)) rfl hQ0 (fun w' hw'=>(yI B3 x.B K2 K0 (gi_isSome encI_len rfl (hS15.c 2) hx1) (getI_nn hx1) (getI_ltI hx1 rfl)))<|rq 14 48 (v:=pt (aD b2) 0) rfl hQ0 (fun w' hw'=>(yd (aD b2) 0 0 K13 K8 rfl (hf.g 4 1)))<|rq 15 49 rfl hQ0 (fun w' hw'=>(yl (aD b2) 0 V0 (.slice B3 Rows.length c4) K9 (ST.cf hw' (i:=1) rfl))) ?_
      refine rq 16 50 (v:=pt (aD b3) 1) rfl hQ0 (fun w' hw'=>(yd (aD b3) 0 0 K29 K0))<|rq 17 51 rfl hQ0 (fun w' hw'=>(yl (aD b3) 1 V1 (vi x.A) K1 (ST.cf hw' (i:=2) rfl)))<|rq 18 52 (v:=pt B3 (x.A.toNat*1)) rfl hQ0 (fun w' hw'=>(yI B3 x.A K2 K0 (gi_isSome encI_len rfl (hS15.c 2) hx2) (getI_nn hx2) (getI_ltI hx2 rfl)))<|ra_now 13 47 [20,21,22,23] rfl hQ0 (yl B3 (x.B.toNat*1) (Rows.flatMap encI) (vi x1) K1 (hS15.c 2) rfl rfl (gi_at0 encI_len hx1 rfl))<|r1 53 19 rfl (yl B3 (x.A.toNat*1) (Rows.flatMap encI) (vi x2) K1 (hS15.c 2) rfl rfl (gi_at0 encI_len hx2 rfl)) hQ0 ?_
      refine rq 20 54 (v:=pt B3 (x.A.toNat*1)) rfl hQ0 (fun w' hw'=>(yI B3 x.A K2 K0 (gi_isSome encI_len rfl (hS15.c 2) hx2) (getI_nn hx2) (getI_ltI hx2 rfl))) ?_
      refine rA [21] ?_
      refine rZ 21 rfl (yS 2 1 B3 3 (vi x1) [vi x1] (x.A.toNat*1) ((Rows.set x.A.toNat x1).flatMap encI) hS15 K0 rfl rfl rfl rfl rfl rfl rfl (gi_fit0 encI_len hx2) (gi_set encI_len hx2 x1 rfl)) ?_ aN
      rintro _ w_11 ⟨rfl,hS16⟩
      refine ⟨(hS16.se [0,1,3]),?_⟩
      refine rq 22 55 (v:=pt B3 (x.B.toNat*1)) rfl (hS16.se [0,1,3]) (fun w' hw'=>(yI B3 x.B K2 K0 (gi_isSome encI_len rfl (hS16.c 2) hx3) (getI_nn hx3) (getI_ltI hx3 (set_len _ _ _ rfl)))) ?_
      refine rA [23] ?_
      refine rZ 23 rfl (yS 2 1 B3 3 (vi x2) [vi x2] (x.B.toNat*1) (((Rows.set x.A.toNat x1).set x.B.toNat x2).flatMap encI) hS16 K0 rfl rfl rfl rfl rfl rfl rfl (gi_fit0 encI_len hx3) (gi_set encI_len hx3 x2 rfl)) ?_ aN
      rintro _ w_12 ⟨rfl,hS17⟩
      refine ⟨(hS17.se [0,1,3]),?_⟩
      refine ra_done (by kernel_rfl) ?_
      exact ⟨((Rows.set x.A.toNat x1).set x.B.toNat x2),B3,c4,(sI hF7),(hf.a 2 0 (hf.a 4 1 (hf.a 15 2 (hf.a 16 3 (hf.a 17 4 fn_))))),(by rw [((set_len _ _ _ (set_len _ _ _ rfl)):((Rows.set x.A.toNat x1).set x.B.toNat x2).length=Rows.length)]; exact hS17.sel [0,1,2] rfl rfl)⟩
     ·skip
      have hF8:=cf' hF6 hb3
      refine cq (cr ?_)
      refine sQ 23 (Y_buildS (zs:=[.slice none 0 0]) (vs:=[]) (cs:=[.slice none 0 0]) K55 K22 rfl mpn rfl) ?_
      refine s0 (yT 0 1 (aD b1) 26 (.agg #[.slice none 0 0]) [.slice none 0 0] 0 hS12 K6 rfl (hf.g 2 0)) ?_
      rintro _ w_13 ⟨rfl,hS18⟩
      refine sQ 3 (yg (.bool false)) (rn (ct_ ?_))
      have hS19:=hS18.addNil 3
      obtain rfl:=sI hF8
      obtain rfl:=sI hF4
      obtain rfl:=sI hL1
      obtain ⟨rfl,rfl⟩:=pr2 (sI hF3)
      exact ret2 Tryz.results20 (v1:=.agg #[.slice none 0 0]) (resAt_cellA (B:=aD b1) (i:=0) (cs:=[.slice none 0 0]) (vs:=[.slice none 0 0]) (hf.g 2 0) K16 K6 (hS19.c 0) rfl rfl) (v2:=.bool false) (resAt_tmp rfl) ⟨none,0,rfl,(hS19.sN [4])⟩
   rintro f w ⟨Rows1,B4,c5,rfl,hf1,hS10⟩
   refine cr ?_
   refine sQ 56 (yP (i:Int) 1 rfl (hf1.g 17 4))<|sQ 17 (ym (vi (i64.wrap ((i:Int)+1)))) (rn ?_)
   obtain rfl:=sI hF4
   exact ⟨K5,Nat.lt_succ_self _,i+1,Rows1,B4,c5,(hf1.a 2 0 (hf1.a 4 1 (hf1.a 15 2 (hf1.a 16 3 (fc (congrArg (Value.int .i64) (wr_succ hlt1 hN)) fn_))))),(hS10.sel [0,1,2] rfl rfl),(by omega),hL1⟩
  ·skip
   obtain rfl:k_=0:=by have h:=of_decide_eq_false hlt; omega
   refine cw_exit rfl ?_
   obtain rfl:=sI hL
   refine cq (cr ?_)
   let V2:List Value:=[.slice B3 Rows.length c4]
   refine sQ 57 (yb (aD b2) 0 V2 K16 K6 (hS9.c 1) rfl (hf.g 4 1)) ?_
   refine s0 (yT 0 1 (aD b1) 26 (.agg V2.toArray) V2 0 hS9 K6 rfl (hf.g 2 0)) ?_
   rintro _ w_14 ⟨rfl,hS20⟩
   refine sQ 3 (yg (.bool true)) (rn (ct_ ?_))
   obtain ⟨rfl,rfl⟩:=pr2 (sI hF3)
   exact ret2 Tryz.results20 (v1:=.agg V2.toArray) (resAt_cellA (B:=aD b1) (i:=0) (cs:=V2) (vs:=V2) (hf.g 2 0) K16 K6 (hS20.c 0) rfl rfl) (v2:=.bool true) (resAt_tmp rfl) ⟨B3,c4,rfl,(hS20.sN [2])⟩

theorem Jo (m:Ad) (mask:Int) (B:Option Addr) (c n:Nat) (w0:World) (hn:m.Rows.length=n) (hS:ST w0 [] w0 [] [⟨B,(m.Rows.flatMap encI)⟩]) {r_:Int} (hF:Ed m mask=some r_) :
  CV Tryz.prog 64 #[.agg #[.slice B n c],vi mask] w0 (fun v w'=>v=vi r_∧ST w0 [] w' [] []):=by
 subst hn
 unfold Ed at hF
 refine cv_of_cw 26 Tryz.func64 rfl Tryz.ntmps64 rfl ?_
 refine cq (cr ?_)
 refine sS 2 (yB 26 (.agg #[.slice B m.Rows.length c]) [.slice B m.Rows.length c] 1 hS) ?_
 rintro _ w_ ⟨b,rfl,hS1⟩
 refine sQ 4 (yg (vi 0)) (rn (cq (cr ?_)))
 refine sQ 5 (yg (vi 0)) (rn (cq (cq (cr ?_))))
 refine sQ 8 (yd (aD b) 0 0 K13 K8)<|sQ 9 (yl (aD b) 0 [.slice B m.Rows.length c] (.slice B m.Rows.length c) K9 (hS1.c 0))<|sQ 10 (Y_len (B:=B) (m:=m.Rows.length) (c:=c) K2 rfl rfl)<|sQ 11 (ym (vi 0)) (rn ?_)
 obtain ⟨hN,hF⟩:=chk_inv hF
 obtain ⟨z,hz,hF1⟩:=bI hF
 refine cw_block ?_
 refine cw_loop (fun k f w=>∃ (i:Nat) (out:Int),FF f [(1,vi mask),(5,vi out),(9,.slice B m.Rows.length c),(10,vi (m.Rows.length:Int)),(11,vi (i:Int))]∧ST w0 [] w [] [⟨B,(m.Rows.flatMap encI)⟩]∧i+k=m.Rows.length∧forN (DL m mask) k i out=some z) m.Rows.length ⟨0,0,(fc rfl (fc rfl (fc rfl (fc rfl (fc rfl fn_))))),(hS1.sel [] rfl rfl),Nat.zero_add _,hz⟩ ?_
 rintro k_ f w ⟨i,out,hf,hS2,hik,hL⟩
 refine cq (cr ?_)
 refine sQ 12 (yL (i:Int) (m.Rows.length:Int) rfl (hf.g 11 4) (hf.g 10 3)) (rn (cq ?_))
 refine cw_cond (b:=(decide ((i:Int)<(m.Rows.length:Int)))) rfl (fun hlt=>?_) (fun hlt=>?_)
 ·skip
  have hlt1:i<m.Rows.length:=by have h:=of_decide_eq_true hlt; omega
  obtain ⟨K5,rfl⟩:∃ k2,k_=k2+1:=⟨k_-1,by omega⟩
  obtain ⟨y,hb,hL1⟩:=forN_go hL
  unfold DL at hb
  refine cw_skip (cq ?_)
  obtain ⟨z1,hz1,hF2⟩:=bI hb
  refine cw_mid (fun f w=>∃ (out1:Int),out1=z1∧FF f [(1,vi mask),(5,vi out1),(9,.slice B m.Rows.length c),(10,vi (m.Rows.length:Int)),(11,vi (i:Int))]∧ST w0 [] w [] [⟨B,(m.Rows.flatMap encI)⟩]) ?_ ?_
  ·skip
   refine cw_block (cq (cr ?_))
   refine sQ 13 (ym (vi (i:Int)) rfl (hf.g 11 4)) ?_
   obtain ⟨x,hx,hz1⟩:=bI hz1
   refine sQ 14 (yI B (i:Int) K2 K0 (gi_isSome encI_len rfl (hS2.rf (i:=0) rfl) hx) (getI_nn hx) (getI_ltI hx rfl) rfl (hf.g 9 2) (hf.g 11 4))<|sQ 15 (yl B ((i:Int).toNat*1) (m.Rows.flatMap encI) (vi x) K1 (hS2.rf (i:=0) rfl) rfl rfl (gi_at0 encI_len hx rfl))<|sQ 6 (yg (vi (i:Int)))<|sQ 7 (yg (vi x)) (rn (cq (cr ?_)))
   refine sQ 16 (ym (vi mask) rfl (hf.g 1 0))<|sQ 17 (ym (vi (i:Int))) ?_
   obtain ⟨hsh,hz1⟩:=chk_inv hz1
   refine sQ 18 (Y_shr (k:=.i64) (a:=mask) (k':=.i64) (b:=(i:Int)) rfl rfl rfl hsh)<|sQ 19 (Y_band (k:=.i64) (a:=(shrK .i64 mask (i:Int))) (b:=1) rfl rfl rfl)<|sQ 20 (yE (bits .and .i64 (shrK .i64 mask (i:Int)) 1) 1) (rn ?_)
   refine cw_cond (b:=((bits .and .i64 (shrK .i64 mask (i:Int)) 1)==1)) rfl (fun hb1=>?_) (fun hb1=>?_)
   ·skip
    have hF3:=ct hz1 hb1
    refine cr ?_
    refine sQ 21 (ym (vi out) rfl (hf.g 5 1))<|sQ 22 (ym (vi x))<|sQ 23 (Y_bxor (k:=.i64) (a:=out) (b:=x) rfl rfl rfl)<|sQ 5 (yg (vi (bits .xor .i64 out x))) (rn ?_)
    exact ⟨(bits .xor .i64 out x),(sI hF3),(hf.a 1 0 (fc rfl (hf.a 9 2 (hf.a 10 3 (hf.a 11 4 fn_))))),(hS2.sel [] rfl rfl)⟩
   ·skip
    have hF4:=cf' hz1 hb1
    refine cw_skip ?_
    exact ⟨out,(sI hF4),(hf.a 1 0 (hf.a 5 1 (hf.a 9 2 (hf.a 10 3 (hf.a 11 4 fn_))))),(hS2.sel [] rfl rfl)⟩
  rintro f w ⟨out1,rfl,hf1,hS3⟩
  refine cr ?_
  refine sQ 24 (yP (i:Int) 1 rfl (hf1.g 11 4))<|sQ 11 (ym (vi (i64.wrap ((i:Int)+1)))) (rn ?_)
  obtain rfl:=sI hF2
  exact ⟨K5,Nat.lt_succ_self _,i+1,out1,(hf1.a 1 0 (hf1.a 5 1 (hf1.a 9 2 (hf1.a 10 3 (fc (congrArg (Value.int .i64) (wr_succ hlt1 hN)) fn_))))),(hS3.sel [] rfl rfl),(by omega),hL1⟩
 ·skip
  obtain rfl:k_=0:=by have h:=of_decide_eq_false hlt; omega
  refine cw_exit rfl ?_
  obtain rfl:=sI hL
  refine cq (cr ?_)
  refine sQ 25 (ym (vi out) rfl (hf.g 5 1))<|sQ 4 (yg (vi out)) (rn (ct_ ?_))
  obtain rfl:=sI hF1
  exact ret1 Tryz.results64 (v1:=vi out) (resAt_tmp rfl) ⟨rfl,(hS2.sN [])⟩

theorem G1 (first:Ad) (second:Ad) (B:Option Addr) (c n:Nat) (B1:Option Addr) (c1 n1:Nat) (w0:World) (hn:first.Rows.length=n) (hn1:second.Rows.length=n1) (hS:ST w0 [] w0 [] [⟨B,(first.Rows.flatMap encI)⟩,⟨B1,(second.Rows.flatMap encI)⟩]) {r_:Ad} {r_1:Bool} (hF:DD first second=some (r_,r_1)) :
  CV Tryz.prog 21 #[.agg #[.slice B n c],.agg #[.slice B1 n1 c1]] w0 (fun v w'=>∃ (B2:Option Addr) (c2:Nat),v=.tuple #[.agg #[.slice B2 r_.Rows.length c2],.bool r_1]∧ST w0 [] w' [⟨B2,3,(r_.Rows.flatMap encI),c2*1⟩] []):=by
 subst hn
 subst hn1
 unfold DD at hF
 refine cv_of_cw 45 Tryz.func21 rfl Tryz.ntmps21 rfl ?_
 refine cq (cr ?_)
 let V0:List Value:=[.slice B first.Rows.length c]
 refine sS 2 (yB 26 (.agg V0.toArray) V0 1 hS) ?_
 rintro _ w_ ⟨b,rfl,hS1⟩
 let V1:List Value:=[.slice B1 second.Rows.length c1]
 refine sS 3 (yB 26 (.agg V1.toArray) V1 1 hS1) ?_
 rintro _ w_1 ⟨b1,rfl,hS2⟩
 refine sS 4 (yN [.slice none 0 0] 1 hS2 K22) ?_
 rintro _ w_2 ⟨b2,rfl,hS3⟩
 refine sQ 5 (yg (.bool false)) (rn (cq (cq (cr ?_))))
 refine sQ 9 (yb (aD b) 0 V0 K16 K6 (hS3.c 0)) ?_
 obtain ⟨r_2,hc,hF⟩:=bI hF
 refine sc 10 rfl rfl (yC [.agg V0.toArray] G5 (Hg first B c first.Rows.length _ rfl (hS3.inn0 [(true,0)] rfl) hc)) ?_
 rintro _ w_3 ⟨rfl,hd⟩
 have hS4:=hS3.out00 hd
 refine sQ 11 (Y_not (p:=r_2) rfl rfl)<|sQ 12 (ym (.bool (!r_2))) ?_
 refine sgq 13 (B:=(!(!r_2))) (v:=.agg V1.toArray) rfl rfl (uF_ 12) (fun hg=>(yb (aD b1) 0 V1 K16 K6 (hS4.c 1))) ?_
 obtain ⟨r_3,hc1,hF⟩:=bI hF
 refine sgc 14 (B:=(!(!r_2))) (v:=.bool r_3) (F:=hS4.fn) rfl rfl (uF_ 12) hS4 (fun hg1=>(yC [.agg V1.toArray] G5 (CV.mono (Hg second B1 c1 second.Rows.length _ rfl (hS4.inn0 [(true,1)] rfl) (gb_inv hc1 hg1)) (by rintro _ _ ⟨rfl,h⟩; exact ⟨rfl,hS4.out00 h⟩)) rfl (mc (gv_of (v:=.agg V1.toArray) hg1) mn))) ?_
 rintro w_4 hS5
 refine sgq 15 (B:=(!(!r_2))) (v:=.bool (!r_3)) rfl rfl (uF_ 12) (fun hg2=>(Y_not (p:=r_3) rfl (gv_of (v:=.bool r_3) hg2))) ?_
 refine sQ 16 (Y_or (b:=(!r_2)) (z:=(!r_3)) rfl rfl rfl rfl)<|sQ 17 (ym (.bool ((!r_2)||(!r_3)))) ?_
 refine sgq 18 (B:=(!((!r_2)||(!r_3)))) (v:=pt (aD b) 0) rfl rfl (uF_ 17) (fun hg3=>(yd (aD b) 0 0 K13 K8)) ?_
 refine sgq 19 (B:=(!((!r_2)||(!r_3)))) rfl rfl (uF_ 17) (fun hg4=>(yl (aD b) 0 V0 (.slice B first.Rows.length c) K9 (hS5.c 0) rfl (gv_of (v:=pt (aD b) 0) hg4))) ?_
 refine sgq 20 (B:=(!((!r_2)||(!r_3)))) (v:=vi (first.Rows.length:Int)) rfl rfl (uF_ 17) (fun hg5=>(Y_len (B:=B) (m:=first.Rows.length) (c:=c) K2 rfl (gv_of (v:=.slice B first.Rows.length c) hg5))) ?_
 refine sgq 21 (B:=(!((!r_2)||(!r_3)))) (v:=pt (aD b1) 0) rfl rfl (uF_ 17) (fun hg6=>(yd (aD b1) 0 0 K13 K8)) ?_
 refine sgq 22 (B:=(!((!r_2)||(!r_3)))) rfl rfl (uF_ 17) (fun hg7=>(yl (aD b1) 0 V1 (.slice B1 second.Rows.length c1) K9 (hS5.c 1) rfl (gv_of (v:=pt (aD b1) 0) hg7))) ?_
 refine sgq 23 (B:=(!((!r_2)||(!r_3)))) (v:=vi (second.Rows.length:Int)) rfl rfl (uF_ 17) (fun hg8=>(Y_len (B:=B1) (m:=second.Rows.length) (c:=c1) K2 rfl (gv_of (v:=.slice B1 second.Rows.length c1) hg8))) ?_
 refine sgq 24 (B:=(!((!r_2)||(!r_3)))) rfl rfl (uF_ 17) (fun hg9=>(Y_ne (k:=.i64) (a:=(first.Rows.length:Int)) (b:=(second.Rows.length:Int)) rfl (gv_of (v:=vi (first.Rows.length:Int)) hg9) (gv_of (v:=vi (second.Rows.length:Int)) hg9))) ?_
 refine sQ 25 (Y_or (b:=((!r_2)||(!r_3))) (z:=((first.Rows.length:Int) != (second.Rows.length:Int))) rfl rfl rfl rfl) (rn ?_)
 refine cw_cond (b:=(((!r_2)||(!r_3))||((first.Rows.length:Int) != (second.Rows.length:Int)))) rfl (fun hb=>?_) (fun hb=>?_)
 ·skip
  have hF1:=ct hF hb
  refine cq (cr ?_)
  refine sQ 26 (Y_buildS (zs:=[.slice none 0 0]) (vs:=[]) (cs:=[.slice none 0 0]) K55 K22 rfl mpn rfl) ?_
  refine s0 (yT 2 1 (aD b2) 26 (.agg #[.slice none 0 0]) [.slice none 0 0] 0 hS5 K6) ?_
  rintro _ w_5 ⟨rfl,hS6⟩
  refine sQ 5 (yg (.bool false)) (rn (ct_ ?_))
  have hS7:=hS6.addNil 3
  obtain ⟨rfl,rfl⟩:=pr2 (sI hF1)
  exact ret2 Tryz.results21 (v1:=.agg #[.slice none 0 0]) (resAt_cellA (B:=aD b2) (i:=0) (cs:=[.slice none 0 0]) (vs:=[.slice none 0 0]) rfl K16 K6 (hS7.c 2) rfl rfl) (v2:=.bool false) (resAt_tmp rfl) ⟨none,0,rfl,(hS7.sN [3])⟩
 ·skip
  have hF2:=cf' hF hb
  refine cw_skip (cq (cr ?_))
  refine sQ 27 (Y_buildS (zs:=[.slice none 0 0]) (vs:=[]) (cs:=[.slice none 0 0]) K55 K22 rfl mpn rfl) ?_
  refine sS 6 (yN [.slice none 0 0] 1 hS5 K22) ?_
  rintro _ w_6 ⟨b3,rfl,hS8⟩
  refine s0 (yT 3 1 (aD b3) 26 (.agg #[.slice none 0 0]) [.slice none 0 0] 0 hS8 K6) ?_
  rintro _ w_7 ⟨rfl,hS9⟩
  refine rn (cq (cq (cr ?_)))
  refine sQ 28 (yd (aD b1) 0 0 K13 K8)<|sQ 29 (yl (aD b1) 0 V1 (.slice B1 second.Rows.length c1) K9 (hS9.c 1))<|sQ 30 (Y_len (B:=B1) (m:=second.Rows.length) (c:=c1) K2 rfl rfl)<|sQ 31 (ym (vi 0)) (rn ?_)
  obtain ⟨z,hz,hF3⟩:=bI hF2
  have hS11:=hS9.addNil 3
  refine cw_block ?_
  refine cw_loop (fun k f w=>∃ (Rows:List Int) (t:Int) (B3:Option Addr) (c3:Nat),FF f [(2,pt (aD b) 0),(4,pt (aD b2) 0),(6,pt (aD b3) 0),(29,.slice B1 second.Rows.length c1),(30,vi (second.Rows.length:Int)),(31,vi t)]∧ST w0 [] w [⟨aD b,26,V0,1⟩,⟨aD b2,26,[.slice none 0 0],1⟩,⟨aD b3,26,[.slice B3 Rows.length c3],1⟩,⟨B3,3,(Rows.flatMap encI),c3*1⟩] [⟨B,(first.Rows.flatMap encI)⟩,⟨B1,(second.Rows.flatMap encI)⟩]∧whX (DN second first) k (Rows,t)=some z) fuel ⟨[],0,none,0,(fc rfl (fc rfl (fc rfl (fc rfl (fc rfl (fc rfl fn_)))))),(hS11.sel [0,2,3,4] rfl rfl),hz⟩ ?_
  rintro k_ f w ⟨Rows,t,B3,c3,hf,hS10,hL⟩
  obtain ⟨K5,y,rfl,hb1,hL1⟩:=whX_go hL
  unfold DN at hb1
  refine cq (cr ?_)
  refine sQ 32 (yL t (second.Rows.length:Int) rfl (hf.g 31 5) (hf.g 30 4)) (rn (cq ?_))
  refine cw_cond (b:=(decide (t<(second.Rows.length:Int)))) rfl (fun hb2=>?_) (fun hb2=>?_)
  ·skip
   have hF4:=ct hb1 hb2
   refine cw_skip (cq (cw_block (cq (cr ?_))))
   obtain ⟨x,hx,hF4⟩:=bI hF4
   refine sQ 33 (yI B1 t K2 K0 (gi_isSome encI_len rfl (hS10.rf (i:=1) rfl) hx) (getI_nn hx) (getI_ltI hx rfl) rfl (hf.g 29 3) (hf.g 31 5))<|sQ 34 (yl B1 (t.toNat*1) (second.Rows.flatMap encI) (vi x) K1 (hS10.rf (i:=1) rfl) rfl rfl (gi_at0 encI_len hx rfl))<|sQ 8 (yg (vi x)) (rn ?_)
   obtain ⟨r_4,hc2,hF4⟩:=bI hF4
   obtain ⟨hap,hF4⟩:=chk_inv hF4
   refine cw_mid (fun f w=>∃ (B5:Option Addr) (c5:Nat),FF f [(2,pt (aD b) 0),(4,pt (aD b2) 0),(6,pt (aD b3) 0),(29,.slice B1 second.Rows.length c1),(30,vi (second.Rows.length:Int)),(31,vi t)]∧ST w0 [] w [⟨aD b,26,V0,1⟩,⟨aD b2,26,[.slice none 0 0],1⟩,⟨aD b3,26,[.slice B5 ((Rows++[r_4]).length) c5],1⟩,⟨B5,3,((Rows++[r_4]).flatMap encI),c5*1⟩] [⟨B,(first.Rows.flatMap encI)⟩,⟨B1,(second.Rows.flatMap encI)⟩]) ?_ ?_
   ·skip
    refine ra_start (hS10.se [0,1]).fn (by kernel_rfl) ?_
    have hS14:=hS10.drew
    have hQ0:=hS14.se [0,1]
    refine rq 0 35 (v:=pt (aD b3) 0) rfl hQ0 (fun w' hw'=>(yd (aD b3) 0 0 K13 K8 rfl (hf.g 6 2)))<|rq 2 37 (v:=.agg V0.toArray) rfl hQ0 (fun w' hw'=>(yb (aD b) 0 V0 K16 K6 (ST.cf hw' (i:=0) rfl) rfl (hf.g 2 0)))<|rq 3 38 rfl hQ0 (fun w' hw'=>(ym (vi x))) ?_
    refine rA [1,4] ?_
    refine ry 36 1 rfl (yl (aD b3) 0 [.slice B3 Rows.length c3] (.slice B3 Rows.length c3) K9 (hS14.c 2)) hQ0 ?_ ?_
    ·skip
     refine rA [4] ?_
     refine rC 39 4 rfl (yC [.agg V0.toArray,vi x] HB (Jo first x B c first.Rows.length _ rfl (hS14.inn0 [(true,0)] rfl) hc2)) ?_ aN
     rintro _ w_8 ⟨rfl,hd1⟩
     have hS15:=hS14.out00 hd1
     refine ⟨(hS15.se [0,1]),?_⟩
     refine rA [5] ?_
     refine rS 40 5 rfl (Ys_bslice (s:=1) (len:=1) (vs:=[(0,vi r_4)]) (cs:=[vi r_4]) (zs:=[vi 0]) (m:=1) hS15 K2 K0 K24 rfl (mpc rfl mpn) rfl rfl rfl (by kernel_rfl) (by kernel_rfl) rfl) ?_ aN
     rintro _ w_9 ⟨b4,rfl,hS16⟩
     refine ⟨(hS16.se [0,1]),?_⟩
     refine rA [6] ?_
     refine rS 41 6 rfl (Ys_append (s:=1) (by':=8) (i:=3) (nn:=Rows.length) (c:=c3) (k:=1) (len:=(Rows++[r_4]).length) (B:=B3) (xs:=([r_4].flatMap encI)) (cs':=((Rows++[r_4]).flatMap encI)) hS16 K2 K0 K31 K28 rfl (by decide) rfl rfl rfl rfl (fm_lenn (l:=Rows) encI_len rfl) rfl (hS16.c 4) (fm_lenn (l:=[r_4]) encI_len rfl) (fm_one' (enc:=encI) encI_one [r_4]) (by have:=hap; omega) (by have:=hap; simp only [maxLen]; omega) (fm_app _ _) (app_len (l:=Rows) (l':=[r_4]) rfl rfl)) ?_ aN
     rintro _ w_10 ⟨B4,c4,rfl,hS17⟩
     refine ⟨(hS17.se [0,1]),?_⟩
     refine rq 7 42 (v:=pt (aD b3) 0) rfl (hS17.se [0,1]) (fun w' hw'=>(yd (aD b3) 0 0 K13 K8 rfl (hf.g 6 2))) ?_
     refine rA [8] ?_
     refine rZ 8 rfl (yT 2 1 (aD b3) 26 (.slice B4 ((Rows++[r_4]).length) c4) [.slice B4 ((Rows++[r_4]).length) c4] 0 hS17 K8) ?_ aN
     rintro _ w_11 ⟨rfl,hS18⟩
     refine ⟨(hS18.se [0,1]),?_⟩
     refine ra_done (by kernel_rfl) ?_
     exact ⟨B4,c4,(hf.a 2 0 (hf.a 4 1 (hf.a 6 2 (hf.a 29 3 (hf.a 30 4 (hf.a 31 5 fn_)))))),(hS18.sel [0,1,2,3] rfl rfl)⟩
    refine rC 39 4 rfl (yC [.agg V0.toArray,vi x] HB (Jo first x B c first.Rows.length _ rfl (hS14.inn0 [(true,0)] rfl) hc2)) ?_ aN
    rintro _ w_12 ⟨rfl,hd2⟩
    have hS19:=hS14.out00 hd2
    refine ⟨(hS19.se [0,1]),?_⟩
    refine rA [1,5] ?_
    refine ry 36 1 rfl (yl (aD b3) 0 [.slice B3 Rows.length c3] (.slice B3 Rows.length c3) K9 (hS19.c 2)) (hS19.se [0,1]) ?_ ?_
    ·skip
     refine rA [5] ?_
     refine rS 40 5 rfl (Ys_bslice (s:=1) (len:=1) (vs:=[(0,vi r_4)]) (cs:=[vi r_4]) (zs:=[vi 0]) (m:=1) hS19 K2 K0 K24 rfl (mpc rfl mpn) rfl rfl rfl (by kernel_rfl) (by kernel_rfl) rfl) ?_ aN
     rintro _ w_13 ⟨b4,rfl,hS20⟩
     refine ⟨(hS20.se [0,1]),?_⟩
     refine rA [6] ?_
     refine rS 41 6 rfl (Ys_append (s:=1) (by':=8) (i:=3) (nn:=Rows.length) (c:=c3) (k:=1) (len:=(Rows++[r_4]).length) (B:=B3) (xs:=([r_4].flatMap encI)) (cs':=((Rows++[r_4]).flatMap encI)) hS20 K2 K0 K31 K28 rfl (by decide) rfl rfl rfl rfl (fm_lenn (l:=Rows) encI_len rfl) rfl (hS20.c 4) (fm_lenn (l:=[r_4]) encI_len rfl) (fm_one' (enc:=encI) encI_one [r_4]) (by have:=hap; omega) (by have:=hap; simp only [maxLen]; omega) (fm_app _ _) (app_len (l:=Rows) (l':=[r_4]) rfl rfl)) ?_ aN
     rintro _ w_14 ⟨B4,c4,rfl,hS21⟩
     refine ⟨(hS21.se [0,1]),?_⟩
     refine rq 7 42 (v:=pt (aD b3) 0) rfl (hS21.se [0,1]) (fun w' hw'=>(yd (aD b3) 0 0 K13 K8 rfl (hf.g 6 2))) ?_
     refine rA [8] ?_
     refine rZ 8 rfl (yT 2 1 (aD b3) 26 (.slice B4 ((Rows++[r_4]).length) c4) [.slice B4 ((Rows++[r_4]).length) c4] 0 hS21 K8) ?_ aN
     rintro _ w_15 ⟨rfl,hS22⟩
     refine ⟨(hS22.se [0,1]),?_⟩
     refine ra_done (by kernel_rfl) ?_
     exact ⟨B4,c4,(hf.a 2 0 (hf.a 4 1 (hf.a 6 2 (hf.a 29 3 (hf.a 30 4 (hf.a 31 5 fn_)))))),(hS22.sel [0,1,2,3] rfl rfl)⟩
    refine rS 40 5 rfl (Ys_bslice (s:=1) (len:=1) (vs:=[(0,vi r_4)]) (cs:=[vi r_4]) (zs:=[vi 0]) (m:=1) hS19 K2 K0 K24 rfl (mpc rfl mpn) rfl rfl rfl (by kernel_rfl) (by kernel_rfl) rfl) ?_ aN
    rintro _ w_16 ⟨b4,rfl,hS23⟩
    refine ⟨(hS23.se [0,1]),?_⟩
    refine r1 36 1 rfl (yl (aD b3) 0 [.slice B3 Rows.length c3] (.slice B3 Rows.length c3) K9 (hS23.c 2)) (hS23.se [0,1]) ?_
    refine rA [6] ?_
    refine rS 41 6 rfl (Ys_append (s:=1) (by':=8) (i:=3) (nn:=Rows.length) (c:=c3) (k:=1) (len:=(Rows++[r_4]).length) (B:=B3) (xs:=([r_4].flatMap encI)) (cs':=((Rows++[r_4]).flatMap encI)) hS23 K2 K0 K31 K28 rfl (by decide) rfl rfl rfl rfl (fm_lenn (l:=Rows) encI_len rfl) rfl (hS23.c 4) (fm_lenn (l:=[r_4]) encI_len rfl) (fm_one' (enc:=encI) encI_one [r_4]) (by have:=hap; omega) (by have:=hap; simp only [maxLen]; omega) (fm_app _ _) (app_len (l:=Rows) (l':=[r_4]) rfl rfl)) ?_ aN
    rintro _ w_17 ⟨B4,c4,rfl,hS24⟩
    refine ⟨(hS24.se [0,1]),?_⟩
    refine rq 7 42 (v:=pt (aD b3) 0) rfl (hS24.se [0,1]) (fun w' hw'=>(yd (aD b3) 0 0 K13 K8 rfl (hf.g 6 2))) ?_
    refine rA [8] ?_
    refine rZ 8 rfl (yT 2 1 (aD b3) 26 (.slice B4 ((Rows++[r_4]).length) c4) [.slice B4 ((Rows++[r_4]).length) c4] 0 hS24 K8) ?_ aN
    rintro _ w_18 ⟨rfl,hS25⟩
    refine ⟨(hS25.se [0,1]),?_⟩
    refine ra_done (by kernel_rfl) ?_
    exact ⟨B4,c4,(hf.a 2 0 (hf.a 4 1 (hf.a 6 2 (hf.a 29 3 (hf.a 30 4 (hf.a 31 5 fn_)))))),(hS25.sel [0,1,2,3] rfl rfl)⟩
   rintro f w ⟨B5,c5,hf1,hS13⟩
   refine cr ?_
   refine sQ 43 (yP t 1 rfl (hf1.g 31 5))<|sQ 31 (ym (vi (i64.wrap (t+1)))) (rn ?_)
   obtain rfl:=sI hF4
   exact ⟨K5,Nat.lt_succ_self _,(Rows++[r_4]),(i64.wrap (t+1)),B5,c5,(hf1.a 2 0 (hf1.a 4 1 (hf1.a 6 2 (hf1.a 29 3 (hf1.a 30 4 (fc rfl fn_)))))),(hS13.sel [0,1,2,3] rfl rfl),hL1⟩
  ·skip
   have hF5:=cf' hb1 hb2
   refine cw_exit rfl ?_
   obtain rfl:=sI hF5
   obtain rfl:=sI hL1
   refine cq (cr ?_)
   let V2:List Value:=[.slice B3 Rows.length c3]
   refine sQ 44 (yb (aD b3) 0 V2 K16 K6 (hS10.c 2) rfl (hf.g 6 2)) ?_
   refine s0 (yT 1 1 (aD b2) 26 (.agg V2.toArray) V2 0 hS10 K6 rfl (hf.g 4 1)) ?_
   rintro _ w_19 ⟨rfl,hS26⟩
   refine sQ 5 (yg (.bool true)) (rn (ct_ ?_))
   obtain ⟨rfl,rfl⟩:=pr2 (sI hF3)
   exact ret2 Tryz.results21 (v1:=.agg V2.toArray) (resAt_cellA (B:=aD b2) (i:=0) (cs:=V2) (vs:=V2) (hf.g 4 1) K16 K6 (hS26.c 1) rfl rfl) (v2:=.bool true) (resAt_tmp rfl) ⟨B3,c3,rfl,(hS26.sN [3])⟩

theorem HL (from_:Int) (to_:Int) (p:List Int) (p1:List Aa) (B:Option Addr) (B1:Option Addr) (c n:Nat) (B2:Option Addr) (B3:Option Addr) (c1 n1:Nat) (w0:World) (hn:p.length=n) (hn1:p1.length=n1) (hS:ST w0 (bl [⟨B1,3,(p.flatMap encI),c*1⟩,⟨B2,30,[.slice B3 n1 c1],1⟩,⟨B3,59,(p1.flatMap eN0),c1*3⟩]) w0 [⟨B1,3,(p.flatMap encI),c*1⟩,⟨B2,30,[.slice B3 n1 c1],1⟩,⟨B3,59,(p1.flatMap eN0),c1*3⟩] [⟨B,[.slice B1 n c]⟩]) {m:List Int} {m1:List Aa} (hF:Ds from_ to_ p p1=some (m,m1)) :
  CV Tryz.prog 106 #[vi from_,vi to_,pt B 0,pt B2 0] w0 (fun v w'=>∃ (B4:Option Addr) (c2:Nat),v=.tuple #[]∧m.length=n∧ST w0 (bl [⟨B1,3,(p.flatMap encI),c*1⟩,⟨B2,30,[.slice B3 n1 c1],1⟩,⟨B3,59,(p1.flatMap eN0),c1*3⟩]) w' [⟨B1,3,(m.flatMap encI),c*1⟩,⟨B2,30,[.slice B4 m1.length c2],1⟩,⟨B4,59,(m1.flatMap eN0),c2*3⟩] []):=by
 subst hn
 subst hn1
 unfold Ds at hF
 refine cv_of_cw 22 Tryz.func106 rfl Tryz.ntmps106 rfl ?_
 refine cq ?_
 obtain ⟨x,hx,hF⟩:=bI hF
 obtain ⟨x1,hx1,hF⟩:=bI hF
 refine ra_start (hS.se [1,2]).fn (by kernel_rfl) ?_
 have hS1:=hS.drew
 have hQ0:=hS1.se [1,2]
 refine rq 0 6 rfl hQ0 (fun w' hw'=>(yl B 0 [.slice B1 p.length c] (.slice B1 p.length c) K9 (ST.rf hw' (i:=0) rfl)))<|rq 1 7 rfl hQ0 (fun w' hw'=>(ym (vi to_)))<|rq 2 8 (v:=pt B1 (to_.toNat*1)) rfl hQ0 (fun w' hw'=>(yI B1 to_ K2 K0 (gi_isSome encI_len rfl (hS1.c 0) hx) (getI_nn hx) (getI_ltI hx rfl)))<|rq 4 10 rfl hQ0 (fun w' hw'=>(yl B 0 [.slice B1 p.length c] (.slice B1 p.length c) K9 (ST.rf hw' (i:=0) rfl)))<|rq 5 11 rfl hQ0 (fun w' hw'=>(ym (vi from_))) ?_
 refine rq 6 12 (v:=pt B1 (from_.toNat*1)) rfl hQ0 (fun w' hw'=>(yI B1 from_ K2 K0 (gi_isSome encI_len rfl (hS1.c 0) hx1) (getI_nn hx1) (getI_ltI hx1 rfl)))<|ra_now 3 9 [8,9,10] rfl hQ0 (yl B1 (to_.toNat*1) (p.flatMap encI) (vi x) K1 (hS1.c 0) rfl rfl (gi_at0 encI_len hx rfl))<|r1 13 7 rfl (yl B1 (from_.toNat*1) (p.flatMap encI) (vi x1) K1 (hS1.c 0) rfl rfl (gi_at0 encI_len hx1 rfl)) hQ0<|rq 8 14 (v:=vi (bits .xor .i64 x x1)) rfl hQ0 (fun w' hw'=>(Y_bxor (k:=.i64) (a:=x) (b:=x1) rfl rfl rfl))<|rq 9 15 (v:=pt B1 (to_.toNat*1)) rfl hQ0 (fun w' hw'=>(yI B1 to_ K2 K0 (gi_isSome encI_len rfl (hS1.c 0) hx) (getI_nn hx) (getI_ltI hx rfl))) ?_
 refine rA [10] ?_
 refine rZ 10 rfl (yS 0 1 B1 3 (vi (bits .xor .i64 x x1)) [vi (bits .xor .i64 x x1)] (to_.toNat*1) ((p.set to_.toNat (bits .xor .i64 x x1)).flatMap encI) hS1 K0 rfl rfl rfl rfl rfl rfl rfl (gi_fit0 encI_len hx) (gi_set encI_len hx (bits .xor .i64 x x1) rfl)) ?_ aN
 rintro _ w_ ⟨rfl,hS2⟩
 refine ⟨(hS2.se [1,2]),?_⟩
 refine ra_done (by kernel_rfl) ?_
 refine cr ?_
 refine sQ 16 (yl B2 0 [.slice B3 p1.length c1] (.slice B3 p1.length c1) K18 (hS2.c 1))<|sQ 17 (ym (vi from_))<|sQ 18 (ym (vi to_))<|sQ 19 (Y_buildS (zs:=[vi 0,vi 0,vi 0]) (vs:=[(0,vi 9),(1,vi from_),(2,vi to_)]) (cs:=[vi 9,vi from_,vi to_]) K33 K10 rfl (mpc rfl (mpc rfl (mpc rfl mpn))) rfl) ?_
 refine sS 20 (Ys_bslice (s:=3) (len:=1) (vs:=[(0,.agg #[vi 9,vi from_,vi to_])]) (cs:=[vi 9,vi from_,vi to_]) (zs:=[vi 0,vi 0,vi 0]) (m:=3) hS2 K4 K3 K26 rfl (mpc rfl mpn) rfl rfl rfl (by kernel_rfl) (by kernel_rfl) rfl) ?_
 rintro _ w_1 ⟨b,rfl,hS3⟩
 obtain ⟨hap,hF⟩:=chk_inv hF
 refine sS 21 (Ys_append (s:=3) (by':=24) (i:=2) (nn:=p1.length) (c:=c1) (k:=1) (len:=(p1++[(Aa.mk 9 from_ to_)]).length) (B:=B3) (xs:=([(Aa.mk 9 from_ to_)].flatMap eN0)) (cs':=((p1++[(Aa.mk 9 from_ to_)]).flatMap eN0)) hS3 K4 K3 K23 K10 rfl (by decide) rfl rfl rfl rfl (fm_lenn (l:=p1) eN2 rfl) rfl (hS3.c 3) (fm_lenn (l:=[(Aa.mk 9 from_ to_)]) eN2 rfl) (fm_one' (enc:=eN0) Al [(Aa.mk 9 from_ to_)]) (by have:=hap; omega) (by have:=hap; simp only [maxLen]; omega) (fm_app _ _) (app_len (l:=p1) (l':=[(Aa.mk 9 from_ to_)]) rfl rfl)) ?_
 rintro _ w_2 ⟨B5,c3,rfl,hS4⟩
 refine s0 (yT 1 1 B2 30 (.slice B5 ((p1++[(Aa.mk 9 from_ to_)]).length) c3) [.slice B5 ((p1++[(Aa.mk 9 from_ to_)]).length) c3] 0 hS4 K11) ?_
 rintro _ w_3 ⟨rfl,hS5⟩
 refine rn ?_
 obtain ⟨rfl,rfl⟩:=pr2 (sI hF)
 exact ret0 Tryz.results106  ⟨B5,c3,rfl,(set_len _ _ _ rfl),(hS5.sN [0,1,2])⟩

theorem KE (m:Ad) (B:Option Addr) (c n:Nat) (w0:World) (hn:m.Rows.length=n) (hS:ST w0 [] w0 [] [⟨B,(m.Rows.flatMap encI)⟩]) {r_:List Aa} (hF:BP m=some r_) :
  CV Tryz.prog 65 #[.agg #[.slice B n c]] w0 (fun v w'=>∃ (B1:Option Addr) (c1:Nat),v=.slice B1 r_.length c1∧ST w0 [] w' [⟨B1,59,(r_.flatMap eN0),c1*3⟩] []):=by
 subst hn
 unfold BP at hF
 refine cv_of_cw 74 Tryz.func65 rfl Tryz.ntmps65 rfl ?_
 refine cq (cr ?_)
 let V3:List Value:=[.slice B m.Rows.length c]
 refine sS 1 (yB 26 (.agg V3.toArray) V3 1 hS) ?_
 rintro _ w_ ⟨b,rfl,hS1⟩
 refine sQ 2 (yg (.slice none 0 0)) (rn (cq (cr ?_)))
 refine sQ 9 (yd (aD b) 0 0 K13 K8)<|sQ 10 (yl (aD b) 0 V3 (.slice B m.Rows.length c) K9 (hS1.c 0)) ?_
 obtain ⟨r_1,hc,hF⟩:=bI hF
 refine sc 11 rfl rfl (yC V3 K82 (F6 m.Rows B c m.Rows.length _ rfl (hS1.inn0 [(true,0)] rfl) hc)) ?_
 rintro _ w_1 ⟨B2,c2,rfl,hd⟩
 have hS2:=hS1.out0 hd
 refine sS 12 (Ys_bslice0 (s:=3) (e:=59) hS2 K4 K3 rfl) ?_
 rintro _ w_2 ⟨b1,rfl,hS3⟩
 refine sS 3 (yN [.slice none 0 0] 1 hS3 Jy) ?_
 rintro _ w_3 ⟨b2,rfl,hS4⟩
 refine sS 4 (yN [.slice none 0 0] 1 hS4 IV) ?_
 rintro _ w_4 ⟨b3,rfl,hS5⟩
 let V2:List Value:=[.slice B2 r_1.length c2]
 refine s0 (yT 3 1 (aD b2) 24 (.slice B2 r_1.length c2) V2 0 hS5 K8) ?_
 rintro _ w_5 ⟨rfl,hS6⟩
 refine s0 (yT 4 1 (aD b3) 30 (.slice (aD b1) 0 0) [.slice (aD b1) 0 0] 0 hS6 K11) ?_
 rintro _ w_6 ⟨rfl,hS7⟩
 refine rn (cq (cr ?_))
 refine sQ 13 (Y_makeFunc (cs:=[pt (aD b2) 0,pt (aD b3) 0]) rfl rfl (mc rfl (mc rfl mn)))<|sQ 5 (yg (.func (.func 106) #[] #[pt (aD b2) 0,pt (aD b3) 0])) (rn (cq (cq (cr ?_))))
 refine sQ 14 (yl (aD b2) 0 V2 (.slice B2 r_1.length c2) K9 (hS7.c 3))<|sQ 15 (Y_len (B:=B2) (m:=r_1.length) (c:=c2) K2 rfl rfl)<|sQ 16 (ym (vi 0)) (rn ?_)
 obtain ⟨hN,hF⟩:=chk_inv hF
 obtain ⟨z,hz,hF1⟩:=bI hF
 refine cw_block ?_
 let O0:Ob:=⟨aD b2,24,V2,1⟩
 let R1:Ro:=⟨B,(m.Rows.flatMap encI)⟩
 refine cw_loop (fun k f w=>∃ (i:Nat) (rows:List Int) (out:List Aa) (B3:Option Addr) (c3:Nat),FF f [(3,pt (aD b2) 0),(4,pt (aD b3) 0),(5,.func (.func 106) #[] #[pt (aD b2) 0,pt (aD b3) 0]),(15,vi (r_1.length:Int)),(16,vi (i:Int))]∧rows.length=r_1.length∧ST w0 [] w [O0,⟨B2,3,(rows.flatMap encI),c2*1⟩,⟨aD b3,30,[.slice B3 out.length c3],1⟩,⟨B3,59,(out.flatMap eN0),c3*3⟩] [R1]∧i+k=r_1.length∧forN (BK r_1) k i (rows,out)=some z) r_1.length ⟨0,r_1,[],aD b1,0,(fc rfl (fc rfl (fc rfl (fc rfl (fc rfl fn_))))),rfl,(hS7.sel [3,1,4,2] rfl rfl),Nat.zero_add _,hz⟩ ?_
 rintro k_ f w ⟨i,rows,out,B3,c3,hf,hl,hS8,hik,hL⟩
 refine cq (cr ?_)
 refine sQ 17 (yL (i:Int) (r_1.length:Int) rfl (hf.g 16 4) (hf.g 15 3)) (rn (cq ?_))
 refine cw_cond (b:=(decide ((i:Int)<(r_1.length:Int)))) rfl (fun hlt=>?_) (fun hlt=>?_)
 ·skip
  have hlt1:i<r_1.length:=by have h:=of_decide_eq_true hlt; omega
  obtain ⟨K5,rfl⟩:∃ k2,k_=k2+1:=⟨k_-1,by omega⟩
  obtain ⟨y,hb,hL1⟩:=forN_go hL
  unfold BK at hb
  refine cw_skip (cq (cw_block (cq (cr ?_))))
  refine sQ 18 (ym (vi (i:Int)) rfl (hf.g 16 4))<|sQ 6 (yg (vi (i:Int))) (rn (cq (cq (cr ?_))))
  refine sQ 19 (ym (vi (i:Int)))<|sQ 20 (yP (i:Int) 1)<|sQ 7 (yg (vi (i64.wrap ((i:Int)+1)))) (rn ?_)
  obtain ⟨z1,hz1,hF2⟩:=bI hb
  refine cw_block ?_
  refine cw_loop (fun k f w=>∃ (rows1:List Int) (out1:List Aa) (i1:Int) (B4:Option Addr) (c4:Nat),FF f [(3,pt (aD b2) 0),(4,pt (aD b3) 0),(5,.func (.func 106) #[] #[pt (aD b2) 0,pt (aD b3) 0]),(6,vi (i:Int)),(7,vi i1),(15,vi (r_1.length:Int)),(16,vi (i:Int))]∧rows1.length=r_1.length∧ST w0 [] w [O0,⟨B2,3,(rows1.flatMap encI),c2*1⟩,⟨aD b3,30,[.slice B4 out1.length c4],1⟩,⟨B4,59,(out1.flatMap eN0),c4*3⟩] [R1]∧whX (Bb r_1 i) k (rows1,out1,i1)=some z1) fuel ⟨rows,out,(i64.wrap ((i:Int)+1)),B3,c3,(hf.a 3 0 (hf.a 4 1 (hf.a 5 2 (fc rfl (fc rfl (hf.a 15 3 (hf.a 16 4 fn_))))))),hl,(hS8.sel [0,1,2,3] rfl rfl),hz1⟩ ?_
  rintro K19 f w ⟨rows1,out1,i1,B4,c4,hf1,hl1,hS9,hL2⟩
  obtain ⟨K32,y1,rfl,hb1,hL3⟩:=whX_go hL2
  unfold Bb at hb1
  refine cq (cq (cr ?_))
  refine sQ 21 (ym (vi i1) rfl (hf1.g 7 4))<|sQ 22 (yl (aD b2) 0 V2 (.slice B2 r_1.length c2) K9 (hS9.c 0) rfl (hf1.g 3 0))<|sQ 23 (Y_len (B:=B2) (m:=r_1.length) (c:=c2) K2 rfl rfl)<|sQ 24 (yL i1 (r_1.length:Int))<|sQ 25 (ym (.bool (decide (i1<(r_1.length:Int))))) ?_
  refine sgq 26 (B:=(decide (i1<(r_1.length:Int)))) rfl rfl (uT_ 25) (fun hg=>(yl (aD b2) 0 V2 (.slice B2 r_1.length c2) K9 (hS9.c 0) rfl (hf1.g 3 0))) ?_
  refine sgq 27 (B:=(decide (i1<(r_1.length:Int)))) rfl rfl (uT_ 25) (fun hg1=>(ym (vi (i:Int)) rfl (hf1.g 6 3))) ?_
  obtain ⟨x,hx,hb1⟩:=bI hb1
  refine sgq 28 (B:=(decide (i1<(r_1.length:Int)))) (v:=pt B2 ((i:Int).toNat*1)) rfl rfl (uT_ 25) (fun hg2=>(yI B2 (i:Int) K2 K0 (gi_isSome encI_len rfl (hS9.c 1) (gb_inv hx hg2)) (getI_nn (gb_inv hx hg2)) (getI_ltI (gb_inv hx hg2) hl1) rfl (gv_of (v:=.slice B2 r_1.length c2) hg2) (gv_of (v:=vi (i:Int)) hg2))) ?_
  refine sgq 29 (B:=(decide (i1<(r_1.length:Int)))) rfl rfl (uT_ 25) (fun hg3=>(yl B2 ((i:Int).toNat*1) (rows1.flatMap encI) (vi x) K1 (hS9.c 1) rfl (gv_of (v:=pt B2 ((i:Int).toNat*1)) hg3) (gi_at0 encI_len (gb_inv hx hg3) rfl))) ?_
  refine sgq 30 (B:=(decide (i1<(r_1.length:Int)))) rfl rfl (uT_ 25) (fun hg4=>(ym (vi (i:Int)) rfl (hf1.g 6 3))) ?_
  obtain ⟨hsh,hb1⟩:=chk_inv hb1
  refine sgq 31 (B:=(decide (i1<(r_1.length:Int)))) (v:=vi (shrK .i64 x (i:Int))) rfl rfl (uT_ 25) (fun hg5=>(Y_shr (k:=.i64) (a:=x) (k':=.i64) (b:=(i:Int)) rfl (gv_of (v:=vi x) hg5) (gv_of (v:=vi (i:Int)) hg5) (hsh hg5))) ?_
  refine sgq 32 (B:=(decide (i1<(r_1.length:Int)))) (v:=vi (bits .and .i64 (shrK .i64 x (i:Int)) 1)) rfl rfl (uT_ 25) (fun hg6=>(Y_band (k:=.i64) (a:=(shrK .i64 x (i:Int))) (b:=1) rfl (gv_of (v:=vi (shrK .i64 x (i:Int))) hg6) rfl)) ?_
  refine sgq 33 (B:=(decide (i1<(r_1.length:Int)))) rfl rfl (uT_ 25) (fun hg7=>(yE (bits .and .i64 (shrK .i64 x (i:Int)) 1) 0 rfl (gv_of (v:=vi (bits .and .i64 (shrK .i64 x (i:Int)) 1)) hg7))) ?_
  refine sQ 34 (Y_and (b:=(decide (i1<(r_1.length:Int)))) (z:=((bits .and .i64 (shrK .i64 x (i:Int)) 1)==0)) rfl rfl rfl rfl) (rn ?_)
  refine cw_cond (b:=((decide (i1<(r_1.length:Int)))&&((bits .and .i64 (shrK .i64 x (i:Int)) 1)==0))) rfl (fun hb2=>?_) (fun hb2=>?_)
  ·skip
   have hF3:=ct hb1 hb2
   refine cw_skip (cq ?_)
   obtain ⟨z2,hz2,hF4⟩:=bI hF3
   refine cw_mid (fun f w=>∃ (rows2:List Int) (out2:List Aa) (B5:Option Addr) (c5:Nat),(rows2,out2)=z2∧FF f [(3,pt (aD b2) 0),(4,pt (aD b3) 0),(5,.func (.func 106) #[] #[pt (aD b2) 0,pt (aD b3) 0]),(6,vi (i:Int)),(7,vi i1),(15,vi (r_1.length:Int)),(16,vi (i:Int))]∧rows2.length=r_1.length∧ST w0 [] w [O0,⟨B2,3,(rows2.flatMap encI),c2*1⟩,⟨aD b3,30,[.slice B5 out2.length c5],1⟩,⟨B5,59,(out2.flatMap eN0),c5*3⟩] [R1]) ?_ ?_
   ·skip
    refine cw_block (cq (cr ?_))
    refine sQ 37 (yl (aD b2) 0 V2 (.slice B2 r_1.length c2) K9 (hS9.c 0) rfl (hf1.g 3 0))<|sQ 38 (ym (vi i1) rfl (hf1.g 7 4)) ?_
    obtain ⟨x1,hx1,hz2⟩:=bI hz2
    refine sQ 39 (yI B2 i1 K2 K0 (gi_isSome encI_len rfl (hS9.c 1) hx1) (getI_nn hx1) (getI_ltI hx1 hl1))<|sQ 40 (yl B2 (i1.toNat*1) (rows1.flatMap encI) (vi x1) K1 (hS9.c 1) rfl rfl (gi_at0 encI_len hx1 rfl))<|sQ 41 (ym (vi (i:Int)) rfl (hf1.g 6 3)) ?_
    obtain ⟨hsh1,hz2⟩:=chk_inv hz2
    refine sQ 42 (Y_shr (k:=.i64) (a:=x1) (k':=.i64) (b:=(i:Int)) rfl rfl rfl hsh1)<|sQ 43 (Y_band (k:=.i64) (a:=(shrK .i64 x1 (i:Int))) (b:=1) rfl rfl rfl)<|sQ 44 (yE (bits .and .i64 (shrK .i64 x1 (i:Int)) 1) 1) (rn ?_)
    refine cw_cond (b:=((bits .and .i64 (shrK .i64 x1 (i:Int)) 1)==1)) rfl (fun hb3=>?_) (fun hb3=>?_)
    ·skip
     have hF5:=ct hz2 hb3
     refine cr ?_
     refine sQ 45 (ym (.func (.func 106) #[] #[pt (aD b2) 0,pt (aD b3) 0]) rfl (hf1.g 5 2))<|sQ 46 (ym (vi i1) rfl (hf1.g 7 4))<|sQ 47 (ym (vi (i:Int)) rfl (hf1.g 6 3)) ?_
     obtain ⟨⟨m1,m2⟩,hc1,hF5⟩:=bI hF5
     refine sc 48 rfl rfl (Yc_clos (g:=106) (vs:=[vi i1,vi (i:Int),pt (aD b2) 0,pt (aD b3) 0]) IJ rfl rfl (clo_args (mc rfl (mc rfl mn))) (HL i1 (i:Int) rows1 out1 (aD b2) B2 c2 r_1.length (aD b3) B4 c4 out1.length _ hl1 rfl (hS9.inn [false,true,true,true] rfl [(false,0)] rfl) hc1)) ?_
     rintro _ w_7 ⟨B6,c6,rfl,hl3,hd1⟩
     have hS11:=hS9.out [false,true,true,true] rfl hd1
     refine rn ?_
     exact ⟨m1,m2,B6,c6,(sI hF5),(hf1.a 3 0 (hf1.a 4 1 (hf1.a 5 2 (hf1.a 6 3 (hf1.a 7 4 (hf1.a 15 5 (hf1.a 16 6 fn_))))))),hl3,(hS11.sel [0,1,2,3] rfl rfl)⟩
    ·skip
     have hF6:=cf' hz2 hb3
     refine cw_skip ?_
     exact ⟨rows1,out1,B4,c4,(sI hF6),(hf1.a 3 0 (hf1.a 4 1 (hf1.a 5 2 (hf1.a 6 3 (hf1.a 7 4 (hf1.a 15 5 (hf1.a 16 6 fn_))))))),hl1,(hS9.sel [0,1,2,3] rfl rfl)⟩
   rintro f w ⟨rows2,out2,B5,c5,rfl,hf2,hl2,hS10⟩
   refine cr ?_
   refine sQ 35 (ym (vi i1) rfl (hf2.g 7 4))<|sQ 36 (yP i1 1)<|sQ 7 (yg (vi (i64.wrap (i1+1)))) (rn ?_)
   obtain rfl:=sI hF4
   exact ⟨K32,Nat.lt_succ_self _,rows2,out2,(i64.wrap (i1+1)),B5,c5,(hf2.a 3 0 (hf2.a 4 1 (hf2.a 5 2 (hf2.a 6 3 (fc rfl (hf2.a 15 5 (hf2.a 16 6 fn_))))))),hl2,(hS10.sel [0,1,2,3] rfl rfl),hL3⟩
  ·skip
   have hF7:=cf' hb1 hb2
   refine cw_exit rfl ?_
   obtain rfl:=sI hF7
   obtain rfl:=sI hL3
   refine cq (cr ?_)
   refine sQ 49 (yl (aD b2) 0 V2 (.slice B2 r_1.length c2) K9 (hS9.c 0) rfl (hf1.g 3 0))<|sQ 50 (Y_len (B:=B2) (m:=r_1.length) (c:=c2) K2 rfl rfl)<|sQ 51 (ym (vi 0)) (rn ?_)
   obtain ⟨hN1,hF2⟩:=chk_inv hF2
   obtain ⟨z3,hz3,hF8⟩:=bI hF2
   refine cw_block ?_
   refine cw_loop (fun k f w=>∃ (i2:Nat) (rows3:List Int) (out3:List Aa) (B7:Option Addr) (c7:Nat),FF f [(3,pt (aD b2) 0),(4,pt (aD b3) 0),(5,.func (.func 106) #[] #[pt (aD b2) 0,pt (aD b3) 0]),(6,vi (i:Int)),(15,vi (r_1.length:Int)),(16,vi (i:Int)),(50,vi (r_1.length:Int)),(51,vi (i2:Int))]∧rows3.length=r_1.length∧ST w0 [] w [O0,⟨B2,3,(rows3.flatMap encI),c2*1⟩,⟨aD b3,30,[.slice B7 out3.length c7],1⟩,⟨B7,59,(out3.flatMap eN0),c7*3⟩] [R1]∧i2+k=r_1.length∧forN (BQ i) k i2 (rows3,out3)=some z3) r_1.length ⟨0,rows1,out1,B4,c4,(hf1.a 3 0 (hf1.a 4 1 (hf1.a 5 2 (hf1.a 6 3 (hf1.a 15 5 (hf1.a 16 6 (fc rfl (fc rfl fn_)))))))),hl1,(hS9.sel [0,1,2,3] rfl rfl),Nat.zero_add _,hz3⟩ ?_
   rintro K38 f w ⟨i2,rows3,out3,B7,c7,hf3,hl4,hS12,hik2,hL4⟩
   refine cq (cr ?_)
   refine sQ 52 (yL (i2:Int) (r_1.length:Int) rfl (hf3.g 51 7) (hf3.g 50 6)) (rn (cq ?_))
   refine cw_cond (b:=(decide ((i2:Int)<(r_1.length:Int)))) rfl (fun hlt2=>?_) (fun hlt2=>?_)
   ·skip
    have hlt3:i2<r_1.length:=by have h:=of_decide_eq_true hlt2; omega
    obtain ⟨K53,rfl⟩:∃ k2,K38=k2+1:=⟨K38-1,by omega⟩
    obtain ⟨y2,hb4,hL5⟩:=forN_go hL4
    unfold BQ at hb4
    refine cw_skip (cq ?_)
    obtain ⟨z4,hz4,hF9⟩:=bI hb4
    refine cw_mid (fun f w=>∃ (rows4:List Int) (out4:List Aa) (B8:Option Addr) (c8:Nat),(rows4,out4)=z4∧FF f [(3,pt (aD b2) 0),(4,pt (aD b3) 0),(5,.func (.func 106) #[] #[pt (aD b2) 0,pt (aD b3) 0]),(6,vi (i:Int)),(15,vi (r_1.length:Int)),(16,vi (i:Int)),(50,vi (r_1.length:Int)),(51,vi (i2:Int))]∧rows4.length=r_1.length∧ST w0 [] w [O0,⟨B2,3,(rows4.flatMap encI),c2*1⟩,⟨aD b3,30,[.slice B8 out4.length c8],1⟩,⟨B8,59,(out4.flatMap eN0),c8*3⟩] [R1]) ?_ ?_
    ·skip
     refine cw_block (cq (cr ?_))
     refine sQ 53 (ym (vi (i2:Int)) rfl (hf3.g 51 7))<|sQ 8 (yg (vi (i2:Int))) (rn (cq (cr ?_)))
     refine sQ 54 (ym (vi (i2:Int)))<|sQ 55 (ym (vi (i:Int)) rfl (hf3.g 6 3))<|sQ 56 (Y_ne (k:=.i64) (a:=(i2:Int)) (b:=(i:Int)) rfl rfl rfl)<|sQ 57 (ym (.bool ((i2:Int) != (i:Int)))) ?_
     refine sgq 58 (B:=((i2:Int) != (i:Int))) rfl rfl (uT_ 57) (fun hg8=>(yl (aD b2) 0 V2 (.slice B2 r_1.length c2) K9 (hS12.c 0) rfl (hf3.g 3 0))) ?_
     refine sgq 59 (B:=((i2:Int) != (i:Int))) rfl rfl (uT_ 57) (fun hg9=>(ym (vi (i2:Int)))) ?_
     obtain ⟨x2,hx2,hz4⟩:=bI hz4
     refine sgq 60 (B:=((i2:Int) != (i:Int))) (v:=pt B2 ((i2:Int).toNat*1)) rfl rfl (uT_ 57) (fun hg10=>(yI B2 (i2:Int) K2 K0 (gi_isSome encI_len rfl (hS12.c 1) (gb_inv hx2 hg10)) (getI_nn (gb_inv hx2 hg10)) (getI_ltI (gb_inv hx2 hg10) hl4) rfl (gv_of (v:=.slice B2 r_1.length c2) hg10) (gv_of (v:=vi (i2:Int)) hg10))) ?_
     refine sgq 61 (B:=((i2:Int) != (i:Int))) rfl rfl (uT_ 57) (fun hg11=>(yl B2 ((i2:Int).toNat*1) (rows3.flatMap encI) (vi x2) K1 (hS12.c 1) rfl (gv_of (v:=pt B2 ((i2:Int).toNat*1)) hg11) (gi_at0 encI_len (gb_inv hx2 hg11) rfl))) ?_
     refine sgq 62 (B:=((i2:Int) != (i:Int))) rfl rfl (uT_ 57) (fun hg12=>(ym (vi (i:Int)) rfl (hf3.g 6 3))) ?_
     obtain ⟨hsh2,hz4⟩:=chk_inv hz4
     refine sgq 63 (B:=((i2:Int) != (i:Int))) (v:=vi (shrK .i64 x2 (i:Int))) rfl rfl (uT_ 57) (fun hg13=>(Y_shr (k:=.i64) (a:=x2) (k':=.i64) (b:=(i:Int)) rfl (gv_of (v:=vi x2) hg13) (gv_of (v:=vi (i:Int)) hg13) (hsh2 hg13))) ?_
     refine sgq 64 (B:=((i2:Int) != (i:Int))) (v:=vi (bits .and .i64 (shrK .i64 x2 (i:Int)) 1)) rfl rfl (uT_ 57) (fun hg14=>(Y_band (k:=.i64) (a:=(shrK .i64 x2 (i:Int))) (b:=1) rfl (gv_of (v:=vi (shrK .i64 x2 (i:Int))) hg14) rfl)) ?_
     refine sgq 65 (B:=((i2:Int) != (i:Int))) rfl rfl (uT_ 57) (fun hg15=>(yE (bits .and .i64 (shrK .i64 x2 (i:Int)) 1) 1 rfl (gv_of (v:=vi (bits .and .i64 (shrK .i64 x2 (i:Int)) 1)) hg15))) ?_
     refine sQ 66 (Y_and (b:=((i2:Int) != (i:Int))) (z:=((bits .and .i64 (shrK .i64 x2 (i:Int)) 1)==1)) rfl rfl rfl rfl) (rn ?_)
     refine cw_cond (b:=(((i2:Int) != (i:Int))&&((bits .and .i64 (shrK .i64 x2 (i:Int)) 1)==1))) rfl (fun hb5=>?_) (fun hb5=>?_)
     ·skip
      have hF10:=ct hz4 hb5
      refine cr ?_
      refine sQ 67 (ym (.func (.func 106) #[] #[pt (aD b2) 0,pt (aD b3) 0]) rfl (hf3.g 5 2))<|sQ 68 (ym (vi (i:Int)) rfl (hf3.g 6 3))<|sQ 69 (ym (vi (i2:Int))) ?_
      obtain ⟨⟨m3,m4⟩,hc2,hF10⟩:=bI hF10
      refine sc 70 rfl rfl (Yc_clos (g:=106) (vs:=[vi (i:Int),vi (i2:Int),pt (aD b2) 0,pt (aD b3) 0]) IJ rfl rfl (clo_args (mc rfl (mc rfl mn))) (HL (i:Int) (i2:Int) rows3 out3 (aD b2) B2 c2 r_1.length (aD b3) B7 c7 out3.length _ hl4 rfl (hS12.inn [false,true,true,true] rfl [(false,0)] rfl) hc2)) ?_
      rintro _ w_8 ⟨B9,c9,rfl,hl6,hd2⟩
      have hS14:=hS12.out [false,true,true,true] rfl hd2
      refine rn ?_
      exact ⟨m3,m4,B9,c9,(sI hF10),(hf3.a 3 0 (hf3.a 4 1 (hf3.a 5 2 (hf3.a 6 3 (hf3.a 15 4 (hf3.a 16 5 (hf3.a 50 6 (hf3.a 51 7 fn_)))))))),hl6,(hS14.sel [0,1,2,3] rfl rfl)⟩
     ·skip
      have hF11:=cf' hz4 hb5
      refine cw_skip ?_
      exact ⟨rows3,out3,B7,c7,(sI hF11),(hf3.a 3 0 (hf3.a 4 1 (hf3.a 5 2 (hf3.a 6 3 (hf3.a 15 4 (hf3.a 16 5 (hf3.a 50 6 (hf3.a 51 7 fn_)))))))),hl4,(hS12.sel [0,1,2,3] rfl rfl)⟩
    rintro f w ⟨rows4,out4,B8,c8,rfl,hf4,hl5,hS13⟩
    refine cr ?_
    refine sQ 71 (yP (i2:Int) 1 rfl (hf4.g 51 7))<|sQ 51 (ym (vi (i64.wrap ((i2:Int)+1)))) (rn ?_)
    obtain rfl:=sI hF9
    exact ⟨K53,Nat.lt_succ_self _,i2+1,rows4,out4,B8,c8,(hf4.a 3 0 (hf4.a 4 1 (hf4.a 5 2 (hf4.a 6 3 (hf4.a 15 4 (hf4.a 16 5 (hf4.a 50 6 (fc (congrArg (Value.int .i64) (wr_succ hlt3 hN1)) fn_)))))))),hl5,(hS13.sel [0,1,2,3] rfl rfl),(by omega),hL5⟩
   ·skip
    obtain rfl:K38=0:=by have h:=of_decide_eq_false hlt2; omega
    refine cw_exit rfl ?_
    obtain rfl:=sI hL4
    refine cr ?_
    refine sQ 72 (yP (i:Int) 1 rfl (hf3.g 16 5))<|sQ 16 (ym (vi (i64.wrap ((i:Int)+1)))) (rn ?_)
    obtain rfl:=sI hF8
    exact ⟨K5,Nat.lt_succ_self _,i+1,rows3,out3,B7,c7,(hf3.a 3 0 (hf3.a 4 1 (hf3.a 5 2 (hf3.a 15 4 (fc (congrArg (Value.int .i64) (wr_succ hlt1 hN)) fn_))))),hl4,(hS12.sel [0,1,2,3] rfl rfl),(by omega),hL1⟩
 ·skip
  obtain rfl:k_=0:=by have h:=of_decide_eq_false hlt; omega
  refine cw_exit rfl ?_
  obtain rfl:=sI hL
  refine cq (cr ?_)
  refine sQ 73 (yl (aD b3) 0 [.slice B3 out.length c3] (.slice B3 out.length c3) K18 (hS8.c 2) rfl (hf.g 4 1))<|sQ 2 (yg (.slice B3 out.length c3)) (rn (ct_ ?_))
  obtain rfl:=sI hF1
  exact ret1 Tryz.results65 (v1:=.slice B3 out.length c3) (resAt_tmp rfl) ⟨B3,c3,rfl,(hS8.sN [3])⟩

theorem IH (m:Ad) (B:Option Addr) (c n:Nat) (w0:World) (hn:m.Rows.length=n) (hS:ST w0 [] w0 [] [⟨B,(m.Rows.flatMap encI)⟩]) {r_:Ad} (hF:Cp m=some r_) :
  CV Tryz.prog 22 #[.agg #[.slice B n c]] w0 (fun v w'=>∃ (B1:Option Addr) (c1:Nat),v=.agg #[.slice B1 r_.Rows.length c1]∧ST w0 [] w' [⟨B1,3,(r_.Rows.flatMap encI),c1*1⟩] []):=by
 subst hn
 unfold Cp at hF
 refine cv_of_cw 33 Tryz.func22 rfl Tryz.ntmps22 rfl ?_
 refine cq (cr ?_)
 let V2:List Value:=[.slice B m.Rows.length c]
 refine sS 1 (yB 26 (.agg V2.toArray) V2 1 hS) ?_
 rintro _ w_ ⟨b,rfl,hS1⟩
 refine sS 2 (yN [.slice none 0 0] 1 hS1 K22) ?_
 rintro _ w_1 ⟨b1,rfl,hS2⟩
 refine rn (cq (cr ?_))
 refine sQ 6 (yd (aD b) 0 0 K13 K8)<|sQ 7 (yl (aD b) 0 V2 (.slice B m.Rows.length c) K9 (hS2.c 0))<|sQ 8 (Y_len (B:=B) (m:=m.Rows.length) (c:=c) K2 rfl rfl) ?_
 obtain ⟨r_1,hc,hF⟩:=bI hF
 refine sc 9 rfl rfl (yC [vi (m.Rows.length:Int)] K68 (Cu (m.Rows.length:Int) _  (hS2.inn0 [] rfl) hc)) ?_
 rintro _ w_2 ⟨B2,c2,rfl,hd⟩
 have hS3:=hS2.out0 hd
 refine sS 3 (yN [.slice none 0 0] 1 hS3 K22) ?_
 rintro _ w_3 ⟨b2,rfl,hS4⟩
 let V0:List Value:=[.slice B2 r_1.Rows.length c2]
 refine s0 (yT 3 1 (aD b2) 26 (.agg V0.toArray) V0 0 hS4 K6) ?_
 rintro _ w_4 ⟨rfl,hS5⟩
 refine rn (cq (cq (cr ?_)))
 refine sQ 10 (yb (aD b) 0 V2 K16 K6 (hS5.c 0)) ?_
 obtain ⟨r_2,hc1,hF⟩:=bI hF
 refine sc 11 rfl rfl (yC [.agg V2.toArray] Ki (KE m B c m.Rows.length _ rfl (hS5.inn0 [(true,0)] rfl) hc1)) ?_
 rintro _ w_5 ⟨B3,c3,rfl,hd1⟩
 have hS6:=hS5.out0 hd1
 refine sQ 12 (Y_len (B:=B3) (m:=r_2.length) (c:=c3) K4 rfl rfl)<|sQ 13 (ym (vi 0)) (rn ?_)
 obtain ⟨hN,hF⟩:=chk_inv hF
 obtain ⟨z,hz,hF1⟩:=bI hF
 refine cw_block ?_
 refine cw_loop (fun k f w=>∃ (i:Nat) (Rows:List Int),FF f [(2,pt (aD b1) 0),(3,pt (aD b2) 0),(11,.slice B3 r_2.length c3),(12,vi (r_2.length:Int)),(13,vi (i:Int))]∧Rows.length=r_1.Rows.length∧ST w0 [] w [⟨aD b1,26,[.slice none 0 0],1⟩,⟨aD b2,26,V0,1⟩,⟨B2,3,(Rows.flatMap encI),c2*1⟩,⟨B3,59,(r_2.flatMap eN0),c3*3⟩] [⟨B,(m.Rows.flatMap encI)⟩]∧i+k=r_2.length∧forN (CD r_2) k i Rows=some z) r_2.length ⟨0,r_1.Rows,(fc rfl (fc rfl (fc rfl (fc rfl (fc rfl fn_))))),rfl,(hS6.sel [1,3,2,4] rfl rfl),Nat.zero_add _,hz⟩ ?_
 rintro k_ f w ⟨i,Rows,hf,hl,hS7,hik,hL⟩
 refine cq (cr ?_)
 refine sQ 14 (yL (i:Int) (r_2.length:Int) rfl (hf.g 13 4) (hf.g 12 3)) (rn (cq ?_))
 refine cw_cond (b:=(decide ((i:Int)<(r_2.length:Int)))) rfl (fun hlt=>?_) (fun hlt=>?_)
 ·skip
  have hlt1:i<r_2.length:=by have h:=of_decide_eq_true hlt; omega
  obtain ⟨K5,rfl⟩:∃ k2,k_=k2+1:=⟨k_-1,by omega⟩
  obtain ⟨y,hb,hL1⟩:=forN_go hL
  unfold CD at hb
  refine cw_skip (cq (cw_block (cq (cr ?_))))
  obtain ⟨x,hx,hb⟩:=bI hb
  let V1:List Value:=[vi x.Kind,vi x.A,vi x.B]
  refine sQ 15 (yI B3 (i:Int) K4 K3 (gi_isSome eN2 rfl (hS7.c 3) hx) (getI_nn hx) (getI_ltI hx rfl) rfl (hf.g 11 2) (hf.g 13 4))<|sQ 16 (ya B3 ((i:Int).toNat*3) (r_2.flatMap eN0) V1 K30 K3 (hS7.c 3) rfl rfl (eN2 x) (gi_seg eN2 hx)) ?_
  refine sS 5 (yN [vi 0,vi 0,vi 0] 3 hS7 K10) ?_
  rintro _ w_6 ⟨b3,rfl,hS8⟩
  refine s0 (yT 4 3 (aD b3) 59 (.agg V1.toArray) V1 0 hS8 K3) ?_
  rintro _ w_7 ⟨rfl,hS9⟩
  refine rn ?_
  obtain ⟨x1,hx1,hb⟩:=bI hb
  obtain ⟨x2,hx2,hb⟩:=bI hb
  refine ra_start (hS9.se [0,1,3,4]).fn (by kernel_rfl) ?_
  have hS10:=hS9.drew
  have hQ0:=hS10.se [0,1,3,4]
  refine rq 0 17 (v:=pt (aD b2) 0) rfl hQ0 (fun w' hw'=>(yd (aD b2) 0 0 K13 K8 rfl (hf.g 3 1)))<|rq 1 18 rfl hQ0 (fun w' hw'=>(yl (aD b2) 0 V0 (.slice B2 r_1.Rows.length c2) K9 (ST.cf hw' (i:=1) rfl)))<|rq 2 19 (v:=pt (aD b3) 2) rfl hQ0 (fun w' hw'=>(yd (aD b3) 0 0 K27 K0))<|rq 3 20 rfl hQ0 (fun w' hw'=>(yl (aD b3) 2 V1 (vi x.B) K1 (ST.cf hw' (i:=3) rfl)))<|rq 4 21 (v:=pt B2 (x.B.toNat*1)) rfl hQ0 (fun w' hw'=>(yI B2 x.B K2 K0 (gi_isSome encI_len rfl (hS10.c 2) hx1) (getI_nn hx1) (getI_ltI hx1 hl))) ?_
  refine rq 6 23 (v:=pt (aD b2) 0) rfl hQ0 (fun w' hw'=>(yd (aD b2) 0 0 K13 K8 rfl (hf.g 3 1)))<|rq 7 24 rfl hQ0 (fun w' hw'=>(yl (aD b2) 0 V0 (.slice B2 r_1.Rows.length c2) K9 (ST.cf hw' (i:=1) rfl)))<|rq 8 25 (v:=pt (aD b3) 1) rfl hQ0 (fun w' hw'=>(yd (aD b3) 0 0 K29 K0))<|rq 9 26 rfl hQ0 (fun w' hw'=>(yl (aD b3) 1 V1 (vi x.A) K1 (ST.cf hw' (i:=3) rfl)))<|rq 10 27 (v:=pt B2 (x.A.toNat*1)) rfl hQ0 (fun w' hw'=>(yI B2 x.A K2 K0 (gi_isSome encI_len rfl (hS10.c 2) hx2) (getI_nn hx2) (getI_ltI hx2 hl))) ?_
  refine ra_now 5 22 [12,13,14] rfl hQ0 (yl B2 (x.B.toNat*1) (Rows.flatMap encI) (vi x1) K1 (hS10.c 2) rfl rfl (gi_at0 encI_len hx1 rfl))<|r1 28 11 rfl (yl B2 (x.A.toNat*1) (Rows.flatMap encI) (vi x2) K1 (hS10.c 2) rfl rfl (gi_at0 encI_len hx2 rfl)) hQ0<|rq 12 29 (v:=vi (bits .xor .i64 x1 x2)) rfl hQ0 (fun w' hw'=>(Y_bxor (k:=.i64) (a:=x1) (b:=x2) rfl rfl rfl))<|rq 13 30 (v:=pt B2 (x.B.toNat*1)) rfl hQ0 (fun w' hw'=>(yI B2 x.B K2 K0 (gi_isSome encI_len rfl (hS10.c 2) hx1) (getI_nn hx1) (getI_ltI hx1 hl))) ?_
  refine rA [14] ?_
  refine rZ 14 rfl (yS 2 1 B2 3 (vi (bits .xor .i64 x1 x2)) [vi (bits .xor .i64 x1 x2)] (x.B.toNat*1) ((Rows.set x.B.toNat (bits .xor .i64 x1 x2)).flatMap encI) hS10 K0 rfl rfl rfl rfl rfl rfl rfl (gi_fit0 encI_len hx1) (gi_set encI_len hx1 (bits .xor .i64 x1 x2) rfl)) ?_ aN
  rintro _ w_8 ⟨rfl,hS11⟩
  refine ⟨(hS11.se [0,1,3,4]),?_⟩
  refine ra_done (by kernel_rfl) ?_
  refine cr ?_
  refine sQ 31 (yP (i:Int) 1 rfl (hf.g 13 4))<|sQ 13 (ym (vi (i64.wrap ((i:Int)+1)))) (rn ?_)
  obtain rfl:=sI hb
  exact ⟨K5,Nat.lt_succ_self _,i+1,(Rows.set x.B.toNat (bits .xor .i64 x1 x2)),(hf.a 2 0 (hf.a 3 1 (hf.a 11 2 (hf.a 12 3 (fc (congrArg (Value.int .i64) (wr_succ hlt1 hN)) fn_))))),(set_len _ _ _ hl),(hS11.sel [0,1,2,3] rfl rfl),(by omega),hL1⟩
 ·skip
  obtain rfl:k_=0:=by have h:=of_decide_eq_false hlt; omega
  refine cw_exit rfl ?_
  obtain rfl:=sI hL
  refine cq (cr ?_)
  refine sQ 32 (yb (aD b2) 0 V0 K16 K6 (hS7.c 1) rfl (hf.g 3 1)) ?_
  refine s0 (yT 0 1 (aD b1) 26 (.agg V0.toArray) V0 0 hS7 K6 rfl (hf.g 2 0)) ?_
  rintro _ w_9 ⟨rfl,hS12⟩
  refine rn (ct_ ?_)
  obtain rfl:=sI hF1
  exact ret1 Tryz.results22 (v1:=.agg V0.toArray) (resAt_cellA (B:=aD b1) (i:=0) (cs:=V0) (vs:=V0) (hf.g 2 0) K16 K6 (hS12.c 0) rfl rfl) ⟨B2,c2,(by simp +zetaDelta [hl]),(hS12.sN [2])⟩

theorem Lt (s:List Ab) (B:Option Addr) (c n:Nat) (w0:World) (hn:s.length=n) (hS:ST w0 [] w0 [] [⟨B,(s.flatMap eN1)⟩]) {r_:List Ab} (hF:F0 s=some r_) :
  CV Tryz.prog 66 #[.slice B n c] w0 (fun v w'=>∃ (B1:Option Addr) (c1:Nat),v=.slice B1 r_.length c1∧ST w0 [] w' [⟨B1,64,(r_.flatMap eN1),c1*2⟩] []):=by
 subst hn
 unfold F0 at hF
 refine cv_of_cw 8 Tryz.func66 rfl Tryz.ntmps66 rfl ?_
 refine cq (cr ?_)
 refine sQ 2 (yg (.slice none 0 0)) (rn (cq (cq (cr ?_))))
 refine sQ 3 (ym (.slice B s.length c))<|sQ 4 (Y_nileql (B:=B) (m:=s.length) (c:=c) K14 rfl rfl rfl) (rn ?_)
 refine cw_cond (b:=B.isNone) rfl (fun hb=>?_) (fun hb=>?_)
 ·skip
  have hl:s=[]:=nil_cont eN3 (hS.rf (i:=0) rfl) rfl hb
  rw [hl] at hF
  have hF1:(some ([]))=some r_:=by simpa [chk] using hF
  subst hl
  refine cq (cr ?_)
  refine sQ 2 (yg (.slice none 0 0)) (rn (ct_ ?_))
  have hS1:=hS.addNil 64
  obtain rfl:=sI hF1
  exact ret1 Tryz.results66 (v1:=.slice none 0 0) (resAt_tmp rfl) ⟨none,0,rfl,(hS1.sN [0])⟩
 ·skip
  refine cw_skip (cq (cr ?_))
  refine sS 5 (Ys_bslice0 (s:=2) (e:=64) hS K14 K15 rfl) ?_
  rintro _ w_ ⟨b,rfl,hS2⟩
  refine sQ 6 (ym (.slice B s.length c)) ?_
  obtain ⟨hap,hF⟩:=chk_inv hF
  refine sS 7 (Ys_append (s:=2) (by':=16) (i:=0) (nn:=0) (c:=0) (k:=s.length) (len:=s.length) (B:=aD b) (xs:=(s.flatMap eN1)) (cs':=(s.flatMap eN1)) hS2 K14 K15 K67 K37 rfl (by decide) rfl rfl rfl rfl (fm_lenn (l:=[]) eN3 rfl) rfl (hS2.rf (i:=0) rfl) (fm_lenn (l:=s) eN3 rfl) (fm_one' (enc:=eN1) BN s) (by have:=hap; omega) (by have:=hap; simp only [maxLen]; omega) rfl (app_len0 (l:=s) rfl)) ?_
  rintro _ w_1 ⟨B2,c2,rfl,hS3⟩
  refine sQ 2 (yg (.slice B2 s.length c2)) (rn (ct_ ?_))
  obtain rfl:=sI hF
  exact ret1 Tryz.results66 (v1:=.slice B2 s.length c2) (resAt_tmp rfl) ⟨B2,c2,rfl,(hS3.sN [0])⟩

theorem NG (s:List Ab) (f_:Ab→Option (Bool)) (B:Option Addr) (c n:Nat) (kf:Nat) (caps:Array Value) (Rf:List Ro) (w0:World) (hn:s.length=n) (hk:callB Tryz.prog kf=true) (hp:∀ (w:World),ST w [] w [] Rf→∀ (x:Ab) (y:Bool),f_ x=some y→CV Tryz.prog kf ((.agg #[vi x.Mask,vi x.Coef])::caps.toList).toArray w (fun v w'=>v=.bool y∧ST w [] w' [] [])) (hS:ST w0 [] w0 [] (⟨B,(s.flatMap eN1)⟩::Rf)) {r_:Int} (hF:CP s f_=some r_) :
  CV Tryz.prog 68 #[.slice B n c,.func (.func kf) #[] caps] w0 (fun v w'=>v=vi r_∧ST w0 [] w' [] []):=by
 subst hn
 unfold CP at hF
 refine cv_of_cw 19 Tryz.func68 rfl Tryz.ntmps68 rfl ?_
 refine cq (cr ?_)
 refine sQ 4 (yg (vi 0)) (rn (cq (cq (cr ?_))))
 refine sQ 6 (ym (.slice B s.length c))<|sQ 7 (Y_len (B:=B) (m:=s.length) (c:=c) K14 rfl rfl)<|sQ 8 (ym (vi 0)) (rn ?_)
 obtain ⟨hN,hF⟩:=chk_inv hF
 obtain ⟨z,hz,hF1⟩:=bI hF
 refine cw_block ?_
 refine cw_loop (fun k f w=>∃ (i:Nat),FF f [(0,.slice B s.length c),(1,.func (.func kf) #[] caps),(7,vi (s.length:Int)),(8,vi (i:Int))]∧ST w0 [] w [] (⟨B,(s.flatMap eN1)⟩::Rf)∧i+k=s.length∧forX (Fl s f_) k i ()=some z) s.length ⟨0,(fc rfl (fc rfl (fc rfl (fc rfl fn_)))),(hS.sel [] rfl rfl),Nat.zero_add _,hz⟩ ?_
 rintro k_ f w ⟨i,hf,hS1,hik,hL⟩
 refine cq (cr ?_)
 refine sQ 9 (yL (i:Int) (s.length:Int) rfl (hf.g 8 3) (hf.g 7 2)) (rn (cq ?_))
 refine cw_cond (b:=(decide ((i:Int)<(s.length:Int)))) rfl (fun hlt=>?_) (fun hlt=>?_)
 ·skip
  have hlt1:i<s.length:=by have h:=of_decide_eq_true hlt; omega
  obtain ⟨K5,rfl⟩:∃ k2,k_=k2+1:=⟨k_-1,by omega⟩
  obtain ⟨y1,hb,hL1⟩:=forX_go hL
  unfold Fl at hb
  refine cw_skip (cq (cw_block (cq (cr ?_))))
  refine sQ 10 (ym (vi (i:Int)) rfl (hf.g 8 3))<|sQ 5 (yg (vi (i:Int))) (rn (cq (cr ?_)))
  refine sQ 11 (ym (.func (.func kf) #[] caps) rfl (hf.g 1 1))<|sQ 12 (ym (.slice B s.length c) rfl (hf.g 0 0))<|sQ 13 (ym (vi (i:Int))) ?_
  obtain ⟨x1,hx,hb⟩:=bI hb
  refine sQ 14 (yI B (i:Int) K14 K15 (gi_isSome eN3 rfl (hS1.rf (i:=0) rfl) hx) (getI_nn hx) (getI_ltI hx rfl))<|sQ 15 (ya B ((i:Int).toNat*2) (s.flatMap eN1) [vi x1.Mask,vi x1.Coef] K51 K15 (hS1.rf (i:=0) rfl) rfl rfl (eN3 x1) (gi_seg eN3 hx)) ?_
  obtain ⟨r_1,hc,hb⟩:=bI hb
  refine sc 16 rfl rfl (Yc_clos (g:=kf) (vs:=(.agg #[vi x1.Mask,vi x1.Coef])::caps.toList) hk rfl rfl (clo_args (mc rfl mn)) (hp _ (hS1.innS (fun _ h=>mOd (i:=1) h)) x1 r_1 hc)) ?_
  rintro _ w_ ⟨rfl,hd⟩
  have hS2:=hS1.out00 hd
  refine rn ?_
  refine cw_cond (b:=r_1) rfl (fun hb1=>?_) (fun hb1=>?_)
  ·skip
   have hF2:=ct hb hb1
   refine cq (cr ?_)
   refine sQ 17 (ym (vi (i:Int)))<|sQ 4 (yg (vi (i:Int))) (rn (ct_ ?_))
   obtain rfl:=sI hF2
   obtain rfl:=sI hL1
   obtain rfl:=sI hF1
   exact ret1 Tryz.results68 (v1:=vi (i:Int)) (resAt_tmp rfl) ⟨rfl,(hS2.sN [])⟩
  ·skip
   have hF3:=cf' hb hb1
   refine cw_skip (cr ?_)
   refine sQ 18 (yP (i:Int) 1 rfl (hf.g 8 3))<|sQ 8 (ym (vi (i64.wrap ((i:Int)+1)))) (rn ?_)
   obtain rfl:=sI hF3
   exact ⟨K5,Nat.lt_succ_self _,i+1,(hf.a 0 0 (hf.a 1 1 (hf.a 7 2 (fc (congrArg (Value.int .i64) (wr_succ hlt1 hN)) fn_)))),(hS2.sel [] rfl rfl),(by omega),hL1⟩
 ·skip
  obtain rfl:k_=0:=by have h:=of_decide_eq_false hlt; omega
  refine cw_exit rfl ?_
  obtain rfl:=sI hL
  refine cq (cr ?_)
  refine sQ 4 (yg (vi (-1))) (rn (ct_ ?_))
  obtain rfl:=sI hF1
  exact ret1 Tryz.results68 (v1:=vi (-1)) (resAt_tmp rfl) ⟨rfl,(hS1.sN [])⟩

theorem OO (t:Ab) (p:List Int) (p1:Int) (B:Option Addr) (B1:Option Addr) (c n:Nat) (B2:Option Addr) (w0:World) (hn:p.length=n) (hS:ST w0 [] w0 [] [⟨B,[.slice B1 n c]⟩,⟨B1,(p.flatMap encI)⟩,⟨B2,[vi p1]⟩]) {r_:Bool} (hF:C6 t p p1=some r_) :
  CV Tryz.prog 69 #[.agg #[vi t.Mask,vi t.Coef],pt B 0,pt B2 0] w0 (fun v w'=>v=.bool r_∧ST w0 [] w' [] []):=by
 subst hn
 unfold C6 at hF
 refine cv_of_cw 12 Tryz.func69 rfl Tryz.ntmps69 rfl ?_
 refine cq (cr ?_)
 refine sS 3 (yB 64 (.agg #[vi t.Mask,vi t.Coef]) [vi t.Mask,vi t.Coef] 2 hS) ?_
 rintro _ w_ ⟨b,rfl,hS1⟩
 refine sQ 4 (yg (.bool false)) (rn (cq ?_))
 obtain ⟨x,hx,hF⟩:=bI hF
 refine ra_start (hS1.se [0]).fn (by kernel_rfl) ?_
 have hS2:=hS1.drew
 have hQ0:=hS2.se [0]
 refine rq 0 5 (v:=pt (aD b) 0) rfl hQ0 (fun w' hw'=>(yd (aD b) 0 0 K49 K0))<|rq 1 6 rfl hQ0 (fun w' hw'=>(yl (aD b) 0 [vi t.Mask,vi t.Coef] (vi t.Mask) K1 (ST.cf hw' (i:=0) rfl)))<|rq 2 7 rfl hQ0 (fun w' hw'=>(yl B 0 [.slice B1 p.length c] (.slice B1 p.length c) K9 (ST.rf hw' (i:=0) rfl)))<|rq 3 8 rfl hQ0 (fun w' hw'=>(yl B2 0 [vi p1] (vi p1) K1 (ST.rf hw' (i:=2) rfl)))<|rq 4 9 (v:=pt B1 (p1.toNat*1)) rfl hQ0 (fun w' hw'=>(yI B1 p1 K2 K0 (gi_isSome encI_len rfl (ST.rf hw' (i:=1) rfl) hx) (getI_nn hx) (getI_ltI hx rfl))) ?_
 refine rq 5 10 rfl hQ0 (fun w' hw'=>(yl B1 (p1.toNat*1) (p.flatMap encI) (vi x) K1 (ST.rf hw' (i:=1) rfl) rfl rfl (gi_at0 encI_len hx rfl)))<|rq 6 11 rfl hQ0 (fun w' hw'=>(yE t.Mask x))<|rq 7 4 rfl hQ0 (fun w' hw'=>(yg (.bool (t.Mask==x)))) ?_
 refine ra_done (by kernel_rfl) ?_
 refine ct_ ?_
 obtain rfl:=sI hF
 exact ret1 Tryz.results69 (v1:=.bool (t.Mask==x)) (resAt_tmp rfl) ⟨rfl,(hS2.sN [])⟩

theorem Ku (q:Int) (coef:Int)  (w0:World)  (hS:ST w0 [] w0 [] []) {r_:List Aa} (hF:Dg q coef=some r_) :
  CV Tryz.prog 70 #[vi q,vi coef] w0 (fun v w'=>∃ (B:Option Addr) (c:Nat),v=.slice B r_.length c∧ST w0 [] w' [⟨B,59,(r_.flatMap eN0),c*3⟩] []):=by
 unfold Dg at hF
 refine cv_of_cw 34 Tryz.func70 rfl Tryz.ntmps70 rfl ?_
 refine cq (cr ?_)
 refine sQ 4 (yg (.slice none 0 0)) (rn (cq (cr ?_)))
 refine sS 9 (Ys_bslice (s:=1) (len:=1) (vs:=[(0,vi 7)]) (cs:=[vi 7]) (zs:=[vi 0]) (m:=1) hS K2 K0 K24 rfl (mpc rfl mpn) rfl rfl rfl (by kernel_rfl) (by kernel_rfl) rfl) ?_
 rintro _ w_ ⟨b,rfl,hS1⟩
 refine sS 10 (Ys_bslice (s:=1) (len:=1) (vs:=[(0,vi 5)]) (cs:=[vi 5]) (zs:=[vi 0]) (m:=1) hS1 K2 K0 K24 rfl (mpc rfl mpn) rfl rfl rfl (by kernel_rfl) (by kernel_rfl) rfl) ?_
 rintro _ w_1 ⟨b1,rfl,hS2⟩
 refine sS 11 (Ys_bslice (s:=1) (len:=2) (vs:=[(0,vi 5),(1,vi 7)]) (cs:=[vi 5,vi 7]) (zs:=[vi 0,vi 0]) (m:=2) hS2 K2 K0 K24 rfl (mpc rfl (mpc rfl mpn)) rfl rfl rfl (by kernel_rfl) (by kernel_rfl) rfl) ?_
 rintro _ w_2 ⟨b2,rfl,hS3⟩
 refine sS 12 (Ys_bslice (s:=1) (len:=1) (vs:=[(0,vi 4)]) (cs:=[vi 4]) (zs:=[vi 0]) (m:=1) hS3 K2 K0 K24 rfl (mpc rfl mpn) rfl rfl rfl (by kernel_rfl) (by kernel_rfl) rfl) ?_
 rintro _ w_3 ⟨b3,rfl,hS4⟩
 refine sS 13 (Ys_bslice (s:=1) (len:=2) (vs:=[(0,vi 4),(1,vi 7)]) (cs:=[vi 4,vi 7]) (zs:=[vi 0,vi 0]) (m:=2) hS4 K2 K0 K24 rfl (mpc rfl (mpc rfl mpn)) rfl rfl rfl (by kernel_rfl) (by kernel_rfl) rfl) ?_
 rintro _ w_4 ⟨b4,rfl,hS5⟩
 refine sS 14 (Ys_bslice (s:=1) (len:=1) (vs:=[(0,vi 6)]) (cs:=[vi 6]) (zs:=[vi 0]) (m:=1) hS5 K2 K0 K24 rfl (mpc rfl mpn) rfl rfl rfl (by kernel_rfl) (by kernel_rfl) rfl) ?_
 rintro _ w_5 ⟨b5,rfl,hS6⟩
 refine sS 15 (Ys_bslice (s:=1) (len:=1) (vs:=[(0,vi 8)]) (cs:=[vi 8]) (zs:=[vi 0]) (m:=1) hS6 K2 K0 K24 rfl (mpc rfl mpn) rfl rfl rfl (by kernel_rfl) (by kernel_rfl) rfl) ?_
 rintro _ w_6 ⟨b6,rfl,hS7⟩
 let V0:List Value:=[.slice none 0 0,.slice (aD b) 1 1,.slice (aD b1) 1 1,.slice (aD b2) 2 2,.slice (aD b3) 1 1,.slice (aD b4) 2 2,.slice (aD b5) 1 1,.slice (aD b6) 1 1]
 let V1:List Value:=[.slice none 0 0,.slice none 0 0,.slice none 0 0,.slice none 0 0,.slice none 0 0,.slice none 0 0,.slice none 0 0,.slice none 0 0]
 refine sQ 16 (Y_buildA (zs:=V1) (vs:=[(0,.slice none 0 0),(1,.slice (aD b) 1 1),(2,.slice (aD b1) 1 1),(3,.slice (aD b2) 2 2),(4,.slice (aD b3) 1 1),(5,.slice (aD b4) 2 2),(6,.slice (aD b5) 1 1),(7,.slice (aD b6) 1 1)]) (cs:=V0) K64 K8 JU rfl (mpc rfl (mpc rfl (mpc rfl (mpc rfl (mpc rfl (mpc rfl (mpc rfl (mpc rfl mpn)))))))) (by kernel_rfl)) ?_
 refine sS 5 (yN V1 8 hS7 JU) ?_
 rintro _ w_7 ⟨b7,rfl,hS8⟩
 refine s0 (yT 7 8 (aD b7) 136 (.agg V0.toArray) V0 0 hS8 KY) ?_
 rintro _ w_8 ⟨rfl,hS9⟩
 refine rn (cq (cr ?_))
 refine sS 17 (Ys_bslice0 (s:=3) (e:=59) hS9 K4 K3 rfl) ?_
 rintro _ w_9 ⟨b8,rfl,hS10⟩
 refine sQ 6 (yg (.slice (aD b8) 0 0)) (rn (cq (cq (cr ?_))))
 refine sQ 18 (ym (vi coef)) ?_
 refine rw_split (B:=(coef==0)) (fun hb=>?_) (fun hb=>?_)
 ·skip
  have hF1:=ct hF hb
  have hS11:=hS10.addNil 3
  refine sQ 19 (Y_indexArrC (c:=0) (B:=aD b7) (k:=.i64) (i:=coef) K64 K8 rfl rfl rfl (idx_is hb) (by decide))<|sQ 20 (yl (aD b7) 0 V0 (.slice none 0 0) K9 (hS11.c 7))<|sQ 21 (Y_len (B:=none) (m:=0) (c:=0) K2 rfl rfl)<|sQ 22 (ym (vi 0)) (rn ?_)
  obtain ⟨z,hz,hF2⟩:=bI hF1
  refine cw_block ?_
  refine cw_loop (fun k f w=>∃ (i:Nat) (out:List Aa) (B1:Option Addr) (c1:Nat),FF f [(0,vi q),(6,.slice B1 out.length c1),(20,.slice none 0 0),(21,vi 0),(22,vi (i:Int))]∧ST w0 [] w [⟨B1,59,(out.flatMap eN0),c1*3⟩,⟨none,3,([].flatMap encI),0*1⟩] []∧i+k=0∧forN (Gw q) k i out=some z) 0 ⟨0,[],aD b8,0,(fc rfl (fc rfl (fc rfl (fc rfl (fc rfl fn_))))),(hS11.sel [8,9] rfl rfl),Nat.zero_add _,hz⟩ ?_
  rintro k_ f w ⟨i,out,B1,c1,hf,hS12,hik,hL⟩
  refine cq (cr ?_)
  refine sQ 23 (yL (i:Int) 0 rfl (hf.g 22 4) (hf.g 21 3)) (rn (cq ?_))
  refine cw_cond (b:=(decide ((i:Int)<0))) rfl (fun hlt=>?_) (fun hlt=>?_)
  ·skip
   have hlt1:i<0:=by have h:=of_decide_eq_true hlt; omega
   obtain ⟨K5,rfl⟩:∃ k2,k_=k2+1:=⟨k_-1,by omega⟩
   obtain ⟨y,hb1,hL1⟩:=forN_go hL
   unfold Gw at hb1
   refine cw_skip (cq (cw_block (cq (cr ?_))))
   obtain ⟨x,hx,hb1⟩:=bI hb1
   refine sQ 24 (yI none (i:Int) K2 K0 (gi_isSome encI_len rfl (hS12.c 1) hx) (getI_nn hx) (getI_ltI hx rfl) rfl (hf.g 20 2) (hf.g 22 4))<|sQ 25 (yl none ((i:Int).toNat*1) ([].flatMap encI) (vi x) K1 (hS12.c 1) rfl rfl (gi_at0 encI_len hx rfl))<|sQ 8 (yg (vi x)) (rn (cr ?_))
   refine sQ 26 (ym (.slice B1 out.length c1) rfl (hf.g 6 1))<|sQ 27 (ym (vi x))<|sQ 28 (ym (vi q) rfl (hf.g 0 0))<|sQ 29 (Y_buildS (zs:=[vi 0,vi 0,vi 0]) (vs:=[(0,vi x),(1,vi q)]) (cs:=[vi x,vi q,vi 0]) K33 K10 rfl (mpc rfl (mpc rfl mpn)) rfl) ?_
   refine sS 30 (Ys_bslice (s:=3) (len:=1) (vs:=[(0,.agg #[vi x,vi q,vi 0])]) (cs:=[vi x,vi q,vi 0]) (zs:=[vi 0,vi 0,vi 0]) (m:=3) hS12 K4 K3 K26 rfl (mpc rfl mpn) rfl rfl rfl (by kernel_rfl) (by kernel_rfl) rfl) ?_
   rintro _ w_10 ⟨b9,rfl,hS13⟩
   obtain ⟨hap,hb1⟩:=chk_inv hb1
   refine sS 31 (Ys_append (s:=3) (by':=24) (i:=0) (nn:=out.length) (c:=c1) (k:=1) (len:=(out++[(Aa.mk x q 0)]).length) (B:=B1) (xs:=([(Aa.mk x q 0)].flatMap eN0)) (cs':=((out++[(Aa.mk x q 0)]).flatMap eN0)) hS13 K4 K3 K23 K10 rfl (by decide) rfl rfl rfl rfl (fm_lenn (l:=out) eN2 rfl) rfl (hS13.c 2) (fm_lenn (l:=[(Aa.mk x q 0)]) eN2 rfl) (fm_one' (enc:=eN0) Al [(Aa.mk x q 0)]) (by have:=hap; omega) (by have:=hap; simp only [maxLen]; omega) (fm_app _ _) (app_len (l:=out) (l':=[(Aa.mk x q 0)]) rfl rfl)) ?_
   rintro _ w_11 ⟨B2,c2,rfl,hS14⟩
   refine sQ 6 (yg (.slice B2 ((out++[(Aa.mk x q 0)]).length) c2)) (rn (cr ?_))
   refine sQ 32 (yP (i:Int) 1 rfl (hf.g 22 4))<|sQ 22 (ym (vi (i64.wrap ((i:Int)+1)))) (rn ?_)
   obtain rfl:=sI hb1
   exact ⟨K5,Nat.lt_succ_self _,i+1,(out++[(Aa.mk x q 0)]),B2,c2,(hf.a 0 0 (fc rfl (hf.a 20 2 (hf.a 21 3 (fc (congrArg (Value.int .i64) (wr_succ hlt1 (show 0≤9223372036854775807 by decide))) fn_))))),(hS14.sel [0,1] rfl rfl),(by omega),hL1⟩
  ·skip
   obtain rfl:k_=0:=by have h:=of_decide_eq_false hlt; omega
   refine cw_exit rfl ?_
   obtain rfl:=sI hL
   refine cq (cr ?_)
   refine sQ 33 (ym (.slice B1 out.length c1) rfl (hf.g 6 1))<|sQ 4 (yg (.slice B1 out.length c1)) (rn (ct_ ?_))
   obtain rfl:=sI hF2
   exact ret1 Tryz.results70 (v1:=.slice B1 out.length c1) (resAt_tmp rfl) ⟨B1,c1,rfl,(hS12.sN [0])⟩
 ·skip
  have hF3:=cf' hF hb
  refine rw_split (B:=(coef==1)) (fun hb2=>?_) (fun hb2=>?_)
  ·skip
   have hF4:=ct hF3 hb2
   refine sQ 19 (Y_indexArrC (c:=1) (B:=aD b7) (k:=.i64) (i:=coef) K64 K8 rfl rfl rfl (idx_is hb2) (by decide))<|sQ 20 (yl (aD b7) 1 V0 (.slice (aD b) 1 1) K9 (hS10.c 7))<|sQ 21 (Y_len (B:=aD b) (m:=1) (c:=1) K2 rfl rfl)<|sQ 22 (ym (vi 0)) (rn ?_)
   obtain ⟨z1,hz1,hF5⟩:=bI hF4
   refine cw_block ?_
   refine cw_loop (fun k f w=>∃ (i1:Nat) (out1:List Aa) (B3:Option Addr) (c3:Nat),FF f [(0,vi q),(6,.slice B3 out1.length c3),(20,.slice (aD b) 1 1),(21,vi 1),(22,vi (i1:Int))]∧ST w0 [] w [⟨B3,59,(out1.flatMap eN0),c3*3⟩,⟨aD b,3,([7].flatMap encI),1*1⟩] []∧i1+k=1∧forN (GC q) k i1 out1=some z1) 1 ⟨0,[],aD b8,0,(fc rfl (fc rfl (fc rfl (fc rfl (fc rfl fn_))))),(hS10.sel [8,0] rfl rfl),Nat.zero_add _,hz1⟩ ?_
   rintro K19 f w ⟨i1,out1,B3,c3,hf1,hS15,hik1,hL2⟩
   refine cq (cr ?_)
   refine sQ 23 (yL (i1:Int) 1 rfl (hf1.g 22 4) (hf1.g 21 3)) (rn (cq ?_))
   refine cw_cond (b:=(decide ((i1:Int)<1))) rfl (fun hlt2=>?_) (fun hlt2=>?_)
   ·skip
    have hlt3:i1<1:=by have h:=of_decide_eq_true hlt2; omega
    obtain ⟨K32,rfl⟩:∃ k2,K19=k2+1:=⟨K19-1,by omega⟩
    obtain ⟨y1,hb3,hL3⟩:=forN_go hL2
    unfold GC at hb3
    refine cw_skip (cq (cw_block (cq (cr ?_))))
    obtain ⟨x1,hx1,hb3⟩:=bI hb3
    refine sQ 24 (yI (aD b) (i1:Int) K2 K0 (gi_isSome encI_len rfl (hS15.c 1) hx1) (getI_nn hx1) (getI_ltI hx1 rfl) rfl (hf1.g 20 2) (hf1.g 22 4))<|sQ 25 (yl (aD b) ((i1:Int).toNat*1) ([7].flatMap encI) (vi x1) K1 (hS15.c 1) rfl rfl (gi_at0 encI_len hx1 rfl))<|sQ 8 (yg (vi x1)) (rn (cr ?_))
    refine sQ 26 (ym (.slice B3 out1.length c3) rfl (hf1.g 6 1))<|sQ 27 (ym (vi x1))<|sQ 28 (ym (vi q) rfl (hf1.g 0 0))<|sQ 29 (Y_buildS (zs:=[vi 0,vi 0,vi 0]) (vs:=[(0,vi x1),(1,vi q)]) (cs:=[vi x1,vi q,vi 0]) K33 K10 rfl (mpc rfl (mpc rfl mpn)) rfl) ?_
    refine sS 30 (Ys_bslice (s:=3) (len:=1) (vs:=[(0,.agg #[vi x1,vi q,vi 0])]) (cs:=[vi x1,vi q,vi 0]) (zs:=[vi 0,vi 0,vi 0]) (m:=3) hS15 K4 K3 K26 rfl (mpc rfl mpn) rfl rfl rfl (by kernel_rfl) (by kernel_rfl) rfl) ?_
    rintro _ w_12 ⟨b10,rfl,hS16⟩
    obtain ⟨hap1,hb3⟩:=chk_inv hb3
    refine sS 31 (Ys_append (s:=3) (by':=24) (i:=0) (nn:=out1.length) (c:=c3) (k:=1) (len:=(out1++[(Aa.mk x1 q 0)]).length) (B:=B3) (xs:=([(Aa.mk x1 q 0)].flatMap eN0)) (cs':=((out1++[(Aa.mk x1 q 0)]).flatMap eN0)) hS16 K4 K3 K23 K10 rfl (by decide) rfl rfl rfl rfl (fm_lenn (l:=out1) eN2 rfl) rfl (hS16.c 2) (fm_lenn (l:=[(Aa.mk x1 q 0)]) eN2 rfl) (fm_one' (enc:=eN0) Al [(Aa.mk x1 q 0)]) (by have:=hap1; omega) (by have:=hap1; simp only [maxLen]; omega) (fm_app _ _) (app_len (l:=out1) (l':=[(Aa.mk x1 q 0)]) rfl rfl)) ?_
    rintro _ w_13 ⟨B4,c4,rfl,hS17⟩
    refine sQ 6 (yg (.slice B4 ((out1++[(Aa.mk x1 q 0)]).length) c4)) (rn (cr ?_))
    refine sQ 32 (yP (i1:Int) 1 rfl (hf1.g 22 4))<|sQ 22 (ym (vi (i64.wrap ((i1:Int)+1)))) (rn ?_)
    obtain rfl:=sI hb3
    exact ⟨K32,Nat.lt_succ_self _,i1+1,(out1++[(Aa.mk x1 q 0)]),B4,c4,(hf1.a 0 0 (fc rfl (hf1.a 20 2 (hf1.a 21 3 (fc (congrArg (Value.int .i64) (wr_succ hlt3 (show 1≤9223372036854775807 by decide))) fn_))))),(hS17.sel [0,1] rfl rfl),(by omega),hL3⟩
   ·skip
    obtain rfl:K19=0:=by have h:=of_decide_eq_false hlt2; omega
    refine cw_exit rfl ?_
    obtain rfl:=sI hL2
    refine cq (cr ?_)
    refine sQ 33 (ym (.slice B3 out1.length c3) rfl (hf1.g 6 1))<|sQ 4 (yg (.slice B3 out1.length c3)) (rn (ct_ ?_))
    obtain rfl:=sI hF5
    exact ret1 Tryz.results70 (v1:=.slice B3 out1.length c3) (resAt_tmp rfl) ⟨B3,c3,rfl,(hS15.sN [0])⟩
  ·skip
   have hF6:=cf' hF3 hb2
   refine rw_split (B:=(coef==2)) (fun hb4=>?_) (fun hb4=>?_)
   ·skip
    have hF7:=ct hF6 hb4
    refine sQ 19 (Y_indexArrC (c:=2) (B:=aD b7) (k:=.i64) (i:=coef) K64 K8 rfl rfl rfl (idx_is hb4) (by decide))<|sQ 20 (yl (aD b7) 2 V0 (.slice (aD b1) 1 1) K9 (hS10.c 7))<|sQ 21 (Y_len (B:=aD b1) (m:=1) (c:=1) K2 rfl rfl)<|sQ 22 (ym (vi 0)) (rn ?_)
    obtain ⟨z2,hz2,hF8⟩:=bI hF7
    refine cw_block ?_
    refine cw_loop (fun k f w=>∃ (i2:Nat) (out2:List Aa) (B5:Option Addr) (c5:Nat),FF f [(0,vi q),(6,.slice B5 out2.length c5),(20,.slice (aD b1) 1 1),(21,vi 1),(22,vi (i2:Int))]∧ST w0 [] w [⟨B5,59,(out2.flatMap eN0),c5*3⟩,⟨aD b1,3,([5].flatMap encI),1*1⟩] []∧i2+k=1∧forN (GR q) k i2 out2=some z2) 1 ⟨0,[],aD b8,0,(fc rfl (fc rfl (fc rfl (fc rfl (fc rfl fn_))))),(hS10.sel [8,1] rfl rfl),Nat.zero_add _,hz2⟩ ?_
    rintro K38 f w ⟨i2,out2,B5,c5,hf2,hS18,hik2,hL4⟩
    refine cq (cr ?_)
    refine sQ 23 (yL (i2:Int) 1 rfl (hf2.g 22 4) (hf2.g 21 3)) (rn (cq ?_))
    refine cw_cond (b:=(decide ((i2:Int)<1))) rfl (fun hlt4=>?_) (fun hlt4=>?_)
    ·skip
     have hlt5:i2<1:=by have h:=of_decide_eq_true hlt4; omega
     obtain ⟨K53,rfl⟩:∃ k2,K38=k2+1:=⟨K38-1,by omega⟩
     obtain ⟨y2,hb5,hL5⟩:=forN_go hL4
     unfold GR at hb5
     refine cw_skip (cq (cw_block (cq (cr ?_))))
     obtain ⟨x2,hx2,hb5⟩:=bI hb5
     refine sQ 24 (yI (aD b1) (i2:Int) K2 K0 (gi_isSome encI_len rfl (hS18.c 1) hx2) (getI_nn hx2) (getI_ltI hx2 rfl) rfl (hf2.g 20 2) (hf2.g 22 4))<|sQ 25 (yl (aD b1) ((i2:Int).toNat*1) ([5].flatMap encI) (vi x2) K1 (hS18.c 1) rfl rfl (gi_at0 encI_len hx2 rfl))<|sQ 8 (yg (vi x2)) (rn (cr ?_))
     refine sQ 26 (ym (.slice B5 out2.length c5) rfl (hf2.g 6 1))<|sQ 27 (ym (vi x2))<|sQ 28 (ym (vi q) rfl (hf2.g 0 0))<|sQ 29 (Y_buildS (zs:=[vi 0,vi 0,vi 0]) (vs:=[(0,vi x2),(1,vi q)]) (cs:=[vi x2,vi q,vi 0]) K33 K10 rfl (mpc rfl (mpc rfl mpn)) rfl) ?_
     refine sS 30 (Ys_bslice (s:=3) (len:=1) (vs:=[(0,.agg #[vi x2,vi q,vi 0])]) (cs:=[vi x2,vi q,vi 0]) (zs:=[vi 0,vi 0,vi 0]) (m:=3) hS18 K4 K3 K26 rfl (mpc rfl mpn) rfl rfl rfl (by kernel_rfl) (by kernel_rfl) rfl) ?_
     rintro _ w_14 ⟨b11,rfl,hS19⟩
     obtain ⟨hap2,hb5⟩:=chk_inv hb5
     refine sS 31 (Ys_append (s:=3) (by':=24) (i:=0) (nn:=out2.length) (c:=c5) (k:=1) (len:=(out2++[(Aa.mk x2 q 0)]).length) (B:=B5) (xs:=([(Aa.mk x2 q 0)].flatMap eN0)) (cs':=((out2++[(Aa.mk x2 q 0)]).flatMap eN0)) hS19 K4 K3 K23 K10 rfl (by decide) rfl rfl rfl rfl (fm_lenn (l:=out2) eN2 rfl) rfl (hS19.c 2) (fm_lenn (l:=[(Aa.mk x2 q 0)]) eN2 rfl) (fm_one' (enc:=eN0) Al [(Aa.mk x2 q 0)]) (by have:=hap2; omega) (by have:=hap2; simp only [maxLen]; omega) (fm_app _ _) (app_len (l:=out2) (l':=[(Aa.mk x2 q 0)]) rfl rfl)) ?_
     rintro _ w_15 ⟨B6,c6,rfl,hS20⟩
     refine sQ 6 (yg (.slice B6 ((out2++[(Aa.mk x2 q 0)]).length) c6)) (rn (cr ?_))
     refine sQ 32 (yP (i2:Int) 1 rfl (hf2.g 22 4))<|sQ 22 (ym (vi (i64.wrap ((i2:Int)+1)))) (rn ?_)
     obtain rfl:=sI hb5
     exact ⟨K53,Nat.lt_succ_self _,i2+1,(out2++[(Aa.mk x2 q 0)]),B6,c6,(hf2.a 0 0 (fc rfl (hf2.a 20 2 (hf2.a 21 3 (fc (congrArg (Value.int .i64) (wr_succ hlt5 (show 1≤9223372036854775807 by decide))) fn_))))),(hS20.sel [0,1] rfl rfl),(by omega),hL5⟩
    ·skip
     obtain rfl:K38=0:=by have h:=of_decide_eq_false hlt4; omega
     refine cw_exit rfl ?_
     obtain rfl:=sI hL4
     refine cq (cr ?_)
     refine sQ 33 (ym (.slice B5 out2.length c5) rfl (hf2.g 6 1))<|sQ 4 (yg (.slice B5 out2.length c5)) (rn (ct_ ?_))
     obtain rfl:=sI hF8
     exact ret1 Tryz.results70 (v1:=.slice B5 out2.length c5) (resAt_tmp rfl) ⟨B5,c5,rfl,(hS18.sN [0])⟩
   ·skip
    have hF9:=cf' hF6 hb4
    refine rw_split (B:=(coef==3)) (fun hb6=>?_) (fun hb6=>?_)
    ·skip
     have hF10:=ct hF9 hb6
     refine sQ 19 (Y_indexArrC (c:=3) (B:=aD b7) (k:=.i64) (i:=coef) K64 K8 rfl rfl rfl (idx_is hb6) (by decide))<|sQ 20 (yl (aD b7) 3 V0 (.slice (aD b2) 2 2) K9 (hS10.c 7))<|sQ 21 (Y_len (B:=aD b2) (m:=2) (c:=2) K2 rfl rfl)<|sQ 22 (ym (vi 0)) (rn ?_)
     obtain ⟨z3,hz3,hF11⟩:=bI hF10
     refine cw_block ?_
     refine cw_loop (fun k f w=>∃ (i3:Nat) (out3:List Aa) (B7:Option Addr) (c7:Nat),FF f [(0,vi q),(6,.slice B7 out3.length c7),(20,.slice (aD b2) 2 2),(21,vi 2),(22,vi (i3:Int))]∧ST w0 [] w [⟨B7,59,(out3.flatMap eN0),c7*3⟩,⟨aD b2,3,([5,7].flatMap encI),2*1⟩] []∧i3+k=2∧forN (G7 q) k i3 out3=some z3) 2 ⟨0,[],aD b8,0,(fc rfl (fc rfl (fc rfl (fc rfl (fc rfl fn_))))),(hS10.sel [8,2] rfl rfl),Nat.zero_add _,hz3⟩ ?_
     rintro K60 f w ⟨i3,out3,B7,c7,hf3,hS21,hik3,hL6⟩
     refine cq (cr ?_)
     refine sQ 23 (yL (i3:Int) 2 rfl (hf3.g 22 4) (hf3.g 21 3)) (rn (cq ?_))
     refine cw_cond (b:=(decide ((i3:Int)<2))) rfl (fun hlt6=>?_) (fun hlt6=>?_)
     ·skip
      have hlt7:i3<2:=by have h:=of_decide_eq_true hlt6; omega
      obtain ⟨K92,rfl⟩:∃ k2,K60=k2+1:=⟨K60-1,by omega⟩
      obtain ⟨y3,hb7,hL7⟩:=forN_go hL6
      unfold G7 at hb7
      refine cw_skip (cq (cw_block (cq (cr ?_))))
      obtain ⟨x3,hx3,hb7⟩:=bI hb7
      refine sQ 24 (yI (aD b2) (i3:Int) K2 K0 (gi_isSome encI_len rfl (hS21.c 1) hx3) (getI_nn hx3) (getI_ltI hx3 rfl) rfl (hf3.g 20 2) (hf3.g 22 4))<|sQ 25 (yl (aD b2) ((i3:Int).toNat*1) ([5,7].flatMap encI) (vi x3) K1 (hS21.c 1) rfl rfl (gi_at0 encI_len hx3 rfl))<|sQ 8 (yg (vi x3)) (rn (cr ?_))
      refine sQ 26 (ym (.slice B7 out3.length c7) rfl (hf3.g 6 1))<|sQ 27 (ym (vi x3))<|sQ 28 (ym (vi q) rfl (hf3.g 0 0))<|sQ 29 (Y_buildS (zs:=[vi 0,vi 0,vi 0]) (vs:=[(0,vi x3),(1,vi q)]) (cs:=[vi x3,vi q,vi 0]) K33 K10 rfl (mpc rfl (mpc rfl mpn)) rfl) ?_
      refine sS 30 (Ys_bslice (s:=3) (len:=1) (vs:=[(0,.agg #[vi x3,vi q,vi 0])]) (cs:=[vi x3,vi q,vi 0]) (zs:=[vi 0,vi 0,vi 0]) (m:=3) hS21 K4 K3 K26 rfl (mpc rfl mpn) rfl rfl rfl (by kernel_rfl) (by kernel_rfl) rfl) ?_
      rintro _ w_16 ⟨b12,rfl,hS22⟩
      obtain ⟨hap3,hb7⟩:=chk_inv hb7
      refine sS 31 (Ys_append (s:=3) (by':=24) (i:=0) (nn:=out3.length) (c:=c7) (k:=1) (len:=(out3++[(Aa.mk x3 q 0)]).length) (B:=B7) (xs:=([(Aa.mk x3 q 0)].flatMap eN0)) (cs':=((out3++[(Aa.mk x3 q 0)]).flatMap eN0)) hS22 K4 K3 K23 K10 rfl (by decide) rfl rfl rfl rfl (fm_lenn (l:=out3) eN2 rfl) rfl (hS22.c 2) (fm_lenn (l:=[(Aa.mk x3 q 0)]) eN2 rfl) (fm_one' (enc:=eN0) Al [(Aa.mk x3 q 0)]) (by have:=hap3; omega) (by have:=hap3; simp only [maxLen]; omega) (fm_app _ _) (app_len (l:=out3) (l':=[(Aa.mk x3 q 0)]) rfl rfl)) ?_
      rintro _ w_17 ⟨B8,c8,rfl,hS23⟩
      refine sQ 6 (yg (.slice B8 ((out3++[(Aa.mk x3 q 0)]).length) c8)) (rn (cr ?_))
      refine sQ 32 (yP (i3:Int) 1 rfl (hf3.g 22 4))<|sQ 22 (ym (vi (i64.wrap ((i3:Int)+1)))) (rn ?_)
      obtain rfl:=sI hb7
      exact ⟨K92,Nat.lt_succ_self _,i3+1,(out3++[(Aa.mk x3 q 0)]),B8,c8,(hf3.a 0 0 (fc rfl (hf3.a 20 2 (hf3.a 21 3 (fc (congrArg (Value.int .i64) (wr_succ hlt7 (show 2≤9223372036854775807 by decide))) fn_))))),(hS23.sel [0,1] rfl rfl),(by omega),hL7⟩
     ·skip
      obtain rfl:K60=0:=by have h:=of_decide_eq_false hlt6; omega
      refine cw_exit rfl ?_
      obtain rfl:=sI hL6
      refine cq (cr ?_)
      refine sQ 33 (ym (.slice B7 out3.length c7) rfl (hf3.g 6 1))<|sQ 4 (yg (.slice B7 out3.length c7)) (rn (ct_ ?_))
      obtain rfl:=sI hF11
      exact ret1 Tryz.results70 (v1:=.slice B7 out3.length c7) (resAt_tmp rfl) ⟨B7,c7,rfl,(hS21.sN [0])⟩
    ·skip
     have hF12:=cf' hF9 hb6
     refine rw_split (B:=(coef==4)) (fun hb8=>?_) (fun hb8=>?_)
     ·skip
      have hF13:=ct hF12 hb8
      refine sQ 19 (Y_indexArrC (c:=4) (B:=aD b7) (k:=.i64) (i:=coef) K64 K8 rfl rfl rfl (idx_is hb8) (by decide))<|sQ 20 (yl (aD b7) 4 V0 (.slice (aD b3) 1 1) K9 (hS10.c 7))<|sQ 21 (Y_len (B:=aD b3) (m:=1) (c:=1) K2 rfl rfl)<|sQ 22 (ym (vi 0)) (rn ?_)
      obtain ⟨z4,hz4,hF14⟩:=bI hF13
      refine cw_block ?_
      refine cw_loop (fun k f w=>∃ (i4:Nat) (out4:List Aa) (B9:Option Addr) (c9:Nat),FF f [(0,vi q),(6,.slice B9 out4.length c9),(20,.slice (aD b3) 1 1),(21,vi 1),(22,vi (i4:Int))]∧ST w0 [] w [⟨B9,59,(out4.flatMap eN0),c9*3⟩,⟨aD b3,3,([4].flatMap encI),1*1⟩] []∧i4+k=1∧forN (Hh q) k i4 out4=some z4) 1 ⟨0,[],aD b8,0,(fc rfl (fc rfl (fc rfl (fc rfl (fc rfl fn_))))),(hS10.sel [8,3] rfl rfl),Nat.zero_add _,hz4⟩ ?_
      rintro K93 f w ⟨i4,out4,B9,c9,hf4,hS24,hik4,hL8⟩
      refine cq (cr ?_)
      refine sQ 23 (yL (i4:Int) 1 rfl (hf4.g 22 4) (hf4.g 21 3)) (rn (cq ?_))
      refine cw_cond (b:=(decide ((i4:Int)<1))) rfl (fun hlt8=>?_) (fun hlt8=>?_)
      ·skip
       have hlt9:i4<1:=by have h:=of_decide_eq_true hlt8; omega
       obtain ⟨k_9,rfl⟩:∃ k2,K93=k2+1:=⟨K93-1,by omega⟩
       obtain ⟨y4,hb9,hL9⟩:=forN_go hL8
       unfold Hh at hb9
       refine cw_skip (cq (cw_block (cq (cr ?_))))
       obtain ⟨x4,hx4,hb9⟩:=bI hb9
       refine sQ 24 (yI (aD b3) (i4:Int) K2 K0 (gi_isSome encI_len rfl (hS24.c 1) hx4) (getI_nn hx4) (getI_ltI hx4 rfl) rfl (hf4.g 20 2) (hf4.g 22 4))<|sQ 25 (yl (aD b3) ((i4:Int).toNat*1) ([4].flatMap encI) (vi x4) K1 (hS24.c 1) rfl rfl (gi_at0 encI_len hx4 rfl))<|sQ 8 (yg (vi x4)) (rn (cr ?_))
       refine sQ 26 (ym (.slice B9 out4.length c9) rfl (hf4.g 6 1))<|sQ 27 (ym (vi x4))<|sQ 28 (ym (vi q) rfl (hf4.g 0 0))<|sQ 29 (Y_buildS (zs:=[vi 0,vi 0,vi 0]) (vs:=[(0,vi x4),(1,vi q)]) (cs:=[vi x4,vi q,vi 0]) K33 K10 rfl (mpc rfl (mpc rfl mpn)) rfl) ?_
       refine sS 30 (Ys_bslice (s:=3) (len:=1) (vs:=[(0,.agg #[vi x4,vi q,vi 0])]) (cs:=[vi x4,vi q,vi 0]) (zs:=[vi 0,vi 0,vi 0]) (m:=3) hS24 K4 K3 K26 rfl (mpc rfl mpn) rfl rfl rfl (by kernel_rfl) (by kernel_rfl) rfl) ?_
       rintro _ w_18 ⟨b13,rfl,hS25⟩
       obtain ⟨hap4,hb9⟩:=chk_inv hb9
       refine sS 31 (Ys_append (s:=3) (by':=24) (i:=0) (nn:=out4.length) (c:=c9) (k:=1) (len:=(out4++[(Aa.mk x4 q 0)]).length) (B:=B9) (xs:=([(Aa.mk x4 q 0)].flatMap eN0)) (cs':=((out4++[(Aa.mk x4 q 0)]).flatMap eN0)) hS25 K4 K3 K23 K10 rfl (by decide) rfl rfl rfl rfl (fm_lenn (l:=out4) eN2 rfl) rfl (hS25.c 2) (fm_lenn (l:=[(Aa.mk x4 q 0)]) eN2 rfl) (fm_one' (enc:=eN0) Al [(Aa.mk x4 q 0)]) (by have:=hap4; omega) (by have:=hap4; simp only [maxLen]; omega) (fm_app _ _) (app_len (l:=out4) (l':=[(Aa.mk x4 q 0)]) rfl rfl)) ?_
       rintro _ w_19 ⟨B10,c10,rfl,hS26⟩
       refine sQ 6 (yg (.slice B10 ((out4++[(Aa.mk x4 q 0)]).length) c10)) (rn (cr ?_))
       refine sQ 32 (yP (i4:Int) 1 rfl (hf4.g 22 4))<|sQ 22 (ym (vi (i64.wrap ((i4:Int)+1)))) (rn ?_)
       obtain rfl:=sI hb9
       exact ⟨k_9,Nat.lt_succ_self _,i4+1,(out4++[(Aa.mk x4 q 0)]),B10,c10,(hf4.a 0 0 (fc rfl (hf4.a 20 2 (hf4.a 21 3 (fc (congrArg (Value.int .i64) (wr_succ hlt9 (show 1≤9223372036854775807 by decide))) fn_))))),(hS26.sel [0,1] rfl rfl),(by omega),hL9⟩
      ·skip
       obtain rfl:K93=0:=by have h:=of_decide_eq_false hlt8; omega
       refine cw_exit rfl ?_
       obtain rfl:=sI hL8
       refine cq (cr ?_)
       refine sQ 33 (ym (.slice B9 out4.length c9) rfl (hf4.g 6 1))<|sQ 4 (yg (.slice B9 out4.length c9)) (rn (ct_ ?_))
       obtain rfl:=sI hF14
       exact ret1 Tryz.results70 (v1:=.slice B9 out4.length c9) (resAt_tmp rfl) ⟨B9,c9,rfl,(hS24.sN [0])⟩
     ·skip
      have hF15:=cf' hF12 hb8
      refine rw_split (B:=(coef==5)) (fun hb10=>?_) (fun hb10=>?_)
      ·skip
       have hF16:=ct hF15 hb10
       refine sQ 19 (Y_indexArrC (c:=5) (B:=aD b7) (k:=.i64) (i:=coef) K64 K8 rfl rfl rfl (idx_is hb10) (by decide))<|sQ 20 (yl (aD b7) 5 V0 (.slice (aD b4) 2 2) K9 (hS10.c 7))<|sQ 21 (Y_len (B:=aD b4) (m:=2) (c:=2) K2 rfl rfl)<|sQ 22 (ym (vi 0)) (rn ?_)
       obtain ⟨z5,hz5,hF17⟩:=bI hF16
       refine cw_block ?_
       refine cw_loop (fun k f w=>∃ (i5:Nat) (out5:List Aa) (B11:Option Addr) (c11:Nat),FF f [(0,vi q),(6,.slice B11 out5.length c11),(20,.slice (aD b4) 2 2),(21,vi 2),(22,vi (i5:Int))]∧ST w0 [] w [⟨B11,59,(out5.flatMap eN0),c11*3⟩,⟨aD b4,3,([4,7].flatMap encI),2*1⟩] []∧i5+k=2∧forN (He q) k i5 out5=some z5) 2 ⟨0,[],aD b8,0,(fc rfl (fc rfl (fc rfl (fc rfl (fc rfl fn_))))),(hS10.sel [8,4] rfl rfl),Nat.zero_add _,hz5⟩ ?_
       rintro K94 f w ⟨i5,out5,B11,c11,hf5,hS27,hik5,hL10⟩
       refine cq (cr ?_)
       refine sQ 23 (yL (i5:Int) 2 rfl (hf5.g 22 4) (hf5.g 21 3)) (rn (cq ?_))
       refine cw_cond (b:=(decide ((i5:Int)<2))) rfl (fun hlt10=>?_) (fun hlt10=>?_)
       ·skip
        have hlt11:i5<2:=by have h:=of_decide_eq_true hlt10; omega
        obtain ⟨k_11,rfl⟩:∃ k2,K94=k2+1:=⟨K94-1,by omega⟩
        obtain ⟨y5,hb11,hL11⟩:=forN_go hL10
        unfold He at hb11
        refine cw_skip (cq (cw_block (cq (cr ?_))))
        obtain ⟨x5,hx5,hb11⟩:=bI hb11
        refine sQ 24 (yI (aD b4) (i5:Int) K2 K0 (gi_isSome encI_len rfl (hS27.c 1) hx5) (getI_nn hx5) (getI_ltI hx5 rfl) rfl (hf5.g 20 2) (hf5.g 22 4))<|sQ 25 (yl (aD b4) ((i5:Int).toNat*1) ([4,7].flatMap encI) (vi x5) K1 (hS27.c 1) rfl rfl (gi_at0 encI_len hx5 rfl))<|sQ 8 (yg (vi x5)) (rn (cr ?_))
        refine sQ 26 (ym (.slice B11 out5.length c11) rfl (hf5.g 6 1))<|sQ 27 (ym (vi x5))<|sQ 28 (ym (vi q) rfl (hf5.g 0 0))<|sQ 29 (Y_buildS (zs:=[vi 0,vi 0,vi 0]) (vs:=[(0,vi x5),(1,vi q)]) (cs:=[vi x5,vi q,vi 0]) K33 K10 rfl (mpc rfl (mpc rfl mpn)) rfl) ?_
        refine sS 30 (Ys_bslice (s:=3) (len:=1) (vs:=[(0,.agg #[vi x5,vi q,vi 0])]) (cs:=[vi x5,vi q,vi 0]) (zs:=[vi 0,vi 0,vi 0]) (m:=3) hS27 K4 K3 K26 rfl (mpc rfl mpn) rfl rfl rfl (by kernel_rfl) (by kernel_rfl) rfl) ?_
        rintro _ w_20 ⟨b14,rfl,hS28⟩
        obtain ⟨hap5,hb11⟩:=chk_inv hb11
        refine sS 31 (Ys_append (s:=3) (by':=24) (i:=0) (nn:=out5.length) (c:=c11) (k:=1) (len:=(out5++[(Aa.mk x5 q 0)]).length) (B:=B11) (xs:=([(Aa.mk x5 q 0)].flatMap eN0)) (cs':=((out5++[(Aa.mk x5 q 0)]).flatMap eN0)) hS28 K4 K3 K23 K10 rfl (by decide) rfl rfl rfl rfl (fm_lenn (l:=out5) eN2 rfl) rfl (hS28.c 2) (fm_lenn (l:=[(Aa.mk x5 q 0)]) eN2 rfl) (fm_one' (enc:=eN0) Al [(Aa.mk x5 q 0)]) (by have:=hap5; omega) (by have:=hap5; simp only [maxLen]; omega) (fm_app _ _) (app_len (l:=out5) (l':=[(Aa.mk x5 q 0)]) rfl rfl)) ?_
        rintro _ w_21 ⟨B12,c12,rfl,hS29⟩
        refine sQ 6 (yg (.slice B12 ((out5++[(Aa.mk x5 q 0)]).length) c12)) (rn (cr ?_))
        refine sQ 32 (yP (i5:Int) 1 rfl (hf5.g 22 4))<|sQ 22 (ym (vi (i64.wrap ((i5:Int)+1)))) (rn ?_)
        obtain rfl:=sI hb11
        exact ⟨k_11,Nat.lt_succ_self _,i5+1,(out5++[(Aa.mk x5 q 0)]),B12,c12,(hf5.a 0 0 (fc rfl (hf5.a 20 2 (hf5.a 21 3 (fc (congrArg (Value.int .i64) (wr_succ hlt11 (show 2≤9223372036854775807 by decide))) fn_))))),(hS29.sel [0,1] rfl rfl),(by omega),hL11⟩
       ·skip
        obtain rfl:K94=0:=by have h:=of_decide_eq_false hlt10; omega
        refine cw_exit rfl ?_
        obtain rfl:=sI hL10
        refine cq (cr ?_)
        refine sQ 33 (ym (.slice B11 out5.length c11) rfl (hf5.g 6 1))<|sQ 4 (yg (.slice B11 out5.length c11)) (rn (ct_ ?_))
        obtain rfl:=sI hF17
        exact ret1 Tryz.results70 (v1:=.slice B11 out5.length c11) (resAt_tmp rfl) ⟨B11,c11,rfl,(hS27.sN [0])⟩
      ·skip
       have hF18:=cf' hF15 hb10
       refine rw_split (B:=(coef==6)) (fun hb12=>?_) (fun hb12=>?_)
       ·skip
        have hF19:=ct hF18 hb12
        refine sQ 19 (Y_indexArrC (c:=6) (B:=aD b7) (k:=.i64) (i:=coef) K64 K8 rfl rfl rfl (idx_is hb12) (by decide))<|sQ 20 (yl (aD b7) 6 V0 (.slice (aD b5) 1 1) K9 (hS10.c 7))<|sQ 21 (Y_len (B:=aD b5) (m:=1) (c:=1) K2 rfl rfl)<|sQ 22 (ym (vi 0)) (rn ?_)
        obtain ⟨z6,hz6,hF20⟩:=bI hF19
        refine cw_block ?_
        refine cw_loop (fun k f w=>∃ (i6:Nat) (out6:List Aa) (B13:Option Addr) (c13:Nat),FF f [(0,vi q),(6,.slice B13 out6.length c13),(20,.slice (aD b5) 1 1),(21,vi 1),(22,vi (i6:Int))]∧ST w0 [] w [⟨B13,59,(out6.flatMap eN0),c13*3⟩,⟨aD b5,3,([6].flatMap encI),1*1⟩] []∧i6+k=1∧forN (GH q) k i6 out6=some z6) 1 ⟨0,[],aD b8,0,(fc rfl (fc rfl (fc rfl (fc rfl (fc rfl fn_))))),(hS10.sel [8,5] rfl rfl),Nat.zero_add _,hz6⟩ ?_
        rintro K95 f w ⟨i6,out6,B13,c13,hf6,hS30,hik6,hL12⟩
        refine cq (cr ?_)
        refine sQ 23 (yL (i6:Int) 1 rfl (hf6.g 22 4) (hf6.g 21 3)) (rn (cq ?_))
        refine cw_cond (b:=(decide ((i6:Int)<1))) rfl (fun hlt12=>?_) (fun hlt12=>?_)
        ·skip
         have hlt13:i6<1:=by have h:=of_decide_eq_true hlt12; omega
         obtain ⟨k_13,rfl⟩:∃ k2,K95=k2+1:=⟨K95-1,by omega⟩
         obtain ⟨y6,hb13,hL13⟩:=forN_go hL12
         unfold GH at hb13
         refine cw_skip (cq (cw_block (cq (cr ?_))))
         obtain ⟨x6,hx6,hb13⟩:=bI hb13
         refine sQ 24 (yI (aD b5) (i6:Int) K2 K0 (gi_isSome encI_len rfl (hS30.c 1) hx6) (getI_nn hx6) (getI_ltI hx6 rfl) rfl (hf6.g 20 2) (hf6.g 22 4))<|sQ 25 (yl (aD b5) ((i6:Int).toNat*1) ([6].flatMap encI) (vi x6) K1 (hS30.c 1) rfl rfl (gi_at0 encI_len hx6 rfl))<|sQ 8 (yg (vi x6)) (rn (cr ?_))
         refine sQ 26 (ym (.slice B13 out6.length c13) rfl (hf6.g 6 1))<|sQ 27 (ym (vi x6))<|sQ 28 (ym (vi q) rfl (hf6.g 0 0))<|sQ 29 (Y_buildS (zs:=[vi 0,vi 0,vi 0]) (vs:=[(0,vi x6),(1,vi q)]) (cs:=[vi x6,vi q,vi 0]) K33 K10 rfl (mpc rfl (mpc rfl mpn)) rfl) ?_
         refine sS 30 (Ys_bslice (s:=3) (len:=1) (vs:=[(0,.agg #[vi x6,vi q,vi 0])]) (cs:=[vi x6,vi q,vi 0]) (zs:=[vi 0,vi 0,vi 0]) (m:=3) hS30 K4 K3 K26 rfl (mpc rfl mpn) rfl rfl rfl (by kernel_rfl) (by kernel_rfl) rfl) ?_
         rintro _ w_22 ⟨b15,rfl,hS31⟩
         obtain ⟨hap6,hb13⟩:=chk_inv hb13
         refine sS 31 (Ys_append (s:=3) (by':=24) (i:=0) (nn:=out6.length) (c:=c13) (k:=1) (len:=(out6++[(Aa.mk x6 q 0)]).length) (B:=B13) (xs:=([(Aa.mk x6 q 0)].flatMap eN0)) (cs':=((out6++[(Aa.mk x6 q 0)]).flatMap eN0)) hS31 K4 K3 K23 K10 rfl (by decide) rfl rfl rfl rfl (fm_lenn (l:=out6) eN2 rfl) rfl (hS31.c 2) (fm_lenn (l:=[(Aa.mk x6 q 0)]) eN2 rfl) (fm_one' (enc:=eN0) Al [(Aa.mk x6 q 0)]) (by have:=hap6; omega) (by have:=hap6; simp only [maxLen]; omega) (fm_app _ _) (app_len (l:=out6) (l':=[(Aa.mk x6 q 0)]) rfl rfl)) ?_
         rintro _ w_23 ⟨B14,c14,rfl,hS32⟩
         refine sQ 6 (yg (.slice B14 ((out6++[(Aa.mk x6 q 0)]).length) c14)) (rn (cr ?_))
         refine sQ 32 (yP (i6:Int) 1 rfl (hf6.g 22 4))<|sQ 22 (ym (vi (i64.wrap ((i6:Int)+1)))) (rn ?_)
         obtain rfl:=sI hb13
         exact ⟨k_13,Nat.lt_succ_self _,i6+1,(out6++[(Aa.mk x6 q 0)]),B14,c14,(hf6.a 0 0 (fc rfl (hf6.a 20 2 (hf6.a 21 3 (fc (congrArg (Value.int .i64) (wr_succ hlt13 (show 1≤9223372036854775807 by decide))) fn_))))),(hS32.sel [0,1] rfl rfl),(by omega),hL13⟩
        ·skip
         obtain rfl:K95=0:=by have h:=of_decide_eq_false hlt12; omega
         refine cw_exit rfl ?_
         obtain rfl:=sI hL12
         refine cq (cr ?_)
         refine sQ 33 (ym (.slice B13 out6.length c13) rfl (hf6.g 6 1))<|sQ 4 (yg (.slice B13 out6.length c13)) (rn (ct_ ?_))
         obtain rfl:=sI hF20
         exact ret1 Tryz.results70 (v1:=.slice B13 out6.length c13) (resAt_tmp rfl) ⟨B13,c13,rfl,(hS30.sN [0])⟩
       ·skip
        have hF21:=cf' hF18 hb12
        refine rw_split (B:=(coef==7)) (fun hb14=>?_) (fun hb14=>?_)
        ·skip
         have hF22:=ct hF21 hb14
         refine sQ 19 (Y_indexArrC (c:=7) (B:=aD b7) (k:=.i64) (i:=coef) K64 K8 rfl rfl rfl (idx_is hb14) (by decide))<|sQ 20 (yl (aD b7) 7 V0 (.slice (aD b6) 1 1) K9 (hS10.c 7))<|sQ 21 (Y_len (B:=aD b6) (m:=1) (c:=1) K2 rfl rfl)<|sQ 22 (ym (vi 0)) (rn ?_)
         obtain ⟨z7,hz7,hF23⟩:=bI hF22
         refine cw_block ?_
         refine cw_loop (fun k f w=>∃ (i7:Nat) (out7:List Aa) (B15:Option Addr) (c15:Nat),FF f [(0,vi q),(6,.slice B15 out7.length c15),(20,.slice (aD b6) 1 1),(21,vi 1),(22,vi (i7:Int))]∧ST w0 [] w [⟨B15,59,(out7.flatMap eN0),c15*3⟩,⟨aD b6,3,([8].flatMap encI),1*1⟩] []∧i7+k=1∧forN (Gt q) k i7 out7=some z7) 1 ⟨0,[],aD b8,0,(fc rfl (fc rfl (fc rfl (fc rfl (fc rfl fn_))))),(hS10.sel [8,6] rfl rfl),Nat.zero_add _,hz7⟩ ?_
         rintro K96 f w ⟨i7,out7,B15,c15,hf7,hS33,hik7,hL14⟩
         refine cq (cr ?_)
         refine sQ 23 (yL (i7:Int) 1 rfl (hf7.g 22 4) (hf7.g 21 3)) (rn (cq ?_))
         refine cw_cond (b:=(decide ((i7:Int)<1))) rfl (fun hlt14=>?_) (fun hlt14=>?_)
         ·skip
          have hlt15:i7<1:=by have h:=of_decide_eq_true hlt14; omega
          obtain ⟨k_15,rfl⟩:∃ k2,K96=k2+1:=⟨K96-1,by omega⟩
          obtain ⟨y7,hb15,hL15⟩:=forN_go hL14
          unfold Gt at hb15
          refine cw_skip (cq (cw_block (cq (cr ?_))))
          obtain ⟨x7,hx7,hb15⟩:=bI hb15
          refine sQ 24 (yI (aD b6) (i7:Int) K2 K0 (gi_isSome encI_len rfl (hS33.c 1) hx7) (getI_nn hx7) (getI_ltI hx7 rfl) rfl (hf7.g 20 2) (hf7.g 22 4))<|sQ 25 (yl (aD b6) ((i7:Int).toNat*1) ([8].flatMap encI) (vi x7) K1 (hS33.c 1) rfl rfl (gi_at0 encI_len hx7 rfl))<|sQ 8 (yg (vi x7)) (rn (cr ?_))
          refine sQ 26 (ym (.slice B15 out7.length c15) rfl (hf7.g 6 1))<|sQ 27 (ym (vi x7))<|sQ 28 (ym (vi q) rfl (hf7.g 0 0))<|sQ 29 (Y_buildS (zs:=[vi 0,vi 0,vi 0]) (vs:=[(0,vi x7),(1,vi q)]) (cs:=[vi x7,vi q,vi 0]) K33 K10 rfl (mpc rfl (mpc rfl mpn)) rfl) ?_
          refine sS 30 (Ys_bslice (s:=3) (len:=1) (vs:=[(0,.agg #[vi x7,vi q,vi 0])]) (cs:=[vi x7,vi q,vi 0]) (zs:=[vi 0,vi 0,vi 0]) (m:=3) hS33 K4 K3 K26 rfl (mpc rfl mpn) rfl rfl rfl (by kernel_rfl) (by kernel_rfl) rfl) ?_
          rintro _ w_24 ⟨b16,rfl,hS34⟩
          obtain ⟨hap7,hb15⟩:=chk_inv hb15
          refine sS 31 (Ys_append (s:=3) (by':=24) (i:=0) (nn:=out7.length) (c:=c15) (k:=1) (len:=(out7++[(Aa.mk x7 q 0)]).length) (B:=B15) (xs:=([(Aa.mk x7 q 0)].flatMap eN0)) (cs':=((out7++[(Aa.mk x7 q 0)]).flatMap eN0)) hS34 K4 K3 K23 K10 rfl (by decide) rfl rfl rfl rfl (fm_lenn (l:=out7) eN2 rfl) rfl (hS34.c 2) (fm_lenn (l:=[(Aa.mk x7 q 0)]) eN2 rfl) (fm_one' (enc:=eN0) Al [(Aa.mk x7 q 0)]) (by have:=hap7; omega) (by have:=hap7; simp only [maxLen]; omega) (fm_app _ _) (app_len (l:=out7) (l':=[(Aa.mk x7 q 0)]) rfl rfl)) ?_
          rintro _ w_25 ⟨B16,c16,rfl,hS35⟩
          refine sQ 6 (yg (.slice B16 ((out7++[(Aa.mk x7 q 0)]).length) c16)) (rn (cr ?_))
          refine sQ 32 (yP (i7:Int) 1 rfl (hf7.g 22 4))<|sQ 22 (ym (vi (i64.wrap ((i7:Int)+1)))) (rn ?_)
          obtain rfl:=sI hb15
          exact ⟨k_15,Nat.lt_succ_self _,i7+1,(out7++[(Aa.mk x7 q 0)]),B16,c16,(hf7.a 0 0 (fc rfl (hf7.a 20 2 (hf7.a 21 3 (fc (congrArg (Value.int .i64) (wr_succ hlt15 (show 1≤9223372036854775807 by decide))) fn_))))),(hS35.sel [0,1] rfl rfl),(by omega),hL15⟩
         ·skip
          obtain rfl:K96=0:=by have h:=of_decide_eq_false hlt14; omega
          refine cw_exit rfl ?_
          obtain rfl:=sI hL14
          refine cq (cr ?_)
          refine sQ 33 (ym (.slice B15 out7.length c15) rfl (hf7.g 6 1))<|sQ 4 (yg (.slice B15 out7.length c15)) (rn (ct_ ?_))
          obtain rfl:=sI hF23
          exact ret1 Tryz.results70 (v1:=.slice B15 out7.length c15) (resAt_tmp rfl) ⟨B15,c15,rfl,(hS33.sN [0])⟩
        ·skip
         have hF24:=cf' hF21 hb14
         cases hF24

theorem Pt (s:List Ab) (i:Int) (j:Int) (B:Option Addr) (c n:Nat) (w0:World) (hn:s.length=n) (hS:ST w0 (bl [⟨B,64,(s.flatMap eN1),c*2⟩]) w0 [⟨B,64,(s.flatMap eN1),c*2⟩] []) {r_:List Ab} (hF:F1 s i j=some r_) :
  CV Tryz.prog 71 #[.slice B n c,vi i,vi j] w0 (fun v w'=>∃ (B1:Option Addr) (c1:Nat),v=.slice B1 r_.length c1∧ST w0 (bl [⟨B,64,(s.flatMap eN1),c*2⟩]) w' [⟨B1,64,(r_.flatMap eN1),c1*2⟩] []):=by
 subst hn
 unfold F1 at hF
 refine cv_of_cw 33 Tryz.func71 rfl Tryz.ntmps71 rfl ?_
 refine cq (cr ?_)
 refine sQ 6 (yg (.slice none 0 0)) (rn (cq (cr ?_)))
 refine sQ 8 (ym (.slice B s.length c))<|sQ 9 (ym (vi i))<|sQ 10 (ym (vi j))<|sQ 11 (ym (.slice B s.length c))<|sQ 12 (Y_len (B:=B) (m:=s.length) (c:=c) K14 rfl rfl) ?_
 obtain ⟨hsl,hF⟩:=chk_inv hF
 have hcap:s.length≤c:=hS.lencap (i:=0) rfl (fm_lenn (l:=s) eN3 rfl) rfl rfl
 refine sQ 13 (Y_slice (B:=B) (m:=s.length) (c:=c) (l:=i.toNat) (h:=j.toNat) (q:=s.length) (s:=2) K14 K15 rfl rfl ⟨_,_,rfl,rfl⟩ ⟨_,_,rfl,(Int.toNat_of_nonneg (by omega)).symm⟩ ⟨_,_,rfl,(Int.toNat_of_nonneg (by omega)).symm⟩ rfl (by omega) (by omega) (by omega)) (rn (cq (cq (cr ?_))))
 refine sQ 14 (ym (vi i))<|sQ 15 (ym (vi j))<|sQ 16 (yE i j) (rn ?_)
 refine cw_cond (b:=(i==j)) rfl (fun hb=>?_) (fun hb=>?_)
 ·skip
  have hF1:=ct hF hb
  refine cq (cr ?_)
  refine sQ 17 (ym (.slice B s.length c))<|sQ 6 (yg (.slice B s.length c)) (rn (ct_ ?_))
  obtain rfl:=sI hF1
  exact ret1 Tryz.results71 (v1:=.slice B s.length c) (resAt_tmp rfl) ⟨B,c,rfl,(hS.sN [0])⟩
 ·skip
  have hF2:=cf' hF hb
  refine cw_skip (cq (cr ?_))
  refine sQ 18 (ym (.slice B s.length c))<|sQ 19 (Y_len (B:=B) (m:=s.length) (c:=c) K14 rfl rfl)<|sQ 7 (yg (vi (s.length:Int))) (rn (cq ?_))
  obtain ⟨hij,hF2⟩:=chk_inv hF2
  refine ra_start (hS.se []).fn (by kernel_rfl) ?_
  have hS1:=hS.drew
  have hQ0:=hS1.se []
  refine rq 0 20 rfl hQ0 (fun w' hw'=>(ym (.slice B s.length c)))<|rq 1 21 rfl hQ0 (fun w' hw'=>(ym (vi i)))<|rq 2 22 (v:=.slice (sv B 0 c 2) (i.toNat-0) (c-0)) rfl hQ0 (fun w' hw'=>(Y_slice (B:=B) (m:=s.length) (c:=c) (l:=0) (h:=i.toNat) (q:=c) (s:=2) K14 K15 rfl rfl rfl ⟨_,_,rfl,(Int.toNat_of_nonneg (by omega)).symm⟩ rfl rfl (by omega) (by omega) (by omega)))<|rq 3 23 rfl hQ0 (fun w' hw'=>(ym (.slice B s.length c)))<|rq 4 24 rfl hQ0 (fun w' hw'=>(ym (vi j))) ?_
  refine rq 5 25 (v:=.slice (sv B j.toNat c 2) (s.length-j.toNat) (c-j.toNat)) rfl hQ0 (fun w' hw'=>(Y_slice (B:=B) (m:=s.length) (c:=c) (l:=j.toNat) (h:=s.length) (q:=c) (s:=2) K14 K15 rfl rfl rfl rfl ⟨_,_,rfl,(Int.toNat_of_nonneg (by omega)).symm⟩ rfl (by omega) (by omega) (by omega))) ?_
  refine rA [6] ?_
  refine rS 26 6 rfl (Ys_cut (enc:=eN1) (s:=2) (k:=0) (i:=i.toNat) (j:=j.toNat) (m:=s.length) (c:=c) (B:=B) (l:=s) hS1 K14 K15 rfl rfl rfl rfl rfl rfl eN3 BN (by omega) (by omega)) ?_ aN
  rintro _ w_ ⟨rfl,hS2⟩
  refine ⟨(hS2.se []),?_⟩
  refine rq 7 0 rfl (hS2.se []) (fun w' hw'=>(yg (.slice B (i.toNat+(s.length-j.toNat)) c))) ?_
  refine ra_done (by kernel_rfl) ?_
  refine cq (cr ?_)
  refine sQ 27 (ym (.slice B (i.toNat+(s.length-j.toNat)) c))<|sQ 28 (ym (.slice B (i.toNat+(s.length-j.toNat)) c))<|sQ 29 (Y_len (B:=B) (m:=(i.toNat+(s.length-j.toNat))) (c:=c) K14 rfl rfl)<|sQ 30 (ym (vi (s.length:Int)))<|sQ 31 (Y_slice (B:=B) (m:=(i.toNat+(s.length-j.toNat))) (c:=c) (l:=(i.toNat+(s.length-j.toNat))) (h:=s.length) (q:=c) (s:=2) K14 K15 rfl rfl rfl ⟨_,_,rfl,rfl⟩ ⟨_,_,rfl,rfl⟩ rfl (by omega) (by omega) (by omega)) ?_
  refine s0 (Ys_clear (s:=2) (k:=0) (p:=(i.toNat+(s.length-j.toNat))) (h:=s.length) (c:=c) (m:=c*2) (B:=B) (cs:=((List.take i.toNat s++List.drop j.toNat s).flatMap eN1)) (z:=.agg #[vi 0,vi 0]) hS2 K14 K15 rfl K37 rfl rfl rfl rfl rfl (fm_lenn (l:=(List.take i.toNat s++List.drop j.toNat s)) eN3 (cut_len rfl (by omega))) rfl (by omega) (by omega)) ?_
  rintro _ w_1 ⟨rfl,hS3⟩
  refine rn (cq (cr ?_))
  refine sQ 32 (ym (.slice B (i.toNat+(s.length-j.toNat)) c))<|sQ 6 (yg (.slice B (i.toNat+(s.length-j.toNat)) c)) (rn (ct_ ?_))
  obtain rfl:=sI hF2
  exact ret1 Tryz.results71 (v1:=.slice B (i.toNat+(s.length-j.toNat)) c) (resAt_tmp rfl) ⟨B,c,(sl_eqv (cut_len rfl (by omega))),(hS3.sN [0])⟩

theorem JK (q:Int) (p:List Ab) (p1:List Int) (p2:List Aa) (B:Option Addr) (B1:Option Addr) (c n:Nat) (B2:Option Addr) (B3:Option Addr) (c1 n1:Nat) (B4:Option Addr) (B5:Option Addr) (c2 n2:Nat) (w0:World) (hn:p.length=n) (hn1:p1.length=n1) (hn2:p2.length=n2) (hS:ST w0 (bl [⟨B,23,[.slice B1 n c],1⟩,⟨B1,64,(p.flatMap eN1),c*2⟩,⟨B4,30,[.slice B5 n2 c2],1⟩,⟨B5,59,(p2.flatMap eN0),c2*3⟩]) w0 [⟨B,23,[.slice B1 n c],1⟩,⟨B1,64,(p.flatMap eN1),c*2⟩,⟨B4,30,[.slice B5 n2 c2],1⟩,⟨B5,59,(p2.flatMap eN0),c2*3⟩] [⟨B2,[.slice B3 n1 c1]⟩,⟨B3,(p1.flatMap encI)⟩]) {m:List Ab} {m1:List Aa} (hF:Cz q p p1 p2=some (m,m1)) :
  CV Tryz.prog 67 #[vi q,pt B 0,pt B2 0,pt B4 0] w0 (fun v w'=>∃ (B6:Option Addr) (c3:Nat) (B7:Option Addr) (c4:Nat),v=.tuple #[]∧ST w0 (bl [⟨B,23,[.slice B1 n c],1⟩,⟨B1,64,(p.flatMap eN1),c*2⟩,⟨B4,30,[.slice B5 n2 c2],1⟩,⟨B5,59,(p2.flatMap eN0),c2*3⟩]) w' [⟨B,23,[.slice B6 m.length c3],1⟩,⟨B4,30,[.slice B7 m1.length c4],1⟩,⟨B6,64,(m.flatMap eN1),c3*2⟩,⟨B7,59,(m1.flatMap eN0),c4*3⟩] []):=by
 subst hn
 subst hn1
 subst hn2
 unfold Cz at hF
 refine cv_of_cw 25 Tryz.func67 rfl Tryz.ntmps67 rfl ?_
 refine cq (cr ?_)
 refine sS 4 (yB 3 (vi q) [vi q] 1 hS) ?_
 rintro _ w_ ⟨b,rfl,hS1⟩
 refine rn (cq (cr ?_))
 let V0:List Value:=[.slice B1 p.length c]
 refine sQ 6 (yl B 0 V0 (.slice B1 p.length c) K42 (hS1.c 0))<|sQ 7 (Y_makeFunc (cs:=[pt B2 0,pt (aD b) 0]) rfl rfl (mc rfl (mc rfl mn))) ?_
 obtain ⟨r_,hc,hF⟩:=bI hF
 refine sc 8 rfl rfl (yC [.slice B1 p.length c,.func (.func 69) #[] #[pt B2 0,pt (aD b) 0]] LF (NG p (fun x_0=>C6 x_0 p1 q) B1 c p.length 69 (#[pt B2 0,pt (aD b) 0]) [⟨B2,[.slice B3 p1.length c1]⟩,⟨B3,(p1.flatMap encI)⟩,⟨aD b,[vi q]⟩] _ rfl P3 (fun w hw x_0 y_0 h_=>OO x_0 p1 q B2 B3 c1 p1.length (aD b) w rfl hw h_) (hS1.inn0 [(false,1),(true,0),(true,1),(false,4)] rfl) hc)) ?_
 rintro _ w_1 ⟨rfl,hd⟩
 have hS2:=hS1.out00 hd
 refine sQ 5 (yg (vi r_)) (rn (cq (cr ?_)))
 refine sQ 9 (ym (vi r_))<|sQ 10 (Y_ge (k:=.i64) (a:=r_) (b:=0) rfl rfl rfl) (rn ?_)
 refine cw_cond (b:=(decide (0≤r_))) rfl (fun hb=>?_) (fun hb=>?_)
 ·skip
  have hF1:=ct hF hb
  refine cq ?_
  obtain ⟨x,hx,hF1⟩:=bI hF1
  obtain ⟨r_1,hc1,hF1⟩:=bI hF1
  obtain ⟨hap,hF1⟩:=chk_inv hF1
  refine cw_mid (fun f w=>∃ (B10:Option Addr) (c7:Nat),FF f [(1,pt B 0),(5,vi r_)]∧ST w0 (bl [⟨B,23,V0,1⟩,⟨B1,64,(p.flatMap eN1),c*2⟩,⟨B4,30,[.slice B5 p2.length c2],1⟩,⟨B5,59,(p2.flatMap eN0),c2*3⟩]) w [⟨B,23,V0,1⟩,⟨B1,64,(p.flatMap eN1),c*2⟩,⟨B4,30,[.slice B10 ((p2++r_1).length) c7],1⟩,⟨B10,59,((p2++r_1).flatMap eN0),c7*3⟩] [⟨B2,[.slice B3 p1.length c1]⟩,⟨B3,(p1.flatMap encI)⟩]) ?_ ?_
  ·skip
   refine ra_start (hS2.se [0,1,4]).fn (by kernel_rfl) ?_
   have hS5:=hS2.drew
   have hQ0:=hS5.se [0,1,4]
   refine rq 1 12 rfl hQ0 (fun w' hw'=>(yl (aD b) 0 [vi q] (vi q) K1 (ST.cf hw' (i:=2) rfl)))<|rq 2 13 rfl hQ0 (fun w' hw'=>(yl B 0 V0 (.slice B1 p.length c) K42 (ST.cf hw' (i:=0) rfl)))<|rq 3 14 rfl hQ0 (fun w' hw'=>(ym (vi r_)))<|rq 4 15 (v:=pt B1 (r_.toNat*2)) rfl hQ0 (fun w' hw'=>(yI B1 r_ K14 K15 (gi_isSome eN3 rfl (ST.cf hw' (i:=1) rfl) hx) (getI_nn hx) (getI_ltI hx rfl)))<|rq 5 16 (v:=pt B1 (r_.toNat*2+1)) rfl hQ0 (fun w' hw'=>(yd B1 (r_.toNat*2) 0 K77 K0)) ?_
   refine rq 6 17 rfl hQ0 (fun w' hw'=>(yl B1 (r_.toNat*2+1) (p.flatMap eN1) (vi x.Coef) K1 (ST.cf hw' (i:=1) rfl) rfl rfl (gi_at eN3 hx rfl))) ?_
   refine rA [0,7] ?_
   refine ry 11 0 rfl (yl B4 0 [.slice B5 p2.length c2] (.slice B5 p2.length c2) K18 (hS5.c 2)) hQ0 ?_ ?_
   ·skip
    refine rA [7] ?_
    refine rC 18 7 rfl (yC [vi q,vi x.Coef] Im (Ku q x.Coef _  (hS5.inn0 [] rfl) hc1)) ?_ aN
    rintro _ w_2 ⟨B8,c5,rfl,hd1⟩
    have hS6:=hS5.out0 hd1
    refine ⟨(hS6.se [0,1,4]),?_⟩
    refine rA [8] ?_
    refine rS 19 8 rfl (Ys_append (s:=3) (by':=24) (i:=3) (nn:=p2.length) (c:=c2) (k:=r_1.length) (len:=(p2++r_1).length) (B:=B5) (xs:=(r_1.flatMap eN0)) (cs':=((p2++r_1).flatMap eN0)) hS6 K4 K3 K23 K10 rfl (by decide) rfl rfl rfl rfl (fm_lenn (l:=p2) eN2 rfl) rfl (hS6.c 5) (fm_lenn (l:=r_1) eN2 rfl) (fm_one' (enc:=eN0) Al r_1) (by have:=hap; omega) (by have:=hap; simp only [maxLen]; omega) (fm_app _ _) (app_len (l:=p2) (l':=r_1) rfl rfl)) ?_ aN
    rintro _ w_3 ⟨B9,c6,rfl,hS7⟩
    refine ⟨(hS7.se [0,1,4]),?_⟩
    refine rA [9] ?_
    refine rZ 9 rfl (yT 2 1 B4 30 (.slice B9 ((p2++r_1).length) c6) [.slice B9 ((p2++r_1).length) c6] 0 hS7 K11) ?_ aN
    rintro _ w_4 ⟨rfl,hS8⟩
    refine ⟨(hS8.se [0,1,4]),?_⟩
    refine ra_done (by kernel_rfl) ?_
    exact ⟨B9,c6,(fc rfl (fc rfl fn_)),(hS8.sel [0,1,2,3] rfl rfl)⟩
   refine rC 18 7 rfl (yC [vi q,vi x.Coef] Im (Ku q x.Coef _  (hS5.inn0 [] rfl) hc1)) ?_ aN
   rintro _ w_5 ⟨B8,c5,rfl,hd2⟩
   have hS9:=hS5.out0 hd2
   refine ⟨(hS9.se [0,1,4]),?_⟩
   refine r1 11 0 rfl (yl B4 0 [.slice B5 p2.length c2] (.slice B5 p2.length c2) K18 (hS9.c 2)) (hS9.se [0,1,4]) ?_
   refine rA [8] ?_
   refine rS 19 8 rfl (Ys_append (s:=3) (by':=24) (i:=3) (nn:=p2.length) (c:=c2) (k:=r_1.length) (len:=(p2++r_1).length) (B:=B5) (xs:=(r_1.flatMap eN0)) (cs':=((p2++r_1).flatMap eN0)) hS9 K4 K3 K23 K10 rfl (by decide) rfl rfl rfl rfl (fm_lenn (l:=p2) eN2 rfl) rfl (hS9.c 5) (fm_lenn (l:=r_1) eN2 rfl) (fm_one' (enc:=eN0) Al r_1) (by have:=hap; omega) (by have:=hap; simp only [maxLen]; omega) (fm_app _ _) (app_len (l:=p2) (l':=r_1) rfl rfl)) ?_ aN
   rintro _ w_6 ⟨B9,c6,rfl,hS10⟩
   refine ⟨(hS10.se [0,1,4]),?_⟩
   refine rA [9] ?_
   refine rZ 9 rfl (yT 2 1 B4 30 (.slice B9 ((p2++r_1).length) c6) [.slice B9 ((p2++r_1).length) c6] 0 hS10 K11) ?_ aN
   rintro _ w_7 ⟨rfl,hS11⟩
   refine ⟨(hS11.se [0,1,4]),?_⟩
   refine ra_done (by kernel_rfl) ?_
   exact ⟨B9,c6,(fc rfl (fc rfl fn_)),(hS11.sel [0,1,2,3] rfl rfl)⟩
  rintro f w ⟨B10,c7,hf,hS4⟩
  refine cr ?_
  refine sQ 20 (yl B 0 V0 (.slice B1 p.length c) K42 (hS4.c 0) rfl (hf.g 1 0))<|sQ 21 (ym (vi r_) rfl (hf.g 5 1))<|sQ 22 (ym (vi r_) rfl (hf.g 5 1))<|sQ 23 (yP r_ 1) ?_
  obtain ⟨r_2,hc2,hF1⟩:=bI hF1
  refine sc 24 rfl rfl (yC [.slice B1 p.length c,vi r_,vi (i64.wrap (r_+1))] Om (Pt p r_ (i64.wrap (r_+1)) B1 c p.length _ rfl (hS4.inn [false,true,false,false] rfl [] rfl) hc2)) ?_
  rintro _ w_8 ⟨B11,c8,rfl,hd3⟩
  have hS12:=hS4.out [false,true,false,false] rfl hd3
  refine s0 (yT 0 1 B 23 (.slice B11 r_2.length c8) [.slice B11 r_2.length c8] 0 hS12 K35 rfl (hf.g 1 0)) ?_
  rintro _ w_9 ⟨rfl,hS13⟩
  refine rn ?_
  obtain ⟨rfl,rfl⟩:=pr2 (sI hF1)
  exact ret0 Tryz.results67  ⟨B11,c8,B10,c7,rfl,(hS13.sN [0,1,3,2])⟩
 ·skip
  have hF2:=cf' hF hb
  refine cw_skip ?_
  obtain ⟨rfl,rfl⟩:=pr2 (sI hF2)
  exact ret0 Tryz.results67  ⟨B1,c,B5,c2,rfl,(hS2.sN [0,2,1,3])⟩

theorem KC (n:Int) (gates:List Aa) (terms:List Ab) (B:Option Addr) (c n1:Nat) (B1:Option Addr) (c1 n2:Nat) (w0:World) (hn:gates.length=n1) (hn1:terms.length=n2) (hS:ST w0 [] w0 [] [⟨B,(gates.flatMap eN0)⟩,⟨B1,(terms.flatMap eN1)⟩]) {r_:List Aa} {r_1:Bool} (hF:Cd n gates terms=some (r_,r_1)) :
  CV Tryz.prog 23 #[vi n,.slice B n1 c,.slice B1 n2 c1] w0 (fun v w'=>∃ (B2:Option Addr) (c2:Nat),v=.tuple #[.slice B2 r_.length c2,.bool r_1]∧ST w0 [] w' [⟨B2,59,(r_.flatMap eN0),c2*3⟩] []):=by
 subst hn
 subst hn1
 unfold Cd at hF
 refine cv_of_cw 61 Tryz.func23 rfl Tryz.ntmps23 rfl ?_
 refine cq (cr ?_)
 refine sQ 6 (yg (.slice none 0 0))<|sQ 7 (yg (.bool false)) (rn (cq (cr ?_)))
 refine sQ 15 (ym (vi n)) ?_
 obtain ⟨r_2,hc,hF⟩:=bI hF
 refine sc 16 rfl rfl (yC [vi n] K68 (Cu n _  (hS.inn0 [] rfl) hc)) ?_
 rintro _ w_ ⟨B3,c3,rfl,hd⟩
 have hS1:=hS.out0 hd
 refine sQ 17 (Y_field1 (v:=.slice B3 r_2.Rows.length c3) K13 K9 rfl rfl rfl)<|sQ 18 (ym (.slice B1 terms.length c1)) ?_
 obtain ⟨r_3,hc1,hF⟩:=bI hF
 refine sc 19 rfl rfl (yC [.slice B1 terms.length c1] LK (Lt terms B1 c1 terms.length _ rfl (hS1.inn0 [(true,1)] rfl) hc1)) ?_
 rintro _ w_1 ⟨B4,c4,rfl,hd1⟩
 have hS2:=hS1.out0 hd1
 refine sS 20 (Ys_bslice0 (s:=3) (e:=59) hS2 K4 K3 rfl) ?_
 rintro _ w_2 ⟨b,rfl,hS3⟩
 refine sS 8 (yN [.slice none 0 0] 1 hS3 Jy) ?_
 rintro _ w_3 ⟨b1,rfl,hS4⟩
 refine sS 9 (yN [.slice none 0 0] 1 hS4 OA) ?_
 rintro _ w_4 ⟨b2,rfl,hS5⟩
 refine sS 10 (yN [.slice none 0 0] 1 hS5 IV) ?_
 rintro _ w_5 ⟨b3,rfl,hS6⟩
 let V1:List Value:=[.slice B3 r_2.Rows.length c3]
 refine s0 (yT 3 1 (aD b1) 24 (.slice B3 r_2.Rows.length c3) V1 0 hS6 K8) ?_
 rintro _ w_6 ⟨rfl,hS7⟩
 refine s0 (yT 4 1 (aD b2) 23 (.slice B4 r_3.length c4) [.slice B4 r_3.length c4] 0 hS7 K35) ?_
 rintro _ w_7 ⟨rfl,hS8⟩
 refine s0 (yT 5 1 (aD b3) 30 (.slice (aD b) 0 0) [.slice (aD b) 0 0] 0 hS8 K11) ?_
 rintro _ w_8 ⟨rfl,hS9⟩
 refine rn (cq (cr ?_))
 refine sQ 21 (Y_makeFunc (cs:=[pt (aD b2) 0,pt (aD b1) 0,pt (aD b3) 0]) rfl rfl (mc rfl (mc rfl (mc rfl mn))))<|sQ 11 (yg (.func (.func 67) #[] #[pt (aD b2) 0,pt (aD b1) 0,pt (aD b3) 0])) (rn (cq (cq (cr ?_))))
 refine sQ 22 (ym (vi n))<|sQ 23 (ym (vi 0)) (rn ?_)
 obtain ⟨hN,hF⟩:=chk_inv hF
 obtain ⟨z,hz,hF1⟩:=bI hF
 refine cw_block ?_
 refine cw_loop (fun k f w=>∃ (i:Nat) (left:List Ab) (out:List Aa) (B5:Option Addr) (c5:Nat) (B6:Option Addr) (c6:Nat),FF f [(1,.slice B gates.length c),(8,pt (aD b1) 0),(9,pt (aD b2) 0),(10,pt (aD b3) 0),(11,.func (.func 67) #[] #[pt (aD b2) 0,pt (aD b1) 0,pt (aD b3) 0]),(22,vi n),(23,vi (i:Int))]∧ST w0 [] w [⟨aD b1,24,V1,1⟩,⟨B3,3,(r_2.Rows.flatMap encI),c3*1⟩,⟨aD b2,23,[.slice B5 left.length c5],1⟩,⟨B5,64,(left.flatMap eN1),c5*2⟩,⟨aD b3,30,[.slice B6 out.length c6],1⟩,⟨B6,59,(out.flatMap eN0),c6*3⟩] [⟨B,(gates.flatMap eN0)⟩,⟨B1,(terms.flatMap eN1)⟩]∧i+k=n.toNat∧forN (Fw r_2) k i (left,out)=some z) n.toNat ⟨0,r_3,[],B4,c4,aD b,0,(fc rfl (fc rfl (fc rfl (fc rfl (fc rfl (fc rfl (fc rfl fn_))))))),(hS9.sel [3,0,4,1,5,2] rfl rfl),Nat.zero_add _,hz⟩ ?_
 rintro k_ f w ⟨i,left,out,B5,c5,B6,c6,hf,hS10,hik,hL⟩
 refine cq (cr ?_)
 refine sQ 24 (yL (i:Int) n rfl (hf.g 23 6) (hf.g 22 5)) (rn (cq ?_))
 refine cw_cond (b:=(decide ((i:Int)<n))) rfl (fun hlt=>?_) (fun hlt=>?_)
 ·skip
  have hlt1:i<n.toNat:=by have h:=of_decide_eq_true hlt; omega
  obtain ⟨K5,rfl⟩:∃ k2,k_=k2+1:=⟨k_-1,by omega⟩
  obtain ⟨y,hb,hL1⟩:=forN_go hL
  unfold Fw at hb
  refine cw_skip (cq (cw_block (cq (cr ?_))))
  refine sQ 25 (ym (vi (i:Int)) rfl (hf.g 23 6))<|sQ 12 (yg (vi (i:Int))) (rn (cr ?_))
  refine sQ 26 (ym (.func (.func 67) #[] #[pt (aD b2) 0,pt (aD b1) 0,pt (aD b3) 0]) rfl (hf.g 11 4))<|sQ 27 (ym (vi (i:Int))) ?_
  obtain ⟨⟨m,m1⟩,hc2,hb⟩:=bI hb
  refine sc 28 rfl rfl (Yc_clos (g:=67) (vs:=[vi (i:Int),pt (aD b2) 0,pt (aD b1) 0,pt (aD b3) 0]) JG rfl rfl (clo_args (mc rfl mn)) (JK (i:Int) left r_2.Rows out (aD b2) B5 c5 left.length (aD b1) B3 c3 r_2.Rows.length (aD b3) B6 c6 out.length _ rfl rfl rfl (hS10.inn [false,false,true,true,true,true] rfl [(false,0),(false,1)] rfl) hc2)) ?_
  rintro _ w_9 ⟨B7,c7,B8,c8,rfl,hd2⟩
  have hS11:=hS10.out [false,false,true,true,true,true] rfl hd2
  refine rn (cr ?_)
  refine sQ 29 (yP (i:Int) 1 rfl (hf.g 23 6))<|sQ 23 (ym (vi (i64.wrap ((i:Int)+1)))) (rn ?_)
  obtain rfl:=sI hb
  exact ⟨K5,Nat.lt_succ_self _,i+1,m,m1,B7,c7,B8,c8,(hf.a 1 0 (hf.a 8 1 (hf.a 9 2 (hf.a 10 3 (hf.a 11 4 (hf.a 22 5 (fc (congrArg (Value.int .i64) (wr_succ hlt1 hN)) fn_))))))),(hS11.sel [0,1,2,4,3,5] rfl rfl),(by omega),hL1⟩
 ·skip
  obtain rfl:k_=0:=by have h:=of_decide_eq_false hlt; omega
  refine cw_exit rfl ?_
  obtain rfl:=sI hL
  refine cq (cq (cr ?_))
  refine sQ 30 (ym (.slice B gates.length c) rfl (hf.g 1 0))<|sQ 31 (Y_len (B:=B) (m:=gates.length) (c:=c) K4 rfl rfl)<|sQ 32 (ym (vi 0)) (rn ?_)
  obtain ⟨hN1,hF1⟩:=chk_inv hF1
  obtain ⟨z1,hz1,hF2⟩:=bI hF1
  refine cw_block ?_
  refine cw_loop (fun k f w=>∃ (i1:Nat) (rows:List Int) (left1:List Ab) (out1:List Aa) (B9:Option Addr) (c9:Nat) (B10:Option Addr) (c10:Nat),FF f [(8,pt (aD b1) 0),(9,pt (aD b2) 0),(10,pt (aD b3) 0),(11,.func (.func 67) #[] #[pt (aD b2) 0,pt (aD b1) 0,pt (aD b3) 0]),(30,.slice B gates.length c),(31,vi (gates.length:Int)),(32,vi (i1:Int))]∧rows.length=r_2.Rows.length∧ST w0 [] w [⟨aD b1,24,V1,1⟩,⟨B3,3,(rows.flatMap encI),c3*1⟩,⟨aD b2,23,[.slice B9 left1.length c9],1⟩,⟨B9,64,(left1.flatMap eN1),c9*2⟩,⟨aD b3,30,[.slice B10 out1.length c10],1⟩,⟨B10,59,(out1.flatMap eN0),c10*3⟩] [⟨B,(gates.flatMap eN0)⟩,⟨B1,(terms.flatMap eN1)⟩]∧i1+k=gates.length∧forN (Dj gates) k i1 (rows,left1,out1)=some z1) gates.length ⟨0,r_2.Rows,left,out,B5,c5,B6,c6,(hf.a 8 1 (hf.a 9 2 (hf.a 10 3 (hf.a 11 4 (fc rfl (fc rfl (fc rfl fn_))))))),rfl,(hS10.sel [0,1,2,3,4,5] rfl rfl),Nat.zero_add _,hz1⟩ ?_
  rintro K19 f w ⟨i1,rows,left1,out1,B9,c9,B10,c10,hf1,hl,hS12,hik1,hL2⟩
  refine cq (cr ?_)
  refine sQ 33 (yL (i1:Int) (gates.length:Int) rfl (hf1.g 32 6) (hf1.g 31 5)) (rn (cq ?_))
  refine cw_cond (b:=(decide ((i1:Int)<(gates.length:Int)))) rfl (fun hlt2=>?_) (fun hlt2=>?_)
  ·skip
   have hlt3:i1<gates.length:=by have h:=of_decide_eq_true hlt2; omega
   obtain ⟨K32,rfl⟩:∃ k2,K19=k2+1:=⟨K19-1,by omega⟩
   obtain ⟨y1,hb1,hL3⟩:=forN_go hL2
   unfold Dj at hb1
   refine cw_skip (cq (cw_block (cq (cr ?_))))
   obtain ⟨x,hx,hb1⟩:=bI hb1
   let V0:List Value:=[vi x.Kind,vi x.A,vi x.B]
   refine sQ 34 (yI B (i1:Int) K4 K3 (gi_isSome eN2 rfl (hS12.rf (i:=0) rfl) hx) (getI_nn hx) (getI_ltI hx rfl) rfl (hf1.g 30 4) (hf1.g 32 6))<|sQ 35 (ya B ((i1:Int).toNat*3) (gates.flatMap eN0) V0 K30 K3 (hS12.rf (i:=0) rfl) rfl rfl (eN2 x) (gi_seg eN2 hx)) ?_
   refine sS 14 (yN [vi 0,vi 0,vi 0] 3 hS12 K10) ?_
   rintro _ w_10 ⟨b4,rfl,hS13⟩
   refine s0 (yT 6 3 (aD b4) 59 (.agg V0.toArray) V0 0 hS13 K3) ?_
   rintro _ w_11 ⟨rfl,hS14⟩
   refine rn (cq ?_)
   obtain ⟨x1,hx1,hb1⟩:=bI hb1
   obtain ⟨x2,hx2,hb1⟩:=bI hb1
   refine ra_start (hS14.se [0,2,3,4,5,6]).fn (by kernel_rfl) ?_
   have hS15:=hS14.drew
   have hQ0:=hS15.se [0,2,3,4,5,6]
   refine rq 0 36 rfl hQ0 (fun w' hw'=>(yl (aD b1) 0 V1 (.slice B3 r_2.Rows.length c3) K9 (ST.cf hw' (i:=0) rfl) rfl (hf1.g 8 0)))<|rq 1 37 (v:=pt (aD b4) 2) rfl hQ0 (fun w' hw'=>(yd (aD b4) 0 0 K27 K0))<|rq 2 38 rfl hQ0 (fun w' hw'=>(yl (aD b4) 2 V0 (vi x.B) K1 (ST.cf hw' (i:=5) rfl)))<|rq 3 39 (v:=pt B3 (x.B.toNat*1)) rfl hQ0 (fun w' hw'=>(yI B3 x.B K2 K0 (gi_isSome encI_len rfl (hS15.c 1) hx1) (getI_nn hx1) (getI_ltI hx1 hl)))<|rq 5 41 rfl hQ0 (fun w' hw'=>(yl (aD b1) 0 V1 (.slice B3 r_2.Rows.length c3) K9 (ST.cf hw' (i:=0) rfl) rfl (hf1.g 8 0))) ?_
   refine rq 6 42 (v:=pt (aD b4) 1) rfl hQ0 (fun w' hw'=>(yd (aD b4) 0 0 K29 K0))<|rq 7 43 rfl hQ0 (fun w' hw'=>(yl (aD b4) 1 V0 (vi x.A) K1 (ST.cf hw' (i:=5) rfl)))<|rq 8 44 (v:=pt B3 (x.A.toNat*1)) rfl hQ0 (fun w' hw'=>(yI B3 x.A K2 K0 (gi_isSome encI_len rfl (hS15.c 1) hx2) (getI_nn hx2) (getI_ltI hx2 hl)))<|ra_now 4 40 [10,11,12] rfl hQ0 (yl B3 (x.B.toNat*1) (rows.flatMap encI) (vi x1) K1 (hS15.c 1) rfl rfl (gi_at0 encI_len hx1 rfl))<|r1 45 9 rfl (yl B3 (x.A.toNat*1) (rows.flatMap encI) (vi x2) K1 (hS15.c 1) rfl rfl (gi_at0 encI_len hx2 rfl)) hQ0 ?_
   refine rq 10 46 (v:=vi (bits .xor .i64 x1 x2)) rfl hQ0 (fun w' hw'=>(Y_bxor (k:=.i64) (a:=x1) (b:=x2) rfl rfl rfl))<|rq 11 47 (v:=pt B3 (x.B.toNat*1)) rfl hQ0 (fun w' hw'=>(yI B3 x.B K2 K0 (gi_isSome encI_len rfl (hS15.c 1) hx1) (getI_nn hx1) (getI_ltI hx1 hl))) ?_
   refine rA [12] ?_
   refine rZ 12 rfl (yS 1 1 B3 3 (vi (bits .xor .i64 x1 x2)) [vi (bits .xor .i64 x1 x2)] (x.B.toNat*1) ((rows.set x.B.toNat (bits .xor .i64 x1 x2)).flatMap encI) hS15 K0 rfl rfl rfl rfl rfl rfl rfl (gi_fit0 encI_len hx1) (gi_set encI_len hx1 (bits .xor .i64 x1 x2) rfl)) ?_ aN
   rintro _ w_12 ⟨rfl,hS16⟩
   refine ⟨(hS16.se [0,2,3,4,5,6]),?_⟩
   refine ra_done (by kernel_rfl) ?_
   refine cq (cr ?_)
   refine sQ 48 (yl (aD b3) 0 [.slice B10 out1.length c10] (.slice B10 out1.length c10) K18 (hS16.c 4) rfl (hf1.g 10 2))<|sQ 49 (yb (aD b4) 0 V0 K30 K3 (hS16.c 6)) ?_
   refine sS 50 (Ys_bslice (s:=3) (len:=1) (vs:=[(0,.agg V0.toArray)]) (cs:=V0) (zs:=[vi 0,vi 0,vi 0]) (m:=3) hS16 K4 K3 K26 rfl (mpc rfl mpn) rfl rfl rfl (by kernel_rfl) (by kernel_rfl) rfl) ?_
   rintro _ w_13 ⟨b5,rfl,hS17⟩
   obtain ⟨hap,hb1⟩:=chk_inv hb1
   refine sS 51 (Ys_append (s:=3) (by':=24) (i:=5) (nn:=out1.length) (c:=c10) (k:=1) (len:=(out1++[x]).length) (B:=B10) (xs:=([x].flatMap eN0)) (cs':=((out1++[x]).flatMap eN0)) hS17 K4 K3 K23 K10 rfl (by decide) rfl rfl rfl rfl (fm_lenn (l:=out1) eN2 rfl) rfl (hS17.c 7) (fm_lenn (l:=[x]) eN2 rfl) (fm_one' (enc:=eN0) Al [x]) (by have:=hap; omega) (by have:=hap; simp only [maxLen]; omega) (fm_app _ _) (app_len (l:=out1) (l':=[x]) rfl rfl)) ?_
   rintro _ w_14 ⟨B11,c11,rfl,hS18⟩
   refine s0 (yT 4 1 (aD b3) 30 (.slice B11 ((out1++[x]).length) c11) [.slice B11 ((out1++[x]).length) c11] 0 hS18 K11 rfl (hf1.g 10 2)) ?_
   rintro _ w_15 ⟨rfl,hS19⟩
   refine rn (cr ?_)
   refine sQ 52 (ym (.func (.func 67) #[] #[pt (aD b2) 0,pt (aD b1) 0,pt (aD b3) 0]) rfl (hf1.g 11 3))<|sQ 53 (yd (aD b4) 0 0 K27 K0)<|sQ 54 (yl (aD b4) 2 V0 (vi x.B) K1 (hS19.c 6)) ?_
   obtain ⟨⟨m2,m3⟩,hc3,hb1⟩:=bI hb1
   refine sc 55 rfl rfl (Yc_clos (g:=67) (vs:=[vi x.B,pt (aD b2) 0,pt (aD b1) 0,pt (aD b3) 0]) JG rfl rfl (clo_args (mc rfl mn)) (JK x.B left1 (rows.set x.B.toNat (bits .xor .i64 x1 x2)) (out1++[x]) (aD b2) B9 c9 left1.length (aD b1) B3 c3 r_2.Rows.length (aD b3) B11 c11 ((out1++[x]).length) _ rfl (set_len _ _ _ hl) rfl (hS19.inn [false,false,true,true,true,true,false,false] rfl [(false,0),(false,1)] rfl) hc3)) ?_
   rintro _ w_16 ⟨B12,c12,B13,c13,rfl,hd3⟩
   have hS20:=hS19.out [false,false,true,true,true,true,false,false] rfl hd3
   refine rn (cr ?_)
   refine sQ 56 (yP (i1:Int) 1 rfl (hf1.g 32 6))<|sQ 32 (ym (vi (i64.wrap ((i1:Int)+1)))) (rn ?_)
   obtain rfl:=sI hb1
   exact ⟨K32,Nat.lt_succ_self _,i1+1,(rows.set x.B.toNat (bits .xor .i64 x1 x2)),m2,m3,B12,c12,B13,c13,(hf1.a 8 0 (hf1.a 9 1 (hf1.a 10 2 (hf1.a 11 3 (hf1.a 30 4 (hf1.a 31 5 (fc (congrArg (Value.int .i64) (wr_succ hlt3 hN1)) fn_))))))),(set_len _ _ _ hl),(hS20.sel [0,1,4,6,5,7] rfl rfl),(by omega),hL3⟩
  ·skip
   obtain rfl:K19=0:=by have h:=of_decide_eq_false hlt2; omega
   refine cw_exit rfl ?_
   obtain rfl:=sI hL2
   refine cq ?_
   refine ra_start (hS12.se [0,1,2,3,4,5]).fn (by kernel_rfl) ?_
   have hS21:=hS12.drew
   have hQ1:=hS21.se [0,1,2,3,4,5]
   refine rq 0 57 rfl hQ1 (fun w' hw'=>(yl (aD b3) 0 [.slice B10 out1.length c10] (.slice B10 out1.length c10) K18 (ST.cf hw' (i:=4) rfl) rfl (hf1.g 10 2)))<|rq 1 58 rfl hQ1 (fun w' hw'=>(yl (aD b2) 0 [.slice B9 left1.length c9] (.slice B9 left1.length c9) K42 (ST.cf hw' (i:=2) rfl) rfl (hf1.g 9 1)))<|rq 2 59 (v:=vi (left1.length:Int)) rfl hQ1 (fun w' hw'=>(Y_len (B:=B9) (m:=left1.length) (c:=c9) K14 rfl rfl))<|rq 3 60 rfl hQ1 (fun w' hw'=>(yE (left1.length:Int) 0))<|rq 4 6 rfl hQ1 (fun w' hw'=>(yg (.slice B10 out1.length c10))) ?_
   refine rq 5 7 rfl hQ1 (fun w' hw'=>(yg (.bool ((left1.length:Int)==0)))) ?_
   refine ra_done (by kernel_rfl) ?_
   refine ct_ ?_
   obtain ⟨rfl,rfl⟩:=pr2 (sI hF2)
   exact ret2 Tryz.results23 (v1:=.slice B10 out1.length c10) (resAt_tmp rfl) (v2:=.bool ((left1.length:Int)==0)) (resAt_tmp rfl) ⟨B10,c10,rfl,(hS21.sN [5])⟩

theorem PD (slices:List (List Aa)) (B:Option Addr) (c n:Nat) (D:List (Hd×(List Aa))) (w0:World) (hn:slices.length=n) (hD:D.map Prod.snd=slices) (hS:ST w0 [] w0 [] (⟨B,(D.flatMap Bz)⟩::((D.flatMap A1)++[]))) {r_:List Aa} (hF:Eq slices=some r_) :
  CV Tryz.prog 24 #[.slice B n c] w0 (fun v w'=>∃ (B1:Option Addr) (c1:Nat),v=.slice B1 r_.length c1∧ST w0 [] w' [⟨B1,59,(r_.flatMap eN0),c1*3⟩] []):=by
 subst hn
 unfold Eq at hF
 refine cv_of_cw 36 Tryz.func24 rfl Tryz.ntmps24 rfl ?_
 refine cq (cr ?_)
 refine sQ 2 (yg (.slice none 0 0)) (rn (cq (cr ?_)))
 refine sQ 3 (yg (vi 0)) (rn (cq (cq (cr ?_))))
 refine sQ 9 (ym (.slice B slices.length c))<|sQ 10 (Y_len (B:=B) (m:=slices.length) (c:=c) K86 rfl rfl)<|sQ 11 (ym (vi 0)) (rn ?_)
 obtain ⟨hN,hF⟩:=chk_inv hF
 obtain ⟨z,hz,hF1⟩:=bI hF
 refine cw_block ?_
 let R0:Ro:=⟨B,(D.flatMap Bz)⟩
 refine cw_loop (fun k f w=>∃ (i:Nat) (size:Int),FF f [(0,.slice B slices.length c),(3,vi size),(9,.slice B slices.length c),(10,vi (slices.length:Int)),(11,vi (i:Int))]∧ST w0 [] w [] (R0::((D.flatMap A1)++[]))∧i+k=slices.length∧forN (BZ slices) k i size=some z) slices.length ⟨0,0,(fc rfl (fc rfl (fc rfl (fc rfl (fc rfl fn_))))),(hS.sel [] rfl rfl),Nat.zero_add _,hz⟩ ?_
 rintro k_ f w ⟨i,size,hf,hS1,hik,hL⟩
 refine cq (cr ?_)
 refine sQ 12 (yL (i:Int) (slices.length:Int) rfl (hf.g 11 4) (hf.g 10 3)) (rn (cq ?_))
 refine cw_cond (b:=(decide ((i:Int)<(slices.length:Int)))) rfl (fun hlt=>?_) (fun hlt=>?_)
 ·skip
  have hlt1:i<slices.length:=by have h:=of_decide_eq_true hlt; omega
  obtain ⟨K5,rfl⟩:∃ k2,k_=k2+1:=⟨k_-1,by omega⟩
  obtain ⟨y,hb,hL1⟩:=forN_go hL
  unfold BZ at hb
  refine cw_skip (cq (cw_block (cq (cr ?_))))
  obtain ⟨x,hx,hb⟩:=bI hb
  obtain ⟨⟨B2,c2⟩,hp⟩:=getI_snd hD hx
  refine sQ 13 (yI B (i:Int) K86 K11 (gi_isSome Gf rfl (hS1.rf (i:=0) rfl) hp) (getI_nn hp) (getI_ltI hp (dl_len hD)) rfl (hf.g 9 2) (hf.g 11 4)) ?_
  have hm:(⟨B2,(x.flatMap eN0)⟩:Ro)∈((⟨B,(D.flatMap Bz)⟩::((D.flatMap A1)++[])):List Ro):=app_mem (fun r_ (h:r_∈((D.flatMap A1):List Ro))=>mOd (i:=1) (show r_∈((((D.flatMap A1)++[])):List Ro) from mAl _ h)) (row_mem (rw_:=A1) hp _ (mt 0))
  have hS2:ST w0 [] _ [] (⟨B2,(x.flatMap eN0)⟩::R0::((D.flatMap A1)++[])):=ST.subR hS1 (subc hm (fun _ h=>h))
  refine sQ 14 (yl B ((i:Int).toNat*1) (D.flatMap Bz) (.slice B2 x.length c2) K18 (hS2.rf (i:=1) rfl) rfl rfl (gi_at0 Gf hp rfl))<|sQ 5 (yg (.slice B2 x.length c2)) (rn (cq (cr ?_)))
  refine sQ 15 (ym (vi size) rfl (hf.g 3 1))<|sQ 16 (ym (.slice B2 x.length c2))<|sQ 17 (Y_len (B:=B2) (m:=x.length) (c:=c2) K4 rfl rfl)<|sQ 18 (yP size (x.length:Int))<|sQ 3 (yg (vi (i64.wrap (size+(x.length:Int))))) (rn (cq (cr ?_)))
  refine sQ 19 (ym (vi (i64.wrap (size+(x.length:Int)))))<|sQ 20 (yL (i64.wrap (size+(x.length:Int))) 0) (rn ?_)
  refine cw_cond (b:=(decide ((i64.wrap (size+(x.length:Int)))<0))) rfl (fun hb1=>?_) (fun hb1=>?_)
  ·skip
   have hF2:=ct hb hb1
   cases hF2
  ·skip
   have hF3:=cf' hb hb1
   refine cw_skip (cr ?_)
   refine sQ 22 (yP (i:Int) 1 rfl (hf.g 11 4))<|sQ 11 (ym (vi (i64.wrap ((i:Int)+1)))) (rn ?_)
   obtain rfl:=sI hF3
   have hS3:ST w0 [] _ [] (R0::((D.flatMap A1)++[])):=hS2.sR 2 [1]
   exact ⟨K5,Nat.lt_succ_self _,i+1,(i64.wrap (size+(x.length:Int))),(hf.a 0 0 (fc rfl (hf.a 9 2 (hf.a 10 3 (fc (congrArg (Value.int .i64) (wr_succ hlt1 hN)) fn_))))),(hS3.sel [] rfl rfl),(by omega),hL1⟩
 ·skip
  obtain rfl:k_=0:=by have h:=of_decide_eq_false hlt; omega
  refine cw_exit rfl ?_
  obtain rfl:=sI hL
  refine cq (cr ?_)
  refine sQ 23 (ym (vi size) rfl (hf.g 3 1)) ?_
  obtain ⟨hmk,hF1⟩:=chk_inv hF1
  refine sc 24 rfl rfl (yC [.slice none 0 0,vi size] MW (grow_c Tryz.grow72 72 59 rfl rfl size K3 K23 K10 rfl (by decide) (by decide) hmk hS1)) ?_
  rintro _ w_ ⟨B3,c3,rfl,hd⟩
  refine sQ 6 (yg (.slice B3 0 c3)) (rn (cq (cq (cr ?_))))
  refine sQ 25 (ym (.slice B slices.length c) rfl (hf.g 0 0))<|sQ 26 (Y_len (B:=B) (m:=slices.length) (c:=c) K86 rfl rfl)<|sQ 27 (ym (vi 0)) (rn ?_)
  obtain ⟨hN1,hF1⟩:=chk_inv hF1
  obtain ⟨z1,hz1,hF4⟩:=bI hF1
  refine cw_block ?_
  refine cw_loop (fun k f w=>∃ (i1:Nat) (newslice:List Aa) (B4:Option Addr) (c4:Nat),FF f [(6,.slice B4 newslice.length c4),(25,.slice B slices.length c),(26,vi (slices.length:Int)),(27,vi (i1:Int))]∧ST w0 [] w [⟨B4,59,(newslice.flatMap eN0),c4*3⟩] (R0::((D.flatMap A1)++[]))∧i1+k=slices.length∧forN (Ct slices) k i1 newslice=some z1) slices.length ⟨0,([]:List Aa),B3,c3,(fc rfl (fc rfl (fc rfl (fc rfl fn_)))),(hd.sel [0] rfl rfl),Nat.zero_add _,hz1⟩ ?_
  rintro K19 f w ⟨i1,newslice,B4,c4,hf1,hS4,hik1,hL2⟩
  refine cq (cr ?_)
  refine sQ 28 (yL (i1:Int) (slices.length:Int) rfl (hf1.g 27 3) (hf1.g 26 2)) (rn (cq ?_))
  refine cw_cond (b:=(decide ((i1:Int)<(slices.length:Int)))) rfl (fun hlt2=>?_) (fun hlt2=>?_)
  ·skip
   have hlt3:i1<slices.length:=by have h:=of_decide_eq_true hlt2; omega
   obtain ⟨K32,rfl⟩:∃ k2,K19=k2+1:=⟨K19-1,by omega⟩
   obtain ⟨y1,hb2,hL3⟩:=forN_go hL2
   unfold Ct at hb2
   refine cw_skip (cq (cw_block (cq (cr ?_))))
   obtain ⟨x1,hx1,hb2⟩:=bI hb2
   obtain ⟨⟨B5,c5⟩,hp1⟩:=getI_snd hD hx1
   refine sQ 29 (yI B (i1:Int) K86 K11 (gi_isSome Gf rfl (hS4.rf (i:=0) rfl) hp1) (getI_nn hp1) (getI_ltI hp1 (dl_len hD)) rfl (hf1.g 25 1) (hf1.g 27 3)) ?_
   have hm1:(⟨B5,(x1.flatMap eN0)⟩:Ro)∈((⟨B,(D.flatMap Bz)⟩::((D.flatMap A1)++[])):List Ro):=app_mem (fun r_ (h:r_∈((D.flatMap A1):List Ro))=>mOd (i:=1) (show r_∈((((D.flatMap A1)++[])):List Ro) from mAl _ h)) (row_mem (rw_:=A1) hp1 _ (mt 0))
   have hS5:ST w0 [] _ [⟨B4,59,(newslice.flatMap eN0),c4*3⟩] (⟨B5,(x1.flatMap eN0)⟩::R0::((D.flatMap A1)++[])):=ST.subR hS4 (subc hm1 (fun _ h=>h))
   refine sQ 30 (yl B ((i1:Int).toNat*1) (D.flatMap Bz) (.slice B5 x1.length c5) K18 (hS5.rf (i:=1) rfl) rfl rfl (gi_at0 Gf hp1 rfl))<|sQ 8 (yg (.slice B5 x1.length c5)) (rn (cr ?_))
   refine sQ 31 (ym (.slice B4 newslice.length c4) rfl (hf1.g 6 0))<|sQ 32 (ym (.slice B5 x1.length c5)) ?_
   obtain ⟨hap,hb2⟩:=chk_inv hb2
   refine sS 33 (Ys_append (s:=3) (by':=24) (i:=0) (nn:=newslice.length) (c:=c4) (k:=x1.length) (len:=(newslice++x1).length) (B:=B4) (xs:=(x1.flatMap eN0)) (cs':=((newslice++x1).flatMap eN0)) hS5 K4 K3 K23 K10 rfl (by decide) rfl rfl rfl rfl (fm_lenn (l:=newslice) eN2 rfl) rfl (hS5.rf (i:=0) rfl) (fm_lenn (l:=x1) eN2 rfl) (fm_one' (enc:=eN0) Al x1) (by have:=hap; omega) (by have:=hap; simp only [maxLen]; omega) (fm_app _ _) (app_len (l:=newslice) (l':=x1) rfl rfl)) ?_
   rintro _ w_1 ⟨B6,c6,rfl,hS6⟩
   refine sQ 6 (yg (.slice B6 ((newslice++x1).length) c6)) (rn (cr ?_))
   refine sQ 34 (yP (i1:Int) 1 rfl (hf1.g 27 3))<|sQ 27 (ym (vi (i64.wrap ((i1:Int)+1)))) (rn ?_)
   obtain rfl:=sI hb2
   have hS7:ST w0 [] _ [⟨B6,59,((newslice++x1).flatMap eN0),c6*3⟩] (R0::((D.flatMap A1)++[])):=hS6.sR 2 [1]
   exact ⟨K32,Nat.lt_succ_self _,i1+1,(newslice++x1),B6,c6,(fc rfl (hf1.a 25 1 (hf1.a 26 2 (fc (congrArg (Value.int .i64) (wr_succ hlt3 hN1)) fn_)))),(hS7.sel [0] rfl rfl),(by omega),hL3⟩
  ·skip
   obtain rfl:K19=0:=by have h:=of_decide_eq_false hlt2; omega
   refine cw_exit rfl ?_
   obtain rfl:=sI hL2
   refine cq (cr ?_)
   refine sQ 35 (ym (.slice B4 newslice.length c4) rfl (hf1.g 6 0))<|sQ 2 (yg (.slice B4 newslice.length c4)) (rn (ct_ ?_))
   obtain rfl:=sI hF4
   exact ret1 Tryz.results24 (v1:=.slice B4 newslice.length c4) (resAt_tmp rfl) ⟨B4,c4,rfl,(hS4.sN [0])⟩

theorem LR (s:List Aa) (B:Option Addr) (c n:Nat) (w0:World) (hn:s.length=n) (hS:ST w0 (bl [⟨B,59,(s.flatMap eN0),c*3⟩]) w0 [⟨B,59,(s.flatMap eN0),c*3⟩] []) {m:List Aa} (hF:Eb s=some m) :
  CV Tryz.prog 73 #[.slice B n c] w0 (fun v w'=>v=.tuple #[]∧m.length=n∧ST w0 (bl [⟨B,59,(s.flatMap eN0),c*3⟩]) w' [⟨B,59,(m.flatMap eN0),c*3⟩] []):=by
 subst hn
 unfold Eb at hF
 refine cv_of_cw 28 Tryz.func73 rfl Tryz.ntmps73 rfl ?_
 refine cq (cr ?_)
 refine sQ 4 (ym (.slice B s.length c))<|sQ 5 (Y_len (B:=B) (m:=s.length) (c:=c) K4 rfl rfl)<|sQ 6 (yM (s.length:Int) 1)<|sQ 2 (yg (vi 0))<|sQ 3 (yg (vi (i64.wrap ((s.length:Int)-1)))) (rn ?_)
 obtain ⟨z,hz,hF1⟩:=bI hF
 refine cw_block ?_
 refine cw_loop (fun k f w=>∃ (m1:List Aa) (i:Int) (j:Int),FF f [(0,.slice B s.length c),(2,vi i),(3,vi j)]∧m1.length=s.length∧ST w0 (bl [⟨B,59,(s.flatMap eN0),c*3⟩]) w [⟨B,59,(m1.flatMap eN0),c*3⟩] []∧whX ED k (m1,i,j)=some z) fuel ⟨s,0,(i64.wrap ((s.length:Int)-1)),(fc rfl (fc rfl (fc rfl fn_))),rfl,(hS.sel [0] rfl rfl),hz⟩ ?_
 rintro k_ f w ⟨m1,i,j,hf,hl,hS1,hL⟩
 obtain ⟨K5,y,rfl,hb,hL1⟩:=whX_go hL
 unfold ED at hb
 refine cq (cq (cr ?_))
 refine sQ 7 (ym (vi i) rfl (hf.g 2 1))<|sQ 8 (ym (vi j) rfl (hf.g 3 2))<|sQ 9 (yL i j) (rn ?_)
 refine cw_cond (b:=(decide (i<j))) rfl (fun hb1=>?_) (fun hb1=>?_)
 ·skip
  have hF2:=ct hb hb1
  refine cw_skip (cq (cw_block ?_))
  obtain ⟨x,hx,hF2⟩:=bI hF2
  obtain ⟨x1,hx1,hF2⟩:=bI hF2
  obtain ⟨x2,hx2,hF2⟩:=bI hF2
  refine ra_start (hS1.se []).fn (by kernel_rfl) ?_
  have hS2:=hS1.drew
  have hQ0:=hS2.se []
  refine rq 0 14 rfl hQ0 (fun w' hw'=>(ym (.slice B s.length c) rfl (hf.g 0 0)))<|rq 1 15 rfl hQ0 (fun w' hw'=>(ym (vi i) rfl (hf.g 2 1)))<|rq 2 16 rfl hQ0 (fun w' hw'=>(ym (.slice B s.length c) rfl (hf.g 0 0)))<|rq 3 17 rfl hQ0 (fun w' hw'=>(ym (vi j) rfl (hf.g 3 2)))<|rq 4 18 rfl hQ0 (fun w' hw'=>(ym (.slice B s.length c) rfl (hf.g 0 0))) ?_
  refine rq 5 19 rfl hQ0 (fun w' hw'=>(ym (vi j) rfl (hf.g 3 2)))<|rq 6 20 (v:=pt B (j.toNat*3)) rfl hQ0 (fun w' hw'=>(yI B j K4 K3 (gi_isSome eN2 rfl (hS2.c 0) hx) (getI_nn hx) (getI_ltI hx hl)))<|rq 8 22 rfl hQ0 (fun w' hw'=>(ym (.slice B s.length c) rfl (hf.g 0 0)))<|rq 9 23 rfl hQ0 (fun w' hw'=>(ym (vi i) rfl (hf.g 2 1)))<|rq 10 24 (v:=pt B (i.toNat*3)) rfl hQ0 (fun w' hw'=>(yI B i K4 K3 (gi_isSome eN2 rfl (hS2.c 0) hx1) (getI_nn hx1) (getI_ltI hx1 hl))) ?_
  refine ra_now 7 21 [12,13,14,15] rfl hQ0 (ya B (j.toNat*3) (m1.flatMap eN0) [vi x.Kind,vi x.A,vi x.B] K30 K3 (hS2.c 0) rfl rfl (eN2 x) (gi_seg eN2 hx))<|r1 25 11 rfl (ya B (i.toNat*3) (m1.flatMap eN0) [vi x1.Kind,vi x1.A,vi x1.B] K30 K3 (hS2.c 0) rfl rfl (eN2 x1) (gi_seg eN2 hx1)) hQ0<|rq 12 26 (v:=pt B (i.toNat*3)) rfl hQ0 (fun w' hw'=>(yI B i K4 K3 (gi_isSome eN2 rfl (hS2.c 0) hx1) (getI_nn hx1) (getI_ltI hx1 hl))) ?_
  refine rA [13] ?_
  refine rZ 13 rfl (yS 0 3 B 59 (.agg #[vi x.Kind,vi x.A,vi x.B]) [vi x.Kind,vi x.A,vi x.B] (i.toNat*3) ((m1.set i.toNat x).flatMap eN0) hS2 K3 rfl rfl rfl rfl rfl rfl rfl (gi_fit0 eN2 hx1) (gi_set eN2 hx1 x rfl)) ?_ aN
  rintro _ w_ ⟨rfl,hS3⟩
  refine ⟨(hS3.se []),?_⟩
  refine rq 14 27 (v:=pt B (j.toNat*3)) rfl (hS3.se []) (fun w' hw'=>(yI B j K4 K3 (gi_isSome eN2 rfl (hS3.c 0) hx2) (getI_nn hx2) (getI_ltI hx2 (set_len _ _ _ hl)))) ?_
  refine rA [15] ?_
  refine rZ 15 rfl (yS 0 3 B 59 (.agg #[vi x1.Kind,vi x1.A,vi x1.B]) [vi x1.Kind,vi x1.A,vi x1.B] (j.toNat*3) (((m1.set i.toNat x).set j.toNat x1).flatMap eN0) hS3 K3 rfl rfl rfl rfl rfl rfl rfl (gi_fit0 eN2 hx2) (gi_set eN2 hx2 x1 rfl)) ?_ aN
  rintro _ w_1 ⟨rfl,hS4⟩
  refine ⟨(hS4.se []),?_⟩
  refine ra_done (by kernel_rfl) ?_
  refine cr ?_
  refine sQ 10 (ym (vi i) rfl (hf.g 2 1))<|sQ 11 (yP i 1)<|sQ 12 (ym (vi j) rfl (hf.g 3 2))<|sQ 13 (yM j 1)<|sQ 2 (yg (vi (i64.wrap (i+1))))<|sQ 3 (yg (vi (i64.wrap (j-1)))) (rn ?_)
  obtain rfl:=sI hF2
  exact ⟨K5,Nat.lt_succ_self _,((m1.set i.toNat x).set j.toNat x1),(i64.wrap (i+1)),(i64.wrap (j-1)),(hf.a 0 0 (fc rfl (fc rfl fn_))),(set_len _ _ _ (set_len _ _ _ hl)),(hS4.sel [0] rfl rfl),hL1⟩
 ·skip
  have hF3:=cf' hb hb1
  refine cw_exit rfl ?_
  obtain rfl:=sI hF3
  obtain rfl:=sI hL1
  obtain rfl:=sI hF1
  exact ret0 Tryz.results73  ⟨rfl,hl,(hS1.sN [0])⟩

theorem PJ (m:Ad) (B:Option Addr) (c n:Nat) (w0:World) (hn:m.Rows.length=n) (hS:ST w0 [] w0 [] [⟨B,(m.Rows.flatMap encI)⟩]) {r_:List Aa} (hF:Ee m=some r_) :
  CV Tryz.prog 25 #[.agg #[.slice B n c]] w0 (fun v w'=>∃ (B1:Option Addr) (c1:Nat),v=.slice B1 r_.length c1∧ST w0 [] w' [⟨B1,59,(r_.flatMap eN0),c1*3⟩] []):=by
 subst hn
 unfold Ee at hF
 refine cv_of_cw 9 Tryz.func25 rfl Tryz.ntmps25 rfl ?_
 refine cq (cr ?_)
 let V0:List Value:=[.slice B m.Rows.length c]
 refine sS 1 (yB 26 (.agg V0.toArray) V0 1 hS) ?_
 rintro _ w_ ⟨b,rfl,hS1⟩
 refine sQ 2 (yg (.slice none 0 0)) (rn (cq (cr ?_)))
 refine sQ 4 (yb (aD b) 0 V0 K16 K6 (hS1.c 0)) ?_
 obtain ⟨r_1,hc,hF⟩:=bI hF
 refine sc 5 rfl rfl (yC [.agg V0.toArray] Ki (KE m B c m.Rows.length _ rfl (hS1.inn0 [(true,0)] rfl) hc)) ?_
 rintro _ w_1 ⟨B2,c2,rfl,hd⟩
 have hS2:=hS1.out0 hd
 refine sQ 3 (yg (.slice B2 r_1.length c2)) (rn (cq (cr ?_)))
 refine sQ 6 (ym (.slice B2 r_1.length c2)) ?_
 obtain ⟨m1,hc1,hF⟩:=bI hF
 refine sc 7 rfl rfl (yC [.slice B2 r_1.length c2] Lw (LR r_1 B2 c2 r_1.length _ rfl (hS2.inn [false,true] rfl [] rfl) hc1)) ?_
 rintro _ w_2 ⟨rfl,hl,hd1⟩
 have hS3:=hS2.out [false,true] rfl hd1
 refine rn (cq (cr ?_))
 refine sQ 8 (ym (.slice B2 r_1.length c2))<|sQ 2 (yg (.slice B2 r_1.length c2)) (rn (ct_ ?_))
 obtain rfl:=sI hF
 exact ret1 Tryz.results25 (v1:=.slice B2 r_1.length c2) (resAt_tmp rfl) ⟨B2,c2,(sl_eqv hl),(hS3.sN [1])⟩

theorem Ij (n:Int) (gates:List Aa) (B:Option Addr) (c n1:Nat) (w0:World) (hn:gates.length=n1) (hS:ST w0 [] w0 [] [⟨B,(gates.flatMap eN0)⟩]) {r_:Ae} {r_1:Bool} (hF:BV n gates=some (r_,r_1)) :
  CV Tryz.prog 26 #[vi n,.slice B n1 c] w0 (fun v w'=>∃ (B1:Option Addr) (c1:Nat),v=.tuple #[.agg #[vi r_.Qubits,.slice B1 r_.Gates.length c1],.bool r_1]∧ST w0 [] w' [⟨B1,59,(r_.Gates.flatMap eN0),c1*3⟩] []):=by
 subst hn
 unfold BV at hF
 refine cv_of_cw 17 Tryz.func26 rfl Tryz.ntmps26 rfl ?_
 refine cq (cr ?_)
 let V1:List Value:=[vi 0,.slice none 0 0]
 refine sS 4 (yN V1 2 hS K21) ?_
 rintro _ w_ ⟨b,rfl,hS1⟩
 refine sQ 5 (yg (.bool false)) (rn (cq (cr ?_)))
 refine sQ 7 (ym (vi n)) ?_
 refine sS 8 (Ys_bslice0 (s:=3) (e:=59) hS1 K4 K3 rfl) ?_
 rintro _ w_1 ⟨b1,rfl,hS2⟩
 refine sQ 9 (ym (.slice B gates.length c)) ?_
 obtain ⟨hap,hF⟩:=chk_inv hF
 refine sS 10 (Ys_append (s:=3) (by':=24) (i:=1) (nn:=0) (c:=0) (k:=gates.length) (len:=gates.length) (B:=aD b1) (xs:=(gates.flatMap eN0)) (cs':=(gates.flatMap eN0)) hS2 K4 K3 K23 K10 rfl (by decide) rfl rfl rfl rfl (fm_lenn (l:=[]) eN2 rfl) rfl (hS2.rf (i:=0) rfl) (fm_lenn (l:=gates) eN2 rfl) (fm_one' (enc:=eN0) Al gates) (by have:=hap; omega) (by have:=hap; simp only [maxLen]; omega) rfl (app_len0 (l:=gates) rfl)) ?_
 rintro _ w_2 ⟨B2,c2,rfl,hS3⟩
 let V0:List Value:=[vi n,.slice B2 gates.length c2]
 refine sQ 11 (Y_buildS (zs:=V1) (vs:=[(0,vi n),(1,.slice B2 gates.length c2)]) (cs:=V0) K46 K21 rfl (mpc rfl (mpc rfl mpn)) rfl) ?_
 refine sS 6 (yN V1 2 hS3 K21) ?_
 rintro _ w_3 ⟨b2,rfl,hS4⟩
 refine s0 (yT 2 2 (aD b2) 32 (.agg V0.toArray) V0 0 hS4 K7) ?_
 rintro _ w_4 ⟨rfl,hS5⟩
 refine rn (cq (cq (cr ?_)))
 refine sQ 12 (yb (aD b2) 0 V0 K12 K7 (hS5.c 2)) ?_
 obtain ⟨r_2,hc,hF⟩:=bI hF
 refine sc 13 rfl rfl (yC [.agg V0.toArray] K85 (EX (Ae.mk n gates) B2 c2 gates.length _ rfl (hS5.inn0 [(false,1)] rfl) hc)) ?_
 rintro _ w_5 ⟨rfl,hd⟩
 have hS6:=hS5.out00 hd
 refine sQ 14 (Y_not (p:=r_2) rfl rfl) (rn ?_)
 refine cw_cond (b:=(!r_2)) rfl (fun hb=>?_) (fun hb=>?_)
 ·skip
  have hF1:=ct hF hb
  refine cq (cr ?_)
  refine sQ 15 (Y_buildS (zs:=V1) (vs:=[]) (cs:=V1) K46 K21 rfl mpn rfl) ?_
  refine s0 (yT 0 2 (aD b) 32 (.agg V1.toArray) V1 0 hS6 K7) ?_
  rintro _ w_6 ⟨rfl,hS7⟩
  refine sQ 5 (yg (.bool false)) (rn (ct_ ?_))
  have hS8:=hS7.addNil 59
  obtain ⟨rfl,rfl⟩:=pr2 (sI hF1)
  exact ret2 Tryz.results26 (v1:=.agg V1.toArray) (resAt_cellA (B:=aD b) (i:=0) (cs:=V1) (vs:=V1) rfl K12 K7 (hS8.c 0) rfl rfl) (v2:=.bool false) (resAt_tmp rfl) ⟨none,0,rfl,(hS8.sN [3])⟩
 ·skip
  have hF2:=cf' hF hb
  refine cw_skip (cq (cr ?_))
  refine sQ 16 (yb (aD b2) 0 V0 K12 K7 (hS6.c 2)) ?_
  refine s0 (yT 0 2 (aD b) 32 (.agg V0.toArray) V0 0 hS6 K7) ?_
  rintro _ w_7 ⟨rfl,hS9⟩
  refine sQ 5 (yg (.bool true)) (rn (ct_ ?_))
  obtain ⟨rfl,rfl⟩:=pr2 (sI hF2)
  exact ret2 Tryz.results26 (v1:=.agg V0.toArray) (resAt_cellA (B:=aD b) (i:=0) (cs:=V0) (vs:=V0) rfl K12 K7 (hS9.c 0) rfl rfl) (v2:=.bool true) (resAt_tmp rfl) ⟨B2,c2,rfl,(hS9.sN [1])⟩

theorem MB (x:Int) (y:Int)  (w0:World)  (hS:ST w0 [] w0 [] []) {r_:Int} {r_1:Int} (hF:FQ x y=some (r_,r_1)) :
  CV Tryz.prog 120 #[.int .u64 x,.int .u64 y] w0 (fun v w'=>v=.tuple #[.int .u64 r_,.int .u64 r_1]∧ST w0 [] w' [] []):=by
 unfold FQ at hF
 refine cv_of_cw 51 Tryz.func120 rfl Tryz.ntmps120 rfl ?_
 refine cq (cr ?_)
 refine sQ 4 (yg (.int .u64 0))<|sQ 5 (yg (.int .u64 0)) (rn (cq (cr ?_)))
 refine sQ 14 (ym (.int .u64 x))<|sQ 15 (Y_band (k:=.u64) (a:=x) (b:=4294967295) rfl rfl rfl)<|sQ 6 (yg (.int .u64 (bits .and .u64 x 4294967295))) (rn (cq (cr ?_)))
 refine sQ 16 (ym (.int .u64 x))<|sQ 17 (Y_shr (k:=.u64) (a:=x) (k':=.u64) (b:=32) rfl rfl rfl (by decide))<|sQ 7 (yg (.int .u64 (shrK .u64 x 32))) (rn (cq (cr ?_)))
 refine sQ 18 (ym (.int .u64 y))<|sQ 19 (Y_band (k:=.u64) (a:=y) (b:=4294967295) rfl rfl rfl)<|sQ 8 (yg (.int .u64 (bits .and .u64 y 4294967295))) (rn (cq (cr ?_)))
 refine sQ 20 (ym (.int .u64 y))<|sQ 21 (Y_shr (k:=.u64) (a:=y) (k':=.u64) (b:=32) rfl rfl rfl (by decide))<|sQ 9 (yg (.int .u64 (shrK .u64 y 32))) (rn (cq (cr ?_)))
 refine sQ 22 (ym (.int .u64 (bits .and .u64 x 4294967295)))<|sQ 23 (ym (.int .u64 (bits .and .u64 y 4294967295)))<|sQ 24 (Y_mul (k:=.u64) (a:=(bits .and .u64 x 4294967295)) (b:=(bits .and .u64 y 4294967295)) rfl rfl rfl)<|sQ 10 (yg (.int .u64 (IntKind.u64.wrap ((bits .and .u64 x 4294967295)*(bits .and .u64 y 4294967295))))) (rn (cq (cr ?_)))
 refine sQ 25 (ym (.int .u64 (shrK .u64 x 32)))<|sQ 26 (ym (.int .u64 (bits .and .u64 y 4294967295)))<|sQ 27 (Y_mul (k:=.u64) (a:=(shrK .u64 x 32)) (b:=(bits .and .u64 y 4294967295)) rfl rfl rfl)<|sQ 28 (ym (.int .u64 (IntKind.u64.wrap ((bits .and .u64 x 4294967295)*(bits .and .u64 y 4294967295)))))<|sQ 29 (Y_shr (k:=.u64) (a:=(IntKind.u64.wrap ((bits .and .u64 x 4294967295)*(bits .and .u64 y 4294967295)))) (k':=.u64) (b:=32) rfl rfl rfl (by decide))<|sQ 30 (Y_add (k:=.u64) (a:=(IntKind.u64.wrap ((shrK .u64 x 32)*(bits .and .u64 y 4294967295)))) (b:=(shrK .u64 (IntKind.u64.wrap ((bits .and .u64 x 4294967295)*(bits .and .u64 y 4294967295))) 32)) rfl rfl rfl) ?_
 refine sQ 11 (yg (.int .u64 (IntKind.u64.wrap ((IntKind.u64.wrap ((shrK .u64 x 32)*(bits .and .u64 y 4294967295)))+(shrK .u64 (IntKind.u64.wrap ((bits .and .u64 x 4294967295)*(bits .and .u64 y 4294967295))) 32))))) (rn (cq (cr ?_)))
 refine sQ 31 (ym (.int .u64 (IntKind.u64.wrap ((IntKind.u64.wrap ((shrK .u64 x 32)*(bits .and .u64 y 4294967295)))+(shrK .u64 (IntKind.u64.wrap ((bits .and .u64 x 4294967295)*(bits .and .u64 y 4294967295))) 32)))))<|sQ 32 (Y_band (k:=.u64) (a:=(IntKind.u64.wrap ((IntKind.u64.wrap ((shrK .u64 x 32)*(bits .and .u64 y 4294967295)))+(shrK .u64 (IntKind.u64.wrap ((bits .and .u64 x 4294967295)*(bits .and .u64 y 4294967295))) 32)))) (b:=4294967295) rfl rfl rfl)<|sQ 12 (yg (.int .u64 (bits .and .u64 (IntKind.u64.wrap ((IntKind.u64.wrap ((shrK .u64 x 32)*(bits .and .u64 y 4294967295)))+(shrK .u64 (IntKind.u64.wrap ((bits .and .u64 x 4294967295)*(bits .and .u64 y 4294967295))) 32))) 4294967295))) (rn (cq (cr ?_)))
 refine sQ 33 (ym (.int .u64 (IntKind.u64.wrap ((IntKind.u64.wrap ((shrK .u64 x 32)*(bits .and .u64 y 4294967295)))+(shrK .u64 (IntKind.u64.wrap ((bits .and .u64 x 4294967295)*(bits .and .u64 y 4294967295))) 32)))))<|sQ 34 (Y_shr (k:=.u64) (a:=(IntKind.u64.wrap ((IntKind.u64.wrap ((shrK .u64 x 32)*(bits .and .u64 y 4294967295)))+(shrK .u64 (IntKind.u64.wrap ((bits .and .u64 x 4294967295)*(bits .and .u64 y 4294967295))) 32)))) (k':=.u64) (b:=32) rfl rfl rfl (by decide))<|sQ 13 (yg (.int .u64 (shrK .u64 (IntKind.u64.wrap ((IntKind.u64.wrap ((shrK .u64 x 32)*(bits .and .u64 y 4294967295)))+(shrK .u64 (IntKind.u64.wrap ((bits .and .u64 x 4294967295)*(bits .and .u64 y 4294967295))) 32))) 32))) (rn (cq (cr ?_)))
 refine sQ 35 (ym (.int .u64 (bits .and .u64 (IntKind.u64.wrap ((IntKind.u64.wrap ((shrK .u64 x 32)*(bits .and .u64 y 4294967295)))+(shrK .u64 (IntKind.u64.wrap ((bits .and .u64 x 4294967295)*(bits .and .u64 y 4294967295))) 32))) 4294967295)))<|sQ 36 (ym (.int .u64 (bits .and .u64 x 4294967295)))<|sQ 37 (ym (.int .u64 (shrK .u64 y 32)))<|sQ 38 (Y_mul (k:=.u64) (a:=(bits .and .u64 x 4294967295)) (b:=(shrK .u64 y 32)) rfl rfl rfl)<|sQ 39 (Y_add (k:=.u64) (a:=(bits .and .u64 (IntKind.u64.wrap ((IntKind.u64.wrap ((shrK .u64 x 32)*(bits .and .u64 y 4294967295)))+(shrK .u64 (IntKind.u64.wrap ((bits .and .u64 x 4294967295)*(bits .and .u64 y 4294967295))) 32))) 4294967295)) (b:=(IntKind.u64.wrap ((bits .and .u64 x 4294967295)*(shrK .u64 y 32)))) rfl rfl rfl)<|sQ 12 (yg (.int .u64 (IntKind.u64.wrap ((bits .and .u64 (IntKind.u64.wrap ((IntKind.u64.wrap ((shrK .u64 x 32)*(bits .and .u64 y 4294967295)))+(shrK .u64 (IntKind.u64.wrap ((bits .and .u64 x 4294967295)*(bits .and .u64 y 4294967295))) 32))) 4294967295)+(IntKind.u64.wrap ((bits .and .u64 x 4294967295)*(shrK .u64 y 32))))))) (rn (cq (cr ?_)))
 refine sQ 40 (ym (.int .u64 (shrK .u64 x 32)))<|sQ 41 (ym (.int .u64 (shrK .u64 y 32)))<|sQ 42 (Y_mul (k:=.u64) (a:=(shrK .u64 x 32)) (b:=(shrK .u64 y 32)) rfl rfl rfl)<|sQ 43 (ym (.int .u64 (shrK .u64 (IntKind.u64.wrap ((IntKind.u64.wrap ((shrK .u64 x 32)*(bits .and .u64 y 4294967295)))+(shrK .u64 (IntKind.u64.wrap ((bits .and .u64 x 4294967295)*(bits .and .u64 y 4294967295))) 32))) 32)))<|sQ 44 (Y_add (k:=.u64) (a:=(IntKind.u64.wrap ((shrK .u64 x 32)*(shrK .u64 y 32)))) (b:=(shrK .u64 (IntKind.u64.wrap ((IntKind.u64.wrap ((shrK .u64 x 32)*(bits .and .u64 y 4294967295)))+(shrK .u64 (IntKind.u64.wrap ((bits .and .u64 x 4294967295)*(bits .and .u64 y 4294967295))) 32))) 32)) rfl rfl rfl)<|sQ 45 (ym (.int .u64 (IntKind.u64.wrap ((bits .and .u64 (IntKind.u64.wrap ((IntKind.u64.wrap ((shrK .u64 x 32)*(bits .and .u64 y 4294967295)))+(shrK .u64 (IntKind.u64.wrap ((bits .and .u64 x 4294967295)*(bits .and .u64 y 4294967295))) 32))) 4294967295)+(IntKind.u64.wrap ((bits .and .u64 x 4294967295)*(shrK .u64 y 32))))))) ?_
 refine sQ 46 (Y_shr (k:=.u64) (a:=(IntKind.u64.wrap ((bits .and .u64 (IntKind.u64.wrap ((IntKind.u64.wrap ((shrK .u64 x 32)*(bits .and .u64 y 4294967295)))+(shrK .u64 (IntKind.u64.wrap ((bits .and .u64 x 4294967295)*(bits .and .u64 y 4294967295))) 32))) 4294967295)+(IntKind.u64.wrap ((bits .and .u64 x 4294967295)*(shrK .u64 y 32)))))) (k':=.u64) (b:=32) rfl rfl rfl (by decide))<|sQ 47 (Y_add (k:=.u64) (a:=(IntKind.u64.wrap ((IntKind.u64.wrap ((shrK .u64 x 32)*(shrK .u64 y 32)))+(shrK .u64 (IntKind.u64.wrap ((IntKind.u64.wrap ((shrK .u64 x 32)*(bits .and .u64 y 4294967295)))+(shrK .u64 (IntKind.u64.wrap ((bits .and .u64 x 4294967295)*(bits .and .u64 y 4294967295))) 32))) 32)))) (b:=(shrK .u64 (IntKind.u64.wrap ((bits .and .u64 (IntKind.u64.wrap ((IntKind.u64.wrap ((shrK .u64 x 32)*(bits .and .u64 y 4294967295)))+(shrK .u64 (IntKind.u64.wrap ((bits .and .u64 x 4294967295)*(bits .and .u64 y 4294967295))) 32))) 4294967295)+(IntKind.u64.wrap ((bits .and .u64 x 4294967295)*(shrK .u64 y 32))))) 32)) rfl rfl rfl)<|sQ 4 (yg (.int .u64 (IntKind.u64.wrap ((IntKind.u64.wrap ((IntKind.u64.wrap ((shrK .u64 x 32)*(shrK .u64 y 32)))+(shrK .u64 (IntKind.u64.wrap ((IntKind.u64.wrap ((shrK .u64 x 32)*(bits .and .u64 y 4294967295)))+(shrK .u64 (IntKind.u64.wrap ((bits .and .u64 x 4294967295)*(bits .and .u64 y 4294967295))) 32))) 32)))+(shrK .u64 (IntKind.u64.wrap ((bits .and .u64 (IntKind.u64.wrap ((IntKind.u64.wrap ((shrK .u64 x 32)*(bits .and .u64 y 4294967295)))+(shrK .u64 (IntKind.u64.wrap ((bits .and .u64 x 4294967295)*(bits .and .u64 y 4294967295))) 32))) 4294967295)+(IntKind.u64.wrap ((bits .and .u64 x 4294967295)*(shrK .u64 y 32))))) 32))))) (rn (cq (cr ?_)))
 refine sQ 48 (ym (.int .u64 x))<|sQ 49 (ym (.int .u64 y))<|sQ 50 (Y_mul (k:=.u64) (a:=x) (b:=y) rfl rfl rfl)<|sQ 5 (yg (.int .u64 (IntKind.u64.wrap (x*y)))) (rn (ct_ ?_))
 obtain ⟨rfl,rfl⟩:=pr2 (sI hF)
 exact ret2 Tryz.results120 (v1:=.int .u64 (IntKind.u64.wrap ((IntKind.u64.wrap ((IntKind.u64.wrap ((shrK .u64 x 32)*(shrK .u64 y 32)))+(shrK .u64 (IntKind.u64.wrap ((IntKind.u64.wrap ((shrK .u64 x 32)*(bits .and .u64 y 4294967295)))+(shrK .u64 (IntKind.u64.wrap ((bits .and .u64 x 4294967295)*(bits .and .u64 y 4294967295))) 32))) 32)))+(shrK .u64 (IntKind.u64.wrap ((bits .and .u64 (IntKind.u64.wrap ((IntKind.u64.wrap ((shrK .u64 x 32)*(bits .and .u64 y 4294967295)))+(shrK .u64 (IntKind.u64.wrap ((bits .and .u64 x 4294967295)*(bits .and .u64 y 4294967295))) 32))) 4294967295)+(IntKind.u64.wrap ((bits .and .u64 x 4294967295)*(shrK .u64 y 32))))) 32)))) (resAt_tmp rfl) (v2:=.int .u64 (IntKind.u64.wrap (x*y))) (resAt_tmp rfl) ⟨rfl,(hS.sN [])⟩

theorem NA (x:Int) (y:Int)  (w0:World)  (hS:ST w0 [] w0 [] []) {r_:Int} {r_1:Int} (hF:FC x y=some (r_,r_1)) :
  CV Tryz.prog 107 #[.int .u64 x,.int .u64 y] w0 (fun v w'=>v=.tuple #[.int .u64 r_,.int .u64 r_1]∧ST w0 [] w' [] []):=by
 unfold FC at hF
 refine cv_of_cw 30 Tryz.func107 rfl Tryz.ntmps107 rfl ?_
 refine cq (cr ?_)
 refine sQ 4 (yg (.int .u64 0))<|sQ 5 (yg (.int .u64 0)) (rn (cq ?_))
 refine cw_cond (b:=false) rfl (fun h=>by cases h) (fun _=>?_)
 refine cw_skip (cq (cr ?_))
 refine sQ 23 (ym (.int .u64 x))<|sQ 24 (ym (.int .u64 y)) ?_
 obtain ⟨⟨r_2,r_3⟩,hc,hF⟩:=bI hF
 refine sc 25 rfl rfl (yC [.int .u64 x,.int .u64 y] Mn (MB x y _  (hS.inn0 [] rfl) hc)) ?_
 rintro _ w_ ⟨rfl,hd⟩
 have hS1:=hS.out00 hd
 refine sQ 22 (ym (.tuple #[.int .u64 r_2,.int .u64 r_3]))<|sQ 26 (ye (.int .u64 r_2))<|sQ 27 (ye (.int .u64 r_3))<|sQ 8 (yg (.int .u64 r_2))<|sQ 9 (yg (.int .u64 r_3)) (rn (cq (cr ?_)))
 refine sQ 28 (ym (.int .u64 r_2))<|sQ 29 (ym (.int .u64 r_3))<|sQ 4 (yg (.int .u64 r_2))<|sQ 5 (yg (.int .u64 r_3)) (rn (ct_ ?_))
 obtain ⟨rfl,rfl⟩:=pr2 (sI hF)
 exact ret2 Tryz.results107 (v1:=.int .u64 r_2) (resAt_tmp rfl) (v2:=.int .u64 r_3) (resAt_tmp rfl) ⟨rfl,(hS1.sN [])⟩

theorem OE (x:List Aa) (count:Int) (B:Option Addr) (c n:Nat) (w0:World) (hn:x.length=n) (hS:ST w0 [] w0 [] [⟨B,(x.flatMap eN0)⟩]) {r_:List Aa} (hF:FK x count=some r_) :
  CV Tryz.prog 74 #[.slice B n c,vi count] w0 (fun v w'=>∃ (B1:Option Addr) (c1:Nat),v=.slice B1 r_.length c1∧ST w0 [] w' [⟨B1,59,(r_.flatMap eN0),c1*3⟩] []):=by
 subst hn
 unfold FK at hF
 refine cv_of_cw 48 Tryz.func74 rfl Tryz.ntmps74 rfl ?_
 refine cq (cr ?_)
 refine sQ 4 (yg (.slice none 0 0)) (rn (cq (cq (cr ?_))))
 refine sQ 9 (ym (vi count))<|sQ 10 (yL count 0) (rn ?_)
 refine cw_cond (b:=(decide (count<0))) rfl (fun hb=>?_) (fun hb=>?_)
 ·skip
  have hF1:=ct hF hb
  cases hF1
 ·skip
  have hF2:=cf' hF hb
  refine cw_skip (cq (cr ?_))
  refine sQ 13 (ym (.slice B x.length c))<|sQ 14 (Y_len (B:=B) (m:=x.length) (c:=c) K4 rfl rfl)<|sQ 15 (Y_conv (k:=.i64) (a:=(x.length:Int)) (T:=3) (T':=77) K40 K41 rfl rfl)<|sQ 16 (ym (vi count))<|sQ 17 (Y_conv (k:=.i64) (a:=count) (T:=3) (T':=77) K40 K41 rfl rfl) ?_
  obtain ⟨⟨r_1,r_2⟩,hc,hF2⟩:=bI hF2
  refine sc 18 rfl rfl (yC [.int .u64 (IntKind.u64.wrap (x.length:Int)),.int .u64 (IntKind.u64.wrap count)] M6 (NA (IntKind.u64.wrap (x.length:Int)) (IntKind.u64.wrap count) _  (hS.inn0 [] rfl) hc)) ?_
  rintro _ w_ ⟨rfl,hd⟩
  have hS1:=hS.out00 hd
  refine sQ 12 (ym (.tuple #[.int .u64 r_1,.int .u64 r_2]))<|sQ 19 (ye (.int .u64 r_1))<|sQ 20 (ye (.int .u64 r_2))<|sQ 5 (yg (.int .u64 r_1))<|sQ 6 (yg (.int .u64 r_2)) (rn (cq (cq (cr ?_))))
  refine sQ 21 (ym (.int .u64 r_1))<|sQ 22 (Y_gt (k:=.u64) (a:=r_1) (b:=0) rfl rfl rfl)<|sQ 23 (ym (.bool (decide (0<r_1)))) ?_
  refine sgq 24 (B:=(!(decide (0<r_1)))) rfl rfl (uF_ 23) (fun hg=>(ym (.int .u64 r_2))) ?_
  refine sgq 25 (B:=(!(decide (0<r_1)))) rfl rfl (uF_ 23) (fun hg1=>(Y_gt (k:=.u64) (a:=r_2) (b:=9223372036854775807) rfl (gv_of (v:=.int .u64 r_2) hg1) rfl)) ?_
  refine sQ 26 (Y_or (b:=(decide (0<r_1))) (z:=(decide (9223372036854775807<r_2))) rfl rfl rfl rfl) (rn ?_)
  refine cw_cond (b:=((decide (0<r_1))||(decide (9223372036854775807<r_2)))) rfl (fun hb1=>?_) (fun hb1=>?_)
  ·skip
   have hF3:=ct hF2 hb1
   cases hF3
  ·skip
   have hF4:=cf' hF2 hb1
   refine cw_skip (cq (cr ?_))
   refine sQ 28 (ym (.int .u64 r_2))<|sQ 29 (Y_conv (k:=.u64) (a:=r_2) (T:=77) (T':=3) Mh K54 rfl rfl) ?_
   obtain ⟨hmk,hF4⟩:=chk_inv hF4
   refine sS 30 (Ys_make (s:=3) (by':=24) (nn:=(i64.wrap r_2).toNat) (a:=(i64.wrap r_2)) (b:=(i64.wrap r_2)) (cs:=((List.replicate ((i64.wrap r_2).toNat) (Aa.mk 0 0 0)).flatMap eN0)) hS1 K4 K3 K23 K10 rfl rfl rfl rfl hmk.1 rfl (by have:=hmk; omega) (by have:=hmk; omega) (by omega) (fm_rep (enc:=eN0) (d:=(Aa.mk 0 0 0)) rfl _)) ?_
   rintro _ w_1 ⟨b,rfl,hS2⟩
   refine sQ 7 (yg (.slice (aD b) ((i64.wrap r_2).toNat) ((i64.wrap r_2).toNat))) (rn (cq (cr ?_)))
   refine sQ 31 (ym (.slice (aD b) ((i64.wrap r_2).toNat) ((i64.wrap r_2).toNat)))<|sQ 32 (ym (.slice B x.length c)) ?_
   refine sS 33 (Ys_copy (enc:=eN0) (s:=3) (i:=0) (m:=(i64.wrap r_2).toNat) (c:=(i64.wrap r_2).toNat) (k:=x.length) (B:=aD b) (l:=(List.replicate ((i64.wrap r_2).toNat) (Aa.mk 0 0 0))) (l':=x) hS2 K4 K3 rfl rfl rfl rfl rfl List.length_replicate eN2 Al (hS2.rf (i:=0) rfl) rfl rfl) ?_
   rintro _ w_2 ⟨rfl,hS3⟩
   refine sQ 8 (yg (vi ((min x.length ((i64.wrap r_2).toNat):Nat):Int))) (rn (cq ?_))
   obtain ⟨z,hz,hF5⟩:=bI hF4
   refine cw_block ?_
   refine cw_loop (fun k f w=>∃ (newslice:List Aa) (n1:Int),FF f [(7,.slice (aD b) ((i64.wrap r_2).toNat) ((i64.wrap r_2).toNat)),(8,vi n1)]∧newslice.length=(i64.wrap r_2).toNat∧ST w0 [] w [⟨aD b,59,(newslice.flatMap eN0),((i64.wrap r_2).toNat)*3⟩] [⟨B,(x.flatMap eN0)⟩]∧whX (GO r_2) k (newslice,n1)=some z) fuel ⟨(List.take (min x.length ((i64.wrap r_2).toNat)) x++List.drop (min x.length ((i64.wrap r_2).toNat)) (List.replicate ((i64.wrap r_2).toNat) (Aa.mk 0 0 0))),((min x.length ((i64.wrap r_2).toNat):Nat):Int),(fc rfl (fc rfl fn_)),(copy_len List.length_replicate rfl),(hS3.sel [0] rfl rfl),hz⟩ ?_
   rintro k_ f w ⟨newslice,n1,hf,hl,hS4,hL⟩
   obtain ⟨K5,y,rfl,hb2,hL1⟩:=whX_go hL
   unfold GO at hb2
   refine cq (cq (cr ?_))
   refine sQ 34 (ym (vi n1) rfl (hf.g 8 1))<|sQ 35 (ym (.slice (aD b) ((i64.wrap r_2).toNat) ((i64.wrap r_2).toNat)) rfl (hf.g 7 0))<|sQ 36 (Y_len (B:=aD b) (m:=(i64.wrap r_2).toNat) (c:=(i64.wrap r_2).toNat) K4 rfl rfl)<|sQ 37 (yL n1 ((i64.wrap r_2).toNat:Int)) (rn ?_)
   refine cw_cond (b:=(decide (n1<((i64.wrap r_2).toNat:Int)))) rfl (fun hb3=>?_) (fun hb3=>?_)
   ·skip
    have hF6:=ct hb2 hb3
    refine cw_skip (cw_block ?_)
    obtain ⟨hsl,hF6⟩:=chk_inv hF6
    have hcap:(i64.wrap r_2).toNat≤(i64.wrap r_2).toNat:=hS4.lencap (i:=0) rfl (fm_lenn (l:=newslice) eN2 hl) rfl rfl
    obtain ⟨hsl1,hF6⟩:=chk_inv hF6
    have hcap1:(i64.wrap r_2).toNat≤(i64.wrap r_2).toNat:=hS4.lencap (i:=0) rfl (fm_lenn (l:=newslice) eN2 hl) rfl rfl
    refine ra_start (hS4.se []).fn (by kernel_rfl) ?_
    have hS5:=hS4.drew
    have hQ0:=hS5.se []
    refine rq 0 38 rfl hQ0 (fun w' hw'=>(ym (vi n1) rfl (hf.g 8 1)))<|rq 1 39 rfl hQ0 (fun w' hw'=>(ym (.slice (aD b) ((i64.wrap r_2).toNat) ((i64.wrap r_2).toNat)) rfl (hf.g 7 0)))<|rq 2 40 rfl hQ0 (fun w' hw'=>(ym (vi n1) rfl (hf.g 8 1)))<|rq 3 41 (v:=.slice (sv (aD b) n1.toNat ((i64.wrap r_2).toNat) 3) (((i64.wrap r_2).toNat)-n1.toNat) (((i64.wrap r_2).toNat)-n1.toNat)) rfl hQ0 (fun w' hw'=>(Y_slice (B:=aD b) (m:=(i64.wrap r_2).toNat) (c:=(i64.wrap r_2).toNat) (l:=n1.toNat) (h:=(i64.wrap r_2).toNat) (q:=(i64.wrap r_2).toNat) (s:=3) K4 K3 rfl rfl rfl rfl ⟨_,_,rfl,(Int.toNat_of_nonneg (by omega)).symm⟩ rfl (by omega) (by omega) (by omega)))<|rq 4 42 rfl hQ0 (fun w' hw'=>(ym (.slice (aD b) ((i64.wrap r_2).toNat) ((i64.wrap r_2).toNat)) rfl (hf.g 7 0))) ?_
    refine rq 5 43 rfl hQ0 (fun w' hw'=>(ym (vi n1) rfl (hf.g 8 1)))<|rq 6 44 (v:=.slice (sv (aD b) 0 ((i64.wrap r_2).toNat) 3) (n1.toNat-0) (((i64.wrap r_2).toNat)-0)) rfl hQ0 (fun w' hw'=>(Y_slice (B:=aD b) (m:=(i64.wrap r_2).toNat) (c:=(i64.wrap r_2).toNat) (l:=0) (h:=n1.toNat) (q:=(i64.wrap r_2).toNat) (s:=3) K4 K3 rfl rfl rfl ⟨_,_,rfl,(Int.toNat_of_nonneg (by omega)).symm⟩ rfl rfl (by omega) (by omega) (by omega))) ?_
    refine rA [7] ?_
    refine rS 45 7 rfl (Ys_copyAt (enc:=eN0) (s:=3) (i:=0) (lo:=n1.toNat) (m:=(i64.wrap r_2).toNat) (c:=(i64.wrap r_2).toNat) (k:=(n1.toNat-0)) (B:=aD b) (l:=newslice) (l':=(List.take n1.toNat newslice)) hS5 K4 K3 rfl rfl rfl rfl rfl hl eN2 Al (by rw [sv_zero]; exact CF.pre (hS5.c 0) (pre_take _ _)) (take_len hl (by omega)) (by omega) rfl) ?_ aN
    rintro _ w_3 ⟨rfl,hS6⟩
    have hQ1:=hS6.se []
    refine ⟨hQ1,?_⟩
    refine rq 8 46 rfl hQ1 (fun w' hw'=>(yP n1 ((min (n1.toNat-0) ((i64.wrap r_2).toNat-n1.toNat):Nat):Int)))<|rq 9 8 rfl hQ1 (fun w' hw'=>(yg (vi (i64.wrap (n1+((min (n1.toNat-0) ((i64.wrap r_2).toNat-n1.toNat):Nat):Int)))))) ?_
    refine ra_done (by kernel_rfl) ?_
    obtain rfl:=sI hF6
    exact ⟨K5,Nat.lt_succ_self _,(List.take n1.toNat newslice++List.take (min (n1.toNat-0) ((i64.wrap r_2).toNat-n1.toNat)) (List.take n1.toNat newslice)++List.drop (n1.toNat+(min (n1.toNat-0) ((i64.wrap r_2).toNat-n1.toNat))) newslice),(i64.wrap (n1+((min (n1.toNat-0) ((i64.wrap r_2).toNat-n1.toNat):Nat):Int))),(hf.a 7 0 (fc rfl fn_)),(copyAt_len hl (take_len hl (by omega)) (by omega)),(hS6.sel [0] rfl rfl),hL1⟩
   ·skip
    have hF7:=cf' hb2 hb3
    refine cw_exit rfl ?_
    obtain rfl:=sI hF7
    obtain rfl:=sI hL1
    refine cq (cr ?_)
    refine sQ 47 (ym (.slice (aD b) ((i64.wrap r_2).toNat) ((i64.wrap r_2).toNat)) rfl (hf.g 7 0))<|sQ 4 (yg (.slice (aD b) ((i64.wrap r_2).toNat) ((i64.wrap r_2).toNat))) (rn (ct_ ?_))
    obtain rfl:=sI hF5
    exact ret1 Tryz.results74 (v1:=.slice (aD b) ((i64.wrap r_2).toNat) ((i64.wrap r_2).toNat)) (resAt_tmp rfl) ⟨aD b,(i64.wrap r_2).toNat,(sl_eqv hl),(hS4.sN [0])⟩

theorem Lz (count:Int)  (w0:World)  (hS:ST w0 [] w0 [] []) {r_:List Aa} (hF:F7 count=some r_) :
  CV Tryz.prog 27 #[vi count] w0 (fun v w'=>∃ (B:Option Addr) (c:Nat),v=.slice B r_.length c∧ST w0 [] w' [⟨B,59,(r_.flatMap eN0),c*3⟩] []):=by
 unfold F7 at hF
 refine cv_of_cw 7 Tryz.func27 rfl Tryz.ntmps27 rfl ?_
 refine cq (cr ?_)
 refine sQ 2 (yg (.slice none 0 0)) (rn (cq (cr ?_)))
 refine sQ 3 (Y_buildS (zs:=[vi 0,vi 0,vi 0]) (vs:=[(0,vi 12)]) (cs:=[vi 12,vi 0,vi 0]) K33 K10 rfl (mpc rfl mpn) rfl) ?_
 refine sS 4 (Ys_bslice (s:=3) (len:=1) (vs:=[(0,.agg #[vi 12,vi 0,vi 0])]) (cs:=[vi 12,vi 0,vi 0]) (zs:=[vi 0,vi 0,vi 0]) (m:=3) hS K4 K3 K26 rfl (mpc rfl mpn) rfl rfl rfl (by kernel_rfl) (by kernel_rfl) rfl) ?_
 rintro _ w_ ⟨b,rfl,hS1⟩
 refine sQ 5 (ym (vi count)) ?_
 obtain ⟨r_1,hc,hF⟩:=bI hF
 refine sc 6 rfl rfl (yC [.slice (aD b) 1 1,vi count] LU (OE [(Aa.mk 12 0 0)] count (aD b) 1 1 _ rfl (hS1.inn0 [(false,0)] rfl) hc)) ?_
 rintro _ w_1 ⟨B1,c1,rfl,hd⟩
 have hS2:=hS1.out0 hd
 have hS2:ST w0 [] _ [⟨aD b,59,([(Aa.mk 12 0 0)].flatMap eN0),1*3⟩,⟨B1,59,(r_1.flatMap eN0),c1*3⟩] []:=hS2
 refine sQ 2 (yg (.slice B1 r_1.length c1)) (rn (ct_ ?_))
 obtain rfl:=sI hF
 exact ret1 Tryz.results27 (v1:=.slice B1 r_1.length c1) (resAt_tmp rfl) ⟨B1,c1,rfl,(hS2.sN [1])⟩

theorem Nd (p:Ah) (B:Option Addr) (c n:Nat) (B1:Option Addr) (c1 n1:Nat) (w0:World) (hn:p.Terms.length=n) (hn1:p.Out.Rows.length=n1) (hS:ST w0 [] w0 [] [⟨B,(p.Terms.flatMap eN1)⟩,⟨B1,(p.Out.Rows.flatMap encI)⟩]) {r_:Ae} {r_1:Bool} (hF:BH p=some (r_,r_1)) :
  CV Tryz.prog 5 #[.agg #[vi p.Qubits,vi p.Phase,.slice B n c,.slice B1 n1 c1]] w0 (fun v w'=>∃ (B2:Option Addr) (c2:Nat),v=.tuple #[.agg #[vi r_.Qubits,.slice B2 r_.Gates.length c2],.bool r_1]∧ST w0 [] w' [⟨B2,59,(r_.Gates.flatMap eN0),c2*3⟩] []):=by
 subst hn
 subst hn1
 unfold BH at hF
 refine cv_of_cw 60 Tryz.func5 rfl Tryz.ntmps5 rfl ?_
 refine cq (cr ?_)
 let V11:List Value:=[vi p.Qubits,vi p.Phase,.slice B p.Terms.length c,.slice B1 p.Out.Rows.length c1]
 refine sS 1 (yB 28 (.agg V11.toArray) V11 4 hS) ?_
 rintro _ w_ ⟨b,rfl,hS1⟩
 let V17:List Value:=[vi 0,.slice none 0 0]
 refine sS 2 (yN V17 2 hS1 K21) ?_
 rintro _ w_1 ⟨b1,rfl,hS2⟩
 refine sQ 3 (yg (.bool false)) (rn (cq (cq (cr ?_))))
 refine sQ 11 (yb (aD b) 0 V11 K39 K25 (hS2.c 0)) ?_
 obtain ⟨r_2,hc,hF⟩:=bI hF
 refine sc 12 rfl rfl (yC [.agg V11.toArray] K87 (EF p B c p.Terms.length B1 c1 p.Out.Rows.length _ rfl rfl (hS2.inn0 [(true,0),(true,1)] rfl) hc)) ?_
 rintro _ w_2 ⟨rfl,hd⟩
 have hS3:=hS2.out00 hd
 refine sQ 13 (Y_not (p:=r_2) rfl rfl) (rn ?_)
 refine cw_cond (b:=(!r_2)) rfl (fun hb=>?_) (fun hb=>?_)
 ·skip
  have hF1:=ct hF hb
  refine cq (cr ?_)
  refine sQ 14 (Y_buildS (zs:=V17) (vs:=[]) (cs:=V17) K46 K21 rfl mpn rfl) ?_
  refine s0 (yT 1 2 (aD b1) 32 (.agg V17.toArray) V17 0 hS3 K7) ?_
  rintro _ w_3 ⟨rfl,hS4⟩
  refine sQ 3 (yg (.bool false)) (rn (ct_ ?_))
  have hS5:=hS4.addNil 59
  obtain ⟨rfl,rfl⟩:=pr2 (sI hF1)
  exact ret2 Tryz.results5 (v1:=.agg V17.toArray) (resAt_cellA (B:=aD b1) (i:=0) (cs:=V17) (vs:=V17) rfl K12 K7 (hS5.c 1) rfl rfl) (v2:=.bool false) (resAt_tmp rfl) ⟨none,0,rfl,(hS5.sN [2])⟩
 ·skip
  have hF2:=cf' hF hb
  refine cw_skip (cq ?_)
  obtain ⟨r_3,hc1,hF2⟩:=bI hF2
  obtain ⟨r_4,hc2,hF2⟩:=bI hF2
  refine ra_start (hS3.se [0,1]).fn (by kernel_rfl) ?_
  have hS8:=hS3.drew
  have hQ0:=hS8.se [0,1]
  refine rq 0 15 (v:=pt (aD b) 0) rfl hQ0 (fun w' hw'=>(yd (aD b) 0 0 K44 K0))<|rq 1 16 rfl hQ0 (fun w' hw'=>(yl (aD b) 0 V11 (vi p.Qubits) K1 (ST.cf hw' (i:=0) rfl)))<|rq 2 17 (v:=pt (aD b) 2) rfl hQ0 (fun w' hw'=>(yd (aD b) 0 0 K43 K35))<|rq 3 18 rfl hQ0 (fun w' hw'=>(yl (aD b) 2 V11 (.slice B p.Terms.length c) K42 (ST.cf hw' (i:=0) rfl))) ?_
  refine rA [4] ?_
  refine rC 19 4 rfl (yC [.slice B p.Terms.length c] NL (OD p.Terms B c p.Terms.length _ rfl (hS8.inn0 [(true,0)] rfl) hc1)) ?_ aN
  rintro _ w_4 ⟨B3,c3,rfl,hd1⟩
  have hS9:=hS8.out0 hd1
  refine ⟨(hS9.se [0,1]),?_⟩
  refine rA [5] ?_
  refine rC 20 5 rfl (yC [vi p.Qubits,.slice B3 r_3.length c3] Oc (MV p.Qubits r_3 B3 c3 r_3.length _ rfl (hS9.inn0 [(false,2)] rfl) hc2)) ?_ aN
  rintro _ w_5 ⟨B4,c4,rfl,hd2⟩
  have hS10:=hS9.out0 hd2
  refine ⟨(hS10.se [0,1]),?_⟩
  refine rq 6 4 rfl (hS10.se [0,1]) (fun w' hw'=>(yg (.slice B4 r_4.length c4))) ?_
  refine ra_done (by kernel_rfl) ?_
  refine cq (cr ?_)
  refine sQ 22 (yd (aD b) 0 0 K44 K0)<|sQ 23 (yl (aD b) 0 V11 (vi p.Qubits) K1 (hS10.c 0))<|sQ 24 (ym (.slice B4 r_4.length c4))<|sQ 25 (Y_buildS (zs:=V17) (vs:=[(0,vi p.Qubits),(1,.slice B4 r_4.length c4)]) (cs:=[vi p.Qubits,.slice B4 r_4.length c4]) K46 K21 rfl (mpc rfl (mpc rfl mpn)) rfl) ?_
  obtain ⟨⟨r_5,r_6⟩,hc3,hF2⟩:=bI hF2
  refine sc 26 rfl rfl (yC [.agg #[vi p.Qubits,.slice B4 r_4.length c4]] MO (Mo (Ae.mk p.Qubits r_4) B4 c4 r_4.length _ rfl (hS10.inn0 [(false,3)] rfl) hc3)) ?_
  rintro _ w_6 ⟨B5,c5,rfl,hd3⟩
  have hS11:=hS10.out0 hd3
  let O0:Ob:=⟨aD b,28,V11,4⟩
  let O1:Ob:=⟨aD b1,32,V17,2⟩
  let O4:Ob:=⟨B4,59,(r_4.flatMap eN0),c4*3⟩
  let O5:Ob:=⟨B5,3,(r_5.Rows.flatMap encI),c5*1⟩
  let O6:Ob:=⟨B3,3,(r_3.flatMap encI),c3*1⟩
  let R7:Ro:=⟨B1,(p.Out.Rows.flatMap encI)⟩
  let R8:Ro:=⟨B,(p.Terms.flatMap eN1)⟩
  have hS11:ST w0 [] _ [O0,O1,O6,O4,O5] [R8,R7]:=hS11
  let V15:List Value:=[.slice B5 r_5.Rows.length c5]
  refine sQ 21 (ym (.tuple #[.agg V15.toArray,.bool r_6]))<|sQ 27 (ye (.agg V15.toArray))<|sQ 28 (ye (.bool r_6)) ?_
  refine sS 5 (yN [.slice none 0 0] 1 hS11 K22) ?_
  rintro _ w_7 ⟨b2,rfl,hS12⟩
  refine s0 (yT 5 1 (aD b2) 26 (.agg V15.toArray) V15 0 hS12 K6) ?_
  rintro _ w_8 ⟨rfl,hS13⟩
  refine sQ 6 (yg (.bool r_6)) (rn (cq ?_))
  obtain ⟨r_7,hc4,hF2⟩:=bI hF2
  obtain ⟨⟨r_8,r_9⟩,hc5,hF2⟩:=bI hF2
  refine cw_mid (fun f w=>∃ (B8:Option Addr) (B9:Option Addr) (c8:Nat),FF f [(1,pt (aD b) 0),(2,pt (aD b1) 0),(4,.slice B4 r_4.length c4),(7,pt B8 0)]∧ST w0 [] w [O0,O1,O4,⟨B8,26,[.slice B9 r_8.Rows.length c8],1⟩,⟨B9,3,(r_8.Rows.flatMap encI),c8*1⟩] [R8,R7]) ?_ ?_
  ·skip
   refine ra_start (hS13.se [0,1,2,3,4,5]).fn (by kernel_rfl) ?_
   have hS17:=hS13.drew
   have hQ1:=hS17.se [0,1,2,3,4,5]
   let V20:List Value:=[.slice B1 p.Out.Rows.length c1]
   refine rq 0 30 (v:=.agg V15.toArray) rfl hQ1 (fun w' hw'=>(yb (aD b2) 0 V15 K16 K6 (ST.cf hw' (i:=5) rfl)))<|rq 2 32 (v:=pt (aD b) 3) rfl hQ1 (fun w' hw'=>(yd (aD b) 0 0 K59 K6))<|rq 3 33 (v:=.agg V20.toArray) rfl hQ1 (fun w' hw'=>(ya (aD b) 3 V11 V20 K16 K6 (ST.cf hw' (i:=0) rfl))) ?_
   refine rA [1,8] ?_
   refine rC 31 1 rfl (yC [.agg V15.toArray] JF (IH r_5 B5 c5 r_5.Rows.length _ rfl (hS17.inn0 [(false,4)] rfl) hc4)) ?_ ?_
   ·rintro _ w_9 ⟨B6,c6,rfl,hd4⟩
    have hS18:=hS17.out0 hd4
    refine ⟨(hS18.se [0,1,2,3,4,5]),?_⟩
    refine rA [4,8] ?_
    let V16:List Value:=[.agg #[.slice B6 r_7.Rows.length c6],.agg V20.toArray]
    refine rC 34 4 rfl (yC V16 Gn (G1 r_7 p.Out B6 c6 r_7.Rows.length B1 c1 p.Out.Rows.length _ rfl rfl (hS18.inn0 [(false,6),(true,1)] rfl) hc5)) ?_ ?_
    ·rintro _ w_10 ⟨B7,c7,rfl,hd5⟩
     have hS19:=hS18.out0 hd5
     have hQ2:=hS19.se [0,1,2,3,4,5]
     refine ⟨hQ2,?_⟩
     let V12:List Value:=[.slice B7 r_8.Rows.length c7]
     refine rq 5 29 rfl hQ2 (fun w' hw'=>(ym (.tuple #[.agg V12.toArray,.bool r_9])))<|rq 6 35 (v:=.agg V12.toArray) rfl hQ2 (fun w' hw'=>(ye (.agg V12.toArray)))<|rq 7 36 (v:=.bool r_9) rfl hQ2 (fun w' hw'=>(ye (.bool r_9))) ?_
     refine rA [8] ?_
     refine rS 7 8 rfl (yN [.slice none 0 0] 1 hS19 K22) ?_ aN
     rintro _ w_11 ⟨b3,rfl,hS20⟩
     refine ⟨(hS20.se [0,1,2,3,4,5]),?_⟩
     refine rA [9] ?_
     refine rZ 9 rfl (yT 8 1 (aD b3) 26 (.agg V12.toArray) V12 0 hS20 K6) ?_ aN
     rintro _ w_12 ⟨rfl,hS21⟩
     have hS21:ST w0 [] _ [O0,O1,O6,O4,O5,⟨aD b2,26,V15,1⟩,⟨B6,3,(r_7.Rows.flatMap encI),c6*1⟩,⟨B7,3,(r_8.Rows.flatMap encI),c7*1⟩,⟨aD b3,26,V12,1⟩] [R8,R7]:=hS21
     refine ⟨(hS21.se [0,1,2,3,4,5]),?_⟩
     refine rq 10 8 rfl (hS21.se [0,1,2,3,4,5]) (fun w' hw'=>(yg (.bool r_9))) ?_
     refine ra_done (by kernel_rfl) ?_
     exact ⟨aD b3,B7,c7,(fc rfl (fc rfl (fc rfl (fc rfl fn_)))),(hS21.sel [0,1,3,8,7] rfl rfl)⟩
    refine rS 7 8 rfl (yN [.slice none 0 0] 1 hS18 K22) ?_ aN
    rintro _ w_13 ⟨b3,rfl,hS22⟩
    refine ⟨(hS22.se [0,1,2,3,4,5]),?_⟩
    refine rA [4] ?_
    refine rC 34 4 rfl (yC V16 Gn (G1 r_7 p.Out B6 c6 r_7.Rows.length B1 c1 p.Out.Rows.length _ rfl rfl (hS22.inn0 [(false,6),(true,1)] rfl) hc5)) ?_ aN
    rintro _ w_14 ⟨B7,c7,rfl,hd6⟩
    have hS23:=hS22.out0 hd6
    have hQ3:=hS23.se [0,1,2,3,4,5]
    refine ⟨hQ3,?_⟩
    let V14:List Value:=[.slice B7 r_8.Rows.length c7]
    refine rq 5 29 rfl hQ3 (fun w' hw'=>(ym (.tuple #[.agg V14.toArray,.bool r_9])))<|rq 6 35 (v:=.agg V14.toArray) rfl hQ3 (fun w' hw'=>(ye (.agg V14.toArray)))<|rq 7 36 (v:=.bool r_9) rfl hQ3 (fun w' hw'=>(ye (.bool r_9))) ?_
    refine rA [9] ?_
    refine rZ 9 rfl (yT 7 1 (aD b3) 26 (.agg V14.toArray) V14 0 hS23 K6) ?_ aN
    rintro _ w_15 ⟨rfl,hS24⟩
    refine ⟨(hS24.se [0,1,2,3,4,5]),?_⟩
    refine rq 10 8 rfl (hS24.se [0,1,2,3,4,5]) (fun w' hw'=>(yg (.bool r_9))) ?_
    refine ra_done (by kernel_rfl) ?_
    exact ⟨aD b3,B7,c7,(fc rfl (fc rfl (fc rfl (fc rfl fn_)))),(hS24.sel [0,1,3,7,8] rfl rfl)⟩
   refine rS 7 8 rfl (yN [.slice none 0 0] 1 hS17 K22) ?_ aN
   rintro _ w_16 ⟨b3,rfl,hS25⟩
   refine ⟨(hS25.se [0,1,2,3,4,5]),?_⟩
   refine rA [1] ?_
   refine rC 31 1 rfl (yC [.agg V15.toArray] JF (IH r_5 B5 c5 r_5.Rows.length _ rfl (hS25.inn0 [(false,4)] rfl) hc4)) ?_ aN
   rintro _ w_17 ⟨B6,c6,rfl,hd7⟩
   have hS26:=hS25.out0 hd7
   refine ⟨(hS26.se [0,1,2,3,4,5]),?_⟩
   refine rA [4] ?_
   refine rC 34 4 rfl (yC [.agg #[.slice B6 r_7.Rows.length c6],.agg V20.toArray] Gn (G1 r_7 p.Out B6 c6 r_7.Rows.length B1 c1 p.Out.Rows.length _ rfl rfl (hS26.inn0 [(false,7),(true,1)] rfl) hc5)) ?_ aN
   rintro _ w_18 ⟨B7,c7,rfl,hd8⟩
   have hS27:=hS26.out0 hd8
   have hS27:ST w0 [] _ [O0,O1,O6,O4,O5,⟨aD b2,26,V15,1⟩,⟨aD b3,26,[.slice none 0 0],1⟩,⟨B6,3,(r_7.Rows.flatMap encI),c6*1⟩,⟨B7,3,(r_8.Rows.flatMap encI),c7*1⟩] [R8,R7]:=hS27
   have hQ4:=hS27.se [0,1,2,3,4,5]
   refine ⟨hQ4,?_⟩
   let V18:List Value:=[.slice B7 r_8.Rows.length c7]
   refine rq 5 29 rfl hQ4 (fun w' hw'=>(ym (.tuple #[.agg V18.toArray,.bool r_9])))<|rq 6 35 (v:=.agg V18.toArray) rfl hQ4 (fun w' hw'=>(ye (.agg V18.toArray)))<|rq 7 36 (v:=.bool r_9) rfl hQ4 (fun w' hw'=>(ye (.bool r_9))) ?_
   refine rA [9] ?_
   refine rZ 9 rfl (yT 6 1 (aD b3) 26 (.agg V18.toArray) V18 0 hS27 K6) ?_ aN
   rintro _ w_19 ⟨rfl,hS28⟩
   refine ⟨(hS28.se [0,1,2,3,4,5]),?_⟩
   refine rq 10 8 rfl (hS28.se [0,1,2,3,4,5]) (fun w' hw'=>(yg (.bool r_9))) ?_
   refine ra_done (by kernel_rfl) ?_
   exact ⟨aD b3,B7,c7,(fc rfl (fc rfl (fc rfl (fc rfl fn_)))),(hS28.sel [0,1,3,6,8] rfl rfl)⟩
  rintro f w ⟨B8,B9,c8,hf,hS16⟩
  refine cq ?_
  obtain ⟨r_10,hc6,hF2⟩:=bI hF2
  obtain ⟨r_11,hc7,hF2⟩:=bI hF2
  obtain ⟨⟨r_12,r_13⟩,hc8,hF2⟩:=bI hF2
  let R9:Ro:=⟨B4,(r_4.flatMap eN0)⟩
  have ho3:Org w0 [] [R8,R7] [R9]:=ST.orgOwn hS16 (i:=2) rfl
  have hcap2:r_4.length≤c4:=(hS16.lencap (i:=2) rfl (fm_lenn (l:=r_4) eN2 rfl) rfl rfl)
  let V19:List Value:=[.slice B9 r_8.Rows.length c8]
  let O2:Ob:=⟨B8,26,V19,1⟩
  let O3:Ob:=⟨B9,3,(r_8.Rows.flatMap encI),c8*1⟩
  have hS35:ST w0 [] _ [O0,O1,O2,O3] [R9,R8,R7]:=hS16.freeze (i:=2) rfl
  refine ra_start (hS35.se [0,1,2,3]).fn (by kernel_rfl) ?_
  have hS36:=hS35.drew
  have hQ5:=hS36.se [0,1,2,3]
  refine rq 0 38 (v:=pt (aD b) 0) rfl hQ5 (fun w' hw'=>(yd (aD b) 0 0 K44 K0 rfl (hf.g 1 0)))<|rq 1 39 rfl hQ5 (fun w' hw'=>(yl (aD b) 0 V11 (vi p.Qubits) K1 (ST.cf hw' (i:=0) rfl)))<|rq 2 40 rfl hQ5 (fun w' hw'=>(ym (.slice B4 r_4.length c4) rfl (hf.g 4 2)))<|rq 3 41 (v:=.agg V19.toArray) rfl hQ5 (fun w' hw'=>(yb B8 0 V19 K16 K6 (ST.cf hw' (i:=2) rfl) rfl (hf.g 7 3)))<|rq 7 45 (v:=pt (aD b) 2) rfl hQ5 (fun w' hw'=>(yd (aD b) 0 0 K43 K35 rfl (hf.g 1 0))) ?_
  refine rq 8 46 rfl hQ5 (fun w' hw'=>(yl (aD b) 2 V11 (.slice B p.Terms.length c) K42 (ST.cf hw' (i:=0) rfl))) ?_
  refine rA [4] ?_
  refine rC 42 4 rfl (yC [.agg V19.toArray] Oa (PJ r_8 B9 c8 r_8.Rows.length _ rfl (hS36.inn0 [(false,3)] rfl) hc6)) ?_ aN
  rintro _ w_20 ⟨B10,c9,rfl,hd9⟩
  have hS37:=hS36.out0 hd9
  refine ⟨(hS37.se [0,1,2,3]),?_⟩
  refine rA [5] ?_
  let R10:Ro:=⟨B10,(r_10.flatMap eN0)⟩
  have ho4:Org w0 [] [R8,R7] [R10]:=ST.orgOwn hS37 (i:=4) rfl
  have hcap3:r_10.length≤c9:=(hS37.lencap (i:=4) rfl (fm_lenn (l:=r_10) eN2 rfl) rfl rfl)
  have hS38:ST w0 [] _ [O0,O1,O2,O3] [R10,R9,R8,R7]:=hS37.freeze (i:=4) rfl
  refine rS 43 5 rfl (Ys_bslice (s:=1) (len:=2) (vs:=[(0,.slice B4 r_4.length c4),(1,.slice B10 r_10.length c9)]) (cs:=[.slice B4 r_4.length c4,.slice B10 r_10.length c9]) (zs:=[.slice none 0 0,.slice none 0 0]) (m:=2) hS38 K86 K11 Nt rfl (mpc rfl (mpc rfl mpn)) rfl rfl rfl (by kernel_rfl) (by kernel_rfl) rfl) ?_ aN
  rintro _ w_21 ⟨b4,rfl,hS39⟩
  have hm1:∀ r∈(([((B4,c4),r_4),((B10,c9),r_10)]:List (Hd×(List Aa))).flatMap A1),r∈([R10,R9,R8,R7]:List Ro):=(fsub_cons (sk 1 (fun _ h=>by cases h)) (fsub_cons (sk 0 (fun _ h=>by cases h)) fsub_nil))
  have ho5:Org w0 [] [R8,R7] (([((B4,c4),r_4),((B10,c9),r_10)]:List (Hd×(List Aa))).flatMap A1):=(forg_cons (org_cons ho3 org_nil) (forg_cons (org_cons ho4 org_nil) forg_nil))
  have hS40:ST w0 [] _ [O0,O1,O2,O3,⟨aD b4,30,(([((B4,c4),r_4),((B10,c9),r_10)]:List (Hd×(List Aa))).flatMap Bz),2*1⟩] (R10::R9::R8::R7::((([((B4,c4),r_4),((B10,c9),r_10)]:List (Hd×(List Aa))).flatMap A1)++[])):=ST.subR hS39 (sk 0 (sk 1 (sk 2 (sk 3 (suba hm1 (fun _ h=>by cases h))))))
  refine ⟨((hS40.se [0,1,2,3]).sT [1,2,3]),?_⟩
  refine rA [6] ?_
  refine rC 44 6 rfl (yC [.slice (aD b4) 2 2] P6 (PD ([r_4,r_10]:List (List Aa)) (aD b4) 2 2 ([((B4,c4),r_4),((B10,c9),r_10)]:List (Hd×(List Aa))) _ (dl_fl (show List.map Prod.snd ([((B4,c4),r_4),((B10,c9),r_10)]:List (Hd×(List Aa)))=([r_4,r_10]:List (List Aa)) from rfl) rfl) (show List.map Prod.snd ([((B4,c4),r_4),((B10,c9),r_10)]:List (Hd×(List Aa)))=([r_4,r_10]:List (List Aa)) from rfl) (hS40.innR0 (srcO (i:=4) rfl (srcG (fun r_ (h:r_∈((([((B4,c4),r_4),((B10,c9),r_10)]:List (Hd×(List Aa))).flatMap A1):List Ro))=>mOd (i:=4) (show r_∈((((([((B4,c4),r_4),((B10,c9),r_10)]:List (Hd×(List Aa))).flatMap A1)++[])):List Ro) from mAl _ h)) (fun _ h=>by cases h)))) hc7)) ?_ aN
  rintro _ w_22 ⟨B11,c10,rfl,hd10⟩
  have hS41:=hS40.out0 hd10
  refine ⟨((hS41.se [0,1,2,3]).sT [1,2,3]),?_⟩
  refine rA [9] ?_
  refine rC 47 9 rfl (yC [vi p.Qubits,.slice B11 r_11.length c10,.slice B p.Terms.length c] Km (KC p.Qubits r_11 p.Terms B11 c10 r_11.length B c p.Terms.length _ rfl rfl (hS41.inn0 [(false,5),(true,2)] rfl) hc8)) ?_ aN
  rintro _ w_23 ⟨B12,c11,rfl,hd11⟩
  have hS42:=hS41.out0 hd11
  have hQ6:=hS42.se [0,1,2,3]
  refine ⟨(hQ6.sT [1,2,3]),?_⟩
  refine rq 10 37 rfl (hQ6.sT [1,2,3]) (fun w' hw'=>(ym (.tuple #[.slice B12 r_12.length c11,.bool r_13])))<|rq 11 48 (v:=.slice B12 r_12.length c11) rfl (hQ6.sT [1,2,3]) (fun w' hw'=>(ye (.slice B12 r_12.length c11)))<|rq 12 49 (v:=.bool r_13) rfl (hQ6.sT [1,2,3]) (fun w' hw'=>(ye (.bool r_13)))<|rq 13 9 rfl (hQ6.sT [1,2,3]) (fun w' hw'=>(yg (.slice B12 r_12.length c11)))<|rq 14 10 rfl (hQ6.sT [1,2,3]) (fun w' hw'=>(yg (.bool r_13))) ?_
  refine ra_done (by kernel_rfl) ?_
  refine cq ?_
  obtain ⟨r_14,hc9,hF2⟩:=bI hF2
  obtain ⟨hap,hF2⟩:=chk_inv hF2
  obtain ⟨⟨r_15,r_16⟩,hc10,hF2⟩:=bI hF2
  refine ra_start (hS42.se [0,2,3,4,5]).fn (by kernel_rfl) ?_
  have hS45:=hS42.drew
  have hQ7:=hS45.se [0,2,3,4,5]
  refine rq 0 50 (v:=pt (aD b) 0) rfl hQ7 (fun w' hw'=>(yd (aD b) 0 0 K44 K0 rfl (hf.g 1 0)))<|rq 1 51 rfl hQ7 (fun w' hw'=>(yl (aD b) 0 V11 (vi p.Qubits) K1 (ST.cf hw' (i:=0) rfl)))<|rq 2 52 rfl hQ7 (fun w' hw'=>(ym (.slice B12 r_12.length c11)))<|rq 3 53 (v:=pt (aD b) 1) rfl hQ7 (fun w' hw'=>(yd (aD b) 0 0 K63 K0 rfl (hf.g 1 0)))<|rq 4 54 rfl hQ7 (fun w' hw'=>(yl (aD b) 1 V11 (vi p.Phase) K1 (ST.cf hw' (i:=0) rfl))) ?_
  refine rA [5] ?_
  refine rC 55 5 rfl (yC [vi p.Phase] MQ (Lz p.Phase _  (hS45.inn0 [] rfl) hc9)) ?_ aN
  rintro _ w_24 ⟨B13,c12,rfl,hd12⟩
  have hS46:=hS45.out0 hd12
  have hS46:ST w0 [] _ [O0,O1,O2,O3,⟨aD b4,30,(([((B4,c4),r_4),((B10,c9),r_10)]:List (Hd×(List Aa))).flatMap Bz),2*1⟩,⟨B11,59,(r_11.flatMap eN0),c10*3⟩,⟨B12,59,(r_12.flatMap eN0),c11*3⟩,⟨B13,59,(r_14.flatMap eN0),c12*3⟩] (R10::R9::R8::R7::((([((B4,c4),r_4),((B10,c9),r_10)]:List (Hd×(List Aa))).flatMap A1)++[])):=hS46
  refine ⟨(hS46.se [0,2,3,4,5]),?_⟩
  refine rA [6] ?_
  refine rS 56 6 rfl (Ys_append (s:=3) (by':=24) (i:=6) (nn:=r_12.length) (c:=c11) (k:=r_14.length) (len:=(r_12++r_14).length) (B:=B12) (xs:=(r_14.flatMap eN0)) (cs':=((r_12++r_14).flatMap eN0)) hS46 K4 K3 K23 K10 rfl (by decide) rfl rfl rfl rfl (fm_lenn (l:=r_12) eN2 rfl) rfl (hS46.c 7) (fm_lenn (l:=r_14) eN2 rfl) (fm_one' (enc:=eN0) Al r_14) (by have:=hap; omega) (by have:=hap; simp only [maxLen]; omega) (fm_app _ _) (app_len (l:=r_12) (l':=r_14) rfl rfl)) ?_ aN
  rintro _ w_25 ⟨B14,c13,rfl,hS47⟩
  refine ⟨(hS47.se [0,2,3,4,5]),?_⟩
  refine rA [7] ?_
  refine rC 57 7 rfl (yC [vi p.Qubits,.slice B14 ((r_12++r_14).length) c13] Ir (Ij p.Qubits (r_12++r_14) B14 c13 ((r_12++r_14).length) _ rfl (hS47.inn0 [(false,6)] rfl) hc10)) ?_ aN
  rintro _ w_26 ⟨B15,c14,rfl,hd13⟩
  have hS48:=hS47.out0 hd13
  have hQ8:=hS48.se [0,2,3,4,5]
  refine ⟨hQ8,?_⟩
  let V13:List Value:=[vi r_15.Qubits,.slice B15 r_15.Gates.length c14]
  refine rq 8 58 (v:=.agg V13.toArray) rfl hQ8 (fun w' hw'=>(ye (.agg V13.toArray)))<|rq 9 59 (v:=.bool r_16) rfl hQ8 (fun w' hw'=>(ye (.bool r_16))) ?_
  refine rA [10] ?_
  refine rZ 10 rfl (yT 1 2 (aD b1) 32 (.agg V13.toArray) V13 0 hS48 K7 rfl (hf.g 2 1)) ?_ aN
  rintro _ w_27 ⟨rfl,hS49⟩
  refine ⟨(hS49.se [0,2,3,4,5]),?_⟩
  refine rq 11 3 rfl (hS49.se [0,2,3,4,5]) (fun w' hw'=>(yg (.bool r_16))) ?_
  refine ra_done (by kernel_rfl) ?_
  refine ct_ ?_
  obtain ⟨rfl,rfl⟩:=pr2 (sI hF2)
  exact ret2 Tryz.results5 (v1:=.agg V13.toArray) (resAt_cellA (B:=aD b1) (i:=0) (cs:=V13) (vs:=V13) (hf.g 2 1) K12 K7 (hS49.c 1) rfl rfl) (v2:=.bool r_16) (resAt_tmp rfl) ⟨B15,c14,rfl,(hS49.sN [8])⟩

theorem AM (n:Int) (lo:Int) (hi:Int)  (w0:World)  (hS:ST w0 [] w0 [] []) {r_:Bool} (hF:Ay n lo hi=some r_) :
  CV Tryz.prog 75 #[vi n,vi lo,vi hi] w0 (fun v w'=>v=.bool r_∧ST w0 [] w' [] []):=by
 unfold Ay at hF
 refine cv_of_cw 15 Tryz.func75 rfl Tryz.ntmps75 rfl ?_
 refine cq (cr ?_)
 refine sQ 6 (yg (.bool false)) (rn (cq (cr ?_)))
 refine sQ 7 (ym (vi n))<|sQ 8 (ym (vi lo))<|sQ 9 (Y_ge (k:=.i64) (a:=n) (b:=lo) rfl rfl rfl)<|sQ 10 (ym (.bool (decide (lo≤n)))) ?_
 refine sgq 11 (B:=(decide (lo≤n))) rfl rfl (uT_ 10) (fun hg=>(ym (vi n))) ?_
 refine sgq 12 (B:=(decide (lo≤n))) rfl rfl (uT_ 10) (fun hg1=>(ym (vi hi))) ?_
 refine sgq 13 (B:=(decide (lo≤n))) rfl rfl (uT_ 10) (fun hg2=>(Y_le (k:=.i64) (a:=n) (b:=hi) rfl (gv_of (v:=vi n) hg2) (gv_of (v:=vi hi) hg2))) ?_
 refine sQ 14 (Y_and (b:=(decide (lo≤n))) (z:=(decide (n≤hi))) rfl rfl rfl rfl)<|sQ 6 (yg (.bool ((decide (lo≤n))&&(decide (n≤hi))))) (rn (ct_ ?_))
 obtain rfl:=sI hF
 exact ret1 Tryz.results75 (v1:=.bool ((decide (lo≤n))&&(decide (n≤hi)))) (resAt_tmp rfl) ⟨rfl,(hS.sN [])⟩

theorem NW (l:List Int) (lo:Int) (hi:Int) (B:Option Addr) (c n:Nat) (w0:World) (hn:l.length=n) (hS:ST w0 [] w0 [] [⟨B,(l.flatMap encI)⟩]) {r_:Bool} (hF:Ek l lo hi=some r_) :
  CV Tryz.prog 108 #[.slice B n c,vi lo,vi hi] w0 (fun v w'=>v=.bool r_∧ST w0 [] w' [] []):=by
 subst hn
 unfold Ek at hF
 refine cv_of_cw 21 Tryz.func108 rfl Tryz.ntmps108 rfl ?_
 refine cq (cr ?_)
 refine sQ 6 (yg (.bool false)) (rn (cq (cq (cr ?_))))
 refine sQ 9 (ym (.slice B l.length c))<|sQ 10 (Y_len (B:=B) (m:=l.length) (c:=c) K2 rfl rfl)<|sQ 11 (ym (vi 0)) (rn ?_)
 obtain ⟨hN,hF⟩:=chk_inv hF
 obtain ⟨z,hz,hF1⟩:=bI hF
 refine cw_block ?_
 refine cw_loop (fun k f w=>∃ (i:Nat),FF f [(1,vi lo),(2,vi hi),(9,.slice B l.length c),(10,vi (l.length:Int)),(11,vi (i:Int))]∧ST w0 [] w [] [⟨B,(l.flatMap encI)⟩]∧i+k=l.length∧forX (EZ l lo hi) k i ()=some z) l.length ⟨0,(fc rfl (fc rfl (fc rfl (fc rfl (fc rfl fn_))))),(hS.sel [] rfl rfl),Nat.zero_add _,hz⟩ ?_
 rintro k_ f w ⟨i,hf,hS1,hik,hL⟩
 refine cq (cr ?_)
 refine sQ 12 (yL (i:Int) (l.length:Int) rfl (hf.g 11 4) (hf.g 10 3)) (rn (cq ?_))
 refine cw_cond (b:=(decide ((i:Int)<(l.length:Int)))) rfl (fun hlt=>?_) (fun hlt=>?_)
 ·skip
  have hlt1:i<l.length:=by have h:=of_decide_eq_true hlt; omega
  obtain ⟨K5,rfl⟩:∃ k2,k_=k2+1:=⟨k_-1,by omega⟩
  obtain ⟨y,hb,hL1⟩:=forX_go hL
  unfold EZ at hb
  refine cw_skip (cq (cw_block (cq (cr ?_))))
  obtain ⟨x,hx,hb⟩:=bI hb
  refine sQ 13 (yI B (i:Int) K2 K0 (gi_isSome encI_len rfl (hS1.rf (i:=0) rfl) hx) (getI_nn hx) (getI_ltI hx rfl) rfl (hf.g 9 2) (hf.g 11 4))<|sQ 14 (yl B ((i:Int).toNat*1) (l.flatMap encI) (vi x) K1 (hS1.rf (i:=0) rfl) rfl rfl (gi_at0 encI_len hx rfl))<|sQ 8 (yg (vi x)) (rn (cq (cr ?_)))
  refine sQ 15 (ym (vi x))<|sQ 16 (ym (vi lo) rfl (hf.g 1 0))<|sQ 17 (ym (vi hi) rfl (hf.g 2 1)) ?_
  obtain ⟨r_1,hc,hb⟩:=bI hb
  refine sc 18 rfl rfl (yC [vi x,vi lo,vi hi] K48 (AM x lo hi _  (hS1.inn0 [] rfl) hc)) ?_
  rintro _ w_ ⟨rfl,hd⟩
  have hS2:=hS1.out00 hd
  refine sQ 19 (Y_not (p:=r_1) rfl rfl) (rn ?_)
  refine cw_cond (b:=(!r_1)) rfl (fun hb1=>?_) (fun hb1=>?_)
  ·skip
   have hF2:=ct hb hb1
   refine cq (cr ?_)
   refine sQ 6 (yg (.bool false)) (rn (ct_ ?_))
   obtain rfl:=sI hF2
   obtain rfl:=sI hL1
   obtain rfl:=sI hF1
   exact ret1 Tryz.results108 (v1:=.bool false) (resAt_tmp rfl) ⟨rfl,(hS2.sN [])⟩
  ·skip
   have hF3:=cf' hb hb1
   refine cw_skip (cr ?_)
   refine sQ 20 (yP (i:Int) 1 rfl (hf.g 11 4))<|sQ 11 (ym (vi (i64.wrap ((i:Int)+1)))) (rn ?_)
   obtain rfl:=sI hF3
   exact ⟨K5,Nat.lt_succ_self _,i+1,(hf.a 1 0 (hf.a 2 1 (hf.a 9 2 (hf.a 10 3 (fc (congrArg (Value.int .i64) (wr_succ hlt1 hN)) fn_))))),(hS2.sel [] rfl rfl),(by omega),hL1⟩
 ·skip
  obtain rfl:k_=0:=by have h:=of_decide_eq_false hlt; omega
  refine cw_exit rfl ?_
  obtain rfl:=sI hL
  refine cq (cr ?_)
  refine sQ 6 (yg (.bool true)) (rn (ct_ ?_))
  obtain rfl:=sI hF1
  exact ret1 Tryz.results108 (v1:=.bool true) (resAt_tmp rfl) ⟨rfl,(hS1.sN [])⟩

theorem Nj (rows:List Int) (B:Option Addr) (c n:Nat) (w0:World) (hn:rows.length=n) (hS:ST w0 [] w0 [] [⟨B,(rows.flatMap encI)⟩]) {r_:Int} (hF:Cv rows=some r_) :
  CV Tryz.prog 109 #[.slice B n c] w0 (fun v w'=>v=vi r_∧ST w0 [] w' [] []):=by
 subst hn
 unfold Cv at hF
 refine cv_of_cw 80 Tryz.func109 rfl Tryz.ntmps109 rfl ?_
 refine cq (cr ?_)
 refine sQ 2 (yg (vi 0)) (rn (cq (cr ?_)))
 refine sQ 10 (ym (.slice B rows.length c)) ?_
 obtain ⟨r_1,hc,hF⟩:=bI hF
 refine sc 11 rfl rfl (yC [.slice B rows.length c] K75 (EB rows B c rows.length _ rfl (hS.inn0 [(true,0)] rfl) hc)) ?_
 rintro _ w_ ⟨B1,c1,rfl,hd⟩
 have hS1:=hS.out0 hd
 refine sQ 3 (yg (.slice B1 r_1.length c1)) (rn (cq (cr ?_)))
 refine sQ 4 (yg (vi 0)) (rn (cq (cq (cr ?_))))
 refine sQ 5 (yg (vi 0)) (rn ?_)
 obtain ⟨z,hz,hF1⟩:=bI hF
 refine cw_block ?_
 let R0:Ro:=⟨B,(rows.flatMap encI)⟩
 refine cw_loop (fun k f w=>∃ (bit:Nat) (l:List Int) (rank:Int),FF f [(3,.slice B1 r_1.length c1),(4,vi rank),(5,vi (bit:Int))]∧l.length=r_1.length∧ST w0 [] w [⟨B1,3,(l.flatMap encI),c1*1⟩] [R0]∧bit+k=10∧forN (DC r_1) k bit (l,rank)=some z) 10 ⟨0,r_1,0,(fc rfl (fc rfl (fc rfl fn_))),rfl,(hS1.sel [0] rfl rfl),Nat.zero_add _,hz⟩ ?_
 rintro k_ f w ⟨bit,l,rank,hf,hl,hS2,hik,hL⟩
 refine cq (cq (cr ?_))
 refine sQ 12 (ym (vi (bit:Int)) rfl (hf.g 5 2))<|sQ 13 (yL (bit:Int) 10) (rn ?_)
 refine cw_cond (b:=(decide ((bit:Int)<10))) rfl (fun hlt=>?_) (fun hlt=>?_)
 ·skip
  have hlt1:bit<10:=by have h:=of_decide_eq_true hlt; omega
  obtain ⟨K5,rfl⟩:∃ k2,k_=k2+1:=⟨k_-1,by omega⟩
  obtain ⟨y,hb,hL1⟩:=forN_go hL
  unfold DC at hb
  refine cw_skip (cq ?_)
  obtain ⟨z1,hz1,hF2⟩:=bI hb
  refine cw_mid (fun f w=>∃ (l1:List Int) (rank1:Int),(l1,rank1)=z1∧FF f [(3,.slice B1 r_1.length c1),(4,vi rank1),(5,vi (bit:Int))]∧l1.length=r_1.length∧ST w0 [] w [⟨B1,3,(l1.flatMap encI),c1*1⟩] [R0]) ?_ ?_
  ·skip
   refine cw_block (cq (cr ?_))
   refine sQ 6 (yg (vi (-1))) (rn (cq (cq (cr ?_))))
   refine sQ 16 (ym (vi rank) rfl (hf.g 4 1))<|sQ 7 (yg (vi rank)) (rn ?_)
   obtain ⟨z2,hz2,hF3⟩:=bI hz1
   refine cw_mid (fun f w=>∃ (at_:Int) (i1:Int),.inl (at_,i1)=z2∧FF f [(3,.slice B1 r_1.length c1),(4,vi rank),(5,vi (bit:Int)),(6,vi at_)]∧ST w0 [] w [⟨B1,3,(l.flatMap encI),c1*1⟩] [R0]) ?_ ?_
   ·skip
    refine cw_block ?_
    refine cw_loop (fun k f w=>∃ (at_1:Int) (i2:Int),FF f [(3,.slice B1 r_1.length c1),(4,vi rank),(5,vi (bit:Int)),(6,vi at_1),(7,vi i2)]∧ST w0 [] w [⟨B1,3,(l.flatMap encI),c1*1⟩] [R0]∧whX (Dc r_1 l bit) k (at_1,i2)=some z2) fuel ⟨(-1),rank,(hf.a 3 0 (hf.a 4 1 (hf.a 5 2 (fc rfl (fc rfl fn_))))),(hS2.sel [0] rfl rfl),hz2⟩ ?_
    rintro K19 f w ⟨at_1,i2,hf3,hS5,hL2⟩
    obtain ⟨K32,y1,rfl,hb1,hL3⟩:=whX_go hL2
    unfold Dc at hb1
    refine cq (cq (cr ?_))
    refine sQ 17 (ym (vi i2) rfl (hf3.g 7 4))<|sQ 18 (ym (.slice B1 r_1.length c1) rfl (hf3.g 3 0))<|sQ 19 (Y_len (B:=B1) (m:=r_1.length) (c:=c1) K2 rfl rfl)<|sQ 20 (yL i2 (r_1.length:Int)) (rn ?_)
    refine cw_cond (b:=(decide (i2<(r_1.length:Int)))) rfl (fun hb2=>?_) (fun hb2=>?_)
    ·skip
     have hF4:=ct hb1 hb2
     refine cw_skip (cq (cw_block (cq (cr ?_))))
     refine sQ 23 (ym (.slice B1 r_1.length c1) rfl (hf3.g 3 0))<|sQ 24 (ym (vi i2) rfl (hf3.g 7 4)) ?_
     obtain ⟨x,hx,hF4⟩:=bI hF4
     refine sQ 25 (yI B1 i2 K2 K0 (gi_isSome encI_len rfl (hS5.c 0) hx) (getI_nn hx) (getI_ltI hx hl))<|sQ 26 (yl B1 (i2.toNat*1) (l.flatMap encI) (vi x) K1 (hS5.c 0) rfl rfl (gi_at0 encI_len hx rfl))<|sQ 27 (ym (vi (bit:Int)) rfl (hf3.g 5 2))<|sQ 28 (Y_conv (k:=.i64) (a:=(bit:Int)) (T:=3) (T':=77) K40 K41 rfl rfl) ?_
     obtain ⟨hsh,hF4⟩:=chk_inv hF4
     refine sQ 29 (Y_shr (k:=.i64) (a:=x) (k':=.u64) (b:=(IntKind.u64.wrap (bit:Int))) rfl rfl rfl hsh)<|sQ 30 (Y_band (k:=.i64) (a:=(shrK .i64 x (IntKind.u64.wrap (bit:Int)))) (b:=1) rfl rfl rfl)<|sQ 31 (yE (bits .and .i64 (shrK .i64 x (IntKind.u64.wrap (bit:Int))) 1) 1) (rn ?_)
     refine cw_cond (b:=((bits .and .i64 (shrK .i64 x (IntKind.u64.wrap (bit:Int))) 1)==1)) rfl (fun hb3=>?_) (fun hb3=>?_)
     ·skip
      have hF5:=ct hF4 hb3
      refine cq (cr ?_)
      refine sQ 32 (ym (vi i2) rfl (hf3.g 7 4))<|sQ 6 (yg (vi i2)) (rn ?_)
      refine cw_exit rfl ?_
      obtain rfl:=sI hF5
      exact ⟨i2,i2,(sI hL3),(hf3.a 3 0 (hf3.a 4 1 (hf3.a 5 2 (fc rfl fn_)))),(hS5.sel [0] rfl rfl)⟩
     ·skip
      have hF6:=cf' hF4 hb3
      refine cw_skip (cr ?_)
      refine sQ 21 (ym (vi i2) rfl (hf3.g 7 4))<|sQ 22 (yP i2 1)<|sQ 7 (yg (vi (i64.wrap (i2+1)))) (rn ?_)
      obtain rfl:=sI hF6
      exact ⟨K32,Nat.lt_succ_self _,at_1,(i64.wrap (i2+1)),(hf3.a 3 0 (hf3.a 4 1 (hf3.a 5 2 (hf3.a 6 3 (fc rfl fn_))))),(hS5.sel [0] rfl rfl),hL3⟩
    ·skip
     have hF7:=cf' hb1 hb2
     refine cw_exit rfl ?_
     obtain rfl:=sI hF7
     exact ⟨at_1,i2,(sI hL3),(hf3.a 3 0 (hf3.a 4 1 (hf3.a 5 2 (hf3.a 6 3 fn_)))),(hS5.sel [0] rfl rfl)⟩
   rintro f w ⟨at_,i1,rfl,hf2,hS4⟩
   refine cq (cq (cr ?_))
   refine sQ 33 (ym (vi at_) rfl (hf2.g 6 3))<|sQ 34 (yL at_ 0) (rn ?_)
   refine cw_cond (b:=(decide (at_<0))) rfl (fun hb4=>?_) (fun hb4=>?_)
   ·skip
    have hF8:=ct hF3 hb4
    refine cw_exit rfl ?_
    exact ⟨l,rank,(sI hF8),(hf2.a 3 0 (hf2.a 4 1 (hf2.a 5 2 fn_))),hl,(hS4.sel [0] rfl rfl)⟩
   ·skip
    have hF9:=cf' hF3 hb4
    refine cw_skip (cq (cr ?_))
    refine sQ 35 (ym (.slice B1 r_1.length c1) rfl (hf2.g 3 0))<|sQ 36 (ym (vi at_) rfl (hf2.g 6 3)) ?_
    obtain ⟨x1,hx1,hF9⟩:=bI hF9
    refine sQ 37 (yI B1 at_ K2 K0 (gi_isSome encI_len rfl (hS4.c 0) hx1) (getI_nn hx1) (getI_ltI hx1 hl))<|sQ 38 (yl B1 (at_.toNat*1) (l.flatMap encI) (vi x1) K1 (hS4.c 0) rfl rfl (gi_at0 encI_len hx1 rfl))<|sQ 8 (yg (vi x1)) (rn (cq (cr ?_)))
    refine sQ 39 (ym (.slice B1 r_1.length c1) rfl (hf2.g 3 0))<|sQ 40 (ym (vi at_) rfl (hf2.g 6 3))<|sQ 41 (ym (.slice B1 r_1.length c1) rfl (hf2.g 3 0))<|sQ 42 (ym (vi rank) rfl (hf2.g 4 1)) ?_
    obtain ⟨x2,hx2,hF9⟩:=bI hF9
    refine sQ 43 (yI B1 rank K2 K0 (gi_isSome encI_len rfl (hS4.c 0) hx2) (getI_nn hx2) (getI_ltI hx2 hl))<|sQ 44 (yl B1 (rank.toNat*1) (l.flatMap encI) (vi x2) K1 (hS4.c 0) rfl rfl (gi_at0 encI_len hx2 rfl))<|sQ 45 (yI B1 at_ K2 K0 (gi_isSome encI_len rfl (hS4.c 0) hx1) (getI_nn hx1) (getI_ltI hx1 hl)) ?_
    refine s0 (yS 0 1 B1 3 (vi x2) [vi x2] (at_.toNat*1) ((l.set at_.toNat x2).flatMap encI) hS4 K0 rfl rfl rfl rfl rfl rfl rfl (gi_fit0 encI_len hx1) (gi_set encI_len hx1 x2 rfl)) ?_
    rintro _ w_1 ⟨rfl,hS6⟩
    refine rn (cq (cr ?_))
    refine sQ 46 (ym (.slice B1 r_1.length c1) rfl (hf2.g 3 0))<|sQ 47 (ym (vi rank) rfl (hf2.g 4 1))<|sQ 48 (ym (vi x1)) ?_
    obtain ⟨x3,hx3,hF9⟩:=bI hF9
    refine sQ 49 (yI B1 rank K2 K0 (gi_isSome encI_len rfl (hS6.c 0) hx3) (getI_nn hx3) (getI_ltI hx3 (set_len _ _ _ hl))) ?_
    refine s0 (yS 0 1 B1 3 (vi x1) [vi x1] (rank.toNat*1) (((l.set at_.toNat x2).set rank.toNat x1).flatMap encI) hS6 K0 rfl rfl rfl rfl rfl rfl rfl (gi_fit0 encI_len hx3) (gi_set encI_len hx3 x1 rfl)) ?_
    rintro _ w_2 ⟨rfl,hS7⟩
    refine rn (cq (cq (cr ?_)))
    refine sQ 50 (ym (.slice B1 r_1.length c1) rfl (hf2.g 3 0))<|sQ 51 (Y_len (B:=B1) (m:=r_1.length) (c:=c1) K2 rfl rfl)<|sQ 52 (ym (vi 0)) (rn ?_)
    obtain ⟨hN,hF9⟩:=chk_inv hF9
    obtain ⟨z3,hz3,hF10⟩:=bI hF9
    refine cw_block ?_
    refine cw_loop (fun k f w=>∃ (i3:Nat) (l2:List Int),FF f [(3,.slice B1 r_1.length c1),(4,vi rank),(5,vi (bit:Int)),(8,vi x1),(51,vi (r_1.length:Int)),(52,vi (i3:Int))]∧l2.length=r_1.length∧ST w0 [] w [⟨B1,3,(l2.flatMap encI),c1*1⟩] [R0]∧i3+k=r_1.length∧forN (DP rank bit x1) k i3 l2=some z3) r_1.length ⟨0,((l.set at_.toNat x2).set rank.toNat x1),(hf2.a 3 0 (hf2.a 4 1 (hf2.a 5 2 (fc rfl (fc rfl (fc rfl fn_)))))),(set_len _ _ _ (set_len _ _ _ hl)),(hS7.sel [0] rfl rfl),Nat.zero_add _,hz3⟩ ?_
    rintro K38 f w ⟨i3,l2,hf4,hl2,hS8,hik2,hL4⟩
    refine cq (cr ?_)
    refine sQ 53 (yL (i3:Int) (r_1.length:Int) rfl (hf4.g 52 5) (hf4.g 51 4)) (rn (cq ?_))
    refine cw_cond (b:=(decide ((i3:Int)<(r_1.length:Int)))) rfl (fun hlt2=>?_) (fun hlt2=>?_)
    ·skip
     have hlt3:i3<r_1.length:=by have h:=of_decide_eq_true hlt2; omega
     obtain ⟨K53,rfl⟩:∃ k2,K38=k2+1:=⟨K38-1,by omega⟩
     obtain ⟨y2,hb5,hL5⟩:=forN_go hL4
     unfold DP at hb5
     refine cw_skip (cq ?_)
     obtain ⟨z4,hz4,hF11⟩:=bI hb5
     refine cw_mid (fun f w=>∃ (l3:List Int),l3=z4∧FF f [(3,.slice B1 r_1.length c1),(4,vi rank),(5,vi (bit:Int)),(8,vi x1),(51,vi (r_1.length:Int)),(52,vi (i3:Int))]∧l3.length=r_1.length∧ST w0 [] w [⟨B1,3,(l3.flatMap encI),c1*1⟩] [R0]) ?_ ?_
     ·skip
      refine cw_block (cq (cr ?_))
      refine sQ 54 (ym (vi (i3:Int)) rfl (hf4.g 52 5))<|sQ 9 (yg (vi (i3:Int))) (rn (cq (cr ?_)))
      refine sQ 55 (ym (vi (i3:Int)))<|sQ 56 (ym (vi rank) rfl (hf4.g 4 1))<|sQ 57 (Y_ne (k:=.i64) (a:=(i3:Int)) (b:=rank) rfl rfl rfl)<|sQ 58 (ym (.bool ((i3:Int) != rank))) ?_
      refine sgq 59 (B:=((i3:Int) != rank)) rfl rfl (uT_ 58) (fun hg=>(ym (.slice B1 r_1.length c1) rfl (hf4.g 3 0))) ?_
      refine sgq 60 (B:=((i3:Int) != rank)) rfl rfl (uT_ 58) (fun hg1=>(ym (vi (i3:Int)))) ?_
      obtain ⟨x4,hx4,hz4⟩:=bI hz4
      refine sgq 61 (B:=((i3:Int) != rank)) (v:=pt B1 ((i3:Int).toNat*1)) rfl rfl (uT_ 58) (fun hg2=>(yI B1 (i3:Int) K2 K0 (gi_isSome encI_len rfl (hS8.c 0) (gb_inv hx4 hg2)) (getI_nn (gb_inv hx4 hg2)) (getI_ltI (gb_inv hx4 hg2) hl2) rfl (gv_of (v:=.slice B1 r_1.length c1) hg2) (gv_of (v:=vi (i3:Int)) hg2))) ?_
      refine sgq 62 (B:=((i3:Int) != rank)) rfl rfl (uT_ 58) (fun hg3=>(yl B1 ((i3:Int).toNat*1) (l2.flatMap encI) (vi x4) K1 (hS8.c 0) rfl (gv_of (v:=pt B1 ((i3:Int).toNat*1)) hg3) (gi_at0 encI_len (gb_inv hx4 hg3) rfl))) ?_
      refine sgq 63 (B:=((i3:Int) != rank)) rfl rfl (uT_ 58) (fun hg4=>(ym (vi (bit:Int)) rfl (hf4.g 5 2))) ?_
      refine sgq 64 (B:=((i3:Int) != rank)) (v:=.int .u64 (IntKind.u64.wrap (bit:Int))) rfl rfl (uT_ 58) (fun hg5=>(Y_conv (k:=.i64) (a:=(bit:Int)) (T:=3) (T':=77) K40 K41 rfl (gv_of (v:=vi (bit:Int)) hg5))) ?_
      obtain ⟨hsh1,hz4⟩:=chk_inv hz4
      refine sgq 65 (B:=((i3:Int) != rank)) (v:=vi (shrK .i64 x4 (IntKind.u64.wrap (bit:Int)))) rfl rfl (uT_ 58) (fun hg6=>(Y_shr (k:=.i64) (a:=x4) (k':=.u64) (b:=(IntKind.u64.wrap (bit:Int))) rfl (gv_of (v:=vi x4) hg6) (gv_of (v:=.int .u64 (IntKind.u64.wrap (bit:Int))) hg6) (hsh1 hg6))) ?_
      refine sgq 66 (B:=((i3:Int) != rank)) (v:=vi (bits .and .i64 (shrK .i64 x4 (IntKind.u64.wrap (bit:Int))) 1)) rfl rfl (uT_ 58) (fun hg7=>(Y_band (k:=.i64) (a:=(shrK .i64 x4 (IntKind.u64.wrap (bit:Int)))) (b:=1) rfl (gv_of (v:=vi (shrK .i64 x4 (IntKind.u64.wrap (bit:Int)))) hg7) rfl)) ?_
      refine sgq 67 (B:=((i3:Int) != rank)) rfl rfl (uT_ 58) (fun hg8=>(yE (bits .and .i64 (shrK .i64 x4 (IntKind.u64.wrap (bit:Int))) 1) 1 rfl (gv_of (v:=vi (bits .and .i64 (shrK .i64 x4 (IntKind.u64.wrap (bit:Int))) 1)) hg8))) ?_
      refine sQ 68 (Y_and (b:=((i3:Int) != rank)) (z:=((bits .and .i64 (shrK .i64 x4 (IntKind.u64.wrap (bit:Int))) 1)==1)) rfl rfl rfl rfl) (rn ?_)
      refine cw_cond (b:=(((i3:Int) != rank)&&((bits .and .i64 (shrK .i64 x4 (IntKind.u64.wrap (bit:Int))) 1)==1))) rfl (fun hb6=>?_) (fun hb6=>?_)
      ·skip
       have hF12:=ct hz4 hb6
       refine cr ?_
       refine sQ 69 (ym (.slice B1 r_1.length c1) rfl (hf4.g 3 0))<|sQ 70 (ym (vi (i3:Int))) ?_
       obtain ⟨x5,hx5,hF12⟩:=bI hF12
       refine sQ 71 (yI B1 (i3:Int) K2 K0 (gi_isSome encI_len rfl (hS8.c 0) hx5) (getI_nn hx5) (getI_ltI hx5 hl2))<|sQ 72 (yl B1 ((i3:Int).toNat*1) (l2.flatMap encI) (vi x5) K1 (hS8.c 0) rfl rfl (gi_at0 encI_len hx5 rfl))<|sQ 73 (ym (vi x1) rfl (hf4.g 8 3))<|sQ 74 (Y_bxor (k:=.i64) (a:=x5) (b:=x1) rfl rfl rfl)<|sQ 75 (yI B1 (i3:Int) K2 K0 (gi_isSome encI_len rfl (hS8.c 0) hx5) (getI_nn hx5) (getI_ltI hx5 hl2)) ?_
       refine s0 (yS 0 1 B1 3 (vi (bits .xor .i64 x5 x1)) [vi (bits .xor .i64 x5 x1)] ((i3:Int).toNat*1) ((l2.set (i3:Int).toNat (bits .xor .i64 x5 x1)).flatMap encI) hS8 K0 rfl rfl rfl rfl rfl rfl rfl (gi_fit0 encI_len hx5) (gi_set encI_len hx5 (bits .xor .i64 x5 x1) rfl)) ?_
       rintro _ w_3 ⟨rfl,hS10⟩
       refine rn ?_
       exact ⟨(l2.set (i3:Int).toNat (bits .xor .i64 x5 x1)),(sI hF12),(hf4.a 3 0 (hf4.a 4 1 (hf4.a 5 2 (hf4.a 8 3 (hf4.a 51 4 (hf4.a 52 5 fn_)))))),(set_len _ _ _ hl2),(hS10.sel [0] rfl rfl)⟩
      ·skip
       have hF13:=cf' hz4 hb6
       refine cw_skip ?_
       exact ⟨l2,(sI hF13),(hf4.a 3 0 (hf4.a 4 1 (hf4.a 5 2 (hf4.a 8 3 (hf4.a 51 4 (hf4.a 52 5 fn_)))))),hl2,(hS8.sel [0] rfl rfl)⟩
     rintro f w ⟨l3,rfl,hf5,hl3,hS9⟩
     refine cr ?_
     refine sQ 76 (yP (i3:Int) 1 rfl (hf5.g 52 5))<|sQ 52 (ym (vi (i64.wrap ((i3:Int)+1)))) (rn ?_)
     obtain rfl:=sI hF11
     exact ⟨K53,Nat.lt_succ_self _,i3+1,l3,(hf5.a 3 0 (hf5.a 4 1 (hf5.a 5 2 (hf5.a 8 3 (hf5.a 51 4 (fc (congrArg (Value.int .i64) (wr_succ hlt3 hN)) fn_)))))),hl3,(hS9.sel [0] rfl rfl),(by omega),hL5⟩
    ·skip
     obtain rfl:K38=0:=by have h:=of_decide_eq_false hlt2; omega
     refine cw_exit rfl ?_
     obtain rfl:=sI hL4
     refine cr ?_
     refine sQ 77 (ym (vi rank) rfl (hf4.g 4 1))<|sQ 78 (yP rank 1)<|sQ 4 (yg (vi (i64.wrap (rank+1)))) (rn ?_)
     exact ⟨l2,(i64.wrap (rank+1)),(sI hF10),(hf4.a 3 0 (fc rfl (hf4.a 5 2 fn_))),hl2,(hS8.sel [0] rfl rfl)⟩
  rintro f w ⟨l1,rank1,rfl,hf1,hl1,hS3⟩
  refine cr ?_
  refine sQ 14 (ym (vi (bit:Int)) rfl (hf1.g 5 2))<|sQ 15 (yP (bit:Int) 1)<|sQ 5 (yg (vi (i64.wrap ((bit:Int)+1)))) (rn ?_)
  obtain rfl:=sI hF2
  exact ⟨K5,Nat.lt_succ_self _,bit+1,l1,rank1,(hf1.a 3 0 (hf1.a 4 1 (fc (congrArg (Value.int .i64) (wr_succ hlt1 (show 10≤9223372036854775807 by decide))) fn_))),hl1,(hS3.sel [0] rfl rfl),(by omega),hL1⟩
 ·skip
  obtain rfl:k_=0:=by have h:=of_decide_eq_false hlt; omega
  refine cw_exit rfl ?_
  obtain rfl:=sI hL
  refine cq (cr ?_)
  refine sQ 79 (ym (vi rank) rfl (hf.g 4 1))<|sQ 2 (yg (vi rank)) (rn (ct_ ?_))
  obtain rfl:=sI hF1
  exact ret1 Tryz.results109 (v1:=vi rank) (resAt_tmp rfl) ⟨rfl,(hS2.sN [])⟩

theorem Js (m:Ad) (B:Option Addr) (c n:Nat) (w0:World) (hn:m.Rows.length=n) (hS:ST w0 [] w0 [] [⟨B,(m.Rows.flatMap encI)⟩]) {r_:Bool} (hF:BE m=some r_) :
  CV Tryz.prog 76 #[.agg #[.slice B n c]] w0 (fun v w'=>v=.bool r_∧ST w0 [] w' [] []):=by
 subst hn
 unfold BE at hF
 refine cv_of_cw 25 Tryz.func76 rfl Tryz.ntmps76 rfl ?_
 refine cq (cr ?_)
 let V0:List Value:=[.slice B m.Rows.length c]
 refine sS 1 (yB 26 (.agg V0.toArray) V0 1 hS) ?_
 rintro _ w_ ⟨b,rfl,hS1⟩
 refine sQ 2 (yg (.bool false)) (rn (cq (cr ?_)))
 refine sQ 4 (yd (aD b) 0 0 K13 K8)<|sQ 5 (yl (aD b) 0 V0 (.slice B m.Rows.length c) K9 (hS1.c 0))<|sQ 6 (Y_len (B:=B) (m:=m.Rows.length) (c:=c) K2 rfl rfl)<|sQ 3 (yg (vi (m.Rows.length:Int))) (rn (cq (cr ?_)))
 refine sQ 7 (ym (vi (m.Rows.length:Int))) ?_
 obtain ⟨r_1,hc,hF⟩:=bI hF
 refine sc 8 rfl rfl (yC [vi (m.Rows.length:Int),vi 1,vi 5] K48 (AM (m.Rows.length:Int) 1 5 _  (hS1.inn0 [] rfl) hc)) ?_
 rintro _ w_1 ⟨rfl,hd⟩
 have hS2:=hS1.out00 hd
 refine sQ 9 (ym (.bool r_1)) ?_
 refine sgq 10 (B:=r_1) (v:=pt (aD b) 0) rfl rfl (uT_ 9) (fun hg=>(yd (aD b) 0 0 K13 K8)) ?_
 refine sgq 11 (B:=r_1) rfl rfl (uT_ 9) (fun hg1=>(yl (aD b) 0 V0 (.slice B m.Rows.length c) K9 (hS2.c 0) rfl (gv_of (v:=pt (aD b) 0) hg1))) ?_
 refine sgq 12 (B:=r_1) rfl rfl (uT_ 9) (fun hg2=>(ym (vi (m.Rows.length:Int)))) ?_
 refine sgq 13 (B:=r_1) (v:=.int .u64 (IntKind.u64.wrap (m.Rows.length:Int))) rfl rfl (uT_ 9) (fun hg3=>(Y_conv (k:=.i64) (a:=(m.Rows.length:Int)) (T:=3) (T':=77) K40 K41 rfl (gv_of (v:=vi (m.Rows.length:Int)) hg3))) ?_
 obtain ⟨hsh,hF⟩:=chk_inv hF
 refine sgq 14 (B:=r_1) (v:=vi (shlK .i64 1 (IntKind.u64.wrap (m.Rows.length:Int)))) rfl rfl (uT_ 9) (fun hg4=>(Y_shl (k:=.i64) (a:=1) (k':=.u64) (b:=(IntKind.u64.wrap (m.Rows.length:Int))) rfl rfl (gv_of (v:=.int .u64 (IntKind.u64.wrap (m.Rows.length:Int))) hg4) (hsh hg4))) ?_
 refine sgq 15 (B:=r_1) rfl rfl (uT_ 9) (fun hg5=>(yM (shlK .i64 1 (IntKind.u64.wrap (m.Rows.length:Int))) 1 rfl (gv_of (v:=vi (shlK .i64 1 (IntKind.u64.wrap (m.Rows.length:Int)))) hg5))) ?_
 obtain ⟨r_2,hc1,hF⟩:=bI hF
 refine sgc 16 (B:=r_1) (v:=.bool r_2) (F:=hS2.fn) rfl rfl (uT_ 9) hS2 (fun hg6=>(yC [.slice B m.Rows.length c,vi 0,vi (i64.wrap ((shlK .i64 1 (IntKind.u64.wrap (m.Rows.length:Int)))-1))] Nw (CV.mono (NW m.Rows 0 (i64.wrap ((shlK .i64 1 (IntKind.u64.wrap (m.Rows.length:Int)))-1)) B c m.Rows.length _ rfl (hS2.inn0 [(true,0)] rfl) (gb_inv hc1 hg6)) (by rintro _ _ ⟨rfl,h⟩; exact ⟨rfl,hS2.out00 h⟩)) rfl (mc (gv_of (v:=.slice B m.Rows.length c) hg6) (mc rfl (mc (gv_of (v:=vi (i64.wrap ((shlK .i64 1 (IntKind.u64.wrap (m.Rows.length:Int)))-1))) hg6) mn))))) ?_
 rintro w_2 hS3
 refine sQ 17 (Y_and (b:=r_1) (z:=r_2) rfl rfl rfl rfl)<|sQ 18 (ym (.bool (r_1&&r_2))) ?_
 refine sgq 19 (B:=(r_1&&r_2)) (v:=pt (aD b) 0) rfl rfl (uT_ 18) (fun hg7=>(yd (aD b) 0 0 K13 K8)) ?_
 refine sgq 20 (B:=(r_1&&r_2)) rfl rfl (uT_ 18) (fun hg8=>(yl (aD b) 0 V0 (.slice B m.Rows.length c) K9 (hS3.c 0) rfl (gv_of (v:=pt (aD b) 0) hg8))) ?_
 obtain ⟨r_3,hc2,hF⟩:=bI hF
 refine sgc 21 (B:=(r_1&&r_2)) (v:=vi r_3) (F:=hS3.fn) rfl rfl (uT_ 18) hS3 (fun hg9=>(yC V0 OI (CV.mono (Nj m.Rows B c m.Rows.length _ rfl (hS3.inn0 [(true,0)] rfl) (gb_inv hc2 hg9)) (by rintro _ _ ⟨rfl,h⟩; exact ⟨rfl,hS3.out00 h⟩)) rfl (mc (gv_of (v:=.slice B m.Rows.length c) hg9) mn))) ?_
 rintro w_3 hS4
 refine sgq 22 (B:=(r_1&&r_2)) rfl rfl (uT_ 18) (fun hg10=>(ym (vi (m.Rows.length:Int)))) ?_
 refine sgq 23 (B:=(r_1&&r_2)) rfl rfl (uT_ 18) (fun hg11=>(yE r_3 (m.Rows.length:Int) rfl (gv_of (v:=vi r_3) hg11) (gv_of (v:=vi (m.Rows.length:Int)) hg11))) ?_
 refine sQ 24 (Y_and (b:=(r_1&&r_2)) (z:=(r_3==(m.Rows.length:Int))) rfl rfl rfl rfl)<|sQ 2 (yg (.bool ((r_1&&r_2)&&(r_3==(m.Rows.length:Int))))) (rn (ct_ ?_))
 obtain rfl:=sI hF
 exact ret1 Tryz.results76 (v1:=.bool ((r_1&&r_2)&&(r_3==(m.Rows.length:Int)))) (resAt_tmp rfl) ⟨rfl,(hS4.sN [])⟩

theorem I3 (p:Ah) (B:Option Addr) (c n:Nat) (B1:Option Addr) (c1 n1:Nat) (w0:World) (hn:p.Terms.length=n) (hn1:p.Out.Rows.length=n1) (hS:ST w0 [] w0 [] [⟨B,(p.Terms.flatMap eN1)⟩,⟨B1,(p.Out.Rows.flatMap encI)⟩]) {r_:Bool} (hF:BB p=some r_) :
  CV Tryz.prog 28 #[.agg #[vi p.Qubits,vi p.Phase,.slice B n c,.slice B1 n1 c1]] w0 (fun v w'=>v=.bool r_∧ST w0 [] w' [] []):=by
 subst hn
 subst hn1
 unfold BB at hF
 refine cv_of_cw 70 Tryz.func28 rfl Tryz.ntmps28 rfl ?_
 refine cq (cr ?_)
 let V0:List Value:=[vi p.Qubits,vi p.Phase,.slice B p.Terms.length c,.slice B1 p.Out.Rows.length c1]
 refine sS 1 (yB 28 (.agg V0.toArray) V0 4 hS) ?_
 rintro _ w_ ⟨b,rfl,hS1⟩
 refine sQ 2 (yg (.bool false)) (rn (cq (cq (cr ?_))))
 refine sQ 5 (yd (aD b) 0 0 K44 K0)<|sQ 6 (yl (aD b) 0 V0 (vi p.Qubits) K1 (hS1.c 0)) ?_
 obtain ⟨r_1,hc,hF⟩:=bI hF
 refine sc 7 rfl rfl (yC [vi p.Qubits,vi 1,vi 5] K48 (AM p.Qubits 1 5 _  (hS1.inn0 [] rfl) hc)) ?_
 rintro _ w_1 ⟨rfl,hd⟩
 have hS2:=hS1.out00 hd
 refine sQ 8 (Y_not (p:=r_1) rfl rfl)<|sQ 9 (ym (.bool (!r_1))) ?_
 refine sgq 10 (B:=(!(!r_1))) (v:=pt (aD b) 1) rfl rfl (uF_ 9) (fun hg=>(yd (aD b) 0 0 K63 K0)) ?_
 refine sgq 11 (B:=(!(!r_1))) rfl rfl (uF_ 9) (fun hg1=>(yl (aD b) 1 V0 (vi p.Phase) K1 (hS2.c 0) rfl (gv_of (v:=pt (aD b) 1) hg1))) ?_
 obtain ⟨r_2,hc1,hF⟩:=bI hF
 refine sgc 12 (B:=(!(!r_1))) (v:=.bool r_2) (F:=hS2.fn) rfl rfl (uF_ 9) hS2 (fun hg2=>(yC [vi p.Phase,vi 0,vi 7] K48 (CV.mono (AM p.Phase 0 7 _  (hS2.inn0 [] rfl) (gb_inv hc1 hg2)) (by rintro _ _ ⟨rfl,h⟩; exact ⟨rfl,hS2.out00 h⟩)) rfl (mc (gv_of (v:=vi p.Phase) hg2) (mc rfl (mc rfl mn))))) ?_
 rintro w_2 hS3
 refine sgq 13 (B:=(!(!r_1))) (v:=.bool (!r_2)) rfl rfl (uF_ 9) (fun hg3=>(Y_not (p:=r_2) rfl (gv_of (v:=.bool r_2) hg3))) ?_
 refine sQ 14 (Y_or (b:=(!r_1)) (z:=(!r_2)) rfl rfl rfl rfl)<|sQ 15 (ym (.bool ((!r_1)||(!r_2)))) ?_
 refine sgq 16 (B:=(!((!r_1)||(!r_2)))) (v:=pt (aD b) 3) rfl rfl (uF_ 15) (fun hg4=>(yd (aD b) 0 0 K59 K6)) ?_
 refine sgq 17 (B:=(!((!r_1)||(!r_2)))) (v:=pt (aD b) 3) rfl rfl (uF_ 15) (fun hg5=>(yd (aD b) 3 0 K13 K8 rfl (gv_of (v:=pt (aD b) 3) hg5))) ?_
 refine sgq 18 (B:=(!((!r_1)||(!r_2)))) rfl rfl (uF_ 15) (fun hg6=>(yl (aD b) 3 V0 (.slice B1 p.Out.Rows.length c1) K9 (hS3.c 0) rfl (gv_of (v:=pt (aD b) 3) hg6))) ?_
 refine sgq 19 (B:=(!((!r_1)||(!r_2)))) (v:=vi (p.Out.Rows.length:Int)) rfl rfl (uF_ 15) (fun hg7=>(Y_len (B:=B1) (m:=p.Out.Rows.length) (c:=c1) K2 rfl (gv_of (v:=.slice B1 p.Out.Rows.length c1) hg7))) ?_
 refine sgq 20 (B:=(!((!r_1)||(!r_2)))) (v:=pt (aD b) 0) rfl rfl (uF_ 15) (fun hg8=>(yd (aD b) 0 0 K44 K0)) ?_
 refine sgq 21 (B:=(!((!r_1)||(!r_2)))) rfl rfl (uF_ 15) (fun hg9=>(yl (aD b) 0 V0 (vi p.Qubits) K1 (hS3.c 0) rfl (gv_of (v:=pt (aD b) 0) hg9))) ?_
 refine sgq 22 (B:=(!((!r_1)||(!r_2)))) rfl rfl (uF_ 15) (fun hg10=>(Y_ne (k:=.i64) (a:=(p.Out.Rows.length:Int)) (b:=p.Qubits) rfl (gv_of (v:=vi (p.Out.Rows.length:Int)) hg10) (gv_of (v:=vi p.Qubits) hg10))) ?_
 refine sQ 23 (Y_or (b:=((!r_1)||(!r_2))) (z:=((p.Out.Rows.length:Int) != p.Qubits)) rfl rfl rfl rfl)<|sQ 24 (ym (.bool (((!r_1)||(!r_2))||((p.Out.Rows.length:Int) != p.Qubits)))) ?_
 refine sgq 25 (B:=(!(((!r_1)||(!r_2))||((p.Out.Rows.length:Int) != p.Qubits)))) (v:=pt (aD b) 3) rfl rfl (uF_ 24) (fun hg11=>(yd (aD b) 0 0 K59 K6)) ?_
 let V2:List Value:=[.slice B1 p.Out.Rows.length c1]
 refine sgq 26 (B:=(!(((!r_1)||(!r_2))||((p.Out.Rows.length:Int) != p.Qubits)))) (v:=.agg V2.toArray) rfl rfl (uF_ 24) (fun hg12=>(ya (aD b) 3 V0 V2 K16 K6 (hS3.c 0) rfl (gv_of (v:=pt (aD b) 3) hg12))) ?_
 obtain ⟨r_3,hc2,hF⟩:=bI hF
 refine sgc 27 (B:=(!(((!r_1)||(!r_2))||((p.Out.Rows.length:Int) != p.Qubits)))) (v:=.bool r_3) (F:=hS3.fn) rfl rfl (uF_ 24) hS3 (fun hg13=>(yC [.agg V2.toArray] Kq (CV.mono (Js p.Out B1 c1 p.Out.Rows.length _ rfl (hS3.inn0 [(true,1)] rfl) (gb_inv hc2 hg13)) (by rintro _ _ ⟨rfl,h⟩; exact ⟨rfl,hS3.out00 h⟩)) rfl (mc (gv_of (v:=.agg V2.toArray) hg13) mn))) ?_
 rintro w_3 hS4
 refine sgq 28 (B:=(!(((!r_1)||(!r_2))||((p.Out.Rows.length:Int) != p.Qubits)))) (v:=.bool (!r_3)) rfl rfl (uF_ 24) (fun hg14=>(Y_not (p:=r_3) rfl (gv_of (v:=.bool r_3) hg14))) ?_
 refine sQ 29 (Y_or (b:=(((!r_1)||(!r_2))||((p.Out.Rows.length:Int) != p.Qubits))) (z:=(!r_3)) rfl rfl rfl rfl) (rn ?_)
 refine cw_cond (b:=((((!r_1)||(!r_2))||((p.Out.Rows.length:Int) != p.Qubits))||(!r_3))) rfl (fun hb=>?_) (fun hb=>?_)
 ·skip
  have hF1:=ct hF hb
  refine cq (cr ?_)
  refine sQ 2 (yg (.bool false)) (rn (ct_ ?_))
  obtain rfl:=sI hF1
  exact ret1 Tryz.results28 (v1:=.bool false) (resAt_tmp rfl) ⟨rfl,(hS4.sN [])⟩
 ·skip
  have hF2:=cf' hF hb
  refine cw_skip (cq (cq (cr ?_)))
  refine sQ 30 (yd (aD b) 0 0 K43 K35)<|sQ 31 (yl (aD b) 2 V0 (.slice B p.Terms.length c) K42 (hS4.c 0))<|sQ 32 (Y_len (B:=B) (m:=p.Terms.length) (c:=c) K14 rfl rfl)<|sQ 33 (ym (vi 0)) (rn ?_)
  obtain ⟨hN,hF2⟩:=chk_inv hF2
  obtain ⟨z,hz,hF3⟩:=bI hF2
  refine cw_block ?_
  refine cw_loop (fun k f w=>∃ (i:Nat),FF f [(1,pt (aD b) 0),(31,.slice B p.Terms.length c),(32,vi (p.Terms.length:Int)),(33,vi (i:Int))]∧ST w0 [] w [⟨aD b,28,V0,4⟩] [⟨B,(p.Terms.flatMap eN1)⟩,⟨B1,(p.Out.Rows.flatMap encI)⟩]∧i+k=p.Terms.length∧forX (Fg p) k i ()=some z) p.Terms.length ⟨0,(fc rfl (fc rfl (fc rfl (fc rfl fn_)))),(hS4.sel [0] rfl rfl),Nat.zero_add _,hz⟩ ?_
  rintro k_ f w ⟨i,hf,hS5,hik,hL⟩
  refine cq (cr ?_)
  refine sQ 34 (yL (i:Int) (p.Terms.length:Int) rfl (hf.g 33 3) (hf.g 32 2)) (rn (cq ?_))
  refine cw_cond (b:=(decide ((i:Int)<(p.Terms.length:Int)))) rfl (fun hlt=>?_) (fun hlt=>?_)
  ·skip
   have hlt1:i<p.Terms.length:=by have h:=of_decide_eq_true hlt; omega
   obtain ⟨K5,rfl⟩:∃ k2,k_=k2+1:=⟨k_-1,by omega⟩
   obtain ⟨y,hb1,hL1⟩:=forX_go hL
   unfold Fg at hb1
   refine cw_skip (cq (cw_block (cq (cr ?_))))
   refine sQ 35 (ym (vi (i:Int)) rfl (hf.g 33 3)) ?_
   obtain ⟨x,hx,hb1⟩:=bI hb1
   let V1:List Value:=[vi x.Mask,vi x.Coef]
   refine sQ 36 (yI B (i:Int) K14 K15 (gi_isSome eN3 rfl (hS5.rf (i:=0) rfl) hx) (getI_nn hx) (getI_ltI hx rfl) rfl (hf.g 31 1) (hf.g 33 3))<|sQ 37 (ya B ((i:Int).toNat*2) (p.Terms.flatMap eN1) V1 K51 K15 (hS5.rf (i:=0) rfl) rfl rfl (eN3 x) (gi_seg eN3 hx)) ?_
   refine sS 4 (yN [vi 0,vi 0] 2 hS5 K37) ?_
   rintro _ w_4 ⟨b1,rfl,hS6⟩
   refine sQ 3 (yg (vi (i:Int))) ?_
   refine s0 (yT 1 2 (aD b1) 64 (.agg V1.toArray) V1 0 hS6 K15) ?_
   rintro _ w_5 ⟨rfl,hS7⟩
   refine rn (cq ?_)
   obtain ⟨hsh,hb1⟩:=chk_inv hb1
   obtain ⟨r_4,hc3,hb1⟩:=bI hb1
   obtain ⟨r_5,hc4,hb1⟩:=bI hb1
   obtain ⟨x1,hx1,hb1⟩:=bI hb1
   refine ra_start (hS7.se [0,1]).fn (by kernel_rfl) ?_
   have hS10:=hS7.drew
   have hQ0:=hS10.se [0,1]
   refine rq 0 38 (v:=pt (aD b1) 0) rfl hQ0 (fun w' hw'=>(yd (aD b1) 0 0 K49 K0))<|rq 1 39 rfl hQ0 (fun w' hw'=>(yl (aD b1) 0 V1 (vi x.Mask) K1 (ST.cf hw' (i:=1) rfl)))<|rq 2 40 (v:=pt (aD b) 0) rfl hQ0 (fun w' hw'=>(yd (aD b) 0 0 K44 K0 rfl (hf.g 1 0)))<|rq 3 41 rfl hQ0 (fun w' hw'=>(yl (aD b) 0 V0 (vi p.Qubits) K1 (ST.cf hw' (i:=0) rfl)))<|rq 4 42 (v:=.int .u64 (IntKind.u64.wrap p.Qubits)) rfl hQ0 (fun w' hw'=>(Y_conv (k:=.i64) (a:=p.Qubits) (T:=3) (T':=77) K40 K41 rfl rfl)) ?_
   refine rq 5 43 (v:=vi (shlK .i64 1 (IntKind.u64.wrap p.Qubits))) rfl hQ0 (fun w' hw'=>(Y_shl (k:=.i64) (a:=1) (k':=.u64) (b:=(IntKind.u64.wrap p.Qubits)) rfl rfl rfl hsh))<|rq 6 44 rfl hQ0 (fun w' hw'=>(yM (shlK .i64 1 (IntKind.u64.wrap p.Qubits)) 1)) ?_
   refine rA [7] ?_
   refine rC 45 7 rfl (yC [vi x.Mask,vi 1,vi (i64.wrap ((shlK .i64 1 (IntKind.u64.wrap p.Qubits))-1))] K48 (AM x.Mask 1 (i64.wrap ((shlK .i64 1 (IntKind.u64.wrap p.Qubits))-1)) _  (hS10.inn0 [] rfl) hc3)) ?_ aN
   rintro _ w_6 ⟨rfl,hd1⟩
   have hS11:=hS10.out00 hd1
   have hQ1:=hS11.se [0,1]
   refine ⟨hQ1,?_⟩
   refine rq 8 46 (v:=.bool (!r_4)) rfl hQ1 (fun w' hw'=>(Y_not (p:=r_4) rfl rfl))<|rq 9 47 rfl hQ1 (fun w' hw'=>(ym (.bool (!r_4))))<|rG 10 48 (B:=(!(!r_4))) (v:=pt (aD b1) 1) rfl rfl rfl (uF_ 47) hQ1 (fun hg15 w' hw'=>(yd (aD b1) 0 0 K77 K0))<|rG 11 49 (B:=(!(!r_4))) rfl rfl rfl (uF_ 47) hQ1 (fun hg16 w' hw'=>(yl (aD b1) 1 V1 (vi x.Coef) K1 (ST.cf hw' (i:=1) rfl) rfl (gv_of (v:=pt (aD b1) 1) hg16))) ?_
   refine rA [12] ?_
   refine ra_gc 50 (i:=12) (B:=(!(!r_4))) (v:=.bool r_5) (F:=hS11.fn) rfl rfl rfl (uF_ 47) hS11 (fun hg17=>(yC [vi x.Coef,vi 1,vi 7] K48 (CV.mono (AM x.Coef 1 7 _  (hS11.inn0 [] rfl) (gb_inv hc4 hg17)) (by rintro _ _ ⟨rfl,h⟩; exact ⟨rfl,hS11.out00 h⟩)) rfl (mc (gv_of (v:=vi x.Coef) hg17) (mc rfl (mc rfl mn))))) ?_ ?_
   ·rintro w_7 hS12
    have hQ2:=hS12.se [0,1]
    refine ⟨hQ2,?_⟩
    refine rG 13 51 (B:=(!(!r_4))) (v:=.bool (!r_5)) rfl rfl rfl (uF_ 47) hQ2 (fun hg18 w' hw'=>(Y_not (p:=r_5) rfl (gv_of (v:=.bool r_5) hg18)))<|rq 14 52 (v:=.bool ((!r_4)||(!r_5))) rfl hQ2 (fun w' hw'=>(Y_or (b:=(!r_4)) (z:=(!r_5)) rfl rfl rfl rfl))<|rq 15 53 rfl hQ2 (fun w' hw'=>(ym (.bool ((!r_4)||(!r_5)))))<|rG 16 54 (B:=(!((!r_4)||(!r_5)))) rfl rfl rfl (uF_ 53) hQ2 (fun hg19 w' hw'=>(ym (vi (i:Int))))<|rG 17 55 (B:=(!((!r_4)||(!r_5)))) rfl rfl rfl (uF_ 53) hQ2 (fun hg20 w' hw'=>(Y_gt (k:=.i64) (a:=(i:Int)) (b:=0) rfl (gv_of (v:=vi (i:Int)) hg20) rfl)) ?_
    refine rG 18 56 (B:=(!((!r_4)||(!r_5)))) rfl rfl rfl (uF_ 53) hQ2 (fun hg21 w' hw'=>(ym (.bool (decide (0<(i:Int)))) rfl (gv_of (v:=.bool (decide (0<(i:Int)))) hg21)))<|rG 19 57 (B:=((!((!r_4)||(!r_5)))&&(decide (0<(i:Int))))) (v:=pt (aD b) 2) rfl rfl rfl (wt_gt (gd_of (t:=56) (by kernel_rfl) rfl)) hQ2 (fun hg22 w' hw'=>(yd (aD b) 0 0 K43 K35 rfl (hf.g 1 0)))<|rG 20 58 (B:=((!((!r_4)||(!r_5)))&&(decide (0<(i:Int))))) rfl rfl rfl (wt_gt (gd_of (t:=56) (by kernel_rfl) rfl)) hQ2 (fun hg23 w' hw'=>(yl (aD b) 2 V0 (.slice B p.Terms.length c) K42 (ST.cf hw' (i:=0) rfl) rfl (gv_of (v:=pt (aD b) 2) hg23)))<|rG 21 59 (B:=((!((!r_4)||(!r_5)))&&(decide (0<(i:Int))))) rfl rfl rfl (wt_gt (gd_of (t:=56) (by kernel_rfl) rfl)) hQ2 (fun hg24 w' hw'=>(ym (vi (i:Int))))<|rG 22 60 (B:=((!((!r_4)||(!r_5)))&&(decide (0<(i:Int))))) rfl rfl rfl (wt_gt (gd_of (t:=56) (by kernel_rfl) rfl)) hQ2 (fun hg25 w' hw'=>(yM (i:Int) 1 rfl (gv_of (v:=vi (i:Int)) hg25))) ?_
    refine rG 23 61 (B:=((!((!r_4)||(!r_5)))&&(decide (0<(i:Int))))) (v:=pt B ((i64.wrap ((i:Int)-1)).toNat*2)) rfl rfl rfl (wt_gt (gd_of (t:=56) (by kernel_rfl) rfl)) hQ2 (fun hg26 w' hw'=>(yI B (i64.wrap ((i:Int)-1)) K14 K15 (gi_isSome eN3 rfl (ST.rf hw' (i:=0) rfl) (gb_inv hx1 hg26)) (getI_nn (gb_inv hx1 hg26)) (getI_ltI (gb_inv hx1 hg26) rfl) rfl (gv_of (v:=.slice B p.Terms.length c) hg26) (gv_of (v:=vi (i64.wrap ((i:Int)-1))) hg26)))<|rG 24 62 (B:=((!((!r_4)||(!r_5)))&&(decide (0<(i:Int))))) (v:=pt B ((i64.wrap ((i:Int)-1)).toNat*2+0)) rfl rfl rfl (wt_gt (gd_of (t:=56) (by kernel_rfl) rfl)) hQ2 (fun hg27 w' hw'=>(yd B ((i64.wrap ((i:Int)-1)).toNat*2) 0 K49 K0 rfl (gv_of (v:=pt B ((i64.wrap ((i:Int)-1)).toNat*2)) hg27)))<|rG 25 63 (B:=((!((!r_4)||(!r_5)))&&(decide (0<(i:Int))))) rfl rfl rfl (wt_gt (gd_of (t:=56) (by kernel_rfl) rfl)) hQ2 (fun hg28 w' hw'=>(yl B ((i64.wrap ((i:Int)-1)).toNat*2+0) (p.Terms.flatMap eN1) (vi x1.Mask) K1 (ST.rf hw' (i:=0) rfl) rfl (gv_of (v:=pt B ((i64.wrap ((i:Int)-1)).toNat*2+0)) hg28) (gi_at eN3 (gb_inv hx1 hg28) rfl)))<|rG 26 64 (B:=((!((!r_4)||(!r_5)))&&(decide (0<(i:Int))))) (v:=pt (aD b1) 0) rfl rfl rfl (wt_gt (gd_of (t:=56) (by kernel_rfl) rfl)) hQ2 (fun hg29 w' hw'=>(yd (aD b1) 0 0 K49 K0))<|rG 27 65 (B:=((!((!r_4)||(!r_5)))&&(decide (0<(i:Int))))) rfl rfl rfl (wt_gt (gd_of (t:=56) (by kernel_rfl) rfl)) hQ2 (fun hg30 w' hw'=>(yl (aD b1) 0 V1 (vi x.Mask) K1 (ST.cf hw' (i:=1) rfl) rfl (gv_of (v:=pt (aD b1) 0) hg30))) ?_
    refine rG 28 66 (B:=((!((!r_4)||(!r_5)))&&(decide (0<(i:Int))))) rfl rfl rfl (wt_gt (gd_of (t:=56) (by kernel_rfl) rfl)) hQ2 (fun hg31 w' hw'=>(Y_ge (k:=.i64) (a:=x1.Mask) (b:=x.Mask) rfl (gv_of (v:=vi x1.Mask) hg31) (gv_of (v:=vi x.Mask) hg31)))<|rG 29 67 (B:=(!((!r_4)||(!r_5)))) (v:=.bool ((decide (0<(i:Int)))&&(decide (x.Mask≤x1.Mask)))) rfl rfl rfl (uF_ 53) hQ2 (fun hg32 w' hw'=>(Y_and (b:=(decide (0<(i:Int)))) (z:=(decide (x.Mask≤x1.Mask))) rfl (gv_of (v:=.bool (decide (0<(i:Int)))) hg32) (gv_and (B:=(!((!r_4)||(!r_5)))) (C:=(decide (0<(i:Int)))) (v:=.bool (decide (x.Mask≤x1.Mask))) hg32) rfl))<|rq 30 68 (v:=.bool (((!r_4)||(!r_5))||((decide (0<(i:Int)))&&(decide (x.Mask≤x1.Mask))))) rfl hQ2 (fun w' hw'=>(Y_or (b:=((!r_4)||(!r_5))) (z:=((decide (0<(i:Int)))&&(decide (x.Mask≤x1.Mask)))) rfl rfl rfl rfl)) ?_
    refine ra_done (by kernel_rfl) ?_
    refine cw_cond (b:=(((!r_4)||(!r_5))||((decide (0<(i:Int)))&&(decide (x.Mask≤x1.Mask))))) rfl (fun hb2=>?_) (fun hb2=>?_)
    ·skip
     have hF4:=ct hb1 hb2
     refine cq (cr ?_)
     refine sQ 2 (yg (.bool false)) (rn (ct_ ?_))
     obtain rfl:=sI hF4
     obtain rfl:=sI hL1
     obtain rfl:=sI hF3
     exact ret1 Tryz.results28 (v1:=.bool false) (resAt_tmp rfl) ⟨rfl,(hS12.sN [])⟩
    ·skip
     have hF5:=cf' hb1 hb2
     refine cw_skip (cr ?_)
     refine sQ 69 (yP (i:Int) 1 rfl (hf.g 33 3))<|sQ 33 (ym (vi (i64.wrap ((i:Int)+1)))) (rn ?_)
     obtain rfl:=sI hF5
     exact ⟨K5,Nat.lt_succ_self _,i+1,(hf.a 1 0 (hf.a 31 1 (hf.a 32 2 (fc (congrArg (Value.int .i64) (wr_succ hlt1 hN)) fn_)))),(hS12.sel [0] rfl rfl),(by omega),hL1⟩
   exact aN
  ·skip
   obtain rfl:k_=0:=by have h:=of_decide_eq_false hlt; omega
   refine cw_exit rfl ?_
   obtain rfl:=sI hL
   refine cq (cr ?_)
   refine sQ 2 (yg (.bool true)) (rn (ct_ ?_))
   obtain rfl:=sI hF3
   exact ret1 Tryz.results28 (v1:=.bool true) (resAt_tmp rfl) ⟨rfl,(hS5.sN [])⟩

theorem Fj (vectors:List Int) (j:Int) (bit:Int) (B:Option Addr) (c n:Nat) (w0:World) (hn:vectors.length=n) (hS:ST w0 [] w0 [] [⟨B,(vectors.flatMap encI)⟩]) {r_:List Int} (hF:AK vectors j bit=some r_) :
  CV Tryz.prog 78 #[.slice B n c,vi j,vi bit] w0 (fun v w'=>∃ (B1:Option Addr) (c1:Nat),v=.slice B1 r_.length c1∧ST w0 [] w' [⟨B1,3,(r_.flatMap encI),c1*1⟩] []):=by
 subst hn
 unfold AK at hF
 refine cv_of_cw 29 Tryz.func78 rfl Tryz.ntmps78 rfl ?_
 refine cq (cr ?_)
 refine sQ 6 (yg (.slice none 0 0)) (rn (cq (cr ?_)))
 refine sQ 7 (yg (.slice none 0 0)) (rn (cq (cq (cr ?_))))
 refine sQ 10 (ym (.slice B vectors.length c))<|sQ 11 (Y_len (B:=B) (m:=vectors.length) (c:=c) K2 rfl rfl)<|sQ 12 (ym (vi 0)) (rn ?_)
 obtain ⟨hN,hF⟩:=chk_inv hF
 obtain ⟨z,hz,hF1⟩:=bI hF
 have hS2:=hS.addNil 3
 refine cw_block ?_
 refine cw_loop (fun k f w=>∃ (i:Nat) (out:List Int) (B2:Option Addr) (c2:Nat),FF f [(1,vi j),(2,vi bit),(7,.slice B2 out.length c2),(10,.slice B vectors.length c),(11,vi (vectors.length:Int)),(12,vi (i:Int))]∧ST w0 [] w [⟨B2,3,(out.flatMap encI),c2*1⟩] [⟨B,(vectors.flatMap encI)⟩]∧i+k=vectors.length∧forN (EA vectors j bit) k i out=some z) vectors.length ⟨0,[],none,0,(fc rfl (fc rfl (fc rfl (fc rfl (fc rfl (fc rfl fn_)))))),(hS2.sel [0] rfl rfl),Nat.zero_add _,hz⟩ ?_
 rintro k_ f w ⟨i,out,B2,c2,hf,hS1,hik,hL⟩
 refine cq (cr ?_)
 refine sQ 13 (yL (i:Int) (vectors.length:Int) rfl (hf.g 12 5) (hf.g 11 4)) (rn (cq ?_))
 refine cw_cond (b:=(decide ((i:Int)<(vectors.length:Int)))) rfl (fun hlt=>?_) (fun hlt=>?_)
 ·skip
  have hlt1:i<vectors.length:=by have h:=of_decide_eq_true hlt; omega
  obtain ⟨K5,rfl⟩:∃ k2,k_=k2+1:=⟨k_-1,by omega⟩
  obtain ⟨y,hb,hL1⟩:=forN_go hL
  unfold EA at hb
  refine cw_skip (cq ?_)
  obtain ⟨z1,hz1,hF2⟩:=bI hb
  refine cw_mid (fun f w=>∃ (out1:List Int) (B3:Option Addr) (c3:Nat),out1=z1∧FF f [(1,vi j),(2,vi bit),(7,.slice B3 out1.length c3),(10,.slice B vectors.length c),(11,vi (vectors.length:Int)),(12,vi (i:Int))]∧ST w0 [] w [⟨B3,3,(out1.flatMap encI),c3*1⟩] [⟨B,(vectors.flatMap encI)⟩]) ?_ ?_
  ·skip
   refine cw_block (cq (cr ?_))
   obtain ⟨x,hx,hz1⟩:=bI hz1
   refine sQ 14 (yI B (i:Int) K2 K0 (gi_isSome encI_len rfl (hS1.rf (i:=0) rfl) hx) (getI_nn hx) (getI_ltI hx rfl) rfl (hf.g 10 3) (hf.g 12 5))<|sQ 15 (yl B ((i:Int).toNat*1) (vectors.flatMap encI) (vi x) K1 (hS1.rf (i:=0) rfl) rfl rfl (gi_at0 encI_len hx rfl))<|sQ 9 (yg (vi x)) (rn (cq (cr ?_)))
   refine sQ 16 (ym (vi x))<|sQ 17 (ym (vi j) rfl (hf.g 1 0))<|sQ 18 (Y_conv (k:=.i64) (a:=j) (T:=3) (T':=77) K40 K41 rfl rfl) ?_
   obtain ⟨hsh,hz1⟩:=chk_inv hz1
   refine sQ 19 (Y_shr (k:=.i64) (a:=x) (k':=.u64) (b:=(IntKind.u64.wrap j)) rfl rfl rfl hsh)<|sQ 20 (Y_band (k:=.i64) (a:=(shrK .i64 x (IntKind.u64.wrap j))) (b:=1) rfl rfl rfl)<|sQ 21 (ym (vi bit) rfl (hf.g 2 1))<|sQ 22 (yE (bits .and .i64 (shrK .i64 x (IntKind.u64.wrap j)) 1) bit) (rn ?_)
   refine cw_cond (b:=((bits .and .i64 (shrK .i64 x (IntKind.u64.wrap j)) 1)==bit)) rfl (fun hb1=>?_) (fun hb1=>?_)
   ·skip
    have hF3:=ct hz1 hb1
    refine cr ?_
    refine sQ 23 (ym (.slice B2 out.length c2) rfl (hf.g 7 2))<|sQ 24 (ym (vi x)) ?_
    refine sS 25 (Ys_bslice (s:=1) (len:=1) (vs:=[(0,vi x)]) (cs:=[vi x]) (zs:=[vi 0]) (m:=1) hS1 K2 K0 K24 rfl (mpc rfl mpn) rfl rfl rfl (by kernel_rfl) (by kernel_rfl) rfl) ?_
    rintro _ w_ ⟨b,rfl,hS4⟩
    obtain ⟨hap,hF3⟩:=chk_inv hF3
    refine sS 26 (Ys_append (s:=1) (by':=8) (i:=0) (nn:=out.length) (c:=c2) (k:=1) (len:=(out++[x]).length) (B:=B2) (xs:=([x].flatMap encI)) (cs':=((out++[x]).flatMap encI)) hS4 K2 K0 K31 K28 rfl (by decide) rfl rfl rfl rfl (fm_lenn (l:=out) encI_len rfl) rfl (hS4.c 1) (fm_lenn (l:=[x]) encI_len rfl) (fm_one' (enc:=encI) encI_one [x]) (by have:=hap; omega) (by have:=hap; simp only [maxLen]; omega) (fm_app _ _) (app_len (l:=out) (l':=[x]) rfl rfl)) ?_
    rintro _ w_1 ⟨B4,c4,rfl,hS5⟩
    refine sQ 7 (yg (.slice B4 ((out++[x]).length) c4)) (rn ?_)
    exact ⟨(out++[x]),B4,c4,(sI hF3),(hf.a 1 0 (hf.a 2 1 (fc rfl (hf.a 10 3 (hf.a 11 4 (hf.a 12 5 fn_)))))),(hS5.sel [0] rfl rfl)⟩
   ·skip
    have hF4:=cf' hz1 hb1
    refine cw_skip ?_
    exact ⟨out,B2,c2,(sI hF4),(hf.a 1 0 (hf.a 2 1 (hf.a 7 2 (hf.a 10 3 (hf.a 11 4 (hf.a 12 5 fn_)))))),(hS1.sel [0] rfl rfl)⟩
  rintro f w ⟨out1,B3,c3,rfl,hf1,hS3⟩
  refine cr ?_
  refine sQ 27 (yP (i:Int) 1 rfl (hf1.g 12 5))<|sQ 12 (ym (vi (i64.wrap ((i:Int)+1)))) (rn ?_)
  obtain rfl:=sI hF2
  exact ⟨K5,Nat.lt_succ_self _,i+1,out1,B3,c3,(hf1.a 1 0 (hf1.a 2 1 (hf1.a 7 2 (hf1.a 10 3 (hf1.a 11 4 (fc (congrArg (Value.int .i64) (wr_succ hlt1 hN)) fn_)))))),(hS3.sel [0] rfl rfl),(by omega),hL1⟩
 ·skip
  obtain rfl:k_=0:=by have h:=of_decide_eq_false hlt; omega
  refine cw_exit rfl ?_
  obtain rfl:=sI hL
  refine cq (cr ?_)
  refine sQ 28 (ym (.slice B2 out.length c2) rfl (hf.g 7 2))<|sQ 6 (yg (.slice B2 out.length c2)) (rn (ct_ ?_))
  obtain rfl:=sI hF1
  exact ret1 Tryz.results78 (v1:=.slice B2 out.length c2) (resAt_tmp rfl) ⟨B2,c2,rfl,(hS1.sN [0])⟩

theorem I2 (vectors:List Int) (j:Int) (t:Int) (B:Option Addr) (c n:Nat) (w0:World) (hn:vectors.length=n) (hS:ST w0 (bl [⟨B,3,(vectors.flatMap encI),c*1⟩]) w0 [⟨B,3,(vectors.flatMap encI),c*1⟩] []) {m:List Int} (hF:Co vectors j t=some m) :
  CV Tryz.prog 79 #[.slice B n c,vi j,vi t] w0 (fun v w'=>v=.tuple #[]∧m.length=n∧ST w0 (bl [⟨B,3,(vectors.flatMap encI),c*1⟩]) w' [⟨B,3,(m.flatMap encI),c*1⟩] []):=by
 subst hn
 unfold Co at hF
 refine cv_of_cw 30 Tryz.func79 rfl Tryz.ntmps79 rfl ?_
 refine cq (cr ?_)
 refine sQ 8 (ym (.slice B vectors.length c))<|sQ 9 (Y_len (B:=B) (m:=vectors.length) (c:=c) K2 rfl rfl)<|sQ 10 (ym (vi 0)) (rn ?_)
 obtain ⟨hN,hF⟩:=chk_inv hF
 obtain ⟨z,hz,hF1⟩:=bI hF
 refine cw_block ?_
 refine cw_loop (fun k f w=>∃ (i:Nat) (m1:List Int),FF f [(0,.slice B vectors.length c),(1,vi j),(2,vi t),(8,.slice B vectors.length c),(9,vi (vectors.length:Int)),(10,vi (i:Int))]∧m1.length=vectors.length∧ST w0 (bl [⟨B,3,(vectors.flatMap encI),c*1⟩]) w [⟨B,3,(m1.flatMap encI),c*1⟩] []∧i+k=vectors.length∧forN (Es t j) k i m1=some z) vectors.length ⟨0,vectors,(fc rfl (fc rfl (fc rfl (fc rfl (fc rfl (fc rfl fn_)))))),rfl,(hS.sel [0] rfl rfl),Nat.zero_add _,hz⟩ ?_
 rintro k_ f w ⟨i,m1,hf,hl,hS1,hik,hL⟩
 refine cq (cr ?_)
 refine sQ 11 (yL (i:Int) (vectors.length:Int) rfl (hf.g 10 5) (hf.g 9 4)) (rn (cq ?_))
 refine cw_cond (b:=(decide ((i:Int)<(vectors.length:Int)))) rfl (fun hlt=>?_) (fun hlt=>?_)
 ·skip
  have hlt1:i<vectors.length:=by have h:=of_decide_eq_true hlt; omega
  obtain ⟨K5,rfl⟩:∃ k2,k_=k2+1:=⟨k_-1,by omega⟩
  obtain ⟨y,hb,hL1⟩:=forN_go hL
  unfold Es at hb
  refine cw_skip (cq ?_)
  obtain ⟨z1,hz1,hF2⟩:=bI hb
  refine cw_mid (fun f w=>∃ (m2:List Int),m2=z1∧FF f [(0,.slice B vectors.length c),(1,vi j),(2,vi t),(8,.slice B vectors.length c),(9,vi (vectors.length:Int)),(10,vi (i:Int))]∧m2.length=vectors.length∧ST w0 (bl [⟨B,3,(vectors.flatMap encI),c*1⟩]) w [⟨B,3,(m2.flatMap encI),c*1⟩] []) ?_ ?_
  ·skip
   refine cw_block (cq (cr ?_))
   refine sQ 12 (ym (vi (i:Int)) rfl (hf.g 10 5)) ?_
   obtain ⟨x,hx,hz1⟩:=bI hz1
   refine sQ 13 (yI B (i:Int) K2 K0 (gi_isSome encI_len rfl (hS1.c 0) hx) (getI_nn hx) (getI_ltI hx hl) rfl (hf.g 8 3) (hf.g 10 5))<|sQ 14 (yl B ((i:Int).toNat*1) (m1.flatMap encI) (vi x) K1 (hS1.c 0) rfl rfl (gi_at0 encI_len hx rfl))<|sQ 6 (yg (vi (i:Int)))<|sQ 7 (yg (vi x)) (rn (cq (cr ?_)))
   refine sQ 15 (ym (vi x))<|sQ 16 (ym (vi t) rfl (hf.g 2 2))<|sQ 17 (Y_conv (k:=.i64) (a:=t) (T:=3) (T':=77) K40 K41 rfl rfl) ?_
   obtain ⟨hsh,hz1⟩:=chk_inv hz1
   refine sQ 18 (Y_shr (k:=.i64) (a:=x) (k':=.u64) (b:=(IntKind.u64.wrap t)) rfl rfl rfl hsh)<|sQ 19 (Y_band (k:=.i64) (a:=(shrK .i64 x (IntKind.u64.wrap t))) (b:=1) rfl rfl rfl)<|sQ 20 (yE (bits .and .i64 (shrK .i64 x (IntKind.u64.wrap t)) 1) 1) (rn ?_)
   refine cw_cond (b:=((bits .and .i64 (shrK .i64 x (IntKind.u64.wrap t)) 1)==1)) rfl (fun hb1=>?_) (fun hb1=>?_)
   ·skip
    have hF3:=ct hz1 hb1
    refine cr ?_
    refine sQ 21 (ym (.slice B vectors.length c) rfl (hf.g 0 0))<|sQ 22 (ym (vi (i:Int)))<|sQ 23 (ym (vi x))<|sQ 24 (ym (vi j) rfl (hf.g 1 1))<|sQ 25 (Y_conv (k:=.i64) (a:=j) (T:=3) (T':=77) K40 K41 rfl rfl) ?_
    obtain ⟨hsh1,hF3⟩:=chk_inv hF3
    refine sQ 26 (Y_shl (k:=.i64) (a:=1) (k':=.u64) (b:=(IntKind.u64.wrap j)) rfl rfl rfl hsh1)<|sQ 27 (Y_bxor (k:=.i64) (a:=x) (b:=(shlK .i64 1 (IntKind.u64.wrap j))) rfl rfl rfl)<|sQ 28 (yI B (i:Int) K2 K0 (gi_isSome encI_len rfl (hS1.c 0) hx) (getI_nn hx) (getI_ltI hx hl)) ?_
    refine s0 (yS 0 1 B 3 (vi (bits .xor .i64 x (shlK .i64 1 (IntKind.u64.wrap j)))) [vi (bits .xor .i64 x (shlK .i64 1 (IntKind.u64.wrap j)))] ((i:Int).toNat*1) ((m1.set (i:Int).toNat (bits .xor .i64 x (shlK .i64 1 (IntKind.u64.wrap j)))).flatMap encI) hS1 K0 rfl rfl rfl rfl rfl rfl rfl (gi_fit0 encI_len hx) (gi_set encI_len hx (bits .xor .i64 x (shlK .i64 1 (IntKind.u64.wrap j))) rfl)) ?_
    rintro _ w_ ⟨rfl,hS3⟩
    refine rn ?_
    exact ⟨(m1.set (i:Int).toNat (bits .xor .i64 x (shlK .i64 1 (IntKind.u64.wrap j)))),(sI hF3),(hf.a 0 0 (hf.a 1 1 (hf.a 2 2 (hf.a 8 3 (hf.a 9 4 (hf.a 10 5 fn_)))))),(set_len _ _ _ hl),(hS3.sel [0] rfl rfl)⟩
   ·skip
    have hF4:=cf' hz1 hb1
    refine cw_skip ?_
    exact ⟨m1,(sI hF4),(hf.a 0 0 (hf.a 1 1 (hf.a 2 2 (hf.a 8 3 (hf.a 9 4 (hf.a 10 5 fn_)))))),hl,(hS1.sel [0] rfl rfl)⟩
  rintro f w ⟨m2,rfl,hf1,hl1,hS2⟩
  refine cr ?_
  refine sQ 29 (yP (i:Int) 1 rfl (hf1.g 10 5))<|sQ 10 (ym (vi (i64.wrap ((i:Int)+1)))) (rn ?_)
  obtain rfl:=sI hF2
  exact ⟨K5,Nat.lt_succ_self _,i+1,m2,(hf1.a 0 0 (hf1.a 1 1 (hf1.a 2 2 (hf1.a 8 3 (hf1.a 9 4 (fc (congrArg (Value.int .i64) (wr_succ hlt1 hN)) fn_)))))),hl1,(hS2.sel [0] rfl rfl),(by omega),hL1⟩
 ·skip
  obtain rfl:k_=0:=by have h:=of_decide_eq_false hlt; omega
  refine cw_exit rfl ?_
  obtain rfl:=sI hL
  obtain rfl:=sI hF1
  exact ret0 Tryz.results79  ⟨rfl,hl,(hS1.sN [0])⟩

theorem Pi (a:Int) (b:Int)  (w0:World)  (hS:ST w0 [] w0 [] []) {r_:Int} (hF:Dt a b=some r_) :
  CV Tryz.prog 80 #[vi a,vi b] w0 (fun v w'=>v=vi r_∧ST w0 [] w' [] []):=by
 unfold Dt at hF
 refine cv_of_cw 10 Tryz.func80 rfl Tryz.ntmps80 rfl ?_
 refine cq (cr ?_)
 refine sQ 4 (yg (vi 0)) (rn (cq (cq (cr ?_))))
 refine sQ 5 (ym (vi a))<|sQ 6 (ym (vi b))<|sQ 7 (Y_gt (k:=.i64) (a:=a) (b:=b) rfl rfl rfl) (rn ?_)
 refine cw_cond (b:=(decide (b<a))) rfl (fun hb=>?_) (fun hb=>?_)
 ·skip
  have hF1:=ct hF hb
  refine cq (cr ?_)
  refine sQ 8 (ym (vi a))<|sQ 4 (yg (vi a)) (rn (ct_ ?_))
  obtain rfl:=sI hF1
  exact ret1 Tryz.results80 (v1:=vi a) (resAt_tmp rfl) ⟨rfl,(hS.sN [])⟩
 ·skip
  have hF2:=cf' hF hb
  refine cw_skip (cq (cr ?_))
  refine sQ 9 (ym (vi b))<|sQ 4 (yg (vi b)) (rn (ct_ ?_))
  obtain rfl:=sI hF2
  exact ret1 Tryz.results80 (v1:=vi b) (resAt_tmp rfl) ⟨rfl,(hS.sN [])⟩
end Go.VK
