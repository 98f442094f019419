/- Walks: each Go function returns what its Lean function says. By program. -/
import Derived.Test.YtckobcclloialaaGreatLPhaseNetworksFa
import Derived.Test.YtckobcclloialaaGreatLPhaseNetworksShelf
import Derived.Test.YtckobcclloialaaGreatLibQ
import Derived.Test.YtckobcclloialaaGreatLibU
import Derived.Test.YtckobcclloialaaGreatLibZ
import Derived.Test.YtckobcclloialaaGreatLibY
import Derived.Test.YtckobcclloialaaGreatLPhaseNetworksW2
set_option linter.unusedVariables false
set_option maxRecDepth 100000
set_option maxHeartbeats 4000000
namespace Go.VK
open Go.RowKit
open Go.Proofs
open Go.IntKind
attribute [local irreducible] CW RW RA CV Y Yw Yc Ys RetOf
attribute [local irreducible] Am AQ AA A9 Bl Ay BE BB AK Co Dt Ev DJ BX EH DR C8 DW DE DB DO Cl C5 Ch BU DY C2 Dl
def AF (p:(Hd×Hd)×Af):List Value:=[.slice p.1.1.1 p.2.vectors.length p.1.1.2,.slice p.1.2.1 p.2.free.length p.1.2.2,vi p.2.target]
theorem C9 (p:(Hd×Hd)×Af):(AF p).length=3:=rfl
theorem OW:bytesB Tryz.prog 117 56=true:=by kernel_rfl
theorem H7:fieldB Tryz.prog 117 1 1 24=true:=by kernel_rfl
theorem K65:fieldB Tryz.prog 117 0 0 24=true:=by kernel_rfl
theorem K66:fieldB Tryz.prog 117 2 2 3=true:=by kernel_rfl
theorem K73:(Tryz.prog.info? 117).map (·.zero)=some (some (.agg #[.slice none 0 0,.slice none 0 0,vi 0])):=by kernel_rfl
theorem K97:placesB Tryz.prog 117 [(0,1),(1,1),(2,1)]=true:=by kernel_rfl
theorem K57:sliceB Tryz.prog 118 117=true:=by kernel_rfl
theorem K58:sizeB Tryz.prog 117 3=true:=by kernel_rfl
theorem Id:(Tryz.prog.info? 117).map (fun i=>i.zero.map (fun z=>z.cells.toList))=some (some [.slice none 0 0,.slice none 0 0,vi 0]):=by kernel_rfl
theorem Hp:aggB Tryz.prog 117=true:=by kernel_rfl
theorem K75':callB Tryz.prog 77=true:=by kernel_rfl
theorem EL:callB Tryz.prog 78=true:=by kernel_rfl
theorem I7:callB Tryz.prog 79=true:=by kernel_rfl
theorem Ml:callB Tryz.prog 80=true:=by kernel_rfl
abbrev sRw (p:(Hd×Hd)×Af):Ob:=trow 3 (fun h=>h.1) Af.vectors p
abbrev sO (B:Option Addr) (c:Nat) (out:List Aa):Ob:=⟨B,59,out.flatMap eN0,c*3⟩
abbrev sK (B:Option Addr) (c:Nat) (D:List ((Hd×Hd)×Af)):Ob:=⟨B,117,D.flatMap AF,c*3⟩
abbrev sA (b:Nat):Ob:=⟨aD b,32,[vi 0,.slice none 0 0],2⟩
abbrev sB (b:Nat) (n:Int) (B:Option Addr) (m c:Nat):Ob:=⟨aD b,32,[vi n,.slice B m c],2⟩
abbrev sT (b:Nat) (B:Option Addr) (m c:Nat) (B2:Option Addr) (m2 c2:Nat) (tg:Int):Ob:=⟨aD b,117,[.slice B m c,.slice B2 m2 c2,vi tg],3⟩
abbrev sF (p:(Hd×Hd)×Af):Ro:=⟨p.1.2.1,p.2.free.flatMap encI⟩
theorem KX {D:List ((Hd×Hd)×Af)} {i:Nat} {h:Hd×Hd} {x y:Af} (hx:D[i]?=some (h,x)) (hl:y.vectors.length=x.vectors.length) (hf:y.free=x.free) (ht:y.target=x.target):(D.set i (h,y)).flatMap AF=D.flatMap AF:=by
 have hk:=(List.getElem?_eq_some_iff.1 hx).1
 have e:AF (h,y)=AF (h,x):=by unfold AF; simp only [hl,hf,ht]
 have h1:D=D.take i++(h,x)::D.drop (i+1):=by
  obtain ⟨h1,h2⟩:=List.getElem?_eq_some_iff.1 hx
  have h3:=List.take_append_drop i D
  rw [List.drop_eq_getElem_cons h1,h2] at h3
  exact h3.symm
 rw [List.set_eq_take_append_cons_drop,if_pos hk,List.flatMap_append,List.flatMap_cons,e,← List.flatMap_cons,← List.flatMap_append,← h1]
theorem ST.srowIn {w0 w:World} {M:List Nat} {pre:List Ob} {R:List Ro} {D:List ((Hd×Hd)×Af)} {i:Nat} {B:Option Addr} {c:Nat} {h2:Hd} {x:Af} (hS:ST w0 M w (pre++D.map sRw) R) (hp:D[i]?=some (((B,c),h2),x)):ST w [] w [] [⟨B,x.vectors.flatMap encI⟩] :=
 ST.enter (Ms:=[]) hS (List.nil_sublist _) (fun r hr=>by
  rw [List.mem_singleton] at hr; subst hr
  exact .inr ⟨sRw (((B,c),h2),x),mAr _ (List.mem_map_of_mem (List.mem_of_getElem? hp)),rfl,fun _ h=>by cases h⟩)
theorem Is {D:List ((Hd×Hd)×Af)} {i L:Nat} {h:Hd×Hd} {x y:Af} (hx:D[i]?=some (h,x)) (hl:y.vectors.length=x.vectors.length) (hf:y.free=x.free) (ht:y.target=x.target):((D.set i (h,y)).take L).flatMap AF=(D.take L).flatMap AF:=by
 rw [List.take_set]
 by_cases hk:i<L
 ·exact KX (x:=x) (by rw [List.getElem?_take_of_lt hk]; exact hx) hl hf ht
 ·rw [List.set_eq_of_length_le (by rw [List.length_take]; omega)]
theorem Hn {D:List ((Hd×Hd)×Af)} {i:Nat} {h:Hd×Hd} {x y:Af} (hx:D[i]?=some (h,x)):(D.set i (h,y)).map Prod.fst=D.map Prod.fst:=by
 rw [List.map_set]
 apply List.ext_getElem?
 intro k
 rw [List.getElem?_set]
 by_cases e:i=k
 ·subst e
  rw [if_pos rfl,List.getElem?_map,hx]
  have:=(List.getElem?_eq_some_iff.1 hx).1
  rw [if_pos (by simpa using this)]; rfl
 ·rw [if_neg e]
theorem Je {D:List ((Hd×Hd)×Af)} {R:List Ro} {i:Nat} {h:Hd×Hd} {x y:Af} (hR:∀ p∈D,sF p∈R) (hx:D[i]?=some (h,x)) (hf:y.free=x.free):∀ p∈D.set i (h,y),sF p∈R:=fun p hp=>by
 rcases List.mem_or_eq_of_mem_set hp with hp | rfl
 ·exact hR p hp
 ·have:=hR (h,x) (List.mem_of_getElem? hx)
  unfold sF at this ⊢
  rw [hf]; exact this
theorem sAt {D D1:List ((Hd×Hd)×Af)} {i:Nat} {h:Hd×Hd} {x x1:Af} (hf:D1.map Prod.fst=D.map Prod.fst) (hp:D[i]?=some (h,x)) (hx:(D1.map Prod.snd)[i]?=some x1):D1[i]?=some (h,x1):=by
 have e1:=congrArg (fun l=>l[i]?) hf
 simp only [List.getElem?_map] at e1 hx
 rw [hp] at e1
 cases hd:D1[i]? with
 | none=>rw [hd] at hx; cases hx
 | some p =>
  rw [hd] at e1 hx
  obtain ⟨a,b⟩:=p
  have h1:a=h:=by simpa using e1
  have h2:b=x1:=by simpa using hx
  rw [h1,h2]
theorem sAny {D1:List ((Hd×Hd)×Af)} {ts:List Af} {z:Af} {i:Nat} {y:Af} (hD:D1.map Prod.snd=ts++[z]) (hy:ts[i]?=some y):∃ h:Hd×Hd,D1[i]?=some (h,y):=by
 have hk:=(List.getElem?_eq_some_iff.1 hy).1
 have e:=congrArg (fun l=>l[i]?) hD
 simp only [List.getElem?_map] at e
 rw [List.getElem?_append_left hk,hy] at e
 cases hd:D1[i]? with
 | none=>rw [hd] at e; cases e
 | some p =>
  rw [hd] at e
  obtain ⟨a,b⟩:=p
  have:b=y:=by simpa using e
  exact ⟨a,by rw [this]⟩
theorem OR (n:Int) (masks:List Int) (B:Option Addr) (c n1:Nat) (w0:World) (hn:masks.length=n1) (hS:ST w0 [] w0 [] [⟨B,(masks.flatMap encI)⟩]) {r_:Ae} (hF:Ev n masks=some r_) :
  CV Tryz.prog 29 #[vi n,.slice B n1 c] w0 (fun v w'=>∃ (B1:Option Addr) (c1:Nat),v=.agg #[vi r_.Qubits,.slice B1 r_.Gates.length c1]∧ST w0 [] w' [⟨B1,59,(r_.Gates.flatMap eN0),c1*3⟩] []):=by
 subst hn
 unfold Ev at hF
 refine cv_of_cw 171 Tryz.func29 rfl Tryz.ntmps29 rfl ?_
 obtain ⟨z0,hz0,hF⟩:=bI hF
 refine cq (cr ?_)
 refine sS 4 (yN [vi 0,.slice none 0 0] 2 hS K21) ?_
 rintro _ w_ ⟨b,rfl,hS1⟩
 refine rn (cq (cr ?_))
 refine sQ 22 (ym (vi n))<|sQ 23 (Y_buildS (zs:=[vi 0,.slice none 0 0]) (vs:=[(0,vi n)]) (cs:=[vi n,.slice none 0 0]) K46 K21 rfl (mpc rfl mpn) rfl) ?_
 refine sS 5 (yN [vi 0,.slice none 0 0] 2 hS1 K21) ?_
 rintro _ w_1 ⟨b1,rfl,hS2⟩
 refine s0 (yT 1 2 (aD b1) 32 (.agg #[vi n,.slice none 0 0]) [vi n,.slice none 0 0] 0 hS2 K7) ?_
 rintro _ w_2 ⟨rfl,hS3⟩
 refine rn (cq (cr ?_))
 refine sQ 6 (yg (.slice none 0 0)) (rn ?_)
 have hS4:=hS3.addNil 3
 have hS4:ST w0 [] _ [sA b,sB b1 n none 0 0,⟨none,3,([]:List Int).flatMap encI,0*1⟩] [⟨B,(masks.flatMap encI)⟩]:=hS4
 refine cq (cq (cr ?_))
 refine sQ 7 (yg (vi 0)) (rn (cw_block ?_))
 refine cw_loop (fun k f w=>∃ (all:List Int) (q:Int) (Ba:Option Addr) (ca:Nat),FF f [(0,vi n),(1,.slice B masks.length c),(4,pt (aD b) 0),(5,pt (aD b1) 0),(6,.slice Ba all.length ca),(7,vi q)]∧ST w0 [] w [sA b,sB b1 n none 0 0,⟨Ba,3,all.flatMap encI,ca*1⟩] [⟨B,(masks.flatMap encI)⟩]∧whX (C3 n) k (all,q)=some z0) fuel ⟨[],0,none,0,(fc rfl (fc rfl (fc rfl (fc rfl (fc rfl (fc rfl fn_)))))),hS4,hz0⟩ ?_
 rintro k0 f w ⟨all,q,Ba,ca,hf,hS5,hL⟩
 obtain ⟨k1,y,rfl,hb,hL1⟩:=whX_go hL
 unfold C3 at hb
 refine cq (cq (cr ?_))
 refine sQ 24 (ym (vi q) rfl (hf.g 7 5))<|sQ 25 (ym (vi n) rfl (hf.g 0 0))<|sQ 26 (yL q n) (rn ?_)
 refine cw_cond (b:=(decide (q<n))) rfl (fun hq=>?_) (fun hq=>?_)
 ·skip
  have hb:=ct hb hq
  obtain ⟨hap,hb⟩:=chk_inv hb
  obtain rfl:=sI hb
  refine cw_skip (cq (cw_block (cr ?_)))
  refine sQ 29 (ym (.slice Ba all.length ca) rfl (hf.g 6 4))<|sQ 30 (ym (vi q) rfl (hf.g 7 5)) ?_
  refine sS 31 (Ys_bslice (s:=1) (len:=1) (vs:=[(0,vi q)]) (cs:=[vi q]) (zs:=[vi 0]) (m:=1) hS5 K2 K0 K24 rfl (mpc rfl mpn) rfl rfl rfl (by kernel_rfl) (by kernel_rfl) rfl) ?_
  rintro _ w_3 ⟨b2,rfl,hS6⟩
  refine sS 32 (Ys_append (s:=1) (by':=8) (i:=2) (nn:=all.length) (c:=ca) (k:=1) (len:=(all++[q]).length) (B:=Ba) (xs:=([q].flatMap encI)) (cs':=((all++[q]).flatMap encI)) hS6 K2 K0 K31 K28 rfl (by decide) rfl rfl rfl rfl (fm_lenn (l:=all) encI_len rfl) rfl (hS6.c 3) (fm_lenn (l:=[q]) encI_len rfl) (fm_one' (enc:=encI) encI_one [q]) (by have:=hap; omega) (by have:=hap; simp only [maxLen]; omega) (fm_app _ _) (app_len (l:=all) (l':=[q]) rfl rfl)) ?_
  rintro _ w_4 ⟨Ba2,ca2,rfl,hS7⟩
  refine sQ 6 (yg (.slice Ba2 (all++[q]).length ca2)) (rn (cr ?_))
  refine sQ 27 (ym (vi q) rfl (hf.g 7 5))<|sQ 28 (yP q 1)<|sQ 7 (yg (vi (i64.wrap (q+1)))) (rn ?_)
  exact ⟨k1,Nat.lt_succ_self _,all++[q],_,Ba2,ca2,(hf.a 0 0 (hf.a 1 1 (hf.a 4 2 (hf.a 5 3 (fc rfl (fc rfl fn_)))))),hS7.sel [0,1,2] rfl rfl,hL1⟩
 ·skip
  have hb:=cf' hb hq
  obtain rfl:=sI hb
  obtain rfl:=sI hL1
  refine cw_exit rfl ?_
  have hF:((AA masks).bind fun r_1=>(whX (Cw n) fuel ([],[Af.mk r_1 all (-1)])).bind<|orR fun (gs,ts)=>some (Ae.mk n gs))=some r_:=hF
  obtain ⟨r_1,hc,hF⟩:=bI hF
  obtain ⟨z,hz,hF⟩:=bI hF
  refine cq (cr ?_)
  refine sQ 33 (ym (.slice B masks.length c) rfl (hf.g 1 1)) ?_
  refine sc 34 rfl rfl (yC [.slice B masks.length c] K75' (EB masks B c masks.length _ rfl (hS5.inn0 [(true,0)] rfl) hc)) ?_
  rintro _ w_3 ⟨B1,c1,rfl,hd⟩
  have hS6:=hS5.out0 hd
  refine sQ 35 (ym (.slice Ba all.length ca) rfl (hf.g 6 4))<|sQ 36 (Y_buildS (zs:=[.slice none 0 0,.slice none 0 0,vi 0]) (vs:=[(0,.slice B1 r_1.length c1),(1,.slice Ba all.length ca),(2,vi (-1))]) (cs:=[.slice B1 r_1.length c1,.slice Ba all.length ca,vi (-1)]) K97 K73 rfl (mpc rfl (mpc rfl (mpc rfl mpn))) rfl) ?_
  refine sS 37 (Ys_bslice (s:=3) (len:=1) (vs:=[(0,.agg #[.slice B1 r_1.length c1,.slice Ba all.length ca,vi (-1)])]) (cs:=[.slice B1 r_1.length c1,.slice Ba all.length ca,vi (-1)]) (zs:=[.slice none 0 0,.slice none 0 0,vi 0]) (m:=3) hS6 K57 K58 Id rfl (mpc rfl mpn) rfl rfl rfl (by kernel_rfl) (by kernel_rfl) rfl) ?_
  rintro _ w_4 ⟨b2,rfl,hS7⟩
  refine sQ 8 (yg (.slice (aD b2) 1 1)) (rn ?_)
  have hS8:=(hS7.addNil 59).freeze (i:=2) rfl
  have hS8:ST w0 [] _ [sA b,sB b1 n none 0 0,⟨B1,3,r_1.flatMap encI,c1*1⟩,⟨aD b2,117,[.slice B1 r_1.length c1,.slice Ba all.length ca,vi (-1)],3⟩,⟨none,59,[],0⟩] [⟨Ba,all.flatMap encI⟩,⟨B,(masks.flatMap encI)⟩]:=hS8
  refine cq (cw_block ?_)
  refine cw_loop (fun k f w=>∃ (gs:List Aa) (ts:List Af) (D:List ((Hd×Hd)×Af)) (Bo:Option Addr) (co:Nat) (Bs:Option Addr) (cs:Nat) (R:List Ro),FF f [(0,vi n),(4,pt (aD b) 0),(5,pt (aD b1) 0),(8,.slice Bs ts.length cs)]∧D.map Prod.snd=ts∧(∀ p∈D,sF p∈R)∧ST w0 [] w ([sA b,sB b1 n Bo gs.length co,sO Bo co gs,sK Bs cs D]++D.map sRw) R∧whX (Cw n) k (gs,ts)=some z) fuel ⟨[],[Af.mk r_1 all (-1)],[(((B1,c1),(Ba,ca)),Af.mk r_1 all (-1))],none,0,aD b2,1,_,(hf.a 0 0 (hf.a 4 2 (hf.a 5 3 (fc rfl fn_)))),rfl,(fun p hp=>by rw [List.mem_singleton] at hp; subst hp; exact .head _),hS8.sel [0,1,4,3,2] rfl rfl,hz⟩ ?_
  clear hf hL hS5 hS6 hS7 hS8 hS4 hS3 hS2 hS1
  rintro k_ f w ⟨gs,ts,D,Bo,co,Bs,cs,R,hf,hD,hR,hS9,hL⟩
  obtain ⟨K5,y,rfl,hb,hL1⟩:=whX_go hL
  unfold Cw at hb
  have hlD:D.length=ts.length:=by rw [← hD,List.length_map]
  refine cq (cq (cr ?_))
  refine sQ 38 (ym (.slice Bs ts.length cs) rfl (hf.g 8 3))<|sQ 39 (Y_len (B:=Bs) (m:=ts.length) (c:=cs) K57 rfl rfl)<|sQ 40 (Y_gt (k:=.i64) (a:=(ts.length:Int)) (b:=0) rfl rfl rfl) (rn ?_)
  refine cw_cond (b:=(decide (0<(ts.length:Int)))) rfl (fun hlt=>?_) (fun hlt=>?_)
  ·skip
   have hb:=ct hb hlt
   have hpos:0<ts.length:=by have h:=of_decide_eq_true hlt; omega
   obtain ⟨hwr,hb⟩:=chk_inv hb
   obtain ⟨x,hx,hb⟩:=bI hb
   obtain ⟨L1,hL1e⟩:∃ L1,ts.length-1=L1:=⟨_,rfl⟩
   rw [hL1e] at hwr hx hb
   have hlL:ts.length=L1+1:=by omega
   obtain ⟨⟨⟨Bv,cv⟩,Bf,cf⟩,hp⟩:=getI_snd (D:=D) hD hx
   have hpi:D[L1]?=some (((Bv,cv),(Bf,cf)),x):=by have:=getI_some hp; rwa [Int.toNat_natCast] at this
   have hcap:D.length≤cs:=hS9.lencap (i:=3) rfl (fm_lenn (l:=D) C9 rfl) rfl rfl
   refine cw_skip (cw_block (cq (cr ?_)))
   refine sQ 41 (ym (.slice Bs ts.length cs) rfl (hf.g 8 3))<|sQ 42 (ym (.slice Bs ts.length cs) rfl (hf.g 8 3))<|sQ 43 (Y_len (B:=Bs) (m:=ts.length) (c:=cs) K57 rfl rfl)<|sQ 44 (show Y _ _ _ _ _ (vi (L1:Int)) from by rw [← hwr]; exact Y_sub (k:=.i64) (a:=(ts.length:Int)) (b:=1) rfl rfl rfl)<|sQ 45 (yI Bs (L1:Int) K57 K58 (gi_isSome C9 rfl (hS9.c 3) hp) (getI_nn hp) (getI_ltI hp hlD))<|sQ 46 (ya Bs ((L1:Int).toNat*3) (D.flatMap AF) [.slice Bv x.vectors.length cv,.slice Bf x.free.length cf,vi x.target] Hp K58 (hS9.c 3) rfl rfl rfl (gi_seg C9 hp)) ?_
   refine sS 9 (yN [.slice none 0 0,.slice none 0 0,vi 0] 3 hS9 K73) ?_
   rintro _ w_5 ⟨b9,rfl,hS10⟩
   have hS10:=hS10.front
   refine s0 (yT 0 3 (aD b9) 117 (.agg #[.slice Bv x.vectors.length cv,.slice Bf x.free.length cf,vi x.target]) [.slice Bv x.vectors.length cv,.slice Bf x.free.length cf,vi x.target] 0 hS10 K58) ?_
   rintro _ w_6 ⟨rfl,hS11⟩
   have hS11:ST w0 [] _ ([sT b9 Bv x.vectors.length cv Bf x.free.length cf x.target,sA b,sB b1 n Bo gs.length co,sO Bo co gs,sK Bs cs D]++D.map sRw) R:=hS11
   refine rn (cq (cr ?_))
   refine sQ 47 (ym (.slice Bs ts.length cs) rfl (hf.g 8 3))<|sQ 48 (ym (.slice Bs ts.length cs) rfl (hf.g 8 3))<|sQ 49 (Y_len (B:=Bs) (m:=ts.length) (c:=cs) K57 rfl rfl)<|sQ 50 (show Y _ _ _ _ _ (vi (L1:Int)) from by rw [← hwr]; exact Y_sub (k:=.i64) (a:=(ts.length:Int)) (b:=1) rfl rfl rfl)<|sQ 51 (Y_slice0 (B:=Bs) (m:=ts.length) (c:=cs) (h:=L1) (s:=3) K57 K58 rfl rfl (bnd_some rfl rfl) (by omega))<|sQ 8 (yg (.slice Bs L1 cs)) (rn ?_)
   have hS12:ST w0 [] w_6 ([sT b9 Bv x.vectors.length cv Bf x.free.length cf x.target,sA b,sB b1 n Bo gs.length co,sO Bo co gs,sK Bs cs (D.take L1)]++D.map sRw) R:=hS11.cut (T:=117) (i:=4) (cs':=(D.take L1).flatMap AF) rfl (by
    have:D.take L1++D.drop L1=D:=List.take_append_drop _ _
    exact ⟨(D.drop L1).flatMap AF,by rw [← List.flatMap_append,this]⟩)
   have hrows:∀ {w:World} {o:Ob} {pre:List Ob} {R:List Ro} {D1:List ((Hd×Hd)×Af)},ST w0 [] w (o::(pre++D1.map sRw)) R→ST w0 [] w (pre++(D1.take L1).map sRw) R:=fun h=>by
    refine h.tail.sub (List.Sublist.append (List.Sublist.refl _) ?_)
    rw [List.map_take]
    exact List.take_sublist _ _
   refine cq (cq (cr ?_))
   refine sQ 52 (yd (aD b9) 0 0 K65 K8)<|sQ 53 (yl (aD b9) 0 [.slice Bv x.vectors.length cv,.slice Bf x.free.length cf,vi x.target] (.slice Bv x.vectors.length cv) K9 (hS12.c 0))<|sQ 54 (Y_len (B:=Bv) (m:=x.vectors.length) (c:=cv) K2 rfl rfl)<|sQ 55 (yE (x.vectors.length:Int) 0) (rn ?_)
   refine cw_cond (b:=((x.vectors.length:Int)==0)) rfl (fun hz0=>?_) (fun hz0=>?_)
   ·skip
    have hb:=ct hb hz0
    obtain rfl:=sI hb
    refine cw_exit rfl ?_
    refine ⟨K5,Nat.lt_succ_self _,gs,ts.take L1,D.take L1,Bo,co,Bs,cs,R,(hf.a 0 0 (hf.a 4 1 (hf.a 5 2 (fc ?_ fn_)))),by rw [← hD,List.map_take],fun p hp=>hR p (List.mem_of_mem_take hp),hrows (pre:=[sA b,sB b1 n Bo gs.length co,sO Bo co gs,sK Bs cs (D.take L1)]) hS12,hL1⟩
    show Value.slice Bs L1 cs=Value.slice Bs (ts.take L1).length cs
    rw [List.length_take,Nat.min_eq_left (by omega)]
   ·skip
    have hb:=cf' hb hz0
    refine cw_skip ?_
    obtain ⟨z1,hz1,hb⟩:=bI hb
    have hD0:D.map Prod.snd=ts.take L1++[Af.mk x.vectors x.free x.target]:=by
     have h1:ts=ts.take L1++ts.drop L1:=(List.take_append_drop _ _).symm
     have hxs:ts[L1]?=some x:=by have:=getI_some hx; rwa [Int.toNat_natCast] at this
     obtain ⟨h2,h3⟩:=List.getElem?_eq_some_iff.1 hxs
     rw [List.drop_eq_getElem_cons h2,h3,List.drop_eq_nil_of_le (by omega)] at h1
     rw [hD]; exact h1
    refine cq (cq (cr ?_))
    refine sQ 10 (yg (vi 0)) (rn (cw_block ?_))
    refine cw_loop (fun k f w=>∃ (gs1:List Aa) (xv:List Int) (ts1:List Af) (D1:List ((Hd×Hd)×Af)) (Bo1:Option Addr) (co1:Nat) (j:Int),FF f [(0,vi n),(4,pt (aD b) 0),(5,pt (aD b1) 0),(8,.slice Bs L1 cs),(9,pt (aD b9) 0),(10,vi j)]∧D1.map Prod.snd=ts1++[Af.mk xv x.free x.target]∧D1.map Prod.fst=D.map Prod.fst∧(∀ p∈D1,sF p∈R)∧xv.length=x.vectors.length∧ST w0 [] w ([sT b9 Bv x.vectors.length cv Bf x.free.length cf x.target,sA b,sB b1 n Bo1 gs1.length co1,sO Bo1 co1 gs1,sK Bs cs (D1.take L1)]++D1.map sRw) R∧whX (Br n x.target) k (gs1,xv,ts1,j)=some z1) fuel ⟨gs,x.vectors,ts.take L1,D,Bo,co,0,(hf.a 0 0 (hf.a 4 1 (hf.a 5 2 (fc rfl (fc rfl (fc rfl fn_)))))),hD0,rfl,hR,rfl,hS12,hz1⟩ ?_
    rintro k2 f w ⟨gs1,xv,ts1,D1,Bo1,co1,j,hf1,hD1,hfst,hR1,hxv,hS13,hL2⟩
    obtain ⟨k3,y2,rfl,hb2,hL3⟩:=whX_go hL2
    unfold Br at hb2
    have hl1:D1.length=ts.length:=by
     have:=congrArg List.length hfst
     rw [List.length_map,List.length_map] at this
     omega
    have hts1:ts1.length=L1:=by
     have:=congrArg List.length hD1
     rw [List.length_map,List.length_append] at this
     simp only [List.length_cons,List.length_nil] at this
     omega
    have hrow:D1[L1]?=some (((Bv,cv),(Bf,cf)),Af.mk xv x.free x.target):=sAt hfst hpi (by rw [hD1,List.getElem?_append_right (by omega),hts1,Nat.sub_self]; rfl)
    refine cq (cq (cr ?_))
    refine sQ 56 (ym (vi j) rfl (hf1.g 10 5))<|sQ 57 (ym (vi n) rfl (hf1.g 0 0))<|sQ 58 (yL j n)<|sQ 59 (ym (.bool (decide (j<n)))) ?_
    refine sgq 60 (B:=(decide (j<n))) (v:=pt (aD b9) 2) rfl rfl (uT_ 59) (fun hg=>(yd (aD b9) 0 0 K66 K0 rfl (hf1.g 9 4))) ?_
    refine sgq 61 (B:=(decide (j<n))) rfl rfl (uT_ 59) (fun hg=>(yl (aD b9) 2 [.slice Bv x.vectors.length cv,.slice Bf x.free.length cf,vi x.target] (vi x.target) K1 (hS13.c 0) rfl (gv_of (v:=pt (aD b9) 2) hg))) ?_
    refine sgq 62 (B:=(decide (j<n))) rfl rfl (uT_ 59) (fun hg=>(Y_ge (k:=.i64) (a:=x.target) (b:=0) rfl (gv_of (v:=vi x.target) hg) rfl)) ?_
    refine sQ 63 (Y_and (b:=(decide (j<n))) (z:=(decide (0≤x.target))) rfl rfl rfl rfl) (rn ?_)
    refine cw_cond (b:=((decide (j<n))&&(decide (0≤x.target)))) rfl (fun hc2=>?_) (fun hc2=>?_)
    ·skip
     have hb2:=ct hb2 hc2
     obtain ⟨r,hr,hb2⟩:=bI hb2
     obtain ⟨⟨gs2,xv2,ts2⟩,hz2,hb2⟩:=bI hb2
     refine cw_skip (cq ?_)
     refine cw_mid (fun f w=>∃ (D2:List ((Hd×Hd)×Af)) (Bo2:Option Addr) (co2:Nat),FF f [(0,vi n),(4,pt (aD b) 0),(5,pt (aD b1) 0),(8,.slice Bs L1 cs),(9,pt (aD b9) 0),(10,vi j)]∧D2.map Prod.snd=ts2++[Af.mk xv2 x.free x.target]∧D2.map Prod.fst=D.map Prod.fst∧(∀ p∈D2,sF p∈R)∧xv2.length=x.vectors.length∧ST w0 [] w ([sT b9 Bv x.vectors.length cv Bf x.free.length cf x.target,sA b,sB b1 n Bo2 gs2.length co2,sO Bo2 co2 gs2,sK Bs cs (D2.take L1)]++D2.map sRw) R) ?_ ?_
     ·skip
      refine cw_block (cq (cq ?_))
      refine cw_mid (fun f w=>FF f [(0,vi n),(4,pt (aD b) 0),(5,pt (aD b1) 0),(8,.slice Bs L1 cs),(9,pt (aD b9) 0),(10,vi j),(77,.bool ((j==x.target)||(decide (0<(r.length:Int)))))]∧ST w0 [] w ([sT b9 Bv x.vectors.length cv Bf x.free.length cf x.target,sA b,sB b1 n Bo1 gs1.length co1,sO Bo1 co1 gs1,sK Bs cs (D1.take L1)]++D1.map sRw) R) ?_ ?_
      ·refine cw_split (B:=(j==x.target)) (fun hjt=>?_) (fun hjt=>?_)
       ·refine cr ?_
        refine sQ 66 (ym (vi j) rfl (hf1.g 10 5))<|sQ 67 (yd (aD b9) 0 0 K66 K0 rfl (hf1.g 9 4))<|sQ 68 (yl (aD b9) 2 [.slice Bv x.vectors.length cv,.slice Bf x.free.length cf,vi x.target] (vi x.target) K1 (hS13.c 0))<|sQ 69 (yE j x.target)<|sQ 70 (ym (.bool (j==x.target))) ?_
        refine sgn 71 rfl rfl (uF_ 70) (by rw [hjt]; rfl) ?_
        refine sgn 72 rfl rfl (uF_ 70) (by rw [hjt]; rfl) ?_
        refine sgn 73 rfl rfl (uF_ 70) (by rw [hjt]; rfl) ?_
        refine sgn 74 rfl rfl (uF_ 70) (by rw [hjt]; rfl) ?_
        refine sgn 75 rfl rfl (uF_ 70) (by rw [hjt]; rfl) ?_
        refine sgn 76 rfl rfl (uF_ 70) (by rw [hjt]; rfl) ?_
        refine sQ 77 (Y_or (b:=(j==x.target)) (z:=(decide (0<(r.length:Int)))) rfl rfl rfl (gv_no (B:=!(j==x.target)) (by rw [hjt]; rfl)).symm) (rn ?_)
        exact ⟨(hf1.a 0 0 (hf1.a 4 1 (hf1.a 5 2 (hf1.a 8 3 (hf1.a 9 4 (hf1.a 10 5 (fc rfl fn_))))))),hS13⟩
       ·have hjn:(!(j==x.target))=true:=by rw [hjt]; rfl
        have hr':=gb_inv hr hjn
        refine cr ?_
        refine sQ 66 (ym (vi j) rfl (hf1.g 10 5))<|sQ 67 (yd (aD b9) 0 0 K66 K0 rfl (hf1.g 9 4))<|sQ 68 (yl (aD b9) 2 [.slice Bv x.vectors.length cv,.slice Bf x.free.length cf,vi x.target] (vi x.target) K1 (hS13.c 0))<|sQ 69 (yE j x.target)<|sQ 70 (ym (.bool (j==x.target))) ?_
        refine sqg 71 rfl rfl (uF_ 70) hjn (yd (aD b9) 0 0 K65 K8 rfl (hf1.g 9 4)) ?_
        refine sqg 72 rfl rfl (uF_ 70) hjn (yl (aD b9) 0 [.slice Bv x.vectors.length cv,.slice Bf x.free.length cf,vi x.target] (.slice Bv x.vectors.length cv) K9 (hS13.c 0)) ?_
        refine sqg 73 rfl rfl (uF_ 70) hjn (ym (vi j) rfl (hf1.g 10 5)) ?_
        refine scg 74 rfl rfl (uF_ 70) hjn (yC [.slice Bv x.vectors.length cv,vi j,vi 0] EL (Fj xv j 0 Bv cv x.vectors.length _ hxv (hS13.srowIn (x:=Af.mk xv x.free x.target) hrow) hr')) ?_
        rintro _ w_7 ⟨B7,c7,rfl,hd7⟩
        have hS14:=hS13.leave0 hd7
        have hS14:=hS14.sub (List.sublist_append_left _ _)
        refine sqg 75 rfl rfl (uF_ 70) hjn (Y_len (B:=B7) (m:=r.length) (c:=c7) K2 rfl rfl) ?_
        refine sqg 76 rfl rfl (uF_ 70) hjn (Y_gt (k:=.i64) (a:=(r.length:Int)) (b:=0) rfl rfl rfl) ?_
        refine sQ 77 (Y_or (b:=(j==x.target)) (z:=(decide (0<(r.length:Int)))) rfl rfl rfl (gv_of (v:=.bool (decide (0<(r.length:Int)))) hjn).symm) (rn ?_)
        exact ⟨(hf1.a 0 0 (hf1.a 4 1 (hf1.a 5 2 (hf1.a 8 3 (hf1.a 9 4 (hf1.a 10 5 (fc rfl fn_))))))),hS14⟩
      rintro f w ⟨hf2,hS15⟩
      refine cw_cond (b:=((j==x.target)||(decide (0<(r.length:Int))))) (hf2.g 77 6) (fun hc3=>?_) (fun hc3=>?_)
      ·skip
       have hz2:=ct hz2 hc3
       obtain ⟨rfl,rfl,rfl⟩:gs1=gs2∧xv=xv2∧ts1=ts2:=by
        have:=sI hz2
        simpa using this
       refine cw_exit rfl ?_
       exact ⟨D1,Bo1,co1,(hf2.a 0 0 (hf2.a 4 1 (hf2.a 5 2 (hf2.a 8 3 (hf2.a 9 4 (hf2.a 10 5 fn_)))))),hD1,hfst,hR1,hxv,hS15⟩
      ·skip
       have hz2:=cf' hz2 hc3
       refine cw_skip ?_
       obtain ⟨hap,hz2⟩:=chk_inv hz2
       obtain ⟨xv1,hxv1,hz2⟩:=bI hz2
       obtain ⟨htl,hz2⟩:=chk_inv hz2
       obtain ⟨ts3,hts3,hz2⟩:=bI hz2
       obtain ⟨rfl,rfl,rfl⟩:gs1++[Aa.mk 9 j x.target]=gs2∧xv1=xv2∧ts3=ts2:=by
        have:=sI hz2
        simpa using this
       refine cq (cr ?_)
       refine sQ 78 (yd (aD b1) 0 0 K17 K11 rfl (hf2.g 5 2))<|sQ 79 (yl (aD b1) 1 [vi n,.slice Bo1 gs1.length co1] (.slice Bo1 gs1.length co1) K18 (hS15.c 2))<|sQ 80 (ym (vi j) rfl (hf2.g 10 5))<|sQ 81 (yd (aD b9) 0 0 K66 K0 rfl (hf2.g 9 4))<|sQ 82 (yl (aD b9) 2 [.slice Bv x.vectors.length cv,.slice Bf x.free.length cf,vi x.target] (vi x.target) K1 (hS15.c 0))<|sQ 83 (Y_buildS (zs:=[vi 0,vi 0,vi 0]) (vs:=[(0,vi 9),(1,vi j),(2,vi x.target)]) (cs:=[vi 9,vi j,vi x.target]) K33 K10 rfl (mpc rfl (mpc rfl (mpc rfl mpn))) rfl) ?_
       refine sS 84 (Ys_bslice (s:=3) (len:=1) (vs:=[(0,.agg #[vi 9,vi j,vi x.target])]) (cs:=[vi 9,vi j,vi x.target]) (zs:=[vi 0,vi 0,vi 0]) (m:=3) hS15 K4 K3 K26 rfl (mpc rfl mpn) rfl rfl rfl (by kernel_rfl) (by kernel_rfl) rfl) ?_
       rintro _ w_8 ⟨b3,rfl,hS17⟩
       refine sS 85 (Ys_append (s:=3) (by':=24) (i:=3) (nn:=gs1.length) (c:=co1) (k:=1) (len:=(gs1++[Aa.mk 9 j x.target]).length) (B:=Bo1) (X:=aD b3) (c2:=1) (cs:=gs1.flatMap eN0) (xs:=([Aa.mk 9 j x.target].flatMap eN0)) (cs':=((gs1++[Aa.mk 9 j x.target]).flatMap eN0)) (m:=co1*3) hS17 K4 K3 K23 K10 rfl (by decide) rfl rfl rfl rfl (fm_lenn (l:=gs1) eN2 rfl) rfl (hS17.mcf (mAr _ (.head _))) (fm_lenn (l:=[Aa.mk 9 j x.target]) eN2 rfl) (fm_one' (enc:=eN0) Al [Aa.mk 9 j x.target]) (by have:=hap; omega) (by have:=hap; simp only [maxLen]; omega) (fm_app _ _) (app_len (l:=gs1) (l':=[Aa.mk 9 j x.target]) rfl rfl)) ?_
       rintro _ w_9 ⟨Bo2,co2,rfl,hS18⟩
       have hS18:ST w0 [] w_9 ([sT b9 Bv x.vectors.length cv Bf x.free.length cf x.target,sA b,sB b1 n Bo1 gs1.length co1,sO Bo2 co2 (gs1++[Aa.mk 9 j x.target]),sK Bs cs (D1.take L1)]++D1.map sRw) R:=hS18.sub (List.sublist_append_left _ _)
       refine sQ 86 (yd (aD b1) 0 0 K17 K11 rfl (hf2.g 5 2)) ?_
       refine s0 (yS 2 1 (aD b1) 32 (.slice Bo2 (gs1++[Aa.mk 9 j x.target]).length co2) [.slice Bo2 (gs1++[Aa.mk 9 j x.target]).length co2] 1 [vi n,.slice Bo2 (gs1++[Aa.mk 9 j x.target]).length co2] hS18 K11) ?_
       rintro _ w_10 ⟨rfl,hS19⟩
       have hS19:ST w0 [] _ ([sT b9 Bv x.vectors.length cv Bf x.free.length cf x.target,sA b,sB b1 n Bo2 (gs1++[Aa.mk 9 j x.target]).length co2,sO Bo2 co2 (gs1++[Aa.mk 9 j x.target]),sK Bs cs (D1.take L1)]++D1.map sRw) R:=hS19
       refine rn (cq (cr ?_))
       refine sQ 87 (yd (aD b9) 0 0 K65 K8 rfl (hf2.g 9 4))<|sQ 88 (yl (aD b9) 0 [.slice Bv x.vectors.length cv,.slice Bf x.free.length cf,vi x.target] (.slice Bv x.vectors.length cv) K9 (hS19.c 0))<|sQ 89 (ym (vi j) rfl (hf2.g 10 5))<|sQ 90 (yd (aD b9) 0 0 K66 K0 rfl (hf2.g 9 4))<|sQ 91 (yl (aD b9) 2 [.slice Bv x.vectors.length cv,.slice Bf x.free.length cf,vi x.target] (vi x.target) K1 (hS19.c 0)) ?_
       refine sc 92 rfl rfl (yC [.slice Bv x.vectors.length cv,vi j,vi x.target] I7 (I2 xv j x.target Bv cv x.vectors.length _ hxv (hS19.trowIn hrow) hxv1)) ?_
       rintro _ w_11 ⟨rfl,hxv1l,hd8⟩
       have hS20:=hS19.trowOut (q:=(((Bv,cv),(Bf,cf)),Af.mk xv1 x.free x.target)) hrow hd8
       obtain ⟨D2,hD2e⟩:∃ D2,D2=D1.set L1 (((Bv,cv),(Bf,cf)),Af.mk xv1 x.free x.target):=⟨_,rfl⟩
       have hD2:D2.map Prod.snd=ts1++[Af.mk xv1 x.free x.target]:=by
        rw [hD2e,List.map_set,hD1,List.set_append_right _ _ (by omega),hts1,Nat.sub_self]; rfl
       have hfst2:D2.map Prod.fst=D.map Prod.fst:=by rw [hD2e,Hn hrow]; exact hfst
       have hR2:∀ p∈D2,sF p∈R:=by rw [hD2e]; exact Je hR1 hrow rfl
       have hS21:ST w0 [] w_11 ([sT b9 Bv x.vectors.length cv Bf x.free.length cf x.target,sA b,sB b1 n Bo2 (gs1++[Aa.mk 9 j x.target]).length co2,sO Bo2 co2 (gs1++[Aa.mk 9 j x.target]),sK Bs cs (D2.take L1)]++D2.map sRw) R:=by
        unfold sK
        rw [hD2e,Is (x:=Af.mk xv x.free x.target) (y:=Af.mk xv1 x.free x.target) hrow (by show xv1.length=xv.length; omega) rfl rfl]
        exact hS20
       clear hD2e hS20 hS19 hS18 hS17
       refine rn (cq (cr ?_))
       refine sQ 93 (ym (.slice Bs L1 cs) rfl (hf2.g 8 3))<|sQ 94 (Y_len (B:=Bs) (m:=L1) (c:=cs) K57 rfl rfl)<|sQ 95 (ym (vi 0)) (rn (cw_block ?_))
       refine cw_loop (fun k f w=>∃ (i:Nat) (D3:List ((Hd×Hd)×Af)) (ts4:List Af),FF f [(0,vi n),(4,pt (aD b) 0),(5,pt (aD b1) 0),(8,.slice Bs L1 cs),(9,pt (aD b9) 0),(10,vi j),(93,.slice Bs L1 cs),(94,vi (L1:Int)),(95,vi (i:Int))]∧D3.map Prod.snd=ts4++[Af.mk xv1 x.free x.target]∧D3.map Prod.fst=D.map Prod.fst∧(∀ p∈D3,sF p∈R)∧ST w0 [] w ([sT b9 Bv x.vectors.length cv Bf x.free.length cf x.target,sA b,sB b1 n Bo2 (gs1++[Aa.mk 9 j x.target]).length co2,sO Bo2 co2 (gs1++[Aa.mk 9 j x.target]),sK Bs cs (D3.take L1)]++D3.map sRw) R∧i+k=L1∧forN (CA x.target j) k i ts4=some ts3) L1 ⟨0,D2,ts1,(hf2.a 0 0 (hf2.a 4 1 (hf2.a 5 2 (hf2.a 8 3 (hf2.a 9 4 (hf2.a 10 5 (fc rfl (fc rfl (fc rfl fn_))))))))),hD2,hfst2,hR2,hS21,Nat.zero_add _,by rw [← hts1]; exact hts3⟩ ?_
       clear hS21 hR2 hfst2 hD2
       rintro k4 f w ⟨i,D3,ts4,hf3,hD3,hfst3,hR3,hS22,hik,hL4⟩
       refine cq (cr ?_)
       refine sQ 96 (yL (i:Int) (L1:Int) rfl (hf3.g 95 8) (hf3.g 94 7)) (rn (cq ?_))
       refine cw_cond (b:=(decide ((i:Int)<(L1:Int)))) rfl (fun hlt4=>?_) (fun hlt4=>?_)
       ·skip
        have hlt5:i<L1:=by have h:=of_decide_eq_true hlt4; omega
        obtain ⟨k5,rfl⟩:∃ k2,k4=k2+1:=⟨k4-1,by omega⟩
        obtain ⟨s5,hb5,hL5⟩:=forN_go hL4
        unfold CA at hb5
        obtain ⟨y5,hy5,hb5⟩:=bI hb5
        obtain ⟨vs,hvs,hb5⟩:=bI hb5
        obtain rfl:=sI hb5
        have hyi:ts4[i]?=some y5:=by have:=getI_some hy5; rwa [Int.toNat_natCast] at this
        obtain ⟨⟨⟨Bp,cp⟩,Bq,cqq⟩,hpi5⟩:=sAny hD3 hyi
        have hp5:getI (D3.take L1) (i:Int)=some (((Bp,cp),(Bq,cqq)),y5):=by
         unfold getI
         rw [if_pos (by omega),Int.toNat_natCast,List.getElem?_take_of_lt hlt5,hpi5]
        have hl3:D3.length=ts.length:=by
         have:=congrArg List.length hfst3
         rw [List.length_map,List.length_map] at this
         omega
        have hlt3:(D3.take L1).length=L1:=by rw [List.length_take,Nat.min_eq_left (by omega)]
        refine cw_skip (cq ?_)
        refine cw_mid (fun f w=>∃ (D4:List ((Hd×Hd)×Af)),FF f [(0,vi n),(4,pt (aD b) 0),(5,pt (aD b1) 0),(8,.slice Bs L1 cs),(9,pt (aD b9) 0),(10,vi j),(93,.slice Bs L1 cs),(94,vi (L1:Int)),(95,vi (i:Int))]∧D4.map Prod.snd=ts4.set i (Af.mk vs y5.free y5.target)++[Af.mk xv1 x.free x.target]∧D4.map Prod.fst=D.map Prod.fst∧(∀ p∈D4,sF p∈R)∧ST w0 [] w ([sT b9 Bv x.vectors.length cv Bf x.free.length cf x.target,sA b,sB b1 n Bo2 (gs1++[Aa.mk 9 j x.target]).length co2,sO Bo2 co2 (gs1++[Aa.mk 9 j x.target]),sK Bs cs (D4.take L1)]++D4.map sRw) R) ?_ ?_
        ·skip
         refine cw_block (cq (cr ?_))
         refine sQ 97 (Y_index (B:=Bs) (m:=L1) (c:=cs) (k:=.i64) (i:=(i:Int)) K57 K58 rfl (hf3.g 93 6) (hf3.g 95 8) (gi_isSome C9 rfl (hS22.c 4) hp5) (by omega) (by omega))<|sQ 98 (ya Bs ((i:Int).toNat*3) ((D3.take L1).flatMap AF) [.slice Bp y5.vectors.length cp,.slice Bq y5.free.length cqq,vi y5.target] Hp K58 (hS22.c 4) rfl rfl rfl (gi_seg C9 hp5)) ?_
         refine sS 12 (yN [.slice none 0 0,.slice none 0 0,vi 0] 3 hS22 K73) ?_
         rintro _ w_12 ⟨b12,rfl,hS23⟩
         have hS23:=hS23.front
         refine s0 (yT 0 3 (aD b12) 117 (.agg #[.slice Bp y5.vectors.length cp,.slice Bq y5.free.length cqq,vi y5.target]) [.slice Bp y5.vectors.length cp,.slice Bq y5.free.length cqq,vi y5.target] 0 hS23 K58) ?_
         rintro _ w_13 ⟨rfl,hS24⟩
         have hS24:ST w0 [] _ ([sT b12 Bp y5.vectors.length cp Bq y5.free.length cqq y5.target,sT b9 Bv x.vectors.length cv Bf x.free.length cf x.target,sA b,sB b1 n Bo2 (gs1++[Aa.mk 9 j x.target]).length co2,sO Bo2 co2 (gs1++[Aa.mk 9 j x.target]),sK Bs cs (D3.take L1)]++D3.map sRw) R:=hS24
         refine rn (cr ?_)
         refine sQ 99 (yd (aD b12) 0 0 K65 K8)<|sQ 100 (yl (aD b12) 0 [.slice Bp y5.vectors.length cp,.slice Bq y5.free.length cqq,vi y5.target] (.slice Bp y5.vectors.length cp) K9 (hS24.c 0))<|sQ 101 (ym (vi j) rfl (hf3.g 10 5))<|sQ 102 (yd (aD b9) 0 0 K66 K0 rfl (hf3.g 9 4))<|sQ 103 (yl (aD b9) 2 [.slice Bv x.vectors.length cv,.slice Bf x.free.length cf,vi x.target] (vi x.target) K1 (hS24.c 1)) ?_
         refine sc 104 rfl rfl (yC [.slice Bp y5.vectors.length cp,vi j,vi x.target] I7 (I2 y5.vectors j x.target Bp cp y5.vectors.length _ rfl (hS24.trowIn hpi5) hvs)) ?_
         rintro _ w_14 ⟨rfl,hvl,hd9⟩
         have hS25:=(hS24.trowOut (q:=(((Bp,cp),(Bq,cqq)),Af.mk vs y5.free y5.target)) hpi5 hd9).tail
         refine rn ?_
         refine ⟨D3.set i (((Bp,cp),(Bq,cqq)),Af.mk vs y5.free y5.target),(hf3.a 0 0 (hf3.a 4 1 (hf3.a 5 2 (hf3.a 8 3 (hf3.a 9 4 (hf3.a 10 5 (hf3.a 93 6 (hf3.a 94 7 (hf3.a 95 8 fn_))))))))),?_,by rw [Hn hpi5]; exact hfst3,Je hR3 hpi5 rfl,?_⟩
         ·rw [List.map_set,hD3,List.set_append_left _ _ (List.getElem?_eq_some_iff.1 hyi).1]
         ·unfold sK
          rw [Is (y:=Af.mk vs y5.free y5.target) hpi5 hvl rfl rfl]
          exact hS25
        rintro f w ⟨D4,hf4,hD4,hfst4,hR4,hS26⟩
        refine cr ?_
        refine sQ 105 (yP (i:Int) 1 rfl (hf4.g 95 8))<|sQ 95 (ym (vi ((i+1:Nat):Int)) rfl (by rw [← wr_succ hlt5 (by omega)]; rfl)) (rn ?_)
        exact ⟨k5,Nat.lt_succ_self _,i+1,D4,_,(hf4.a 0 0 (hf4.a 4 1 (hf4.a 5 2 (hf4.a 8 3 (hf4.a 9 4 (hf4.a 10 5 (hf4.a 93 6 (hf4.a 94 7 (fc rfl fn_))))))))),hD4,hfst4,hR4,hS26,by omega,hL5⟩
       ·skip
        obtain ⟨rfl⟩:k4=0:=by have h:=of_decide_eq_false hlt4; omega
        obtain rfl:=sI hL4
        refine cw_exit rfl ?_
        exact ⟨D3,Bo2,co2,(hf3.a 0 0 (hf3.a 4 1 (hf3.a 5 2 (hf3.a 8 3 (hf3.a 9 4 (hf3.a 10 5 fn_)))))),hD3,hfst3,hR3,by omega,hS22⟩
     rintro f w ⟨D2,Bo2,co2,hf3,hD2,hfst2,hR2,hxv2,hS16⟩
     refine cr ?_
     refine sQ 64 (ym (vi j) rfl (hf3.g 10 5))<|sQ 65 (yP j 1)<|sQ 10 (yg (vi (i64.wrap (j+1)))) (rn ?_)
     obtain rfl:=sI hb2
     exact ⟨k3,Nat.lt_succ_self _,gs2,xv2,ts2,D2,Bo2,co2,_,(hf3.a 0 0 (hf3.a 4 1 (hf3.a 5 2 (hf3.a 8 3 (hf3.a 9 4 (fc rfl fn_)))))),hD2,hfst2,hR2,hxv2,hS16,hL3⟩
    ·skip
     have hb2:=cf' hb2 hc2
     obtain rfl:=sI hb2
     obtain rfl:=sI hL3
     refine cw_exit rfl ?_
     have hb:(chk (x.free.length≤9223372036854775807)<|(forN (CG x.free xv) x.free.length 0 (-1,0)).bind fun (best,most)=>bif decide (best<0) then (some (.nx (gs1,ts1))) else ((forN (CZ x.free best) x.free.length 0 []).bind fun free=>(AK xv best 1).bind fun s1=>(AK xv best 0).bind fun s2=>chk (ts1.length+2≤1099511627776)<|some (.nx (gs1,ts1++[Af.mk s1 free (bif decide (x.target<0) then best else x.target),Af.mk s2 free x.target]))))=some y:=hb
     obtain ⟨hfl,hb⟩:=chk_inv hb
     obtain ⟨⟨best,most⟩,hbm,hb⟩:=bI hb
     have hb:(bif decide (best<0) then (some (.nx (gs1,ts1))) else ((forN (CZ x.free best) x.free.length 0 []).bind fun free=>(AK xv best 1).bind fun s1=>(AK xv best 0).bind fun s2=>chk (ts1.length+2≤1099511627776)<|some (.nx (gs1,ts1++[Af.mk s1 free (bif decide (x.target<0) then best else x.target),Af.mk s2 free x.target]))))=some y:=hb
     have hfm:(⟨Bf,x.free.flatMap encI⟩:Ro)∈R:=hR1 _ (List.mem_of_getElem? hrow)
     have hDt:(D1.take L1).map Prod.snd=ts1:=by rw [List.map_take,hD1,List.take_append_of_le_length (by omega),List.take_of_length_le (by omega)]
     refine cq (cr ?_)
     refine sQ 13 (yg (vi (-1)))<|sQ 14 (yg (vi 0)) (rn (cq (cq (cr ?_))))
     refine sQ 106 (yd (aD b9) 0 0 H7 K8 rfl (hf1.g 9 4))<|sQ 107 (yl (aD b9) 1 [.slice Bv x.vectors.length cv,.slice Bf x.free.length cf,vi x.target] (.slice Bf x.free.length cf) K9 (hS13.c 0))<|sQ 108 (Y_len (B:=Bf) (m:=x.free.length) (c:=cf) K2 rfl rfl)<|sQ 109 (ym (vi 0)) (rn (cw_block ?_))
     refine cw_loop (fun k f w=>∃ (i:Nat) (bs ms:Int),FF f [(0,vi n),(4,pt (aD b) 0),(5,pt (aD b1) 0),(8,.slice Bs L1 cs),(9,pt (aD b9) 0),(13,vi bs),(14,vi ms),(107,.slice Bf x.free.length cf),(108,vi (x.free.length:Int)),(109,vi (i:Int))]∧ST w0 [] w ([sT b9 Bv x.vectors.length cv Bf x.free.length cf x.target,sA b,sB b1 n Bo1 gs1.length co1,sO Bo1 co1 gs1,sK Bs cs (D1.take L1)]++D1.map sRw) R∧i+k=x.free.length∧forN (CG x.free xv) k i (bs,ms)=some (best,most)) x.free.length ⟨0,-1,0,(hf1.a 0 0 (hf1.a 4 1 (hf1.a 5 2 (hf1.a 8 3 (hf1.a 9 4 (fc rfl (fc rfl (fc rfl (fc rfl (fc rfl fn_)))))))))),hS13,Nat.zero_add _,hbm⟩ ?_
     rintro k4 f w ⟨i,bs,ms,hf3,hS22,hik,hL4⟩
     refine cq (cr ?_)
     refine sQ 110 (yL (i:Int) (x.free.length:Int) rfl (hf3.g 109 9) (hf3.g 108 8)) (rn (cq ?_))
     refine cw_cond (b:=(decide ((i:Int)<(x.free.length:Int)))) rfl (fun hlt4=>?_) (fun hlt4=>?_)
     ·skip
      have hlt5:i<x.free.length:=by have h:=of_decide_eq_true hlt4; omega
      obtain ⟨k5,rfl⟩:∃ k2,k4=k2+1:=⟨k4-1,by omega⟩
      obtain ⟨s5,hb5,hL5⟩:=forN_go hL4
      unfold CG at hb5
      obtain ⟨jj,hj,hb5⟩:=bI hb5
      obtain ⟨qa,hqa,hb5⟩:=bI hb5
      obtain ⟨qb,hqb,hb5⟩:=bI hb5
      obtain ⟨kk,hk,hb5⟩:=bI hb5
      refine cw_skip (cq ?_)
      refine cw_mid (fun f w=>FF f [(0,vi n),(4,pt (aD b) 0),(5,pt (aD b1) 0),(8,.slice Bs L1 cs),(9,pt (aD b9) 0),(13,vi s5.1),(14,vi s5.2),(107,.slice Bf x.free.length cf),(108,vi (x.free.length:Int)),(109,vi (i:Int))]∧ST w0 [] w ([sT b9 Bv x.vectors.length cv Bf x.free.length cf x.target,sA b,sB b1 n Bo1 gs1.length co1,sO Bo1 co1 gs1,sK Bs cs (D1.take L1)]++D1.map sRw) R) ?_ ?_
      ·skip
       refine cw_block (cq (cr ?_))
       refine sQ 111 (Y_index (B:=Bf) (m:=x.free.length) (c:=cf) (k:=.i64) (i:=(i:Int)) K2 K0 rfl (hf3.g 107 7) (hf3.g 109 9) (gi_isSome encI_len rfl (hS22.ro _ hfm) hj) (by omega) (by omega))<|sQ 112 (yl Bf ((i:Int).toNat*1) (x.free.flatMap encI) (vi jj) K1 (hS22.ro _ hfm) rfl rfl (gi_at0 encI_len hj rfl))<|sQ 16 (yg (vi jj)) (rn (cq ?_))
       refine ra_start hS22.fn (by kernel_rfl) ?_
       have hS23:=hS22.drew
       refine rq 0 113 (v:=pt (aD b9) 0) rfl hS23 (fun w' hw'=>(yd (aD b9) 0 0 K65 K8 rfl (hf3.g 9 4)))<|rq 1 114 rfl hS23 (fun w' hw'=>(yl (aD b9) 0 [.slice Bv x.vectors.length cv,.slice Bf x.free.length cf,vi x.target] (.slice Bv x.vectors.length cv) K9 (ST.cf hw' (i:=0) rfl)))<|rq 2 115 rfl hS23 (fun w' hw'=>(ym (vi jj)))<|rq 5 118 (v:=pt (aD b9) 0) rfl hS23 (fun w' hw'=>(yd (aD b9) 0 0 K65 K8 rfl (hf3.g 9 4)))<|rq 6 119 rfl hS23 (fun w' hw'=>(yl (aD b9) 0 [.slice Bv x.vectors.length cv,.slice Bf x.free.length cf,vi x.target] (.slice Bv x.vectors.length cv) K9 (ST.cf hw' (i:=0) rfl))) ?_
       refine rq 7 120 rfl hS23 (fun w' hw'=>(ym (vi jj))) ?_
       refine rA [3] ?_
       refine rC 116 3 rfl (yC [.slice Bv x.vectors.length cv,vi jj,vi 0] EL (Fj xv jj 0 Bv cv x.vectors.length _ hxv (hS23.srowIn (x:=Af.mk xv x.free x.target) hrow) hqa)) ?_ aN
       rintro _ w_2 ⟨B7,c7,rfl,hd7⟩
       have hS24:=(hS23.leave0 hd7).sub (List.sublist_append_left _ _)
       refine ⟨hS24,?_⟩
       refine rq 4 117 (v:=vi (qa.length:Int)) rfl hS24 (fun w' hw'=>(Y_len (B:=B7) (m:=qa.length) (c:=c7) K2 rfl rfl)) ?_
       refine rA [8] ?_
       refine rC 121 8 rfl (yC [.slice Bv x.vectors.length cv,vi jj,vi 1] EL (Fj xv jj 1 Bv cv x.vectors.length _ hxv (hS24.srowIn (x:=Af.mk xv x.free x.target) hrow) hqb)) ?_ aN
       rintro _ w_3 ⟨B8,c8,rfl,hd8⟩
       have hS25:=(hS24.leave0 hd8).sub (List.sublist_append_left _ _)
       refine ⟨hS25,?_⟩
       refine rq 9 122 (v:=vi (qb.length:Int)) rfl hS25 (fun w' hw'=>(Y_len (B:=B8) (m:=qb.length) (c:=c8) K2 rfl rfl)) ?_
       refine rA [10] ?_
       refine rC 123 10 rfl (yC [vi (qa.length:Int),vi (qb.length:Int)] Ml (Pi (qa.length:Int) (qb.length:Int) _ (hS25.inn0 [] rfl) hk)) ?_ aN
       rintro _ w_4 ⟨rfl,hd9⟩
       have hS26:=hS25.out00 hd9
       refine ⟨hS26,?_⟩
       refine rq 11 17 rfl hS26 (fun w' hw'=>(yg (vi kk))) ?_
       refine ra_done (by kernel_rfl) ?_
       refine cq (cr ?_)
       refine sQ 124 (ym (vi kk))<|sQ 125 (ym (vi ms) rfl (hf3.g 14 6))<|sQ 126 (Y_gt (k:=.i64) (a:=kk) (b:=ms) rfl rfl rfl) (rn ?_)
       refine cw_cond (b:=(decide (ms<kk))) rfl (fun hkk=>?_) (fun hkk=>?_)
       ·skip
        have hb5:=ct hb5 hkk
        obtain rfl:=sI hb5
        refine cq (cr ?_)
        refine sQ 127 (ym (vi jj))<|sQ 13 (yg (vi jj)) (rn (cr ?_))
        refine sQ 128 (ym (vi kk))<|sQ 14 (yg (vi kk)) (rn ?_)
        exact ⟨(hf3.a 0 0 (hf3.a 4 1 (hf3.a 5 2 (hf3.a 8 3 (hf3.a 9 4 (fc rfl (fc rfl (hf3.a 107 7 (hf3.a 108 8 (hf3.a 109 9 fn_)))))))))),hS26⟩
       ·skip
        have hb5:=cf' hb5 hkk
        obtain rfl:=sI hb5
        refine cw_skip ?_
        exact ⟨(hf3.a 0 0 (hf3.a 4 1 (hf3.a 5 2 (hf3.a 8 3 (hf3.a 9 4 (hf3.a 13 5 (hf3.a 14 6 (hf3.a 107 7 (hf3.a 108 8 (hf3.a 109 9 fn_)))))))))),hS26⟩
      rintro f w ⟨hf4,hS26⟩
      refine cr ?_
      refine sQ 129 (yP (i:Int) 1 rfl (hf4.g 109 9))<|sQ 109 (ym (vi ((i+1:Nat):Int)) rfl (by rw [← wr_succ hlt5 (by omega)]; rfl)) (rn ?_)
      obtain ⟨bs5,ms5⟩:=s5
      exact ⟨k5,Nat.lt_succ_self _,i+1,bs5,ms5,(hf4.a 0 0 (hf4.a 4 1 (hf4.a 5 2 (hf4.a 8 3 (hf4.a 9 4 (hf4.a 13 5 (hf4.a 14 6 (hf4.a 107 7 (hf4.a 108 8 (fc rfl fn_)))))))))),hS26,by omega,hL5⟩
     ·skip
      obtain ⟨rfl⟩:k4=0:=by have h:=of_decide_eq_false hlt4; omega
      obtain ⟨rfl,rfl⟩:bs=best∧ms=most:=by
       have:=sI hL4
       simpa using this
      refine cw_exit rfl ?_
      refine cq (cq (cr ?_))
      refine sQ 130 (ym (vi bs) rfl (hf3.g 13 5))<|sQ 131 (yL bs 0) (rn ?_)
      refine cw_cond (b:=(decide (bs<0))) rfl (fun hb0=>?_) (fun hb0=>?_)
      ·skip
       have hb:=ct hb hb0
       obtain rfl:=sI hb
       refine cw_exit rfl ?_
       refine ⟨K5,Nat.lt_succ_self _,gs1,ts1,D1.take L1,Bo1,co1,Bs,cs,R,(hf3.a 0 0 (hf3.a 4 1 (hf3.a 5 2 (fc ?_ fn_)))),hDt,fun p hp=>hR1 p (List.mem_of_mem_take hp),hrows (pre:=[sA b,sB b1 n Bo1 gs1.length co1,sO Bo1 co1 gs1,sK Bs cs (D1.take L1)]) hS22,hL1⟩
       rw [hts1]
       exact hf3.g 8 3
      ·skip
       have hb:=cf' hb hb0
       refine cw_skip ?_
       obtain ⟨free,hfree,hb⟩:=bI hb
       obtain ⟨s1,hs1,hb⟩:=bI hb
       obtain ⟨s2,hs2,hb⟩:=bI hb
       obtain ⟨hap2,hb⟩:=chk_inv hb
       refine cq (cr ?_)
       refine sQ 18 (yg (.slice none 0 0)) (rn ?_)
       have hS27:ST w0 [] w ([⟨none,3,([]:List Int).flatMap encI,0*1⟩,sT b9 Bv x.vectors.length cv Bf x.free.length cf x.target,sA b,sB b1 n Bo1 gs1.length co1,sO Bo1 co1 gs1,sK Bs cs (D1.take L1)]++D1.map sRw) R:=(hS22.addNil 3).front
       refine cq (cq (cr ?_))
       refine sQ 132 (yd (aD b9) 0 0 H7 K8 rfl (hf3.g 9 4))<|sQ 133 (yl (aD b9) 1 [.slice Bv x.vectors.length cv,.slice Bf x.free.length cf,vi x.target] (.slice Bf x.free.length cf) K9 (hS27.c 1))<|sQ 134 (Y_len (B:=Bf) (m:=x.free.length) (c:=cf) K2 rfl rfl)<|sQ 135 (ym (vi 0)) (rn (cw_block ?_))
       refine cw_loop (fun k f w=>∃ (i:Nat) (fr:List Int) (Bg:Option Addr) (cg:Nat),FF f [(0,vi n),(4,pt (aD b) 0),(5,pt (aD b1) 0),(8,.slice Bs L1 cs),(9,pt (aD b9) 0),(13,vi bs),(18,.slice Bg fr.length cg),(133,.slice Bf x.free.length cf),(134,vi (x.free.length:Int)),(135,vi (i:Int))]∧ST w0 [] w ([⟨Bg,3,fr.flatMap encI,cg*1⟩,sT b9 Bv x.vectors.length cv Bf x.free.length cf x.target,sA b,sB b1 n Bo1 gs1.length co1,sO Bo1 co1 gs1,sK Bs cs (D1.take L1)]++D1.map sRw) R∧i+k=x.free.length∧forN (CZ x.free bs) k i fr=some free) x.free.length ⟨0,[],none,0,(hf3.a 0 0 (hf3.a 4 1 (hf3.a 5 2 (hf3.a 8 3 (hf3.a 9 4 (hf3.a 13 5 (fc rfl (fc rfl (fc rfl (fc rfl fn_)))))))))),hS27,Nat.zero_add _,hfree⟩ ?_
       rintro k4 f w ⟨i,fr,Bg,cg,hf4,hS28,hik4,hL6⟩
       refine cq (cr ?_)
       refine sQ 136 (yL (i:Int) (x.free.length:Int) rfl (hf4.g 135 9) (hf4.g 134 8)) (rn (cq ?_))
       refine cw_cond (b:=(decide ((i:Int)<(x.free.length:Int)))) rfl (fun hlt6=>?_) (fun hlt6=>?_)
       ·skip
        have hlt7:i<x.free.length:=by have h:=of_decide_eq_true hlt6; omega
        obtain ⟨k5,rfl⟩:∃ k2,k4=k2+1:=⟨k4-1,by omega⟩
        obtain ⟨fr2,hb6,hL7⟩:=forN_go hL6
        unfold CZ at hb6
        obtain ⟨jj,hj,hb6⟩:=bI hb6
        refine cw_skip (cq ?_)
        refine cw_mid (fun f w=>∃ (Bg:Option Addr) (cg:Nat),FF f [(0,vi n),(4,pt (aD b) 0),(5,pt (aD b1) 0),(8,.slice Bs L1 cs),(9,pt (aD b9) 0),(13,vi bs),(18,.slice Bg fr2.length cg),(133,.slice Bf x.free.length cf),(134,vi (x.free.length:Int)),(135,vi (i:Int))]∧ST w0 [] w ([⟨Bg,3,fr2.flatMap encI,cg*1⟩,sT b9 Bv x.vectors.length cv Bf x.free.length cf x.target,sA b,sB b1 n Bo1 gs1.length co1,sO Bo1 co1 gs1,sK Bs cs (D1.take L1)]++D1.map sRw) R) ?_ ?_
        ·skip
         refine cw_block (cq (cr ?_))
         refine sQ 137 (Y_index (B:=Bf) (m:=x.free.length) (c:=cf) (k:=.i64) (i:=(i:Int)) K2 K0 rfl (hf4.g 133 7) (hf4.g 135 9) (gi_isSome encI_len rfl (hS28.ro _ hfm) hj) (by omega) (by omega))<|sQ 138 (yl Bf ((i:Int).toNat*1) (x.free.flatMap encI) (vi jj) K1 (hS28.ro _ hfm) rfl rfl (gi_at0 encI_len hj rfl))<|sQ 20 (yg (vi jj)) (rn (cq (cr ?_)))
         refine sQ 139 (ym (vi jj))<|sQ 140 (ym (vi bs) rfl (hf4.g 13 5))<|sQ 141 (Y_ne (k:=.i64) (a:=jj) (b:=bs) rfl rfl rfl) (rn ?_)
         refine cw_cond (b:=(jj != bs)) rfl (fun hjb=>?_) (fun hjb=>?_)
         ·skip
          have hb6:=ct hb6 hjb
          obtain ⟨hap,hb6⟩:=chk_inv hb6
          obtain rfl:=sI hb6
          refine cr ?_
          refine sQ 142 (ym (.slice Bg fr.length cg) rfl (hf4.g 18 6))<|sQ 143 (ym (vi jj)) ?_
          refine sS 144 (Ys_bslice (s:=1) (len:=1) (vs:=[(0,vi jj)]) (cs:=[vi jj]) (zs:=[vi 0]) (m:=1) hS28 K2 K0 K24 rfl (mpc rfl mpn) rfl rfl rfl (by kernel_rfl) (by kernel_rfl) rfl) ?_
          rintro _ w_3 ⟨b2,rfl,hS29⟩
          refine sS 145 (Ys_append (s:=1) (by':=8) (i:=0) (nn:=fr.length) (c:=cg) (k:=1) (len:=(fr++[jj]).length) (B:=Bg) (X:=aD b2) (c2:=1) (cs:=fr.flatMap encI) (xs:=([jj].flatMap encI)) (cs':=((fr++[jj]).flatMap encI)) (m:=cg*1) hS29 K2 K0 K31 K28 rfl (by decide) rfl rfl rfl rfl (fm_lenn (l:=fr) encI_len rfl) rfl (hS29.mcf (mAr _ (.head _))) (fm_lenn (l:=[jj]) encI_len rfl) (fm_one' (enc:=encI) encI_one [jj]) (by have:=hap; omega) (by have:=hap; simp only [maxLen]; omega) (fm_app _ _) (app_len (l:=fr) (l':=[jj]) rfl rfl)) ?_
          rintro _ w_4 ⟨Bg2,cg2,rfl,hS30⟩
          refine sQ 18 (yg (.slice Bg2 (fr++[jj]).length cg2)) (rn ?_)
          exact ⟨Bg2,cg2,(hf4.a 0 0 (hf4.a 4 1 (hf4.a 5 2 (hf4.a 8 3 (hf4.a 9 4 (hf4.a 13 5 (fc rfl (hf4.a 133 7 (hf4.a 134 8 (hf4.a 135 9 fn_)))))))))),hS30.sub (List.sublist_append_left _ _)⟩
         ·skip
          have hb6:=cf' hb6 hjb
          obtain rfl:=sI hb6
          refine cw_skip ?_
          exact ⟨Bg,cg,(hf4.a 0 0 (hf4.a 4 1 (hf4.a 5 2 (hf4.a 8 3 (hf4.a 9 4 (hf4.a 13 5 (hf4.a 18 6 (hf4.a 133 7 (hf4.a 134 8 (hf4.a 135 9 fn_)))))))))),hS28⟩
        rintro f w ⟨Bg,cg,hf5,hS28⟩
        refine cr ?_
        refine sQ 146 (yP (i:Int) 1 rfl (hf5.g 135 9))<|sQ 135 (ym (vi ((i+1:Nat):Int)) rfl (by rw [← wr_succ hlt7 (by omega)]; rfl)) (rn ?_)
        exact ⟨k5,Nat.lt_succ_self _,i+1,fr2,Bg,cg,(hf5.a 0 0 (hf5.a 4 1 (hf5.a 5 2 (hf5.a 8 3 (hf5.a 9 4 (hf5.a 13 5 (hf5.a 18 6 (hf5.a 133 7 (hf5.a 134 8 (fc rfl fn_)))))))))),hS28,by omega,hL7⟩
       ·skip
        obtain ⟨rfl⟩:k4=0:=by have h:=of_decide_eq_false hlt6; omega
        obtain rfl:=sI hL6
        refine cw_exit rfl ?_
        have hS31:ST w0 [] w ([sT b9 Bv x.vectors.length cv Bf x.free.length cf x.target,sA b,sB b1 n Bo1 gs1.length co1,sO Bo1 co1 gs1,sK Bs cs (D1.take L1)]++D1.map sRw) (⟨Bg,fr.flatMap encI⟩::R):=hS28.freeze (i:=0) rfl
        refine cq (cr ?_)
        refine sQ 147 (yd (aD b9) 0 0 K66 K0 rfl (hf4.g 9 4))<|sQ 148 (yl (aD b9) 2 [.slice Bv x.vectors.length cv,.slice Bf x.free.length cf,vi x.target] (vi x.target) K1 (hS31.c 0))<|sQ 21 (yg (vi x.target)) (rn (cq ?_))
        refine cw_mid (fun f w=>FF f [(0,vi n),(4,pt (aD b) 0),(5,pt (aD b1) 0),(8,.slice Bs L1 cs),(9,pt (aD b9) 0),(13,vi bs),(18,.slice Bg fr.length cg),(21,vi (bif decide (x.target<0) then bs else x.target))]∧ST w0 [] w ([sT b9 Bv x.vectors.length cv Bf x.free.length cf x.target,sA b,sB b1 n Bo1 gs1.length co1,sO Bo1 co1 gs1,sK Bs cs (D1.take L1)]++D1.map sRw) (⟨Bg,fr.flatMap encI⟩::R)) ?_ ?_
        ·skip
         refine cq (cr ?_)
         refine sQ 149 (ym (vi x.target))<|sQ 150 (yL x.target 0) (rn ?_)
         refine cw_cond (b:=(decide (x.target<0))) rfl (fun ht0=>?_) (fun ht0=>?_)
         ·skip
          refine cr ?_
          refine sQ 151 (ym (vi bs) rfl (hf4.g 13 5))<|sQ 21 (yg (vi bs)) (rn ?_)
          rw [ht0]
          exact ⟨(hf4.a 0 0 (hf4.a 4 1 (hf4.a 5 2 (hf4.a 8 3 (hf4.a 9 4 (hf4.a 13 5 (hf4.a 18 6 (fc rfl fn_)))))))),hS31⟩
         ·skip
          refine cw_skip ?_
          rw [ht0]
          exact ⟨(hf4.a 0 0 (hf4.a 4 1 (hf4.a 5 2 (hf4.a 8 3 (hf4.a 9 4 (hf4.a 13 5 (hf4.a 18 6 (fc rfl fn_)))))))),hS31⟩
        rintro f w ⟨hf5,hS32⟩
        generalize (bif decide (x.target<0) then bs else x.target)=tg at *
        have hlt2:(D1.take L1).length=L1:=by rw [List.length_take,Nat.min_eq_left (by omega)]
        have hcap1:(D1.take L1).length≤cs:=hS32.lencap (i:=4) rfl (fm_lenn (l:=D1.take L1) C9 rfl) rfl rfl
        refine ra_start (fun w'=>ST w0 [] w' [sT b9 Bv x.vectors.length cv Bf x.free.length cf x.target] (⟨Bg,fr.flatMap encI⟩::R)) (by kernel_rfl) ?_
        have hS33:=hS32.drew
        have hS33s:ST w0 [] _ [sT b9 Bv x.vectors.length cv Bf x.free.length cf x.target] (⟨Bg,fr.flatMap encI⟩::R):=hS33.sel [0] rfl rfl
        refine rq 0 152 rfl hS33s (fun w' hw'=>(ym (.slice Bs L1 cs) rfl (hf5.g 8 3)))<|rq 1 153 (v:=pt (aD b9) 0) rfl hS33s (fun w' hw'=>(yd (aD b9) 0 0 K65 K8 rfl (hf5.g 9 4)))<|rq 2 154 rfl hS33s (fun w' hw'=>(yl (aD b9) 0 [.slice Bv x.vectors.length cv,.slice Bf x.free.length cf,vi x.target] (.slice Bv x.vectors.length cv) K9 (ST.cf hw' (i:=0) rfl)))<|rq 3 155 rfl hS33s (fun w' hw'=>(ym (vi bs) rfl (hf5.g 13 5)))<|rq 5 157 rfl hS33s (fun w' hw'=>(ym (.slice Bg fr.length cg) rfl (hf5.g 18 6))) ?_
        refine rq 6 158 rfl hS33s (fun w' hw'=>(ym (vi tg) rfl (hf5.g 21 7)))<|rq 8 160 (v:=pt (aD b9) 0) rfl hS33s (fun w' hw'=>(yd (aD b9) 0 0 K65 K8 rfl (hf5.g 9 4)))<|rq 9 161 rfl hS33s (fun w' hw'=>(yl (aD b9) 0 [.slice Bv x.vectors.length cv,.slice Bf x.free.length cf,vi x.target] (.slice Bv x.vectors.length cv) K9 (ST.cf hw' (i:=0) rfl)))<|rq 10 162 rfl hS33s (fun w' hw'=>(ym (vi bs) rfl (hf5.g 13 5)))<|rq 12 164 rfl hS33s (fun w' hw'=>(ym (.slice Bg fr.length cg) rfl (hf5.g 18 6))) ?_
        refine rq 13 165 (v:=pt (aD b9) 2) rfl hS33s (fun w' hw'=>(yd (aD b9) 0 0 K66 K0 rfl (hf5.g 9 4)))<|rq 14 166 rfl hS33s (fun w' hw'=>(yl (aD b9) 2 [.slice Bv x.vectors.length cv,.slice Bf x.free.length cf,vi x.target] (vi x.target) K1 (ST.cf hw' (i:=0) rfl))) ?_
        refine rA [4] ?_
        refine rC 156 4 rfl (yC [.slice Bv x.vectors.length cv,vi bs,vi 1] EL (Fj xv bs 1 Bv cv x.vectors.length _ hxv (hS33.srowIn (x:=Af.mk xv x.free x.target) hrow) hs1)) ?_ aN
        rintro _ w_2 ⟨B1,c1,rfl,hd7⟩
        have hS34:=hS33.leave0 hd7
        refine ⟨hS34.sel [0] rfl rfl,?_⟩
        refine rq 7 159 (v:=.agg #[.slice B1 s1.length c1,.slice Bg fr.length cg,vi tg]) rfl (hS34.sel [0] rfl rfl) (fun w' hw'=>(Y_buildS (zs:=[.slice none 0 0,.slice none 0 0,vi 0]) (vs:=[(0,.slice B1 s1.length c1),(1,.slice Bg fr.length cg),(2,vi tg)]) (cs:=[.slice B1 s1.length c1,.slice Bg fr.length cg,vi tg]) K97 K73 rfl (mpc rfl (mpc rfl (mpc rfl mpn))) rfl)) ?_
        refine rA [11] ?_
        refine rC 163 11 rfl (yC [.slice Bv x.vectors.length cv,vi bs,vi 0] EL (Fj xv bs 0 Bv cv x.vectors.length _ hxv ((hS34.sub (List.sublist_append_left _ _)).srowIn (x:=Af.mk xv x.free x.target) hrow) hs2)) ?_ aN
        rintro _ w_3 ⟨B2,c2,rfl,hd8⟩
        have hS35:=hS34.leave0 hd8
        have hS35b:=hS35.sel [0] rfl rfl
        refine ⟨hS35b,?_⟩
        refine rq 15 167 (v:=.agg #[.slice B2 s2.length c2,.slice Bg fr.length cg,vi x.target]) rfl hS35b (fun w' hw'=>(Y_buildS (zs:=[.slice none 0 0,.slice none 0 0,vi 0]) (vs:=[(0,.slice B2 s2.length c2),(1,.slice Bg fr.length cg),(2,vi x.target)]) (cs:=[.slice B2 s2.length c2,.slice Bg fr.length cg,vi x.target]) K97 K73 rfl (mpc rfl (mpc rfl (mpc rfl mpn))) rfl)) ?_
        refine rA [16] ?_
        refine rS 168 16 rfl (Ys_bslice (s:=3) (len:=2) (vs:=[(0,.agg #[.slice B1 s1.length c1,.slice Bg fr.length cg,vi tg]),(1,.agg #[.slice B2 s2.length c2,.slice Bg fr.length cg,vi x.target])]) (cs:=[.slice B1 s1.length c1,.slice Bg fr.length cg,vi tg,.slice B2 s2.length c2,.slice Bg fr.length cg,vi x.target]) (zs:=[.slice none 0 0,.slice none 0 0,vi 0,.slice none 0 0,.slice none 0 0,vi 0]) (m:=6) hS35 K57 K58 Id rfl (mpc rfl (mpc rfl mpn)) rfl rfl rfl (by kernel_rfl) (by kernel_rfl) rfl) ?_ aN
        rintro _ w_4 ⟨b2,rfl,hS36⟩
        refine ⟨hS36.sel [0] rfl rfl,?_⟩
        refine rA [17] ?_
        refine rS 169 17 rfl (Ys_append (s:=3) (by':=56) (i:=4) (nn:=L1) (c:=cs) (k:=2) (len:=(D1.take L1++[(((B1,c1),(Bg,cg)),Af.mk s1 fr tg),(((B2,c2),(Bg,cg)),Af.mk s2 fr x.target)]).length) (B:=Bs) (X:=aD b2) (c2:=2) (cs:=(D1.take L1).flatMap AF) (xs:=[(((B1,c1),(Bg,cg)),Af.mk s1 fr tg),(((B2,c2),(Bg,cg)),Af.mk s2 fr x.target)].flatMap AF) (cs':=(D1.take L1++[(((B1,c1),(Bg,cg)),Af.mk s1 fr tg),(((B2,c2),(Bg,cg)),Af.mk s2 fr x.target)]).flatMap AF) (m:=cs*3) hS36 K57 K58 OW K73 rfl (by decide) rfl rfl rfl rfl (fm_lenn (l:=D1.take L1) C9 hlt2) rfl (hS36.mcf (mAr _ (.head _))) rfl rfl (by have:=hap2; omega) (by have:=hap2; simp only [maxLen]; omega) (fm_app _ _) (by rw [List.length_append,hlt2]; rfl)) ?_ aN
        rintro _ w_5 ⟨Bs2,cs2,rfl,hS37⟩
        refine ⟨hS37.sel [0] rfl rfl,?_⟩
        refine rq 18 8 rfl (hS37.sel [0] rfl rfl) (fun w' hw'=>(yg (.slice Bs2 (D1.take L1++[(((B1,c1),(Bg,cg)),Af.mk s1 fr tg),(((B2,c2),(Bg,cg)),Af.mk s2 fr x.target)]).length cs2))) ?_
        refine ra_done (by kernel_rfl) ?_
        obtain rfl:=sI hb
        have hS38:ST w0 [] w_5 ((([sT b9 Bv x.vectors.length cv Bf x.free.length cf x.target,sA b,sB b1 n Bo1 gs1.length co1,sO Bo1 co1 gs1,sK Bs2 cs2 (D1.take L1++[(((B1,c1),(Bg,cg)),Af.mk s1 fr tg),(((B2,c2),(Bg,cg)),Af.mk s2 fr x.target)])]++D1.map sRw)++[⟨B1,3,s1.flatMap encI,c1*1⟩])++[⟨B2,3,s2.flatMap encI,c2*1⟩]) (⟨Bg,fr.flatMap encI⟩::R):=hS37.sub (List.sublist_append_left _ _)
        have hS39:ST w0 [] w_5 ([sA b,sB b1 n Bo1 gs1.length co1,sO Bo1 co1 gs1,sK Bs2 cs2 (D1.take L1++[(((B1,c1),(Bg,cg)),Af.mk s1 fr tg),(((B2,c2),(Bg,cg)),Af.mk s2 fr x.target)])]++(D1.take L1++[(((B1,c1),(Bg,cg)),Af.mk s1 fr tg),(((B2,c2),(Bg,cg)),Af.mk s2 fr x.target)]).map sRw) (⟨Bg,fr.flatMap encI⟩::R):=by
         rw [List.append_assoc,List.append_assoc] at hS38
         rw [List.map_append]
         refine hS38.tail.sub (List.Sublist.append (List.Sublist.refl _) (List.Sublist.append ?_ (List.Sublist.refl _)))
         rw [List.map_take]
         exact List.take_sublist _ _
        refine ⟨K5,Nat.lt_succ_self _,gs1,_,(D1.take L1++[(((B1,c1),(Bg,cg)),Af.mk s1 fr tg),(((B2,c2),(Bg,cg)),Af.mk s2 fr x.target)]),Bo1,co1,Bs2,cs2,_,(hf5.a 0 0 (hf5.a 4 1 (hf5.a 5 2 (fc ?_ fn_)))),?_,fun p hp=>?_,hS39,hL1⟩
        ·show Value.slice Bs2 _ cs2=Value.slice Bs2 _ cs2
         rw [List.length_append,List.length_append,hlt2,hts1]
         rfl
        ·rw [List.map_append,hDt]
         rfl
        ·rcases List.mem_append.1 hp with hp | hp
         ·exact .tail _ (hR1 p (List.mem_of_mem_take hp))
         ·rcases List.mem_cons.1 hp with rfl | hp
          ·exact .head _
          ·rcases List.mem_cons.1 hp with rfl | hp
           ·exact .head _
           ·cases hp
  ·skip
   have hb:=cf' hb hlt
   obtain rfl:=sI hb
   obtain rfl:=sI hL1
   refine cw_exit rfl ?_
   refine cq (cr ?_)
   refine sQ 170 (yb (aD b1) 0 [vi n,.slice Bo gs.length co] K12 K7 (hS9.c 1) rfl (hf.g 5 2)) ?_
   refine s0 (yT 0 2 (aD b) 32 (.agg #[vi n,.slice Bo gs.length co]) [vi n,.slice Bo gs.length co] 0 hS9 K7 rfl (hf.g 4 1)) ?_
   rintro _ w_3 ⟨rfl,hS10⟩
   refine rn (ct_ ?_)
   obtain rfl:=sI hF
   exact ret1 Tryz.results29 (v1:=.agg #[vi n,.slice Bo gs.length co]) (resAt_cellA (B:=aD b) (i:=0) (cs:=[vi n,.slice Bo gs.length co]) (vs:=[vi n,.slice Bo gs.length co]) (hf.g 4 1) K12 K7 (hS10.c 0) rfl rfl) ⟨Bo,co,rfl,((hS10.sub (L':=[sO Bo co gs]) (List.Sublist.cons _ (List.Sublist.cons _ (List.Sublist.cons_cons _ (List.nil_sublist _))))).sT [])⟩

theorem L5 (n:Int) (g:Aa)  (w0:World)  (hS:ST w0 [] w0 [] []) {r_:Bool} (hF:DJ n g=some r_) :
  CV Tryz.prog 111 #[vi n,.agg #[vi g.Kind,vi g.A,vi g.B]] w0 (fun v w'=>v=.bool r_∧ST w0 [] w' [] []):=by
 unfold DJ at hF
 refine cv_of_cw 55 Tryz.func111 rfl Tryz.ntmps111 rfl ?_
 refine cq (cr ?_)
 let V0:List Value:=[vi g.Kind,vi g.A,vi g.B]
 refine sS 3 (yB 59 (.agg V0.toArray) V0 3 hS) ?_
 rintro _ w_ ⟨b,rfl,hS1⟩
 refine sQ 4 (yg (.bool false)) (rn (cq (cw_block (cq (cr ?_)))))
 refine sQ 6 (yd (aD b) 0 0 K45 K0)<|sQ 7 (yl (aD b) 0 V0 (vi g.Kind) K1 (hS1.c 0)) ?_
 obtain ⟨r_1,hc,hF⟩:=bI hF
 refine sc 8 rfl rfl (yC [vi g.Kind,vi 1,vi 8] K48 (AM g.Kind 1 8 _  (hS1.inn0 [] rfl) hc)) ?_
 rintro _ w_1 ⟨rfl,hd⟩
 have hS2:=hS1.out00 hd
 refine sQ 5 (yg (.bool r_1)) (rn ?_)
 refine cw_cond (b:=r_1) rfl (fun hb=>?_) (fun hb=>?_)
 ·skip
  have hF1:=ct hF hb
  refine cq (cr ?_)
  refine sQ 9 (yd (aD b) 0 0 K29 K0)<|sQ 10 (yl (aD b) 1 V0 (vi g.A) K1 (hS2.c 0))<|sQ 11 (ym (vi n))<|sQ 12 (yM n 1) ?_
  obtain ⟨r_2,hc1,hF1⟩:=bI hF1
  refine sc 13 rfl rfl (yC [vi g.A,vi 0,vi (i64.wrap (n-1))] K48 (AM g.A 0 (i64.wrap (n-1)) _  (hS2.inn0 [] rfl) hc1)) ?_
  rintro _ w_2 ⟨rfl,hd1⟩
  have hS3:=hS2.out00 hd1
  refine sQ 14 (ym (.bool r_2)) ?_
  refine sgq 15 (B:=r_2) (v:=pt (aD b) 2) rfl rfl (uT_ 14) (fun hg=>(yd (aD b) 0 0 K27 K0)) ?_
  refine sgq 16 (B:=r_2) rfl rfl (uT_ 14) (fun hg1=>(yl (aD b) 2 V0 (vi g.B) K1 (hS3.c 0) rfl (gv_of (v:=pt (aD b) 2) hg1))) ?_
  refine sgq 17 (B:=r_2) rfl rfl (uT_ 14) (fun hg2=>(yE g.B 0 rfl (gv_of (v:=vi g.B) hg2))) ?_
  refine sQ 18 (Y_and (b:=r_2) (z:=(g.B==0)) rfl rfl rfl rfl)<|sQ 4 (yg (.bool (r_2&&(g.B==0)))) (rn (ct_ ?_))
  obtain rfl:=sI hF1
  exact ret1 Tryz.results111 (v1:=.bool (r_2&&(g.B==0))) (resAt_tmp rfl) ⟨rfl,(hS3.sN [])⟩
 ·skip
  have hF2:=cf' hF hb
  refine cq (cr ?_)
  refine sQ 20 (yd (aD b) 0 0 K45 K0)<|sQ 21 (yl (aD b) 0 V0 (vi g.Kind) K1 (hS2.c 0)) ?_
  obtain ⟨r_3,hc2,hF2⟩:=bI hF2
  refine sc 22 rfl rfl (yC [vi g.Kind,vi 9,vi 11] K48 (AM g.Kind 9 11 _  (hS2.inn0 [] rfl) hc2)) ?_
  rintro _ w_3 ⟨rfl,hd2⟩
  have hS4:=hS2.out00 hd2
  refine sQ 19 (yg (.bool r_3)) (rn ?_)
  refine cw_cond (b:=r_3) rfl (fun hb1=>?_) (fun hb1=>?_)
  ·skip
   have hF3:=ct hF2 hb1
   refine cq (cr ?_)
   refine sQ 23 (yd (aD b) 0 0 K29 K0)<|sQ 24 (yl (aD b) 1 V0 (vi g.A) K1 (hS4.c 0))<|sQ 25 (ym (vi n))<|sQ 26 (yM n 1) ?_
   obtain ⟨r_4,hc3,hF3⟩:=bI hF3
   refine sc 27 rfl rfl (yC [vi g.A,vi 0,vi (i64.wrap (n-1))] K48 (AM g.A 0 (i64.wrap (n-1)) _  (hS4.inn0 [] rfl) hc3)) ?_
   rintro _ w_4 ⟨rfl,hd3⟩
   have hS5:=hS4.out00 hd3
   refine sQ 28 (ym (.bool r_4)) ?_
   refine sgq 29 (B:=r_4) (v:=pt (aD b) 2) rfl rfl (uT_ 28) (fun hg3=>(yd (aD b) 0 0 K27 K0)) ?_
   refine sgq 30 (B:=r_4) rfl rfl (uT_ 28) (fun hg4=>(yl (aD b) 2 V0 (vi g.B) K1 (hS5.c 0) rfl (gv_of (v:=pt (aD b) 2) hg4))) ?_
   refine sgq 31 (B:=r_4) rfl rfl (uT_ 28) (fun hg5=>(ym (vi n))) ?_
   refine sgq 32 (B:=r_4) rfl rfl (uT_ 28) (fun hg6=>(yM n 1 rfl (gv_of (v:=vi n) hg6))) ?_
   obtain ⟨r_5,hc4,hF3⟩:=bI hF3
   refine sgc 33 (B:=r_4) (v:=.bool r_5) (F:=hS5.fn) rfl rfl (uT_ 28) hS5 (fun hg7=>(yC [vi g.B,vi 0,vi (i64.wrap (n-1))] K48 (CV.mono (AM g.B 0 (i64.wrap (n-1)) _  (hS5.inn0 [] rfl) (gb_inv hc4 hg7)) (by rintro _ _ ⟨rfl,h⟩; exact ⟨rfl,hS5.out00 h⟩)) rfl (mc (gv_of (v:=vi g.B) hg7) (mc rfl (mc (gv_of (v:=vi (i64.wrap (n-1))) hg7) mn))))) ?_
   rintro w_5 hS6
   refine sQ 34 (Y_and (b:=r_4) (z:=r_5) rfl rfl rfl rfl)<|sQ 35 (ym (.bool (r_4&&r_5))) ?_
   refine sgq 36 (B:=(r_4&&r_5)) (v:=pt (aD b) 1) rfl rfl (uT_ 35) (fun hg8=>(yd (aD b) 0 0 K29 K0)) ?_
   refine sgq 37 (B:=(r_4&&r_5)) rfl rfl (uT_ 35) (fun hg9=>(yl (aD b) 1 V0 (vi g.A) K1 (hS6.c 0) rfl (gv_of (v:=pt (aD b) 1) hg9))) ?_
   refine sgq 38 (B:=(r_4&&r_5)) (v:=pt (aD b) 2) rfl rfl (uT_ 35) (fun hg10=>(yd (aD b) 0 0 K27 K0)) ?_
   refine sgq 39 (B:=(r_4&&r_5)) rfl rfl (uT_ 35) (fun hg11=>(yl (aD b) 2 V0 (vi g.B) K1 (hS6.c 0) rfl (gv_of (v:=pt (aD b) 2) hg11))) ?_
   refine sgq 40 (B:=(r_4&&r_5)) rfl rfl (uT_ 35) (fun hg12=>(Y_ne (k:=.i64) (a:=g.A) (b:=g.B) rfl (gv_of (v:=vi g.A) hg12) (gv_of (v:=vi g.B) hg12))) ?_
   refine sQ 41 (Y_and (b:=(r_4&&r_5)) (z:=(g.A != g.B)) rfl rfl rfl rfl)<|sQ 4 (yg (.bool ((r_4&&r_5)&&(g.A != g.B)))) (rn (ct_ ?_))
   obtain rfl:=sI hF3
   exact ret1 Tryz.results111 (v1:=.bool ((r_4&&r_5)&&(g.A != g.B))) (resAt_tmp rfl) ⟨rfl,(hS6.sN [])⟩
  ·skip
   have hF4:=cf' hF2 hb1
   refine cw_skip (cq (cr ?_))
   refine sQ 42 (yd (aD b) 0 0 K45 K0)<|sQ 43 (yl (aD b) 0 V0 (vi g.Kind) K1 (hS4.c 0))<|sQ 44 (yE g.Kind 12)<|sQ 45 (ym (.bool (g.Kind==12))) ?_
   refine sgq 46 (B:=(g.Kind==12)) (v:=pt (aD b) 1) rfl rfl (uT_ 45) (fun hg13=>(yd (aD b) 0 0 K29 K0)) ?_
   refine sgq 47 (B:=(g.Kind==12)) rfl rfl (uT_ 45) (fun hg14=>(yl (aD b) 1 V0 (vi g.A) K1 (hS4.c 0) rfl (gv_of (v:=pt (aD b) 1) hg14))) ?_
   refine sgq 48 (B:=(g.Kind==12)) rfl rfl (uT_ 45) (fun hg15=>(yE g.A 0 rfl (gv_of (v:=vi g.A) hg15))) ?_
   refine sQ 49 (Y_and (b:=(g.Kind==12)) (z:=(g.A==0)) rfl rfl rfl rfl)<|sQ 50 (ym (.bool ((g.Kind==12)&&(g.A==0)))) ?_
   refine sgq 51 (B:=((g.Kind==12)&&(g.A==0))) (v:=pt (aD b) 2) rfl rfl (uT_ 50) (fun hg16=>(yd (aD b) 0 0 K27 K0)) ?_
   refine sgq 52 (B:=((g.Kind==12)&&(g.A==0))) rfl rfl (uT_ 50) (fun hg17=>(yl (aD b) 2 V0 (vi g.B) K1 (hS4.c 0) rfl (gv_of (v:=pt (aD b) 2) hg17))) ?_
   refine sgq 53 (B:=((g.Kind==12)&&(g.A==0))) rfl rfl (uT_ 50) (fun hg18=>(yE g.B 0 rfl (gv_of (v:=vi g.B) hg18))) ?_
   refine sQ 54 (Y_and (b:=((g.Kind==12)&&(g.A==0))) (z:=(g.B==0)) rfl rfl rfl rfl)<|sQ 4 (yg (.bool (((g.Kind==12)&&(g.A==0))&&(g.B==0)))) (rn (ct_ ?_))
   obtain rfl:=sI hF4
   exact ret1 Tryz.results111 (v1:=.bool (((g.Kind==12)&&(g.A==0))&&(g.B==0))) (resAt_tmp rfl) ⟨rfl,(hS4.sN [])⟩

theorem HD (c:Ae) (B:Option Addr) (c1 n:Nat) (w0:World) (hn:c.Gates.length=n) (hS:ST w0 [] w0 [] [⟨B,(c.Gates.flatMap eN0)⟩]) {r_:Bool} (hF:BX c=some r_) :
  CV Tryz.prog 89 #[.agg #[vi c.Qubits,.slice B n c1]] w0 (fun v w'=>v=.bool r_∧ST w0 [] w' [] []):=by
 subst hn
 unfold BX at hF
 refine cv_of_cw 28 Tryz.func89 rfl Tryz.ntmps89 rfl ?_
 refine cq (cr ?_)
 let V0:List Value:=[vi c.Qubits,.slice B c.Gates.length c1]
 refine sS 1 (yB 32 (.agg V0.toArray) V0 2 hS) ?_
 rintro _ w_ ⟨b,rfl,hS1⟩
 refine sQ 2 (yg (.bool false)) (rn (cq (cq (cr ?_))))
 refine sQ 5 (yd (aD b) 0 0 K36 K0)<|sQ 6 (yl (aD b) 0 V0 (vi c.Qubits) K1 (hS1.c 0)) ?_
 obtain ⟨r_1,hc,hF⟩:=bI hF
 refine sc 7 rfl rfl (yC [vi c.Qubits,vi 1,vi 5] K48 (AM c.Qubits 1 5 _  (hS1.inn0 [] rfl) hc)) ?_
 rintro _ w_1 ⟨rfl,hd⟩
 have hS2:=hS1.out00 hd
 refine sQ 8 (Y_not (p:=r_1) rfl rfl)<|sQ 9 (ym (.bool (!r_1))) ?_
 refine sgq 10 (B:=(!(!r_1))) (v:=pt (aD b) 1) rfl rfl (uF_ 9) (fun hg=>(yd (aD b) 0 0 K17 K11)) ?_
 refine sgq 11 (B:=(!(!r_1))) rfl rfl (uF_ 9) (fun hg1=>(yl (aD b) 1 V0 (.slice B c.Gates.length c1) K18 (hS2.c 0) rfl (gv_of (v:=pt (aD b) 1) hg1))) ?_
 refine sgq 12 (B:=(!(!r_1))) (v:=vi (c.Gates.length:Int)) rfl rfl (uF_ 9) (fun hg2=>(Y_len (B:=B) (m:=c.Gates.length) (c:=c1) K4 rfl (gv_of (v:=.slice B c.Gates.length c1) hg2))) ?_
 refine sgq 13 (B:=(!(!r_1))) rfl rfl (uF_ 9) (fun hg3=>(Y_gt (k:=.i64) (a:=(c.Gates.length:Int)) (b:=400) rfl (gv_of (v:=vi (c.Gates.length:Int)) hg3) rfl)) ?_
 refine sQ 14 (Y_or (b:=(!r_1)) (z:=(decide (400<(c.Gates.length:Int)))) rfl rfl rfl rfl) (rn ?_)
 refine cw_cond (b:=((!r_1)||(decide (400<(c.Gates.length:Int))))) rfl (fun hb=>?_) (fun hb=>?_)
 ·skip
  have hF1:=ct hF hb
  refine cq (cr ?_)
  refine sQ 2 (yg (.bool false)) (rn (ct_ ?_))
  obtain rfl:=sI hF1
  exact ret1 Tryz.results89 (v1:=.bool false) (resAt_tmp rfl) ⟨rfl,(hS2.sN [])⟩
 ·skip
  have hF2:=cf' hF hb
  refine cw_skip (cq (cq (cr ?_)))
  refine sQ 15 (yd (aD b) 0 0 K17 K11)<|sQ 16 (yl (aD b) 1 V0 (.slice B c.Gates.length c1) K18 (hS2.c 0))<|sQ 17 (Y_len (B:=B) (m:=c.Gates.length) (c:=c1) K4 rfl rfl)<|sQ 18 (ym (vi 0)) (rn ?_)
  obtain ⟨hN,hF2⟩:=chk_inv hF2
  obtain ⟨z,hz,hF3⟩:=bI hF2
  refine cw_block ?_
  refine cw_loop (fun k f w=>∃ (i:Nat),FF f [(1,pt (aD b) 0),(16,.slice B c.Gates.length c1),(17,vi (c.Gates.length:Int)),(18,vi (i:Int))]∧ST w0 [] w [⟨aD b,32,V0,2⟩] [⟨B,(c.Gates.flatMap eN0)⟩]∧i+k=c.Gates.length∧forX (Fz c) k i ()=some z) c.Gates.length ⟨0,(fc rfl (fc rfl (fc rfl (fc rfl fn_)))),(hS2.sel [0] rfl rfl),Nat.zero_add _,hz⟩ ?_
  rintro k_ f w ⟨i,hf,hS3,hik,hL⟩
  refine cq (cr ?_)
  refine sQ 19 (yL (i:Int) (c.Gates.length:Int) rfl (hf.g 18 3) (hf.g 17 2)) (rn (cq ?_))
  refine cw_cond (b:=(decide ((i:Int)<(c.Gates.length:Int)))) rfl (fun hlt=>?_) (fun hlt=>?_)
  ·skip
   have hlt1:i<c.Gates.length:=by have h:=of_decide_eq_true hlt; omega
   obtain ⟨K5,rfl⟩:∃ k2,k_=k2+1:=⟨k_-1,by omega⟩
   obtain ⟨y,hb1,hL1⟩:=forX_go hL
   unfold Fz at hb1
   refine cw_skip (cq (cw_block (cq (cr ?_))))
   obtain ⟨x,hx,hb1⟩:=bI hb1
   let V1:List Value:=[vi x.Kind,vi x.A,vi x.B]
   refine sQ 20 (yI B (i:Int) K4 K3 (gi_isSome eN2 rfl (hS3.rf (i:=0) rfl) hx) (getI_nn hx) (getI_ltI hx rfl) rfl (hf.g 16 1) (hf.g 18 3))<|sQ 21 (ya B ((i:Int).toNat*3) (c.Gates.flatMap eN0) V1 K30 K3 (hS3.rf (i:=0) rfl) rfl rfl (eN2 x) (gi_seg eN2 hx)) ?_
   refine sS 4 (yN [vi 0,vi 0,vi 0] 3 hS3 K10) ?_
   rintro _ w_2 ⟨b1,rfl,hS4⟩
   refine s0 (yT 1 3 (aD b1) 59 (.agg V1.toArray) V1 0 hS4 K3) ?_
   rintro _ w_3 ⟨rfl,hS5⟩
   refine rn (cq (cr ?_))
   refine sQ 22 (yd (aD b) 0 0 K36 K0 rfl (hf.g 1 0))<|sQ 23 (yl (aD b) 0 V0 (vi c.Qubits) K1 (hS5.c 0))<|sQ 24 (yb (aD b1) 0 V1 K30 K3 (hS5.c 1)) ?_
   obtain ⟨r_2,hc1,hb1⟩:=bI hb1
   refine sc 25 rfl rfl (yC [vi c.Qubits,.agg V1.toArray] MZ (L5 c.Qubits x _  (hS5.inn0 [] rfl) hc1)) ?_
   rintro _ w_4 ⟨rfl,hd1⟩
   have hS6:=hS5.out00 hd1
   refine sQ 26 (Y_not (p:=r_2) rfl rfl) (rn ?_)
   refine cw_cond (b:=(!r_2)) rfl (fun hb2=>?_) (fun hb2=>?_)
   ·skip
    have hF4:=ct hb1 hb2
    refine cq (cr ?_)
    refine sQ 2 (yg (.bool false)) (rn (ct_ ?_))
    obtain rfl:=sI hF4
    obtain rfl:=sI hL1
    obtain rfl:=sI hF3
    exact ret1 Tryz.results89 (v1:=.bool false) (resAt_tmp rfl) ⟨rfl,(hS6.sN [])⟩
   ·skip
    have hF5:=cf' hb1 hb2
    refine cw_skip (cr ?_)
    refine sQ 27 (yP (i:Int) 1 rfl (hf.g 18 3))<|sQ 18 (ym (vi (i64.wrap ((i:Int)+1)))) (rn ?_)
    obtain rfl:=sI hF5
    exact ⟨K5,Nat.lt_succ_self _,i+1,(hf.a 1 0 (hf.a 16 1 (hf.a 17 2 (fc (congrArg (Value.int .i64) (wr_succ hlt1 hN)) fn_)))),(hS6.sel [0] rfl rfl),(by omega),hL1⟩
  ·skip
   obtain rfl:k_=0:=by have h:=of_decide_eq_false hlt; omega
   refine cw_exit rfl ?_
   obtain rfl:=sI hL
   refine cq (cr ?_)
   refine sQ 2 (yg (.bool true)) (rn (ct_ ?_))
   obtain rfl:=sI hF3
   exact ret1 Tryz.results89 (v1:=.bool true) (resAt_tmp rfl) ⟨rfl,(hS3.sN [])⟩

theorem NN (c:Ae) (B:Option Addr) (c1 n:Nat) (w0:World) (hn:c.Gates.length=n) (hS:ST w0 [] w0 [] [⟨B,(c.Gates.flatMap eN0)⟩]) {r_:Bool} (hF:EH c=some r_) :
  CV Tryz.prog 81 #[.agg #[vi c.Qubits,.slice B n c1]] w0 (fun v w'=>v=.bool r_∧ST w0 [] w' [] []):=by
 subst hn
 unfold EH at hF
 refine cv_of_cw 5 Tryz.func81 rfl Tryz.ntmps81 rfl ?_
 refine cq (cr ?_)
 let V0:List Value:=[vi c.Qubits,.slice B c.Gates.length c1]
 refine sS 1 (yB 32 (.agg V0.toArray) V0 2 hS) ?_
 rintro _ w_ ⟨b,rfl,hS1⟩
 refine sQ 2 (yg (.bool false)) (rn (cq (cr ?_)))
 refine sQ 3 (yb (aD b) 0 V0 K12 K7 (hS1.c 0)) ?_
 obtain ⟨r_1,hc,hF⟩:=bI hF
 refine sc 4 rfl rfl (yC [.agg V0.toArray] J4 (HD c B c1 c.Gates.length _ rfl (hS1.inn0 [(true,0)] rfl) hc)) ?_
 rintro _ w_1 ⟨rfl,hd⟩
 have hS2:=hS1.out00 hd
 refine sQ 2 (yg (.bool r_1)) (rn (ct_ ?_))
 obtain rfl:=sI hF
 exact ret1 Tryz.results81 (v1:=.bool r_1) (resAt_tmp rfl) ⟨rfl,(hS2.sN [])⟩

theorem Lj (c:Ae) (B:Option Addr) (c1 n:Nat) (w0:World) (hn:c.Gates.length=n) (hS:ST w0 [] w0 [] [⟨B,(c.Gates.flatMap eN0)⟩]) {r_:Ad} {r_1:Bool} (hF:DR c=some (r_,r_1)) :
  CV Tryz.prog 30 #[.agg #[vi c.Qubits,.slice B n c1]] w0 (fun v w'=>∃ (B1:Option Addr) (c2:Nat),v=.tuple #[.agg #[.slice B1 r_.Rows.length c2],.bool r_1]∧ST w0 [] w' [⟨B1,3,(r_.Rows.flatMap encI),c2*1⟩] []):=by
 subst hn
 unfold DR at hF
 refine cv_of_cw 52 Tryz.func30 rfl Tryz.ntmps30 rfl ?_
 refine cq (cr ?_)
 let V2:List Value:=[vi c.Qubits,.slice B c.Gates.length c1]
 refine sS 1 (yB 32 (.agg V2.toArray) V2 2 hS) ?_
 rintro _ w_ ⟨b,rfl,hS1⟩
 refine sS 2 (yN [.slice none 0 0] 1 hS1 K22) ?_
 rintro _ w_1 ⟨b1,rfl,hS2⟩
 refine sQ 3 (yg (.bool false)) (rn (cq (cq (cr ?_))))
 refine sQ 7 (yb (aD b) 0 V2 K12 K7 (hS2.c 0)) ?_
 obtain ⟨r_2,hc,hF⟩:=bI hF
 refine sc 8 rfl rfl (yC [.agg V2.toArray] NC (NN c B c1 c.Gates.length _ rfl (hS2.inn0 [(true,0)] rfl) hc)) ?_
 rintro _ w_2 ⟨rfl,hd⟩
 have hS3:=hS2.out00 hd
 refine sQ 9 (Y_not (p:=r_2) rfl rfl) (rn ?_)
 refine cw_cond (b:=(!r_2)) rfl (fun hb=>?_) (fun hb=>?_)
 ·skip
  have hF1:=ct hF hb
  refine cq (cr ?_)
  refine sQ 10 (Y_buildS (zs:=[.slice none 0 0]) (vs:=[]) (cs:=[.slice none 0 0]) K55 K22 rfl mpn rfl) ?_
  refine s0 (yT 1 1 (aD b1) 26 (.agg #[.slice none 0 0]) [.slice none 0 0] 0 hS3 K6) ?_
  rintro _ w_3 ⟨rfl,hS4⟩
  refine sQ 3 (yg (.bool false)) (rn (ct_ ?_))
  have hS5:=hS4.addNil 3
  obtain ⟨rfl,rfl⟩:=pr2 (sI hF1)
  exact ret2 Tryz.results30 (v1:=.agg #[.slice none 0 0]) (resAt_cellA (B:=aD b1) (i:=0) (cs:=[.slice none 0 0]) (vs:=[.slice none 0 0]) rfl K16 K6 (hS5.c 1) rfl rfl) (v2:=.bool false) (resAt_tmp rfl) ⟨none,0,rfl,(hS5.sN [2])⟩
 ·skip
  have hF2:=cf' hF hb
  refine cw_skip (cq (cr ?_))
  refine sQ 11 (yd (aD b) 0 0 K36 K0)<|sQ 12 (yl (aD b) 0 V2 (vi c.Qubits) K1 (hS3.c 0)) ?_
  obtain ⟨r_3,hc1,hF2⟩:=bI hF2
  refine sc 13 rfl rfl (yC [vi c.Qubits] K76 (DM c.Qubits _  (hS3.inn0 [] rfl) hc1)) ?_
  rintro _ w_4 ⟨B2,c3,rfl,hd1⟩
  have hS6:=hS3.out0 hd1
  refine sS 4 (yN [.slice none 0 0] 1 hS6 K22) ?_
  rintro _ w_5 ⟨b2,rfl,hS7⟩
  refine s0 (yT 3 1 (aD b2) 26 (.agg #[.slice B2 r_3.Rows.length c3]) [.slice B2 r_3.Rows.length c3] 0 hS7 K6) ?_
  rintro _ w_6 ⟨rfl,hS8⟩
  refine rn (cq (cq (cr ?_)))
  refine sQ 14 (yd (aD b) 0 0 K17 K11)<|sQ 15 (yl (aD b) 1 V2 (.slice B c.Gates.length c1) K18 (hS8.c 0))<|sQ 16 (Y_len (B:=B) (m:=c.Gates.length) (c:=c1) K4 rfl rfl)<|sQ 17 (ym (vi 0)) (rn ?_)
  obtain ⟨hN,hF2⟩:=chk_inv hF2
  obtain ⟨z,hz,hF3⟩:=bI hF2
  refine cw_block ?_
  refine cw_loop (fun k f w=>∃ (i:Nat) (Rows:List Int) (B3:Option Addr) (c4:Nat),FF f [(2,pt (aD b1) 0),(4,pt (aD b2) 0),(15,.slice B c.Gates.length c1),(16,vi (c.Gates.length:Int)),(17,vi (i:Int))]∧ST w0 [] w [⟨aD b1,26,[.slice none 0 0],1⟩,⟨aD b2,26,[.slice B3 Rows.length c4],1⟩,⟨B3,3,(Rows.flatMap encI),c4*1⟩] [⟨B,(c.Gates.flatMap eN0)⟩]∧i+k=c.Gates.length∧forX (Ci c) k i Rows=some z) c.Gates.length ⟨0,r_3.Rows,B2,c3,(fc rfl (fc rfl (fc rfl (fc rfl (fc rfl fn_))))),(hS8.sel [1,3,2] rfl rfl),Nat.zero_add _,hz⟩ ?_
  rintro k_ f w ⟨i,Rows,B3,c4,hf,hS9,hik,hL⟩
  refine cq (cr ?_)
  refine sQ 18 (yL (i:Int) (c.Gates.length:Int) rfl (hf.g 17 4) (hf.g 16 3)) (rn (cq ?_))
  refine cw_cond (b:=(decide ((i:Int)<(c.Gates.length:Int)))) rfl (fun hlt=>?_) (fun hlt=>?_)
  ·skip
   have hlt1:i<c.Gates.length:=by have h:=of_decide_eq_true hlt; omega
   obtain ⟨K5,rfl⟩:∃ k2,k_=k2+1:=⟨k_-1,by omega⟩
   obtain ⟨y,hb1,hL1⟩:=forX_go hL
   unfold Ci at hb1
   refine cw_skip (cq ?_)
   obtain ⟨z1,hz1,hF4⟩:=bI hb1
   refine cw_mid (fun f w=>∃ (Rows1:List Int) (B4:Option Addr) (c5:Nat),.inl Rows1=z1∧FF f [(2,pt (aD b1) 0),(4,pt (aD b2) 0),(15,.slice B c.Gates.length c1),(16,vi (c.Gates.length:Int)),(17,vi (i:Int))]∧ST w0 [] w [⟨aD b1,26,[.slice none 0 0],1⟩,⟨aD b2,26,[.slice B4 Rows1.length c5],1⟩,⟨B4,3,(Rows1.flatMap encI),c5*1⟩] [⟨B,(c.Gates.flatMap eN0)⟩]) ?_ ?_
   ·skip
    refine cw_block (cq (cr ?_))
    obtain ⟨x,hx,hz1⟩:=bI hz1
    let V0:List Value:=[vi x.Kind,vi x.A,vi x.B]
    refine sQ 19 (yI B (i:Int) K4 K3 (gi_isSome eN2 rfl (hS9.rf (i:=0) rfl) hx) (getI_nn hx) (getI_ltI hx rfl) rfl (hf.g 15 2) (hf.g 17 4))<|sQ 20 (ya B ((i:Int).toNat*3) (c.Gates.flatMap eN0) V0 K30 K3 (hS9.rf (i:=0) rfl) rfl rfl (eN2 x) (gi_seg eN2 hx)) ?_
    refine sS 6 (yN [vi 0,vi 0,vi 0] 3 hS9 K10) ?_
    rintro _ w_7 ⟨b3,rfl,hS11⟩
    refine s0 (yT 3 3 (aD b3) 59 (.agg V0.toArray) V0 0 hS11 K3) ?_
    rintro _ w_8 ⟨rfl,hS12⟩
    refine rn (cq (cr ?_))
    refine sQ 21 (yd (aD b3) 0 0 K45 K0)<|sQ 22 (yl (aD b3) 0 V0 (vi x.Kind) K1 (hS12.c 3)) (rn (cw_block (cq (cr ?_))))
    refine sQ 25 (yE x.Kind 9)<|sQ 24 (yg (.bool (x.Kind==9))) (rn ?_)
    refine cw_cond (b:=(x.Kind==9)) rfl (fun hb2=>?_) (fun hb2=>?_)
    ·skip
     have hF5:=ct hz1 hb2
     refine cr ?_
     refine sQ 26 (yb (aD b2) 0 [.slice B3 Rows.length c4] K16 K6 (hS12.c 1) rfl (hf.g 4 1))<|sQ 27 (yd (aD b3) 0 0 K29 K0)<|sQ 28 (yl (aD b3) 1 V0 (vi x.A) K1 (hS12.c 3))<|sQ 29 (yd (aD b3) 0 0 K27 K0)<|sQ 30 (yl (aD b3) 2 V0 (vi x.B) K1 (hS12.c 3)) ?_
     obtain ⟨r_4,hc2,hF5⟩:=bI hF5
     refine sc 31 rfl rfl (yC [.agg #[.slice B3 Rows.length c4],vi x.A,vi x.B] K56 (Bk (Ad.mk Rows) x.A x.B B3 c4 Rows.length _ rfl (hS12.inn0 [(false,2)] rfl) hc2)) ?_
     rintro _ w_9 ⟨B5,c6,rfl,hd2⟩
     have hS13:=hS12.out0 hd2
     refine s0 (yT 1 1 (aD b2) 26 (.agg #[.slice B5 r_4.Rows.length c6]) [.slice B5 r_4.Rows.length c6] 0 hS13 K6 rfl (hf.g 4 1)) ?_
     rintro _ w_10 ⟨rfl,hS14⟩
     refine rn ?_
     exact ⟨r_4.Rows,B5,c6,(sI hF5),(hf.a 2 0 (hf.a 4 1 (hf.a 15 2 (hf.a 16 3 (hf.a 17 4 fn_))))),(hS14.sel [0,1,4] rfl rfl)⟩
    ·skip
     have hF6:=cf' hz1 hb2
     refine cq (cr ?_)
     refine sQ 33 (yE x.Kind 11)<|sQ 32 (yg (.bool (x.Kind==11))) (rn ?_)
     refine cw_cond (b:=(x.Kind==11)) rfl (fun hb3=>?_) (fun hb3=>?_)
     ·skip
      have hF7:=ct hF6 hb3
      obtain ⟨r_5,hc3,hF7⟩:=bI hF7
      obtain ⟨r_6,hc4,hF7⟩:=bI hF7
      obtain ⟨r_7,hc5,hF7⟩:=bI hF7
      refine ra_start (hS12.se [0,2,3]).fn (by kernel_rfl) ?_
      have hS18:=hS12.drew
      have hQ0:=hS18.se [0,2,3]
      refine rq 1 35 (v:=pt (aD b3) 1) rfl hQ0 (fun w' hw'=>(yd (aD b3) 0 0 K29 K0))<|rq 2 36 rfl hQ0 (fun w' hw'=>(yl (aD b3) 1 V0 (vi x.A) K1 (ST.cf hw' (i:=2) rfl)))<|rq 3 37 (v:=pt (aD b3) 2) rfl hQ0 (fun w' hw'=>(yd (aD b3) 0 0 K27 K0))<|rq 4 38 rfl hQ0 (fun w' hw'=>(yl (aD b3) 2 V0 (vi x.B) K1 (ST.cf hw' (i:=2) rfl)))<|rq 6 40 (v:=pt (aD b3) 2) rfl hQ0 (fun w' hw'=>(yd (aD b3) 0 0 K27 K0)) ?_
      refine rq 7 41 rfl hQ0 (fun w' hw'=>(yl (aD b3) 2 V0 (vi x.B) K1 (ST.cf hw' (i:=2) rfl)))<|rq 8 42 (v:=pt (aD b3) 1) rfl hQ0 (fun w' hw'=>(yd (aD b3) 0 0 K29 K0))<|rq 9 43 rfl hQ0 (fun w' hw'=>(yl (aD b3) 1 V0 (vi x.A) K1 (ST.cf hw' (i:=2) rfl)))<|rq 11 45 (v:=pt (aD b3) 1) rfl hQ0 (fun w' hw'=>(yd (aD b3) 0 0 K29 K0))<|rq 12 46 rfl hQ0 (fun w' hw'=>(yl (aD b3) 1 V0 (vi x.A) K1 (ST.cf hw' (i:=2) rfl))) ?_
      refine rq 13 47 (v:=pt (aD b3) 2) rfl hQ0 (fun w' hw'=>(yd (aD b3) 0 0 K27 K0))<|rq 14 48 rfl hQ0 (fun w' hw'=>(yl (aD b3) 2 V0 (vi x.B) K1 (ST.cf hw' (i:=2) rfl)))<|r1 34 0 rfl (yb (aD b2) 0 [.slice B3 Rows.length c4] K16 K6 (hS18.c 1) rfl (hf.g 4 1)) hQ0 ?_
      refine rA [5] ?_
      refine rC 39 5 rfl (yC [.agg #[.slice B3 Rows.length c4],vi x.A,vi x.B] K56 (Bk (Ad.mk Rows) x.A x.B B3 c4 Rows.length _ rfl (hS18.inn0 [(false,2)] rfl) hc3)) ?_ aN
      rintro _ w_11 ⟨B6,c7,rfl,hd3⟩
      have hS19:=hS18.out0 hd3
      refine ⟨(hS19.se [0,2,3]),?_⟩
      refine rA [10] ?_
      refine rC 44 10 rfl (yC [.agg #[.slice B6 r_5.Rows.length c7],vi x.B,vi x.A] K56 (Bk r_5 x.B x.A B6 c7 r_5.Rows.length _ rfl (hS19.inn0 [(false,4)] rfl) hc4)) ?_ aN
      rintro _ w_12 ⟨B7,c8,rfl,hd4⟩
      have hS20:=hS19.out0 hd4
      refine ⟨(hS20.se [0,2,3]),?_⟩
      refine rA [15] ?_
      refine rC 49 15 rfl (yC [.agg #[.slice B7 r_6.Rows.length c8],vi x.A,vi x.B] K56 (Bk r_6 x.A x.B B7 c8 r_6.Rows.length _ rfl (hS20.inn0 [(false,5)] rfl) hc5)) ?_ aN
      rintro _ w_13 ⟨B8,c9,rfl,hd5⟩
      have hS21:=hS20.out0 hd5
      refine ⟨(hS21.se [0,2,3]),?_⟩
      refine rA [16] ?_
      refine rZ 16 rfl (yT 1 1 (aD b2) 26 (.agg #[.slice B8 r_7.Rows.length c9]) [.slice B8 r_7.Rows.length c9] 0 hS21 K6 rfl (hf.g 4 1)) ?_ aN
      rintro _ w_14 ⟨rfl,hS22⟩
      refine ⟨(hS22.se [0,2,3]),?_⟩
      refine ra_done (by kernel_rfl) ?_
      exact ⟨r_7.Rows,B8,c9,(sI hF7),(hf.a 2 0 (hf.a 4 1 (hf.a 15 2 (hf.a 16 3 (hf.a 17 4 fn_))))),(hS22.sel [0,1,6] rfl rfl)⟩
     ·skip
      have hF8:=cf' hF6 hb3
      refine cq (cr ?_)
      refine sQ 23 (Y_buildS (zs:=[.slice none 0 0]) (vs:=[]) (cs:=[.slice none 0 0]) K55 K22 rfl mpn rfl) ?_
      refine s0 (yT 0 1 (aD b1) 26 (.agg #[.slice none 0 0]) [.slice none 0 0] 0 hS12 K6 rfl (hf.g 2 0)) ?_
      rintro _ w_15 ⟨rfl,hS23⟩
      refine sQ 3 (yg (.bool false)) (rn (ct_ ?_))
      have hS24:=hS23.addNil 3
      obtain rfl:=sI hF8
      obtain rfl:=sI hF4
      obtain rfl:=sI hL1
      obtain ⟨rfl,rfl⟩:=pr2 (sI hF3)
      exact ret2 Tryz.results30 (v1:=.agg #[.slice none 0 0]) (resAt_cellA (B:=aD b1) (i:=0) (cs:=[.slice none 0 0]) (vs:=[.slice none 0 0]) (hf.g 2 0) K16 K6 (hS24.c 0) rfl rfl) (v2:=.bool false) (resAt_tmp rfl) ⟨none,0,rfl,(hS24.sN [4])⟩
   rintro f w ⟨Rows1,B4,c5,rfl,hf1,hS10⟩
   refine cr ?_
   refine sQ 50 (yP (i:Int) 1 rfl (hf1.g 17 4))<|sQ 17 (ym (vi (i64.wrap ((i:Int)+1)))) (rn ?_)
   obtain rfl:=sI hF4
   exact ⟨K5,Nat.lt_succ_self _,i+1,Rows1,B4,c5,(hf1.a 2 0 (hf1.a 4 1 (hf1.a 15 2 (hf1.a 16 3 (fc (congrArg (Value.int .i64) (wr_succ hlt1 hN)) fn_))))),(hS10.sel [0,1,2] rfl rfl),(by omega),hL1⟩
  ·skip
   obtain rfl:k_=0:=by have h:=of_decide_eq_false hlt; omega
   refine cw_exit rfl ?_
   obtain rfl:=sI hL
   refine cq (cr ?_)
   let V1:List Value:=[.slice B3 Rows.length c4]
   refine sQ 51 (yb (aD b2) 0 V1 K16 K6 (hS9.c 1) rfl (hf.g 4 1)) ?_
   refine s0 (yT 0 1 (aD b1) 26 (.agg V1.toArray) V1 0 hS9 K6 rfl (hf.g 2 0)) ?_
   rintro _ w_16 ⟨rfl,hS25⟩
   refine sQ 3 (yg (.bool true)) (rn (ct_ ?_))
   obtain ⟨rfl,rfl⟩:=pr2 (sI hF3)
   exact ret2 Tryz.results30 (v1:=.agg V1.toArray) (resAt_cellA (B:=aD b1) (i:=0) (cs:=V1) (vs:=V1) (hf.g 2 0) K16 K6 (hS25.c 0) rfl rfl) (v2:=.bool true) (resAt_tmp rfl) ⟨B3,c4,rfl,(hS25.sN [2])⟩

theorem IY (m:Ad) (B:Option Addr) (c n:Nat) (w0:World) (hn:m.Rows.length=n) (hS:ST w0 [] w0 [] [⟨B,(m.Rows.flatMap encI)⟩]) {r_:List Aa} (hF:C8 m=some r_) :
  CV Tryz.prog 83 #[.agg #[.slice B n c]] w0 (fun v w'=>∃ (B1:Option Addr) (c1:Nat),v=.slice B1 r_.length c1∧ST w0 [] w' [⟨B1,59,(r_.flatMap eN0),c1*3⟩] []):=by
 subst hn
 unfold C8 at hF
 refine cv_of_cw 91 Tryz.func83 rfl Tryz.ntmps83 rfl ?_
 refine cq (cr ?_)
 let V2:List Value:=[.slice B m.Rows.length c]
 refine sS 1 (yB 26 (.agg V2.toArray) V2 1 hS) ?_
 rintro _ w_ ⟨b,rfl,hS1⟩
 refine sQ 2 (yg (.slice none 0 0)) (rn (cq (cr ?_)))
 refine sQ 9 (yd (aD b) 0 0 K13 K8)<|sQ 10 (yl (aD b) 0 V2 (.slice B m.Rows.length c) K9 (hS1.c 0)) ?_
 obtain ⟨r_1,hc,hF⟩:=bI hF
 refine sc 11 rfl rfl (yC V2 K75 (EB m.Rows B c m.Rows.length _ rfl (hS1.inn0 [(true,0)] rfl) hc)) ?_
 rintro _ w_1 ⟨B2,c2,rfl,hd⟩
 have hS2:=hS1.out0 hd
 let V3:List Value:=[.slice B2 r_1.length c2]
 refine sQ 12 (Y_buildS (zs:=[.slice none 0 0]) (vs:=[(0,.slice B2 r_1.length c2)]) (cs:=V3) K55 K22 rfl (mpc rfl mpn) rfl) ?_
 refine sS 3 (yN [.slice none 0 0] 1 hS2 K22) ?_
 rintro _ w_2 ⟨b1,rfl,hS3⟩
 refine s0 (yT 2 1 (aD b1) 26 (.agg V3.toArray) V3 0 hS3 K6) ?_
 rintro _ w_3 ⟨rfl,hS4⟩
 refine rn (cq (cr ?_))
 refine sQ 13 (yd (aD b1) 0 0 K13 K8)<|sQ 14 (yl (aD b1) 0 V3 (.slice B2 r_1.length c2) K9 (hS4.c 2))<|sQ 15 (Y_len (B:=B2) (m:=r_1.length) (c:=c2) K2 rfl rfl)<|sQ 4 (yg (vi (r_1.length:Int))) (rn (cq (cr ?_)))
 refine sQ 5 (yg (.slice none 0 0)) (rn (cq (cq (cr ?_))))
 refine sQ 6 (yg (vi 0)) (rn ?_)
 obtain ⟨hN,hF⟩:=chk_inv hF
 obtain ⟨z,hz,hF1⟩:=bI hF
 have hS6:=hS4.addNil 59
 refine cw_block ?_
 let R0:Ro:=⟨B,(m.Rows.flatMap encI)⟩
 refine cw_loop (fun k f w=>∃ (k_:Nat) (Rows:List Int) (out:List Aa) (B3:Option Addr) (c3:Nat) (B4:Option Addr) (c4:Nat),FF f [(3,pt (aD b1) 0),(4,vi (r_1.length:Int)),(5,.slice B4 out.length c4),(6,vi (k_:Int))]∧ST w0 [] w [⟨aD b1,26,[.slice B3 Rows.length c3],1⟩,⟨B3,3,(Rows.flatMap encI),c3*1⟩,⟨B4,59,(out.flatMap eN0),c4*3⟩] [R0]∧k_+k=r_1.length∧forN (D6 r_1) k k_ (Rows,out)=some z) r_1.length ⟨0,r_1,[],B2,c2,none,0,(fc rfl (fc rfl (fc rfl (fc rfl fn_)))),(hS6.sel [2,1,3] rfl rfl),Nat.zero_add _,hz⟩ ?_
 rintro K5 f w ⟨k_,Rows,out,B3,c3,B4,c4,hf,hS5,hik,hL⟩
 refine cq (cq (cr ?_))
 refine sQ 16 (ym (vi (k_:Int)) rfl (hf.g 6 3))<|sQ 17 (ym (vi (r_1.length:Int)) rfl (hf.g 4 1))<|sQ 18 (yL (k_:Int) (r_1.length:Int)) (rn ?_)
 refine cw_cond (b:=(decide ((k_:Int)<(r_1.length:Int)))) rfl (fun hlt=>?_) (fun hlt=>?_)
 ·skip
  have hlt1:k_<r_1.length:=by have h:=of_decide_eq_true hlt; omega
  obtain ⟨K19,rfl⟩:∃ k2,K5=k2+1:=⟨K5-1,by omega⟩
  obtain ⟨y,hb,hL1⟩:=forN_go hL
  unfold D6 at hb
  refine cw_skip (cq (cw_block (cq (cq (cr ?_)))))
  refine sQ 21 (ym (vi (k_:Int)) rfl (hf.g 6 3))<|sQ 22 (yP (k_:Int) 1)<|sQ 7 (yg (vi (i64.wrap ((k_:Int)+1)))) (rn ?_)
  obtain ⟨z1,hz1,hF2⟩:=bI hb
  refine cw_block ?_
  refine cw_loop (fun k f w=>∃ (Rows1:List Int) (out1:List Aa) (i1:Int) (B5:Option Addr) (c5:Nat) (B6:Option Addr) (c6:Nat),FF f [(3,pt (aD b1) 0),(4,vi (r_1.length:Int)),(5,.slice B6 out1.length c6),(6,vi (k_:Int)),(7,vi i1)]∧ST w0 [] w [⟨aD b1,26,[.slice B5 Rows1.length c5],1⟩,⟨B5,3,(Rows1.flatMap encI),c5*1⟩,⟨B6,59,(out1.flatMap eN0),c6*3⟩] [R0]∧whX (Df r_1 k_) k (Rows1,out1,i1)=some z1) fuel ⟨Rows,out,(i64.wrap ((k_:Int)+1)),B3,c3,B4,c4,(hf.a 3 0 (hf.a 4 1 (hf.a 5 2 (hf.a 6 3 (fc rfl fn_))))),(hS5.sel [0,1,2] rfl rfl),hz1⟩ ?_
  rintro K32 f w ⟨Rows1,out1,i1,B5,c5,B6,c6,hf1,hS7,hL2⟩
  obtain ⟨K38,y1,rfl,hb1,hL3⟩:=whX_go hL2
  unfold Df at hb1
  refine cq (cq (cr ?_))
  refine sQ 23 (ym (vi i1) rfl (hf1.g 7 4))<|sQ 24 (ym (vi (r_1.length:Int)) rfl (hf1.g 4 1))<|sQ 25 (yL i1 (r_1.length:Int))<|sQ 26 (ym (.bool (decide (i1<(r_1.length:Int))))) ?_
  refine sgq 27 (B:=(decide (i1<(r_1.length:Int)))) (v:=pt (aD b1) 0) rfl rfl (uT_ 26) (fun hg=>(yd (aD b1) 0 0 K13 K8 rfl (hf1.g 3 0))) ?_
  let V1:List Value:=[.slice B5 Rows1.length c5]
  refine sgq 28 (B:=(decide (i1<(r_1.length:Int)))) rfl rfl (uT_ 26) (fun hg1=>(yl (aD b1) 0 V1 (.slice B5 Rows1.length c5) K9 (hS7.c 0) rfl (gv_of (v:=pt (aD b1) 0) hg1))) ?_
  refine sgq 29 (B:=(decide (i1<(r_1.length:Int)))) rfl rfl (uT_ 26) (fun hg2=>(ym (vi (k_:Int)) rfl (hf1.g 6 3))) ?_
  obtain ⟨x,hx,hb1⟩:=bI hb1
  refine sgq 30 (B:=(decide (i1<(r_1.length:Int)))) (v:=pt B5 ((k_:Int).toNat*1)) rfl rfl (uT_ 26) (fun hg3=>(yI B5 (k_:Int) K2 K0 (gi_isSome encI_len rfl (hS7.c 1) (gb_inv hx hg3)) (getI_nn (gb_inv hx hg3)) (getI_ltI (gb_inv hx hg3) rfl) rfl (gv_of (v:=.slice B5 Rows1.length c5) hg3) (gv_of (v:=vi (k_:Int)) hg3))) ?_
  refine sgq 31 (B:=(decide (i1<(r_1.length:Int)))) rfl rfl (uT_ 26) (fun hg4=>(yl B5 ((k_:Int).toNat*1) (Rows1.flatMap encI) (vi x) K1 (hS7.c 1) rfl (gv_of (v:=pt B5 ((k_:Int).toNat*1)) hg4) (gi_at0 encI_len (gb_inv hx hg4) rfl))) ?_
  refine sgq 32 (B:=(decide (i1<(r_1.length:Int)))) rfl rfl (uT_ 26) (fun hg5=>(ym (vi (k_:Int)) rfl (hf1.g 6 3))) ?_
  refine sgq 33 (B:=(decide (i1<(r_1.length:Int)))) (v:=.int .u64 (IntKind.u64.wrap (k_:Int))) rfl rfl (uT_ 26) (fun hg6=>(Y_conv (k:=.i64) (a:=(k_:Int)) (T:=3) (T':=77) K40 K41 rfl (gv_of (v:=vi (k_:Int)) hg6))) ?_
  obtain ⟨hsh,hb1⟩:=chk_inv hb1
  refine sgq 34 (B:=(decide (i1<(r_1.length:Int)))) (v:=vi (shrK .i64 x (IntKind.u64.wrap (k_:Int)))) rfl rfl (uT_ 26) (fun hg7=>(Y_shr (k:=.i64) (a:=x) (k':=.u64) (b:=(IntKind.u64.wrap (k_:Int))) rfl (gv_of (v:=vi x) hg7) (gv_of (v:=.int .u64 (IntKind.u64.wrap (k_:Int))) hg7) (hsh hg7))) ?_
  refine sgq 35 (B:=(decide (i1<(r_1.length:Int)))) (v:=vi (bits .and .i64 (shrK .i64 x (IntKind.u64.wrap (k_:Int))) 1)) rfl rfl (uT_ 26) (fun hg8=>(Y_band (k:=.i64) (a:=(shrK .i64 x (IntKind.u64.wrap (k_:Int)))) (b:=1) rfl (gv_of (v:=vi (shrK .i64 x (IntKind.u64.wrap (k_:Int)))) hg8) rfl)) ?_
  refine sgq 36 (B:=(decide (i1<(r_1.length:Int)))) rfl rfl (uT_ 26) (fun hg9=>(yE (bits .and .i64 (shrK .i64 x (IntKind.u64.wrap (k_:Int))) 1) 0 rfl (gv_of (v:=vi (bits .and .i64 (shrK .i64 x (IntKind.u64.wrap (k_:Int))) 1)) hg9))) ?_
  refine sQ 37 (Y_and (b:=(decide (i1<(r_1.length:Int)))) (z:=((bits .and .i64 (shrK .i64 x (IntKind.u64.wrap (k_:Int))) 1)==0)) rfl rfl rfl rfl) (rn ?_)
  refine cw_cond (b:=((decide (i1<(r_1.length:Int)))&&((bits .and .i64 (shrK .i64 x (IntKind.u64.wrap (k_:Int))) 1)==0))) rfl (fun hb2=>?_) (fun hb2=>?_)
  ·skip
   have hF3:=ct hb1 hb2
   refine cw_skip (cq ?_)
   obtain ⟨z2,hz2,hF4⟩:=bI hF3
   refine cw_mid (fun f w=>∃ (Rows2:List Int) (out2:List Aa) (B7:Option Addr) (c7:Nat) (B8:Option Addr) (c8:Nat),(Rows2,out2)=z2∧FF f [(3,pt (aD b1) 0),(4,vi (r_1.length:Int)),(5,.slice B8 out2.length c8),(6,vi (k_:Int)),(7,vi i1)]∧ST w0 [] w [⟨aD b1,26,[.slice B7 Rows2.length c7],1⟩,⟨B7,3,(Rows2.flatMap encI),c7*1⟩,⟨B8,59,(out2.flatMap eN0),c8*3⟩] [R0]) ?_ ?_
   ·skip
    refine cw_block (cq (cr ?_))
    refine sQ 40 (yd (aD b1) 0 0 K13 K8 rfl (hf1.g 3 0))<|sQ 41 (yl (aD b1) 0 V1 (.slice B5 Rows1.length c5) K9 (hS7.c 0))<|sQ 42 (ym (vi i1) rfl (hf1.g 7 4)) ?_
    obtain ⟨x1,hx1,hz2⟩:=bI hz2
    refine sQ 43 (yI B5 i1 K2 K0 (gi_isSome encI_len rfl (hS7.c 1) hx1) (getI_nn hx1) (getI_ltI hx1 rfl))<|sQ 44 (yl B5 (i1.toNat*1) (Rows1.flatMap encI) (vi x1) K1 (hS7.c 1) rfl rfl (gi_at0 encI_len hx1 rfl))<|sQ 45 (ym (vi (k_:Int)) rfl (hf1.g 6 3))<|sQ 46 (Y_conv (k:=.i64) (a:=(k_:Int)) (T:=3) (T':=77) K40 K41 rfl rfl) ?_
    obtain ⟨hsh1,hz2⟩:=chk_inv hz2
    refine sQ 47 (Y_shr (k:=.i64) (a:=x1) (k':=.u64) (b:=(IntKind.u64.wrap (k_:Int))) rfl rfl rfl hsh1)<|sQ 48 (Y_band (k:=.i64) (a:=(shrK .i64 x1 (IntKind.u64.wrap (k_:Int)))) (b:=1) rfl rfl rfl)<|sQ 49 (yE (bits .and .i64 (shrK .i64 x1 (IntKind.u64.wrap (k_:Int))) 1) 1) (rn ?_)
    refine cw_cond (b:=((bits .and .i64 (shrK .i64 x1 (IntKind.u64.wrap (k_:Int))) 1)==1)) rfl (fun hb3=>?_) (fun hb3=>?_)
    ·skip
     have hF5:=ct hz2 hb3
     refine cq (cr ?_)
     refine sQ 50 (yb (aD b1) 0 V1 K16 K6 (hS7.c 0) rfl (hf1.g 3 0))<|sQ 51 (ym (vi i1) rfl (hf1.g 7 4))<|sQ 52 (ym (vi (k_:Int)) rfl (hf1.g 6 3)) ?_
     obtain ⟨r_2,hc1,hF5⟩:=bI hF5
     refine sc 53 rfl rfl (yC [.agg V1.toArray,vi i1,vi (k_:Int)] K56 (Bk (Ad.mk Rows1) i1 (k_:Int) B5 c5 Rows1.length _ rfl (hS7.inn0 [(false,1)] rfl) hc1)) ?_
     rintro _ w_4 ⟨B9,c9,rfl,hd1⟩
     have hS9:=hS7.out0 hd1
     refine s0 (yT 0 1 (aD b1) 26 (.agg #[.slice B9 r_2.Rows.length c9]) [.slice B9 r_2.Rows.length c9] 0 hS9 K6 rfl (hf1.g 3 0)) ?_
     rintro _ w_5 ⟨rfl,hS10⟩
     refine rn (cr ?_)
     refine sQ 54 (ym (.slice B6 out1.length c6) rfl (hf1.g 5 2))<|sQ 55 (ym (vi i1) rfl (hf1.g 7 4))<|sQ 56 (ym (vi (k_:Int)) rfl (hf1.g 6 3))<|sQ 57 (Y_buildS (zs:=[vi 0,vi 0,vi 0]) (vs:=[(0,vi 9),(1,vi i1),(2,vi (k_:Int))]) (cs:=[vi 9,vi i1,vi (k_:Int)]) K33 K10 rfl (mpc rfl (mpc rfl (mpc rfl mpn))) rfl) ?_
     refine sS 58 (Ys_bslice (s:=3) (len:=1) (vs:=[(0,.agg #[vi 9,vi i1,vi (k_:Int)])]) (cs:=[vi 9,vi i1,vi (k_:Int)]) (zs:=[vi 0,vi 0,vi 0]) (m:=3) hS10 K4 K3 K26 rfl (mpc rfl mpn) rfl rfl rfl (by kernel_rfl) (by kernel_rfl) rfl) ?_
     rintro _ w_6 ⟨b2,rfl,hS11⟩
     obtain ⟨hap,hF5⟩:=chk_inv hF5
     refine sS 59 (Ys_append (s:=3) (by':=24) (i:=2) (nn:=out1.length) (c:=c6) (k:=1) (len:=(out1++[(Aa.mk 9 i1 (k_:Int))]).length) (B:=B6) (xs:=([(Aa.mk 9 i1 (k_:Int))].flatMap eN0)) (cs':=((out1++[(Aa.mk 9 i1 (k_:Int))]).flatMap eN0)) hS11 K4 K3 K23 K10 rfl (by decide) rfl rfl rfl rfl (fm_lenn (l:=out1) eN2 rfl) rfl (hS11.c 4) (fm_lenn (l:=[(Aa.mk 9 i1 (k_:Int))]) eN2 rfl) (fm_one' (enc:=eN0) Al [(Aa.mk 9 i1 (k_:Int))]) (by have:=hap; omega) (by have:=hap; simp only [maxLen]; omega) (fm_app _ _) (app_len (l:=out1) (l':=[(Aa.mk 9 i1 (k_:Int))]) rfl rfl)) ?_
     rintro _ w_7 ⟨B10,c10,rfl,hS12⟩
     refine sQ 5 (yg (.slice B10 ((out1++[(Aa.mk 9 i1 (k_:Int))]).length) c10)) (rn ?_)
     exact ⟨r_2.Rows,(out1++[(Aa.mk 9 i1 (k_:Int))]),B9,c9,B10,c10,(sI hF5),(hf1.a 3 0 (hf1.a 4 1 (fc rfl (hf1.a 6 3 (hf1.a 7 4 fn_))))),(hS12.sel [0,3,2] rfl rfl)⟩
    ·skip
     have hF6:=cf' hz2 hb3
     refine cw_skip ?_
     exact ⟨Rows1,out1,B5,c5,B6,c6,(sI hF6),(hf1.a 3 0 (hf1.a 4 1 (hf1.a 5 2 (hf1.a 6 3 (hf1.a 7 4 fn_))))),(hS7.sel [0,1,2] rfl rfl)⟩
   rintro f w ⟨Rows2,out2,B7,c7,B8,c8,rfl,hf2,hS8⟩
   refine cr ?_
   refine sQ 38 (ym (vi i1) rfl (hf2.g 7 4))<|sQ 39 (yP i1 1)<|sQ 7 (yg (vi (i64.wrap (i1+1)))) (rn ?_)
   obtain rfl:=sI hF4
   exact ⟨K38,Nat.lt_succ_self _,Rows2,out2,(i64.wrap (i1+1)),B7,c7,B8,c8,(hf2.a 3 0 (hf2.a 4 1 (hf2.a 5 2 (hf2.a 6 3 (fc rfl fn_))))),(hS8.sel [0,1,2] rfl rfl),hL3⟩
  ·skip
   have hF7:=cf' hb1 hb2
   refine cw_exit rfl ?_
   obtain rfl:=sI hF7
   obtain rfl:=sI hL3
   refine cq (cr ?_)
   refine sQ 8 (yg (vi 0)) (rn ?_)
   obtain ⟨hN1,hF2⟩:=chk_inv hF2
   obtain ⟨z3,hz3,hF8⟩:=bI hF2
   refine cw_block ?_
   refine cw_loop (fun k f w=>∃ (i3:Nat) (Rows3:List Int) (out3:List Aa) (B11:Option Addr) (c11:Nat) (B12:Option Addr) (c12:Nat),FF f [(3,pt (aD b1) 0),(4,vi (r_1.length:Int)),(5,.slice B12 out3.length c12),(6,vi (k_:Int)),(8,vi (i3:Int))]∧ST w0 [] w [⟨aD b1,26,[.slice B11 Rows3.length c11],1⟩,⟨B11,3,(Rows3.flatMap encI),c11*1⟩,⟨B12,59,(out3.flatMap eN0),c12*3⟩] [R0]∧i3+k=r_1.length∧forN (Et k_) k i3 (Rows3,out3)=some z3) r_1.length ⟨0,Rows1,out1,B5,c5,B6,c6,(hf1.a 3 0 (hf1.a 4 1 (hf1.a 5 2 (hf1.a 6 3 (fc rfl fn_))))),(hS7.sel [0,1,2] rfl rfl),Nat.zero_add _,hz3⟩ ?_
   rintro K53 f w ⟨i3,Rows3,out3,B11,c11,B12,c12,hf3,hS13,hik2,hL4⟩
   refine cq (cq (cr ?_))
   refine sQ 60 (ym (vi (i3:Int)) rfl (hf3.g 8 4))<|sQ 61 (ym (vi (r_1.length:Int)) rfl (hf3.g 4 1))<|sQ 62 (yL (i3:Int) (r_1.length:Int)) (rn ?_)
   refine cw_cond (b:=(decide ((i3:Int)<(r_1.length:Int)))) rfl (fun hlt2=>?_) (fun hlt2=>?_)
   ·skip
    have hlt3:i3<r_1.length:=by have h:=of_decide_eq_true hlt2; omega
    obtain ⟨K60,rfl⟩:∃ k2,K53=k2+1:=⟨K53-1,by omega⟩
    obtain ⟨y2,hb4,hL5⟩:=forN_go hL4
    unfold Et at hb4
    refine cw_skip (cq ?_)
    obtain ⟨z4,hz4,hF9⟩:=bI hb4
    refine cw_mid (fun f w=>∃ (Rows4:List Int) (out4:List Aa) (B13:Option Addr) (c13:Nat) (B14:Option Addr) (c14:Nat),(Rows4,out4)=z4∧FF f [(3,pt (aD b1) 0),(4,vi (r_1.length:Int)),(5,.slice B14 out4.length c14),(6,vi (k_:Int)),(8,vi (i3:Int))]∧ST w0 [] w [⟨aD b1,26,[.slice B13 Rows4.length c13],1⟩,⟨B13,3,(Rows4.flatMap encI),c13*1⟩,⟨B14,59,(out4.flatMap eN0),c14*3⟩] [R0]) ?_ ?_
    ·skip
     refine cw_block (cq (cr ?_))
     refine sQ 65 (ym (vi (i3:Int)) rfl (hf3.g 8 4))<|sQ 66 (ym (vi (k_:Int)) rfl (hf3.g 6 3))<|sQ 67 (Y_ne (k:=.i64) (a:=(i3:Int)) (b:=(k_:Int)) rfl rfl rfl)<|sQ 68 (ym (.bool ((i3:Int) != (k_:Int)))) ?_
     refine sgq 69 (B:=((i3:Int) != (k_:Int))) (v:=pt (aD b1) 0) rfl rfl (uT_ 68) (fun hg10=>(yd (aD b1) 0 0 K13 K8 rfl (hf3.g 3 0))) ?_
     refine sgq 70 (B:=((i3:Int) != (k_:Int))) rfl rfl (uT_ 68) (fun hg11=>(yl (aD b1) 0 [.slice B11 Rows3.length c11] (.slice B11 Rows3.length c11) K9 (hS13.c 0) rfl (gv_of (v:=pt (aD b1) 0) hg11))) ?_
     refine sgq 71 (B:=((i3:Int) != (k_:Int))) rfl rfl (uT_ 68) (fun hg12=>(ym (vi (i3:Int)) rfl (hf3.g 8 4))) ?_
     obtain ⟨x2,hx2,hz4⟩:=bI hz4
     refine sgq 72 (B:=((i3:Int) != (k_:Int))) (v:=pt B11 ((i3:Int).toNat*1)) rfl rfl (uT_ 68) (fun hg13=>(yI B11 (i3:Int) K2 K0 (gi_isSome encI_len rfl (hS13.c 1) (gb_inv hx2 hg13)) (getI_nn (gb_inv hx2 hg13)) (getI_ltI (gb_inv hx2 hg13) rfl) rfl (gv_of (v:=.slice B11 Rows3.length c11) hg13) (gv_of (v:=vi (i3:Int)) hg13))) ?_
     refine sgq 73 (B:=((i3:Int) != (k_:Int))) rfl rfl (uT_ 68) (fun hg14=>(yl B11 ((i3:Int).toNat*1) (Rows3.flatMap encI) (vi x2) K1 (hS13.c 1) rfl (gv_of (v:=pt B11 ((i3:Int).toNat*1)) hg14) (gi_at0 encI_len (gb_inv hx2 hg14) rfl))) ?_
     refine sgq 74 (B:=((i3:Int) != (k_:Int))) rfl rfl (uT_ 68) (fun hg15=>(ym (vi (k_:Int)) rfl (hf3.g 6 3))) ?_
     refine sgq 75 (B:=((i3:Int) != (k_:Int))) (v:=.int .u64 (IntKind.u64.wrap (k_:Int))) rfl rfl (uT_ 68) (fun hg16=>(Y_conv (k:=.i64) (a:=(k_:Int)) (T:=3) (T':=77) K40 K41 rfl (gv_of (v:=vi (k_:Int)) hg16))) ?_
     obtain ⟨hsh2,hz4⟩:=chk_inv hz4
     refine sgq 76 (B:=((i3:Int) != (k_:Int))) (v:=vi (shrK .i64 x2 (IntKind.u64.wrap (k_:Int)))) rfl rfl (uT_ 68) (fun hg17=>(Y_shr (k:=.i64) (a:=x2) (k':=.u64) (b:=(IntKind.u64.wrap (k_:Int))) rfl (gv_of (v:=vi x2) hg17) (gv_of (v:=.int .u64 (IntKind.u64.wrap (k_:Int))) hg17) (hsh2 hg17))) ?_
     refine sgq 77 (B:=((i3:Int) != (k_:Int))) (v:=vi (bits .and .i64 (shrK .i64 x2 (IntKind.u64.wrap (k_:Int))) 1)) rfl rfl (uT_ 68) (fun hg18=>(Y_band (k:=.i64) (a:=(shrK .i64 x2 (IntKind.u64.wrap (k_:Int)))) (b:=1) rfl (gv_of (v:=vi (shrK .i64 x2 (IntKind.u64.wrap (k_:Int)))) hg18) rfl)) ?_
     refine sgq 78 (B:=((i3:Int) != (k_:Int))) rfl rfl (uT_ 68) (fun hg19=>(yE (bits .and .i64 (shrK .i64 x2 (IntKind.u64.wrap (k_:Int))) 1) 1 rfl (gv_of (v:=vi (bits .and .i64 (shrK .i64 x2 (IntKind.u64.wrap (k_:Int))) 1)) hg19))) ?_
     refine sQ 79 (Y_and (b:=((i3:Int) != (k_:Int))) (z:=((bits .and .i64 (shrK .i64 x2 (IntKind.u64.wrap (k_:Int))) 1)==1)) rfl rfl rfl rfl) (rn ?_)
     refine cw_cond (b:=(((i3:Int) != (k_:Int))&&((bits .and .i64 (shrK .i64 x2 (IntKind.u64.wrap (k_:Int))) 1)==1))) rfl (fun hb5=>?_) (fun hb5=>?_)
     ·skip
      have hF10:=ct hz4 hb5
      refine cq (cr ?_)
      refine sQ 80 (yb (aD b1) 0 [.slice B11 Rows3.length c11] K16 K6 (hS13.c 0) rfl (hf3.g 3 0))<|sQ 81 (ym (vi (k_:Int)) rfl (hf3.g 6 3))<|sQ 82 (ym (vi (i3:Int)) rfl (hf3.g 8 4)) ?_
      obtain ⟨r_3,hc2,hF10⟩:=bI hF10
      refine sc 83 rfl rfl (yC [.agg #[.slice B11 Rows3.length c11],vi (k_:Int),vi (i3:Int)] K56 (Bk (Ad.mk Rows3) (k_:Int) (i3:Int) B11 c11 Rows3.length _ rfl (hS13.inn0 [(false,1)] rfl) hc2)) ?_
      rintro _ w_8 ⟨B15,c15,rfl,hd2⟩
      have hS15:=hS13.out0 hd2
      refine s0 (yT 0 1 (aD b1) 26 (.agg #[.slice B15 r_3.Rows.length c15]) [.slice B15 r_3.Rows.length c15] 0 hS15 K6 rfl (hf3.g 3 0)) ?_
      rintro _ w_9 ⟨rfl,hS16⟩
      refine rn (cr ?_)
      refine sQ 84 (ym (.slice B12 out3.length c12) rfl (hf3.g 5 2))<|sQ 85 (ym (vi (k_:Int)) rfl (hf3.g 6 3))<|sQ 86 (ym (vi (i3:Int)) rfl (hf3.g 8 4))<|sQ 87 (Y_buildS (zs:=[vi 0,vi 0,vi 0]) (vs:=[(0,vi 9),(1,vi (k_:Int)),(2,vi (i3:Int))]) (cs:=[vi 9,vi (k_:Int),vi (i3:Int)]) K33 K10 rfl (mpc rfl (mpc rfl (mpc rfl mpn))) rfl) ?_
      refine sS 88 (Ys_bslice (s:=3) (len:=1) (vs:=[(0,.agg #[vi 9,vi (k_:Int),vi (i3:Int)])]) (cs:=[vi 9,vi (k_:Int),vi (i3:Int)]) (zs:=[vi 0,vi 0,vi 0]) (m:=3) hS16 K4 K3 K26 rfl (mpc rfl mpn) rfl rfl rfl (by kernel_rfl) (by kernel_rfl) rfl) ?_
      rintro _ w_10 ⟨b3,rfl,hS17⟩
      obtain ⟨hap1,hF10⟩:=chk_inv hF10
      refine sS 89 (Ys_append (s:=3) (by':=24) (i:=2) (nn:=out3.length) (c:=c12) (k:=1) (len:=(out3++[(Aa.mk 9 (k_:Int) (i3:Int))]).length) (B:=B12) (xs:=([(Aa.mk 9 (k_:Int) (i3:Int))].flatMap eN0)) (cs':=((out3++[(Aa.mk 9 (k_:Int) (i3:Int))]).flatMap eN0)) hS17 K4 K3 K23 K10 rfl (by decide) rfl rfl rfl rfl (fm_lenn (l:=out3) eN2 rfl) rfl (hS17.c 4) (fm_lenn (l:=[(Aa.mk 9 (k_:Int) (i3:Int))]) eN2 rfl) (fm_one' (enc:=eN0) Al [(Aa.mk 9 (k_:Int) (i3:Int))]) (by have:=hap1; omega) (by have:=hap1; simp only [maxLen]; omega) (fm_app _ _) (app_len (l:=out3) (l':=[(Aa.mk 9 (k_:Int) (i3:Int))]) rfl rfl)) ?_
      rintro _ w_11 ⟨B16,c16,rfl,hS18⟩
      refine sQ 5 (yg (.slice B16 ((out3++[(Aa.mk 9 (k_:Int) (i3:Int))]).length) c16)) (rn ?_)
      exact ⟨r_3.Rows,(out3++[(Aa.mk 9 (k_:Int) (i3:Int))]),B15,c15,B16,c16,(sI hF10),(hf3.a 3 0 (hf3.a 4 1 (fc rfl (hf3.a 6 3 (hf3.a 8 4 fn_))))),(hS18.sel [0,3,2] rfl rfl)⟩
     ·skip
      have hF11:=cf' hz4 hb5
      refine cw_skip ?_
      exact ⟨Rows3,out3,B11,c11,B12,c12,(sI hF11),(hf3.a 3 0 (hf3.a 4 1 (hf3.a 5 2 (hf3.a 6 3 (hf3.a 8 4 fn_))))),(hS13.sel [0,1,2] rfl rfl)⟩
    rintro f w ⟨Rows4,out4,B13,c13,B14,c14,rfl,hf4,hS14⟩
    refine cr ?_
    refine sQ 63 (ym (vi (i3:Int)) rfl (hf4.g 8 4))<|sQ 64 (yP (i3:Int) 1)<|sQ 8 (yg (vi (i64.wrap ((i3:Int)+1)))) (rn ?_)
    obtain rfl:=sI hF9
    exact ⟨K60,Nat.lt_succ_self _,i3+1,Rows4,out4,B13,c13,B14,c14,(hf4.a 3 0 (hf4.a 4 1 (hf4.a 5 2 (hf4.a 6 3 (fc (congrArg (Value.int .i64) (wr_succ hlt3 hN1)) fn_))))),(hS14.sel [0,1,2] rfl rfl),(by omega),hL5⟩
   ·skip
    obtain rfl:K53=0:=by have h:=of_decide_eq_false hlt2; omega
    refine cw_exit rfl ?_
    obtain rfl:=sI hL4
    refine cr ?_
    refine sQ 19 (ym (vi (k_:Int)) rfl (hf3.g 6 3))<|sQ 20 (yP (k_:Int) 1)<|sQ 6 (yg (vi (i64.wrap ((k_:Int)+1)))) (rn ?_)
    obtain rfl:=sI hF8
    exact ⟨K19,Nat.lt_succ_self _,k_+1,Rows3,out3,B11,c11,B12,c12,(hf3.a 3 0 (hf3.a 4 1 (hf3.a 5 2 (fc (congrArg (Value.int .i64) (wr_succ hlt1 hN)) fn_)))),(hS13.sel [0,1,2] rfl rfl),(by omega),hL1⟩
 ·skip
  obtain rfl:K5=0:=by have h:=of_decide_eq_false hlt; omega
  refine cw_exit rfl ?_
  obtain rfl:=sI hL
  refine cq (cr ?_)
  refine sQ 90 (ym (.slice B4 out.length c4) rfl (hf.g 5 2))<|sQ 2 (yg (.slice B4 out.length c4)) (rn (ct_ ?_))
  obtain rfl:=sI hF1
  exact ret1 Tryz.results83 (v1:=.slice B4 out.length c4) (resAt_tmp rfl) ⟨B4,c4,rfl,(hS5.sN [2])⟩

theorem Lx (m:Ad) (B:Option Addr) (c n:Nat) (w0:World) (hn:m.Rows.length=n) (hS:ST w0 [] w0 [] [⟨B,(m.Rows.flatMap encI)⟩]) {r_:Ad} {r_1:Bool} (hF:DW m=some (r_,r_1)) :
  CV Tryz.prog 31 #[.agg #[.slice B n c]] w0 (fun v w'=>∃ (B1:Option Addr) (c1:Nat),v=.tuple #[.agg #[.slice B1 r_.Rows.length c1],.bool r_1]∧ST w0 [] w' [⟨B1,3,(r_.Rows.flatMap encI),c1*1⟩] []):=by
 subst hn
 unfold DW at hF
 refine cv_of_cw 30 Tryz.func31 rfl Tryz.ntmps31 rfl ?_
 refine cq (cr ?_)
 let V1:List Value:=[.slice B m.Rows.length c]
 refine sS 1 (yB 26 (.agg V1.toArray) V1 1 hS) ?_
 rintro _ w_ ⟨b,rfl,hS1⟩
 refine sS 2 (yN [.slice none 0 0] 1 hS1 K22) ?_
 rintro _ w_1 ⟨b1,rfl,hS2⟩
 refine sQ 3 (yg (.bool false)) (rn (cq (cq (cr ?_))))
 refine sQ 7 (yb (aD b) 0 V1 K16 K6 (hS2.c 0)) ?_
 obtain ⟨r_2,hc,hF⟩:=bI hF
 refine sc 8 rfl rfl (yC [.agg V1.toArray] Kq (Js m B c m.Rows.length _ rfl (hS2.inn0 [(true,0)] rfl) hc)) ?_
 rintro _ w_2 ⟨rfl,hd⟩
 have hS3:=hS2.out00 hd
 refine sQ 9 (Y_not (p:=r_2) rfl rfl) (rn ?_)
 refine cw_cond (b:=(!r_2)) rfl (fun hb=>?_) (fun hb=>?_)
 ·skip
  have hF1:=ct hF hb
  refine cq (cr ?_)
  refine sQ 10 (Y_buildS (zs:=[.slice none 0 0]) (vs:=[]) (cs:=[.slice none 0 0]) K55 K22 rfl mpn rfl) ?_
  refine s0 (yT 1 1 (aD b1) 26 (.agg #[.slice none 0 0]) [.slice none 0 0] 0 hS3 K6) ?_
  rintro _ w_3 ⟨rfl,hS4⟩
  refine sQ 3 (yg (.bool false)) (rn (ct_ ?_))
  have hS5:=hS4.addNil 3
  obtain ⟨rfl,rfl⟩:=pr2 (sI hF1)
  exact ret2 Tryz.results31 (v1:=.agg #[.slice none 0 0]) (resAt_cellA (B:=aD b1) (i:=0) (cs:=[.slice none 0 0]) (vs:=[.slice none 0 0]) rfl K16 K6 (hS5.c 1) rfl rfl) (v2:=.bool false) (resAt_tmp rfl) ⟨none,0,rfl,(hS5.sN [2])⟩
 ·skip
  have hF2:=cf' hF hb
  refine cw_skip (cq (cr ?_))
  refine sQ 11 (yd (aD b) 0 0 K13 K8)<|sQ 12 (yl (aD b) 0 V1 (.slice B m.Rows.length c) K9 (hS3.c 0))<|sQ 13 (Y_len (B:=B) (m:=m.Rows.length) (c:=c) K2 rfl rfl) ?_
  obtain ⟨r_3,hc1,hF2⟩:=bI hF2
  refine sc 14 rfl rfl (yC [vi (m.Rows.length:Int)] K76 (DM (m.Rows.length:Int) _  (hS3.inn0 [] rfl) hc1)) ?_
  rintro _ w_4 ⟨B2,c2,rfl,hd1⟩
  have hS6:=hS3.out0 hd1
  refine sS 4 (yN [.slice none 0 0] 1 hS6 K22) ?_
  rintro _ w_5 ⟨b2,rfl,hS7⟩
  refine s0 (yT 3 1 (aD b2) 26 (.agg #[.slice B2 r_3.Rows.length c2]) [.slice B2 r_3.Rows.length c2] 0 hS7 K6) ?_
  rintro _ w_6 ⟨rfl,hS8⟩
  refine rn (cq (cq (cr ?_)))
  refine sQ 15 (yb (aD b) 0 V1 K16 K6 (hS8.c 0)) ?_
  obtain ⟨r_4,hc2,hF2⟩:=bI hF2
  refine sc 16 rfl rfl (yC [.agg V1.toArray] Kn (IY m B c m.Rows.length _ rfl (hS8.inn0 [(true,0)] rfl) hc2)) ?_
  rintro _ w_7 ⟨B3,c3,rfl,hd2⟩
  have hS9:=hS8.out0 hd2
  refine sQ 17 (Y_len (B:=B3) (m:=r_4.length) (c:=c3) K4 rfl rfl)<|sQ 18 (ym (vi 0)) (rn ?_)
  obtain ⟨hN,hF2⟩:=chk_inv hF2
  obtain ⟨z,hz,hF3⟩:=bI hF2
  refine cw_block ?_
  refine cw_loop (fun k f w=>∃ (i:Nat) (Rows:List Int) (B4:Option Addr) (c4:Nat),FF f [(2,pt (aD b1) 0),(4,pt (aD b2) 0),(16,.slice B3 r_4.length c3),(17,vi (r_4.length:Int)),(18,vi (i:Int))]∧ST w0 [] w [⟨aD b1,26,[.slice none 0 0],1⟩,⟨aD b2,26,[.slice B4 Rows.length c4],1⟩,⟨B4,3,(Rows.flatMap encI),c4*1⟩,⟨B3,59,(r_4.flatMap eN0),c3*3⟩] [⟨B,(m.Rows.flatMap encI)⟩]∧i+k=r_4.length∧forN (Fx r_4) k i Rows=some z) r_4.length ⟨0,r_3.Rows,B2,c2,(fc rfl (fc rfl (fc rfl (fc rfl (fc rfl fn_))))),(hS9.sel [1,3,2,4] rfl rfl),Nat.zero_add _,hz⟩ ?_
  rintro k_ f w ⟨i,Rows,B4,c4,hf,hS10,hik,hL⟩
  refine cq (cr ?_)
  refine sQ 19 (yL (i:Int) (r_4.length:Int) rfl (hf.g 18 4) (hf.g 17 3)) (rn (cq ?_))
  refine cw_cond (b:=(decide ((i:Int)<(r_4.length:Int)))) rfl (fun hlt=>?_) (fun hlt=>?_)
  ·skip
   have hlt1:i<r_4.length:=by have h:=of_decide_eq_true hlt; omega
   obtain ⟨K5,rfl⟩:∃ k2,k_=k2+1:=⟨k_-1,by omega⟩
   obtain ⟨y,hb1,hL1⟩:=forN_go hL
   unfold Fx at hb1
   refine cw_skip (cq (cw_block (cq (cr ?_))))
   obtain ⟨x,hx,hb1⟩:=bI hb1
   let V2:List Value:=[vi x.Kind,vi x.A,vi x.B]
   refine sQ 20 (yI B3 (i:Int) K4 K3 (gi_isSome eN2 rfl (hS10.c 3) hx) (getI_nn hx) (getI_ltI hx rfl) rfl (hf.g 16 2) (hf.g 18 4))<|sQ 21 (ya B3 ((i:Int).toNat*3) (r_4.flatMap eN0) V2 K30 K3 (hS10.c 3) rfl rfl (eN2 x) (gi_seg eN2 hx)) ?_
   refine sS 6 (yN [vi 0,vi 0,vi 0] 3 hS10 K10) ?_
   rintro _ w_8 ⟨b3,rfl,hS11⟩
   refine s0 (yT 4 3 (aD b3) 59 (.agg V2.toArray) V2 0 hS11 K3) ?_
   rintro _ w_9 ⟨rfl,hS12⟩
   refine rn (cr ?_)
   refine sQ 22 (yb (aD b2) 0 [.slice B4 Rows.length c4] K16 K6 (hS12.c 1) rfl (hf.g 4 1))<|sQ 23 (yd (aD b3) 0 0 K29 K0)<|sQ 24 (yl (aD b3) 1 V2 (vi x.A) K1 (hS12.c 4))<|sQ 25 (yd (aD b3) 0 0 K27 K0)<|sQ 26 (yl (aD b3) 2 V2 (vi x.B) K1 (hS12.c 4)) ?_
   obtain ⟨r_5,hc3,hb1⟩:=bI hb1
   refine sc 27 rfl rfl (yC [.agg #[.slice B4 Rows.length c4],vi x.A,vi x.B] K56 (Bk (Ad.mk Rows) x.A x.B B4 c4 Rows.length _ rfl (hS12.inn0 [(false,2)] rfl) hc3)) ?_
   rintro _ w_10 ⟨B5,c5,rfl,hd3⟩
   have hS13:=hS12.out0 hd3
   refine s0 (yT 1 1 (aD b2) 26 (.agg #[.slice B5 r_5.Rows.length c5]) [.slice B5 r_5.Rows.length c5] 0 hS13 K6 rfl (hf.g 4 1)) ?_
   rintro _ w_11 ⟨rfl,hS14⟩
   refine rn (cr ?_)
   refine sQ 28 (yP (i:Int) 1 rfl (hf.g 18 4))<|sQ 18 (ym (vi (i64.wrap ((i:Int)+1)))) (rn ?_)
   obtain rfl:=sI hb1
   exact ⟨K5,Nat.lt_succ_self _,i+1,r_5.Rows,B5,c5,(hf.a 2 0 (hf.a 4 1 (hf.a 16 2 (hf.a 17 3 (fc (congrArg (Value.int .i64) (wr_succ hlt1 hN)) fn_))))),(hS14.sel [0,1,5,3] rfl rfl),(by omega),hL1⟩
  ·skip
   obtain rfl:k_=0:=by have h:=of_decide_eq_false hlt; omega
   refine cw_exit rfl ?_
   obtain rfl:=sI hL
   refine cq (cr ?_)
   let V0:List Value:=[.slice B4 Rows.length c4]
   refine sQ 29 (yb (aD b2) 0 V0 K16 K6 (hS10.c 1) rfl (hf.g 4 1)) ?_
   refine s0 (yT 0 1 (aD b1) 26 (.agg V0.toArray) V0 0 hS10 K6 rfl (hf.g 2 0)) ?_
   rintro _ w_12 ⟨rfl,hS15⟩
   refine sQ 3 (yg (.bool true)) (rn (ct_ ?_))
   obtain ⟨rfl,rfl⟩:=pr2 (sI hF3)
   exact ret2 Tryz.results31 (v1:=.agg V0.toArray) (resAt_cellA (B:=aD b1) (i:=0) (cs:=V0) (vs:=V0) (hf.g 2 0) K16 K6 (hS15.c 0) rfl rfl) (v2:=.bool true) (resAt_tmp rfl) ⟨B4,c4,rfl,(hS15.sN [2])⟩

theorem Gr (m:Ad) (B:Option Addr) (c n:Nat) (w0:World) (hn:m.Rows.length=n) (hS:ST w0 [] w0 [] [⟨B,(m.Rows.flatMap encI)⟩]) {r_:Ae} (hF:DE m=some r_) :
  CV Tryz.prog 32 #[.agg #[.slice B n c]] w0 (fun v w'=>∃ (B1:Option Addr) (c1:Nat),v=.agg #[vi r_.Qubits,.slice B1 r_.Gates.length c1]∧ST w0 [] w' [⟨B1,59,(r_.Gates.flatMap eN0),c1*3⟩] []):=by
 subst hn
 unfold DE at hF
 refine cv_of_cw 29 Tryz.func32 rfl Tryz.ntmps32 rfl ?_
 refine cq (cr ?_)
 let V2:List Value:=[.slice B m.Rows.length c]
 refine sS 1 (yB 26 (.agg V2.toArray) V2 1 hS) ?_
 rintro _ w_ ⟨b,rfl,hS1⟩
 let V4:List Value:=[vi 0,.slice none 0 0]
 refine sS 2 (yN V4 2 hS1 K21) ?_
 rintro _ w_1 ⟨b1,rfl,hS2⟩
 refine rn (cq (cr ?_))
 refine sQ 6 (yb (aD b) 0 V2 K16 K6 (hS2.c 0)) ?_
 obtain ⟨r_1,hc,hF⟩:=bI hF
 refine sc 7 rfl rfl (yC [.agg V2.toArray] Kn (IY m B c m.Rows.length _ rfl (hS2.inn0 [(true,0)] rfl) hc)) ?_
 rintro _ w_2 ⟨B2,c2,rfl,hd⟩
 have hS3:=hS2.out0 hd
 refine sQ 3 (yg (.slice B2 r_1.length c2)) (rn (cq (cr ?_)))
 let V3:List Value:=[vi (m.Rows.length:Int),.slice none 0 0]
 refine sQ 8 (yd (aD b) 0 0 K13 K8)<|sQ 9 (yl (aD b) 0 V2 (.slice B m.Rows.length c) K9 (hS3.c 0))<|sQ 10 (Y_len (B:=B) (m:=m.Rows.length) (c:=c) K2 rfl rfl)<|sQ 11 (Y_buildS (zs:=V4) (vs:=[(0,vi (m.Rows.length:Int))]) (cs:=V3) K46 K21 rfl (mpc rfl mpn) rfl) ?_
 refine sS 4 (yN V4 2 hS3 K21) ?_
 rintro _ w_3 ⟨b2,rfl,hS4⟩
 refine s0 (yT 3 2 (aD b2) 32 (.agg V3.toArray) V3 0 hS4 K7) ?_
 rintro _ w_4 ⟨rfl,hS5⟩
 refine rn (cq (cq (cr ?_)))
 refine sQ 12 (ym (.slice B2 r_1.length c2))<|sQ 13 (Y_len (B:=B2) (m:=r_1.length) (c:=c2) K4 rfl rfl)<|sQ 14 (yM (r_1.length:Int) 1)<|sQ 5 (yg (vi (i64.wrap ((r_1.length:Int)-1)))) (rn ?_)
 obtain ⟨z,hz,hF1⟩:=bI hF
 have hS7:=hS5.addNil 59
 refine cw_block ?_
 refine cw_loop (fun k f w=>∃ (Gates:List Aa) (i:Int) (B3:Option Addr) (c3:Nat),FF f [(2,pt (aD b1) 0),(3,.slice B2 r_1.length c2),(4,pt (aD b2) 0),(5,vi i)]∧ST w0 [] w [⟨aD b1,32,V4,2⟩,⟨B2,59,(r_1.flatMap eN0),c2*3⟩,⟨aD b2,32,[vi (m.Rows.length:Int),.slice B3 Gates.length c3],2⟩,⟨B3,59,(Gates.flatMap eN0),c3*3⟩] [⟨B,(m.Rows.flatMap encI)⟩]∧whX (Dp r_1) k (Gates,i)=some z) fuel ⟨[],(i64.wrap ((r_1.length:Int)-1)),none,0,(fc rfl (fc rfl (fc rfl (fc rfl fn_)))),(hS7.sel [1,2,3,4] rfl rfl),hz⟩ ?_
 rintro k_ f w ⟨Gates,i,B3,c3,hf,hS6,hL⟩
 obtain ⟨K5,y,rfl,hb,hL1⟩:=whX_go hL
 unfold Dp at hb
 refine cq (cq (cr ?_))
 refine sQ 15 (ym (vi i) rfl (hf.g 5 3))<|sQ 16 (Y_ge (k:=.i64) (a:=i) (b:=0) rfl rfl rfl) (rn ?_)
 refine cw_cond (b:=(decide (0≤i))) rfl (fun hb1=>?_) (fun hb1=>?_)
 ·skip
  have hF2:=ct hb hb1
  refine cw_skip (cq (cw_block ?_))
  obtain ⟨x,hx,hF2⟩:=bI hF2
  obtain ⟨hap,hF2⟩:=chk_inv hF2
  refine cw_mid (fun f w=>∃ (B5:Option Addr) (c5:Nat),FF f [(2,pt (aD b1) 0),(3,.slice B2 r_1.length c2),(4,pt (aD b2) 0),(5,vi i)]∧ST w0 [] w [⟨aD b1,32,V4,2⟩,⟨B2,59,(r_1.flatMap eN0),c2*3⟩,⟨aD b2,32,[vi (m.Rows.length:Int),.slice B5 ((Gates++[x]).length) c5],2⟩,⟨B5,59,((Gates++[x]).flatMap eN0),c5*3⟩] [⟨B,(m.Rows.flatMap encI)⟩]) ?_ ?_
  ·skip
   refine ra_start (hS6.se [0,1]).fn (by kernel_rfl) ?_
   have hS9:=hS6.drew
   have hQ0:=hS9.se [0,1]
   let V1:List Value:=[vi x.Kind,vi x.A,vi x.B]
   refine rq 0 19 (v:=pt (aD b2) 1) rfl hQ0 (fun w' hw'=>(yd (aD b2) 0 0 K17 K11 rfl (hf.g 4 2)))<|rq 2 21 rfl hQ0 (fun w' hw'=>(ym (.slice B2 r_1.length c2) rfl (hf.g 3 1)))<|rq 3 22 rfl hQ0 (fun w' hw'=>(ym (vi i) rfl (hf.g 5 3)))<|rq 4 23 (v:=pt B2 (i.toNat*3)) rfl hQ0 (fun w' hw'=>(yI B2 i K4 K3 (gi_isSome eN2 rfl (ST.cf hw' (i:=1) rfl) hx) (getI_nn hx) (getI_ltI hx rfl)))<|rq 5 24 (v:=.agg V1.toArray) rfl hQ0 (fun w' hw'=>(ya B2 (i.toNat*3) (r_1.flatMap eN0) V1 K30 K3 (ST.cf hw' (i:=1) rfl) rfl rfl (eN2 x) (gi_seg eN2 hx))) ?_
   refine rA [1,6] ?_
   refine ry 20 1 rfl (yl (aD b2) 1 [vi (m.Rows.length:Int),.slice B3 Gates.length c3] (.slice B3 Gates.length c3) K18 (hS9.c 2)) hQ0 ?_ ?_
   ·skip
    refine rA [6] ?_
    refine rS 25 6 rfl (Ys_bslice (s:=3) (len:=1) (vs:=[(0,.agg V1.toArray)]) (cs:=V1) (zs:=[vi 0,vi 0,vi 0]) (m:=3) hS9 K4 K3 K26 rfl (mpc rfl mpn) rfl rfl rfl (by kernel_rfl) (by kernel_rfl) rfl) ?_ aN
    rintro _ w_5 ⟨b3,rfl,hS10⟩
    refine ⟨(hS10.se [0,1]),?_⟩
    refine rA [7] ?_
    refine rS 26 7 rfl (Ys_append (s:=3) (by':=24) (i:=3) (nn:=Gates.length) (c:=c3) (k:=1) (len:=(Gates++[x]).length) (B:=B3) (xs:=([x].flatMap eN0)) (cs':=((Gates++[x]).flatMap eN0)) hS10 K4 K3 K23 K10 rfl (by decide) rfl rfl rfl rfl (fm_lenn (l:=Gates) eN2 rfl) rfl (hS10.c 4) (fm_lenn (l:=[x]) eN2 rfl) (fm_one' (enc:=eN0) Al [x]) (by have:=hap; omega) (by have:=hap; simp only [maxLen]; omega) (fm_app _ _) (app_len (l:=Gates) (l':=[x]) rfl rfl)) ?_ aN
    rintro _ w_6 ⟨B4,c4,rfl,hS11⟩
    refine ⟨(hS11.se [0,1]),?_⟩
    refine rq 8 27 (v:=pt (aD b2) 1) rfl (hS11.se [0,1]) (fun w' hw'=>(yd (aD b2) 0 0 K17 K11 rfl (hf.g 4 2))) ?_
    refine rA [9] ?_
    refine rZ 9 rfl (yS 2 1 (aD b2) 32 (.slice B4 ((Gates++[x]).length) c4) [.slice B4 ((Gates++[x]).length) c4] 1 [vi (m.Rows.length:Int),.slice B4 ((Gates++[x]).length) c4] hS11 K11) ?_ aN
    rintro _ w_7 ⟨rfl,hS12⟩
    refine ⟨(hS12.se [0,1]),?_⟩
    refine ra_done (by kernel_rfl) ?_
    exact ⟨B4,c4,(hf.a 2 0 (hf.a 3 1 (hf.a 4 2 (hf.a 5 3 fn_)))),(hS12.sel [0,1,2,3] rfl rfl)⟩
   refine rS 25 6 rfl (Ys_bslice (s:=3) (len:=1) (vs:=[(0,.agg V1.toArray)]) (cs:=V1) (zs:=[vi 0,vi 0,vi 0]) (m:=3) hS9 K4 K3 K26 rfl (mpc rfl mpn) rfl rfl rfl (by kernel_rfl) (by kernel_rfl) rfl) ?_ aN
   rintro _ w_8 ⟨b3,rfl,hS13⟩
   refine ⟨(hS13.se [0,1]),?_⟩
   refine r1 20 1 rfl (yl (aD b2) 1 [vi (m.Rows.length:Int),.slice B3 Gates.length c3] (.slice B3 Gates.length c3) K18 (hS13.c 2)) (hS13.se [0,1]) ?_
   refine rA [7] ?_
   refine rS 26 7 rfl (Ys_append (s:=3) (by':=24) (i:=3) (nn:=Gates.length) (c:=c3) (k:=1) (len:=(Gates++[x]).length) (B:=B3) (xs:=([x].flatMap eN0)) (cs':=((Gates++[x]).flatMap eN0)) hS13 K4 K3 K23 K10 rfl (by decide) rfl rfl rfl rfl (fm_lenn (l:=Gates) eN2 rfl) rfl (hS13.c 4) (fm_lenn (l:=[x]) eN2 rfl) (fm_one' (enc:=eN0) Al [x]) (by have:=hap; omega) (by have:=hap; simp only [maxLen]; omega) (fm_app _ _) (app_len (l:=Gates) (l':=[x]) rfl rfl)) ?_ aN
   rintro _ w_9 ⟨B4,c4,rfl,hS14⟩
   refine ⟨(hS14.se [0,1]),?_⟩
   refine rq 8 27 (v:=pt (aD b2) 1) rfl (hS14.se [0,1]) (fun w' hw'=>(yd (aD b2) 0 0 K17 K11 rfl (hf.g 4 2))) ?_
   refine rA [9] ?_
   refine rZ 9 rfl (yS 2 1 (aD b2) 32 (.slice B4 ((Gates++[x]).length) c4) [.slice B4 ((Gates++[x]).length) c4] 1 [vi (m.Rows.length:Int),.slice B4 ((Gates++[x]).length) c4] hS14 K11) ?_ aN
   rintro _ w_10 ⟨rfl,hS15⟩
   refine ⟨(hS15.se [0,1]),?_⟩
   refine ra_done (by kernel_rfl) ?_
   exact ⟨B4,c4,(hf.a 2 0 (hf.a 3 1 (hf.a 4 2 (hf.a 5 3 fn_)))),(hS15.sel [0,1,2,3] rfl rfl)⟩
  rintro f w ⟨B5,c5,hf1,hS8⟩
  refine cr ?_
  refine sQ 17 (ym (vi i) rfl (hf1.g 5 3))<|sQ 18 (yM i 1)<|sQ 5 (yg (vi (i64.wrap (i-1)))) (rn ?_)
  obtain rfl:=sI hF2
  exact ⟨K5,Nat.lt_succ_self _,(Gates++[x]),(i64.wrap (i-1)),B5,c5,(hf1.a 2 0 (hf1.a 3 1 (hf1.a 4 2 (fc rfl fn_)))),(hS8.sel [0,1,2,3] rfl rfl),hL1⟩
 ·skip
  have hF3:=cf' hb hb1
  refine cw_exit rfl ?_
  obtain rfl:=sI hF3
  obtain rfl:=sI hL1
  refine cq (cr ?_)
  let V0:List Value:=[vi (m.Rows.length:Int),.slice B3 Gates.length c3]
  refine sQ 28 (yb (aD b2) 0 V0 K12 K7 (hS6.c 2) rfl (hf.g 4 2)) ?_
  refine s0 (yT 0 2 (aD b1) 32 (.agg V0.toArray) V0 0 hS6 K7 rfl (hf.g 2 0)) ?_
  rintro _ w_11 ⟨rfl,hS16⟩
  refine rn (ct_ ?_)
  obtain rfl:=sI hF1
  exact ret1 Tryz.results32 (v1:=.agg V0.toArray) (resAt_cellA (B:=aD b1) (i:=0) (cs:=V0) (vs:=V0) (hf.g 2 0) K12 K7 (hS16.c 0) rfl rfl) ⟨B3,c3,rfl,(hS16.sN [3])⟩

theorem Np (row:Int)  (w0:World)  (hS:ST w0 [] w0 [] []) {r_:List Int} (hF:DB row=some r_) :
  CV Tryz.prog 84 #[vi row] w0 (fun v w'=>∃ (B:Option Addr) (c:Nat),v=.slice B r_.length c∧ST w0 [] w' [⟨B,3,(r_.flatMap encI),c*1⟩] []):=by
 unfold DB at hF
 refine cv_of_cw 23 Tryz.func84 rfl Tryz.ntmps84 rfl ?_
 refine cq (cr ?_)
 refine sQ 2 (yg (.slice none 0 0)) (rn (cq (cr ?_)))
 refine sQ 3 (yg (.slice none 0 0)) (rn (cq (cq (cr ?_))))
 refine sQ 4 (yg (vi 0)) (rn ?_)
 obtain ⟨z,hz,hF1⟩:=bI hF
 have hS2:=hS.addNil 3
 refine cw_block ?_
 refine cw_loop (fun k f w=>∃ (out:List Int) (k_:Int) (B1:Option Addr) (c1:Nat),FF f [(0,vi row),(3,.slice B1 out.length c1),(4,vi k_)]∧ST w0 [] w [⟨B1,3,(out.flatMap encI),c1*1⟩] []∧whX (Gy row) k (out,k_)=some z) fuel ⟨[],0,none,0,(fc rfl (fc rfl (fc rfl fn_))),(hS2.sel [0] rfl rfl),hz⟩ ?_
 rintro K5 f w ⟨out,k_,B1,c1,hf,hS1,hL⟩
 obtain ⟨K19,y,rfl,hb,hL1⟩:=whX_go hL
 unfold Gy at hb
 refine cq (cq (cr ?_))
 refine sQ 5 (ym (vi row) rfl (hf.g 0 0))<|sQ 6 (ym (vi k_) rfl (hf.g 4 2))<|sQ 7 (Y_conv (k:=.i64) (a:=k_) (T:=3) (T':=77) K40 K41 rfl rfl) ?_
 obtain ⟨hsh,hb⟩:=chk_inv hb
 refine sQ 8 (Y_shr (k:=.i64) (a:=row) (k':=.u64) (b:=(IntKind.u64.wrap k_)) rfl rfl rfl hsh)<|sQ 9 (Y_gt (k:=.i64) (a:=(shrK .i64 row (IntKind.u64.wrap k_))) (b:=0) rfl rfl rfl) (rn ?_)
 refine cw_cond (b:=(decide (0<(shrK .i64 row (IntKind.u64.wrap k_))))) rfl (fun hb1=>?_) (fun hb1=>?_)
 ·skip
  have hF2:=ct hb hb1
  refine cw_skip (cq ?_)
  obtain ⟨z1,hz1,hF3⟩:=bI hF2
  refine cw_mid (fun f w=>∃ (out1:List Int) (B2:Option Addr) (c2:Nat),out1=z1∧FF f [(0,vi row),(3,.slice B2 out1.length c2),(4,vi k_)]∧ST w0 [] w [⟨B2,3,(out1.flatMap encI),c2*1⟩] []) ?_ ?_
  ·skip
   refine cw_block (cq (cr ?_))
   refine sQ 12 (ym (vi row) rfl (hf.g 0 0))<|sQ 13 (ym (vi k_) rfl (hf.g 4 2))<|sQ 14 (Y_conv (k:=.i64) (a:=k_) (T:=3) (T':=77) K40 K41 rfl rfl) ?_
   obtain ⟨hsh1,hz1⟩:=chk_inv hz1
   refine sQ 15 (Y_shr (k:=.i64) (a:=row) (k':=.u64) (b:=(IntKind.u64.wrap k_)) rfl rfl rfl hsh1)<|sQ 16 (Y_band (k:=.i64) (a:=(shrK .i64 row (IntKind.u64.wrap k_))) (b:=1) rfl rfl rfl)<|sQ 17 (yE (bits .and .i64 (shrK .i64 row (IntKind.u64.wrap k_)) 1) 1) (rn ?_)
   refine cw_cond (b:=((bits .and .i64 (shrK .i64 row (IntKind.u64.wrap k_)) 1)==1)) rfl (fun hb2=>?_) (fun hb2=>?_)
   ·skip
    have hF4:=ct hz1 hb2
    refine cr ?_
    refine sQ 18 (ym (.slice B1 out.length c1) rfl (hf.g 3 1))<|sQ 19 (ym (vi k_) rfl (hf.g 4 2)) ?_
    refine sS 20 (Ys_bslice (s:=1) (len:=1) (vs:=[(0,vi k_)]) (cs:=[vi k_]) (zs:=[vi 0]) (m:=1) hS1 K2 K0 K24 rfl (mpc rfl mpn) rfl rfl rfl (by kernel_rfl) (by kernel_rfl) rfl) ?_
    rintro _ w_ ⟨b,rfl,hS4⟩
    obtain ⟨hap,hF4⟩:=chk_inv hF4
    refine sS 21 (Ys_append (s:=1) (by':=8) (i:=0) (nn:=out.length) (c:=c1) (k:=1) (len:=(out++[k_]).length) (B:=B1) (xs:=([k_].flatMap encI)) (cs':=((out++[k_]).flatMap encI)) hS4 K2 K0 K31 K28 rfl (by decide) rfl rfl rfl rfl (fm_lenn (l:=out) encI_len rfl) rfl (hS4.c 1) (fm_lenn (l:=[k_]) encI_len rfl) (fm_one' (enc:=encI) encI_one [k_]) (by have:=hap; omega) (by have:=hap; simp only [maxLen]; omega) (fm_app _ _) (app_len (l:=out) (l':=[k_]) rfl rfl)) ?_
    rintro _ w_1 ⟨B3,c3,rfl,hS5⟩
    refine sQ 3 (yg (.slice B3 ((out++[k_]).length) c3)) (rn ?_)
    exact ⟨(out++[k_]),B3,c3,(sI hF4),(hf.a 0 0 (fc rfl (hf.a 4 2 fn_))),(hS5.sel [0] rfl rfl)⟩
   ·skip
    have hF5:=cf' hz1 hb2
    refine cw_skip ?_
    exact ⟨out,B1,c1,(sI hF5),(hf.a 0 0 (hf.a 3 1 (hf.a 4 2 fn_))),(hS1.sel [0] rfl rfl)⟩
  rintro f w ⟨out1,B2,c2,rfl,hf1,hS3⟩
  refine cr ?_
  refine sQ 10 (ym (vi k_) rfl (hf1.g 4 2))<|sQ 11 (yP k_ 1)<|sQ 4 (yg (vi (i64.wrap (k_+1)))) (rn ?_)
  obtain rfl:=sI hF3
  exact ⟨K19,Nat.lt_succ_self _,out1,(i64.wrap (k_+1)),B2,c2,(hf1.a 0 0 (hf1.a 3 1 (fc rfl fn_))),(hS3.sel [0] rfl rfl),hL1⟩
 ·skip
  have hF6:=cf' hb hb1
  refine cw_exit rfl ?_
  obtain rfl:=sI hF6
  obtain rfl:=sI hL1
  refine cq (cr ?_)
  refine sQ 22 (ym (.slice B1 out.length c1) rfl (hf.g 3 1))<|sQ 2 (yg (.slice B1 out.length c1)) (rn (ct_ ?_))
  obtain rfl:=sI hF1
  exact ret1 Tryz.results84 (v1:=.slice B1 out.length c1) (resAt_tmp rfl) ⟨B1,c1,rfl,(hS1.sN [0])⟩

theorem HG (first:Ad) (second:Ad) (B:Option Addr) (c n:Nat) (B1:Option Addr) (c1 n1:Nat) (w0:World) (hn:first.Rows.length=n) (hn1:second.Rows.length=n1) (hS:ST w0 [] w0 [] [⟨B,(first.Rows.flatMap encI)⟩,⟨B1,(second.Rows.flatMap encI)⟩]) {r_:Ad} (hF:DO first second=some r_) :
  CV Tryz.prog 33 #[.agg #[.slice B n c],.agg #[.slice B1 n1 c1]] w0 (fun v w'=>∃ (B2:Option Addr) (c2:Nat),v=.agg #[.slice B2 r_.Rows.length c2]∧ST w0 [] w' [⟨B2,3,(r_.Rows.flatMap encI),c2*1⟩] []):=by
 subst hn
 subst hn1
 unfold DO at hF
 refine cv_of_cw 41 Tryz.func33 rfl Tryz.ntmps33 rfl ?_
 refine cq (cr ?_)
 let V1:List Value:=[.slice B first.Rows.length c]
 refine sS 2 (yB 26 (.agg V1.toArray) V1 1 hS) ?_
 rintro _ w_ ⟨b,rfl,hS1⟩
 refine sS 3 (yB 26 (.agg #[.slice B1 second.Rows.length c1]) [.slice B1 second.Rows.length c1] 1 hS1) ?_
 rintro _ w_1 ⟨b1,rfl,hS2⟩
 refine sS 4 (yN [.slice none 0 0] 1 hS2 K22) ?_
 rintro _ w_2 ⟨b2,rfl,hS3⟩
 refine rn (cq (cr ?_))
 refine sS 5 (yN [.slice none 0 0] 1 hS3 K22) ?_
 rintro _ w_3 ⟨b3,rfl,hS4⟩
 refine rn (cq (cq (cr ?_)))
 refine sQ 11 (yd (aD b1) 0 0 K13 K8)<|sQ 12 (yl (aD b1) 0 [.slice B1 second.Rows.length c1] (.slice B1 second.Rows.length c1) K9 (hS4.c 1))<|sQ 13 (Y_len (B:=B1) (m:=second.Rows.length) (c:=c1) K2 rfl rfl)<|sQ 14 (ym (vi 0)) (rn ?_)
 obtain ⟨z,hz,hF1⟩:=bI hF
 have hS6:=hS4.addNil 3
 refine cw_block ?_
 refine cw_loop (fun k f w=>∃ (Rows:List Int) (t:Int) (B3:Option Addr) (c3:Nat),FF f [(2,pt (aD b) 0),(4,pt (aD b2) 0),(5,pt (aD b3) 0),(12,.slice B1 second.Rows.length c1),(13,vi (second.Rows.length:Int)),(14,vi t)]∧ST w0 [] w [⟨aD b,26,V1,1⟩,⟨aD b2,26,[.slice none 0 0],1⟩,⟨aD b3,26,[.slice B3 Rows.length c3],1⟩,⟨B3,3,(Rows.flatMap encI),c3*1⟩] [⟨B,(first.Rows.flatMap encI)⟩,⟨B1,(second.Rows.flatMap encI)⟩]∧whX (E1 second first) k (Rows,t)=some z) fuel ⟨[],0,none,0,(fc rfl (fc rfl (fc rfl (fc rfl (fc rfl (fc rfl fn_)))))),(hS6.sel [0,2,3,4] rfl rfl),hz⟩ ?_
 rintro k_ f w ⟨Rows,t,B3,c3,hf,hS5,hL⟩
 obtain ⟨K5,y,rfl,hb,hL1⟩:=whX_go hL
 unfold E1 at hb
 refine cq (cr ?_)
 refine sQ 15 (yL t (second.Rows.length:Int) rfl (hf.g 14 5) (hf.g 13 4)) (rn (cq ?_))
 refine cw_cond (b:=(decide (t<(second.Rows.length:Int)))) rfl (fun hb1=>?_) (fun hb1=>?_)
 ·skip
  have hF2:=ct hb hb1
  refine cw_skip (cq (cw_block (cq (cr ?_))))
  obtain ⟨x,hx,hF2⟩:=bI hF2
  refine sQ 16 (yI B1 t K2 K0 (gi_isSome encI_len rfl (hS5.rf (i:=1) rfl) hx) (getI_nn hx) (getI_ltI hx rfl) rfl (hf.g 12 3) (hf.g 14 5))<|sQ 17 (yl B1 (t.toNat*1) (second.Rows.flatMap encI) (vi x) K1 (hS5.rf (i:=1) rfl) rfl rfl (gi_at0 encI_len hx rfl))<|sQ 7 (yg (vi x)) (rn (cq (cr ?_)))
  refine sQ 8 (yg (vi 0)) (rn (cq (cq (cr ?_))))
  refine sQ 18 (ym (vi x)) ?_
  obtain ⟨r_1,hc,hF2⟩:=bI hF2
  refine sc 19 rfl rfl (yC [vi x] Pj (Np x _  (hS5.inn0 [] rfl) hc)) ?_
  rintro _ w_4 ⟨B4,c4,rfl,hd⟩
  have hS7:=hS5.out0 hd
  refine sQ 20 (Y_len (B:=B4) (m:=r_1.length) (c:=c4) K2 rfl rfl)<|sQ 21 (ym (vi 0)) (rn ?_)
  obtain ⟨hN,hF2⟩:=chk_inv hF2
  obtain ⟨z1,hz1,hF3⟩:=bI hF2
  refine cw_block ?_
  refine cw_loop (fun k f w=>∃ (i1:Nat) (x1:Int),FF f [(2,pt (aD b) 0),(4,pt (aD b2) 0),(5,pt (aD b3) 0),(8,vi x1),(12,.slice B1 second.Rows.length c1),(13,vi (second.Rows.length:Int)),(14,vi t),(19,.slice B4 r_1.length c4),(20,vi (r_1.length:Int)),(21,vi (i1:Int))]∧ST w0 [] w [⟨aD b,26,V1,1⟩,⟨aD b2,26,[.slice none 0 0],1⟩,⟨aD b3,26,[.slice B3 Rows.length c3],1⟩,⟨B3,3,(Rows.flatMap encI),c3*1⟩,⟨B4,3,(r_1.flatMap encI),c4*1⟩] [⟨B,(first.Rows.flatMap encI)⟩,⟨B1,(second.Rows.flatMap encI)⟩]∧i1+k=r_1.length∧forN (Cx r_1 first) k i1 x1=some z1) r_1.length ⟨0,0,(hf.a 2 0 (hf.a 4 1 (hf.a 5 2 (fc rfl (hf.a 12 3 (hf.a 13 4 (hf.a 14 5 (fc rfl (fc rfl (fc rfl fn_)))))))))),(hS7.sel [0,1,2,3,4] rfl rfl),Nat.zero_add _,hz1⟩ ?_
  rintro K19 f w ⟨i1,x1,hf1,hS8,hik1,hL2⟩
  refine cq (cr ?_)
  refine sQ 22 (yL (i1:Int) (r_1.length:Int) rfl (hf1.g 21 9) (hf1.g 20 8)) (rn (cq ?_))
  refine cw_cond (b:=(decide ((i1:Int)<(r_1.length:Int)))) rfl (fun hlt=>?_) (fun hlt=>?_)
  ·skip
   have hlt1:i1<r_1.length:=by have h:=of_decide_eq_true hlt; omega
   obtain ⟨K32,rfl⟩:∃ k2,K19=k2+1:=⟨K19-1,by omega⟩
   obtain ⟨y1,hb2,hL3⟩:=forN_go hL2
   unfold Cx at hb2
   refine cw_skip (cq (cw_block (cq (cr ?_))))
   obtain ⟨x2,hx1,hb2⟩:=bI hb2
   refine sQ 23 (yI B4 (i1:Int) K2 K0 (gi_isSome encI_len rfl (hS8.c 4) hx1) (getI_nn hx1) (getI_ltI hx1 rfl) rfl (hf1.g 19 7) (hf1.g 21 9))<|sQ 24 (yl B4 ((i1:Int).toNat*1) (r_1.flatMap encI) (vi x2) K1 (hS8.c 4) rfl rfl (gi_at0 encI_len hx1 rfl))<|sQ 10 (yg (vi x2)) (rn (cr ?_))
   refine sQ 25 (ym (vi x1) rfl (hf1.g 8 3))<|sQ 26 (yd (aD b) 0 0 K13 K8 rfl (hf1.g 2 0))<|sQ 27 (yl (aD b) 0 V1 (.slice B first.Rows.length c) K9 (hS8.c 0))<|sQ 28 (ym (vi x2)) ?_
   obtain ⟨x3,hx2,hb2⟩:=bI hb2
   refine sQ 29 (yI B x2 K2 K0 (gi_isSome encI_len rfl (hS8.rf (i:=0) rfl) hx2) (getI_nn hx2) (getI_ltI hx2 rfl))<|sQ 30 (yl B (x2.toNat*1) (first.Rows.flatMap encI) (vi x3) K1 (hS8.rf (i:=0) rfl) rfl rfl (gi_at0 encI_len hx2 rfl))<|sQ 31 (Y_bxor (k:=.i64) (a:=x1) (b:=x3) rfl rfl rfl)<|sQ 8 (yg (vi (bits .xor .i64 x1 x3))) (rn (cr ?_))
   refine sQ 32 (yP (i1:Int) 1 rfl (hf1.g 21 9))<|sQ 21 (ym (vi (i64.wrap ((i1:Int)+1)))) (rn ?_)
   obtain rfl:=sI hb2
   exact ⟨K32,Nat.lt_succ_self _,i1+1,(bits .xor .i64 x1 x3),(hf1.a 2 0 (hf1.a 4 1 (hf1.a 5 2 (fc rfl (hf1.a 12 4 (hf1.a 13 5 (hf1.a 14 6 (hf1.a 19 7 (hf1.a 20 8 (fc (congrArg (Value.int .i64) (wr_succ hlt1 hN)) fn_)))))))))),(hS8.sel [0,1,2,3,4] rfl rfl),(by omega),hL3⟩
  ·skip
   obtain rfl:K19=0:=by have h:=of_decide_eq_false hlt; omega
   refine cw_exit rfl ?_
   obtain rfl:=sI hL2
   refine cr ?_
   refine sQ 33 (yd (aD b3) 0 0 K13 K8 rfl (hf1.g 5 2))<|sQ 34 (yl (aD b3) 0 [.slice B3 Rows.length c3] (.slice B3 Rows.length c3) K9 (hS8.c 2))<|sQ 35 (ym (vi x1) rfl (hf1.g 8 3)) ?_
   refine sS 36 (Ys_bslice (s:=1) (len:=1) (vs:=[(0,vi x1)]) (cs:=[vi x1]) (zs:=[vi 0]) (m:=1) hS8 K2 K0 K24 rfl (mpc rfl mpn) rfl rfl rfl (by kernel_rfl) (by kernel_rfl) rfl) ?_
   rintro _ w_5 ⟨b4,rfl,hS9⟩
   obtain ⟨hap,hF3⟩:=chk_inv hF3
   refine sS 37 (Ys_append (s:=1) (by':=8) (i:=3) (nn:=Rows.length) (c:=c3) (k:=1) (len:=(Rows++[x1]).length) (B:=B3) (xs:=([x1].flatMap encI)) (cs':=((Rows++[x1]).flatMap encI)) hS9 K2 K0 K31 K28 rfl (by decide) rfl rfl rfl rfl (fm_lenn (l:=Rows) encI_len rfl) rfl (hS9.c 5) (fm_lenn (l:=[x1]) encI_len rfl) (fm_one' (enc:=encI) encI_one [x1]) (by have:=hap; omega) (by have:=hap; simp only [maxLen]; omega) (fm_app _ _) (app_len (l:=Rows) (l':=[x1]) rfl rfl)) ?_
   rintro _ w_6 ⟨B5,c5,rfl,hS10⟩
   refine sQ 38 (yd (aD b3) 0 0 K13 K8 rfl (hf1.g 5 2)) ?_
   refine s0 (yT 2 1 (aD b3) 26 (.slice B5 ((Rows++[x1]).length) c5) [.slice B5 ((Rows++[x1]).length) c5] 0 hS10 K8) ?_
   rintro _ w_7 ⟨rfl,hS11⟩
   refine rn (cr ?_)
   refine sQ 39 (yP t 1 rfl (hf1.g 14 6))<|sQ 14 (ym (vi (i64.wrap (t+1)))) (rn ?_)
   obtain rfl:=sI hF3
   exact ⟨K5,Nat.lt_succ_self _,(Rows++[x1]),(i64.wrap (t+1)),B5,c5,(hf1.a 2 0 (hf1.a 4 1 (hf1.a 5 2 (hf1.a 12 4 (hf1.a 13 5 (fc rfl fn_)))))),(hS11.sel [0,1,2,3] rfl rfl),hL1⟩
 ·skip
  have hF4:=cf' hb hb1
  refine cw_exit rfl ?_
  obtain rfl:=sI hF4
  obtain rfl:=sI hL1
  refine cq (cr ?_)
  let V0:List Value:=[.slice B3 Rows.length c3]
  refine sQ 40 (yb (aD b3) 0 V0 K16 K6 (hS5.c 2) rfl (hf.g 5 2)) ?_
  refine s0 (yT 1 1 (aD b2) 26 (.agg V0.toArray) V0 0 hS5 K6 rfl (hf.g 4 1)) ?_
  rintro _ w_8 ⟨rfl,hS12⟩
  refine rn (ct_ ?_)
  obtain rfl:=sI hF1
  exact ret1 Tryz.results33 (v1:=.agg V0.toArray) (resAt_cellA (B:=aD b2) (i:=0) (cs:=V0) (vs:=V0) (hf.g 4 1) K16 K6 (hS12.c 1) rfl rfl) ⟨B3,c3,rfl,(hS12.sN [3])⟩

theorem Jz (l:List Int) (n1:Int) (B:Option Addr) (c n:Nat) (w0:World) (hn:l.length=n) (hS:ST w0 [] w0 [] [⟨B,(l.flatMap encI)⟩]) {r_:Bool} (hF:Cl l n1=some r_) :
  CV Tryz.prog 85 #[.slice B n c,vi n1] w0 (fun v w'=>v=.bool r_∧ST w0 [] w' [] []):=by
 subst hn
 unfold Cl at hF
 refine cv_of_cw 17 Tryz.func85 rfl Tryz.ntmps85 rfl ?_
 refine cq (cr ?_)
 refine sQ 4 (yg (.bool false)) (rn (cq (cq (cr ?_))))
 refine sQ 7 (ym (.slice B l.length c))<|sQ 8 (Y_len (B:=B) (m:=l.length) (c:=c) K2 rfl rfl)<|sQ 9 (ym (vi 0)) (rn ?_)
 obtain ⟨hN,hF⟩:=chk_inv hF
 obtain ⟨z,hz,hF1⟩:=bI hF
 refine cw_block ?_
 refine cw_loop (fun k f w=>∃ (i:Nat),FF f [(1,vi n1),(7,.slice B l.length c),(8,vi (l.length:Int)),(9,vi (i:Int))]∧ST w0 [] w [] [⟨B,(l.flatMap encI)⟩]∧i+k=l.length∧forX (E9 l n1) k i ()=some z) l.length ⟨0,(fc rfl (fc rfl (fc rfl (fc rfl fn_)))),(hS.sel [] rfl rfl),Nat.zero_add _,hz⟩ ?_
 rintro k_ f w ⟨i,hf,hS1,hik,hL⟩
 refine cq (cr ?_)
 refine sQ 10 (yL (i:Int) (l.length:Int) rfl (hf.g 9 3) (hf.g 8 2)) (rn (cq ?_))
 refine cw_cond (b:=(decide ((i:Int)<(l.length:Int)))) rfl (fun hlt=>?_) (fun hlt=>?_)
 ·skip
  have hlt1:i<l.length:=by have h:=of_decide_eq_true hlt; omega
  obtain ⟨K5,rfl⟩:∃ k2,k_=k2+1:=⟨k_-1,by omega⟩
  obtain ⟨y,hb,hL1⟩:=forX_go hL
  unfold E9 at hb
  refine cw_skip (cq (cw_block (cq (cr ?_))))
  obtain ⟨x,hx,hb⟩:=bI hb
  refine sQ 11 (yI B (i:Int) K2 K0 (gi_isSome encI_len rfl (hS1.rf (i:=0) rfl) hx) (getI_nn hx) (getI_ltI hx rfl) rfl (hf.g 7 1) (hf.g 9 3))<|sQ 12 (yl B ((i:Int).toNat*1) (l.flatMap encI) (vi x) K1 (hS1.rf (i:=0) rfl) rfl rfl (gi_at0 encI_len hx rfl))<|sQ 6 (yg (vi x)) (rn (cq (cr ?_)))
  refine sQ 13 (ym (vi x))<|sQ 14 (ym (vi n1) rfl (hf.g 1 0))<|sQ 15 (yE x n1) (rn ?_)
  refine cw_cond (b:=(x==n1)) rfl (fun hb1=>?_) (fun hb1=>?_)
  ·skip
   have hF2:=ct hb hb1
   refine cq (cr ?_)
   refine sQ 4 (yg (.bool true)) (rn (ct_ ?_))
   obtain rfl:=sI hF2
   obtain rfl:=sI hL1
   obtain rfl:=sI hF1
   exact ret1 Tryz.results85 (v1:=.bool true) (resAt_tmp rfl) ⟨rfl,(hS1.sN [])⟩
  ·skip
   have hF3:=cf' hb hb1
   refine cw_skip (cr ?_)
   refine sQ 16 (yP (i:Int) 1 rfl (hf.g 9 3))<|sQ 9 (ym (vi (i64.wrap ((i:Int)+1)))) (rn ?_)
   obtain rfl:=sI hF3
   exact ⟨K5,Nat.lt_succ_self _,i+1,(hf.a 1 0 (hf.a 7 1 (hf.a 8 2 (fc (congrArg (Value.int .i64) (wr_succ hlt1 hN)) fn_)))),(hS1.sel [] rfl rfl),(by omega),hL1⟩
 ·skip
  obtain rfl:k_=0:=by have h:=of_decide_eq_false hlt; omega
  refine cw_exit rfl ?_
  obtain rfl:=sI hL
  refine cq (cr ?_)
  refine sQ 4 (yg (.bool false)) (rn (ct_ ?_))
  obtain rfl:=sI hF1
  exact ret1 Tryz.results85 (v1:=.bool false) (resAt_tmp rfl) ⟨rfl,(hS1.sN [])⟩

theorem Hw (q:Int) (coef:Int)  (w0:World)  (hS:ST w0 [] w0 [] []) {r_:List Aa} (hF:C5 q coef=some r_) :
  CV Tryz.prog 86 #[vi q,vi coef] w0 (fun v w'=>∃ (B:Option Addr) (c:Nat),v=.slice B r_.length c∧ST w0 [] w' [⟨B,59,(r_.flatMap eN0),c*3⟩] []):=by
 unfold C5 at hF
 refine cv_of_cw 32 Tryz.func86 rfl Tryz.ntmps86 rfl ?_
 refine cq (cr ?_)
 refine sQ 4 (yg (.slice none 0 0)) (rn (cq (cr ?_)))
 refine sQ 5 (yg (.slice none 0 0)) (rn (cq (cq (cr ?_))))
 refine sS 8 (Ys_bslice (s:=1) (len:=1) (vs:=[(0,vi 7)]) (cs:=[vi 7]) (zs:=[vi 0]) (m:=1) hS K2 K0 K24 rfl (mpc rfl mpn) rfl rfl rfl (by kernel_rfl) (by kernel_rfl) rfl) ?_
 rintro _ w_ ⟨b,rfl,hS1⟩
 refine sS 9 (Ys_bslice (s:=1) (len:=1) (vs:=[(0,vi 5)]) (cs:=[vi 5]) (zs:=[vi 0]) (m:=1) hS1 K2 K0 K24 rfl (mpc rfl mpn) rfl rfl rfl (by kernel_rfl) (by kernel_rfl) rfl) ?_
 rintro _ w_1 ⟨b1,rfl,hS2⟩
 refine sS 10 (Ys_bslice (s:=1) (len:=2) (vs:=[(0,vi 5),(1,vi 7)]) (cs:=[vi 5,vi 7]) (zs:=[vi 0,vi 0]) (m:=2) hS2 K2 K0 K24 rfl (mpc rfl (mpc rfl mpn)) rfl rfl rfl (by kernel_rfl) (by kernel_rfl) rfl) ?_
 rintro _ w_2 ⟨b2,rfl,hS3⟩
 refine sS 11 (Ys_bslice (s:=1) (len:=1) (vs:=[(0,vi 4)]) (cs:=[vi 4]) (zs:=[vi 0]) (m:=1) hS3 K2 K0 K24 rfl (mpc rfl mpn) rfl rfl rfl (by kernel_rfl) (by kernel_rfl) rfl) ?_
 rintro _ w_3 ⟨b3,rfl,hS4⟩
 refine sS 12 (Ys_bslice (s:=1) (len:=2) (vs:=[(0,vi 4),(1,vi 7)]) (cs:=[vi 4,vi 7]) (zs:=[vi 0,vi 0]) (m:=2) hS4 K2 K0 K24 rfl (mpc rfl (mpc rfl mpn)) rfl rfl rfl (by kernel_rfl) (by kernel_rfl) rfl) ?_
 rintro _ w_4 ⟨b4,rfl,hS5⟩
 refine sS 13 (Ys_bslice (s:=1) (len:=1) (vs:=[(0,vi 6)]) (cs:=[vi 6]) (zs:=[vi 0]) (m:=1) hS5 K2 K0 K24 rfl (mpc rfl mpn) rfl rfl rfl (by kernel_rfl) (by kernel_rfl) rfl) ?_
 rintro _ w_5 ⟨b5,rfl,hS6⟩
 refine sS 14 (Ys_bslice (s:=1) (len:=1) (vs:=[(0,vi 8)]) (cs:=[vi 8]) (zs:=[vi 0]) (m:=1) hS6 K2 K0 K24 rfl (mpc rfl mpn) rfl rfl rfl (by kernel_rfl) (by kernel_rfl) rfl) ?_
 rintro _ w_6 ⟨b6,rfl,hS7⟩
 have ho:Org w0 [] [] [⟨aD b,([7].flatMap encI)⟩]:=ST.orgOwn hS7 (i:=0) rfl
 have hcap:1≤1:=(hS7.lencap (i:=0) rfl (fm_lenn (l:=[7]) encI_len rfl) rfl rfl)
 have hS8:ST w0 [] _ [⟨aD b1,3,([5].flatMap encI),1*1⟩,⟨aD b2,3,([5,7].flatMap encI),2*1⟩,⟨aD b3,3,([4].flatMap encI),1*1⟩,⟨aD b4,3,([4,7].flatMap encI),2*1⟩,⟨aD b5,3,([6].flatMap encI),1*1⟩,⟨aD b6,3,([8].flatMap encI),1*1⟩] [⟨aD b,([7].flatMap encI)⟩]:=hS7.freeze (i:=0) rfl
 have ho1:Org w0 [] [] [⟨aD b1,([5].flatMap encI)⟩]:=ST.orgOwn hS8 (i:=0) rfl
 have hcap1:1≤1:=(hS8.lencap (i:=0) rfl (fm_lenn (l:=[5]) encI_len rfl) rfl rfl)
 have hS9:ST w0 [] _ [⟨aD b2,3,([5,7].flatMap encI),2*1⟩,⟨aD b3,3,([4].flatMap encI),1*1⟩,⟨aD b4,3,([4,7].flatMap encI),2*1⟩,⟨aD b5,3,([6].flatMap encI),1*1⟩,⟨aD b6,3,([8].flatMap encI),1*1⟩] [⟨aD b1,([5].flatMap encI)⟩,⟨aD b,([7].flatMap encI)⟩]:=hS8.freeze (i:=0) rfl
 have ho2:Org w0 [] [] [⟨aD b2,([5,7].flatMap encI)⟩]:=ST.orgOwn hS9 (i:=0) rfl
 have hcap2:2≤2:=(hS9.lencap (i:=0) rfl (fm_lenn (l:=[5,7]) encI_len rfl) rfl rfl)
 have hS10:ST w0 [] _ [⟨aD b3,3,([4].flatMap encI),1*1⟩,⟨aD b4,3,([4,7].flatMap encI),2*1⟩,⟨aD b5,3,([6].flatMap encI),1*1⟩,⟨aD b6,3,([8].flatMap encI),1*1⟩] [⟨aD b2,([5,7].flatMap encI)⟩,⟨aD b1,([5].flatMap encI)⟩,⟨aD b,([7].flatMap encI)⟩]:=hS9.freeze (i:=0) rfl
 have ho3:Org w0 [] [] [⟨aD b3,([4].flatMap encI)⟩]:=ST.orgOwn hS10 (i:=0) rfl
 have hcap3:1≤1:=(hS10.lencap (i:=0) rfl (fm_lenn (l:=[4]) encI_len rfl) rfl rfl)
 have hS11:ST w0 [] _ [⟨aD b4,3,([4,7].flatMap encI),2*1⟩,⟨aD b5,3,([6].flatMap encI),1*1⟩,⟨aD b6,3,([8].flatMap encI),1*1⟩] [⟨aD b3,([4].flatMap encI)⟩,⟨aD b2,([5,7].flatMap encI)⟩,⟨aD b1,([5].flatMap encI)⟩,⟨aD b,([7].flatMap encI)⟩]:=hS10.freeze (i:=0) rfl
 have ho4:Org w0 [] [] [⟨aD b4,([4,7].flatMap encI)⟩]:=ST.orgOwn hS11 (i:=0) rfl
 have hcap4:2≤2:=(hS11.lencap (i:=0) rfl (fm_lenn (l:=[4,7]) encI_len rfl) rfl rfl)
 have hS12:ST w0 [] _ [⟨aD b5,3,([6].flatMap encI),1*1⟩,⟨aD b6,3,([8].flatMap encI),1*1⟩] [⟨aD b4,([4,7].flatMap encI)⟩,⟨aD b3,([4].flatMap encI)⟩,⟨aD b2,([5,7].flatMap encI)⟩,⟨aD b1,([5].flatMap encI)⟩,⟨aD b,([7].flatMap encI)⟩]:=hS11.freeze (i:=0) rfl
 have ho5:Org w0 [] [] [⟨aD b5,([6].flatMap encI)⟩]:=ST.orgOwn hS12 (i:=0) rfl
 have hcap5:1≤1:=(hS12.lencap (i:=0) rfl (fm_lenn (l:=[6]) encI_len rfl) rfl rfl)
 have hS13:ST w0 [] _ [⟨aD b6,3,([8].flatMap encI),1*1⟩] [⟨aD b5,([6].flatMap encI)⟩,⟨aD b4,([4,7].flatMap encI)⟩,⟨aD b3,([4].flatMap encI)⟩,⟨aD b2,([5,7].flatMap encI)⟩,⟨aD b1,([5].flatMap encI)⟩,⟨aD b,([7].flatMap encI)⟩]:=hS12.freeze (i:=0) rfl
 have ho6:Org w0 [] [] [⟨aD b6,([8].flatMap encI)⟩]:=ST.orgOwn hS13 (i:=0) rfl
 have hcap6:1≤1:=(hS13.lencap (i:=0) rfl (fm_lenn (l:=[8]) encI_len rfl) rfl rfl)
 have hS14:ST w0 [] _ [] [⟨aD b6,([8].flatMap encI)⟩,⟨aD b5,([6].flatMap encI)⟩,⟨aD b4,([4,7].flatMap encI)⟩,⟨aD b3,([4].flatMap encI)⟩,⟨aD b2,([5,7].flatMap encI)⟩,⟨aD b1,([5].flatMap encI)⟩,⟨aD b,([7].flatMap encI)⟩]:=hS13.freeze (i:=0) rfl
 have hS15:ST w0 [] _ [] [⟨none,([].flatMap encI)⟩,⟨aD b6,([8].flatMap encI)⟩,⟨aD b5,([6].flatMap encI)⟩,⟨aD b4,([4,7].flatMap encI)⟩,⟨aD b3,([4].flatMap encI)⟩,⟨aD b2,([5,7].flatMap encI)⟩,⟨aD b1,([5].flatMap encI)⟩,⟨aD b,([7].flatMap encI)⟩]:=ST.nilRo hS14
 refine sS 15 (Ys_bslice (s:=1) (len:=8) (vs:=[(0,.slice none 0 0),(1,.slice (aD b) 1 1),(2,.slice (aD b1) 1 1),(3,.slice (aD b2) 2 2),(4,.slice (aD b3) 1 1),(5,.slice (aD b4) 2 2),(6,.slice (aD b5) 1 1),(7,.slice (aD b6) 1 1)]) (cs:=[.slice none 0 0,.slice (aD b) 1 1,.slice (aD b1) 1 1,.slice (aD b2) 2 2,.slice (aD b3) 1 1,.slice (aD b4) 2 2,.slice (aD b5) 1 1,.slice (aD b6) 1 1]) (zs:=[.slice none 0 0,.slice none 0 0,.slice none 0 0,.slice none 0 0,.slice none 0 0,.slice none 0 0,.slice none 0 0,.slice none 0 0]) (m:=8) hS15 H6 K8 N4 rfl (mpc rfl (mpc rfl (mpc rfl (mpc rfl (mpc rfl (mpc rfl (mpc rfl (mpc rfl mpn)))))))) rfl rfl rfl (by kernel_rfl) (by kernel_rfl) rfl) ?_
 rintro _ w_7 ⟨b7,rfl,hS16⟩
 have hm:∀ r∈(([((none,0),[]),((aD b,1),[7]),((aD b1,1),[5]),((aD b2,2),[5,7]),((aD b3,1),[4]),((aD b4,2),[4,7]),((aD b5,1),[6]),((aD b6,1),[8])]:List (Hd×(List Int))).flatMap Cq),r∈([⟨none,([].flatMap encI)⟩,⟨aD b6,([8].flatMap encI)⟩,⟨aD b5,([6].flatMap encI)⟩,⟨aD b4,([4,7].flatMap encI)⟩,⟨aD b3,([4].flatMap encI)⟩,⟨aD b2,([5,7].flatMap encI)⟩,⟨aD b1,([5].flatMap encI)⟩,⟨aD b,([7].flatMap encI)⟩]:List Ro):=(fsub_cons (sk 0 (fun _ h=>by cases h)) (fsub_cons (sk 7 (fun _ h=>by cases h)) (fsub_cons (sk 6 (fun _ h=>by cases h)) (fsub_cons (sk 5 (fun _ h=>by cases h)) (fsub_cons (sk 4 (fun _ h=>by cases h)) (fsub_cons (sk 3 (fun _ h=>by cases h)) (fsub_cons (sk 2 (fun _ h=>by cases h)) (fsub_cons (sk 1 (fun _ h=>by cases h)) fsub_nil))))))))
 have ho7:Org w0 [] [] (([((none,0),[]),((aD b,1),[7]),((aD b1,1),[5]),((aD b2,2),[5,7]),((aD b3,1),[4]),((aD b4,2),[4,7]),((aD b5,1),[6]),((aD b6,1),[8])]:List (Hd×(List Int))).flatMap Cq):=(forg_cons (org_cons org_none org_nil) (forg_cons (org_cons ho org_nil) (forg_cons (org_cons ho1 org_nil) (forg_cons (org_cons ho2 org_nil) (forg_cons (org_cons ho3 org_nil) (forg_cons (org_cons ho4 org_nil) (forg_cons (org_cons ho5 org_nil) (forg_cons (org_cons ho6 org_nil) forg_nil))))))))
 have hS17:ST w0 [] _ [⟨aD b7,24,(([((none,0),[]),((aD b,1),[7]),((aD b1,1),[5]),((aD b2,2),[5,7]),((aD b3,1),[4]),((aD b4,2),[4,7]),((aD b5,1),[6]),((aD b6,1),[8])]:List (Hd×(List Int))).flatMap Eg),8*1⟩] (⟨none,([].flatMap encI)⟩::⟨aD b6,([8].flatMap encI)⟩::⟨aD b5,([6].flatMap encI)⟩::⟨aD b4,([4,7].flatMap encI)⟩::⟨aD b3,([4].flatMap encI)⟩::⟨aD b2,([5,7].flatMap encI)⟩::⟨aD b1,([5].flatMap encI)⟩::⟨aD b,([7].flatMap encI)⟩::((([((none,0),[]),((aD b,1),[7]),((aD b1,1),[5]),((aD b2,2),[5,7]),((aD b3,1),[4]),((aD b4,2),[4,7]),((aD b5,1),[6]),((aD b6,1),[8])]:List (Hd×(List Int))).flatMap Cq)++[])):=ST.subR hS16 (sk 0 (sk 1 (sk 2 (sk 3 (sk 4 (sk 5 (sk 6 (sk 7 (suba hm (fun _ h=>by cases h))))))))))
 refine sQ 16 (ym (vi coef)) ?_
 obtain ⟨x,hx,hF⟩:=bI hF
 obtain ⟨⟨B1,c1⟩,hp⟩:=getI_snd (show List.map Prod.snd ([((none,0),[]),((aD b,1),[7]),((aD b1,1),[5]),((aD b2,2),[5,7]),((aD b3,1),[4]),((aD b4,2),[4,7]),((aD b5,1),[6]),((aD b6,1),[8])]:List (Hd×(List Int)))=([[],[7],[5],[5,7],[4],[4,7],[6],[8]]:List (List Int)) from rfl) hx
 refine sQ 17 (yI (aD b7) coef H6 K8 (gi_isSome Iy rfl (hS17.c 0) hp) (getI_nn hp) (getI_ltI hp rfl)) ?_
 let R0:Ro:=⟨B1,(x.flatMap encI)⟩
 have hm1:(R0:Ro)∈((⟨none,([].flatMap encI)⟩::⟨aD b6,([8].flatMap encI)⟩::⟨aD b5,([6].flatMap encI)⟩::⟨aD b4,([4,7].flatMap encI)⟩::⟨aD b3,([4].flatMap encI)⟩::⟨aD b2,([5,7].flatMap encI)⟩::⟨aD b1,([5].flatMap encI)⟩::⟨aD b,([7].flatMap encI)⟩::((([((none,0),[]),((aD b,1),[7]),((aD b1,1),[5]),((aD b2,2),[5,7]),((aD b3,1),[4]),((aD b4,2),[4,7]),((aD b5,1),[6]),((aD b6,1),[8])]:List (Hd×(List Int))).flatMap Cq)++[])):List Ro):=app_mem (fun r_ (h:r_∈((([((none,0),[]),((aD b,1),[7]),((aD b1,1),[5]),((aD b2,2),[5,7]),((aD b3,1),[4]),((aD b4,2),[4,7]),((aD b5,1),[6]),((aD b6,1),[8])]:List (Hd×(List Int))).flatMap Cq):List Ro))=>mOd (i:=8) (show r_∈((((([((none,0),[]),((aD b,1),[7]),((aD b1,1),[5]),((aD b2,2),[5,7]),((aD b3,1),[4]),((aD b4,2),[4,7]),((aD b5,1),[6]),((aD b6,1),[8])]:List (Hd×(List Int))).flatMap Cq)++[])):List Ro) from mAl _ h)) (row_mem (rw_:=Cq) hp _ (mt 0))
 have hS18:ST w0 [] _ [⟨aD b7,24,(([((none,0),[]),((aD b,1),[7]),((aD b1,1),[5]),((aD b2,2),[5,7]),((aD b3,1),[4]),((aD b4,2),[4,7]),((aD b5,1),[6]),((aD b6,1),[8])]:List (Hd×(List Int))).flatMap Eg),8*1⟩] (R0::⟨none,([].flatMap encI)⟩::⟨aD b6,([8].flatMap encI)⟩::⟨aD b5,([6].flatMap encI)⟩::⟨aD b4,([4,7].flatMap encI)⟩::⟨aD b3,([4].flatMap encI)⟩::⟨aD b2,([5,7].flatMap encI)⟩::⟨aD b1,([5].flatMap encI)⟩::⟨aD b,([7].flatMap encI)⟩::((([((none,0),[]),((aD b,1),[7]),((aD b1,1),[5]),((aD b2,2),[5,7]),((aD b3,1),[4]),((aD b4,2),[4,7]),((aD b5,1),[6]),((aD b6,1),[8])]:List (Hd×(List Int))).flatMap Cq)++[])):=ST.subR hS17 (subc hm1 (fun _ h=>h))
 refine sQ 18 (yl (aD b7) (coef.toNat*1) (([((none,0),[]),((aD b,1),[7]),((aD b1,1),[5]),((aD b2,2),[5,7]),((aD b3,1),[4]),((aD b4,2),[4,7]),((aD b5,1),[6]),((aD b6,1),[8])]:List (Hd×(List Int))).flatMap Eg) (.slice B1 x.length c1) K9 (hS18.c 0) rfl rfl (gi_at0 Iy hp rfl))<|sQ 19 (Y_len (B:=B1) (m:=x.length) (c:=c1) K2 rfl rfl)<|sQ 20 (ym (vi 0)) (rn ?_)
 obtain ⟨hN,hF⟩:=chk_inv hF
 obtain ⟨z,hz,hF1⟩:=bI hF
 have hS20:=hS18.addNil 59
 have hS21:ST w0 [] _ [⟨aD b7,24,(([((none,0),[]),((aD b,1),[7]),((aD b1,1),[5]),((aD b2,2),[5,7]),((aD b3,1),[4]),((aD b4,2),[4,7]),((aD b5,1),[6]),((aD b6,1),[8])]:List (Hd×(List Int))).flatMap Eg),8*1⟩,⟨none,59,([].flatMap eN0),0*3⟩] [R0,⟨none,([].flatMap encI)⟩,⟨aD b6,([8].flatMap encI)⟩,⟨aD b5,([6].flatMap encI)⟩,⟨aD b4,([4,7].flatMap encI)⟩,⟨aD b3,([4].flatMap encI)⟩,⟨aD b2,([5,7].flatMap encI)⟩,⟨aD b1,([5].flatMap encI)⟩,⟨aD b,([7].flatMap encI)⟩]:=hS20.sT [0,1,2,3,4,5,6,7,8]
 refine cw_block ?_
 refine cw_loop (fun k f w=>∃ (i:Nat) (out:List Aa) (B2:Option Addr) (c2:Nat),FF f [(0,vi q),(5,.slice B2 out.length c2),(18,.slice B1 x.length c1),(19,vi (x.length:Int)),(20,vi (i:Int))]∧ST w0 [] w [⟨B2,59,(out.flatMap eN0),c2*3⟩] [R0,⟨none,([].flatMap encI)⟩,⟨aD b6,([8].flatMap encI)⟩,⟨aD b5,([6].flatMap encI)⟩,⟨aD b4,([4,7].flatMap encI)⟩,⟨aD b3,([4].flatMap encI)⟩,⟨aD b2,([5,7].flatMap encI)⟩,⟨aD b1,([5].flatMap encI)⟩,⟨aD b,([7].flatMap encI)⟩]∧i+k=x.length∧forN (Gl x q) k i out=some z) x.length ⟨0,[],none,0,(fc rfl (fc rfl (fc rfl (fc rfl (fc rfl fn_))))),(hS21.sel [1] rfl rfl),Nat.zero_add _,hz⟩ ?_
 rintro k_ f w ⟨i,out,B2,c2,hf,hS19,hik,hL⟩
 refine cq (cr ?_)
 refine sQ 21 (yL (i:Int) (x.length:Int) rfl (hf.g 20 4) (hf.g 19 3)) (rn (cq ?_))
 refine cw_cond (b:=(decide ((i:Int)<(x.length:Int)))) rfl (fun hlt=>?_) (fun hlt=>?_)
 ·skip
  have hlt1:i<x.length:=by have h:=of_decide_eq_true hlt; omega
  obtain ⟨K5,rfl⟩:∃ k2,k_=k2+1:=⟨k_-1,by omega⟩
  obtain ⟨y,hb,hL1⟩:=forN_go hL
  unfold Gl at hb
  refine cw_skip (cq (cw_block (cq (cr ?_))))
  obtain ⟨x1,hx1,hb⟩:=bI hb
  refine sQ 22 (yI B1 (i:Int) K2 K0 (gi_isSome encI_len rfl (hS19.rf (i:=0) rfl) hx1) (getI_nn hx1) (getI_ltI hx1 rfl) rfl (hf.g 18 2) (hf.g 20 4))<|sQ 23 (yl B1 ((i:Int).toNat*1) (x.flatMap encI) (vi x1) K1 (hS19.rf (i:=0) rfl) rfl rfl (gi_at0 encI_len hx1 rfl))<|sQ 7 (yg (vi x1)) (rn (cr ?_))
  refine sQ 24 (ym (.slice B2 out.length c2) rfl (hf.g 5 1))<|sQ 25 (ym (vi x1))<|sQ 26 (ym (vi q) rfl (hf.g 0 0))<|sQ 27 (Y_buildS (zs:=[vi 0,vi 0,vi 0]) (vs:=[(0,vi x1),(1,vi q)]) (cs:=[vi x1,vi q,vi 0]) K33 K10 rfl (mpc rfl (mpc rfl mpn)) rfl) ?_
  refine sS 28 (Ys_bslice (s:=3) (len:=1) (vs:=[(0,.agg #[vi x1,vi q,vi 0])]) (cs:=[vi x1,vi q,vi 0]) (zs:=[vi 0,vi 0,vi 0]) (m:=3) hS19 K4 K3 K26 rfl (mpc rfl mpn) rfl rfl rfl (by kernel_rfl) (by kernel_rfl) rfl) ?_
  rintro _ w_8 ⟨b8,rfl,hS22⟩
  obtain ⟨hap,hb⟩:=chk_inv hb
  refine sS 29 (Ys_append (s:=3) (by':=24) (i:=0) (nn:=out.length) (c:=c2) (k:=1) (len:=(out++[(Aa.mk x1 q 0)]).length) (B:=B2) (xs:=([(Aa.mk x1 q 0)].flatMap eN0)) (cs':=((out++[(Aa.mk x1 q 0)]).flatMap eN0)) hS22 K4 K3 K23 K10 rfl (by decide) rfl rfl rfl rfl (fm_lenn (l:=out) eN2 rfl) rfl (hS22.c 1) (fm_lenn (l:=[(Aa.mk x1 q 0)]) eN2 rfl) (fm_one' (enc:=eN0) Al [(Aa.mk x1 q 0)]) (by have:=hap; omega) (by have:=hap; simp only [maxLen]; omega) (fm_app _ _) (app_len (l:=out) (l':=[(Aa.mk x1 q 0)]) rfl rfl)) ?_
  rintro _ w_9 ⟨B3,c3,rfl,hS23⟩
  refine sQ 5 (yg (.slice B3 ((out++[(Aa.mk x1 q 0)]).length) c3)) (rn (cr ?_))
  refine sQ 30 (yP (i:Int) 1 rfl (hf.g 20 4))<|sQ 20 (ym (vi (i64.wrap ((i:Int)+1)))) (rn ?_)
  obtain rfl:=sI hb
  exact ⟨K5,Nat.lt_succ_self _,i+1,(out++[(Aa.mk x1 q 0)]),B3,c3,(hf.a 0 0 (fc rfl (hf.a 18 2 (hf.a 19 3 (fc (congrArg (Value.int .i64) (wr_succ hlt1 hN)) fn_))))),(hS23.sel [0] rfl rfl),(by omega),hL1⟩
 ·skip
  obtain rfl:k_=0:=by have h:=of_decide_eq_false hlt; omega
  refine cw_exit rfl ?_
  obtain rfl:=sI hL
  refine cq (cr ?_)
  refine sQ 31 (ym (.slice B2 out.length c2) rfl (hf.g 5 1))<|sQ 4 (yg (.slice B2 out.length c2)) (rn (ct_ ?_))
  obtain rfl:=sI hF1
  exact ret1 Tryz.results86 (v1:=.slice B2 out.length c2) (resAt_tmp rfl) ⟨B2,c2,rfl,(hS19.sN [0])⟩

theorem Ji (c:Ae) (terms:List Ab) (B:Option Addr) (c1 n:Nat) (B1:Option Addr) (c2 n1:Nat) (w0:World) (hn:c.Gates.length=n) (hn1:terms.length=n1) (hS:ST w0 [] w0 [] [⟨B,(c.Gates.flatMap eN0)⟩,⟨B1,(terms.flatMap eN1)⟩]) {r_:Ae} {r_1:Int} (hF:Ch c terms=some (r_,r_1)) :
  CV Tryz.prog 34 #[.agg #[vi c.Qubits,.slice B n c1],.slice B1 n1 c2] w0 (fun v w'=>∃ (B2:Option Addr) (c3:Nat),v=.tuple #[.agg #[vi r_.Qubits,.slice B2 r_.Gates.length c3],vi r_1]∧ST w0 [] w' [⟨B2,59,(r_.Gates.flatMap eN0),c3*3⟩] []):=by
 subst hn
 subst hn1
 unfold Ch at hF
 refine cv_of_cw 110 Tryz.func34 rfl Tryz.ntmps34 rfl ?_
 refine cq (cr ?_)
 let V7:List Value:=[vi c.Qubits,.slice B c.Gates.length c1]
 refine sS 2 (yB 32 (.agg V7.toArray) V7 2 hS) ?_
 rintro _ w_ ⟨b,rfl,hS1⟩
 refine sS 4 (yN [vi 0,.slice none 0 0] 2 hS1 K21) ?_
 rintro _ w_1 ⟨b1,rfl,hS2⟩
 refine sQ 5 (yg (vi 0)) (rn (cq (cr ?_)))
 let V11:List Value:=[vi c.Qubits,.slice none 0 0]
 refine sQ 17 (yd (aD b) 0 0 K36 K0)<|sQ 18 (yl (aD b) 0 V7 (vi c.Qubits) K1 (hS2.c 0))<|sQ 19 (Y_buildS (zs:=[vi 0,.slice none 0 0]) (vs:=[(0,vi c.Qubits)]) (cs:=V11) K46 K21 rfl (mpc rfl mpn) rfl) ?_
 refine sS 6 (yN [vi 0,.slice none 0 0] 2 hS2 K21) ?_
 rintro _ w_2 ⟨b2,rfl,hS3⟩
 refine s0 (yT 2 2 (aD b2) 32 (.agg V11.toArray) V11 0 hS3 K7) ?_
 rintro _ w_3 ⟨rfl,hS4⟩
 refine rn (cq (cr ?_))
 refine sQ 20 (yd (aD b) 0 0 K36 K0)<|sQ 21 (yl (aD b) 0 V7 (vi c.Qubits) K1 (hS4.c 0)) ?_
 obtain ⟨r_2,hc,hF⟩:=bI hF
 refine sc 22 rfl rfl (yC [vi c.Qubits] K76 (DM c.Qubits _  (hS4.inn0 [] rfl) hc)) ?_
 rintro _ w_4 ⟨B3,c4,rfl,hd⟩
 have hS5:=hS4.out0 hd
 refine sS 7 (yN [.slice none 0 0] 1 hS5 K22) ?_
 rintro _ w_5 ⟨b3,rfl,hS6⟩
 refine s0 (yT 4 1 (aD b3) 26 (.agg #[.slice B3 r_2.Rows.length c4]) [.slice B3 r_2.Rows.length c4] 0 hS6 K6) ?_
 rintro _ w_6 ⟨rfl,hS7⟩
 refine rn (cq (cr ?_))
 refine sQ 8 (yg (.slice none 0 0)) (rn (cq (cr ?_)))
 refine sQ 9 (yg (.slice none 0 0)) (rn (cq (cq (cr ?_))))
 refine sQ 10 (yg (vi 0)) (rn ?_)
 obtain ⟨hN,hF⟩:=chk_inv hF
 obtain ⟨z,hz,hF1⟩:=bI hF
 have hS9:=hS7.addNil 3
 refine cw_block ?_
 let O0:Ob:=⟨aD b,32,V7,2⟩
 let O1:Ob:=⟨aD b1,32,[vi 0,.slice none 0 0],2⟩
 let R5:Ro:=⟨B,(c.Gates.flatMap eN0)⟩
 let R6:Ro:=⟨B1,(terms.flatMap eN1)⟩
 refine cw_loop (fun k f w=>∃ (q:Nat) (at_:List Int) (B4:Option Addr) (c5:Nat),FF f [(1,.slice B1 terms.length c2),(2,pt (aD b) 0),(4,pt (aD b1) 0),(6,pt (aD b2) 0),(7,pt (aD b3) 0),(8,.slice none 0 0),(9,.slice B4 at_.length c5),(10,vi (q:Int))]∧ST w0 [] w [O0,O1,⟨aD b2,32,V11,2⟩,⟨aD b3,26,[.slice B3 r_2.Rows.length c4],1⟩,⟨B3,3,(r_2.Rows.flatMap encI),c4*1⟩,⟨B4,3,(at_.flatMap encI),c5*1⟩] [R5,R6]∧q+k=c.Qubits.toNat∧forN DA k q at_=some z) c.Qubits.toNat ⟨0,[],none,0,(fc rfl (fc rfl (fc rfl (fc rfl (fc rfl (fc rfl (fc rfl (fc rfl fn_)))))))),(hS9.sel [0,1,2,4,3,5] rfl rfl),Nat.zero_add _,hz⟩ ?_
 rintro k_ f w ⟨q,at_,B4,c5,hf,hS8,hik,hL⟩
 refine cq (cq (cr ?_))
 refine sQ 23 (ym (vi (q:Int)) rfl (hf.g 10 7))<|sQ 24 (yd (aD b) 0 0 K36 K0 rfl (hf.g 2 1))<|sQ 25 (yl (aD b) 0 V7 (vi c.Qubits) K1 (hS8.c 0))<|sQ 26 (yL (q:Int) c.Qubits) (rn ?_)
 refine cw_cond (b:=(decide ((q:Int)<c.Qubits))) rfl (fun hlt=>?_) (fun hlt=>?_)
 ·skip
  have hlt1:q<c.Qubits.toNat:=by have h:=of_decide_eq_true hlt; omega
  obtain ⟨K5,rfl⟩:∃ k2,k_=k2+1:=⟨k_-1,by omega⟩
  obtain ⟨y,hb,hL1⟩:=forN_go hL
  unfold DA at hb
  refine cw_skip (cq (cw_block (cr ?_)))
  refine sQ 29 (ym (.slice B4 at_.length c5) rfl (hf.g 9 6))<|sQ 30 (ym (vi (q:Int)) rfl (hf.g 10 7)) ?_
  refine sS 31 (Ys_bslice (s:=1) (len:=1) (vs:=[(0,vi (q:Int))]) (cs:=[vi (q:Int)]) (zs:=[vi 0]) (m:=1) hS8 K2 K0 K24 rfl (mpc rfl mpn) rfl rfl rfl (by kernel_rfl) (by kernel_rfl) rfl) ?_
  rintro _ w_7 ⟨b4,rfl,hS10⟩
  obtain ⟨hap,hb⟩:=chk_inv hb
  refine sS 32 (Ys_append (s:=1) (by':=8) (i:=5) (nn:=at_.length) (c:=c5) (k:=1) (len:=(at_++[(q:Int)]).length) (B:=B4) (xs:=([(q:Int)].flatMap encI)) (cs':=((at_++[(q:Int)]).flatMap encI)) hS10 K2 K0 K31 K28 rfl (by decide) rfl rfl rfl rfl (fm_lenn (l:=at_) encI_len rfl) rfl (hS10.c 6) (fm_lenn (l:=[(q:Int)]) encI_len rfl) (fm_one' (enc:=encI) encI_one [(q:Int)]) (by have:=hap; omega) (by have:=hap; simp only [maxLen]; omega) (fm_app _ _) (app_len (l:=at_) (l':=[(q:Int)]) rfl rfl)) ?_
  rintro _ w_8 ⟨B5,c6,rfl,hS11⟩
  refine sQ 9 (yg (.slice B5 ((at_++[(q:Int)]).length) c6)) (rn (cr ?_))
  refine sQ 27 (ym (vi (q:Int)) rfl (hf.g 10 7))<|sQ 28 (yP (q:Int) 1)<|sQ 10 (yg (vi (i64.wrap ((q:Int)+1)))) (rn ?_)
  obtain rfl:=sI hb
  exact ⟨K5,Nat.lt_succ_self _,q+1,(at_++[(q:Int)]),B5,c6,(hf.a 1 0 (hf.a 2 1 (hf.a 4 2 (hf.a 6 3 (hf.a 7 4 (hf.a 8 5 (fc rfl (fc (congrArg (Value.int .i64) (wr_succ hlt1 hN)) fn_)))))))),(hS11.sel [0,1,2,3,4,5] rfl rfl),(by omega),hL1⟩
 ·skip
  obtain rfl:k_=0:=by have h:=of_decide_eq_false hlt; omega
  refine cw_exit rfl ?_
  obtain rfl:=sI hL
  refine cq (cq (cr ?_))
  refine sQ 11 (yg (vi 0)) (rn ?_)
  obtain ⟨z1,hz1,hF2⟩:=bI hF1
  have hS13:=hS8.addNil 59
  have hS14:=hS13.addNil 3
  refine cw_block ?_
  refine cw_loop (fun k f w=>∃ (Gates:List Aa) (Rows:List Int) (done:List Int) (at_1:List Int) (i1:Int) (B6:Option Addr) (c7:Nat) (B7:Option Addr) (c8:Nat) (B8:Option Addr) (c9:Nat) (B9:Option Addr) (c10:Nat),FF f [(1,.slice B1 terms.length c2),(2,pt (aD b) 0),(4,pt (aD b1) 0),(6,pt (aD b2) 0),(7,pt (aD b3) 0),(8,.slice B8 done.length c9),(9,.slice B9 at_1.length c10),(11,vi i1)]∧ST w0 [] w [O0,O1,⟨aD b2,32,[vi c.Qubits,.slice B6 Gates.length c7],2⟩,⟨B6,59,(Gates.flatMap eN0),c7*3⟩,⟨aD b3,26,[.slice B7 Rows.length c8],1⟩,⟨B7,3,(Rows.flatMap encI),c8*1⟩,⟨B8,3,(done.flatMap encI),c9*1⟩,⟨B9,3,(at_1.flatMap encI),c10*1⟩] [R5,R6]∧whX (Bh c terms) k (Gates,Rows,done,at_1,i1)=some z1) fuel ⟨[],r_2.Rows,[],at_,0,none,0,B3,c4,none,0,B4,c5,(hf.a 1 0 (hf.a 2 1 (hf.a 4 2 (hf.a 6 3 (hf.a 7 4 (hf.a 8 5 (hf.a 9 6 (fc rfl fn_)))))))),(hS14.sel [0,1,2,6,3,4,7,5] rfl rfl),hz1⟩ ?_
  rintro K19 f w ⟨Gates,Rows,done,at_1,i1,B6,c7,B7,c8,B8,c9,B9,c10,hf1,hS12,hL2⟩
  obtain ⟨K32,y1,rfl,hb1,hL3⟩:=whX_go hL2
  unfold Bh at hb1
  refine cq (cq (cr ?_))
  refine sQ 33 (ym (vi i1) rfl (hf1.g 11 7))<|sQ 34 (yd (aD b) 0 0 K17 K11 rfl (hf1.g 2 1))<|sQ 35 (yl (aD b) 1 V7 (.slice B c.Gates.length c1) K18 (hS12.c 0))<|sQ 36 (Y_len (B:=B) (m:=c.Gates.length) (c:=c1) K4 rfl rfl)<|sQ 37 (Y_le (k:=.i64) (a:=i1) (b:=(c.Gates.length:Int)) rfl rfl rfl) (rn ?_)
  refine cw_cond (b:=(decide (i1≤(c.Gates.length:Int)))) rfl (fun hb2=>?_) (fun hb2=>?_)
  ·skip
   have hF3:=ct hb1 hb2
   refine cw_skip (cq ?_)
   obtain ⟨z2,hz2,hF4⟩:=bI hF3
   refine cw_mid (fun f w=>∃ (Gates1:List Aa) (Rows1:List Int) (done1:List Int) (at_2:List Int) (B10:Option Addr) (c11:Nat) (B11:Option Addr) (c12:Nat) (B12:Option Addr) (c13:Nat) (B13:Option Addr) (c14:Nat),(Gates1,Rows1,done1,at_2)=z2∧FF f [(1,.slice B1 terms.length c2),(2,pt (aD b) 0),(4,pt (aD b1) 0),(6,pt (aD b2) 0),(7,pt (aD b3) 0),(8,.slice B12 done1.length c13),(9,.slice B13 at_2.length c14),(11,vi i1)]∧ST w0 [] w [O0,O1,⟨aD b2,32,[vi c.Qubits,.slice B10 Gates1.length c11],2⟩,⟨B10,59,(Gates1.flatMap eN0),c11*3⟩,⟨aD b3,26,[.slice B11 Rows1.length c12],1⟩,⟨B11,3,(Rows1.flatMap encI),c12*1⟩,⟨B12,3,(done1.flatMap encI),c13*1⟩,⟨B13,3,(at_2.flatMap encI),c14*1⟩] [R5,R6]) ?_ ?_
   ·skip
    refine cw_block (cq (cq (cr ?_)))
    refine sQ 40 (ym (.slice B9 at_1.length c10) rfl (hf1.g 9 6))<|sQ 41 (Y_len (B:=B9) (m:=at_1.length) (c:=c10) K2 rfl rfl)<|sQ 42 (ym (vi 0)) (rn ?_)
    obtain ⟨hN1,hz2⟩:=chk_inv hz2
    obtain ⟨z3,hz3,hF5⟩:=bI hz2
    refine cw_block ?_
    let O2:Ob:=⟨aD b3,26,[.slice B7 Rows.length c8],1⟩
    let O3:Ob:=⟨B9,3,(at_1.flatMap encI),c10*1⟩
    let O4:Ob:=⟨B7,3,(Rows.flatMap encI),c8*1⟩
    refine cw_loop (fun k f w=>∃ (i2:Nat) (Gates2:List Aa) (done2:List Int) (B14:Option Addr) (c15:Nat) (B15:Option Addr) (c16:Nat),FF f [(1,.slice B1 terms.length c2),(2,pt (aD b) 0),(4,pt (aD b1) 0),(6,pt (aD b2) 0),(7,pt (aD b3) 0),(8,.slice B15 done2.length c16),(9,.slice B9 at_1.length c10),(11,vi i1),(40,.slice B9 at_1.length c10),(41,vi (at_1.length:Int)),(42,vi (i2:Int))]∧ST w0 [] w [O0,O1,⟨aD b2,32,[vi c.Qubits,.slice B14 Gates2.length c15],2⟩,⟨B14,59,(Gates2.flatMap eN0),c15*3⟩,O2,O4,⟨B15,3,(done2.flatMap encI),c16*1⟩,O3] [R5,R6]∧i2+k=at_1.length∧forN (BS at_1 terms Rows) k i2 (Gates2,done2)=some z3) at_1.length ⟨0,Gates,done,B6,c7,B8,c9,(hf1.a 1 0 (hf1.a 2 1 (hf1.a 4 2 (hf1.a 6 3 (hf1.a 7 4 (hf1.a 8 5 (hf1.a 9 6 (hf1.a 11 7 (fc rfl (fc rfl (fc rfl fn_))))))))))),(hS12.sel [0,1,2,3,4,5,6,7] rfl rfl),Nat.zero_add _,hz3⟩ ?_
    rintro K38 f w ⟨i2,Gates2,done2,B14,c15,B15,c16,hf3,hS16,hik2,hL4⟩
    refine cq (cr ?_)
    refine sQ 43 (yL (i2:Int) (at_1.length:Int) rfl (hf3.g 42 10) (hf3.g 41 9)) (rn (cq ?_))
    refine cw_cond (b:=(decide ((i2:Int)<(at_1.length:Int)))) rfl (fun hlt2=>?_) (fun hlt2=>?_)
    ·skip
     have hlt3:i2<at_1.length:=by have h:=of_decide_eq_true hlt2; omega
     obtain ⟨K53,rfl⟩:∃ k2,K38=k2+1:=⟨K38-1,by omega⟩
     obtain ⟨y2,hb3,hL5⟩:=forN_go hL4
     unfold BS at hb3
     refine cw_skip (cq (cw_block (cq (cr ?_))))
     obtain ⟨x,hx,hb3⟩:=bI hb3
     refine sQ 44 (yI B9 (i2:Int) K2 K0 (gi_isSome encI_len rfl (hS16.c 7) hx) (getI_nn hx) (getI_ltI hx rfl) rfl (hf3.g 40 8) (hf3.g 42 10))<|sQ 45 (yl B9 ((i2:Int).toNat*1) (at_1.flatMap encI) (vi x) K1 (hS16.c 7) rfl rfl (gi_at0 encI_len hx rfl))<|sQ 13 (yg (vi x)) (rn (cq (cr ?_)))
     refine sQ 46 (ym (.slice B1 terms.length c2) rfl (hf3.g 1 0))<|sQ 47 (Y_len (B:=B1) (m:=terms.length) (c:=c2) K14 rfl rfl)<|sQ 48 (ym (vi 0)) (rn ?_)
     obtain ⟨hN2,hb3⟩:=chk_inv hb3
     obtain ⟨z4,hz4,hF6⟩:=bI hb3
     refine cw_block ?_
     refine cw_loop (fun k f w=>∃ (i3:Nat) (Gates3:List Aa) (done3:List Int) (B16:Option Addr) (c17:Nat) (B17:Option Addr) (c18:Nat),FF f [(1,.slice B1 terms.length c2),(2,pt (aD b) 0),(4,pt (aD b1) 0),(6,pt (aD b2) 0),(7,pt (aD b3) 0),(8,.slice B17 done3.length c18),(9,.slice B9 at_1.length c10),(11,vi i1),(13,vi x),(40,.slice B9 at_1.length c10),(41,vi (at_1.length:Int)),(42,vi (i2:Int)),(46,.slice B1 terms.length c2),(47,vi (terms.length:Int)),(48,vi (i3:Int))]∧ST w0 [] w [O0,O1,⟨aD b2,32,[vi c.Qubits,.slice B16 Gates3.length c17],2⟩,⟨B16,59,(Gates3.flatMap eN0),c17*3⟩,O2,O4,⟨B17,3,(done3.flatMap encI),c18*1⟩,O3] [R5,R6]∧i3+k=terms.length∧forN (Em terms Rows x) k i3 (Gates3,done3)=some z4) terms.length ⟨0,Gates2,done2,B14,c15,B15,c16,(hf3.a 1 0 (hf3.a 2 1 (hf3.a 4 2 (hf3.a 6 3 (hf3.a 7 4 (hf3.a 8 5 (hf3.a 9 6 (hf3.a 11 7 (fc rfl (hf3.a 40 8 (hf3.a 41 9 (hf3.a 42 10 (fc rfl (fc rfl (fc rfl fn_))))))))))))))),(hS16.sel [0,1,2,3,4,5,6,7] rfl rfl),Nat.zero_add _,hz4⟩ ?_
     rintro K60 f w ⟨i3,Gates3,done3,B16,c17,B17,c18,hf4,hS17,hik3,hL6⟩
     refine cq (cr ?_)
     refine sQ 49 (yL (i3:Int) (terms.length:Int) rfl (hf4.g 48 14) (hf4.g 47 13)) (rn (cq ?_))
     refine cw_cond (b:=(decide ((i3:Int)<(terms.length:Int)))) rfl (fun hlt4=>?_) (fun hlt4=>?_)
     ·skip
      have hlt5:i3<terms.length:=by have h:=of_decide_eq_true hlt4; omega
      obtain ⟨K92,rfl⟩:∃ k2,K60=k2+1:=⟨K60-1,by omega⟩
      obtain ⟨y3,hb4,hL7⟩:=forN_go hL6
      unfold Em at hb4
      refine cw_skip (cq ?_)
      obtain ⟨z5,hz5,hF7⟩:=bI hb4
      refine cw_mid (fun f w=>∃ (Gates4:List Aa) (done4:List Int) (B18:Option Addr) (c19:Nat) (B19:Option Addr) (c20:Nat),(Gates4,done4)=z5∧FF f [(1,.slice B1 terms.length c2),(2,pt (aD b) 0),(4,pt (aD b1) 0),(6,pt (aD b2) 0),(7,pt (aD b3) 0),(8,.slice B19 done4.length c20),(9,.slice B9 at_1.length c10),(11,vi i1),(13,vi x),(40,.slice B9 at_1.length c10),(41,vi (at_1.length:Int)),(42,vi (i2:Int)),(46,.slice B1 terms.length c2),(47,vi (terms.length:Int)),(48,vi (i3:Int))]∧ST w0 [] w [O0,O1,⟨aD b2,32,[vi c.Qubits,.slice B18 Gates4.length c19],2⟩,⟨B18,59,(Gates4.flatMap eN0),c19*3⟩,O2,O4,⟨B19,3,(done4.flatMap encI),c20*1⟩,O3] [R5,R6]) ?_ ?_
      ·skip
       refine cw_block (cq (cr ?_))
       obtain ⟨x1,hx1,hz5⟩:=bI hz5
       let V10:List Value:=[vi x1.Mask,vi x1.Coef]
       refine sQ 50 (yI B1 (i3:Int) K14 K15 (gi_isSome eN3 rfl (hS17.rf (i:=1) rfl) hx1) (getI_nn hx1) (getI_ltI hx1 rfl) rfl (hf4.g 46 12) (hf4.g 48 14))<|sQ 51 (ya B1 ((i3:Int).toNat*2) (terms.flatMap eN1) V10 K51 K15 (hS17.rf (i:=1) rfl) rfl rfl (eN3 x1) (gi_seg eN3 hx1)) ?_
       refine sS 15 (yN [vi 0,vi 0] 2 hS17 K37) ?_
       rintro _ w_9 ⟨b5,rfl,hS19⟩
       refine s0 (yT 8 2 (aD b5) 64 (.agg V10.toArray) V10 0 hS19 K15) ?_
       rintro _ w_10 ⟨rfl,hS20⟩
       refine rn (cq ?_)
       obtain ⟨x2,hx2,hz5⟩:=bI hz5
       obtain ⟨r_3,hc1,hz5⟩:=bI hz5
       refine ra_start (hS20.se [0,1,2,3,4,5,6,7,8]).fn (by kernel_rfl) ?_
       have hS22:=hS20.drew
       have hQ0:=hS22.se [0,1,2,3,4,5,6,7,8]
       refine rq 0 52 (v:=pt (aD b5) 0) rfl hQ0 (fun w' hw'=>(yd (aD b5) 0 0 K49 K0))<|rq 1 53 rfl hQ0 (fun w' hw'=>(yl (aD b5) 0 V10 (vi x1.Mask) K1 (ST.cf hw' (i:=8) rfl)))<|rq 2 54 (v:=pt (aD b3) 0) rfl hQ0 (fun w' hw'=>(yd (aD b3) 0 0 K13 K8 rfl (hf4.g 7 4)))<|rq 3 55 rfl hQ0 (fun w' hw'=>(yl (aD b3) 0 [.slice B7 Rows.length c8] (.slice B7 Rows.length c8) K9 (ST.cf hw' (i:=4) rfl)))<|rq 4 56 rfl hQ0 (fun w' hw'=>(ym (vi x) rfl (hf4.g 13 8))) ?_
       refine rq 5 57 (v:=pt B7 (x.toNat*1)) rfl hQ0 (fun w' hw'=>(yI B7 x K2 K0 (gi_isSome encI_len rfl (ST.cf hw' (i:=5) rfl) hx2) (getI_nn hx2) (getI_ltI hx2 rfl)))<|rq 6 58 rfl hQ0 (fun w' hw'=>(yl B7 (x.toNat*1) (Rows.flatMap encI) (vi x2) K1 (ST.cf hw' (i:=5) rfl) rfl rfl (gi_at0 encI_len hx2 rfl)))<|rq 7 59 rfl hQ0 (fun w' hw'=>(yE x1.Mask x2))<|rq 8 60 rfl hQ0 (fun w' hw'=>(ym (.bool (x1.Mask==x2))))<|rG 9 61 (B:=(x1.Mask==x2)) rfl rfl rfl (uT_ 60) hQ0 (fun hg w' hw'=>(ym (.slice B17 done3.length c18) rfl (hf4.g 8 5))) ?_
       refine rG 10 62 (B:=(x1.Mask==x2)) (v:=pt (aD b5) 0) rfl rfl rfl (uT_ 60) hQ0 (fun hg1 w' hw'=>(yd (aD b5) 0 0 K49 K0))<|rG 11 63 (B:=(x1.Mask==x2)) rfl rfl rfl (uT_ 60) hQ0 (fun hg2 w' hw'=>(yl (aD b5) 0 V10 (vi x1.Mask) K1 (ST.cf hw' (i:=8) rfl) rfl (gv_of (v:=pt (aD b5) 0) hg2))) ?_
       refine rA [12] ?_
       refine ra_gc 64 (i:=12) (B:=(x1.Mask==x2)) (v:=.bool r_3) (F:=hS22.fn) rfl rfl rfl (uT_ 60) hS22 (fun hg3=>(yC [.slice B17 done3.length c18,vi x1.Mask] Ip (CV.mono (Jz done3 x1.Mask B17 c18 done3.length _ rfl (hS22.inn0 [(false,6)] rfl) (gb_inv hc1 hg3)) (by rintro _ _ ⟨rfl,h⟩; exact ⟨rfl,hS22.out00 h⟩)) rfl (mc (gv_of (v:=.slice B17 done3.length c18) hg3) (mc (gv_of (v:=vi x1.Mask) hg3) mn)))) ?_ ?_
       ·rintro w_11 hS23
        have hQ1:=hS23.se [0,1,2,3,4,5,6,7,8]
        refine ⟨hQ1,?_⟩
        refine rG 13 65 (B:=(x1.Mask==x2)) (v:=.bool (!r_3)) rfl rfl rfl (uT_ 60) hQ1 (fun hg4 w' hw'=>(Y_not (p:=r_3) rfl (gv_of (v:=.bool r_3) hg4)))<|rq 14 66 (v:=.bool ((x1.Mask==x2)&&(!r_3))) rfl hQ1 (fun w' hw'=>(Y_and (b:=(x1.Mask==x2)) (z:=(!r_3)) rfl rfl rfl rfl)) ?_
        refine ra_done (by kernel_rfl) ?_
        refine cw_cond (b:=((x1.Mask==x2)&&(!r_3))) rfl (fun hb5=>?_) (fun hb5=>?_)
        ·skip
         have hF8:=ct hz5 hb5
         refine cq (cr ?_)
         refine sQ 67 (ym (.slice B17 done3.length c18) rfl (hf4.g 8 5))<|sQ 68 (yd (aD b5) 0 0 K49 K0)<|sQ 69 (yl (aD b5) 0 V10 (vi x1.Mask) K1 (hS23.c 8)) ?_
         refine sS 70 (Ys_bslice (s:=1) (len:=1) (vs:=[(0,vi x1.Mask)]) (cs:=[vi x1.Mask]) (zs:=[vi 0]) (m:=1) hS23 K2 K0 K24 rfl (mpc rfl mpn) rfl rfl rfl (by kernel_rfl) (by kernel_rfl) rfl) ?_
         rintro _ w_12 ⟨b6,rfl,hS24⟩
         obtain ⟨hap1,hF8⟩:=chk_inv hF8
         refine sS 71 (Ys_append (s:=1) (by':=8) (i:=6) (nn:=done3.length) (c:=c18) (k:=1) (len:=(done3++[x1.Mask]).length) (B:=B17) (xs:=([x1.Mask].flatMap encI)) (cs':=((done3++[x1.Mask]).flatMap encI)) hS24 K2 K0 K31 K28 rfl (by decide) rfl rfl rfl rfl (fm_lenn (l:=done3) encI_len rfl) rfl (hS24.c 9) (fm_lenn (l:=[x1.Mask]) encI_len rfl) (fm_one' (enc:=encI) encI_one [x1.Mask]) (by have:=hap1; omega) (by have:=hap1; simp only [maxLen]; omega) (fm_app _ _) (app_len (l:=done3) (l':=[x1.Mask]) rfl rfl)) ?_
         rintro _ w_13 ⟨B20,c21,rfl,hS25⟩
         refine sQ 8 (yg (.slice B20 ((done3++[x1.Mask]).length) c21)) (rn ?_)
         obtain ⟨r_4,hc2,hF8⟩:=bI hF8
         obtain ⟨hap2,hF8⟩:=chk_inv hF8
         refine cw_mid (fun f w=>∃ (B23:Option Addr) (c24:Nat),FF f [(1,.slice B1 terms.length c2),(2,pt (aD b) 0),(4,pt (aD b1) 0),(6,pt (aD b2) 0),(7,pt (aD b3) 0),(8,.slice B20 ((done3++[x1.Mask]).length) c21),(9,.slice B9 at_1.length c10),(11,vi i1),(13,vi x),(40,.slice B9 at_1.length c10),(41,vi (at_1.length:Int)),(42,vi (i2:Int)),(46,.slice B1 terms.length c2),(47,vi (terms.length:Int)),(48,vi (i3:Int))]∧ST w0 [] w [O0,O1,⟨aD b2,32,[vi c.Qubits,.slice B23 ((Gates3++r_4).length) c24],2⟩,⟨B23,59,((Gates3++r_4).flatMap eN0),c24*3⟩,O2,O4,⟨B20,3,((done3++[x1.Mask]).flatMap encI),c21*1⟩,O3] [R5,R6]) ?_ ?_
         ·skip
          refine ra_start (hS25.se [0,1,4,5,6,7,8,9]).fn (by kernel_rfl) ?_
          have hS28:=hS25.drew
          have hQ2:=hS28.se [0,1,4,5,6,7,8,9]
          refine rq 0 72 (v:=pt (aD b2) 1) rfl hQ2 (fun w' hw'=>(yd (aD b2) 0 0 K17 K11 rfl (hf4.g 6 3)))<|rq 2 74 rfl hQ2 (fun w' hw'=>(ym (vi x) rfl (hf4.g 13 8)))<|rq 3 75 (v:=pt (aD b5) 1) rfl hQ2 (fun w' hw'=>(yd (aD b5) 0 0 K77 K0))<|rq 4 76 rfl hQ2 (fun w' hw'=>(yl (aD b5) 1 V10 (vi x1.Coef) K1 (ST.cf hw' (i:=6) rfl))) ?_
          refine rA [1,5] ?_
          refine ry 73 1 rfl (yl (aD b2) 1 [vi c.Qubits,.slice B16 Gates3.length c17] (.slice B16 Gates3.length c17) K18 (hS28.c 2)) hQ2 ?_ ?_
          ·skip
           refine rA [5] ?_
           refine rC 77 5 rfl (yC [vi x,vi x1.Coef] HM (Hw x x1.Coef _  (hS28.inn0 [] rfl) hc2)) ?_ aN
           rintro _ w_14 ⟨B21,c22,rfl,hd1⟩
           have hS29:=hS28.out0 hd1
           refine ⟨(hS29.se [0,1,4,5,6,7,8,9]),?_⟩
           refine rA [6] ?_
           refine rS 78 6 rfl (Ys_append (s:=3) (by':=24) (i:=3) (nn:=Gates3.length) (c:=c17) (k:=r_4.length) (len:=(Gates3++r_4).length) (B:=B16) (xs:=(r_4.flatMap eN0)) (cs':=((Gates3++r_4).flatMap eN0)) hS29 K4 K3 K23 K10 rfl (by decide) rfl rfl rfl rfl (fm_lenn (l:=Gates3) eN2 rfl) rfl (hS29.c 10) (fm_lenn (l:=r_4) eN2 rfl) (fm_one' (enc:=eN0) Al r_4) (by have:=hap2; omega) (by have:=hap2; simp only [maxLen]; omega) (fm_app _ _) (app_len (l:=Gates3) (l':=r_4) rfl rfl)) ?_ aN
           rintro _ w_15 ⟨B22,c23,rfl,hS30⟩
           refine ⟨(hS30.se [0,1,4,5,6,7,8,9]),?_⟩
           refine rq 7 79 (v:=pt (aD b2) 1) rfl (hS30.se [0,1,4,5,6,7,8,9]) (fun w' hw'=>(yd (aD b2) 0 0 K17 K11 rfl (hf4.g 6 3))) ?_
           refine rA [8] ?_
           refine rZ 8 rfl (yS 2 1 (aD b2) 32 (.slice B22 ((Gates3++r_4).length) c23) [.slice B22 ((Gates3++r_4).length) c23] 1 [vi c.Qubits,.slice B22 ((Gates3++r_4).length) c23] hS30 K11) ?_ aN
           rintro _ w_16 ⟨rfl,hS31⟩
           refine ⟨(hS31.se [0,1,4,5,6,7,8,9]),?_⟩
           refine ra_done (by kernel_rfl) ?_
           exact ⟨B22,c23,(hf4.a 1 0 (hf4.a 2 1 (hf4.a 4 2 (hf4.a 6 3 (hf4.a 7 4 (fc rfl (hf4.a 9 6 (hf4.a 11 7 (hf4.a 13 8 (hf4.a 40 9 (hf4.a 41 10 (hf4.a 42 11 (hf4.a 46 12 (hf4.a 47 13 (hf4.a 48 14 fn_))))))))))))))),(hS31.sel [0,1,2,3,4,5,6,7] rfl rfl)⟩
          refine rC 77 5 rfl (yC [vi x,vi x1.Coef] HM (Hw x x1.Coef _  (hS28.inn0 [] rfl) hc2)) ?_ aN
          rintro _ w_17 ⟨B21,c22,rfl,hd2⟩
          have hS32:=hS28.out0 hd2
          refine ⟨(hS32.se [0,1,4,5,6,7,8,9]),?_⟩
          refine r1 73 1 rfl (yl (aD b2) 1 [vi c.Qubits,.slice B16 Gates3.length c17] (.slice B16 Gates3.length c17) K18 (hS32.c 2)) (hS32.se [0,1,4,5,6,7,8,9]) ?_
          refine rA [6] ?_
          refine rS 78 6 rfl (Ys_append (s:=3) (by':=24) (i:=3) (nn:=Gates3.length) (c:=c17) (k:=r_4.length) (len:=(Gates3++r_4).length) (B:=B16) (xs:=(r_4.flatMap eN0)) (cs':=((Gates3++r_4).flatMap eN0)) hS32 K4 K3 K23 K10 rfl (by decide) rfl rfl rfl rfl (fm_lenn (l:=Gates3) eN2 rfl) rfl (hS32.c 10) (fm_lenn (l:=r_4) eN2 rfl) (fm_one' (enc:=eN0) Al r_4) (by have:=hap2; omega) (by have:=hap2; simp only [maxLen]; omega) (fm_app _ _) (app_len (l:=Gates3) (l':=r_4) rfl rfl)) ?_ aN
          rintro _ w_18 ⟨B22,c23,rfl,hS33⟩
          refine ⟨(hS33.se [0,1,4,5,6,7,8,9]),?_⟩
          refine rq 7 79 (v:=pt (aD b2) 1) rfl (hS33.se [0,1,4,5,6,7,8,9]) (fun w' hw'=>(yd (aD b2) 0 0 K17 K11 rfl (hf4.g 6 3))) ?_
          refine rA [8] ?_
          refine rZ 8 rfl (yS 2 1 (aD b2) 32 (.slice B22 ((Gates3++r_4).length) c23) [.slice B22 ((Gates3++r_4).length) c23] 1 [vi c.Qubits,.slice B22 ((Gates3++r_4).length) c23] hS33 K11) ?_ aN
          rintro _ w_19 ⟨rfl,hS34⟩
          refine ⟨(hS34.se [0,1,4,5,6,7,8,9]),?_⟩
          refine ra_done (by kernel_rfl) ?_
          exact ⟨B22,c23,(hf4.a 1 0 (hf4.a 2 1 (hf4.a 4 2 (hf4.a 6 3 (hf4.a 7 4 (fc rfl (hf4.a 9 6 (hf4.a 11 7 (hf4.a 13 8 (hf4.a 40 9 (hf4.a 41 10 (hf4.a 42 11 (hf4.a 46 12 (hf4.a 47 13 (hf4.a 48 14 fn_))))))))))))))),(hS34.sel [0,1,2,3,4,5,6,7] rfl rfl)⟩
         rintro f w ⟨B23,c24,hf6,hS27⟩
         exact ⟨(Gates3++r_4),(done3++[x1.Mask]),B23,c24,B20,c21,(sI hF8),(hf6.a 1 0 (hf6.a 2 1 (hf6.a 4 2 (hf6.a 6 3 (hf6.a 7 4 (hf6.a 8 5 (hf6.a 9 6 (hf6.a 11 7 (hf6.a 13 8 (hf6.a 40 9 (hf6.a 41 10 (hf6.a 42 11 (hf6.a 46 12 (hf6.a 47 13 (hf6.a 48 14 fn_))))))))))))))),(hS27.sel [0,1,2,3,4,5,6,7] rfl rfl)⟩
        ·skip
         have hF9:=cf' hz5 hb5
         refine cw_skip ?_
         exact ⟨Gates3,done3,B16,c17,B17,c18,(sI hF9),(hf4.a 1 0 (hf4.a 2 1 (hf4.a 4 2 (hf4.a 6 3 (hf4.a 7 4 (hf4.a 8 5 (hf4.a 9 6 (hf4.a 11 7 (hf4.a 13 8 (hf4.a 40 9 (hf4.a 41 10 (hf4.a 42 11 (hf4.a 46 12 (hf4.a 47 13 (hf4.a 48 14 fn_))))))))))))))),(hS23.sel [0,1,2,3,4,5,6,7] rfl rfl)⟩
       exact aN
      rintro f w ⟨Gates4,done4,B18,c19,B19,c20,rfl,hf5,hS18⟩
      refine cr ?_
      refine sQ 80 (yP (i3:Int) 1 rfl (hf5.g 48 14))<|sQ 48 (ym (vi (i64.wrap ((i3:Int)+1)))) (rn ?_)
      obtain rfl:=sI hF7
      exact ⟨K92,Nat.lt_succ_self _,i3+1,Gates4,done4,B18,c19,B19,c20,(hf5.a 1 0 (hf5.a 2 1 (hf5.a 4 2 (hf5.a 6 3 (hf5.a 7 4 (hf5.a 8 5 (hf5.a 9 6 (hf5.a 11 7 (hf5.a 13 8 (hf5.a 40 9 (hf5.a 41 10 (hf5.a 42 11 (hf5.a 46 12 (hf5.a 47 13 (fc (congrArg (Value.int .i64) (wr_succ hlt5 hN2)) fn_))))))))))))))),(hS18.sel [0,1,2,3,4,5,6,7] rfl rfl),(by omega),hL7⟩
     ·skip
      obtain rfl:K60=0:=by have h:=of_decide_eq_false hlt4; omega
      refine cw_exit rfl ?_
      obtain rfl:=sI hL6
      refine cr ?_
      refine sQ 81 (yP (i2:Int) 1 rfl (hf4.g 42 11))<|sQ 42 (ym (vi (i64.wrap ((i2:Int)+1)))) (rn ?_)
      obtain rfl:=sI hF6
      exact ⟨K53,Nat.lt_succ_self _,i2+1,Gates3,done3,B16,c17,B17,c18,(hf4.a 1 0 (hf4.a 2 1 (hf4.a 4 2 (hf4.a 6 3 (hf4.a 7 4 (hf4.a 8 5 (hf4.a 9 6 (hf4.a 11 7 (hf4.a 40 9 (hf4.a 41 10 (fc (congrArg (Value.int .i64) (wr_succ hlt3 hN1)) fn_))))))))))),(hS17.sel [0,1,2,3,4,5,6,7] rfl rfl),(by omega),hL5⟩
    ·skip
     obtain rfl:K38=0:=by have h:=of_decide_eq_false hlt2; omega
     refine cw_exit rfl ?_
     obtain rfl:=sI hL4
     refine cq (cr ?_)
     refine sQ 82 (ym (vi i1) rfl (hf3.g 11 7))<|sQ 83 (yd (aD b) 0 0 K17 K11 rfl (hf3.g 2 1))<|sQ 84 (yl (aD b) 1 V7 (.slice B c.Gates.length c1) K18 (hS16.c 0))<|sQ 85 (Y_len (B:=B) (m:=c.Gates.length) (c:=c1) K4 rfl rfl)<|sQ 86 (yL i1 (c.Gates.length:Int)) (rn ?_)
     refine cw_cond (b:=(decide (i1<(c.Gates.length:Int)))) rfl (fun hb6=>?_) (fun hb6=>?_)
     ·skip
      have hF10:=ct hF5 hb6
      refine cq (cr ?_)
      refine sQ 87 (yd (aD b) 0 0 K17 K11 rfl (hf3.g 2 1))<|sQ 88 (yl (aD b) 1 V7 (.slice B c.Gates.length c1) K18 (hS16.c 0))<|sQ 89 (ym (vi i1) rfl (hf3.g 11 7)) ?_
      obtain ⟨x3,hx3,hF10⟩:=bI hF10
      let V9:List Value:=[vi x3.Kind,vi x3.A,vi x3.B]
      refine sQ 90 (yI B i1 K4 K3 (gi_isSome eN2 rfl (hS16.rf (i:=0) rfl) hx3) (getI_nn hx3) (getI_ltI hx3 rfl))<|sQ 91 (ya B (i1.toNat*3) (c.Gates.flatMap eN0) V9 K30 K3 (hS16.rf (i:=0) rfl) rfl rfl (eN2 x3) (gi_seg eN2 hx3)) ?_
      refine sS 16 (yN [vi 0,vi 0,vi 0] 3 hS16 K10) ?_
      rintro _ w_20 ⟨b7,rfl,hS35⟩
      refine s0 (yT 8 3 (aD b7) 59 (.agg V9.toArray) V9 0 hS35 K3) ?_
      rintro _ w_21 ⟨rfl,hS36⟩
      refine rn (cq (cr ?_))
      refine sQ 92 (yd (aD b2) 0 0 K17 K11 rfl (hf3.g 6 3))<|sQ 93 (yl (aD b2) 1 [vi c.Qubits,.slice B14 Gates2.length c15] (.slice B14 Gates2.length c15) K18 (hS36.c 2))<|sQ 94 (yb (aD b7) 0 V9 K30 K3 (hS36.c 8)) ?_
      refine sS 95 (Ys_bslice (s:=3) (len:=1) (vs:=[(0,.agg V9.toArray)]) (cs:=V9) (zs:=[vi 0,vi 0,vi 0]) (m:=3) hS36 K4 K3 K26 rfl (mpc rfl mpn) rfl rfl rfl (by kernel_rfl) (by kernel_rfl) rfl) ?_
      rintro _ w_22 ⟨b8,rfl,hS37⟩
      obtain ⟨hap3,hF10⟩:=chk_inv hF10
      refine sS 96 (Ys_append (s:=3) (by':=24) (i:=3) (nn:=Gates2.length) (c:=c15) (k:=1) (len:=(Gates2++[x3]).length) (B:=B14) (xs:=([x3].flatMap eN0)) (cs':=((Gates2++[x3]).flatMap eN0)) hS37 K4 K3 K23 K10 rfl (by decide) rfl rfl rfl rfl (fm_lenn (l:=Gates2) eN2 rfl) rfl (hS37.c 9) (fm_lenn (l:=[x3]) eN2 rfl) (fm_one' (enc:=eN0) Al [x3]) (by have:=hap3; omega) (by have:=hap3; simp only [maxLen]; omega) (fm_app _ _) (app_len (l:=Gates2) (l':=[x3]) rfl rfl)) ?_
      rintro _ w_23 ⟨B24,c25,rfl,hS38⟩
      refine sQ 97 (yd (aD b2) 0 0 K17 K11 rfl (hf3.g 6 3)) ?_
      refine s0 (yS 2 1 (aD b2) 32 (.slice B24 ((Gates2++[x3]).length) c25) [.slice B24 ((Gates2++[x3]).length) c25] 1 [vi c.Qubits,.slice B24 ((Gates2++[x3]).length) c25] hS38 K11) ?_
      rintro _ w_24 ⟨rfl,hS39⟩
      refine rn (cq (cr ?_))
      refine sQ 98 (yb (aD b3) 0 [.slice B7 Rows.length c8] K16 K6 (hS39.c 4) rfl (hf3.g 7 4))<|sQ 99 (yd (aD b7) 0 0 K29 K0)<|sQ 100 (yl (aD b7) 1 V9 (vi x3.A) K1 (hS39.c 8))<|sQ 101 (yd (aD b7) 0 0 K27 K0)<|sQ 102 (yl (aD b7) 2 V9 (vi x3.B) K1 (hS39.c 8)) ?_
      obtain ⟨r_5,hc3,hF10⟩:=bI hF10
      refine sc 103 rfl rfl (yC [.agg #[.slice B7 Rows.length c8],vi x3.A,vi x3.B] K56 (Bk (Ad.mk Rows) x3.A x3.B B7 c8 Rows.length _ rfl (hS39.inn0 [(false,5)] rfl) hc3)) ?_
      rintro _ w_25 ⟨B25,c26,rfl,hd3⟩
      have hS40:=hS39.out0 hd3
      refine s0 (yT 4 1 (aD b3) 26 (.agg #[.slice B25 r_5.Rows.length c26]) [.slice B25 r_5.Rows.length c26] 0 hS40 K6 rfl (hf3.g 7 4)) ?_
      rintro _ w_26 ⟨rfl,hS41⟩
      refine rn (cr ?_)
      refine sQ 104 (yd (aD b7) 0 0 K27 K0)<|sQ 105 (yl (aD b7) 2 V9 (vi x3.B) K1 (hS41.c 8)) ?_
      refine sS 106 (Ys_bslice (s:=1) (len:=1) (vs:=[(0,vi x3.B)]) (cs:=[vi x3.B]) (zs:=[vi 0]) (m:=1) hS41 K2 K0 K24 rfl (mpc rfl mpn) rfl rfl rfl (by kernel_rfl) (by kernel_rfl) rfl) ?_
      rintro _ w_27 ⟨b9,rfl,hS42⟩
      refine sQ 9 (yg (.slice (aD b9) 1 1)) (rn ?_)
      exact ⟨(Gates2++[x3]),r_5.Rows,done2,[x3.B],B24,c25,B25,c26,B15,c16,aD b9,1,(sI hF10),(hf3.a 1 0 (hf3.a 2 1 (hf3.a 4 2 (hf3.a 6 3 (hf3.a 7 4 (hf3.a 8 5 (fc rfl (hf3.a 11 7 fn_)))))))),(hS42.sel [0,1,2,3,4,10,6,11] rfl rfl)⟩
     ·skip
      have hF11:=cf' hF5 hb6
      refine cw_skip ?_
      exact ⟨Gates2,Rows,done2,at_1,B14,c15,B7,c8,B15,c16,B9,c10,(sI hF11),(hf3.a 1 0 (hf3.a 2 1 (hf3.a 4 2 (hf3.a 6 3 (hf3.a 7 4 (hf3.a 8 5 (hf3.a 9 6 (hf3.a 11 7 fn_)))))))),(hS16.sel [0,1,2,3,4,5,6,7] rfl rfl)⟩
   rintro f w ⟨Gates1,Rows1,done1,at_2,B10,c11,B11,c12,B12,c13,B13,c14,rfl,hf2,hS15⟩
   refine cr ?_
   refine sQ 38 (ym (vi i1) rfl (hf2.g 11 7))<|sQ 39 (yP i1 1)<|sQ 11 (yg (vi (i64.wrap (i1+1)))) (rn ?_)
   obtain rfl:=sI hF4
   exact ⟨K32,Nat.lt_succ_self _,Gates1,Rows1,done1,at_2,(i64.wrap (i1+1)),B10,c11,B11,c12,B12,c13,B13,c14,(hf2.a 1 0 (hf2.a 2 1 (hf2.a 4 2 (hf2.a 6 3 (hf2.a 7 4 (hf2.a 8 5 (hf2.a 9 6 (fc rfl fn_)))))))),(hS15.sel [0,1,2,3,4,5,6,7] rfl rfl),hL3⟩
  ·skip
   have hF12:=cf' hb1 hb2
   refine cw_exit rfl ?_
   obtain rfl:=sI hF12
   obtain rfl:=sI hL3
   refine cq (cr ?_)
   let V8:List Value:=[vi c.Qubits,.slice B6 Gates.length c7]
   refine sQ 107 (yb (aD b2) 0 V8 K12 K7 (hS12.c 2) rfl (hf1.g 6 3))<|sQ 108 (ym (.slice B8 done.length c9) rfl (hf1.g 8 5))<|sQ 109 (Y_len (B:=B8) (m:=done.length) (c:=c9) K2 rfl rfl) ?_
   refine s0 (yT 1 2 (aD b1) 32 (.agg V8.toArray) V8 0 hS12 K7 rfl (hf1.g 4 2)) ?_
   rintro _ w_28 ⟨rfl,hS43⟩
   refine sQ 5 (yg (vi (done.length:Int))) (rn (ct_ ?_))
   obtain ⟨rfl,rfl⟩:=pr2 (sI hF2)
   exact ret2 Tryz.results34 (v1:=.agg V8.toArray) (resAt_cellA (B:=aD b1) (i:=0) (cs:=V8) (vs:=V8) (hf1.g 4 2) K12 K7 (hS43.c 1) rfl rfl) (v2:=vi (done.length:Int)) (resAt_tmp rfl) ⟨B6,c7,rfl,(hS43.sN [3])⟩

theorem La (p:Ah) (B:Option Addr) (c n:Nat) (B1:Option Addr) (c1 n1:Nat) (w0:World) (hn:p.Terms.length=n) (hn1:p.Out.Rows.length=n1) (hS:ST w0 [] w0 [] [⟨B,(p.Terms.flatMap eN1)⟩,⟨B1,(p.Out.Rows.flatMap encI)⟩]) {r_:Ae} {r_1:Bool} (hF:BU p=some (r_,r_1)) :
  CV Tryz.prog 6 #[.agg #[vi p.Qubits,vi p.Phase,.slice B n c,.slice B1 n1 c1]] w0 (fun v w'=>∃ (B2:Option Addr) (c2:Nat),v=.tuple #[.agg #[vi r_.Qubits,.slice B2 r_.Gates.length c2],.bool r_1]∧ST w0 [] w' [⟨B2,59,(r_.Gates.flatMap eN0),c2*3⟩] []):=by
 subst hn
 subst hn1
 unfold BU at hF
 refine cv_of_cw 76 Tryz.func6 rfl Tryz.ntmps6 rfl ?_
 refine cq (cr ?_)
 let V10:List Value:=[vi p.Qubits,vi p.Phase,.slice B p.Terms.length c,.slice B1 p.Out.Rows.length c1]
 refine sS 1 (yB 28 (.agg V10.toArray) V10 4 hS) ?_
 rintro _ w_ ⟨b,rfl,hS1⟩
 let V15:List Value:=[vi 0,.slice none 0 0]
 refine sS 2 (yN V15 2 hS1 K21) ?_
 rintro _ w_1 ⟨b1,rfl,hS2⟩
 refine sQ 3 (yg (.bool false)) (rn (cq (cq (cr ?_))))
 refine sQ 15 (yb (aD b) 0 V10 K39 K25 (hS2.c 0)) ?_
 obtain ⟨r_2,hc,hF⟩:=bI hF
 refine sc 16 rfl rfl (yC [.agg V10.toArray] J0 (I3 p B c p.Terms.length B1 c1 p.Out.Rows.length _ rfl rfl (hS2.inn0 [(true,0),(true,1)] rfl) hc)) ?_
 rintro _ w_2 ⟨rfl,hd⟩
 have hS3:=hS2.out00 hd
 refine sQ 17 (Y_not (p:=r_2) rfl rfl) (rn ?_)
 refine cw_cond (b:=(!r_2)) rfl (fun hb=>?_) (fun hb=>?_)
 ·skip
  have hF1:=ct hF hb
  refine cq (cr ?_)
  refine sQ 18 (Y_buildS (zs:=V15) (vs:=[]) (cs:=V15) K46 K21 rfl mpn rfl) ?_
  refine s0 (yT 1 2 (aD b1) 32 (.agg V15.toArray) V15 0 hS3 K7) ?_
  rintro _ w_3 ⟨rfl,hS4⟩
  refine sQ 3 (yg (.bool false)) (rn (ct_ ?_))
  have hS5:=hS4.addNil 59
  obtain ⟨rfl,rfl⟩:=pr2 (sI hF1)
  exact ret2 Tryz.results6 (v1:=.agg V15.toArray) (resAt_cellA (B:=aD b1) (i:=0) (cs:=V15) (vs:=V15) rfl K12 K7 (hS5.c 1) rfl rfl) (v2:=.bool false) (resAt_tmp rfl) ⟨none,0,rfl,(hS5.sN [2])⟩
 ·skip
  have hF2:=cf' hF hb
  refine cw_skip (cq (cr ?_))
  refine sQ 4 (yg (.slice none 0 0)) (rn (cq (cq (cr ?_))))
  refine sQ 19 (yd (aD b) 0 0 K43 K35)<|sQ 20 (yl (aD b) 2 V10 (.slice B p.Terms.length c) K42 (hS3.c 0))<|sQ 21 (Y_len (B:=B) (m:=p.Terms.length) (c:=c) K14 rfl rfl)<|sQ 22 (ym (vi 0)) (rn ?_)
  obtain ⟨hN,hF2⟩:=chk_inv hF2
  obtain ⟨z,hz,hF3⟩:=bI hF2
  have hS7:=hS3.addNil 3
  refine cw_block ?_
  let O0:Ob:=⟨aD b,28,V10,4⟩
  let O1:Ob:=⟨aD b1,32,V15,2⟩
  let R8:Ro:=⟨B1,(p.Out.Rows.flatMap encI)⟩
  let R9:Ro:=⟨B,(p.Terms.flatMap eN1)⟩
  refine cw_loop (fun k f w=>∃ (i:Nat) (masks:List Int) (B3:Option Addr) (c3:Nat),FF f [(1,pt (aD b) 0),(2,pt (aD b1) 0),(4,.slice B3 masks.length c3),(20,.slice B p.Terms.length c),(21,vi (p.Terms.length:Int)),(22,vi (i:Int))]∧ST w0 [] w [O0,O1,⟨B3,3,(masks.flatMap encI),c3*1⟩] [R9,R8]∧i+k=p.Terms.length∧forN (DS p) k i masks=some z) p.Terms.length ⟨0,[],none,0,(fc rfl (fc rfl (fc rfl (fc rfl (fc rfl (fc rfl fn_)))))),(hS7.sel [0,1,2] rfl rfl),Nat.zero_add _,hz⟩ ?_
  rintro k_ f w ⟨i,masks,B3,c3,hf,hS6,hik,hL⟩
  refine cq (cr ?_)
  refine sQ 23 (yL (i:Int) (p.Terms.length:Int) rfl (hf.g 22 5) (hf.g 21 4)) (rn (cq ?_))
  refine cw_cond (b:=(decide ((i:Int)<(p.Terms.length:Int)))) rfl (fun hlt=>?_) (fun hlt=>?_)
  ·skip
   have hlt1:i<p.Terms.length:=by have h:=of_decide_eq_true hlt; omega
   obtain ⟨K5,rfl⟩:∃ k2,k_=k2+1:=⟨k_-1,by omega⟩
   obtain ⟨y,hb1,hL1⟩:=forN_go hL
   unfold DS at hb1
   refine cw_skip (cq (cw_block (cq (cr ?_))))
   obtain ⟨x,hx,hb1⟩:=bI hb1
   let V19:List Value:=[vi x.Mask,vi x.Coef]
   refine sQ 24 (yI B (i:Int) K14 K15 (gi_isSome eN3 rfl (hS6.rf (i:=0) rfl) hx) (getI_nn hx) (getI_ltI hx rfl) rfl (hf.g 20 3) (hf.g 22 5))<|sQ 25 (ya B ((i:Int).toNat*2) (p.Terms.flatMap eN1) V19 K51 K15 (hS6.rf (i:=0) rfl) rfl rfl (eN3 x) (gi_seg eN3 hx)) ?_
   refine sS 6 (yN [vi 0,vi 0] 2 hS6 K37) ?_
   rintro _ w_4 ⟨b2,rfl,hS8⟩
   refine s0 (yT 3 2 (aD b2) 64 (.agg V19.toArray) V19 0 hS8 K15) ?_
   rintro _ w_5 ⟨rfl,hS9⟩
   refine rn (cr ?_)
   refine sQ 26 (ym (.slice B3 masks.length c3) rfl (hf.g 4 2))<|sQ 27 (yd (aD b2) 0 0 K49 K0)<|sQ 28 (yl (aD b2) 0 V19 (vi x.Mask) K1 (hS9.c 3)) ?_
   refine sS 29 (Ys_bslice (s:=1) (len:=1) (vs:=[(0,vi x.Mask)]) (cs:=[vi x.Mask]) (zs:=[vi 0]) (m:=1) hS9 K2 K0 K24 rfl (mpc rfl mpn) rfl rfl rfl (by kernel_rfl) (by kernel_rfl) rfl) ?_
   rintro _ w_6 ⟨b3,rfl,hS10⟩
   have hS10:ST w0 [] _ [O0,O1,⟨B3,3,(masks.flatMap encI),c3*1⟩,⟨aD b2,64,V19,2⟩,⟨aD b3,3,([x.Mask].flatMap encI),1*1⟩] [R9,R8]:=hS10
   obtain ⟨hap,hb1⟩:=chk_inv hb1
   refine sS 30 (Ys_append (s:=1) (by':=8) (i:=2) (nn:=masks.length) (c:=c3) (k:=1) (len:=(masks++[x.Mask]).length) (B:=B3) (xs:=([x.Mask].flatMap encI)) (cs':=((masks++[x.Mask]).flatMap encI)) hS10 K2 K0 K31 K28 rfl (by decide) rfl rfl rfl rfl (fm_lenn (l:=masks) encI_len rfl) rfl (hS10.c 4) (fm_lenn (l:=[x.Mask]) encI_len rfl) (fm_one' (enc:=encI) encI_one [x.Mask]) (by have:=hap; omega) (by have:=hap; simp only [maxLen]; omega) (fm_app _ _) (app_len (l:=masks) (l':=[x.Mask]) rfl rfl)) ?_
   rintro _ w_7 ⟨B4,c4,rfl,hS11⟩
   refine sQ 4 (yg (.slice B4 ((masks++[x.Mask]).length) c4)) (rn (cr ?_))
   refine sQ 31 (yP (i:Int) 1 rfl (hf.g 22 5))<|sQ 22 (ym (vi (i64.wrap ((i:Int)+1)))) (rn ?_)
   obtain rfl:=sI hb1
   exact ⟨K5,Nat.lt_succ_self _,i+1,(masks++[x.Mask]),B4,c4,(hf.a 1 0 (hf.a 2 1 (fc rfl (hf.a 20 3 (hf.a 21 4 (fc (congrArg (Value.int .i64) (wr_succ hlt1 hN)) fn_)))))),(hS11.sel [0,1,2] rfl rfl),(by omega),hL1⟩
  ·skip
   obtain rfl:k_=0:=by have h:=of_decide_eq_false hlt; omega
   refine cw_exit rfl ?_
   obtain rfl:=sI hL
   refine cq (cr ?_)
   refine sQ 32 (yd (aD b) 0 0 K44 K0 rfl (hf.g 1 0))<|sQ 33 (yl (aD b) 0 V10 (vi p.Qubits) K1 (hS6.c 0))<|sQ 34 (ym (.slice B3 masks.length c3) rfl (hf.g 4 2)) ?_
   obtain ⟨r_3,hc1,hF3⟩:=bI hF3
   refine sc 35 rfl rfl (yC [vi p.Qubits,.slice B3 masks.length c3] Lp (OR p.Qubits masks B3 c3 masks.length _ rfl (hS6.inn0 [(false,2)] rfl) hc1)) ?_
   rintro _ w_8 ⟨B5,c5,rfl,hd1⟩
   have hS12:=hS6.out0 hd1
   refine sS 7 (yN V15 2 hS12 K21) ?_
   rintro _ w_9 ⟨b4,rfl,hS13⟩
   let V12:List Value:=[vi r_3.Qubits,.slice B5 r_3.Gates.length c5]
   refine s0 (yT 4 2 (aD b4) 32 (.agg V12.toArray) V12 0 hS13 K7) ?_
   rintro _ w_10 ⟨rfl,hS14⟩
   refine rn (cq (cr ?_))
   refine sQ 37 (yb (aD b4) 0 V12 K12 K7 (hS14.c 4)) ?_
   obtain ⟨⟨r_4,r_5⟩,hc2,hF3⟩:=bI hF3
   refine sc 38 rfl rfl (yC [.agg V12.toArray] Pq (Lj r_3 B5 c5 r_3.Gates.length _ rfl (hS14.inn0 [(false,3)] rfl) hc2)) ?_
   rintro _ w_11 ⟨B6,c6,rfl,hd2⟩
   have hS15:=hS14.out0 hd2
   let V17:List Value:=[.slice B6 r_4.Rows.length c6]
   refine sQ 36 (ym (.tuple #[.agg V17.toArray,.bool r_5]))<|sQ 39 (ye (.agg V17.toArray))<|sQ 40 (ye (.bool r_5)) ?_
   refine sS 8 (yN [.slice none 0 0] 1 hS15 K22) ?_
   rintro _ w_12 ⟨b5,rfl,hS16⟩
   let O2:Ob:=⟨B3,3,(masks.flatMap encI),c3*1⟩
   let O6:Ob:=⟨B6,3,(r_4.Rows.flatMap encI),c6*1⟩
   let O7:Ob:=⟨aD b4,32,V12,2⟩
   have hS16:ST w0 [] _ [O0,O1,O2,⟨B5,59,(r_3.Gates.flatMap eN0),c5*3⟩,O7,O6,⟨aD b5,26,[.slice none 0 0],1⟩] [R9,R8]:=hS16
   refine s0 (yT 6 1 (aD b5) 26 (.agg V17.toArray) V17 0 hS16 K6) ?_
   rintro _ w_13 ⟨rfl,hS17⟩
   refine sQ 9 (yg (.bool r_5)) (rn (cq (cr ?_)))
   refine sQ 42 (yb (aD b5) 0 V17 K16 K6 (hS17.c 6)) ?_
   obtain ⟨⟨r_6,r_7⟩,hc3,hF3⟩:=bI hF3
   refine sc 43 rfl rfl (yC [.agg V17.toArray] NH (Lx r_4 B6 c6 r_4.Rows.length _ rfl (hS17.inn0 [(false,5)] rfl) hc3)) ?_
   rintro _ w_14 ⟨B7,c7,rfl,hd3⟩
   have hS18:=hS17.out0 hd3
   let V13:List Value:=[.slice B7 r_6.Rows.length c7]
   refine sQ 41 (ym (.tuple #[.agg V13.toArray,.bool r_7]))<|sQ 44 (ye (.agg V13.toArray))<|sQ 45 (ye (.bool r_7)) ?_
   refine sS 10 (yN [.slice none 0 0] 1 hS18 K22) ?_
   rintro _ w_15 ⟨b6,rfl,hS19⟩
   refine s0 (yT 8 1 (aD b6) 26 (.agg V13.toArray) V13 0 hS19 K6) ?_
   rintro _ w_16 ⟨rfl,hS20⟩
   refine sQ 11 (yg (.bool r_7)) (rn (cq ?_))
   obtain ⟨r_8,hc4,hF3⟩:=bI hF3
   obtain ⟨r_9,hc5,hF3⟩:=bI hF3
   obtain ⟨hap1,hF3⟩:=chk_inv hF3
   refine cw_mid (fun f w=>∃ (B11:Option Addr) (c11:Nat),FF f [(1,pt (aD b) 0),(2,pt (aD b1) 0),(7,pt (aD b4) 0)]∧ST w0 [] w [O0,O1,⟨aD b4,32,[vi r_3.Qubits,.slice B11 ((r_3.Gates++r_9.Gates).length) c11],2⟩,⟨B11,59,((r_3.Gates++r_9.Gates).flatMap eN0),c11*3⟩] [R9,R8]) ?_ ?_
   ·skip
    refine ra_start (hS20.se [0,1,2,5,6,7,8]).fn (by kernel_rfl) ?_
    have hS24:=hS20.drew
    have hQ0:=hS24.se [0,1,2,5,6,7,8]
    let V18:List Value:=[.slice B1 p.Out.Rows.length c1]
    refine rq 0 46 (v:=pt (aD b4) 1) rfl hQ0 (fun w' hw'=>(yd (aD b4) 0 0 K17 K11))<|rq 2 48 (v:=.agg V13.toArray) rfl hQ0 (fun w' hw'=>(yb (aD b6) 0 V13 K16 K6 (ST.cf hw' (i:=6) rfl)))<|rq 3 49 (v:=pt (aD b) 3) rfl hQ0 (fun w' hw'=>(yd (aD b) 0 0 K59 K6 rfl (hf.g 1 0)))<|rq 4 50 (v:=.agg V18.toArray) rfl hQ0 (fun w' hw'=>(ya (aD b) 3 V10 V18 K16 K6 (ST.cf hw' (i:=0) rfl))) ?_
    refine rA [1,5] ?_
    refine ry 47 1 rfl (yl (aD b4) 1 V12 (.slice B5 r_3.Gates.length c5) K18 (hS24.c 4)) hQ0 ?_ ?_
    ·skip
     refine rA [5] ?_
     refine rC 51 5 rfl (yC [.agg V13.toArray,.agg V18.toArray] Kh (HG r_6 p.Out B7 c7 r_6.Rows.length B1 c1 p.Out.Rows.length _ rfl rfl (hS24.inn0 [(false,7),(true,1)] rfl) hc4)) ?_ aN
     rintro _ w_17 ⟨B8,c8,rfl,hd4⟩
     have hS25:=hS24.out0 hd4
     refine ⟨(hS25.se [0,1,2,5,6,7,8]),?_⟩
     refine rA [6] ?_
     refine rC 52 6 rfl (yC [.agg #[.slice B8 r_8.Rows.length c8]] GI (Gr r_8 B8 c8 r_8.Rows.length _ rfl (hS25.inn0 [(false,9)] rfl) hc5)) ?_ aN
     rintro _ w_18 ⟨B9,c9,rfl,hd5⟩
     have hS26:=hS25.out0 hd5
     have hS26:ST w0 [] _ [O0,O1,O2,⟨B5,59,(r_3.Gates.flatMap eN0),c5*3⟩,O7,O6,⟨aD b5,26,V17,1⟩,⟨B7,3,(r_6.Rows.flatMap encI),c7*1⟩,⟨aD b6,26,V13,1⟩,⟨B8,3,(r_8.Rows.flatMap encI),c8*1⟩,⟨B9,59,(r_9.Gates.flatMap eN0),c9*3⟩] [R9,R8]:=hS26
     refine ⟨(hS26.se [0,1,2,5,6,7,8]),?_⟩
     refine rq 7 53 (v:=.slice B9 r_9.Gates.length c9) rfl (hS26.se [0,1,2,5,6,7,8]) (fun w' hw'=>(Y_field1 (v:=.slice B9 r_9.Gates.length c9) K17 K18 rfl rfl rfl)) ?_
     refine rA [8] ?_
     refine rS 54 8 rfl (Ys_append (s:=3) (by':=24) (i:=3) (nn:=r_3.Gates.length) (c:=c5) (k:=r_9.Gates.length) (len:=(r_3.Gates++r_9.Gates).length) (B:=B5) (xs:=(r_9.Gates.flatMap eN0)) (cs':=((r_3.Gates++r_9.Gates).flatMap eN0)) hS26 K4 K3 K23 K10 rfl (by decide) rfl rfl rfl rfl (fm_lenn (l:=r_3.Gates) eN2 rfl) rfl (hS26.c 10) (fm_lenn (l:=r_9.Gates) eN2 rfl) (fm_one' (enc:=eN0) Al r_9.Gates) (by have:=hap1; omega) (by have:=hap1; simp only [maxLen]; omega) (fm_app _ _) (app_len (l:=r_3.Gates) (l':=r_9.Gates) rfl rfl)) ?_ aN
     rintro _ w_19 ⟨B10,c10,rfl,hS27⟩
     refine ⟨(hS27.se [0,1,2,5,6,7,8]),?_⟩
     refine rq 9 55 (v:=pt (aD b4) 1) rfl (hS27.se [0,1,2,5,6,7,8]) (fun w' hw'=>(yd (aD b4) 0 0 K17 K11)) ?_
     refine rA [10] ?_
     refine rZ 10 rfl (yS 4 1 (aD b4) 32 (.slice B10 ((r_3.Gates++r_9.Gates).length) c10) [.slice B10 ((r_3.Gates++r_9.Gates).length) c10] 1 [vi r_3.Qubits,.slice B10 ((r_3.Gates++r_9.Gates).length) c10] hS27 K11) ?_ aN
     rintro _ w_20 ⟨rfl,hS28⟩
     refine ⟨(hS28.se [0,1,2,5,6,7,8]),?_⟩
     refine ra_done (by kernel_rfl) ?_
     exact ⟨B10,c10,(hf.a 1 0 (hf.a 2 1 (fc rfl fn_))),(hS28.sel [0,1,4,3] rfl rfl)⟩
    refine rC 51 5 rfl (yC [.agg V13.toArray,.agg V18.toArray] Kh (HG r_6 p.Out B7 c7 r_6.Rows.length B1 c1 p.Out.Rows.length _ rfl rfl (hS24.inn0 [(false,7),(true,1)] rfl) hc4)) ?_ aN
    rintro _ w_21 ⟨B8,c8,rfl,hd6⟩
    have hS29:=hS24.out0 hd6
    refine ⟨(hS29.se [0,1,2,5,6,7,8]),?_⟩
    refine rA [1,6] ?_
    refine ry 47 1 rfl (yl (aD b4) 1 V12 (.slice B5 r_3.Gates.length c5) K18 (hS29.c 4)) (hS29.se [0,1,2,5,6,7,8]) ?_ ?_
    ·skip
     refine rA [6] ?_
     refine rC 52 6 rfl (yC [.agg #[.slice B8 r_8.Rows.length c8]] GI (Gr r_8 B8 c8 r_8.Rows.length _ rfl (hS29.inn0 [(false,9)] rfl) hc5)) ?_ aN
     rintro _ w_22 ⟨B9,c9,rfl,hd7⟩
     have hS30:=hS29.out0 hd7
     refine ⟨(hS30.se [0,1,2,5,6,7,8]),?_⟩
     refine rq 7 53 (v:=.slice B9 r_9.Gates.length c9) rfl (hS30.se [0,1,2,5,6,7,8]) (fun w' hw'=>(Y_field1 (v:=.slice B9 r_9.Gates.length c9) K17 K18 rfl rfl rfl)) ?_
     refine rA [8] ?_
     refine rS 54 8 rfl (Ys_append (s:=3) (by':=24) (i:=3) (nn:=r_3.Gates.length) (c:=c5) (k:=r_9.Gates.length) (len:=(r_3.Gates++r_9.Gates).length) (B:=B5) (xs:=(r_9.Gates.flatMap eN0)) (cs':=((r_3.Gates++r_9.Gates).flatMap eN0)) hS30 K4 K3 K23 K10 rfl (by decide) rfl rfl rfl rfl (fm_lenn (l:=r_3.Gates) eN2 rfl) rfl (hS30.c 10) (fm_lenn (l:=r_9.Gates) eN2 rfl) (fm_one' (enc:=eN0) Al r_9.Gates) (by have:=hap1; omega) (by have:=hap1; simp only [maxLen]; omega) (fm_app _ _) (app_len (l:=r_3.Gates) (l':=r_9.Gates) rfl rfl)) ?_ aN
     rintro _ w_23 ⟨B10,c10,rfl,hS31⟩
     refine ⟨(hS31.se [0,1,2,5,6,7,8]),?_⟩
     refine rq 9 55 (v:=pt (aD b4) 1) rfl (hS31.se [0,1,2,5,6,7,8]) (fun w' hw'=>(yd (aD b4) 0 0 K17 K11)) ?_
     refine rA [10] ?_
     refine rZ 10 rfl (yS 4 1 (aD b4) 32 (.slice B10 ((r_3.Gates++r_9.Gates).length) c10) [.slice B10 ((r_3.Gates++r_9.Gates).length) c10] 1 [vi r_3.Qubits,.slice B10 ((r_3.Gates++r_9.Gates).length) c10] hS31 K11) ?_ aN
     rintro _ w_24 ⟨rfl,hS32⟩
     have hS32:ST w0 [] _ [O0,O1,O2,⟨B10,59,((r_3.Gates++r_9.Gates).flatMap eN0),c10*3⟩,⟨aD b4,32,[vi r_3.Qubits,.slice B10 ((r_3.Gates++r_9.Gates).length) c10],2⟩,O6,⟨aD b5,26,V17,1⟩,⟨B7,3,(r_6.Rows.flatMap encI),c7*1⟩,⟨aD b6,26,V13,1⟩,⟨B8,3,(r_8.Rows.flatMap encI),c8*1⟩,⟨B9,59,(r_9.Gates.flatMap eN0),c9*3⟩] [R9,R8]:=hS32
     refine ⟨(hS32.se [0,1,2,5,6,7,8]),?_⟩
     refine ra_done (by kernel_rfl) ?_
     exact ⟨B10,c10,(hf.a 1 0 (hf.a 2 1 (fc rfl fn_))),(hS32.sel [0,1,4,3] rfl rfl)⟩
    refine rC 52 6 rfl (yC [.agg #[.slice B8 r_8.Rows.length c8]] GI (Gr r_8 B8 c8 r_8.Rows.length _ rfl (hS29.inn0 [(false,9)] rfl) hc5)) ?_ aN
    rintro _ w_25 ⟨B9,c9,rfl,hd8⟩
    have hS33:=hS29.out0 hd8
    have hQ1:=hS33.se [0,1,2,5,6,7,8]
    refine ⟨hQ1,?_⟩
    refine rq 7 53 (v:=.slice B9 r_9.Gates.length c9) rfl hQ1 (fun w' hw'=>(Y_field1 (v:=.slice B9 r_9.Gates.length c9) K17 K18 rfl rfl rfl))<|r1 47 1 rfl (yl (aD b4) 1 V12 (.slice B5 r_3.Gates.length c5) K18 (hS33.c 4)) hQ1 ?_
    refine rA [8] ?_
    refine rS 54 8 rfl (Ys_append (s:=3) (by':=24) (i:=3) (nn:=r_3.Gates.length) (c:=c5) (k:=r_9.Gates.length) (len:=(r_3.Gates++r_9.Gates).length) (B:=B5) (xs:=(r_9.Gates.flatMap eN0)) (cs':=((r_3.Gates++r_9.Gates).flatMap eN0)) hS33 K4 K3 K23 K10 rfl (by decide) rfl rfl rfl rfl (fm_lenn (l:=r_3.Gates) eN2 rfl) rfl (hS33.c 10) (fm_lenn (l:=r_9.Gates) eN2 rfl) (fm_one' (enc:=eN0) Al r_9.Gates) (by have:=hap1; omega) (by have:=hap1; simp only [maxLen]; omega) (fm_app _ _) (app_len (l:=r_3.Gates) (l':=r_9.Gates) rfl rfl)) ?_ aN
    rintro _ w_26 ⟨B10,c10,rfl,hS34⟩
    refine ⟨(hS34.se [0,1,2,5,6,7,8]),?_⟩
    refine rq 9 55 (v:=pt (aD b4) 1) rfl (hS34.se [0,1,2,5,6,7,8]) (fun w' hw'=>(yd (aD b4) 0 0 K17 K11)) ?_
    refine rA [10] ?_
    refine rZ 10 rfl (yS 4 1 (aD b4) 32 (.slice B10 ((r_3.Gates++r_9.Gates).length) c10) [.slice B10 ((r_3.Gates++r_9.Gates).length) c10] 1 [vi r_3.Qubits,.slice B10 ((r_3.Gates++r_9.Gates).length) c10] hS34 K11) ?_ aN
    rintro _ w_27 ⟨rfl,hS35⟩
    refine ⟨(hS35.se [0,1,2,5,6,7,8]),?_⟩
    refine ra_done (by kernel_rfl) ?_
    exact ⟨B10,c10,(hf.a 1 0 (hf.a 2 1 (fc rfl fn_))),(hS35.sel [0,1,4,3] rfl rfl)⟩
   rintro f w ⟨B11,c11,hf1,hS23⟩
   refine cq (cr ?_)
   let V14:List Value:=[vi r_3.Qubits,.slice B11 ((r_3.Gates++r_9.Gates).length) c11]
   refine sQ 57 (yb (aD b4) 0 V14 K12 K7 (hS23.c 2) rfl (hf1.g 7 2))<|sQ 58 (yd (aD b) 0 0 K43 K35 rfl (hf1.g 1 0))<|sQ 59 (yl (aD b) 2 V10 (.slice B p.Terms.length c) K42 (hS23.c 0)) ?_
   obtain ⟨⟨r_10,r_11⟩,hc6,hF3⟩:=bI hF3
   refine sc 60 rfl rfl (yC [.agg V14.toArray,.slice B p.Terms.length c] JS (Ji (Ae.mk r_3.Qubits (r_3.Gates++r_9.Gates)) p.Terms B11 c11 ((r_3.Gates++r_9.Gates).length) B c p.Terms.length _ rfl rfl (hS23.inn0 [(false,3),(true,0)] rfl) hc6)) ?_
   rintro _ w_28 ⟨B12,c12,rfl,hd9⟩
   have hS36:=hS23.out0 hd9
   let V16:List Value:=[vi r_10.Qubits,.slice B12 r_10.Gates.length c12]
   refine sQ 56 (ym (.tuple #[.agg V16.toArray,vi r_11]))<|sQ 61 (ye (.agg V16.toArray))<|sQ 62 (ye (vi r_11)) ?_
   refine sS 12 (yN V15 2 hS36 K21) ?_
   rintro _ w_29 ⟨b7,rfl,hS37⟩
   refine s0 (yT 5 2 (aD b7) 32 (.agg V16.toArray) V16 0 hS37 K7) ?_
   rintro _ w_30 ⟨rfl,hS38⟩
   have hS38:ST w0 [] _ [O0,O1,⟨aD b4,32,V14,2⟩,⟨B11,59,((r_3.Gates++r_9.Gates).flatMap eN0),c11*3⟩,⟨B12,59,(r_10.Gates.flatMap eN0),c12*3⟩,⟨aD b7,32,V16,2⟩] [R9,R8]:=hS38
   refine sQ 13 (yg (vi r_11)) (rn (cq (cq (cr ?_))))
   refine sQ 63 (yd (aD b) 0 0 K63 K0 rfl (hf1.g 1 0))<|sQ 64 (yl (aD b) 1 V10 (vi p.Phase) K1 (hS38.c 0))<|sQ 14 (yg (vi p.Phase)) (rn ?_)
   obtain ⟨z1,hz1,hF4⟩:=bI hF3
   refine cw_block ?_
   refine cw_loop (fun k f w=>∃ (Gates:List Aa) (K19:Int) (B13:Option Addr) (c13:Nat),FF f [(2,pt (aD b1) 0),(12,pt (aD b7) 0),(14,vi K19)]∧ST w0 [] w [O1,⟨aD b7,32,[vi r_10.Qubits,.slice B13 Gates.length c13],2⟩,⟨B13,59,(Gates.flatMap eN0),c13*3⟩] [R9,R8]∧whX CN k (Gates,K19)=some z1) fuel ⟨r_10.Gates,p.Phase,B12,c12,(hf1.a 2 1 (fc rfl (fc rfl fn_))),(hS38.sel [1,5,4] rfl rfl),hz1⟩ ?_
   rintro K32 f w ⟨Gates,K19,B13,c13,hf2,hS39,hL2⟩
   obtain ⟨K38,y1,rfl,hb2,hL3⟩:=whX_go hL2
   unfold CN at hb2
   refine cq (cq (cr ?_))
   refine sQ 65 (ym (vi K19) rfl (hf2.g 14 2))<|sQ 66 (Y_gt (k:=.i64) (a:=K19) (b:=0) rfl rfl rfl) (rn ?_)
   refine cw_cond (b:=(decide (0<K19))) rfl (fun hb3=>?_) (fun hb3=>?_)
   ·skip
    have hF5:=ct hb2 hb3
    refine cw_skip (cq (cw_block (cr ?_)))
    refine sQ 69 (yd (aD b7) 0 0 K17 K11 rfl (hf2.g 12 1))<|sQ 70 (yl (aD b7) 1 [vi r_10.Qubits,.slice B13 Gates.length c13] (.slice B13 Gates.length c13) K18 (hS39.c 1))<|sQ 71 (Y_buildS (zs:=[vi 0,vi 0,vi 0]) (vs:=[(0,vi 12)]) (cs:=[vi 12,vi 0,vi 0]) K33 K10 rfl (mpc rfl mpn) rfl) ?_
    refine sS 72 (Ys_bslice (s:=3) (len:=1) (vs:=[(0,.agg #[vi 12,vi 0,vi 0])]) (cs:=[vi 12,vi 0,vi 0]) (zs:=[vi 0,vi 0,vi 0]) (m:=3) hS39 K4 K3 K26 rfl (mpc rfl mpn) rfl rfl rfl (by kernel_rfl) (by kernel_rfl) rfl) ?_
    rintro _ w_31 ⟨b8,rfl,hS40⟩
    let O3:Ob:=⟨aD b7,32,[vi r_10.Qubits,.slice B13 Gates.length c13],2⟩
    let O4:Ob:=⟨aD b8,59,([(Aa.mk 12 0 0)].flatMap eN0),1*3⟩
    have hS40:ST w0 [] _ [O1,O3,⟨B13,59,(Gates.flatMap eN0),c13*3⟩,O4] [R9,R8]:=hS40
    obtain ⟨hap2,hF5⟩:=chk_inv hF5
    refine sS 73 (Ys_append (s:=3) (by':=24) (i:=2) (nn:=Gates.length) (c:=c13) (k:=1) (len:=(Gates++[(Aa.mk 12 0 0)]).length) (B:=B13) (xs:=([(Aa.mk 12 0 0)].flatMap eN0)) (cs':=((Gates++[(Aa.mk 12 0 0)]).flatMap eN0)) hS40 K4 K3 K23 K10 rfl (by decide) rfl rfl rfl rfl (fm_lenn (l:=Gates) eN2 rfl) rfl (hS40.c 3) (fm_lenn (l:=[(Aa.mk 12 0 0)]) eN2 rfl) (fm_one' (enc:=eN0) Al [(Aa.mk 12 0 0)]) (by have:=hap2; omega) (by have:=hap2; simp only [maxLen]; omega) (fm_app _ _) (app_len (l:=Gates) (l':=[(Aa.mk 12 0 0)]) rfl rfl)) ?_
    rintro _ w_32 ⟨B14,c14,rfl,hS41⟩
    let O5:Ob:=⟨B14,59,((Gates++[(Aa.mk 12 0 0)]).flatMap eN0),c14*3⟩
    have hS41:ST w0 [] _ [O1,O3,O5,O4] [R9,R8]:=hS41
    refine sQ 74 (yd (aD b7) 0 0 K17 K11 rfl (hf2.g 12 1)) ?_
    refine s0 (yS 1 1 (aD b7) 32 (.slice B14 ((Gates++[(Aa.mk 12 0 0)]).length) c14) [.slice B14 ((Gates++[(Aa.mk 12 0 0)]).length) c14] 1 [vi r_10.Qubits,.slice B14 ((Gates++[(Aa.mk 12 0 0)]).length) c14] hS41 K11) ?_
    rintro _ w_33 ⟨rfl,hS42⟩
    have hS42:ST w0 [] _ [O1,⟨aD b7,32,[vi r_10.Qubits,.slice B14 ((Gates++[(Aa.mk 12 0 0)]).length) c14],2⟩,O5,O4] [R9,R8]:=hS42
    refine rn (cr ?_)
    refine sQ 67 (ym (vi K19) rfl (hf2.g 14 2))<|sQ 68 (yM K19 1)<|sQ 14 (yg (vi (i64.wrap (K19-1)))) (rn ?_)
    obtain rfl:=sI hF5
    exact ⟨K38,Nat.lt_succ_self _,(Gates++[(Aa.mk 12 0 0)]),(i64.wrap (K19-1)),B14,c14,(hf2.a 2 0 (hf2.a 12 1 (fc rfl fn_))),(hS42.sel [0,1,2] rfl rfl),hL3⟩
   ·skip
    have hF6:=cf' hb2 hb3
    refine cw_exit rfl ?_
    obtain rfl:=sI hF6
    obtain rfl:=sI hL3
    refine cq (cr ?_)
    let V11:List Value:=[vi r_10.Qubits,.slice B13 Gates.length c13]
    refine sQ 75 (yb (aD b7) 0 V11 K12 K7 (hS39.c 1) rfl (hf2.g 12 1)) ?_
    refine s0 (yT 0 2 (aD b1) 32 (.agg V11.toArray) V11 0 hS39 K7 rfl (hf2.g 2 0)) ?_
    rintro _ w_34 ⟨rfl,hS43⟩
    refine sQ 3 (yg (.bool true)) (rn (ct_ ?_))
    obtain ⟨rfl,rfl⟩:=pr2 (sI hF4)
    exact ret2 Tryz.results6 (v1:=.agg V11.toArray) (resAt_cellA (B:=aD b1) (i:=0) (cs:=V11) (vs:=V11) (hf2.g 2 0) K12 K7 (hS43.c 0) rfl rfl) (v2:=.bool true) (resAt_tmp rfl) ⟨B13,c13,rfl,(hS43.sN [2])⟩

theorem Ho (c:Ac) (n1:Int) (kinds:List Int) (B:Option Addr) (B1:Option Addr) (c1 n:Nat) (B2:Option Addr) (c2 n2:Nat) (w0:World) (hn:c.code.length=n) (hn1:kinds.length=n2) (hS:ST w0 (bl [⟨B,74,[.slice B1 n c1,vi c.at_,.int .u64 c.seed],3⟩]) w0 [⟨B,74,[.slice B1 n c1,vi c.at_,.int .u64 c.seed],3⟩] [⟨B1,(c.code.flatMap enc_u8)⟩,⟨B2,(kinds.flatMap encI)⟩]) {r_:Aa} {m:Ac} (hF:DY c n1 kinds=some (r_,m)) :
  CV Tryz.prog 124 #[pt B 0,vi n1,.slice B2 n2 c2] w0 (fun v w'=>v=.agg #[vi r_.Kind,vi r_.A,vi r_.B]∧ST w0 (bl [⟨B,74,[.slice B1 n c1,vi c.at_,.int .u64 c.seed],3⟩]) w' [⟨B,74,[.slice B1 n c1,vi m.at_,.int .u64 m.seed],3⟩] []):=by
 subst hn
 subst hn1
 unfold DY at hF
 refine cv_of_cw 42 Tryz.func124 rfl Tryz.ntmps124 rfl ?_
 refine cq (cr ?_)
 refine sS 6 (yN [vi 0,vi 0,vi 0] 3 hS K10) ?_
 rintro _ w_ ⟨b,rfl,hS1⟩
 refine rn (cq (cr ?_))
 refine sQ 8 (ym (.slice B2 kinds.length c2))<|sQ 9 (ym (pt B 0))<|sQ 10 (ym (.slice B2 kinds.length c2))<|sQ 11 (Y_len (B:=B2) (m:=kinds.length) (c:=c2) K2 rfl rfl) ?_
 obtain ⟨⟨r_1,m1⟩,hc,hF⟩:=bI hF
 refine sc 12 rfl rfl (yC [pt B 0,vi (kinds.length:Int)] K20 (Ak c (kinds.length:Int) B B1 c1 c.code.length _ rfl (hS1.inn [true,false] rfl [(true,0)] rfl) hc)) ?_
 rintro _ w_1 ⟨rfl,hd⟩
 have hS2:=hS1.out [true,false] rfl hd
 obtain ⟨x,hx,hF⟩:=bI hF
 refine sQ 13 (yI B2 r_1 K2 K0 (gi_isSome encI_len rfl (hS2.rf (i:=1) rfl) hx) (getI_nn hx) (getI_ltI hx rfl))<|sQ 14 (yl B2 (r_1.toNat*1) (kinds.flatMap encI) (vi x) K1 (hS2.rf (i:=1) rfl) rfl rfl (gi_at0 encI_len hx rfl))<|sQ 15 (Y_buildS (zs:=[vi 0,vi 0,vi 0]) (vs:=[(0,vi x)]) (cs:=[vi x,vi 0,vi 0]) K33 K10 rfl (mpc rfl mpn) rfl) ?_
 refine sS 7 (yN [vi 0,vi 0,vi 0] 3 hS2 K10) ?_
 rintro _ w_2 ⟨b1,rfl,hS3⟩
 refine s0 (yT 2 3 (aD b1) 59 (.agg #[vi x,vi 0,vi 0]) [vi x,vi 0,vi 0] 0 hS3 K3) ?_
 rintro _ w_3 ⟨rfl,hS4⟩
 refine rn (cq (cq (cr ?_)))
 refine sQ 16 (yd (aD b1) 0 0 K45 K0)<|sQ 17 (yl (aD b1) 0 [vi x,vi 0,vi 0] (vi x) K1 (hS4.c 2))<|sQ 18 (yE x 12) (rn ?_)
 refine cw_cond (b:=(x==12)) rfl (fun hb=>?_) (fun hb=>?_)
 ·skip
  have hF1:=ct hF hb
  refine cq (cr ?_)
  refine sQ 19 (yb (aD b1) 0 [vi x,vi 0,vi 0] K30 K3 (hS4.c 2)) ?_
  refine s0 (yT 0 3 (aD b) 59 (.agg #[vi x,vi 0,vi 0]) [vi x,vi 0,vi 0] 0 hS4 K3) ?_
  rintro _ w_4 ⟨rfl,hS5⟩
  refine rn (ct_ ?_)
  obtain ⟨rfl,rfl⟩:=pr2 (sI hF1)
  exact ret1 Tryz.results124 (v1:=.agg #[vi x,vi 0,vi 0]) (resAt_cellA (B:=aD b) (i:=0) (cs:=[vi x,vi 0,vi 0]) (vs:=[vi x,vi 0,vi 0]) rfl K30 K3 (hS5.c 0) rfl rfl) ⟨rfl,(hS5.sN [1])⟩
 ·skip
  have hF2:=cf' hF hb
  refine cw_skip (cq (cr ?_))
  refine sQ 20 (ym (pt B 0))<|sQ 21 (ym (vi n1)) ?_
  obtain ⟨⟨r_2,m2⟩,hc1,hF2⟩:=bI hF2
  refine sc 22 rfl rfl (yC [pt B 0,vi n1] K20 (Ak (Ac.mk c.code m1.at_ m1.seed) n1 B B1 c1 c.code.length _ rfl (hS4.inn [false,true,false] rfl [(true,0)] rfl) hc1)) ?_
  rintro _ w_5 ⟨rfl,hd1⟩
  have hS6:=hS4.out [false,true,false] rfl hd1
  refine sQ 23 (yd (aD b1) 0 0 K29 K0) ?_
  refine s0 (yS 1 1 (aD b1) 59 (vi r_2) [vi r_2] 1 [vi x,vi r_2,vi 0] hS6 K0) ?_
  rintro _ w_6 ⟨rfl,hS7⟩
  refine rn (cq ?_)
  obtain ⟨z,hz,hF3⟩:=bI hF2
  let O0:Ob:=⟨B,74,[.slice B1 c.code.length c1,vi c.at_,.int .u64 c.seed],3⟩
  refine cw_mid (fun f w=>∃ (at_:Int) (seed:Int) (B3:Int),.inl (at_,seed,B3)=z∧FF f [(6,pt (aD b) 0),(7,pt (aD b1) 0)]∧ST w0 (bl [O0]) w [⟨B,74,[.slice B1 c.code.length c1,vi at_,.int .u64 seed],3⟩,⟨aD b,59,[vi 0,vi 0,vi 0],3⟩,⟨aD b1,59,[vi x,vi r_2,vi B3],3⟩] [⟨B1,(c.code.flatMap enc_u8)⟩,⟨B2,(kinds.flatMap encI)⟩]) ?_ ?_
  ·skip
   refine cq (cr ?_)
   refine sQ 24 (yd (aD b1) 0 0 K45 K0)<|sQ 25 (yl (aD b1) 0 [vi x,vi r_2,vi 0] (vi x) K1 (hS7.c 1)) ?_
   obtain ⟨r_3,hc2,hz⟩:=bI hz
   refine sc 26 rfl rfl (yC [vi x,vi 9,vi 11] K48 (AM x 9 11 _  (hS7.inn0 [] rfl) hc2)) ?_
   rintro _ w_7 ⟨rfl,hd2⟩
   have hS9:=hS7.out00 hd2
   refine rn ?_
   refine cw_cond (b:=r_3) rfl (fun hb1=>?_) (fun hb1=>?_)
   ·skip
    have hF4:=ct hz hb1
    refine cq (cq (cr ?_))
    refine sQ 27 (ym (vi n1))<|sQ 28 (yE n1 1) (rn ?_)
    refine cw_cond (b:=(n1==1)) rfl (fun hb2=>?_) (fun hb2=>?_)
    ·skip
     have hF5:=ct hF4 hb2
     refine cq (cr ?_)
     refine sQ 29 (Y_buildS (zs:=[vi 0,vi 0,vi 0]) (vs:=[(0,vi 1)]) (cs:=[vi 1,vi 0,vi 0]) K33 K10 rfl (mpc rfl mpn) rfl) ?_
     refine s0 (yT 0 3 (aD b) 59 (.agg #[vi 1,vi 0,vi 0]) [vi 1,vi 0,vi 0] 0 hS9 K3) ?_
     rintro _ w_8 ⟨rfl,hS10⟩
     refine rn (ct_ ?_)
     obtain rfl:=sI hF5
     obtain ⟨rfl,rfl⟩:=pr2 (sI hF3)
     exact ret1 Tryz.results124 (v1:=.agg #[vi 1,vi 0,vi 0]) (resAt_cellA (B:=aD b) (i:=0) (cs:=[vi 1,vi 0,vi 0]) (vs:=[vi 1,vi 0,vi 0]) rfl K30 K3 (hS10.c 0) rfl rfl) ⟨rfl,(hS10.sN [2])⟩
    ·skip
     have hF6:=cf' hF4 hb2
     refine cw_skip ?_
     obtain ⟨⟨r_4,m3⟩,hc3,hF6⟩:=bI hF6
     obtain ⟨hne,hF6⟩:=chk_inv hF6
     let V1:List Value:=[vi x,vi r_2,vi (Int.tmod (i64.wrap ((i64.wrap (r_2+1))+r_4)) n1)]
     refine cw_mid (fun f w=>FF f [(6,pt (aD b) 0),(7,pt (aD b1) 0)]∧ST w0 (bl [O0]) w [⟨B,74,[.slice B1 c.code.length c1,vi m3.at_,.int .u64 m3.seed],3⟩,⟨aD b,59,[vi 0,vi 0,vi 0],3⟩,⟨aD b1,59,V1,3⟩] [⟨B1,(c.code.flatMap enc_u8)⟩,⟨B2,(kinds.flatMap encI)⟩]) ?_ ?_
     ·skip
      refine ra_start (hS9.se [0]).fn (by kernel_rfl) ?_
      have hS13:=hS9.drew
      have hQ0:=hS13.se [0]
      refine rq 0 30 (v:=pt (aD b1) 1) rfl hQ0 (fun w' hw'=>(yd (aD b1) 0 0 K29 K0))<|rq 3 33 rfl hQ0 (fun w' hw'=>(ym (pt B 0)))<|rq 4 34 rfl hQ0 (fun w' hw'=>(ym (vi n1)))<|rq 5 35 rfl hQ0 (fun w' hw'=>(yM n1 1))<|rq 8 38 rfl hQ0 (fun w' hw'=>(ym (vi n1))) ?_
      refine rA [1,6] ?_
      refine ry 31 1 rfl (yl (aD b1) 1 [vi x,vi r_2,vi 0] (vi r_2) K1 (hS13.c 1)) hQ0 ?_ ?_
      ·skip
       refine rq 2 32 rfl hQ0 (fun w' hw'=>(yP r_2 1)) ?_
       refine rA [6] ?_
       refine rC 36 6 rfl (yC [pt B 0,vi (i64.wrap (n1-1))] K20 (Ak (Ac.mk c.code m2.at_ m2.seed) (i64.wrap (n1-1)) B B1 c1 c.code.length _ rfl (hS13.inn [false,false,true] rfl [(true,0)] rfl) hc3)) ?_ aN
       rintro _ w_9 ⟨rfl,hd3⟩
       have hS14:=hS13.out [false,false,true] rfl hd3
       have hQ1:=hS14.se [0]
       refine ⟨hQ1,?_⟩
       refine rq 7 37 rfl hQ1 (fun w' hw'=>(yP (i64.wrap (r_2+1)) r_4))<|rq 9 39 (v:=vi (Int.tmod (i64.wrap ((i64.wrap (r_2+1))+r_4)) n1)) rfl hQ1 (fun w' hw'=>(Y_rem (k:=.i64) (a:=(i64.wrap ((i64.wrap (r_2+1))+r_4))) (b:=n1) rfl rfl rfl hne))<|rq 10 40 (v:=pt (aD b1) 2) rfl hQ1 (fun w' hw'=>(yd (aD b1) 0 0 K27 K0)) ?_
       refine rA [11] ?_
       refine rZ 11 rfl (yS 1 1 (aD b1) 59 (vi (Int.tmod (i64.wrap ((i64.wrap (r_2+1))+r_4)) n1)) [vi (Int.tmod (i64.wrap ((i64.wrap (r_2+1))+r_4)) n1)] 2 V1 hS14 K0) ?_ aN
       rintro _ w_10 ⟨rfl,hS15⟩
       refine ⟨(hS15.se [0]),?_⟩
       refine ra_done (by kernel_rfl) ?_
       exact ⟨(fc rfl (fc rfl fn_)),(hS15.sel [2,0,1] rfl rfl)⟩
      refine rC 36 6 rfl (yC [pt B 0,vi (i64.wrap (n1-1))] K20 (Ak (Ac.mk c.code m2.at_ m2.seed) (i64.wrap (n1-1)) B B1 c1 c.code.length _ rfl (hS13.inn [false,false,true] rfl [(true,0)] rfl) hc3)) ?_ aN
      rintro _ w_11 ⟨rfl,hd4⟩
      have hS16:=hS13.out [false,false,true] rfl hd4
      have hQ2:=hS16.se [0]
      refine ⟨hQ2,?_⟩
      refine r1 31 1 rfl (yl (aD b1) 1 [vi x,vi r_2,vi 0] (vi r_2) K1 (hS16.c 1)) hQ2<|rq 2 32 rfl hQ2 (fun w' hw'=>(yP r_2 1))<|rq 7 37 rfl hQ2 (fun w' hw'=>(yP (i64.wrap (r_2+1)) r_4))<|rq 9 39 (v:=vi (Int.tmod (i64.wrap ((i64.wrap (r_2+1))+r_4)) n1)) rfl hQ2 (fun w' hw'=>(Y_rem (k:=.i64) (a:=(i64.wrap ((i64.wrap (r_2+1))+r_4))) (b:=n1) rfl rfl rfl hne))<|rq 10 40 (v:=pt (aD b1) 2) rfl hQ2 (fun w' hw'=>(yd (aD b1) 0 0 K27 K0)) ?_
      refine rA [11] ?_
      refine rZ 11 rfl (yS 1 1 (aD b1) 59 (vi (Int.tmod (i64.wrap ((i64.wrap (r_2+1))+r_4)) n1)) [vi (Int.tmod (i64.wrap ((i64.wrap (r_2+1))+r_4)) n1)] 2 V1 hS16 K0) ?_ aN
      rintro _ w_12 ⟨rfl,hS17⟩
      refine ⟨(hS17.se [0]),?_⟩
      refine ra_done (by kernel_rfl) ?_
      exact ⟨(fc rfl (fc rfl fn_)),(hS17.sel [2,0,1] rfl rfl)⟩
     rintro f w ⟨hf1,hS12⟩
     exact ⟨m3.at_,m3.seed,(Int.tmod (i64.wrap ((i64.wrap (r_2+1))+r_4)) n1),(sI hF6),(hf1.a 6 0 (hf1.a 7 1 fn_)),(hS12.sel [0,1,2] rfl rfl)⟩
   ·skip
    have hF7:=cf' hz hb1
    refine cw_skip ?_
    exact ⟨m2.at_,m2.seed,0,(sI hF7),(fc rfl (fc rfl fn_)),(hS9.sel [2,0,1] rfl rfl)⟩
  rintro f w ⟨at_,seed,B3,rfl,hf,hS8⟩
  refine cq (cr ?_)
  refine sQ 41 (yb (aD b1) 0 [vi x,vi r_2,vi B3] K30 K3 (hS8.c 2) rfl (hf.g 7 1)) ?_
  refine s0 (yT 1 3 (aD b) 59 (.agg #[vi x,vi r_2,vi B3]) [vi x,vi r_2,vi B3] 0 hS8 K3 rfl (hf.g 6 0)) ?_
  rintro _ w_13 ⟨rfl,hS18⟩
  refine rn (ct_ ?_)
  obtain ⟨rfl,rfl⟩:=pr2 (sI hF3)
  exact ret1 Tryz.results124 (v1:=.agg #[vi x,vi r_2,vi B3]) (resAt_cellA (B:=aD b) (i:=0) (cs:=[vi x,vi r_2,vi B3]) (vs:=[vi x,vi r_2,vi B3]) (hf.g 6 0) K30 K3 (hS18.c 1) rfl rfl) ⟨rfl,(hS18.sN [0])⟩

theorem OG (c:Ac) (n1:Int) (most:Int) (kinds:List Int) (B:Option Addr) (B1:Option Addr) (c1 n:Nat) (B2:Option Addr) (c2 n2:Nat) (w0:World) (hn:c.code.length=n) (hn1:kinds.length=n2) (hS:ST w0 (bl [⟨B,74,[.slice B1 n c1,vi c.at_,.int .u64 c.seed],3⟩]) w0 [⟨B,74,[.slice B1 n c1,vi c.at_,.int .u64 c.seed],3⟩] [⟨B1,(c.code.flatMap enc_u8)⟩,⟨B2,(kinds.flatMap encI)⟩]) {r_:Ae} {m:Ac} (hF:C2 c n1 most kinds=some (r_,m)) :
  CV Tryz.prog 121 #[pt B 0,vi n1,vi most,.slice B2 n2 c2] w0 (fun v w'=>∃ (B3:Option Addr) (c3:Nat),v=.agg #[vi r_.Qubits,.slice B3 r_.Gates.length c3]∧ST w0 (bl [⟨B,74,[.slice B1 n c1,vi c.at_,.int .u64 c.seed],3⟩]) w' [⟨B,74,[.slice B1 n c1,vi m.at_,.int .u64 m.seed],3⟩,⟨B3,59,(r_.Gates.flatMap eN0),c3*3⟩] []):=by
 subst hn
 subst hn1
 unfold C2 at hF
 refine cv_of_cw 31 Tryz.func121 rfl Tryz.ntmps121 rfl ?_
 refine cq (cr ?_)
 let V2:List Value:=[vi 0,.slice none 0 0]
 refine sS 8 (yN V2 2 hS K21) ?_
 rintro _ w_ ⟨b,rfl,hS1⟩
 refine rn (cq (cr ?_))
 refine sQ 11 (ym (vi n1))<|sQ 12 (Y_buildS (zs:=V2) (vs:=[(0,vi n1)]) (cs:=[vi n1,.slice none 0 0]) K46 K21 rfl (mpc rfl mpn) rfl) ?_
 refine sS 9 (yN V2 2 hS1 K21) ?_
 rintro _ w_1 ⟨b1,rfl,hS2⟩
 refine s0 (yT 2 2 (aD b1) 32 (.agg #[vi n1,.slice none 0 0]) [vi n1,.slice none 0 0] 0 hS2 K7) ?_
 rintro _ w_2 ⟨rfl,hS3⟩
 refine rn (cq (cq (cr ?_)))
 refine sQ 13 (ym (pt B 0))<|sQ 14 (ym (vi most))<|sQ 15 (yP most 1) ?_
 obtain ⟨⟨r_1,m1⟩,hc,hF⟩:=bI hF
 refine sc 16 rfl rfl (yC [pt B 0,vi (i64.wrap (most+1))] K20 (Ak c (i64.wrap (most+1)) B B1 c1 c.code.length _ rfl (hS3.inn [true,false,false] rfl [(true,0)] rfl) hc)) ?_
 rintro _ w_3 ⟨rfl,hd⟩
 have hS4:=hS3.out [true,false,false] rfl hd
 refine sQ 10 (yg (vi r_1)) (rn ?_)
 obtain ⟨z,hz,hF1⟩:=bI hF
 have hS6:=hS4.addNil 59
 refine cw_block ?_
 let O0:Ob:=⟨B,74,[.slice B1 c.code.length c1,vi c.at_,.int .u64 c.seed],3⟩
 refine cw_loop (fun k f w=>∃ (at_:Int) (seed:Int) (Gates:List Aa) (k_:Int) (B4:Option Addr) (c4:Nat),FF f [(0,pt B 0),(1,vi n1),(3,.slice B2 kinds.length c2),(8,pt (aD b) 0),(9,pt (aD b1) 0),(10,vi k_)]∧ST w0 (bl [O0]) w [⟨B,74,[.slice B1 c.code.length c1,vi at_,.int .u64 seed],3⟩,⟨aD b,32,V2,2⟩,⟨aD b1,32,[vi n1,.slice B4 Gates.length c4],2⟩,⟨B4,59,(Gates.flatMap eN0),c4*3⟩] [⟨B1,(c.code.flatMap enc_u8)⟩,⟨B2,(kinds.flatMap encI)⟩]∧whX (Fv c n1 kinds) k (at_,seed,Gates,k_)=some z) fuel ⟨m1.at_,m1.seed,[],r_1,none,0,(fc rfl (fc rfl (fc rfl (fc rfl (fc rfl (fc rfl fn_)))))),(hS6.sel [2,0,1,3] rfl rfl),hz⟩ ?_
 rintro K5 f w ⟨at_,seed,Gates,k_,B4,c4,hf,hS5,hL⟩
 obtain ⟨K19,y,rfl,hb,hL1⟩:=whX_go hL
 unfold Fv at hb
 refine cq (cq (cr ?_))
 refine sQ 17 (ym (vi k_) rfl (hf.g 10 5))<|sQ 18 (Y_gt (k:=.i64) (a:=k_) (b:=0) rfl rfl rfl) (rn ?_)
 refine cw_cond (b:=(decide (0<k_))) rfl (fun hb1=>?_) (fun hb1=>?_)
 ·skip
  have hF2:=ct hb hb1
  refine cw_skip (cq (cw_block ?_))
  obtain ⟨⟨r_2,m2⟩,hc1,hF2⟩:=bI hF2
  obtain ⟨hap,hF2⟩:=chk_inv hF2
  refine cw_mid (fun f w=>∃ (B6:Option Addr) (c6:Nat),FF f [(0,pt B 0),(1,vi n1),(3,.slice B2 kinds.length c2),(8,pt (aD b) 0),(9,pt (aD b1) 0),(10,vi k_)]∧ST w0 (bl [O0]) w [⟨B,74,[.slice B1 c.code.length c1,vi m2.at_,.int .u64 m2.seed],3⟩,⟨aD b,32,V2,2⟩,⟨aD b1,32,[vi n1,.slice B6 ((Gates++[r_2]).length) c6],2⟩,⟨B6,59,((Gates++[r_2]).flatMap eN0),c6*3⟩] [⟨B1,(c.code.flatMap enc_u8)⟩,⟨B2,(kinds.flatMap encI)⟩]) ?_ ?_
  ·skip
   refine ra_start (hS5.se [1]).fn (by kernel_rfl) ?_
   have hS9:=hS5.drew
   have hQ0:=hS9.se [1]
   refine rq 0 21 (v:=pt (aD b1) 1) rfl hQ0 (fun w' hw'=>(yd (aD b1) 0 0 K17 K11 rfl (hf.g 9 4)))<|rq 2 23 rfl hQ0 (fun w' hw'=>(ym (pt B 0) rfl (hf.g 0 0)))<|rq 3 24 rfl hQ0 (fun w' hw'=>(ym (vi n1) rfl (hf.g 1 1)))<|rq 4 25 rfl hQ0 (fun w' hw'=>(ym (.slice B2 kinds.length c2) rfl (hf.g 3 2))) ?_
   refine rA [1,5] ?_
   refine ry 22 1 rfl (yl (aD b1) 1 [vi n1,.slice B4 Gates.length c4] (.slice B4 Gates.length c4) K18 (hS9.c 2)) hQ0 ?_ ?_
   ·skip
    refine rA [5] ?_
    refine rC 26 5 rfl (yC [pt B 0,vi n1,.slice B2 kinds.length c2] JT (Ho (Ac.mk c.code at_ seed) n1 kinds B B1 c1 c.code.length B2 c2 kinds.length _ rfl rfl (hS9.inn [true,false,false,false] rfl [(true,0),(true,1)] rfl) hc1)) ?_ aN
    rintro _ w_4 ⟨rfl,hd1⟩
    have hS10:=hS9.out [true,false,false,false] rfl hd1
    refine ⟨(hS10.se [0]),?_⟩
    refine rA [6] ?_
    refine rS 27 6 rfl (Ys_bslice (s:=3) (len:=1) (vs:=[(0,.agg #[vi r_2.Kind,vi r_2.A,vi r_2.B])]) (cs:=[vi r_2.Kind,vi r_2.A,vi r_2.B]) (zs:=[vi 0,vi 0,vi 0]) (m:=3) hS10 K4 K3 K26 rfl (mpc rfl mpn) rfl rfl rfl (by kernel_rfl) (by kernel_rfl) rfl) ?_ aN
    rintro _ w_5 ⟨b2,rfl,hS11⟩
    refine ⟨(hS11.se [0]),?_⟩
    refine rA [7] ?_
    refine rS 28 7 rfl (Ys_append (s:=3) (by':=24) (i:=2) (nn:=Gates.length) (c:=c4) (k:=1) (len:=(Gates++[r_2]).length) (B:=B4) (xs:=([r_2].flatMap eN0)) (cs':=((Gates++[r_2]).flatMap eN0)) hS11 K4 K3 K23 K10 rfl (by decide) rfl rfl rfl rfl (fm_lenn (l:=Gates) eN2 rfl) rfl (hS11.c 4) (fm_lenn (l:=[r_2]) eN2 rfl) (fm_one' (enc:=eN0) Al [r_2]) (by have:=hap; omega) (by have:=hap; simp only [maxLen]; omega) (fm_app _ _) (app_len (l:=Gates) (l':=[r_2]) rfl rfl)) ?_ aN
    rintro _ w_6 ⟨B5,c5,rfl,hS12⟩
    refine ⟨(hS12.se [0]),?_⟩
    refine rq 8 29 (v:=pt (aD b1) 1) rfl (hS12.se [0]) (fun w' hw'=>(yd (aD b1) 0 0 K17 K11 rfl (hf.g 9 4))) ?_
    refine rA [9] ?_
    refine rZ 9 rfl (yS 1 1 (aD b1) 32 (.slice B5 ((Gates++[r_2]).length) c5) [.slice B5 ((Gates++[r_2]).length) c5] 1 [vi n1,.slice B5 ((Gates++[r_2]).length) c5] hS12 K11) ?_ aN
    rintro _ w_7 ⟨rfl,hS13⟩
    refine ⟨(hS13.se [0]),?_⟩
    refine ra_done (by kernel_rfl) ?_
    exact ⟨B5,c5,(hf.a 0 0 (hf.a 1 1 (hf.a 3 2 (hf.a 8 3 (hf.a 9 4 (hf.a 10 5 fn_)))))),(hS13.sel [3,0,1,2] rfl rfl)⟩
   refine rC 26 5 rfl (yC [pt B 0,vi n1,.slice B2 kinds.length c2] JT (Ho (Ac.mk c.code at_ seed) n1 kinds B B1 c1 c.code.length B2 c2 kinds.length _ rfl rfl (hS9.inn [true,false,false,false] rfl [(true,0),(true,1)] rfl) hc1)) ?_ aN
   rintro _ w_8 ⟨rfl,hd2⟩
   have hS14:=hS9.out [true,false,false,false] rfl hd2
   refine ⟨(hS14.se [0]),?_⟩
   refine rA [1,6] ?_
   refine ry 22 1 rfl (yl (aD b1) 1 [vi n1,.slice B4 Gates.length c4] (.slice B4 Gates.length c4) K18 (hS14.c 1)) (hS14.se [0]) ?_ ?_
   ·skip
    refine rA [6] ?_
    refine rS 27 6 rfl (Ys_bslice (s:=3) (len:=1) (vs:=[(0,.agg #[vi r_2.Kind,vi r_2.A,vi r_2.B])]) (cs:=[vi r_2.Kind,vi r_2.A,vi r_2.B]) (zs:=[vi 0,vi 0,vi 0]) (m:=3) hS14 K4 K3 K26 rfl (mpc rfl mpn) rfl rfl rfl (by kernel_rfl) (by kernel_rfl) rfl) ?_ aN
    rintro _ w_9 ⟨b2,rfl,hS15⟩
    refine ⟨(hS15.se [0]),?_⟩
    refine rA [7] ?_
    refine rS 28 7 rfl (Ys_append (s:=3) (by':=24) (i:=2) (nn:=Gates.length) (c:=c4) (k:=1) (len:=(Gates++[r_2]).length) (B:=B4) (xs:=([r_2].flatMap eN0)) (cs':=((Gates++[r_2]).flatMap eN0)) hS15 K4 K3 K23 K10 rfl (by decide) rfl rfl rfl rfl (fm_lenn (l:=Gates) eN2 rfl) rfl (hS15.c 4) (fm_lenn (l:=[r_2]) eN2 rfl) (fm_one' (enc:=eN0) Al [r_2]) (by have:=hap; omega) (by have:=hap; simp only [maxLen]; omega) (fm_app _ _) (app_len (l:=Gates) (l':=[r_2]) rfl rfl)) ?_ aN
    rintro _ w_10 ⟨B5,c5,rfl,hS16⟩
    refine ⟨(hS16.se [0]),?_⟩
    refine rq 8 29 (v:=pt (aD b1) 1) rfl (hS16.se [0]) (fun w' hw'=>(yd (aD b1) 0 0 K17 K11 rfl (hf.g 9 4))) ?_
    refine rA [9] ?_
    refine rZ 9 rfl (yS 1 1 (aD b1) 32 (.slice B5 ((Gates++[r_2]).length) c5) [.slice B5 ((Gates++[r_2]).length) c5] 1 [vi n1,.slice B5 ((Gates++[r_2]).length) c5] hS16 K11) ?_ aN
    rintro _ w_11 ⟨rfl,hS17⟩
    refine ⟨(hS17.se [0]),?_⟩
    refine ra_done (by kernel_rfl) ?_
    exact ⟨B5,c5,(hf.a 0 0 (hf.a 1 1 (hf.a 3 2 (hf.a 8 3 (hf.a 9 4 (hf.a 10 5 fn_)))))),(hS17.sel [3,0,1,2] rfl rfl)⟩
   refine rS 27 6 rfl (Ys_bslice (s:=3) (len:=1) (vs:=[(0,.agg #[vi r_2.Kind,vi r_2.A,vi r_2.B])]) (cs:=[vi r_2.Kind,vi r_2.A,vi r_2.B]) (zs:=[vi 0,vi 0,vi 0]) (m:=3) hS14 K4 K3 K26 rfl (mpc rfl mpn) rfl rfl rfl (by kernel_rfl) (by kernel_rfl) rfl) ?_ aN
   rintro _ w_12 ⟨b2,rfl,hS18⟩
   refine ⟨(hS18.se [0]),?_⟩
   refine r1 22 1 rfl (yl (aD b1) 1 [vi n1,.slice B4 Gates.length c4] (.slice B4 Gates.length c4) K18 (hS18.c 1)) (hS18.se [0]) ?_
   refine rA [7] ?_
   refine rS 28 7 rfl (Ys_append (s:=3) (by':=24) (i:=2) (nn:=Gates.length) (c:=c4) (k:=1) (len:=(Gates++[r_2]).length) (B:=B4) (xs:=([r_2].flatMap eN0)) (cs':=((Gates++[r_2]).flatMap eN0)) hS18 K4 K3 K23 K10 rfl (by decide) rfl rfl rfl rfl (fm_lenn (l:=Gates) eN2 rfl) rfl (hS18.c 4) (fm_lenn (l:=[r_2]) eN2 rfl) (fm_one' (enc:=eN0) Al [r_2]) (by have:=hap; omega) (by have:=hap; simp only [maxLen]; omega) (fm_app _ _) (app_len (l:=Gates) (l':=[r_2]) rfl rfl)) ?_ aN
   rintro _ w_13 ⟨B5,c5,rfl,hS19⟩
   refine ⟨(hS19.se [0]),?_⟩
   refine rq 8 29 (v:=pt (aD b1) 1) rfl (hS19.se [0]) (fun w' hw'=>(yd (aD b1) 0 0 K17 K11 rfl (hf.g 9 4))) ?_
   refine rA [9] ?_
   refine rZ 9 rfl (yS 1 1 (aD b1) 32 (.slice B5 ((Gates++[r_2]).length) c5) [.slice B5 ((Gates++[r_2]).length) c5] 1 [vi n1,.slice B5 ((Gates++[r_2]).length) c5] hS19 K11) ?_ aN
   rintro _ w_14 ⟨rfl,hS20⟩
   refine ⟨(hS20.se [0]),?_⟩
   refine ra_done (by kernel_rfl) ?_
   exact ⟨B5,c5,(hf.a 0 0 (hf.a 1 1 (hf.a 3 2 (hf.a 8 3 (hf.a 9 4 (hf.a 10 5 fn_)))))),(hS20.sel [3,0,1,2] rfl rfl)⟩
  rintro f w ⟨B6,c6,hf1,hS8⟩
  refine cr ?_
  refine sQ 19 (ym (vi k_) rfl (hf1.g 10 5))<|sQ 20 (yM k_ 1)<|sQ 10 (yg (vi (i64.wrap (k_-1)))) (rn ?_)
  obtain rfl:=sI hF2
  exact ⟨K19,Nat.lt_succ_self _,m2.at_,m2.seed,(Gates++[r_2]),(i64.wrap (k_-1)),B6,c6,(hf1.a 0 0 (hf1.a 1 1 (hf1.a 3 2 (hf1.a 8 3 (hf1.a 9 4 (fc rfl fn_)))))),(hS8.sel [0,1,2,3] rfl rfl),hL1⟩
 ·skip
  have hF3:=cf' hb hb1
  refine cw_exit rfl ?_
  obtain rfl:=sI hF3
  obtain rfl:=sI hL1
  refine cq (cr ?_)
  let V1:List Value:=[vi n1,.slice B4 Gates.length c4]
  refine sQ 30 (yb (aD b1) 0 V1 K12 K7 (hS5.c 2) rfl (hf.g 9 4)) ?_
  refine s0 (yT 1 2 (aD b) 32 (.agg V1.toArray) V1 0 hS5 K7 rfl (hf.g 8 3)) ?_
  rintro _ w_15 ⟨rfl,hS21⟩
  refine rn (ct_ ?_)
  obtain ⟨rfl,rfl⟩:=pr2 (sI hF1)
  exact ret1 Tryz.results121 (v1:=.agg V1.toArray) (resAt_cellA (B:=aD b) (i:=0) (cs:=V1) (vs:=V1) (hf.g 8 3) K12 K7 (hS21.c 1) rfl rfl) ⟨B4,c4,rfl,(hS21.sN [0,3])⟩

theorem ON (c:Ac) (B:Option Addr) (B1:Option Addr) (c1 n:Nat) (w0:World) (hn:c.code.length=n) (hS:ST w0 (bl [⟨B,74,[.slice B1 n c1,vi c.at_,.int .u64 c.seed],3⟩]) w0 [⟨B,74,[.slice B1 n c1,vi c.at_,.int .u64 c.seed],3⟩] [⟨B1,(c.code.flatMap enc_u8)⟩]) {r_:Ae} {m:Ac} (hF:Dl c=some (r_,m)) :
  CV Tryz.prog 110 #[pt B 0] w0 (fun v w'=>∃ (B2:Option Addr) (c2:Nat),v=.agg #[vi r_.Qubits,.slice B2 r_.Gates.length c2]∧ST w0 (bl [⟨B,74,[.slice B1 n c1,vi c.at_,.int .u64 c.seed],3⟩]) w' [⟨B,74,[.slice B1 n c1,vi m.at_,.int .u64 m.seed],3⟩,⟨B2,59,(r_.Gates.flatMap eN0),c2*3⟩] []):=by
 subst hn
 unfold Dl at hF
 refine cv_of_cw 9 Tryz.func110 rfl Tryz.ntmps110 rfl ?_
 refine cq (cr ?_)
 refine sS 2 (yN [vi 0,.slice none 0 0] 2 hS K21) ?_
 rintro _ w_ ⟨b,rfl,hS1⟩
 refine rn (cq (cr ?_))
 refine sQ 3 (ym (pt B 0))<|sQ 4 (ym (pt B 0)) ?_
 refine sS 5 (Ys_bslice (s:=1) (len:=4) (vs:=[(0,vi 1),(1,vi 2),(2,vi 2),(3,vi 3)]) (cs:=[vi 1,vi 2,vi 2,vi 3]) (zs:=[vi 0,vi 0,vi 0,vi 0]) (m:=4) hS1 K2 K0 K24 rfl (mpc rfl (mpc rfl (mpc rfl (mpc rfl mpn)))) rfl rfl rfl (by kernel_rfl) (by kernel_rfl) rfl) ?_
 rintro _ w_1 ⟨b1,rfl,hS2⟩
 obtain ⟨⟨r_1,m1⟩,hc,hF⟩:=bI hF
 refine sc 6 rfl rfl (yC [pt B 0,.slice (aD b1) 4 4] K91 (FR c [1,2,2,3] B B1 c1 c.code.length (aD b1) 4 4 _ rfl rfl (hS2.inn [true,false,false] rfl [(true,0),(false,1)] rfl) hc)) ?_
 rintro _ w_2 ⟨rfl,hd⟩
 have hS3:=hS2.out [true,false,false] rfl hd
 refine sS 7 (Ys_bslice (s:=1) (len:=15) (vs:=[(0,vi 1),(1,vi 2),(2,vi 3),(3,vi 4),(4,vi 5),(5,vi 6),(6,vi 7),(7,vi 8),(8,vi 9),(9,vi 9),(10,vi 10),(11,vi 11),(12,vi 12),(13,vi 7),(14,vi 1)]) (cs:=[vi 1,vi 2,vi 3,vi 4,vi 5,vi 6,vi 7,vi 8,vi 9,vi 9,vi 10,vi 11,vi 12,vi 7,vi 1]) (zs:=[vi 0,vi 0,vi 0,vi 0,vi 0,vi 0,vi 0,vi 0,vi 0,vi 0,vi 0,vi 0,vi 0,vi 0,vi 0]) (m:=15) hS3 K2 K0 K24 rfl (mpc rfl (mpc rfl (mpc rfl (mpc rfl (mpc rfl (mpc rfl (mpc rfl (mpc rfl (mpc rfl (mpc rfl (mpc rfl (mpc rfl (mpc rfl (mpc rfl (mpc rfl mpn))))))))))))))) rfl rfl rfl (by kernel_rfl) (by kernel_rfl) rfl) ?_
 rintro _ w_3 ⟨b2,rfl,hS4⟩
 obtain ⟨⟨r_2,m2⟩,hc1,hF⟩:=bI hF
 refine sc 8 rfl rfl (yC [pt B 0,vi r_1,vi 8,.slice (aD b2) 15 15] Pn (OG (Ac.mk c.code m1.at_ m1.seed) r_1 8 [1,2,3,4,5,6,7,8,9,9,10,11,12,7,1] B B1 c1 c.code.length (aD b2) 15 15 _ rfl rfl (hS4.inn [false,false,true,false] rfl [(true,0),(false,2)] rfl) hc1)) ?_
 rintro _ w_4 ⟨B3,c3,rfl,hd1⟩
 have hS5:=hS4.out [false,false,true,false] rfl hd1
 let V0:List Value:=[vi r_2.Qubits,.slice B3 r_2.Gates.length c3]
 refine s0 (yT 0 2 (aD b) 32 (.agg V0.toArray) V0 0 hS5 K7) ?_
 rintro _ w_5 ⟨rfl,hS6⟩
 refine rn (ct_ ?_)
 obtain ⟨rfl,rfl⟩:=pr2 (sI hF)
 exact ret1 Tryz.results110 (v1:=.agg V0.toArray) (resAt_cellA (B:=aD b) (i:=0) (cs:=V0) (vs:=V0) rfl K12 K7 (hS6.c 0) rfl rfl) ⟨B3,c3,rfl,(hS6.sN [3,4])⟩
end Go.VK
