/- The plain law of FnPhaseNetworks: what its Lean function answers, for all arguments. -/
import Derived.Test.YtckobcclloialaaGreatLPhaseNetworksLaw1
set_option maxRecDepth 10000
set_option maxHeartbeats 1000000
set_option linter.unusedSimpArgs false
set_option linter.unusedVariables false
namespace Go.VK
/-- A task below, of the same target. -/
theorem J2 {n j t:Nat} {A:List Nat} {y:GT} (hA:A.length=n) (hj:j<n) (hne:j≠t) (h:Cf n A y) (ht:y.tg=some t):Cf n (cxA A j t) (y.flip j t):=by
 obtain ⟨⟨t1,t2⟩,t3⟩:=h.sm t ht
 refine ⟨fun p hp=>?_,fun k hk hkf p hp q hq=>?_,fun hn=>?_,fun t' ht'=>?_⟩
 ·obtain ⟨p,hp',rfl⟩:=List.mem_map.1 hp
  clear hp
  have hp:=hp'
  obtain ⟨a,b,c⟩:=h.ok p hp
  exact ⟨G0 hj a,by rw [← b]; exact H3 hA hj t1 hne,c⟩
 ·obtain ⟨p,hp',rfl⟩:=List.mem_map.1 hp
  clear hp
  have hp:=hp'
  obtain ⟨q,hq',rfl⟩:=List.mem_map.1 hq
  clear hq
  have hq:=hq'
  simp only
  rw [EE,EE,t3 p hp,t3 q hq,h.cs k hk hkf p hp q hq]
 ·rw [show (y.flip j t).tg=y.tg from rfl,ht] at hn; cases hn
 ·rw [show (y.flip j t).tg=y.tg from rfl,ht] at ht'
  cases ht'
  refine ⟨⟨t1,t2⟩,fun p hp=>?_⟩
  obtain ⟨p,hp',rfl⟩:=List.mem_map.1 hp
  clear hp
  have hp:=hp'
  simp only
  rw [Cy (fun e=>hne e.symm)]
  exact t3 p hp
/-- A task below, whose bound bits are all zero above. -/
theorem Mv {n j t:Nat} {A:List Nat} {y:GT} (hA:A.length=n) (hj:j<n) (htn:t<n) (hne:j≠t) (h:Cf n A y) (hjf:j∈y.fr):Cf n (cxA A j t) (y.flip j t):=by
 refine ⟨fun p hp=>?_,fun k hk hkf p hp q hq=>?_,fun hn k hk hkf p hp=>?_,fun t' ht'=>?_⟩
 ·obtain ⟨p,hp',rfl⟩:=List.mem_map.1 hp
  clear hp
  have hp:=hp'
  obtain ⟨a,b,c⟩:=h.ok p hp
  exact ⟨G0 hj a,by rw [← b]; exact H3 hA hj htn hne,c⟩
 ·obtain ⟨p,hp',rfl⟩:=List.mem_map.1 hp
  clear hp
  have hp:=hp'
  obtain ⟨q,hq',rfl⟩:=List.mem_map.1 hq
  clear hq
  have hq:=hq'
  have hkj:k≠j:=fun e=>hkf (by rw [e]; exact hjf)
  simp only
  rw [Cy hkj,Cy hkj]
  exact h.cs k hk hkf p hp q hq
 ·obtain ⟨p,hp',rfl⟩:=List.mem_map.1 hp
  clear hp
  have hp:=hp'
  have hkj:k≠j:=fun e=>hkf (by rw [e]; exact hjf)
  simp only
  rw [Cy hkj]
  exact h.nn hn k hk hkf p hp
 ·obtain ⟨⟨t1,t2⟩,t3⟩:=h.sm t' ht'
  refine ⟨⟨t1,t2⟩,fun p hp=>?_⟩
  obtain ⟨p,hp',rfl⟩:=List.mem_map.1 hp
  clear hp
  have hp:=hp'
  have hkj:t'≠j:=fun e=>t2 (by rw [e]; exact hjf)
  simp only
  rw [Cy hkj]
  exact t3 p hp
/-- What the stack keeps, the task on top last. -/
structure GSt (n:Nat) (A:List Nat) (st:List GT):Prop where
 len:A.length=n
 one:∀ x∈st,Cf n A x
 two:st.Pairwise (Ha n)
theorem NZ {n j t:Nat} {A:List Nat} {lo:List GT} {x:GT} (h:GSt n A (lo++[x])) (ht:x.tg=some t) (hj:j<n) (hne:j≠t) (hps:x.ps≠[]) (hall:∀ p∈x.ps,p.1.testBit j=true):GSt n (cxA A j t) ((lo++[x]).map fun y=>y.flip j t):=by
 have hx:x∈lo++[x]:=List.mem_append_right _ (List.mem_singleton.2 rfl)
 obtain ⟨⟨t1,_⟩,_⟩:=(h.one x hx).sm t ht
 obtain ⟨p0,hp0⟩:=List.exists_mem_of_ne_nil _ hps
 have h2:=h.two
 rw [List.pairwise_append] at h2
 have hlow:∀ y∈lo,y.tg=some t∨j∈y.fr:=fun y hy=>by
  obtain ⟨_,h3⟩:=h2.2.2 y hy x (List.mem_singleton.2 rfl)
  rcases h3 with h3 | h3
  ·exact .inl (by rw [← h3]; exact ht)
  ·refine .inr (Classical.byContradiction fun hf=>?_)
   have:=h3 j hj hf p0 hp0
   rw [hall p0 hp0] at this; cases this
 refine ⟨by unfold cxA; rw [List.length_set]; exact h.len,fun z hz=>?_,?_⟩
 ·obtain ⟨y,hy,rfl⟩:=List.mem_map.1 hz
  rcases List.mem_append.1 hy with hyl | hyx
  ·rcases hlow y hyl with e | e
   ·exact J2 h.len hj hne (h.one y hy) e
   ·exact Mv h.len hj t1 hne (h.one y hy) e
  ·rw [List.mem_singleton] at hyx; subst hyx
   exact J2 h.len hj hne (h.one y hy) ht
 ·have key:∀ y∈lo,∀ z,Ha n y z→Ha n (y.flip j t) (z.flip j t):=fun y hyl z hyz=>by
   obtain ⟨h3,h4⟩:=hyz
   refine ⟨h3,?_⟩
   rcases h4 with h4 | h4
   ·exact .inl h4
   ·refine .inr (fun k hk hkf p hp=>?_)
    obtain ⟨p,hp',rfl⟩:=List.mem_map.1 hp
    clear hp
    have hp:=hp'
    have hkf:k∉y.fr:=hkf
    simp only
    rcases hlow y hyl with e | e
    ·have htf:t∉y.fr:=((h.one y (List.mem_append_left _ hyl)).sm t e).1.2
     rw [EE,h4 t t1 htf p hp,Bool.false_and,Bool.xor_false]
     exact h4 k hk hkf p hp
    ·rw [Cy (fun e2=>hkf (by rw [e2]; exact e))]
     exact h4 k hk hkf p hp
  rw [List.map_append,List.pairwise_append]
  refine ⟨?_,List.pairwise_singleton _ _,fun a ha b hb=>?_⟩
  ·rw [List.pairwise_map]
   exact List.Pairwise.imp_of_mem (fun {y z} hy _ hyz=>key y hy z hyz) h2.1
  ·obtain ⟨y,hy,rfl⟩:=List.mem_map.1 ha
   rw [List.map_cons,List.map_nil,List.mem_singleton] at hb
   subst hb
   exact key y hy x (h2.2.2 y hy x (List.mem_singleton.2 rfl))
theorem HR {n:Nat} {A:List Nat} {lo:List GT} {x:GT} (h:GSt n A (lo++[x])):GSt n A lo:=by
 have h2:=h.two
 rw [List.pairwise_append] at h2
 exact ⟨h.len,fun y hy=>h.one y (List.mem_append_left _ hy),h2.1⟩
def GT.bit (x:GT) (b:Nat) (v:Bool) (tg:Option Nat):GT:=⟨x.ps.filter fun p=>p.1.testBit b==v,x.fr.filter fun k=>k != b,tg⟩
theorem N3 {n:Nat} {A:List Nat} {lo:List GT} {x:GT} (h:GSt n A (lo++[x])) {b:Nat} (hb:b<n) (hbf:b∈x.fr) (hps:x.ps≠[]):GSt n A (lo++[x.bit b true (some (x.tg.getD b)),x.bit b false x.tg]):=by
 have hx:x∈lo++[x]:=List.mem_append_right _ (List.mem_singleton.2 rfl)
 have o:=h.one x hx
 have h2:=h.two
 rw [List.pairwise_append] at h2
 have hfil:∀ v tg,∀ p∈(x.bit b v tg).ps,p∈x.ps∧p.1.testBit b=v:=fun v tg p hp=>by
  obtain ⟨h1,h2⟩:=List.mem_filter.1 hp
  exact ⟨h1,by simpa using h2⟩
 have hfr:∀ v tg k,k∉(x.bit b v tg).fr→k=b∨k∉x.fr:=fun v tg k hk=>by
  by_cases e:k=b
  ·exact .inl e
  ·exact .inr (fun hf=>hk (List.mem_filter.2 ⟨hf,by simpa using e⟩))
 have hcs:∀ v tg k,k<n→k∉(x.bit b v tg).fr→∀ p∈(x.bit b v tg).ps,∀ q∈(x.bit b v tg).ps,p.1.testBit k=q.1.testBit k:=fun v tg k hk hkf p hp q hq=>by
  rcases hfr v tg k hkf with rfl | e
  ·rw [(hfil v tg p hp).2,(hfil v tg q hq).2]
  ·exact o.cs k hk e p (hfil v tg p hp).1 q (hfil v tg q hq).1
 have hnf:∀ v tg t,t∉x.fr→t∉(x.bit b v tg).fr:=fun v tg t ht hf=>ht (List.mem_filter.1 hf).1
 have hbn:∀ v tg,b∉(x.bit b v tg).fr:=fun v tg hf=>by simpa using (List.mem_filter.1 hf).2
 have one1:Cf n A (x.bit b true (some (x.tg.getD b))):=by
  refine ⟨fun p hp=>o.ok p (hfil _ _ p hp).1,hcs _ _,fun hn=>(by cases hn),fun t ht=>?_⟩
  have ht:x.tg.getD b=t:=Option.some.inj ht
  cases hx2:x.tg with
  | none =>
   rw [hx2] at ht
   have ht:b=t:=ht
   subst ht
   exact ⟨⟨hb,hbn _ _⟩,fun p hp=>(hfil _ _ p hp).2⟩
  | some t' =>
   rw [hx2] at ht
   have ht:t'=t:=ht
   subst ht
   obtain ⟨⟨u1,u2⟩,u3⟩:=o.sm t' hx2
   exact ⟨⟨u1,hnf _ _ t' u2⟩,fun p hp=>u3 p (hfil _ _ p hp).1⟩
 have one2:Cf n A (x.bit b false x.tg):=by
  refine ⟨fun p hp=>o.ok p (hfil _ _ p hp).1,hcs _ _,fun hn k hk hkf p hp=>?_,fun t ht=>?_⟩
  ·rcases hfr _ _ k hkf with rfl | e
   ·exact (hfil _ _ p hp).2
   ·exact o.nn hn k hk e p (hfil _ _ p hp).1
  ·obtain ⟨⟨u1,u2⟩,u3⟩:=o.sm t ht
   exact ⟨⟨u1,hnf _ _ t u2⟩,fun p hp=>u3 p (hfil _ _ p hp).1⟩
 refine ⟨h.len,fun y hy=>?_,?_⟩
 ·rcases List.mem_append.1 hy with hy | hy
  ·exact h.one y (List.mem_append_left _ hy)
  ·rcases List.mem_cons.1 hy with rfl | hy
   ·exact one1
   ·rw [List.mem_singleton] at hy; subst hy; exact one2
 ·rw [List.pairwise_append]
  refine ⟨h2.1,?_,fun a ha c hc=>?_⟩
  ·rw [List.pairwise_cons]
   refine ⟨fun c hc=>?_,List.pairwise_singleton _ _⟩
   rw [List.mem_singleton] at hc; subst hc
   refine ⟨fun e=>(by cases e),?_⟩
   cases hx2:x.tg with
   | some t=>exact .inl rfl
   | none =>
    refine .inr (fun k hk hkf p hp=>?_)
    rw [hx2] at one2
    exact one2.nn rfl k hk (fun hf=>hkf hf) p hp
  ·obtain ⟨h3,h4⟩:=h2.2.2 a ha x (List.mem_singleton.2 rfl)
   have hc':∃ v tg,c=x.bit b v tg∧(x.tg=a.tg→tg=a.tg):=by
    rcases List.mem_cons.1 hc with rfl | hc
    ·refine ⟨_,_,rfl,fun e=>?_⟩
     cases hat:a.tg with
     | none=>exact absurd hat h3
     | some t=>rw [e,hat]; rfl
    ·rw [List.mem_singleton] at hc; subst hc
     exact ⟨_,_,rfl,fun e=>e⟩
   obtain ⟨v,tg,rfl,e⟩:=hc'
   refine ⟨h3,?_⟩
   rcases h4 with h4 | h4
   ·exact .inl (e h4)
   ·exact .inr (fun k hk hkf p hp=>h4 k hk hkf p (hfil v tg p hp).1)
/-- A task that is done: its masks are the row of its target. -/
theorem Mg {n:Nat} {A:List Nat} {x:GT} (o:Cf n A x) (hf:x.fr=[]) {p:Nat×Nat} (hp:p∈x.ps) (hz:∀ t,x.tg=some t→∀ k,k<n→k≠t→∀ p∈x.ps,p.1.testBit k=false):∃ t,t<n∧x.tg=some t∧p.2=A.getD t 0:=by
 obtain ⟨_,p2,p3⟩:=o.ok p hp
 cases ht:x.tg with
 | none =>
  exfalso
  refine p3 (p2.symm.trans (Hf (fun k hk=>o.nn ht k hk (by rw [hf]; exact List.not_mem_nil) p hp)))
 | some t =>
  obtain ⟨⟨t1,t2⟩,t3⟩:=o.sm t ht
  refine ⟨t,t1,rfl,p2.symm.trans (HJ t1 (fun k hk=>?_))⟩
  by_cases e:k=t
  ·subst e; rw [t3 p hp,decide_eq_true rfl]
  ·rw [hz t ht k hk e p hp,decide_eq_false e]

/-- The gates of a task, and the stack behind them. -/
def gJ (t:Nat):Nat→Nat→List GT×GT→List (Nat×Nat)×(List GT×GT)
 | 0,_,s=>([],s)
 | k+1,j,s=>if j≠t∧(s.2.ps.all fun p=>p.1.testBit j)=true then ((j,t)::(gJ t k (j+1) (s.1.map fun y=>y.flip j t,s.2.flip j t)).1,(gJ t k (j+1) (s.1.map fun y=>y.flip j t,s.2.flip j t)).2) else gJ t k (j+1) s
def An (A:List Nat):List (Nat×Nat)→List Nat
 | []=>A
 | g::r=>An (cxA A g.1 g.2) r
/-- All rows that have appeared. -/
def AZ (A:List Nat):List (Nat×Nat)→List Nat
 | []=>A
 | g::r=>A++AZ (cxA A g.1 g.2) r
theorem HA {A:List Nat}:∀ {gs:List (Nat×Nat)} {y:Nat},y∈A→y∈AZ A gs
 | [],_,h=>h
 | _::_,_,h=>List.mem_append_left _ h
theorem Gp {A:List Nat}:∀ {gs gs':List (Nat×Nat)} {y:Nat},y∈AZ (An A gs) gs'→y∈AZ A (gs++gs')
 | [],_,_,h=>h
 | g::r,gs',y,h=>List.mem_append_right _ (Gp (A:=cxA A g.1 g.2) (gs:=r) h)
theorem G8 {A:List Nat}:∀ {gs gs':List (Nat×Nat)},An A (gs++gs')=An (An A gs) gs'
 | [],_=>rfl
 | g::r,gs'=>G8 (A:=cxA A g.1 g.2) (gs:=r)
def GOk (n:Nat) (gs:List (Nat×Nat)):Prop:=∀ g∈gs,g.1<n∧g.2<n∧g.1≠g.2
def AI (x y:GT):Prop:=x.fr=y.fr∧x.tg=y.tg∧x.ps.map Prod.snd=y.ps.map Prod.snd
theorem GQ (x:GT):AI x x:=⟨rfl,rfl,rfl⟩
theorem JY (x:GT) (j t:Nat):AI (x.flip j t) x:=⟨rfl,rfl,by unfold GT.flip; simp [List.map_map]⟩
theorem AI.trans {x y z:GT} (h:AI x y) (h':AI y z):AI x z:=⟨h.1.trans h'.1,h.2.1.trans h'.2.1,h.2.2.trans h'.2.2⟩
/-- Two stacks with tasks of the same masks, free qubits and targets. -/
def A6:List GT→List GT→Prop
 | [],[]=>True
 | x::r,y::q=>AI x y∧A6 r q
 | _,_=>False
theorem GF:∀ l:List GT,A6 l l
 | []=>trivial
 | x::r=>⟨GQ x,GF r⟩
theorem I9 (j t:Nat):∀ l:List GT,A6 (l.map fun y=>y.flip j t) l
 | []=>trivial
 | x::r=>⟨JY x j t,I9 j t r⟩
theorem A6.trans:∀ {a b c:List GT},A6 a b→A6 b c→A6 a c
 | [],[],[],_,_=>trivial
 | _::_,_::_,_::_,h,h'=>⟨h.1.trans h'.1,A6.trans h.2 h'.2⟩
 | [],[],_::_,_,h'=>h'.elim
 | [],_::_,_,h,_=>h.elim
 | _::_,[],_,h,_=>h.elim
 | _::_,_::_,[],_,h'=>h'.elim
theorem A6.mem:∀ {a b:List GT},A6 a b→∀ y∈b,∃ x∈a,AI x y
 | [],[],_,_,hy=>by cases hy
 | x::r,z::q,h,y,hy=>by
  rcases List.mem_cons.1 hy with rfl | hy
  ·exact ⟨x,.head _,h.1⟩
  ·obtain ⟨w,hw,h2⟩:=A6.mem h.2 y hy
   exact ⟨w,.tail _ hw,h2⟩
 | [],_::_,h,_,_=>h.elim
 | _::_,[],h,_,_=>h.elim
theorem DT {x y:GT} (h:AI x y):x.ps.length=y.ps.length:=by
 have:=congrArg List.length h.2.2
 simpa using this
/-- What the loop over the qubits does. -/
theorem MJ {n t:Nat}:∀ (k j:Nat) (A:List Nat) (lo:List GT) (x:GT),j+k=n→GSt n A (lo++[x])→x.tg=some t→x.ps≠[]→(∀ i,i<j→i≠t→i∉x.fr→∀ p∈x.ps,p.1.testBit i=false) →
  GSt n (An A (gJ t k j (lo,x)).1) ((gJ t k j (lo,x)).2.1++[(gJ t k j (lo,x)).2.2])∧A6 (gJ t k j (lo,x)).2.1 lo∧AI (gJ t k j (lo,x)).2.2 x∧GOk n (gJ t k j (lo,x)).1∧((gJ t k j (lo,x)).1.length≤k∧(j≤t→(gJ t k j (lo,x)).1.length+1≤k)) ∧
   ∀ i,i<n→i≠t→i∉x.fr→∀ p∈(gJ t k j (lo,x)).2.2.ps,p.1.testBit i=false:=fun k=>by
 induction k with
 | zero =>
  intro j A lo x hj h ht hps hz
  have htn:=((h.one x (List.mem_append_right _ (List.mem_singleton.2 rfl))).sm t ht).1.1
  exact ⟨h,GF _,GQ _,fun g hg=>(by cases hg),⟨Nat.le_refl _,fun hjt=>(by omega)⟩,fun i hi=>hz i (by omega)⟩
 | succ k ih =>
  intro j A lo x hj h ht hps hz
  have hxm:x∈lo++[x]:=List.mem_append_right _ (List.mem_singleton.2 rfl)
  obtain ⟨⟨htn,htf⟩,ht1⟩:=(h.one x hxm).sm t ht
  unfold gJ
  by_cases hc:j≠t∧(x.ps.all fun p=>p.1.testBit j)=true
  ·rw [if_pos hc]
   obtain ⟨hne,hall⟩:=hc
   have hall':∀ p∈x.ps,p.1.testBit j=true:=fun p hp=>List.all_eq_true.1 hall p hp
   have h2:=NZ h ht (by omega) hne hps hall'
   rw [List.map_append,List.map_cons,List.map_nil] at h2
   obtain ⟨a1,a2,a3,a4,⟨a5,a6⟩,a7⟩:=ih (j+1) (cxA A j t) (lo.map fun y=>y.flip j t) (x.flip j t) (by omega) h2 ht (by
    intro e
    have:=congrArg List.length e
    unfold GT.flip at this
    simp only [List.length_map,List.length_nil] at this
    exact hps (List.length_eq_zero_iff.1 this)) (fun i hi hit hif p hp=>by
    obtain ⟨q,hq,rfl⟩:=List.mem_map.1 hp
    simp only
    by_cases e:i=j
    ·subst e
     rw [EE,hall' q hq,ht1 q hq,decide_eq_true rfl]; rfl
    ·rw [Cy e]
     exact hz i (by omega) hit hif q hq)
   refine ⟨a1,a2.trans (I9 j t lo),a3.trans (JY x j t),fun g hg=>?_,⟨?_,fun hjt=>?_⟩,a7⟩
   ·rcases List.mem_cons.1 hg with rfl | hg
    ·exact ⟨by omega,htn,hne⟩
    ·exact a4 g hg
   ·show (gJ t k (j+1) (lo.map fun y=>y.flip j t,x.flip j t)).1.length+1≤k+1
    omega
   ·have:=a6 (by omega)
    show (gJ t k (j+1) (lo.map fun y=>y.flip j t,x.flip j t)).1.length+1+1≤k+1
    omega
  ·rw [if_neg hc]
   obtain ⟨a1,a2,a3,a4,⟨a5,a6⟩,a7⟩:=ih (j+1) A lo x (by omega) h ht hps (fun i hi hit hif p hp=>by
    by_cases e:i=j
    ·subst e
     cases hb:p.1.testBit i with
     | false=>rfl
     | true =>
      exfalso
      refine hc ⟨hit,List.all_eq_true.2 fun q hq=>?_⟩
      rw [(h.one x hxm).cs i (by omega) hif q hq p hp]; exact hb
    ·exact hz i (by omega) hit hif p hp)
   exact ⟨a1,a2,a3,a4,⟨by omega,fun hjt=>by omega⟩,a7⟩

def Aw (n:Nat) (lo:List GT) (x:GT):List (Nat×Nat)×(List GT×GT) :=
 match x.tg with
 | none=>([],(lo,x))
 | some t=>gJ t n 0 (lo,x)
def At (n:Nat) (best:GT→Option Nat) (lo:List GT) (x:GT):List (Nat×Nat)×List GT :=
 if x.ps=[] then ([],lo) else
  ((Aw n lo x).1,match best (Aw n lo x).2.2 with
   | none=>(Aw n lo x).2.1
   | some b=>(Aw n lo x).2.1++[(Aw n lo x).2.2.bit b true (some (x.tg.getD b)),(Aw n lo x).2.2.bit b false x.tg])
def AJ (n:Nat) (best:GT→Option Nat):Nat→List GT→List (Nat×Nat)
 | 0,_=>[]
 | f+1,st=>match st.getLast? with
  | none=>[]
  | some x=>(At n best st.dropLast x).1++AJ n best f (At n best st.dropLast x).2
def phi (x:GT):Nat:=if x.ps=[] then 1 else 1+2*(x.ps.length*(x.fr.length+1))
def Au:List GT→Nat
 | []=>0
 | x::r=>phi x+Au r
theorem Fb:∀ (l l':List GT),Au (l++l')=Au l+Au l'
 | [],l'=>by show Au l'=0+Au l'; omega
 | x::r,l'=>by show phi x+Au (r++l')=phi x+Au r+Au l'; rw [Fb r l']; omega
def bB:Nat→Nat→Nat
 | 0,m=>min 1 m
 | f+1,m=>min (2 ^ (f+1)) m+bB f m
theorem Hm {f g m:Nat} (h:f≤g):bB f m≤bB g m:=by
 induction g with
 | zero =>
  have:f=0:=by omega
  subst this
  exact Nat.le_refl _
 | succ g ih =>
  by_cases e:f=g+1
  ·subst e; exact Nat.le_refl _
  ·have:=ih (by omega)
   show _≤min (2 ^ (g+1)) m+bB g m
   generalize min (2 ^ (g+1)) m=P
   omega
theorem JA {m:Nat} (hm:1≤m):∀ f,1≤bB f m
 | 0=>by unfold bB; omega
 | f+1=>by
  have:=JA hm f
  unfold bB
  generalize min (2 ^ (f+1)) m=P
  omega
theorem KB (m1 m2:Nat):∀ f,min 1 (m1+m2)+bB f m1+bB f m2≤bB (f+1) (m1+m2)
 | 0=>by
  show min 1 (m1+m2)+min 1 m1+min 1 m2≤min (2 ^ 1) (m1+m2)+min 1 (m1+m2)
  omega
 | f+1=>by
  have:=KB m1 m2 f
  have e:bB (f+1+1) (m1+m2)=min (2 ^ (f+1+1)) (m1+m2)+bB (f+1) (m1+m2):=rfl
  have e1:bB (f+1) m1=min (2 ^ (f+1)) m1+bB f m1:=rfl
  have e2:bB (f+1) m2=min (2 ^ (f+1)) m2+bB f m2:=rfl
  have hp:2 ^ (f+1+1)=2 ^ (f+1)+2 ^ (f+1):=by rw [Nat.pow_succ 2 (f+1)]; omega
  rw [e,e1,e2]
  generalize 2 ^ (f+1)=P at *
  omega
def wt (x:GT):Nat:=match x.tg with
 | none=>bB x.fr.length x.ps.length-1
 | some _=>bB x.fr.length x.ps.length
def wtL:List GT→Nat
 | []=>0
 | x::r=>wt x+wtL r
theorem E7:∀ (l l':List GT),wtL (l++l')=wtL l+wtL l'
 | [],l'=>by show wtL l'=0+wtL l'; omega
 | x::r,l'=>by show wt x+wtL (r++l')=wt x+wtL r+wtL l'; rw [E7 r l']; omega
theorem JP {x y:GT} (h:AI x y):phi x=phi y:=by
 have hl:=DT h
 unfold phi
 rw [h.1,hl]
 by_cases e:x.ps=[]
 ·rw [if_pos e,if_pos (List.length_eq_zero_iff.1 (by rw [← hl,e]; rfl))]
 ·rw [if_neg e,if_neg (fun e2=>e (List.length_eq_zero_iff.1 (by rw [hl,e2]; rfl)))]
theorem Iq {x y:GT} (h:AI x y):wt x=wt y:=by
 unfold wt
 rw [h.1,h.2.1,DT h]
theorem Hx:∀ {a b:List GT},A6 a b→Au a=Au b
 | [],[],_=>rfl
 | x::r,y::q,h=>by show phi x+Au r=phi y+Au q; rw [JP h.1,Hx h.2]
 | [],_::_,h=>h.elim
 | _::_,[],h=>h.elim
theorem IX:∀ {a b:List GT},A6 a b→wtL a=wtL b
 | [],[],_=>rfl
 | x::r,y::q,h=>by show wt x+wtL r=wt y+wtL q; rw [Iq h.1,IX h.2]
 | [],_::_,h=>h.elim
 | _::_,[],h=>h.elim
theorem FV {n:Nat} {A:List Nat} {lo:List GT} {x:GT} (h:GSt n A (lo++[x])) (hps:x.ps≠[]) :
  GSt n (An A (Aw n lo x).1) ((Aw n lo x).2.1++[(Aw n lo x).2.2])∧A6 (Aw n lo x).2.1 lo∧AI (Aw n lo x).2.2 x∧GOk n (Aw n lo x).1∧(Aw n lo x).1.length≤(match x.tg with | none=>0 | some _=>n-1) ∧
   ∀ t,x.tg=some t→∀ i,i<n→i≠t→i∉x.fr→∀ p∈(Aw n lo x).2.2.ps,p.1.testBit i=false:=by
 unfold Aw
 cases ht:x.tg with
 | none=>exact ⟨h,GF _,GQ _,fun g hg=>(by cases hg),Nat.le_refl _,fun t e=>(by cases e)⟩
 | some t =>
  obtain ⟨a1,a2,a3,a4,⟨_,a5⟩,a6⟩:=MJ n 0 A lo x (by omega) h ht hps (fun i hi=>absurd hi (Nat.not_lt_zero _))
  have:=a5 (Nat.zero_le _)
  exact ⟨a1,a2,a3,a4,by simp only; omega,fun t' e=>(by cases e; exact a6)⟩
theorem Gh {α:Type} (f:α→Bool):∀ l:List α,(l.filter fun p=>f p==true).length+(l.filter fun p=>f p==false).length=l.length
 | []=>rfl
 | x::r=>by
  have:=Gh f r
  rw [List.filter_cons,List.filter_cons]
  cases hf:f x
  ·simp only [hf,beq_self_eq_true,if_true,List.length_cons,show (false==true)=false from rfl,Bool.false_eq_true,if_false]
   omega
  ·simp only [hf,beq_self_eq_true,if_true,List.length_cons,show (true==false)=false from rfl,Bool.false_eq_true,if_false]
   omega
theorem Hj {b:Nat}:∀ {l:List Nat},b∈l→(l.filter fun k=>k != b).length+1≤l.length
 | x::r,h=>by
  rw [List.filter_cons]
  by_cases e:x=b
  ·subst e
   have:=List.length_filter_le (fun k=>k != x) r
   simp
   omega
  ·rcases List.mem_cons.1 h with h | h
   ·exact absurd h.symm e
   ·have:=Hj h
    rw [if_pos (by simpa using e),List.length_cons,List.length_cons]
    omega
def Gg (n:Nat) (best:GT→Option Nat):Prop:=∀ x:GT,x.ps≠[]→(best x=none→x.fr=[])∧∀ b,best x=some b→b∈x.fr
theorem NR {x:GT} {b:Nat} (hb:b∈x.fr) (hps:x.ps≠[]) (tg tg':Option Nat):phi (x.bit b true tg)+phi (x.bit b false tg')+1≤phi x:=by
 have h1:=Gh (fun p:Nat×Nat=>p.1.testBit b) x.ps
 have h2:=Hj hb
 have h3:1≤x.ps.length:=by
  cases hx:x.ps with
  | nil=>exact absurd hx hps
  | cons _ _=>simp
 have e:phi x=1+2*(x.ps.length*(x.fr.length+1)):=by unfold phi; rw [if_neg hps]
 have up:∀ v tg,phi (x.bit b v tg)≤1+2*((x.bit b v tg).ps.length*x.fr.length):=fun v tg=>by
  have hf:(x.bit b v tg).fr.length+1≤x.fr.length:=h2
  unfold phi
  split
  ·omega
  ·have:=Nat.mul_le_mul_left (x.bit b v tg).ps.length hf
   omega
 have u1:=up true tg
 have u2:=up false tg'
 have hsum:(x.bit b true tg).ps.length+(x.bit b false tg').ps.length=x.ps.length:=h1
 have hm:(x.bit b true tg).ps.length*x.fr.length+(x.bit b false tg').ps.length*x.fr.length=x.ps.length*x.fr.length:=by rw [← Nat.add_mul,hsum]
 rw [e,Nat.mul_add,Nat.mul_one]
 omega
theorem My {x:GT} {b:Nat} (hb:b∈x.fr) (hps:x.ps≠[]) (tg':Nat):wt (x.bit b true (some tg'))+wt (x.bit b false x.tg)+(match x.tg with | none=>0 | some _=>1)≤wt x:=by
 have hsum:(x.bit b true (some tg')).ps.length+(x.bit b false x.tg).ps.length=x.ps.length:=Gh (fun p:Nat×Nat=>p.1.testBit b) x.ps
 have h2:(x.fr.filter fun k=>k != b).length+1≤x.fr.length:=Hj hb
 have h3:1≤x.ps.length:=by
  cases hx:x.ps with
  | nil=>exact absurd hx hps
  | cons _ _=>simp
 obtain ⟨F,hF⟩:∃ F,x.fr.length=F+1:=⟨x.fr.length-1,by omega⟩
 have s:=KB (x.bit b true (some tg')).ps.length (x.bit b false x.tg).ps.length F
 rw [hsum,← hF] at s
 have m1:bB (x.bit b true (some tg')).fr.length (x.bit b true (some tg')).ps.length≤bB F (x.bit b true (some tg')).ps.length:=Hm (by show (x.fr.filter fun k=>k != b).length≤F; omega)
 have m2:bB (x.bit b false x.tg).fr.length (x.bit b false x.tg).ps.length≤bB F (x.bit b false x.tg).ps.length:=Hm (by show (x.fr.filter fun k=>k != b).length≤F; omega)
 have e1:wt (x.bit b true (some tg'))=bB (x.bit b true (some tg')).fr.length (x.bit b true (some tg')).ps.length:=rfl
 have e2:wt (x.bit b false x.tg)=match x.tg with | none=>bB (x.bit b false x.tg).fr.length (x.bit b false x.tg).ps.length-1 | some _=>bB (x.bit b false x.tg).fr.length (x.bit b false x.tg).ps.length:=rfl
 have e3:wt x=match x.tg with | none=>bB x.fr.length x.ps.length-1 | some _=>bB x.fr.length x.ps.length:=rfl
 rw [e1,e2,e3]
 generalize bB (x.bit b true (some tg')).fr.length (x.bit b true (some tg')).ps.length=a1 at *
 generalize bB (x.bit b false x.tg).fr.length (x.bit b false x.tg).ps.length=a2 at *
 generalize bB x.fr.length x.ps.length=a3 at *
 cases x.tg <;> simp only <;> omega
theorem JM {n:Nat} {best:GT→Option Nat} (hbest:Gg n best) {A:List Nat} {lo:List GT} {x:GT} (h:GSt n A (lo++[x])) (hfr:∀ y∈lo++[x],∀ k∈y.fr,k<n) :
  GSt n (An A (At n best lo x).1) (At n best lo x).2∧GOk n (At n best lo x).1∧Au (At n best lo x).2+1≤Au (lo++[x])∧(At n best lo x).1.length+(n-1)*wtL (At n best lo x).2≤(n-1)*wtL (lo++[x])∧(∀ y∈(At n best lo x).2,∀ k∈y.fr,k<n) ∧
   ∀ y∈lo++[x],∀ p∈y.ps,p.2∈An A (At n best lo x).1∨∃ z∈(At n best lo x).2,∃ q∈z.ps,q.2=p.2:=by
 have hxm:x∈lo++[x]:=List.mem_append_right _ (List.mem_singleton.2 rfl)
 unfold At
 by_cases hps:x.ps=[]
 ·rw [if_pos hps]
  refine ⟨HR h,fun g hg=>(by cases hg),?_,?_,fun y hy=>hfr y (List.mem_append_left _ hy),fun y hy p hp=>?_⟩
  ·rw [Fb]
   show Au lo+1≤Au lo+(phi x+0)
   unfold phi
   rw [if_pos hps]
   omega
  ·rw [E7,Nat.mul_add]
   show 0+(n-1)*wtL lo≤_
   omega
  ·rcases List.mem_append.1 hy with hy | hy
   ·exact .inr ⟨y,hy,p,hp,rfl⟩
   ·rw [List.mem_singleton] at hy; subst hy; rw [hps] at hp; cases hp
 ·rw [if_neg hps]
  obtain ⟨a1,a2,a3,a4,a5,a6⟩:=FV h hps
  generalize hr:Aw n lo x=r at *
  obtain ⟨gs,lo',x'⟩:=r
  simp only at a1 a2 a3 a4 a5 a6 ⊢
  have hps':x'.ps≠[]:=fun e=>hps (List.length_eq_zero_iff.1 (by rw [← DT a3,e]; rfl))
  have hfr':∀ y∈lo',∀ k∈y.fr,k<n:=fun y hy k hk=>by
   have:∀ (a b:List GT),A6 a b→∀ y∈a,∃ z∈b,y.fr=z.fr:=fun a=>by
    induction a with
    | nil=>intro b _ y hy; cases hy
    | cons u q ih =>
     intro b hb y hy
     cases b with
     | nil=>exact hb.elim
     | cons v w =>
      rcases List.mem_cons.1 hy with rfl | hy
      ·exact ⟨v,.head _,hb.1.1⟩
      ·obtain ⟨z,hz,e⟩:=ih w hb.2 y hy
       exact ⟨z,.tail _ hz,e⟩
   obtain ⟨z,hz,e⟩:=this lo' lo a2 y hy
   rw [e] at hk
   exact hfr z (List.mem_append_left _ hz) k hk
  have hlow:∀ y∈lo,∀ p∈y.ps,∃ z∈lo',∃ q∈z.ps,q.2=p.2:=fun y hy p hp=>by
   obtain ⟨z,hz,e⟩:=A6.mem a2 y hy
   have:p.2∈z.ps.map Prod.snd:=by rw [e.2.2]; exact List.mem_map_of_mem hp
   obtain ⟨q,hq,e2⟩:=List.mem_map.1 this
   exact ⟨z,hz,q,hq,e2⟩
  have htop:∀ p∈x.ps,∃ q∈x'.ps,q.2=p.2:=fun p hp=>by
   have:p.2∈x'.ps.map Prod.snd:=by rw [a3.2.2]; exact List.mem_map_of_mem hp
   obtain ⟨q,hq,e2⟩:=List.mem_map.1 this
   exact ⟨q,hq,e2⟩
  have hw3:wt x'=wt x:=Iq a3
  have hp3:phi x'=phi x:=JP a3
  have hwl:=IX a2
  have hpl:=Hx a2
  have hbx:=hbest x' hps'
  cases hb:best x' with
  | none =>
   have hf0:=hbx.1 hb
   simp only
   refine ⟨HR a1,a4,?_,?_,hfr',fun y hy p hp=>?_⟩
   ·rw [Fb,hpl]
    show Au lo+1≤Au lo+(phi x+0)
    unfold phi
    rw [if_neg hps]
    omega
   ·rw [E7,hwl,Nat.mul_add]
    show _≤(n-1)*wtL lo+(n-1)*(wt x+0)
    have:gs.length≤(n-1)*wt x:=by
     unfold wt
     cases ht:x.tg with
     | none=>rw [ht] at a5; simp only at a5 ⊢; omega
     | some t =>
      rw [ht] at a5; simp only at a5 ⊢
      have h1:1≤bB x.fr.length x.ps.length:=JA (by
       cases hx:x.ps with
       | nil=>exact absurd hx hps
       | cons _ _=>simp) _
      have:=Nat.mul_le_mul_left (n-1) h1
      omega
    rw [Nat.add_zero]
    omega
   ·rcases List.mem_append.1 hy with hy | hy
    ·exact .inr (hlow y hy p hp)
    ·rw [List.mem_singleton] at hy; subst hy
     obtain ⟨q,hq,e⟩:=htop p hp
     obtain ⟨t,t1,t2,t3⟩:=Mg (a1.one x' (List.mem_append_right _ (List.mem_singleton.2 rfl))) hf0 hq (fun t ht k hk hkt=>a6 t (by rw [← a3.2.1]; exact ht) k hk hkt (by rw [← a3.1,hf0]; exact List.not_mem_nil))
     refine .inl ?_
     rw [← e,t3,List.getD_eq_getElem?_getD,List.getElem?_eq_getElem (by rw [a1.len]; exact t1)]
     exact List.getElem_mem _
  | some b =>
   have hbf:=hbx.2 b hb
   have hbn:b<n:=hfr x hxm b (by rw [← a3.1]; exact hbf)
   simp only
   have hsp:=N3 a1 hbn hbf hps'
   rw [a3.2.1] at hsp
   refine ⟨hsp,a4,?_,?_,fun y hy k hk=>?_,fun y hy p hp=>?_⟩
   ·have:=NR hbf hps' (some (x.tg.getD b)) x.tg
    rw [Fb,Fb,hpl]
    show Au lo+(phi (x'.bit b true (some (x.tg.getD b)))+(phi (x'.bit b false x.tg)+0))+1≤Au lo+(phi x+0)
    omega
   ·have:=My hbf hps' (x.tg.getD b)
    rw [a3.2.1] at this
    rw [E7,E7,hwl]
    show gs.length+(n-1)*(wtL lo+(wt (x'.bit b true (some (x.tg.getD b)))+(wt (x'.bit b false x.tg)+0)))≤(n-1)*(wtL lo+(wt x+0))
    have h2:=Nat.mul_le_mul_left (n-1) this
    rw [hw3] at h2
    simp only [Nat.mul_add,Nat.add_zero] at h2 ⊢
    generalize (n-1)*wt (x'.bit b true (some (x.tg.getD b)))=w1 at *
    generalize (n-1)*wt (x'.bit b false x.tg)=w2 at *
    cases ht:x.tg with
    | none=>rw [ht] at a5 h2; simp only at a5 h2; omega
    | some t=>rw [ht] at a5 h2; simp only [Nat.mul_one] at a5 h2; omega
   ·rcases List.mem_append.1 hy with hy | hy
    ·exact hfr' y hy k hk
    ·refine hfr x hxm k ?_
     rw [← a3.1]
     rcases List.mem_cons.1 hy with rfl | hy
     ·exact (List.mem_filter.1 hk).1
     ·rw [List.mem_singleton] at hy; subst hy
      exact (List.mem_filter.1 hk).1
   ·rcases List.mem_append.1 hy with hy | hy
    ·obtain ⟨z,hz,q,hq,e⟩:=hlow y hy p hp
     exact .inr ⟨z,List.mem_append_left _ hz,q,hq,e⟩
    ·rw [List.mem_singleton] at hy; subst hy
     obtain ⟨q,hq,e⟩:=htop p hp
     cases hbt:q.1.testBit b with
     | true=>exact .inr ⟨_,List.mem_append_right _ (.head _),q,List.mem_filter.2 ⟨hq,by rw [hbt]; rfl⟩,e⟩
     | false=>exact .inr ⟨_,List.mem_append_right _ (.tail _ (.head _)),q,List.mem_filter.2 ⟨hq,by rw [hbt]; rfl⟩,e⟩
/-- All masks of the tasks appear. -/
theorem Pm {n:Nat} {best:GT→Option Nat} (hbest:Gg n best):∀ (f:Nat) (A:List Nat) (st:List GT),GSt n A st→(∀ y∈st,∀ k∈y.fr,k<n)→Au st≤f →
  GOk n (AJ n best f st)∧(AJ n best f st).length≤(n-1)*wtL st∧∀ y∈st,∀ p∈y.ps,p.2∈AZ A (AJ n best f st):=fun f=>by
 induction f with
 | zero =>
  intro A st _ _ hp
  cases st with
  | nil=>exact ⟨fun g hg=>(by cases hg),Nat.zero_le _,fun y hy=>(by cases hy)⟩
  | cons x r =>
   exfalso
   have:1≤phi x:=by unfold phi; split <;> omega
   have hp:phi x+Au r≤0:=hp
   omega
 | succ f ih =>
  intro A st h hfr hp
  unfold AJ
  cases hl:st.getLast? with
  | none =>
   rw [List.getLast?_eq_none_iff] at hl
   subst hl
   exact ⟨fun g hg=>(by cases hg),Nat.zero_le _,fun y hy=>(by cases hy)⟩
  | some x =>
   have hst:st=st.dropLast++[x]:=by
    have hne:st≠[]:=fun e=>by rw [e] at hl; cases hl
    have h1:=List.dropLast_concat_getLast hne
    rw [List.getLast?_eq_some_getLast hne] at hl
    rw [Option.some.inj hl] at h1
    exact h1.symm
   generalize st.dropLast=lo at *
   subst hst
   simp only
   obtain ⟨a1,a2,a3,a4,a5,a6⟩:=JM hbest h hfr
   obtain ⟨b1,b2,b3⟩:=ih _ _ a1 a5 (by omega)
   refine ⟨fun g hg=>(List.mem_append.1 hg).elim (a2 g) (b1 g),by rw [List.length_append]; omega,fun y hy p hpp=>?_⟩
   rcases a6 y hy p hpp with h6 | ⟨z,hz,q,hq,e⟩
   ·exact Gp (HA h6)
   ·rw [← e]; exact Gp (b3 z hz q hq)
/-- The stack at the start. -/
def idR (n:Nat):List Nat:=(List.range n).map fun k=>2 ^ k
theorem Oj {n v:Nat} (hv:v<2 ^ n):Az (idR n) n v=v:=by
 have key:∀ m,m≤n→∀ i,(Az (idR n) m v).testBit i=(decide (i<m)&&v.testBit i):=fun m=>by
  induction m with
  | zero=>intro _ i; simp [Az]
  | succ m ih =>
   intro hm i
   have gd:(idR n).getD m 0=2 ^ m:=by
    unfold idR
    rw [List.getD_eq_getElem?_getD,List.getElem?_map,List.getElem?_range (by omega)]; rfl
   unfold Az
   rw [Nat.testBit_xor,ih (by omega) i,gd]
   by_cases e:i=m
   ·subst e
    rw [decide_eq_false (Nat.lt_irrefl i),decide_eq_true (show i<i+1 by omega)]
    cases hb:v.testBit i
    ·simp
    ·simp [Nat.testBit_two_pow_self]
   ·have e2:decide (i<m+1)=decide (i<m):=by rw [Bool.eq_iff_iff,decide_eq_true_eq,decide_eq_true_eq]; omega
    rw [e2]
    have e3:(2 ^ m).testBit i=false:=by rw [Nat.testBit_two_pow]; exact decide_eq_false (fun h=>e h.symm)
    split <;> simp [e3]
 apply Nat.eq_of_testBit_eq
 intro i
 rw [key n (Nat.le_refl _) i]
 by_cases h:i<n
 ·rw [decide_eq_true h,Bool.true_and]
 ·rw [decide_eq_false h,Bool.false_and]
  symm
  exact Nat.testBit_lt_two_pow (Nat.lt_of_lt_of_le hv (Nat.pow_le_pow_right (by omega) (by omega)))
def A3 (n:Nat) (ms:List Nat):GT:=⟨ms.map fun v=>(v,v),List.range n,none⟩
theorem IS {n:Nat} {ms:List Nat} (h:∀ v∈ms,1≤v∧v<2 ^ n):GSt n (idR n) [A3 n ms]:=by
 refine ⟨by unfold idR; simp,fun x hx=>?_,List.pairwise_singleton _ _⟩
 rw [List.mem_singleton] at hx; subst hx
 have hin:∀ k,k<n→k∈(A3 n ms).fr:=fun k hk=>List.mem_range.2 hk
 refine ⟨fun p hp=>?_,fun k hk hkf=>absurd (hin k hk) hkf,fun _ k hk hkf=>absurd (hin k hk) hkf,fun t ht=>(by cases ht)⟩
 obtain ⟨v,hv,rfl⟩:=List.mem_map.1 hp
 obtain ⟨h1,h2⟩:=h v hv
 exact ⟨h2,Oj h2,by simp only; omega⟩
/-- Each mask is met, and the gates are few. -/
theorem P4 {n:Nat} {best:GT→Option Nat} (hbest:Gg n best) {ms:List Nat} (h:∀ v∈ms,1≤v∧v<2 ^ n) (f:Nat) (hf:1+2*(ms.length*(n+1))≤f) :
  GOk n (AJ n best f [A3 n ms])∧(AJ n best f [A3 n ms]).length≤(n-1)*(bB n ms.length-1)∧∀ v∈ms,v∈AZ (idR n) (AJ n best f [A3 n ms]):=by
 obtain ⟨a1,a2,a3⟩:=Pm hbest f (idR n) [A3 n ms] (IS h) (fun y hy k hk=>by
  rw [List.mem_singleton] at hy; subst hy
  exact List.mem_range.1 hk) (by
  show phi (A3 n ms)+0≤f
  unfold phi
  split
  ·omega
  ·show 1+2*((ms.map fun v=>(v,v)).length*((List.range n).length+1))+0≤f
   rw [List.length_map,List.length_range]; omega)
 refine ⟨a1,?_,fun v hv=>a3 _ (.head _) (v,v) (List.mem_map_of_mem hv)⟩
 have e:wtL [A3 n ms]=bB n ms.length-1:=by
  show bB (List.range n).length (ms.map fun v=>(v,v)).length-1+0=_
  rw [List.length_map,List.length_range]; rfl
 rw [← e]; exact a2

theorem I8 {α σ:Type} {f:Nat→σ→Option σ} {g:σ→α→σ} (P:Nat→σ→Prop) {l:List α} (hf:∀ j x s,l[j]?=some x→P j s→f j s=some (g s x)∧P (j+1) (g s x)):∀ (r:List α) (i:Nat) (s:σ),l.drop i=r→P i s→forN f r.length i s=some (r.foldl g s)∧P (i+r.length) (r.foldl g s)
 | [],_,s,_,h=>⟨rfl,h⟩
 | x::r,i,s,hd,h=>by
  have hx:l[i]?=some x:=by
   have:=congrArg (fun l=>l[0]?) hd
   simpa using this
  have hd':l.drop (i+1)=r:=by
   have:=congrArg (List.drop 1) hd
   rw [List.drop_drop] at this
   simpa using this
  obtain ⟨h1,h2⟩:=hf i x s hx h
  obtain ⟨h3,h4⟩:=I8 P hf r (i+1) (g s x) hd' h2
  refine ⟨?_,?_⟩
  ·show (f i s).bind _=_
   rw [h1]; exact h3
  ·rw [List.length_cons,show i+(r.length+1)=i+1+r.length by omega]; exact h4
theorem E2 {α σ:Type} {f:Nat→σ→Option σ} {g:σ→α→σ} (P:Nat→σ→Prop) {l:List α} {s:σ} (hf:∀ j x s,l[j]?=some x→P j s→f j s=some (g s x)∧P (j+1) (g s x)) (h:P 0 s):forN f l.length 0 s=some (l.foldl g s):=(I8 P hf l 0 s rfl h).1
theorem BO {α:Type} {pre r:List α} {x:α}:(pre++x::r)[pre.length]?=some x:=by
 rw [List.getElem?_append_right (Nat.le_refl _),Nat.sub_self]; rfl
theorem F9 {α:Type} {pre r:List α} {x y:α}:(pre++x::r).set pre.length y=pre++y::r:=by
 rw [List.set_append_right _ _ (Nat.le_refl _),Nat.sub_self]; rfl
theorem Fq {α:Type} {f:Nat→List α→Option (List α)} {g:α→α} {Q:α→Prop} (hf:∀ pre x r,Q x→f pre.length (pre++x::r)=some (pre++g x::r)):∀ (r pre:List α),(∀ x∈r,Q x)→forN f r.length pre.length (pre++r)=some (pre++r.map g)
 | [],pre,_=>rfl
 | x::r,pre,h=>by
  have ih:=Fq hf r (pre++[g x]) (fun y hy=>h y (.tail _ hy))
  show (f pre.length (pre++x::r)).bind _=_
  rw [hf pre x r (h x (.head _))]
  rw [List.length_append,List.append_assoc,List.append_assoc] at ih
  exact ih
theorem OP:∀ (v:Fin 32) (j:Fin 5),bits .xor .i64 (v.val:Int) (shlK .i64 1 (j.val:Int))=((v.val ^^^ 2 ^ j.val:Nat):Int):=by decide +kernel
theorem HI {v j:Nat} (hv:v<32) (hj:j<5):bits .xor .i64 (v:Int) (shlK .i64 1 (j:Int))=((v ^^^ 2 ^ j:Nat):Int):=OP ⟨v,hv⟩ ⟨j,hj⟩
def vI (ps:List (Nat×Nat)):List Int:=ps.map fun p=>(p.1:Int)
theorem AR (ps:List (Nat×Nat)):(vI ps).length=ps.length:=by unfold vI; rw [List.length_map]
theorem Kg {ps:List (Nat×Nat)} {i:Nat} {p:Nat×Nat} (h:ps[i]?=some p):getI (vI ps) (i:Int)=some (p.1:Int):=by
 rw [getI_nat]; unfold vI; rw [List.getElem?_map,h]; rfl
/-- The vectors of a task are small. -/
def SmV (x:GT):Prop:=(∀ p∈x.ps,p.1<32)∧x.ps.length≤1000
theorem LB {x:GT} {j t:Nat} (hj:j<5) (h:SmV x):SmV (x.flip j t):=by
 refine ⟨fun p hp=>?_,by unfold GT.flip; rw [List.length_map]; exact h.2⟩
 obtain ⟨q,hq,rfl⟩:=List.mem_map.1 hp
 exact G0 (n:=5) hj (h.1 q hq)
theorem DQ (x:GT) (j t:Nat):vI (x.flip j t).ps=(vI x.ps).map fun v=>((AH j t v.toNat:Nat):Int):=by
 unfold vI GT.flip
 rw [List.map_map,List.map_map]
 apply List.map_congr_left
 intro p _
 simp only [Function.comp,Int.toNat_natCast]
theorem H9 {x:GT} {j t:Nat} (hj:j<5) (ht:t<5) (h:SmV x):Co (vI x.ps) (j:Int) (t:Int)=some (vI (x.flip j t).ps):=by
 unfold Co
 rw [chk_t (by rw [AR]; have:=h.2; omega),DQ]
 have:=Fq (f:=Es (t:Int) (j:Int)) (g:=fun v=>((AH j t v.toNat:Nat):Int)) (Q:=fun v=>∃ a:Nat,v=(a:Int)∧a<32) (fun pre v r ⟨a,e,ha⟩=>by
  subst e
  unfold Es
  rw [getI_nat,BO]
  simp only [Option.bind_some]
  rw [C1 (show t<1000 by omega),C1 (show j<1000 by omega),chk_t (by omega),chk_t (by omega),tb ha (by omega)]
  simp only [Int.toNat_natCast,HI ha hj,F9]
  unfold AH
  cases a.testBit t <;> rfl) (vI x.ps) [] (fun v hv=>by
   obtain ⟨p,hp,rfl⟩:=List.mem_map.1 hv
   exact ⟨p.1,rfl,h.1 p hp⟩)
 rw [List.nil_append,List.nil_append] at this
 rw [show forN (Es (t:Int) (j:Int)) (vI x.ps).length 0 (vI x.ps)=_ from this]
 rfl
theorem M5 {x:GT} {j t:Nat} (hj:j<5) (ht:t<5) (h:SmV x):forN (D8 (t:Int) (j:Int)) (vI x.ps).length 0 (vI x.ps)=some (vI (x.flip j t).ps):=by
 rw [DQ]
 have:=Fq (f:=D8 (t:Int) (j:Int)) (g:=fun v=>((AH j t v.toNat:Nat):Int)) (Q:=fun v=>∃ a:Nat,v=(a:Int)∧a<32) (fun pre v r ⟨a,e,ha⟩=>by
  subst e
  unfold D8
  rw [getI_nat,BO]
  simp only [Option.bind_some]
  rw [chk_t (by omega),chk_t (by omega),tb ha (by omega)]
  simp only [Int.toNat_natCast,HI ha hj,F9]
  unfold AH
  cases a.testBit t <;> rfl) (vI x.ps) [] (fun v hv=>by
   obtain ⟨p,hp,rfl⟩:=List.mem_map.1 hv
   exact ⟨p.1,rfl,h.1 p hp⟩)
 rw [List.nil_append,List.nil_append] at this
 exact this
def tgI:Option Nat→Int
 | none=>-1
 | some t=>(t:Int)
def frm (l:List Nat):Nat:=l.foldr (fun k a=>2 ^ k ||| a) 0
def toI (x:GT):Ag:=Ag.mk (vI x.ps) (frm x.fr:Int) (tgI x.tg)
def toS (x:GT):Af:=Af.mk (vI x.ps) (cI x.fr) (tgI x.tg)
theorem Hb (k:Nat):∀ l:List Nat,(frm l).testBit k=decide (k∈l)
 | []=>by unfold frm; simp
 | a::l=>by
  have ih:=Hb k l
  show (2 ^ a ||| frm l).testBit k=_
  rw [Nat.testBit_or,Nat.testBit_two_pow,ih,Bool.eq_iff_iff,Bool.or_eq_true,decide_eq_true_eq,decide_eq_true_eq,decide_eq_true_eq,List.mem_cons]
  constructor
  ·rintro (h | h)
   ·exact .inl h.symm
   ·exact .inr h
  ·rintro (h | h)
   ·exact .inl h.symm
   ·exact .inr h
theorem GY:∀ {l:List Nat},(∀ k∈l,k<5)→frm l<32
 | [],_=>by show 0<32; omega
 | a::l,h=>by
  have:=GY (l:=l) (fun k hk=>h k (.tail _ hk))
  exact Nat.or_lt_two_pow (n:=5) (Nat.pow_lt_pow_right (by omega) (h a (.head _))) this
/-- The free qubits, in order. -/
def BC (l:List Nat):Prop:=l=(List.range 5).filter fun k=>decide (k∈l)
theorem Gd {l:List Nat} (h:BC l):∀ k∈l,k<5:=fun k hk=>by
 rw [h] at hk
 exact List.mem_range.1 (List.mem_filter.1 hk).1
theorem KO {l:List Nat} (h:BC l) (p:Nat→Bool):BC (l.filter p):=by
 unfold BC
 conv=>lhs; rw [h]
 rw [List.filter_filter]
 apply List.filter_congr
 intro k _
 rw [Bool.eq_iff_iff,Bool.and_eq_true,decide_eq_true_eq,decide_eq_true_eq,List.mem_filter,and_comm]
theorem P7 {n:Nat} (hn:n≤5):BC (List.range n):=by
 have:n=0∨n=1∨n=2∨n=3∨n=4∨n=5:=by omega
 unfold BC
 rcases this with e | e | e | e | e | e <;> subst e <;> decide
theorem Lu:∀ (f:Fin 32) (b:Fin 5),bits .andNot .i64 (f.val:Int) (shlK .i64 1 (b.val:Int))=(((List.range 5).filter fun k=>f.val.testBit k&&(k != b.val)).foldr (fun k a=>2 ^ k ||| a) 0:Nat):=by decide +kernel
theorem Nv {l:List Nat} (h:BC l) {b:Nat} (hb:b<5):bits .andNot .i64 (frm l:Int) (shlK .i64 1 (b:Int))=(frm (l.filter fun k=>k != b):Int):=by
 have:=Lu ⟨frm l,GY (Gd h)⟩ ⟨b,hb⟩
 simp only at this
 rw [this]
 have e:(l.filter fun k=>k != b)=(List.range 5).filter fun k=>(frm l).testBit k&&(k != b):=by
  conv=>lhs; rw [h]
  rw [List.filter_filter]
  apply List.filter_congr
  intro k _
  rw [Hb,Bool.and_comm]
 rw [e]; rfl
def Bc (ps:List (Nat×Nat)) (b:Nat):Nat:=max (ps.filter fun p=>p.1.testBit b==true).length (ps.filter fun p=>p.1.testBit b==false).length
def bfS (ps:List (Nat×Nat)) (s:Option Nat×Nat) (j:Nat):Option Nat×Nat:=if s.2<Bc ps j then (some j,Bc ps j) else s
def AE (x:GT):Option Nat:=(x.fr.foldl (bfS x.ps) (none,0)).1
theorem Jj {ps:List (Nat×Nat)}:∀ (l:List Nat) (s:Option Nat×Nat),s.1≠none→(l.foldl (bfS ps) s).1≠none
 | [],_,h=>h
 | a::l,s,h=>Jj l (bfS ps s a) (by unfold bfS; split <;> simp [h])
theorem H2 {ps:List (Nat×Nat)} {b:Nat}:∀ (l:List Nat) (s:Option Nat×Nat),(l.foldl (bfS ps) s).1=some b→s.1=some b∨b∈l
 | [],_,h=>.inl h
 | a::l,s,h=>by
  rcases H2 l (bfS ps s a) h with h1 | h1
  ·unfold bfS at h1
   split at h1
   ·cases h1; exact .inr (.head _)
   ·exact .inl h1
  ·exact .inr (.tail _ h1)
theorem JZ {ps:List (Nat×Nat)} (h:ps≠[]) (b:Nat):0<Bc ps b:=by
 have h1:=Gh (fun p:Nat×Nat=>p.1.testBit b) ps
 have h2:1≤ps.length:=by
  cases ps with
  | nil=>exact absurd rfl h
  | cons _ _=>simp
 unfold Bc
 generalize (ps.filter fun p=>p.1.testBit b==true).length=p at *
 generalize (ps.filter fun p=>p.1.testBit b==false).length=q at *
 omega
theorem Gm (n:Nat):Gg n AE:=fun x hx=>by
 refine ⟨fun h=>?_,fun b h=>?_⟩
 ·cases hf:x.fr with
  | nil=>rfl
  | cons a l =>
   exfalso
   unfold AE at h
   rw [hf] at h
   refine Jj l (bfS x.ps (none,0) a) ?_ h
   unfold bfS
   rw [if_pos (JZ hx a)]
   simp
 ·rcases H2 x.fr (none,0) h with h | h
  ·cases h
  ·exact h
def spS (b:Nat) (s:List Int×List Int) (p:Nat×Nat):List Int×List Int:=if p.1.testBit b then (s.1++[(p.1:Int)],s.2) else (s.1,s.2++[(p.1:Int)])
theorem Ky (b:Nat):∀ (ps:List (Nat×Nat)) (s:List Int×List Int),ps.foldl (spS b) s=(s.1++vI (ps.filter fun p=>p.1.testBit b==true),s.2++vI (ps.filter fun p=>p.1.testBit b==false))
 | [],s=>by simp [vI]
 | p::ps,s=>by
  rw [List.foldl_cons,Ky b ps,List.filter_cons,List.filter_cons]
  unfold spS vI
  cases h:p.1.testBit b <;> simp
theorem Ik {ps:List (Nat×Nat)} {b:Nat} (hb:b<5) (h1:∀ p∈ps,p.1<32) (h2:ps.length≤1000):Ck (vI ps) (b:Int)=some (vI (ps.filter fun p=>p.1.testBit b==true),vI (ps.filter fun p=>p.1.testBit b==false)):=by
 unfold Ck
 rw [chk_t (by rw [AR]; omega),AR]
 have:=E2 (f:=E8 (vI ps) (b:Int)) (g:=spS b) (l:=ps) (s:=([],[])) (fun i s=>s.1.length≤i∧s.2.length≤i) (fun i p s hp ⟨q1,q2⟩=>by
  obtain ⟨s1,s2⟩:=s
  have hi:=(List.getElem?_eq_some_iff.1 hp).1
  have hm:=h1 p (List.mem_of_getElem? hp)
  unfold E8
  simp only at q1 q2 ⊢
  rw [Kg hp]
  simp only [Option.bind_some]
  rw [chk_t (by omega),chk_t (by omega),chk_t (by omega),tb hm (by omega)]
  unfold spS
  cases p.1.testBit b
  ·exact ⟨rfl,by simp; omega⟩
  ·exact ⟨rfl,by simp; omega⟩) ⟨Nat.le_refl _,Nat.le_refl _⟩
 rw [this,Ky]
 simp only [Option.bind_some,List.nil_append]
def stS (b:Nat) (v:Bool) (s:List Int) (p:Nat×Nat):List Int:=if p.1.testBit b=v then s++[(p.1:Int)] else s
theorem HS (b:Nat) (v:Bool):∀ (ps:List (Nat×Nat)) (s:List Int),ps.foldl (stS b v) s=s++vI (ps.filter fun p=>p.1.testBit b==v)
 | [],s=>by simp [vI]
 | p::ps,s=>by
  rw [List.foldl_cons,HS b v ps,List.filter_cons]
  unfold stS vI
  by_cases h:p.1.testBit b=v
  ·rw [if_pos h,if_pos (by simpa using h)]; simp
  ·rw [if_neg h,if_neg (by simpa using h)]
theorem E6 {ps:List (Nat×Nat)} {b:Nat} (v:Bool) (hb:b<5) (h1:∀ p∈ps,p.1<32) (h2:ps.length≤1000):AK (vI ps) (b:Int) (bif v then 1 else 0)=some (vI (ps.filter fun p=>p.1.testBit b==v)):=by
 unfold AK
 rw [chk_t (by rw [AR]; omega),AR]
 have:=E2 (f:=EA (vI ps) (b:Int) (bif v then 1 else 0)) (g:=stS b v) (l:=ps) (s:=[]) (fun i s=>s.length≤i) (fun i p s hp q1=>by
  have hi:=(List.getElem?_eq_some_iff.1 hp).1
  have hm:=h1 p (List.mem_of_getElem? hp)
  unfold EA
  rw [Kg hp]
  simp only [Option.bind_some]
  rw [C1 (show b<1000 by omega),chk_t (by omega),chk_t (by omega)]
  have e:((bits .and .i64 (shrK .i64 (p.1:Int) (b:Int)) 1)==(bif v then 1 else 0))=(p.1.testBit b==v):=by
   cases v with
   | true=>rw [show (bif true then (1:Int) else 0)=1 from rfl,tb hm (by omega)]; simp
   | false=>rw [show (bif false then (1:Int) else 0)=0 from rfl,tb0 hm (by omega)]; simp
  rw [e]
  unfold stS
  by_cases h:p.1.testBit b=v
  ·rw [if_pos h,h,beq_self_eq_true]
   exact ⟨rfl,by rw [List.length_append,List.length_singleton]; omega⟩
  ·rw [if_neg h,show (p.1.testBit b==v)=false by simpa using h]
   exact ⟨rfl,by omega⟩) (Nat.le_refl _)
 rw [this,HS]
 simp only [Option.bind_some,List.nil_append]
theorem Oo {ps:List (Nat×Nat)} {b:Nat} (hb:b<5) (h1:∀ p∈ps,p.1<32) (h2:ps.length≤1000):Eo (vI ps) (b:Int)=some (ps.all fun p=>p.1.testBit b):=by
 unfold Eo
 rw [GW (p:=fun x=>(bits .and .i64 (shrK .i64 x (b:Int)) 1)==0) (by rw [AR]; omega) (fun x=>by unfold Ei; rw [chk_t (by omega)])]
 simp only [Option.bind_some,Option.some.injEq]
 clear h2
 induction ps with
 | nil=>rfl
 | cons p ps ih =>
  have ih:=ih (fun q hq=>h1 q (.tail _ hq))
  unfold vI at ih ⊢
  rw [List.map_cons,List.any_cons,Bool.not_or,ih,List.all_cons,tb0 (h1 p (.head _)) (by omega),Bool.not_not]
theorem LG {ps:List (Nat×Nat)} (b:Nat):(decide (0<((vI (ps.filter fun p=>p.1.testBit b==false)).length:Int)))=!(ps.all fun p=>p.1.testBit b):=by
 rw [AR]
 induction ps with
 | nil=>rfl
 | cons p ps ih =>
  rw [List.filter_cons,List.all_cons]
  cases h:p.1.testBit b with
  | true =>
   rw [show ((true:Bool)==false)=false from rfl,Bool.true_and]
   simp only [Bool.false_eq_true,if_false]
   exact ih
  | false =>
   rw [show ((false:Bool)==false)=true from rfl,if_pos rfl,Bool.false_and,List.length_cons,Bool.not_false]
   exact decide_eq_true (by omega)
theorem LJ (a b:Nat):(if (a:Int)<(b:Int) then (b:Int) else (a:Int))=((max a b:Nat):Int):=by
 split <;> omega
/-- The choice of the program. -/
theorem Ow {x:GT} (hf:BC x.fr) (h:SmV x) (hne:x.ps≠[]):CY (toI x)=some (tgI (AE x)):=by
 unfold CY
 obtain ⟨t,h1,h2⟩:=forN_inv (f:=F2 (toI x)) (fun i t=>∃ s:Option Nat×Nat,s=((List.range i).filter fun k=>decide (k∈x.fr)).foldl (bfS x.ps) (none,0)∧t.1=tgI s.1∧((s.1=none∧s.2=0∧t.2 = -1)∨(s.1≠none∧t.2=(s.2:Int)))) 5 0 ((-1),(-1)) ⟨(none,0),rfl,rfl,.inl ⟨rfl,rfl,rfl⟩⟩ (fun i t _ hi hI=>by
  obtain ⟨s,e,i1,i2⟩:=hI
  obtain ⟨t1,t2⟩:=t
  have hi5:i<5:=by omega
  unfold F2
  simp only at i1 i2 ⊢
  rw [chk_t (by omega),show (toI x).free=(frm x.fr:Int) from rfl,show (toI x).vectors=vI x.ps from rfl,tb0 (GY (Gd hf)) (by omega),Hb]
  rw [List.range_succ,List.filter_append,List.foldl_append,← e]
  by_cases hm:i∈x.fr
  ·rw [decide_eq_true hm,Ik hi5 h.1 h.2]
   simp only [Bool.not_true,cond_false,Option.bind_some,AR,LJ]
   have hp:=JZ hne i
   have e2:(decide (t2<((max (x.ps.filter fun p=>p.1.testBit i==true).length (x.ps.filter fun p=>p.1.testBit i==false).length:Nat):Int)))=decide (s.2<Bc x.ps i):=by
    rw [Bool.eq_iff_iff,decide_eq_true_eq,decide_eq_true_eq]
    show t2<((Bc x.ps i:Nat):Int)↔_
    rcases i2 with ⟨_,a2,a3⟩ | ⟨_,a3⟩ <;> omega
   rw [e2]
   have e3:([i].filter fun k=>decide (k∈x.fr)).foldl (bfS x.ps) s=bfS x.ps s i:=by
    rw [List.filter_cons,if_pos (by simpa using hm)]; rfl
   rw [e3]
   unfold bfS
   by_cases hlt:s.2<Bc x.ps i
   ·rw [decide_eq_true hlt,if_pos hlt]
    exact ⟨_,rfl,_,rfl,rfl,.inr ⟨by simp,rfl⟩⟩
   ·rw [decide_eq_false hlt,if_neg hlt]
    exact ⟨_,rfl,s,rfl,i1,i2⟩
  ·rw [decide_eq_false hm]
   have e3:([i].filter fun k=>decide (k∈x.fr)).foldl (bfS x.ps) s=s:=by
    rw [List.filter_cons,if_neg (by simpa using hm)]; rfl
   rw [e3]
   exact ⟨_,rfl,s,rfl,i1,i2⟩)
 rw [h1]
 obtain ⟨s,e,i1,_⟩:=h2
 simp only [Option.bind_some]
 rw [i1,e]
 unfold AE
 rw [show (List.range (0+5)).filter (fun k=>decide (k∈x.fr))=x.fr from hf.symm]
/-- The choice of the reference. -/
theorem MM {x:GT} (hf:BC x.fr) (h:SmV x):∃ m:Int,forN (CG (cI x.fr) (vI x.ps)) (cI x.fr).length 0 (-1,0)=some (tgI (AE x),m):=by
 rw [Aj]
 obtain ⟨t,h1,s,e,i1,_⟩:=forN_inv (f:=CG (cI x.fr) (vI x.ps)) (fun i t=>∃ s:Option Nat×Nat,s=(x.fr.take i).foldl (bfS x.ps) (none,0)∧t.1=tgI s.1∧t.2=(s.2:Int)) x.fr.length 0 ((-1),0) ⟨(none,0),rfl,rfl,rfl⟩ (fun i t _ hi hI=>by
  obtain ⟨s,e,i1,i2⟩:=hI
  obtain ⟨t1,t2⟩:=t
  simp only at i1 i2
  have hx:=List.getElem?_eq_getElem (show i<x.fr.length by omega)
  generalize x.fr[i]=j at hx
  have hj5:=Gd hf j (List.mem_of_getElem? hx)
  unfold CG
  simp only
  rw [Ar hx]
  have s0:=E6 (b:=j) false hj5 h.1 h.2
  have s1:=E6 (b:=j) true hj5 h.1 h.2
  rw [show (bif false then (1:Int) else 0)=0 from rfl] at s0
  rw [show (bif true then (1:Int) else 0)=1 from rfl] at s1
  simp only [Option.bind_some]
  rw [s0]
  simp only [Option.bind_some]
  rw [s1]
  simp only [Option.bind_some,AR]
  unfold Dt
  have e4:(bif decide (((x.ps.filter fun p=>p.1.testBit j==true).length:Int)<((x.ps.filter fun p=>p.1.testBit j==false).length:Int)) then some ((x.ps.filter fun p=>p.1.testBit j==false).length:Int) else some ((x.ps.filter fun p=>p.1.testBit j==true).length:Int))=some ((Bc x.ps j:Nat):Int):=by
   unfold Bc
   generalize (x.ps.filter fun p=>p.1.testBit j==true).length=p
   generalize (x.ps.filter fun p=>p.1.testBit j==false).length=q
   by_cases hpq:(p:Int)<(q:Int)
   ·rw [decide_eq_true hpq]; simp only [cond_true]; congr 1; omega
   ·rw [decide_eq_false hpq]; simp only [cond_false]; congr 1; omega
  rw [e4]
  simp only [Option.bind_some]
  have e2:(decide (t2<((Bc x.ps j:Nat):Int)))=decide (s.2<Bc x.ps j):=by
   rw [Bool.eq_iff_iff,decide_eq_true_eq,decide_eq_true_eq]; omega
  rw [e2,List.take_add_one,hx,List.foldl_append,← e]
  show ∃ s',_∧∃ s0,s0=bfS x.ps s j∧_
  unfold bfS
  by_cases hlt:s.2<Bc x.ps j
  ·rw [decide_eq_true hlt,if_pos hlt]
   exact ⟨_,rfl,_,rfl,rfl,rfl⟩
  ·rw [decide_eq_false hlt,if_neg hlt]
   exact ⟨_,rfl,s,rfl,i1,i2⟩)
 rw [Nat.zero_add,List.take_length] at e
 refine ⟨t.2,?_⟩
 rw [h1]
 unfold AE
 rw [← e,← i1]

def cxg (p:Nat×Nat):Aa:=Aa.mk 9 (p.1:Int) (p.2:Int)
theorem Dn {a:Nat} (h:a<1000000):IntKind.i64.wrap ((a:Int)+1)=((a+1:Nat):Int):=by
 rw [wrap_i64 ⟨by omega,by omega⟩]; omega
theorem wr_d {a:Nat} (h:a<1000000):IntKind.i64.wrap (((a+1:Nat):Int)-1)=(a:Int):=by
 rw [wrap_i64 ⟨by omega,by omega⟩]; omega
theorem Gc {α β:Type} {f:α→β} {lo:List α} {x:α}:getI ((lo++[x]).map f) (lo.length:Int)=some (f x):=by
 rw [getI_nat,List.getElem?_map,List.getElem?_append_right (Nat.le_refl _),Nat.sub_self]; rfl
theorem M9 {st:List GT} {j t:Nat} (hj:j<5) (ht:t<5) (h:∀ y∈st,SmV y) (hl:st.length≤1000):Fp (st.map toI) (j:Int) (t:Int)=some ((st.map fun y=>y.flip j t).map toI):=by
 unfold Fp
 rw [chk_t (by rw [List.length_map]; omega)]
 have:=Fq (f:=Ez (t:Int) (j:Int)) (g:=fun T=>Ag.mk ((T.vectors).map fun v=>((AH j t v.toNat:Nat):Int)) T.free T.target) (Q:=fun T=>∃ y:GT,T=toI y∧SmV y) (fun pre T r ⟨y,e,hy⟩=>by
  subst e
  unfold Ez
  rw [getI_nat,BO]
  simp only [Option.bind_some]
  rw [show (toI y).vectors=vI y.ps from rfl,chk_t (by rw [AR]; have:=hy.2; omega),M5 hj ht hy]
  simp only [Option.bind_some]
  rw [F9,DQ]) (st.map toI) [] (fun T hT=>by
   obtain ⟨y,hy,rfl⟩:=List.mem_map.1 hT
   exact ⟨y,rfl,h y hy⟩)
 rw [List.nil_append,List.nil_append] at this
 rw [show forN (Ez (t:Int) (j:Int)) (st.map toI).length 0 (st.map toI)=_ from this,List.map_map,List.map_map]
 simp only [Option.bind_some,Option.some.injEq]
 apply List.map_congr_left
 intro y _
 simp only [Function.comp]
 unfold toI
 rw [DQ]; rfl
theorem KW {st:List GT} {j t:Nat} (hj:j<5) (ht:t<5) (h:∀ y∈st,SmV y):forN (CA (t:Int) (j:Int)) (st.map toS).length 0 (st.map toS)=some ((st.map fun y=>y.flip j t).map toS):=by
 have:=Fq (f:=CA (t:Int) (j:Int)) (g:=fun T=>Af.mk ((T.vectors).map fun v=>((AH j t v.toNat:Nat):Int)) T.free T.target) (Q:=fun T=>∃ y:GT,T=toS y∧SmV y) (fun pre T r ⟨y,e,hy⟩=>by
  subst e
  unfold CA
  rw [getI_nat,BO]
  simp only [Option.bind_some]
  rw [show (toS y).vectors=vI y.ps from rfl,H9 hj ht hy]
  simp only [Option.bind_some]
  rw [F9,DQ]) (st.map toS) [] (fun T hT=>by
   obtain ⟨y,hy,rfl⟩:=List.mem_map.1 hT
   exact ⟨y,rfl,h y hy⟩)
 rw [List.nil_append,List.nil_append] at this
 rw [show forN (CA (t:Int) (j:Int)) (st.map toS).length 0 (st.map toS)=_ from this,List.map_map,List.map_map]
 simp only [Option.some.injEq]
 apply List.map_congr_left
 intro y _
 simp only [Function.comp]
 unfold toS
 rw [DQ]; rfl
theorem HT {j t:Nat} (hj:j<5) {st:List GT} (h:∀ y∈st,SmV y):∀ y∈st.map (fun y=>y.flip j t),SmV y:=fun y hy=>by
 obtain ⟨z,hz,rfl⟩:=List.mem_map.1 hy
 exact LB hj (h z hz)
/-- The program's loop over the qubits. -/
theorem row_impl {n t:Nat} (hn:n≤5) (ht:t<n):∀ (k j:Nat) (lo:List GT) (x:GT) (out:List Aa) (F:Nat),j+k=n→k<F→(∀ y∈lo++[x],SmV y)→lo.length≤900→out.length+k≤10000 →
  whX (Bt (n:Int) (t:Int) (lo.length:Int) x.ps.length) F (out,(lo++[x]).map toI,(j:Int))=some (.inl (out++(gJ t k j (lo,x)).1.map cxg,((gJ t k j (lo,x)).2.1++[(gJ t k j (lo,x)).2.2]).map toI,(n:Int))):=fun k=>by
 induction k with
 | zero =>
  intro j lo x out F hj hF _ _ _
  obtain ⟨F',rfl⟩:∃ F',F=F'+1:=⟨F-1,by omega⟩
  have:j=n:=by omega
  subst this
  simp only [whX]
  have e:Bt (j:Int) (t:Int) (lo.length:Int) x.ps.length (out,(lo++[x]).map toI,(j:Int))=some (.br (out,(lo++[x]).map toI,(j:Int))):=by
   unfold Bt
   simp only
   rw [decide_eq_false (show ¬ (j:Int)<(j:Int) by omega)]; rfl
  rw [e]
  simp [gJ]
 | succ k ih =>
  intro j lo x out F hj hF hV hlo hout
  obtain ⟨F',rfl⟩:∃ F',F=F'+1:=⟨F-1,by omega⟩
  have hjn:j<n:=by omega
  have hx:=hV x (List.mem_append_right _ (.head _))
  simp only [whX]
  have e:Bt (n:Int) (t:Int) (lo.length:Int) x.ps.length (out,(lo++[x]).map toI,(j:Int))=some (.nx (if j≠t∧(x.ps.all fun p=>p.1.testBit j)=true then (out++[cxg (j,t)],((lo++[x]).map fun y=>y.flip j t).map toI,((j+1:Nat):Int)) else (out,(lo++[x]).map toI,((j+1:Nat):Int)))):=by
   unfold Bt
   simp only
   rw [decide_eq_true (show (j:Int)<(n:Int) by omega),decide_eq_true (show (0:Int)≤(t:Int) by omega),Dn (by omega),Gc]
   simp only [Bool.and_self,cond_true,Option.bind_some]
   rw [show (toI x).vectors=vI x.ps from rfl,chk_t (AR _),Oo (by omega) hx.1 hx.2]
   by_cases hjt:j=t
   ·have e1:((j:Int) != (t:Int))=false:=by simp [hjt]
    rw [e1,if_neg (fun h=>h.1 hjt)]
    rfl
   ·have e1:((j:Int) != (t:Int))=true:=by simp only [bne_iff_ne,ne_eq]; omega
    rw [e1]
    simp only [gb,cond_true,Option.bind_some,Bool.true_and]
    cases hall:(x.ps.all fun p=>p.1.testBit j) with
    | false =>
     rw [if_neg (fun h=>by cases h.2)]
     rfl
    | true =>
     rw [if_pos ⟨hjt,rfl⟩]
     simp only [cond_true]
     rw [chk_t (by omega),M9 (by omega) (by omega) hV (by rw [List.length_append]; simp; omega)]
     rfl
  rw [e]
  simp only [Option.bind_some]
  unfold gJ
  by_cases hc:j≠t∧(x.ps.all fun p=>p.1.testBit j)=true
  ·rw [if_pos hc,if_pos hc]
   have h2:=HT (t:=t) (show j<5 by omega) hV
   have:=ih (j+1) (lo.map fun y=>y.flip j t) (x.flip j t) (out++[cxg (j,t)]) F' (by omega) (by omega) (by rw [List.map_append] at h2; exact h2) (by rw [List.length_map]; exact hlo) (by rw [List.length_append]; simp; omega)
   rw [List.length_map,show (x.flip j t).ps.length=x.ps.length by unfold GT.flip; rw [List.length_map]] at this
   simp only
   rw [show (lo++[x]).map (fun y:GT=>y.flip j t)=(lo.map fun y=>y.flip j t)++[x.flip j t] from by rw [List.map_append]; rfl,this]
   rw [List.map_cons,List.append_assoc]
   rfl
  ·rw [if_neg hc,if_neg hc]
   exact ih (j+1) lo x out F' (by omega) (by omega) hV hlo (by omega)
/-- The reference's loop over the qubits. -/
theorem row_spec {n t:Nat} (hn:n≤5) (ht:t<n):∀ (k j:Nat) (lo:List GT) (x:GT) (out:List Aa) (F:Nat),j+k=n→k<F→(∀ y∈lo++[x],SmV y)→lo.length≤900→out.length+k≤10000 →
  whX (Br (n:Int) (t:Int)) F (out,vI x.ps,lo.map toS,(j:Int))=some (.inl (out++(gJ t k j (lo,x)).1.map cxg,vI (gJ t k j (lo,x)).2.2.ps,(gJ t k j (lo,x)).2.1.map toS,(n:Int))):=fun k=>by
 induction k with
 | zero =>
  intro j lo x out F hj hF _ _ _
  obtain ⟨F',rfl⟩:∃ F',F=F'+1:=⟨F-1,by omega⟩
  have:j=n:=by omega
  subst this
  simp only [whX]
  have e:Br (j:Int) (t:Int) (out,vI x.ps,lo.map toS,(j:Int))=some (.br (out,vI x.ps,lo.map toS,(j:Int))):=by
   unfold Br
   simp only
   rw [decide_eq_false (show ¬ (j:Int)<(j:Int) by omega)]; rfl
  rw [e]
  simp [gJ]
 | succ k ih =>
  intro j lo x out F hj hF hV hlo hout
  obtain ⟨F',rfl⟩:∃ F',F=F'+1:=⟨F-1,by omega⟩
  have hjn:j<n:=by omega
  have hx:=hV x (List.mem_append_right _ (.head _))
  have hVl:∀ y∈lo,SmV y:=fun y hy=>hV y (List.mem_append_left _ hy)
  simp only [whX]
  have e:Br (n:Int) (t:Int) (out,vI x.ps,lo.map toS,(j:Int))=some (.nx (if j≠t∧(x.ps.all fun p=>p.1.testBit j)=true then (out++[cxg (j,t)],vI (x.flip j t).ps,(lo.map fun y=>y.flip j t).map toS,((j+1:Nat):Int)) else (out,vI x.ps,lo.map toS,((j+1:Nat):Int)))):=by
   unfold Br
   simp only
   have s0:=E6 (b:=j) false (show j<5 by omega) hx.1 hx.2
   rw [show (bif false then (1:Int) else 0)=0 from rfl] at s0
   rw [decide_eq_true (show (j:Int)<(n:Int) by omega),decide_eq_true (show (0:Int)≤(t:Int) by omega),Dn (by omega),s0]
   simp only [Bool.and_self,cond_true]
   by_cases hjt:j=t
   ·have e1:((j:Int)==(t:Int))=true:=by simp [hjt]
    rw [e1,if_neg (fun h=>h.1 hjt)]
    rfl
   ·have e1:((j:Int)==(t:Int))=false:=by simp only [beq_eq_false_iff_ne,ne_eq]; omega
    rw [e1]
    simp only [gb,Bool.not_false,cond_true,Option.bind_some,Bool.false_or]
    rw [LG]
    cases hall:(x.ps.all fun p=>p.1.testBit j) with
    | false =>
     rw [if_neg (fun h=>by cases h.2)]
     rfl
    | true =>
     rw [if_pos ⟨hjt,rfl⟩]
     simp only [Bool.not_true,cond_false]
     rw [chk_t (by omega),H9 (by omega) (by omega) hx]
     simp only [Option.bind_some]
     rw [chk_t (by rw [List.length_map]; omega),KW (by omega) (by omega) hVl]
     rfl
  rw [e]
  simp only [Option.bind_some]
  unfold gJ
  by_cases hc:j≠t∧(x.ps.all fun p=>p.1.testBit j)=true
  ·rw [if_pos hc,if_pos hc]
   have h2:=HT (t:=t) (show j<5 by omega) hV
   have:=ih (j+1) (lo.map fun y=>y.flip j t) (x.flip j t) (out++[cxg (j,t)]) F' (by omega) (by omega) (by rw [List.map_append] at h2; exact h2) (by rw [List.length_map]; exact hlo) (by rw [List.length_append]; simp; omega)
   simp only
   rw [this]
   rw [List.map_cons,List.append_assoc]
   rfl
  ·rw [if_neg hc,if_neg hc]
   exact ih (j+1) lo x out F' (by omega) (by omega) hV hlo (by omega)
def KOk (x:GT):Prop:=x.ps.length≤1000∧BC x.fr
theorem GB {K:GT→Prop} (h1:∀ x y,AI x y→K y→K x):∀ {a b:List GT},A6 a b→(∀ y∈b,K y)→∀ y∈a,K y
 | [],[],_,_,y,hy=>by cases hy
 | x::r,z::q,h,hb,y,hy=>by
  rcases List.mem_cons.1 hy with rfl | hy
  ·exact h1 _ z h.1 (hb z (.head _))
  ·exact GB h1 h.2 (fun w hw=>hb w (.tail _ hw)) y hy
 | [],_::_,h,_,_,_=>h.elim
 | _::_,[],h,_,_,_=>h.elim
theorem H5:∀ {a b:List GT},A6 a b→a.length=b.length
 | [],[],_=>rfl
 | _::_,_::_,h=>by rw [List.length_cons,List.length_cons,H5 h.2]
 | [],_::_,h=>h.elim
 | _::_,[],h=>h.elim
theorem FN (x y:GT) (h:AI x y) (k:KOk y):KOk x:=⟨by rw [DT h]; exact k.1,by rw [h.1]; exact k.2⟩
theorem IB (x:GT) (b:Nat) (v:Bool) (tg:Option Nat) (k:KOk x):KOk (x.bit b v tg):=⟨Nat.le_trans (List.length_filter_le _ _) k.1,KO k.2 _⟩
theorem OV {n:Nat} {best:GT→Option Nat} {A:List Nat} {lo:List GT} {x:GT} (h:GSt n A (lo++[x])) (hk:∀ y∈lo++[x],KOk y):∀ y∈(At n best lo x).2,KOk y:=fun y hy=>by
 unfold At at hy
 by_cases hps:x.ps=[]
 ·rw [if_pos hps] at hy
  exact hk y (List.mem_append_left _ hy)
 ·rw [if_neg hps] at hy
  obtain ⟨a1,a2,a3,_⟩:=FV h hps
  have hlo:=GB (fun x y=>FN x y) a2 (fun y hy=>hk y (List.mem_append_left _ hy))
  have hx:=FN _ _ a3 (hk x (List.mem_append_right _ (.head _)))
  simp only at hy
  cases hb:best (Aw n lo x).2.2 with
  | none=>rw [hb] at hy; exact hlo y hy
  | some b =>
   rw [hb] at hy
   simp only at hy
   rcases List.mem_append.1 hy with hy | hy
   ·exact hlo y hy
   ·rcases List.mem_cons.1 hy with rfl | hy
    ·exact IB _ _ _ _ hx
    ·rcases List.mem_cons.1 hy with rfl | hy
     ·exact IB _ _ _ _ hx
     ·cases hy
theorem Nn (x:GT):1≤phi x:=by unfold phi; split <;> omega
theorem G6:∀ l:List GT,l.length≤Au l
 | []=>Nat.le_refl _
 | x::l=>by
  have:=G6 l
  have:=Nn x
  show l.length+1≤phi x+Au l
  omega
theorem Ic {n:Nat} (hn:n≤5) {A:List Nat} {st:List GT} (h:GSt n A st) (hk:∀ y∈st,KOk y):∀ y∈st,SmV y:=fun y hy=>⟨fun p hp=>by
 have:=((h.one y hy).ok p hp).1
 have:=Ax hn
 omega,(hk y hy).1⟩
/-- What a task's row of gates leaves, on both sides. -/
theorem Mc {n:Nat} (hn:n≤5) {A:List Nat} {lo:List GT} {x:GT} (h:GSt n A (lo++[x])) (hk:∀ y∈lo++[x],KOk y) (hlo:lo.length≤900) {out:List Aa} (hout:out.length≤9000) :
  (∃ z,whX (Bt (n:Int) (tgI x.tg) (lo.length:Int) x.ps.length) fuel (out,(lo++[x]).map toI,0)=some (.inl (out++(Aw n lo x).1.map cxg,((Aw n lo x).2.1++[(Aw n lo x).2.2]).map toI,z))) ∧
  ∃ z,whX (Br (n:Int) (tgI x.tg)) fuel (out,vI x.ps,lo.map toS,0)=some (.inl (out++(Aw n lo x).1.map cxg,vI (Aw n lo x).2.2.ps,(Aw n lo x).2.1.map toS,z)):=by
 have hV:=Ic hn h hk
 unfold Aw
 cases ht:x.tg with
 | none =>
  have hf:fuel=(fuel-1)+1:=by decide
  rw [hf]
  generalize fuel-1=F
  simp only [whX]
  have e1:Bt (n:Int) (tgI none) (lo.length:Int) x.ps.length (out,(lo++[x]).map toI,0)=some (.br (out,(lo++[x]).map toI,0)):=by
   unfold Bt
   simp only
   rw [show decide ((0:Int)≤tgI none)=false from rfl,Bool.and_false]; rfl
  have e2:Br (n:Int) (tgI none) (out,vI x.ps,lo.map toS,0)=some (.br (out,vI x.ps,lo.map toS,0)):=by
   unfold Br
   simp only
   rw [show decide ((0:Int)≤tgI none)=false from rfl,Bool.and_false]; rfl
  rw [e1,e2]
  simp only [Option.bind_some,List.map_nil,List.append_nil]
  exact ⟨⟨0,rfl⟩,0,rfl⟩
 | some t =>
  have htn:=((h.one x (List.mem_append_right _ (.head _))).sm t ht).1.1
  exact ⟨⟨_,row_impl hn htn n 0 lo x out fuel (by omega) (AC (by omega)) hV hlo (by omega)⟩,_,row_spec hn htn n 0 lo x out fuel (by omega) (AC (by omega)) hV hlo (by omega)⟩

theorem FI {α β:Type} {f:α→β} {lo:List α} {x:α}:((lo++[x]).map f).take lo.length=lo.map f:=by
 rw [List.map_append,List.take_append_of_le_length (by rw [List.length_map]; omega),List.take_of_length_le (by rw [List.length_map]; omega)]
theorem Ov {n:Nat} {best:GT→Option Nat} (hn:n≤5) {A:List Nat} {lo:List GT} {x:GT} (h:GSt n A (lo++[x])):(At n best lo x).1.length≤5:=by
 unfold At
 by_cases hps:x.ps=[]
 ·rw [if_pos hps]; exact Nat.zero_le _
 ·rw [if_neg hps]
  obtain ⟨_,_,_,_,a5,_⟩:=FV h hps
  simp only
  cases ht:x.tg with
  | none=>rw [ht] at a5; simp only at a5; omega
  | some t=>rw [ht] at a5; simp only at a5; omega
theorem Py (o:Option Nat):decide (tgI o<0)=o.isNone:=by
 cases o with
 | none=>rfl
 | some b=>exact decide_eq_false (by show ¬ (b:Int)<0; omega)
theorem PS (o:Option Nat) (b:Nat):(bif decide (tgI o<0) then (b:Int) else tgI o)=tgI (some (o.getD b)):=by
 rw [Py]
 cases o <;> rfl
theorem PF (st:List GT):st=[]∨∃ lo x,st=lo++[x]:=by
 rcases List.eq_nil_or_concat st with h | ⟨lo,x,h⟩
 ·exact .inl h
 ·exact .inr ⟨lo,x,by rw [h,List.concat_eq_append]⟩
theorem JC {n:Nat} {best:GT→Option Nat} {f:Nat}:AJ n best f []=[]:=by cases f <;> rfl
theorem LS {n:Nat} {best:GT→Option Nat} {f:Nat} {lo:List GT} {x:GT}:AJ n best (f+1) (lo++[x])=(At n best lo x).1++AJ n best f (At n best lo x).2:=by
 show (match (lo++[x]).getLast? with
  | none=>[]
  | some y=>(At n best (lo++[x]).dropLast y).1++AJ n best f (At n best (lo++[x]).dropLast y).2)=_
 rw [List.getLast?_concat,List.dropLast_concat]
/-- One task taken, on both sides. -/
theorem OH {n:Nat} (hn:n≤5) {A:List Nat} {lo:List GT} {x:GT} (h:GSt n A (lo++[x])) (hk:∀ y∈lo++[x],KOk y) (hfr:∀ y∈lo++[x],∀ k∈y.fr,k<n) (hlo:lo.length≤900) {out:List Aa} (hout:out.length≤9000) :
  CQ (n:Int) (out,(lo++[x]).map toI)=some (.nx (out++(At n AE lo x).1.map cxg,(At n AE lo x).2.map toI)) ∧
  Cw (n:Int) (out,(lo++[x]).map toS)=some (.nx (out++(At n AE lo x).1.map cxg,(At n AE lo x).2.map toS)):=by
 have hxm:x∈lo++[x]:=List.mem_append_right _ (.head _)
 have hlI:((lo++[x]).map toI).length=lo.length+1:=by simp
 have hlS:((lo++[x]).map toS).length=lo.length+1:=by simp
 obtain ⟨⟨z1,r1⟩,z2,r2⟩:=Mc hn h hk hlo hout
 unfold CQ Cw
 simp only [hlI,hlS]
 rw [decide_eq_true (show (0:Int)<((lo.length+1:Nat):Int) by omega),wr_d (by omega),Gc]
 simp only [cond_true,Option.bind_some]
 rw [chk_t (show (0:Int)≤(lo.length:Int)∧(lo.length:Int)≤((lo.length+1:Nat):Int) by omega),chk_t (show (lo.length:Int)=((lo.length+1-1:Nat):Int) by omega),Nat.add_sub_cancel,Gc]
 simp only [Option.bind_some]
 rw [show (toI x).vectors=vI x.ps from rfl,show (toS x).vectors=vI x.ps from rfl,show (toI x).target=tgI x.tg from rfl,show (toS x).target=tgI x.tg from rfl,show (toI x).free=(frm x.fr:Int) from rfl,show (toS x).free=cI x.fr from rfl,AR,Int.toNat_natCast,FI,FI]
 unfold At
 by_cases hps:x.ps=[]
 ·rw [if_pos hps,show (((x.ps.length:Nat):Int)==0)=true by rw [hps]; rfl]
  simp only [cond_true,List.map_nil,List.append_nil]
  exact ⟨trivial,trivial⟩
 rw [if_neg hps,show (((x.ps.length:Nat):Int)==0)=false by
  have:x.ps.length≠0:=fun e=>hps (List.length_eq_zero_iff.1 e)
  simp only [beq_eq_false_iff_ne,ne_eq]; omega]
 simp only [cond_false]
 rw [r1,r2]
 obtain ⟨a1,a2,a3,a4,a5,a6⟩:=FV h hps
 have hkl:=GB (fun x y=>FN x y) a2 (fun y hy=>hk y (List.mem_append_left _ hy))
 have hkx:=FN _ _ a3 (hk x hxm)
 generalize Aw n lo x=r at *
 obtain ⟨gs,lo',x'⟩:=r
 simp only at a1 a2 a3 a4 a5 a6 hkl hkx ⊢
 have hl':lo'.length=lo.length:=H5 a2
 have hps':x'.ps≠[]:=fun e=>hps (List.length_eq_zero_iff.1 (by rw [← DT a3,e]; rfl))
 have hV:=Ic hn a1 (fun y hy=>by
  rcases List.mem_append.1 hy with hy | hy
  ·exact hkl y hy
  ·rw [List.mem_singleton] at hy; subst hy; exact hkx) x' (List.mem_append_right _ (.head _))
 simp only [Option.bind_some,orR]
 have hl2:((lo'++[x']).map toI).length=lo.length+1:=by simp [hl']
 rw [chk_t hl2,← hl',Gc]
 simp only [Option.bind_some]
 rw [show (toI x').vectors=vI x'.ps from rfl,chk_t (by rw [AR]; exact DT a3)]
 rw [show Ag.mk (vI x'.ps) (frm x.fr:Int) (tgI x.tg)=toI x' from by unfold toI; rw [a3.1,a3.2.1],Ow hkx.2 hV hps']
 have hfl:(cI x.fr).length≤5:=by
  rw [Aj,(hk x hxm).2]
  exact Nat.le_trans (List.length_filter_le _ _) (by simp)
 obtain ⟨m,hbs⟩:=MM hkx.2 hV
 rw [a3.1] at hbs
 rw [chk_t (show (cI x.fr).length≤9223372036854775807 by omega),hbs]
 simp only [Option.bind_some]
 cases hb:AE x' with
 | none =>
  rw [show decide (tgI none<0)=true from rfl]
  simp only [cond_true]
  rw [FI]
  refine ⟨?_,?_⟩ <;> first | rfl | trivial
 | some b =>
  have hbf:=(Gm n x' hps').2 b hb
  have hb5:b<5:=Gd hkx.2 b hbf
  rw [show decide (tgI (some b)<0)=false from decide_eq_false (by show ¬ (b:Int)<0; omega),show tgI (some b)=(b:Int) from rfl]
  simp only [cond_false]
  have f5:=E2 (f:=CZ (cI x.fr) (b:Int)) (g:=fun (s:List Int) (k:Nat)=>if k≠b then s++[(k:Int)] else s) (l:=x.fr) (s:=[]) (fun i s=>s.length≤i) (fun i k s hx2 q1=>by
   have hi:=(List.getElem?_eq_some_iff.1 hx2).1
   unfold CZ
   rw [Ar hx2]
   simp only [Option.bind_some]
   rw [Aj] at hfl
   by_cases hkb:k=b
   ·rw [if_neg (fun e=>e hkb),show ((k:Int) != (b:Int))=false by simp [hkb]]
    exact ⟨rfl,by omega⟩
   ·rw [if_pos hkb,show ((k:Int) != (b:Int))=true by simp only [bne_iff_ne,ne_eq]; omega]
    simp only [cond_true]
    rw [chk_t (by omega)]
    exact ⟨rfl,by rw [List.length_append,List.length_singleton]; omega⟩) (Nat.le_refl _)
  have e5:∀ (l:List Nat) (s:List Int),l.foldl (fun (s:List Int) (k:Nat)=>if k≠b then s++[(k:Int)] else s) s=s++cI (l.filter fun k=>k != b):=fun l=>by
   induction l with
   | nil=>intro s; simp [cI]
   | cons k l ih =>
    intro s
    rw [List.foldl_cons,ih,List.filter_cons]
    by_cases hkb:k=b
    ·rw [if_neg (fun e=>e hkb),if_neg (by simp [hkb])]
    ·rw [if_pos hkb,if_pos (by simpa using hkb)]; simp [cI]
  rw [e5,List.nil_append] at f5
  rw [Aj,f5]
  have s0:=E6 (b:=b) false hb5 hV.1 hV.2
  have s1:=E6 (b:=b) true hb5 hV.1 hV.2
  rw [show (bif false then (1:Int) else 0)=0 from rfl] at s0
  rw [show (bif true then (1:Int) else 0)=1 from rfl] at s1
  rw [Ik hb5 hV.1 hV.2]
  simp only [Option.bind_some]
  rw [s1]
  simp only [Option.bind_some]
  rw [s0]
  simp only [Option.bind_some]
  rw [chk_t (by omega),chk_t (by omega),chk_t (by rw [List.length_map]; omega),FI,Nv (hk x hxm).2 hb5,PS]
  have e1:toI (x'.bit b true (some (x.tg.getD b)))=Ag.mk (vI (x'.ps.filter fun p=>p.1.testBit b==true)) (frm (x.fr.filter fun k=>k != b):Int) (tgI (some (x.tg.getD b))):=by
   unfold toI GT.bit; rw [a3.1]
  have e2:toI (x'.bit b false x.tg)=Ag.mk (vI (x'.ps.filter fun p=>p.1.testBit b==false)) (frm (x.fr.filter fun k=>k != b):Int) (tgI x.tg):=by
   unfold toI GT.bit; rw [a3.1]
  have e3:toS (x'.bit b true (some (x.tg.getD b)))=Af.mk (vI (x'.ps.filter fun p=>p.1.testBit b==true)) (cI (x.fr.filter fun k=>k != b)) (tgI (some (x.tg.getD b))):=by
   unfold toS GT.bit; rw [a3.1]
  have e4:toS (x'.bit b false x.tg)=Af.mk (vI (x'.ps.filter fun p=>p.1.testBit b==false)) (cI (x.fr.filter fun k=>k != b)) (tgI x.tg):=by
   unfold toS GT.bit; rw [a3.1]
  rw [List.map_append,List.map_append,List.map_cons,List.map_cons,List.map_cons,List.map_cons,List.map_nil,List.map_nil,e1,e2,e3,e4]
  exact ⟨rfl,rfl⟩
/-- All tasks, on both sides. -/
theorem Ot {n:Nat} (hn:n≤5):∀ (f:Nat) (A:List Nat) (st:List GT) (out:List Aa) (F:Nat),GSt n A st→(∀ y∈st,KOk y)→(∀ y∈st,∀ k∈y.fr,k<n)→Au st≤f→f≤900→f<F→out.length+5*f≤9000 →
  whX (CQ (n:Int)) F (out,st.map toI)=some (.inl (out++(AJ n AE f st).map cxg,[]))∧whX (Cw (n:Int)) F (out,st.map toS)=some (.inl (out++(AJ n AE f st).map cxg,[])):=fun f=>by
 have hnil:∀ (out:List Aa) (F:Nat),whX (CQ (n:Int)) (F+1) (out,[])=some (.inl (out,[]))∧whX (Cw (n:Int)) (F+1) (out,[])=some (.inl (out,[])):=fun out F=>⟨rfl,rfl⟩
 induction f with
 | zero =>
  intro A st out F _ _ _ hp _ hF _
  have hst:st=[]:=List.length_eq_zero_iff.1 (by have:=G6 st; omega)
  subst hst
  obtain ⟨F',rfl⟩:∃ F',F=F'+1:=⟨F-1,by omega⟩
  simp only [JC,List.map_nil,List.append_nil]
  exact hnil out F'
 | succ f ih =>
  intro A st out F h hk hfr hp hf hF hout
  obtain ⟨F',rfl⟩:∃ F',F=F'+1:=⟨F-1,by omega⟩
  rcases PF st with rfl | ⟨lo,x,rfl⟩
  ·simp only [JC,List.map_nil,List.append_nil]
   exact hnil out F'
  ·have hll:=G6 (lo++[x])
   rw [List.length_append,List.length_singleton] at hll
   obtain ⟨p1,p2⟩:=OH hn h hk hfr (by omega) (out:=out) (by omega)
   obtain ⟨a1,a2,a3,a4,a5,a6⟩:=JM (Gm n) h hfr
   have hroom:=Ov (best:=AE) hn h
   obtain ⟨b1,b2⟩:=ih _ (At n AE lo x).2 (out++(At n AE lo x).1.map cxg) F' a1 (OV h hk) a5 (by omega) (by omega) (by omega) (by rw [List.length_append,List.length_map]; omega)
   rw [LS,List.map_append (f:=cxg),← List.append_assoc]
   simp only [whX,p1,p2,Option.bind_some]
   exact ⟨b1,b2⟩
def Eh (n:Nat) (ms:List Nat):List (Nat×Nat):=AJ n AE 400 [A3 n ms]
theorem MK {n:Nat} (hn:1≤n∧n≤5) (ms:List Nat):toI (A3 n ms)=Ag.mk (cI ms) (IntKind.i64.wrap ((shlK .i64 1 (n:Int))-1)) (-1):=by
 unfold toI A3 vI cI
 simp only [List.map_map]
 have:n=1∨n=2∨n=3∨n=4∨n=5:=by omega
 have e:((frm (List.range n):Nat):Int)=IntKind.i64.wrap ((shlK .i64 1 (n:Int))-1):=by
  rcases this with e | e | e | e | e <;> subst e <;> decide
 rw [e]; rfl
theorem OJ (n:Nat) (ms:List Nat):toS (A3 n ms)=Af.mk (cI ms) (cI (List.range n)) (-1):=by
 unfold toS A3 vI cI
 simp only [List.map_map]; rfl
theorem GM {l:List Int} (h:l.length≤1099511627776):AA l=some l∧AL l=some l:=by
 unfold AA AL
 exact ⟨chk_t (by omega),chk_t (by omega)⟩
theorem LC {n:Nat} (hn:n≤5):whX (C3 (n:Int)) fuel ([],0)=some (.inl (cI (List.range n),(n:Int))):=by
 have:=FG (f:=C3 (n:Int)) (L:=List.range n) (g:=id) (fun i y acc ha hy=>by
  have hi:=(List.getElem?_eq_some_iff.1 hy)
  obtain ⟨h1,h2⟩:=hi
  rw [List.getElem_range] at h2
  subst h2
  rw [List.length_range] at h1
  unfold C3
  simp only
  rw [decide_eq_true (show (i:Int)<(n:Int) by omega),Dn (by omega)]
  simp only [cond_true]
  rw [chk_t (by omega)]; rfl) (fun acc=>by
  unfold C3
  simp only [List.length_range]
  rw [decide_eq_false (show ¬ (n:Int)<(n:Int) by omega)]; rfl) fuel n 0 (by simp) (AC (by omega))
 rw [List.map_id,List.map_id,List.length_range] at this
 exact this
/-- Gray's network on both sides. -/
theorem PU {n:Nat} (hn:1≤n∧n≤5) {ms:List Nat} (h:∀ v∈ms,1≤v∧v<2 ^ n) (hl:ms.length≤31) :
  CC (n:Int) (cI ms)=some ((Eh n ms).map cxg)∧Ev (n:Int) (cI ms)=some (Ae.mk (n:Int) ((Eh n ms).map cxg))∧GOk n (Eh n ms)∧(Eh n ms).length≤244∧∀ v∈ms,v∈AZ (idR n) (Eh n ms):=by
 have hphi:Au [A3 n ms]≤400:=by
  show phi (A3 n ms)+0≤400
  unfold phi A3
  simp only [List.length_map,List.length_range]
  have:ms.length*(n+1)≤31*6:=Nat.mul_le_mul hl (by omega)
  split <;> omega
 have hk:∀ y∈[A3 n ms],KOk y:=fun y hy=>by
  rw [List.mem_singleton] at hy; subst hy
  exact ⟨by unfold A3; simp only [List.length_map]; omega,P7 hn.2⟩
 have hfr:∀ y∈[A3 n ms],∀ k∈y.fr,k<n:=fun y hy k hk=>by
  rw [List.mem_singleton] at hy; subst hy
  exact List.mem_range.1 hk
 obtain ⟨a1,a2⟩:=Ot hn.2 400 (idR n) [A3 n ms] [] fuel (IS h) hk hfr hphi (by omega) (AC (by omega)) (by simp)
 rw [List.map_cons,List.map_nil,MK hn,List.nil_append] at a1
 rw [List.map_cons,List.map_nil,OJ,List.nil_append] at a2
 obtain ⟨g1,g2,g3⟩:=P4 (Gm n) h 400 (by
  have:ms.length*(n+1)≤31*6:=Nat.mul_le_mul hl (by omega)
  omega)
 obtain ⟨o1,o2⟩:=GM (l:=cI ms) (by rw [Aj]; omega)
 refine ⟨?_,?_,g1,?_,g3⟩
 ·unfold CC
  rw [o2]
  simp only [Option.bind_some]
  rw [chk_t (by omega),a1]; rfl
 ·unfold Ev
  rw [LC hn.2]
  simp only [Option.bind_some,orR]
  rw [o1]
  simp only [Option.bind_some]
  rw [a2]; rfl
 ·refine Nat.le_trans g2 ?_
  have hb:bB n ms.length≤bB 5 31:=by
   refine Nat.le_trans (Hm hn.2) ?_
   have:∀ f m m',m≤m'→bB f m≤bB f m':=fun f=>by
    induction f with
    | zero=>intro m m' h; show min 1 m≤min 1 m'; omega
    | succ f ih=>intro m m' h; have:=ih m m' h; show min (2 ^ (f+1)) m+bB f m≤min (2 ^ (f+1)) m'+bB f m'; omega
   exact this 5 _ _ hl
  have e:bB 5 31=62:=by decide
  have:=Nat.mul_le_mul (show n-1≤4 by omega) (show bB n ms.length-1≤61 by omega)
  omega

def rotK (k:Nat):List Int:=[[],[7],[5],[5,7],[4],[4,7],[6],[8]].getD k []
def A4 (q k:Nat):List Aa:=(rotK k).map fun z=>Aa.mk z (q:Int) 0
theorem LT:∀ (q:Fin 5) (k:Fin 8),Dg (q.val:Int) (k.val:Int)=some (A4 q.val k.val)∧C5 (q.val:Int) (k.val:Int)=some (A4 q.val k.val)∧(A4 q.val k.val).length≤2:=by decide +kernel
theorem Mt {q k:Nat} (hq:q<5) (hk:k<8):Dg (q:Int) (k:Int)=some (A4 q k)∧C5 (q:Int) (k:Int)=some (A4 q k)∧(A4 q k).length≤2:=LT ⟨q,hq⟩ ⟨k,hk⟩
/-- Terms as a phase polynomial keeps them. -/
def TOk (N:Nat) (T:List Ab):Prop:=T.Pairwise (fun a b=>a.Mask<b.Mask)∧∀ t∈T,(1≤t.Mask∧t.Mask<(N:Int))∧1≤t.Coef∧t.Coef≤7
def isM (m:Nat) (t:Ab):Bool:=t.Mask==(m:Int)
def plS (T:List Ab) (q m:Nat) (s:List Int×List Aa):List Int×List Aa :=
 match T.find? (isM m) with
 | none=>s
 | some t=>if (m:Int)∈s.1 then s else (s.1++[(m:Int)],s.2++A4 q t.Coef.toNat)
theorem Ie {l:List Int} (hl:l.length≤1000000) (x:Int):Cl l x=some (decide (x∈l)):=by
 unfold Cl
 rw [chk_t (by omega)]
 rcases forX_any (f:=E9 l x) (l:=l) (p:=fun y=>y==x) (q:=fun _=>true) (fun i y hy=>by
  unfold E9
  rw [getI_nat,hy]
  simp only [Option.bind_some]
  cases (y==x) <;> rfl) with ⟨h1,h2⟩ | ⟨h1,i,_,h2⟩
 ·rw [h2]
  simp only [Option.bind_some,orR,Option.some.injEq]
  symm
  refine decide_eq_false (fun hm=>?_)
  have:=List.any_eq_false.1 h1 x hm
  simp at this
 ·rw [h2]
  simp only [Option.bind_some,orR,Option.some.injEq]
  symm
  obtain ⟨y,hy,e⟩:=List.any_eq_true.1 h1
  refine decide_eq_true ?_
  rw [← (beq_iff_eq.1 e)]; exact hy
theorem FH {T:List Ab} {N:Nat} (hT:TOk N T) {t:Ab} (ht:t∈T) {q:Nat} (hq:q<5):Dg (q:Int) t.Coef=some (A4 q t.Coef.toNat)∧C5 (q:Int) t.Coef=some (A4 q t.Coef.toNat)∧(A4 q t.Coef.toNat).length≤2:=by
 obtain ⟨_,h1,h2⟩:=hT.2 t ht
 have:=Mt (q:=q) (k:=t.Coef.toNat) hq (by omega)
 rwa [Int.toNat_of_nonneg (by omega)] at this
/-- The reference's step at one row. -/
theorem NT {T:List Ab} {N:Nat} (hT:TOk N T) (hTl:T.length≤1000) {rows:List Nat} {q:Nat} (hq:q<5) (hqr:q<rows.length) {s:List Int×List Aa} (h1:s.1.length≤10000) (h2:s.2.length≤10000) :
  forN (Em T (cI rows) (q:Int)) T.length 0 (s.2,s.1)=some ((plS T q (rows.getD q 0) s).2,(plS T q (rows.getD q 0) s).1):=by
 have hrow:=Ar (AS hqr)
 generalize rows.getD q 0=m at *
 let g:List Aa×List Int→Ab→List Aa×List Int:=fun s t=>if t.Mask=(m:Int)∧(m:Int)∉s.2 then (s.1++A4 q t.Coef.toNat,s.2++[(m:Int)]) else s
 have hf:=E2 (f:=Em T (cI rows) (q:Int)) (g:=g) (l:=T) (s:=(s.2,s.1)) (fun i t=>t.1.length≤10000+2*i∧t.2.length≤10000+i) (fun i t u ht ⟨u1,u2⟩=>by
  obtain ⟨ga,dn⟩:=u
  simp only at u1 u2
  have hi:=(List.getElem?_eq_some_iff.1 ht).1
  have hm:=List.mem_of_getElem? ht
  obtain ⟨_,r2,r3⟩:=FH hT hm hq
  unfold Em
  simp only
  rw [getI_nat,ht,hrow]
  simp only [Option.bind_some]
  by_cases e:t.Mask=(m:Int)
  ·rw [show (t.Mask==(m:Int))=true by simpa using e]
   simp only [gb,cond_true]
   rw [Ie (by omega),e]
   simp only [Option.bind_some,Bool.true_and]
   by_cases hd:(m:Int)∈dn
   ·rw [decide_eq_true hd]
    simp only [Bool.not_true,cond_false,Option.bind_some]
    have:g (ga,dn) t=(ga,dn):=if_neg (fun h=>h.2 hd)
    rw [this]
    exact ⟨rfl,by simp only; omega,by simp only; omega⟩
   ·rw [decide_eq_false hd]
    simp only [Bool.not_false,cond_true]
    rw [chk_t (by omega),r2]
    simp only [Option.bind_some]
    rw [chk_t (by omega)]
    have:g (ga,dn) t=(ga++A4 q t.Coef.toNat,dn++[(m:Int)]):=if_pos ⟨e,hd⟩
    rw [this]
    exact ⟨rfl,by simp only [List.length_append]; omega,by simp only [List.length_append,List.length_singleton]; omega⟩
  ·rw [show (t.Mask==(m:Int))=false by simpa using e]
   simp only [gb,cond_false,Option.bind_some,Bool.false_and]
   have:g (ga,dn) t=(ga,dn):=if_neg (fun h=>e h.1)
   rw [this]
   exact ⟨rfl,by simp only; omega,by simp only; omega⟩) ⟨by simp only; omega,by simp only; omega⟩
 rw [hf]
 have stay:∀ (L:List Ab) (u:List Aa×List Int),(m:Int)∈u.2→L.foldl g u=u:=fun L=>by
  induction L with
  | nil=>intro u _; rfl
  | cons t L ih =>
   intro u hu
   rw [List.foldl_cons,show g u t=u from if_neg (fun h=>h.2 hu)]
   exact ih u hu
 have key:∀ (L:List Ab) (u:List Int×List Aa),L.foldl g (u.2,u.1)=((plS L q m u).2,(plS L q m u).1):=fun L=>by
  induction L with
  | nil=>intro u; rfl
  | cons t L ih =>
   intro u
   rw [List.foldl_cons]
   unfold plS
   rw [List.find?_cons]
   by_cases e:t.Mask=(m:Int)
   ·rw [show isM m t=true by unfold isM; simpa using e]
    simp only
    by_cases hd:(m:Int)∈u.1
    ·rw [if_pos hd,stay _ _ (by rw [show g (u.2,u.1) t=(u.2,u.1) from if_neg (fun h=>h.2 hd)]; exact hd),show g (u.2,u.1) t=(u.2,u.1) from if_neg (fun h=>h.2 hd)]
    ·have hg:g (u.2,u.1) t=(u.2++A4 q t.Coef.toNat,u.1++[(m:Int)]):=if_pos ⟨e,hd⟩
     rw [if_neg hd,hg,stay _ _ (List.mem_append_right _ (.head _))]
   ·rw [show isM m t=false by unfold isM; simpa using e]
    rw [show g (u.2,u.1) t=(u.2,u.1) from if_neg (fun h=>e h.1),ih u]
    rfl
 rw [key]
/-- What is left to be placed. -/
def lft (T:List Ab) (done:List Int):List Ab:=T.filter fun t=>!decide (t.Mask∈done)
theorem Gu {T:List Ab} (hp:T.Pairwise (fun a b=>a.Mask<b.Mask)):∀ {i:Nat} {t:Ab},T[i]?=some t→T.take i++T.drop (i+1)=T.filter fun x=>x.Mask != t.Mask:=by
 induction T with
 | nil=>intro i t h; cases h
 | cons a T ih =>
  rw [List.pairwise_cons] at hp
  intro i t h
  cases i with
  | zero =>
   have e:a=t:=by simpa using h
   subst e
   rw [List.filter_cons,if_neg (by simp)]
   show T=_
   symm
   rw [List.filter_eq_self]
   intro x hx
   have:=hp.1 x hx
   simp only [bne_iff_ne,ne_eq]; omega
  | succ i =>
   have h2:T[i]?=some t:=by simpa using h
   have hm:=List.mem_of_getElem? h2
   have:=hp.1 t hm
   rw [List.filter_cons,if_pos (by simp only [bne_iff_ne,ne_eq]; omega),← ih hp.2 h2]
   rfl
theorem HE {T:List Ab} (hp:T.Pairwise (fun a b=>a.Mask<b.Mask)) {m:Nat} {t:Ab} (ht:t∈T) (hm:t.Mask=(m:Int)):T.find? (isM m)=some t:=by
 induction T with
 | nil=>cases ht
 | cons a T ih =>
  rw [List.pairwise_cons] at hp
  rw [List.find?_cons]
  rcases List.mem_cons.1 ht with rfl | ht
  ·rw [show isM m t=true by unfold isM; simpa using hm]
  ·have:=hp.1 t ht
   rw [show isM m a=false by unfold isM; simp only [beq_eq_false_iff_ne,ne_eq]; omega]
   exact ih hp.2 ht
theorem Oi {l:List Ab} {f:Ab→Option Bool} {p:Ab→Bool} (hl:l.length≤1000) (hf:∀ x∈l,f x=some (p x)) :
  (CP l f=some (-1)∧∀ x∈l,p x=false)∨∃ (i:Nat) (t:Ab),CP l f=some (i:Int)∧l[i]?=some t∧p t=true∧∀ j x,j<i→l[j]?=some x→p x=false:=by
 unfold CP
 rw [chk_t (by omega)]
 have h:=forX_inv (f:=Fl l f) (fun j _=>∀ i x,i<j→l[i]?=some x→p x=false) (fun r=>∃ (i:Nat) (t:Ab),r=(i:Int)∧l[i]?=some t∧p t=true∧∀ j x,j<i→l[j]?=some x→p x=false) l.length 0 () (fun i x hi=>absurd hi (Nat.not_lt_zero _)) (fun j s _ hj hI=>by
  have hx:=List.getElem?_eq_getElem (show j<l.length by omega)
  generalize l[j]=x at hx
  unfold Fl
  rw [getI_nat,hx]
  simp only [Option.bind_some]
  rw [hf x (List.mem_of_getElem? hx)]
  simp only [Option.bind_some]
  cases hp:p x with
  | true=>exact .inr ⟨_,rfl,j,x,rfl,hx,hp,hI⟩
  | false =>
   refine .inl ⟨(),rfl,fun i y hi hy=>?_⟩
   by_cases e:i=j
   ·subst e; rw [hx] at hy; cases hy; exact hp
   ·exact hI i y (by omega) hy)
 rcases h with ⟨s,e1,hI⟩ | ⟨r,e1,i,t,rfl,h2,h3,h4⟩
 ·refine .inl ⟨by rw [e1]; rfl,fun x hx=>?_⟩
  obtain ⟨i,hi,rfl⟩:=List.mem_iff_getElem.1 hx
  exact hI i _ (by omega) (List.getElem?_eq_getElem hi)
 ·exact .inr ⟨i,t,by rw [e1]; rfl,h2,h3,h4⟩
/-- The program's step at one row. -/
theorem Hq {T:List Ab} {N:Nat} (hT:TOk N T) (hTl:T.length≤1000) {rows:List Nat} {q:Nat} (hq:q<5) (hqr:q<rows.length) {s:List Int×List Aa} (h2:s.2.length≤10000) :
  Cz (q:Int) (lft T s.1) (cI rows) s.2=some (lft T (plS T q (rows.getD q 0) s).1,(plS T q (rows.getD q 0) s).2):=by
 have hrow:=Ar (AS hqr)
 generalize rows.getD q 0=m at *
 have hsub:(lft T s.1).Sublist T:=List.filter_sublist
 have hlen:(lft T s.1).length≤T.length:=hsub.length_le
 unfold Cz
 rcases Oi (l:=lft T s.1) (f:=fun x_0=>C6 x_0 (cI rows) (q:Int)) (p:=isM m) (by omega) (fun x _=>by
  unfold C6
  rw [hrow]; rfl) with ⟨e1,hno⟩ | ⟨i,t,e1,hit,htm,hlt⟩
 ·rw [e1]
  have hp:plS T q m s=s:=by
   unfold plS
   cases hf:T.find? (isM m) with
   | none=>rfl
   | some t =>
    simp only
    have hm:=List.find?_some hf
    have hmem:=List.mem_of_find?_eq_some hf
    by_cases hd:(m:Int)∈s.1
    ·rw [if_pos hd]
    ·exfalso
     have:t∈lft T s.1:=List.mem_filter.2 ⟨hmem,by
      unfold isM at hm
      rw [beq_iff_eq] at hm
      rw [hm]; simpa using hd⟩
     rw [hno t this] at hm; cases hm
  rw [hp]
  rfl
 ·rw [e1]
  have hmemL:=List.mem_of_getElem? hit
  obtain ⟨hmem,hnd⟩:=List.mem_filter.1 hmemL
  have hmask:t.Mask=(m:Int):=by unfold isM at htm; exact beq_iff_eq.1 htm
  have hd:(m:Int)∉s.1:=by rw [← hmask]; simpa using hnd
  obtain ⟨r1,_,r3⟩:=FH hT hmem hq
  have hi:=(List.getElem?_eq_some_iff.1 hit).1
  have hp:plS T q m s=(s.1++[(m:Int)],s.2++A4 q t.Coef.toNat):=by
   unfold plS
   rw [HE hT.1 hmem hmask]
   simp only
   rw [if_neg hd]
  rw [hp]
  simp only [Option.bind_some]
  rw [decide_eq_true (show (0:Int)≤(i:Int) by omega),getI_nat,hit]
  simp only [cond_true,Option.bind_some]
  rw [r1]
  simp only [Option.bind_some]
  rw [chk_t (by omega),Dn (by omega)]
  unfold F1
  rw [chk_t (by omega),show ((i:Int)==((i+1:Nat):Int))=false by simp only [beq_eq_false_iff_ne,ne_eq]; omega]
  simp only [cond_false]
  rw [chk_t (by omega),Int.toNat_natCast,Int.toNat_natCast,Gu (hT.1.sublist hsub) hit]
  simp only [Option.bind_some,Option.some.injEq,Prod.mk.injEq,and_true]
  unfold lft
  rw [List.filter_filter]
  apply List.filter_congr
  intro x _
  rw [hmask,Bool.eq_iff_iff]
  simp only [Bool.and_eq_true,Bool.not_eq_true',decide_eq_false_iff_not,bne_iff_ne,ne_eq,List.mem_append,List.mem_singleton,not_or]
  exact and_comm
def By (T:List Ab):List (Nat×Nat)→List Nat→List Int×List Aa→List Int×List Aa
 | [],_,s=>s
 | g::r,A,s=>By T r (cxA A g.1 g.2) (plS T g.2 ((cxA A g.1 g.2).getD g.2 0) (s.1,s.2++[cxg g]))
def Ap (T:List Ab) (n:Nat) (gs:List (Nat×Nat)):List Int×List Aa:=By T gs (idn n) ((List.range n).foldl (fun s q=>plS T q ((idn n).getD q 0) s) ([],[]))
theorem F4 {T:List Ab} {N:Nat} (hT:TOk N T) {q m:Nat} (hq:q<5) (s:List Int×List Aa):(plS T q m s).1.length≤s.1.length+1∧(plS T q m s).2.length≤s.2.length+2:=by
 unfold plS
 cases hf:T.find? (isM m) with
 | none=>simp only; omega
 | some t =>
  have:=(FH hT (List.mem_of_find?_eq_some hf) hq).2.2
  simp only
  split
  ·omega
  ·simp only [List.length_append,List.length_singleton]; omega

theorem Bd (n:Nat):(idn n).length=n:=by unfold idn; simp
theorem BD (A:List Nat) (j t:Nat):cxA A j t=cxL A j t:=rfl
theorem FT:∀ n:Fin 6,AQ (n.val:Int)=some (Ad.mk (cI (idn n.val))):=by decide +kernel
theorem EP {n a b:Nat} {l:List Nat} (hl:NOk n l) (hn:n≤5) (ha:a<n) (hb:b<n):getI (cI l) (b:Int)=some ((l.getD b 0:Nat):Int)∧getI (cI l) (a:Int)=some ((l.getD a 0:Nat):Int)∧(cI l).set (b:Int).toNat (bits .xor .i64 ((l.getD b 0:Nat):Int) ((l.getD a 0:Nat):Int))=cI (cxL l a b):=cxM hl hn ha hb
/-- The program's placing. -/
theorem HV {n:Nat} (hn:1≤n∧n≤5) {T:List Ab} {N:Nat} (hT:TOk N T) (hTl:T.length≤1000) {gs:List (Nat×Nat)} (hg:GOk n gs) (hgl:gs.length≤1000) :
  Cd (n:Int) (gs.map cxg) T=some ((Ap T n gs).2,((lft T (Ap T n gs).1).length:Int)==0):=by
 have hid:=FB ⟨n,by omega⟩
 simp only at hid
 unfold Cd
 rw [hid]
 simp only [Option.bind_some]
 rw [show F0 T=some T from chk_t (by omega)]
 simp only [Option.bind_some,Int.toNat_natCast]
 rw [chk_t (by omega)]
 have h0:lft T []=T:=by unfold lft; rw [List.filter_eq_self]; intro x _; simp
 have hf:=forN_inv (f:=Fw (Ad.mk (cI (idn n)))) (fun i t=>∃ s:List Int×List Aa,s=(List.range i).foldl (fun s q=>plS T q ((idn n).getD q 0) s) ([],[])∧t=(lft T s.1,s.2)∧s.1.length≤i∧s.2.length≤2*i) n 0 (T,[]) ⟨([],[]),rfl,by rw [h0],Nat.le_refl _,Nat.zero_le _⟩ (fun i t _ hi hI=>by
  obtain ⟨s,e,rfl,l1,l2⟩:=hI
  unfold Fw
  simp only
  rw [Hq hT hTl (show i<5 by omega) (by rw [Bd]; omega) (by omega)]
  refine ⟨_,rfl,plS T i ((idn n).getD i 0) s,?_,rfl,?_,?_⟩
  ·rw [List.range_succ,List.foldl_append,← e]; rfl
  ·have:=(F4 hT (q:=i) (m:=(idn n).getD i 0) (by omega) s).1; omega
  ·have:=(F4 hT (q:=i) (m:=(idn n).getD i 0) (by omega) s).2; omega)
 obtain ⟨t,e1,s0,es,rfl,l1,l2⟩:=hf
 rw [e1]
 simp only [Option.bind_some]
 rw [chk_t (by rw [List.length_map]; omega)]
 rw [Nat.zero_add] at es l1 l2
 have key:∀ (r pre:List (Nat×Nat)) (A:List Nat) (s:List Int×List Aa),pre++r=gs→NOk n A→s.2.length≤10+3*pre.length→∃ R,forN (Dj (gs.map cxg)) r.length pre.length (cI A,lft T s.1,s.2)=some (R,lft T (By T r A s).1,(By T r A s).2):=fun r=>by
  induction r with
  | nil=>intro pre A s _ _ _; exact ⟨_,rfl⟩
  | cons g r ih =>
   intro pre A s hpr hA hs
   have hgm:g∈gs:=by rw [← hpr]; exact List.mem_append_right _ (.head _)
   obtain ⟨g1,g2,g3⟩:=hg g hgm
   have hpl:pre.length<gs.length:=by rw [← hpr,List.length_append,List.length_cons]; omega
   obtain ⟨c1,c2,c3⟩:=EP hA hn.2 g1 g2
   have hA2:NOk n (cxL A g.1 g.2):=Bi hA _ _
   have hgat:getI (gs.map cxg) (pre.length:Int)=some (cxg g):=by rw [getI_nat,List.getElem?_map,← hpr,BO]; rfl
   have e:Dj (gs.map cxg) pre.length (cI A,lft T s.1,s.2)=some (cI (cxL A g.1 g.2),lft T (plS T g.2 ((cxL A g.1 g.2).getD g.2 0) (s.1,s.2++[cxg g])).1,(plS T g.2 ((cxL A g.1 g.2).getD g.2 0) (s.1,s.2++[cxg g])).2):=by
    unfold Dj
    simp only
    rw [hgat]
    simp only [Option.bind_some]
    rw [show (cxg g).B=(g.2:Int) from rfl,show (cxg g).A=(g.1:Int) from rfl,c1,c2]
    simp only [Option.bind_some]
    rw [chk_t (by omega),c3,Hq hT hTl (s:=(s.1,s.2++[cxg g])) (show g.2<5 by omega) (by rw [hA2.1]; omega) (by simp only [List.length_append,List.length_singleton]; omega)]
    rfl
   obtain ⟨R,h⟩:=ih (pre++[g]) (cxL A g.1 g.2) (plS T g.2 ((cxL A g.1 g.2).getD g.2 0) (s.1,s.2++[cxg g])) (by rw [List.append_assoc]; exact hpr) hA2 (by
    have:=(F4 hT (q:=g.2) (m:=(cxL A g.1 g.2).getD g.2 0) (by omega) (s.1,s.2++[cxg g])).2
    simp only [List.length_append,List.length_singleton] at this ⊢
    omega)
   refine ⟨R,?_⟩
   show (Dj (gs.map cxg) pre.length (cI A,lft T s.1,s.2)).bind _=_
   rw [e]
   rw [List.length_append,List.length_singleton] at h
   exact h
 obtain ⟨R,h⟩:=key gs [] (idn n) s0 rfl (AB n) (by simp; omega)
 rw [List.length_map]
 rw [List.length_nil] at h
 rw [h]
 simp only [Option.bind_some]
 unfold Ap
 rw [← es]
/-- The reference's placing. -/
theorem Kb {n:Nat} (hn:1≤n∧n≤5) {T:List Ab} {N:Nat} (hT:TOk N T) (hTl:T.length≤1000) {gs:List (Nat×Nat)} (hg:GOk n gs) (hgl:gs.length≤1000) :
  Ch (Ae.mk (n:Int) (gs.map cxg)) T=some (Ae.mk (n:Int) (Ap T n gs).2,((Ap T n gs).1.length:Int)):=by
 have hid:=FT ⟨n,by omega⟩
 simp only at hid
 unfold Ch
 simp only
 rw [hid]
 simp only [Option.bind_some,Int.toNat_natCast]
 rw [chk_t (by omega)]
 have hat:forN DA n 0 []=some (cI (List.range n)):=by
  obtain ⟨t,e1,e2⟩:=forN_inv (f:=DA) (fun i t=>t=cI (List.range i)) n 0 [] rfl (fun i t _ hi ht=>by
   subst ht
   unfold DA
   rw [chk_t (by rw [Aj,List.length_range]; omega)]
   exact ⟨_,rfl,by rw [List.range_succ]; unfold cI; rw [List.map_append]; rfl⟩)
  rw [e1,e2,Nat.zero_add]
 rw [hat]
 simp only [Option.bind_some]
 have hall:∀ (L pre r:List Nat) (A:List Nat) (s:List Int×List Aa) (b:Nat),pre++r=L→(∀ q∈L,q<n)→NOk n A→L.length≤5→s.1.length≤b+pre.length→s.2.length≤b+2*pre.length→b≤9000 →
   forN (BS (cI L) T (cI A)) r.length pre.length (s.2,s.1)=some ((r.foldl (fun s q=>plS T q (A.getD q 0) s) s).2,(r.foldl (fun s q=>plS T q (A.getD q 0) s) s).1):=fun L pre r=>by
  induction r generalizing pre with
  | nil=>intro A s b _ _ _ _ _ _ _; rfl
  | cons q r ih =>
   intro A s b hpr hL hA hL5 hs1 hs2 hb
   have hpl:pre.length<L.length:=by rw [← hpr,List.length_append,List.length_cons]; omega
   have hq:=hL q (by rw [← hpr]; exact List.mem_append_right _ (.head _))
   have hl:=F4 hT (q:=q) (m:=A.getD q 0) (by omega) s
   have e:BS (cI L) T (cI A) pre.length (s.2,s.1)=some ((plS T q (A.getD q 0) s).2,(plS T q (A.getD q 0) s).1):=by
    unfold BS
    simp only
    rw [Ar (i:=pre.length) (x:=q) (by rw [← hpr]; exact BO)]
    simp only [Option.bind_some]
    rw [chk_t (by omega),NT hT hTl (by omega) (by rw [hA.1]; omega) (by omega) (by omega)]
    rfl
   have:=ih (pre++[q]) A (plS T q (A.getD q 0) s) b (by rw [List.append_assoc]; exact hpr) hL hA hL5 (by rw [List.length_append,List.length_singleton]; omega) (by rw [List.length_append,List.length_singleton]; omega) hb
   show (BS (cI L) T (cI A) pre.length (s.2,s.1)).bind _=_
   rw [e]
   rw [List.length_append,List.length_singleton] at this
   exact this
 have fold_len:∀ (L:List Nat) (A:List Nat) (s:List Int×List Aa),(∀ q∈L,q<5)→(L.foldl (fun s q=>plS T q (A.getD q 0) s) s).1.length≤s.1.length+L.length∧(L.foldl (fun s q=>plS T q (A.getD q 0) s) s).2.length≤s.2.length+2*L.length:=fun L=>by
  induction L with
  | nil=>intro A s _; exact ⟨Nat.le_refl _,Nat.le_refl _⟩
  | cons q L ih =>
   intro A s hL
   have h1:=ih A (plS T q (A.getD q 0) s) (fun q hq=>hL q (.tail _ hq))
   have h2:=F4 hT (q:=q) (m:=A.getD q 0) (hL q (.head _)) s
   rw [List.foldl_cons,List.length_cons]
   omega
 have hlen:((Ae.mk (n:Int) (gs.map cxg)).Gates.length:Int)=(gs.length:Int):=by simp
 have key:∀ (r pre:List (Nat×Nat)) (A:List Nat) (s:List Int×List Aa) (L:List Nat) (F:Nat),pre++r=gs→NOk n A→(∀ q∈L,q<n)→L.length≤5→s.1.length+L.length≤10+pre.length→s.2.length+2*L.length≤10+3*pre.length→r.length+1<F →
   ∃ R L' ,whX (Bh (Ae.mk (n:Int) (gs.map cxg)) T) F (s.2,cI A,s.1,cI L,(pre.length:Int))=some (.inl ((By T r A (L.foldl (fun s q=>plS T q (A.getD q 0) s) s)).2,R,(By T r A (L.foldl (fun s q=>plS T q (A.getD q 0) s) s)).1,L',((gs.length+1:Nat):Int))):=fun r=>by
  induction r with
  | nil =>
   intro pre A s L F hpr hA hL hL5 hs1 hs2 hF
   obtain ⟨F',rfl⟩:∃ F',F=F'+1+1:=⟨F-2,by omega⟩
   have hpg:pre.length=gs.length:=by rw [← hpr]; simp
   have h3:=hall L [] L A s 8000 rfl hL hA hL5 (by simp; omega) (by simp; omega) (by omega)
   have e:Bh (Ae.mk (n:Int) (gs.map cxg)) T (s.2,cI A,s.1,cI L,(pre.length:Int))=some (.nx ((L.foldl (fun s q=>plS T q (A.getD q 0) s) s).2,cI A,(L.foldl (fun s q=>plS T q (A.getD q 0) s) s).1,cI L,((gs.length+1:Nat):Int))):=by
    unfold Bh
    simp only
    rw [hlen,hpg,decide_eq_true (show (gs.length:Int)≤(gs.length:Int) by omega),decide_eq_false (show ¬ (gs.length:Int)<(gs.length:Int) by omega)]
    simp only [cond_true]
    rw [chk_t (by rw [Aj]; omega),Aj,show forN (BS (cI L) T (cI A)) L.length 0 (s.2,s.1)=_ from h3,Dn (by omega)]
    rfl
   have e2:∀ st:List Aa×List Int×List Int×List Int,Bh (Ae.mk (n:Int) (gs.map cxg)) T (st.1,st.2.1,st.2.2.1,st.2.2.2,((gs.length+1:Nat):Int))=some (.br (st.1,st.2.1,st.2.2.1,st.2.2.2,((gs.length+1:Nat):Int))):=fun st=>by
    unfold Bh
    simp only
    rw [hlen,decide_eq_false (show ¬ ((gs.length+1:Nat):Int)≤(gs.length:Int) by omega)]
    rfl
   refine ⟨cI A,cI L,?_⟩
   simp only [whX,e,Option.bind_some]
   rw [e2 (_,_,_,_)]
   rfl
  | cons g r ih =>
   intro pre A s L F hpr hA hL hL5 hs1 hs2 hF
   obtain ⟨F',rfl⟩:∃ F',F=F'+1:=⟨F-1,by omega⟩
   have hgm:g∈gs:=by rw [← hpr]; exact List.mem_append_right _ (.head _)
   obtain ⟨g1,g2,g3⟩:=hg g hgm
   have hpl:pre.length<gs.length:=by rw [← hpr,List.length_append,List.length_cons]; omega
   obtain ⟨c1,c2,c3⟩:=EP hA hn.2 g1 g2
   have hA2:NOk n (cxL A g.1 g.2):=Bi hA _ _
   have h3:=hall L [] L A s 8000 rfl hL hA hL5 (by simp; omega) (by simp; omega) (by omega)
   have hfl:=fold_len L A s (fun q hq=>by have:=hL q hq; omega)
   have hgat:getI (Ae.mk (n:Int) (gs.map cxg)).Gates (pre.length:Int)=some (cxg g):=by rw [getI_nat,List.getElem?_map,← hpr,BO]; rfl
   have hcx:=EV (R:=cI A) (a:=(g.1:Int)) (b:=(g.2:Int)) (by rw [Aj,hA.1]; omega) c1 c2
   rw [c3] at hcx
   have e:Bh (Ae.mk (n:Int) (gs.map cxg)) T (s.2,cI A,s.1,cI L,(pre.length:Int))=some (.nx ((L.foldl (fun s q=>plS T q (A.getD q 0) s) s).2++[cxg g],cI (cxL A g.1 g.2),(L.foldl (fun s q=>plS T q (A.getD q 0) s) s).1,cI [g.2],(((pre++[g]).length:Nat):Int))):=by
    unfold Bh
    simp only
    rw [hlen,decide_eq_true (show (pre.length:Int)≤(gs.length:Int) by omega),decide_eq_true (show (pre.length:Int)<(gs.length:Int) by omega),hgat]
    simp only [cond_true]
    rw [chk_t (by rw [Aj]; omega),Aj,show forN (BS (cI L) T (cI A)) L.length 0 (s.2,s.1)=_ from h3,Dn (by omega)]
    simp only [Option.bind_some]
    rw [chk_t (by omega),show (cxg g).A=(g.1:Int) from rfl,show (cxg g).B=(g.2:Int) from rfl,hcx,List.length_append,List.length_singleton]
    rfl
   obtain ⟨R,L',h⟩:=ih (pre++[g]) (cxL A g.1 g.2) ((L.foldl (fun s q=>plS T q (A.getD q 0) s) s).1,(L.foldl (fun s q=>plS T q (A.getD q 0) s) s).2++[cxg g]) [g.2] F' (by rw [List.append_assoc]; exact hpr) hA2 (fun q hq=>by rw [List.mem_singleton] at hq; subst hq; exact g2) (by simp) (by simp only [List.length_append,List.length_singleton]; omega) (by simp only [List.length_append,List.length_singleton]; omega) (by rw [List.length_cons] at hF; omega)
   refine ⟨R,L',?_⟩
   simp only [whX,e,Option.bind_some]
   exact h
 obtain ⟨R,L',h⟩:=key gs [] (idn n) ([],[]) (List.range n) fuel rfl (AB n) (fun q hq=>List.mem_range.1 hq) (by simp; omega) (by simp; omega) (by simp; omega) (AC (by omega))
 rw [List.length_nil] at h
 rw [show whX (Bh (Ae.mk (n:Int) (gs.map cxg)) T) fuel ([],cI (idn n),[],cI (List.range n),0)=_ from h]
 rfl

def wG:Aa:=Aa.mk 12 0 0
theorem LP:∀ k:Fin 8,F7 (k.val:Int)=some (List.replicate k.val wG):=by decide +kernel
theorem KP {l:List Aa} (hl:l.length≤1000):Eb l=some l.reverse:=by
 unfold Eb
 rw [wr (a:=(l.length:Int)-1) (by omega)]
 have hs:=Cc (f:=ED) (fun s=>∃ t:Nat,s.2.1=(t:Int)∧s.2.2=(l.length:Int)-1-t∧2*t≤l.length+1∧s.1.length=l.length∧∀ p,p<l.length→s.1[p]?=if p<t∨l.length≤p+t then l[l.length-1-p]? else l[p]?) (fun s=>s.1=l.reverse) (fun _:List Aa=>False) (fun s=>l.length+1-s.2.1.toNat) (fun s hI=>by
  obtain ⟨m1,i,j⟩:=s
  obtain ⟨t,h1,h2,h3,h4,h5⟩:=hI
  simp only at h1 h2 h4 h5
  subst h1 h2
  unfold ED
  simp only
  by_cases hlt:(t:Int)<(l.length:Int)-1-t
  ·obtain ⟨j,hj⟩:∃ j:Nat,(l.length:Int)-1-t=j:=⟨l.length-1-t,by omega⟩
   have hjl:j<l.length:=by omega
   have htl:t<l.length:=by omega
   have e1:=h5 j hjl
   rw [if_neg (by omega),List.getElem?_eq_getElem hjl] at e1
   have e2:=h5 t htl
   rw [if_neg (by omega),List.getElem?_eq_getElem htl] at e2
   have e3:getI (m1.set t l[j]) (j:Int)=some l[j]:=by rw [getI_nat,List.getElem?_set_ne (by omega),e1]
   rw [decide_eq_true hlt,hj]
   simp only [cond_true,Int.toNat_natCast]
   rw [getI_nat,getI_nat,e1,e2]
   simp only [Option.bind_some]
   rw [e3,wr (a:=(t:Int)+1) (by omega),wr (a:=(j:Int)-1) (by omega)]
   refine .inl ⟨_,rfl,⟨t+1,by simp,by simp only; omega,by omega,by simp [h4],fun p hp=>?_⟩,by simp only; omega⟩
   simp only
   rw [List.getElem?_set,List.getElem?_set]
   simp only [List.length_set]
   by_cases p1:j=p
   ·subst p1
    rw [if_pos rfl,if_pos (by omega),if_pos (by omega),show l.length-1-j=t by omega,List.getElem?_eq_getElem htl]
   ·rw [if_neg p1]
    by_cases p2:t=p
    ·subst p2
     rw [if_pos rfl,if_pos (by omega),if_pos (by omega),show l.length-1-t=j by omega,List.getElem?_eq_getElem hjl]
    ·rw [if_neg p2,h5 p hp]
     by_cases p3:p<t∨l.length≤p+t
     ·rw [if_pos p3,if_pos (by omega)]
     ·rw [if_neg p3,if_neg (by omega)]
  ·rw [decide_eq_false hlt]
   simp only [cond_false]
   refine .inr (.inl ⟨_,rfl,?_⟩)
   simp only
   refine List.ext_getElem? fun p=>?_
   by_cases hp:p<l.length
   ·rw [h5 p hp,List.getElem?_reverse hp]
    split
    ·rfl
    ·rw [show l.length-1-p=p by omega]
   ·rw [List.getElem?_eq_none (by omega),List.getElem?_eq_none (by simp; omega)]) fuel (l,0,(l.length:Int)-1) ⟨0,rfl,by simp only; omega,by omega,rfl,fun p hp=>by rw [if_neg (by omega)]⟩ (Pc (by simp only; omega))
 rcases hs with ⟨s',e1,e2⟩ | ⟨r,_,h⟩
 ·rw [e1]
  obtain ⟨m1,i,j⟩:=s'
  simp only at e2
  subst e2
  rfl
 ·exact h.elim
theorem Od {A:List Nat} {a b:Nat} (hb:b<A.length) (hab:a≠b):cxA (cxA A a b) a b=A:=by
 rw [BD,BD]
 refine E5 (by rw [Be,Be]) (fun i hi=>?_)
 rw [AP (by rw [Be]; exact hb),AP hb,AP hb,AP hb,if_pos rfl,if_neg hab]
 split
 ·rename_i h; rw [h,xx]
 ·rfl
theorem GG {n:Nat}:∀ (gs:List (Nat×Nat)) {A:List Nat},NOk n A→NOk n (An A gs)
 | [],_,h=>h
 | g::r,A,h=>GG r (A:=cxA A g.1 g.2) (Bi h _ _)
theorem IK {n:Nat}:∀ (gs:List (Nat×Nat)) {A:List Nat},GOk n gs→A.length=n→As n A→As n (An A gs)
 | [],_,_,_,h=>h
 | g::r,A,hg,hl,h=>by
  obtain ⟨g1,g2,g3⟩:=hg g (.head _)
  exact IK r (A:=cxA A g.1 g.2) (fun x hx=>hg x (.tail _ hx)) (by rw [BD,Be]; exact hl) (Ft hl g1 g2 g3 h)
theorem HY {n:Nat} (l:List Nat):∀ (gs:List (Nat×Nat)) {A:List Nat},GOk n gs→A.length=n→An (A.map (thr l)) gs=(An A gs).map (thr l)
 | [],_,_,_=>rfl
 | g::r,A,hg,hl=>by
  obtain ⟨g1,g2,g3⟩:=hg g (.head _)
  have:=HY l r (A:=cxA A g.1 g.2) (fun x hx=>hg x (.tail _ hx)) (by rw [BD,Be]; exact hl)
  show An (cxA (A.map (thr l)) g.1 g.2) r=(An (cxA A g.1 g.2) r).map (thr l)
  rw [← this,BD,BD,Hz (by omega) (by omega)]
theorem Jc {n:Nat}:∀ (gs:List (Nat×Nat)) {A:List Nat},GOk n gs→A.length=n→An (An A gs) gs.reverse=A
 | [],_,_,_=>rfl
 | g::r,A,hg,hl=>by
  obtain ⟨g1,g2,g3⟩:=hg g (.head _)
  have:=Jc r (A:=cxA A g.1 g.2) (fun x hx=>hg x (.tail _ hx)) (by rw [BD,Be]; exact hl)
  rw [List.reverse_cons,G8]
  show An (An (An (cxA A g.1 g.2) r) r.reverse) [g]=A
  rw [this]
  exact Od (by omega) g3
theorem Jm {A:List Nat}:∀ {gs gs':List (Nat×Nat)} {y:Nat},y∈AZ A gs→y∈AZ A (gs++gs')
 | [],gs',_,h=>HA h
 | g::r,gs',y,h=>by
  rcases List.mem_append.1 h with h | h
  ·exact List.mem_append_left _ h
  ·exact List.mem_append_right _ (Jm h)
theorem Iv:∀ (gs:List (Nat×Nat)) (A:List Nat),cxs (gs.map cxg) A=An A gs
 | [],_=>rfl
 | g::r,A=>Iv r (cxA A g.1 g.2)
theorem Jk {n:Nat}:∀ (es:List Aa),GsN n es→∃ ps:List (Nat×Nat),es=ps.map cxg∧GOk n ps
 | [],_=>⟨[],rfl,fun g hg=>by cases hg⟩
 | e::es,h=>by
  obtain ⟨ps,h1,h2⟩:=Jk es (fun g hg=>h g (.tail _ hg))
  obtain ⟨a,b,ha,hb,hab,he⟩:=h e (.head _)
  refine ⟨(a,b)::ps,by rw [List.map_cons,← h1,he]; rfl,fun g hg=>?_⟩
  rcases List.mem_cons.1 hg with rfl | hg
  ·exact ⟨ha,hb,hab⟩
  ·exact h2 g hg
/-- The rows behind Gray's network and the rest. -/
theorem NK {n:Nat} (hn:n≤5) {gs ps:List (Nat×Nat)} {lv lo:List Nat} (hg:GOk n gs) (hp:GOk n ps) (hlo:NOk n lo) (hv:NOk n lv) (hlv:lv.map (thr (An (idn n) gs))=idn n) (he:An (lo.map (thr lv)) ps=idn n):An (idn n) (gs++ps.reverse)=lo:=by
 have hl1:NOk n (An (idn n) gs):=GG gs (AB n)
 have hrev:GOk n ps.reverse:=fun g hg=>hp g (List.mem_reverse.1 hg)
 rw [G8]
 generalize An (idn n) gs=l1 at *
 have h1:=Jc ps (A:=lo.map (thr lv)) hp (by rw [List.length_map]; exact hlo.1)
 rw [he] at h1
 have h2:=HY l1 ps.reverse (A:=idn n) hrev (Bd n)
 rw [Ks hl1.1 hn,h1,List.map_map] at h2
 rw [h2]
 refine E5 (by rw [List.length_map]) (fun i hi=>?_)
 rw [List.length_map] at hi
 rw [C4 hi]
 have hb:=Bx hlo.2 i
 show thr l1 (thr lv (lo.getD i 0))=_
 exact PQ hl1 hv hn hlv hb
theorem JV {n:Nat} {gs:List (Nat×Nat)} (h:GOk n gs):(gs.map cxg).all (gOk n)=true:=by
 rw [List.all_eq_true]
 intro x hx
 obtain ⟨g,hg,rfl⟩:=List.mem_map.1 hx
 obtain ⟨g1,g2,g3⟩:=h g hg
 unfold gOk cxg
 simp only
 rw [show (decide ((1:Int)≤9)&&decide ((9:Int)≤8))=false from rfl,show (decide ((9:Int)≤9)&&decide ((9:Int)≤11))=true from rfl]
 simp only [cond_false,cond_true]
 rw [decide_eq_true (show (0:Int)≤(g.1:Int) by omega),decide_eq_true (show (g.1:Int)≤(n:Int)-1 by omega),decide_eq_true (show (0:Int)≤(g.2:Int) by omega),decide_eq_true (show (g.2:Int)≤(n:Int)-1 by omega)]
 simp only [Bool.and_self,Bool.true_and,bne_iff_ne,ne_eq]
 omega
theorem N5:∀ (n:Fin 6) (q:Fin 5) (k:Fin 8),q.val<n.val→(A4 q.val k.val).all (gOk n.val)=true:=by decide +kernel
theorem LA {n q k:Nat} (hn:n≤5) (hq:q<n) (hk:k<8):(A4 q k).all (gOk n)=true:=N5 ⟨n,by omega⟩ ⟨q,by omega⟩ ⟨k,hk⟩ hq
theorem GJ {n:Nat} (hn:1≤n∧n≤5) {l:List Aa} (hl:l.length≤400) (h:l.all (gOk n)=true):cOk (Ae.mk (n:Int) l)=true:=by
 unfold cOk
 simp only
 rw [h,decide_eq_true (show (1:Int)≤(n:Int) by omega),decide_eq_true (show (n:Int)≤5 by omega),decide_eq_true hl]; rfl
/-- What placing keeps. -/
structure BR (T:List Ab) (n b:Nat) (s:List Int×List Aa):Prop where
 ok:s.2.all (gOk n)=true
 len:s.2.length≤b+2*s.1.length
 sum:(lft T s.1).length+s.1.length=T.length
theorem Kj {T:List Ab} {n b N:Nat} (hn:n≤5) (hT:TOk N T) {s:List Int×List Aa} (h:BR T n b s) {q m:Nat} (hq:q<n):BR T n b (plS T q m s):=by
 unfold plS
 cases hf:T.find? (isM m) with
 | none=>exact h
 | some t =>
  simp only
  by_cases hd:(m:Int)∈s.1
  ·rw [if_pos hd]; exact h
  ·rw [if_neg hd]
   have hmem:=List.mem_of_find?_eq_some hf
   have htm:=List.find?_some hf
   have hmask:t.Mask=(m:Int):=by unfold isM at htm; exact beq_iff_eq.1 htm
   obtain ⟨_,c1,c2⟩:=hT.2 t hmem
   have hr:=(FH hT hmem (q:=q) (by omega)).2.2
   refine ⟨?_,?_,?_⟩
   ·simp only
    rw [List.all_append,h.ok,LA hn hq (by omega)]; rfl
   ·have:=h.len
    simp only [List.length_append,List.length_singleton]; omega
   ·have hL:t∈lft T s.1:=List.mem_filter.2 ⟨hmem,by rw [hmask]; simpa using hd⟩
    obtain ⟨i,hi,hit⟩:=List.mem_iff_getElem.1 hL
    have he:=Gu (T:=lft T s.1) (hT.1.sublist (List.filter_sublist:(lft T s.1).Sublist T)) (i:=i) (t:=t) (by rw [List.getElem?_eq_getElem hi,hit])
    have e2:lft T (s.1++[(m:Int)])=(lft T s.1).filter fun x=>x.Mask != t.Mask:=by
     unfold lft
     rw [List.filter_filter]
     apply List.filter_congr
     intro x _
     rw [hmask,Bool.eq_iff_iff]
     simp only [Bool.and_eq_true,Bool.not_eq_true',decide_eq_false_iff_not,bne_iff_ne,ne_eq,List.mem_append,List.mem_singleton,not_or]
     exact and_comm
    have:=h.sum
    simp only
    rw [e2,← he,List.length_append,List.length_take,List.length_drop,List.length_append,List.length_singleton]
    omega
theorem JX {T:List Ab} {n b N:Nat} (hn:n≤5) (hT:TOk N T) (A:List Nat):∀ (L:List Nat) (s:List Int×List Aa),(∀ q∈L,q<n)→BR T n b s→BR T n b (L.foldl (fun s q=>plS T q (A.getD q 0) s) s)
 | [],_,_,h=>h
 | q::L,s,hL,h=>JX hn hT A L (plS T q (A.getD q 0) s) (fun q hq=>hL q (.tail _ hq)) (Kj hn hT h (hL q (.head _)))
theorem Ja {T:List Ab} {n N:Nat} (hn:n≤5) (hT:TOk N T):∀ (gs:List (Nat×Nat)) (A:List Nat) (b:Nat) (s:List Int×List Aa),GOk n gs→BR T n b s→BR T n (b+gs.length) (By T gs A s)
 | [],_,_,_,_,h=>h
 | g::r,A,b,s,hg,h=>by
  have hgo:=JV (n:=n) (gs:=[g]) (fun x hx=>hg x (by rw [List.mem_singleton] at hx; subst hx; exact .head _))
  have h2:BR T n (b+1) (s.1,s.2++[cxg g]):=⟨by simp only; rw [List.all_append,h.ok]; exact hgo,by simp only [List.length_append,List.length_singleton]; have:=h.len; omega,h.sum⟩
  have:=Ja hn hT r (cxA A g.1 g.2) (b+1) _ (fun x hx=>hg x (.tail _ hx)) (Kj (q:=g.2) (m:=(cxA A g.1 g.2).getD g.2 0) hn hT h2 (hg g (.head _)).2.1)
  rw [List.length_cons,show b+(r.length+1)=b+1+r.length by omega]
  exact this
theorem JI {T:List Ab} {n N:Nat} (hn:n≤5) (hT:TOk N T) {gs:List (Nat×Nat)} (hg:GOk n gs):BR T n gs.length (Ap T n gs):=by
 have h0:BR T n 0 (([],[]):List Int×List Aa):=⟨rfl,by simp,by
  have:lft T []=T:=by unfold lft; rw [List.filter_eq_self]; intro x _; simp
  simp only [this,List.length_nil,Nat.add_zero]⟩
 have:=Ja hn hT gs (idn n) 0 _ hg (JX hn hT (idn n) (List.range n) ([],[]) (fun q hq=>List.mem_range.1 hq) h0)
 rw [Nat.zero_add] at this
 exact this
theorem Mj {n:Nat} (hn:1≤n∧n≤5) {gs:List (Nat×Nat)} (hg:GOk n gs) (hl:gs.length≤400):Ea (Ae.mk (n:Int) (gs.map cxg))=some (Ad.mk (cI (An (idn n) gs)),true)∧DR (Ae.mk (n:Int) (gs.map cxg))=some (Ad.mk (cI (An (idn n) gs)),true):=by
 have hc:=GJ hn (l:=gs.map cxg) (by rw [List.length_map]; exact hl) (JV hg)
 have hid:=FB ⟨n,by omega⟩
 have hid2:=FT ⟨n,by omega⟩
 simp only at hid hid2
 have hlen:(Ae.mk (n:Int) (gs.map cxg)).Gates.length=gs.length:=by simp
 have key:∀ (r pre:List (Nat×Nat)) (A:List Nat),pre++r=gs→NOk n A→forX (Cm (Ae.mk (n:Int) (gs.map cxg))) r.length pre.length (cI A)=some (.inl (cI (An A r)))∧forX (Ci (Ae.mk (n:Int) (gs.map cxg))) r.length pre.length (cI A)=some (.inl (cI (An A r))):=fun r=>by
  induction r with
  | nil=>intro pre A _ _; exact ⟨rfl,rfl⟩
  | cons g r ih =>
   intro pre A hpr hA
   have hgm:g∈gs:=by rw [← hpr]; exact List.mem_append_right _ (.head _)
   obtain ⟨g1,g2,g3⟩:=hg g hgm
   obtain ⟨c1,c2,c3⟩:=EP hA hn.2 g1 g2
   have hA2:NOk n (cxA A g.1 g.2):=Bi hA _ _
   have hgat:getI (Ae.mk (n:Int) (gs.map cxg)).Gates (pre.length:Int)=some (cxg g):=by rw [getI_nat,List.getElem?_map,← hpr,BO]; rfl
   have hcx:=EV (R:=cI A) (a:=(g.1:Int)) (b:=(g.2:Int)) (by rw [Aj,hA.1]; omega) c1 c2
   rw [c3] at hcx
   have e1:Cm (Ae.mk (n:Int) (gs.map cxg)) pre.length (cI A)=some (.nx (cI (cxA A g.1 g.2))):=by
    unfold Cm
    rw [hgat]
    simp only [Option.bind_some]
    rw [show ((cxg g).Kind==9)=true from rfl]
    simp only [cond_true]
    unfold E3
    rw [(GM (l:=cI A) (by rw [Aj,hA.1]; omega)).2]
    simp only [Option.bind_some]
    rw [show (cxg g).B=(g.2:Int) from rfl,show (cxg g).A=(g.1:Int) from rfl,c1,c2]
    simp only [Option.bind_some]
    rw [c3]; rfl
   have e2:Ci (Ae.mk (n:Int) (gs.map cxg)) pre.length (cI A)=some (.nx (cI (cxA A g.1 g.2))):=by
    unfold Ci
    rw [hgat]
    simp only [Option.bind_some]
    rw [show ((cxg g).Kind==9)=true from rfl]
    simp only [cond_true]
    rw [show (cxg g).B=(g.2:Int) from rfl,show (cxg g).A=(g.1:Int) from rfl,hcx]
    rfl
   obtain ⟨h1,h2⟩:=ih (pre++[g]) (cxA A g.1 g.2) (by rw [List.append_assoc]; exact hpr) hA2
   rw [List.length_append,List.length_singleton] at h1 h2
   refine ⟨?_,?_⟩
   ·show (Cm (Ae.mk (n:Int) (gs.map cxg)) pre.length (cI A)).bind _=_
    rw [e1]; exact h1
   ·show (Ci (Ae.mk (n:Int) (gs.map cxg)) pre.length (cI A)).bind _=_
    rw [e2]; exact h2
 obtain ⟨k1,k2⟩:=key gs [] (idn n) rfl (AB n)
 refine ⟨?_,?_⟩
 ·unfold Ea
  rw [E4 _ (by rw [hlen]; omega),hc]
  simp only [Option.bind_some,Bool.not_true,cond_false]
  rw [hid]
  simp only [Option.bind_some]
  rw [List.length_map,chk_t (by omega),show forX (Cm (Ae.mk (n:Int) (gs.map cxg))) gs.length 0 (cI (idn n))=_ from k1]
  rfl
 ·unfold DR EH
  rw [JQ,hc]
  simp only [Option.bind_some,Bool.not_true,cond_false]
  rw [hid2]
  simp only [Option.bind_some]
  rw [List.length_map,chk_t (by omega),show forX (Ci (Ae.mk (n:Int) (gs.map cxg))) gs.length 0 (cI (idn n))=_ from k2]
  rfl
theorem KJ {l:List Nat} {n:Nat} (hl:NOk n l) (hn:n≤5) (hF:As n l):∃ ps:List (Nat×Nat),GOk n ps∧ps.length≤50∧An l ps=idn n∧Ee (Ad.mk (cI l))=some (ps.reverse.map cxg)∧DE (Ad.mk (cI l))=some (Ae.mk (n:Int) (ps.reverse.map cxg)):=by
 obtain ⟨es,e1,e2,e3,e4⟩:=IL hl hn hF
 obtain ⟨es',f1,f2,_,_⟩:=Hu hl hn
 rw [e1] at f2
 obtain rfl:=Option.some.inj f2
 obtain ⟨ps,rfl,hp⟩:=Jk es e2
 rw [List.length_map] at e3
 refine ⟨ps,hp,e3,by rw [← Iv]; exact e4,?_,?_⟩
 ·unfold Ee
  rw [e1]
  simp only [Option.bind_some]
  rw [KP (by rw [List.length_map]; omega),List.map_reverse]; rfl
 ·unfold DE
  rw [f1]
  simp only [Option.bind_some]
  rw [List.length_map,List.map_reverse]
  have key:∀ (k:Nat) (acc:List Aa) (F:Nat),k≤ps.length→k<F→acc.length+k≤1000→whX (Dp (ps.map cxg)) F (acc,(k:Int)-1)=some (.inl (acc++((ps.map cxg).take k).reverse,-1)):=fun k=>by
   induction k with
   | zero =>
    intro acc F _ hF _
    obtain ⟨F',rfl⟩:∃ F',F=F'+1:=⟨F-1,by omega⟩
    simp only [whX]
    rw [show Dp (ps.map cxg) (acc,((0:Nat):Int)-1)=some (.br (acc,-1)) from rfl]
    simp
   | succ k ih =>
    intro acc F hk hF ha
    obtain ⟨F',rfl⟩:∃ F',F=F'+1:=⟨F-1,by omega⟩
    obtain ⟨x,hx⟩:∃ x,(ps.map cxg)[k]?=some x:=⟨_,List.getElem?_eq_getElem (by rw [List.length_map]; omega)⟩
    have e:Dp (ps.map cxg) (acc,((k+1:Nat):Int)-1)=some (.nx (acc++[x],(k:Int)-1)):=by
     unfold Dp
     simp only
     rw [show ((k+1:Nat):Int)-1=(k:Int) by omega,decide_eq_true (show (0:Int)≤(k:Int) by omega),getI_nat,hx]
     simp only [cond_true,Option.bind_some]
     rw [chk_t (by omega),wrap_i64 ⟨by omega,by omega⟩]
    simp only [whX,e,Option.bind_some]
    rw [ih (acc++[x]) F' (by omega) (by omega) (by rw [List.length_append,List.length_singleton]; omega),List.take_add_one,hx]
    simp
  rw [wrap_i64 ⟨by omega,by omega⟩,key ps.length [] fuel (Nat.le_refl _) (AC (by omega)) (by simp; omega)]
  simp only [Option.bind_some,orR,List.nil_append]
  rw [List.take_of_length_le (by rw [List.length_map]; omega),Aj,hl.1]
theorem Ng {a b:List Aa} (h:a.length+b.length≤100000):Eq [a,b]=some (a++b):=by
 unfold Eq
 have h1:forN (BZ [a,b]) 2 0 0=some ((a.length+b.length:Nat):Int):=by
  have e0:BZ [a,b] 0 0=some (a.length:Int):=by
   unfold BZ
   rw [show getI [a,b] ((0:Nat):Int)=some a from rfl]
   simp only [Option.bind_some]
   rw [wrap_i64 ⟨by omega,by omega⟩,decide_eq_false (by omega)]
   simp
  have e1:BZ [a,b] 1 (a.length:Int)=some ((a.length+b.length:Nat):Int):=by
   unfold BZ
   rw [show getI [a,b] ((1:Nat):Int)=some b from rfl]
   simp only [Option.bind_some]
   rw [wrap_i64 ⟨by omega,by omega⟩,decide_eq_false (by omega)]
   simp
  simp only [forN]
  rw [e0]
  simp only [Option.bind_some]
  rw [e1]; rfl
 have h2:forN (Ct [a,b]) 2 0 ([]:List Aa)=some (a++b):=by
  have e0:Ct [a,b] 0 ([]:List Aa)=some a:=by
   unfold Ct
   rw [show getI [a,b] ((0:Nat):Int)=some a from rfl]
   simp only [Option.bind_some]
   rw [chk_t (by simp; omega)]; rfl
  have e1:Ct [a,b] 1 a=some (a++b):=by
   unfold Ct
   rw [show getI [a,b] ((1:Nat):Int)=some b from rfl]
   simp only [Option.bind_some]
   rw [chk_t (by omega)]
  simp only [forN]
  rw [e0]
  simp only [Option.bind_some]
  rw [e1]; rfl
 rw [show ([a,b]:List (List Aa)).length=2 from rfl,chk_t (by omega),h1]
 simp only [Option.bind_some]
 rw [chk_t (by omega),chk_t (by omega),h2]
 rfl
theorem Pg:∀ (k:Nat) (G:List Aa) (F:Nat),k<F→G.length+k≤10000→whX CN F (G,(k:Int))=some (.inl (G++List.replicate k wG,0)):=fun k=>by
 induction k with
 | zero =>
  intro G F hF _
  obtain ⟨F',rfl⟩:∃ F',F=F'+1:=⟨F-1,by omega⟩
  simp only [whX]
  rw [show CN (G,((0:Nat):Int))=some (.br (G,0)) from rfl]
  simp
 | succ k ih =>
  intro G F hF hG
  obtain ⟨F',rfl⟩:∃ F',F=F'+1:=⟨F-1,by omega⟩
  have e:CN (G,((k+1:Nat):Int))=some (.nx (G++[wG],(k:Int))):=by
   unfold CN
   simp only
   rw [decide_eq_true (show (0:Int)<((k+1:Nat):Int) by omega)]
   simp only [cond_true]
   rw [chk_t (by omega),wrap_i64 ⟨by omega,by omega⟩,show ((k+1:Nat):Int)-1=(k:Int) by omega]
   rfl
  simp only [whX,e,Option.bind_some]
  rw [ih (G++[wG]) F' (by omega) (by rw [List.length_append,List.length_singleton]; omega),List.append_assoc]
  rfl

theorem Jg {N:Int}:∀ (T:List Ab) (a:Int),T.Pairwise (fun a b=>a.Mask<b.Mask)→(∀ t∈T,a≤t.Mask∧t.Mask<N)→(T.length:Int)≤N-a∨T=[]
 | [],_,_,_=>.inr rfl
 | t::T,a,hp,h=>by
  rw [List.pairwise_cons] at hp
  obtain ⟨h1,h2⟩:=h t (.head _)
  rcases Jg T (t.Mask+1) hp.2 (fun x hx=>⟨by have:=hp.1 x hx; omega,(h x (.tail _ hx)).2⟩) with h3 | h3
  ·left; rw [List.length_cons]; omega
  ·left; subst h3; simp; omega
theorem GE {n:Nat} (hn:n≤5) {T:List Ab} (h:TOk (2 ^ n) T):T.length≤31:=by
 have:=Ax hn
 rcases Jg (N:=((2 ^ n:Nat):Int)) T 1 h.1 (fun t ht=>(h.2 t ht).1) with h1 | h1
 ·omega
 ·subst h1; simp
theorem HW {T:List Ab} {N:Nat} (h1:∀ (i:Nat) x,T[i]?=some x→(1≤x.Mask∧x.Mask<(N:Int)∧1≤x.Coef∧x.Coef≤7)) (h2:∀ (i:Nat) x y,T[i]?=some x→T[i+1]?=some y→x.Mask<y.Mask):TOk N T:=by
 refine ⟨?_,fun t ht=>?_⟩
 ·clear h1
  induction T with
  | nil=>exact List.Pairwise.nil
  | cons a T ih =>
   have ih:=ih (fun i x y hx hy=>h2 (i+1) x y (by simpa using hx) (by simpa using hy))
   rw [List.pairwise_cons]
   refine ⟨fun x hx=>?_,ih⟩
   cases T with
   | nil=>cases hx
   | cons c T =>
    have h3:=h2 0 a c rfl rfl
    rw [List.pairwise_cons] at ih
    rcases List.mem_cons.1 hx with rfl | hx
    ·exact h3
    ·have:=ih.1 x hx; omega
 ·obtain ⟨i,hi,rfl⟩:=List.mem_iff_getElem.1 ht
  obtain ⟨a,b,c,d⟩:=h1 i _ (List.getElem?_eq_getElem hi)
  exact ⟨⟨a,b⟩,c,d⟩
theorem HH {p:Ah} {n:Nat} {l:List Nat} (h:A8 p n l):TOk (2 ^ n) p.Terms:=HW h.2.2.2.1 h.2.2.2.2
theorem I1:∀ (T:List Ab) (s:List Int),T.foldl (fun s t=>s++[t.Mask]) s=s++T.map Ab.Mask
 | [],s=>by simp
 | t::T,s=>by rw [List.foldl_cons,I1 T]; simp
theorem OM {T:List Ab} {N:Nat} (h:TOk N T):T.map Ab.Mask=cI (T.map fun t=>t.Mask.toNat):=by
 unfold cI
 rw [List.map_map]
 apply List.map_congr_left
 intro t ht
 have:=(h.2 t ht).1.1
 simp only [Function.comp]
 omega
theorem MD {p:Ah} {N:Nat} (h:TOk N p.Terms) (hl:p.Terms.length≤1000):Dh p.Terms=some (cI (p.Terms.map fun t=>t.Mask.toNat))∧forN (DS p) p.Terms.length 0 []=some (cI (p.Terms.map fun t=>t.Mask.toNat)):=by
 rw [← OM h]
 have a:=E2 (f:=EI p.Terms) (g:=fun (s:List Int) (t:Ab)=>s++[t.Mask]) (l:=p.Terms) (s:=[]) (fun i s=>s.length≤i) (fun i t s ht q1=>by
  have hi:=(List.getElem?_eq_some_iff.1 ht).1
  unfold EI
  rw [getI_nat,ht]
  simp only [Option.bind_some]
  rw [chk_t (by omega)]
  exact ⟨rfl,by rw [List.length_append,List.length_singleton]; omega⟩) (Nat.le_refl _)
 have b:=E2 (f:=DS p) (g:=fun (s:List Int) (t:Ab)=>s++[t.Mask]) (l:=p.Terms) (s:=[]) (fun i s=>s.length≤i) (fun i t s ht q1=>by
  have hi:=(List.getElem?_eq_some_iff.1 ht).1
  unfold DS
  rw [getI_nat,ht]
  simp only [Option.bind_some]
  rw [chk_t (by omega)]
  exact ⟨rfl,by rw [List.length_append,List.length_singleton]; omega⟩) (Nat.le_refl _)
 rw [I1,List.nil_append] at a b
 refine ⟨?_,b⟩
 unfold Dh
 rw [chk_t (by omega),a]; rfl
theorem Kp {n:Nat} (hn:1≤n∧n≤5) {l:List Aa} (hl:l.length≤100000):BV (n:Int) l=some (bif cOk (Ae.mk (n:Int) l) then (Ae.mk (n:Int) l,true) else (Ae.mk 0 [],false)):=by
 unfold BV
 rw [chk_t (by omega),E4 _ (by simp only; omega)]
 simp only [Option.bind_some]
 cases cOk (Ae.mk (n:Int) l) <;> rfl
theorem w_ok {n:Nat} (k:Nat):(List.replicate k wG).all (gOk (n:Int))=true:=by
 rw [List.all_eq_true]
 intro x hx
 rw [List.eq_of_mem_replicate hx]; rfl
/-- PhaseNetwork of a valid phase polynomial. -/
theorem ND {p:Ah} {n:Nat} {l:List Nat} (k0:A8 p n l) (v0:AD p=some true) (s0:BB p=some true) :
  ∃ (tot:List (Nat×Nat)) (k:Nat),GOk n tot∧tot.length≤294∧An (idn n) tot=l∧(∀ t∈p.Terms,t.Mask.toNat∈AZ (idn n) tot)∧k≤7∧p.Phase=(k:Int)∧cOk (Ae.mk (n:Int) ((Ap p.Terms n tot).2++List.replicate k wG))=true ∧
   BH p=some (Ae.mk (n:Int) ((Ap p.Terms n tot).2++List.replicate k wG),true)∧BU p=some (Ae.mk (n:Int) ((Ap p.Terms n tot).2++List.replicate k wG),true):=by
 have hn:1≤n∧n≤5:=⟨k0.1.1,k0.1.2.1⟩
 have h32:=Ax hn.2
 have hQ:p.Qubits=(n:Int):=k0.1.2.2
 have hT:=HH k0
 have hTl:=GE hn.2 hT
 have hlo:NOk n l:=⟨k0.2.2.1.2.1,k0.2.2.1.2.2.1⟩
 have hFo:=Nk k0
 have hout:p.Out=Ad.mk (cI l):=k0.2.2.1.1
 obtain ⟨k,hk⟩:∃ k:Nat,p.Phase=(k:Int):=⟨p.Phase.toNat,by have:=k0.2.1.1; omega⟩
 have hk7:k≤7:=by have:=k0.2.1.2; omega
 obtain ⟨m1,m2⟩:=MD hT (by omega)
 have hms:∀ v∈p.Terms.map (fun t=>t.Mask.toNat),1≤v∧v<2 ^ n:=fun v hv=>by
  obtain ⟨t,ht,rfl⟩:=List.mem_map.1 hv
  have:=(hT.2 t ht).1
  omega
 obtain ⟨g1,g2,g3,g4,g5⟩:=PU hn hms (by rw [List.length_map]; exact hTl)
 generalize Eh n (p.Terms.map fun t=>t.Mask.toNat)=gs at *
 obtain ⟨l1,l2⟩:=Mj hn g3 (by omega)
 have hr1:NOk n (An (idn n) gs):=GG gs (AB n)
 have hF1:As n (An (idn n) gs):=IK gs g3 (Bd n) (Fi n)
 have hv1:=FL hr1.1 hn.1 hn.2 hr1.2 hF1
 obtain ⟨b,b1,b2,_⟩:=H4 (R:=cI (An (idn n) gs)) (by rw [Aj,hr1.1]; omega)
 rw [hv1] at b2
 obtain rfl:=Option.some.inj b2
 obtain ⟨lv',c1,c2,c3⟩:=Oz hr1 hn.1 hn.2 b1
 obtain ⟨lv,d1,d2,d3,d4⟩:=M2 hr1 hn.2 hF1
 rw [d1] at c3
 rw [← Option.some.inj c3] at c2
 have hvv:=FL d2.1 hn.1 hn.2 d2.2 d3
 have hvo:=FL hlo.1 hn.1 hn.2 hlo.2 hFo
 obtain ⟨t1,t2⟩:=NX d2.1 hn.2 d2.2 hlo.1 hlo.2 hvv hvo
 have hl2:NOk n (l.map (thr lv)):=⟨by rw [List.length_map]; exact hlo.1,fun x hx=>by
  obtain ⟨y,hy,rfl⟩:=List.mem_map.1 hx
  exact OC d2.1 hn.2 d2.2 (hlo.2 y hy)⟩
 have hF2:As n (l.map (thr lv)):=N7 d2 hlo hn.2 d3 hFo
 obtain ⟨ps,q1,q2,q3,q4,q5⟩:=KJ hl2 hn.2 hF2
 have hrows:=NK hn.2 g3 q1 hlo d2 d4 q3
 have htot:GOk n (gs++ps.reverse):=fun g hg=>by
  rcases List.mem_append.1 hg with hg | hg
  ·exact g3 g hg
  ·exact q1 g (List.mem_reverse.1 hg)
 have htl:(gs++ps.reverse).length≤294:=by rw [List.length_append,List.length_reverse]; omega
 have hmap:gs.map cxg++ps.reverse.map cxg=(gs++ps.reverse).map cxg:=by rw [List.map_append]
 have pi:=HV hn hT (by omega) htot (by omega)
 have psp:=Kb hn hT (by omega) htot (by omega)
 have inv:=JI hn.2 hT htot
 have hlen:((Ap p.Terms n (gs++ps.reverse)).2++List.replicate k wG).length≤400:=by
  have:=inv.len
  have:=inv.sum
  rw [List.length_append,List.length_replicate]
  omega
 have hok:cOk (Ae.mk (n:Int) ((Ap p.Terms n (gs++ps.reverse)).2++List.replicate k wG))=true:=GJ hn hlen (by rw [List.all_append,inv.ok,w_ok]; rfl)
 have hph:=LP ⟨k,by omega⟩
 simp only at hph
 refine ⟨gs++ps.reverse,k,htot,htl,hrows,fun t ht=>Jm (g5 _ (List.mem_map_of_mem ht)),hk7,hk,hok,?_,?_⟩
 ·unfold BH
  rw [v0]
  simp only [Option.bind_some,Bool.not_true,cond_false]
  rw [m1]
  simp only [Option.bind_some]
  rw [hQ,g1]
  simp only [Option.bind_some]
  rw [l1]
  simp only [Option.bind_some]
  rw [d1]
  simp only [Option.bind_some]
  rw [hout,t2]
  simp only [Option.bind_some]
  rw [q4]
  simp only [Option.bind_some]
  rw [Ng (by rw [List.length_map,List.length_map,List.length_reverse]; omega),hmap]
  simp only [Option.bind_some]
  rw [pi]
  simp only [Option.bind_some]
  rw [hk,hph]
  simp only [Option.bind_some]
  rw [chk_t (by rw [List.length_append] at hlen; omega),Kp hn (by omega),hok]
  rfl
 ·unfold BU
  rw [s0]
  simp only [Option.bind_some,Bool.not_true,cond_false]
  rw [chk_t (by omega),m2]
  simp only [Option.bind_some]
  rw [hQ,g2]
  simp only [Option.bind_some]
  rw [l2]
  simp only [Option.bind_some]
  rw [c2]
  simp only [Option.bind_some]
  rw [hout,t1]
  simp only [Option.bind_some]
  rw [q5]
  simp only [Option.bind_some]
  rw [chk_t (by rw [List.length_map,List.length_map,List.length_reverse]; omega),hmap,psp]
  simp only [Option.bind_some]
  rw [hk,Pg k _ fuel (AC (by omega)) (by rw [List.length_append,List.length_replicate] at hlen; omega)]
  rfl

def Bn:List Aa→Int×List Int×List Int→Int×List Int×List Int→Prop
 | [],s,s'=>s=s'
 | x::r,s,s'=>∃ s1,Bj (Ae.mk 0 [x]) 0 s=some (.nx s1)∧Bn r s1 s'
theorem Fr:∀ {a b:List Aa} {s s1 s2:Int×List Int×List Int},Bn a s s1→Bn b s1 s2→Bn (a++b) s s2
 | [],_,_,_,_,h,h'=>by cases h; exact h'
 | _::_,_,_,_,_,⟨t,h1,h2⟩,h'=>⟨t,h1,Fr h2 h'⟩
theorem HU {c:Ae}:∀ (r pre:List Aa) (s s':Int×List Int×List Int),pre++r=c.Gates→Bn r s s'→forX (Bj c) r.length pre.length s=some (.inl s')
 | [],_,s,s',_,h=>by cases h; rfl
 | x::r,pre,s,s',hp,⟨t,h1,h2⟩=>by
  have hx:c.Gates[pre.length]?=some x:=by rw [← hp]; exact BO
  have e:Bj c pre.length s=some (.nx t):=by
   rw [← h1]
   unfold Bj
   rw [getI_nat,hx]
   rfl
  have:=HU r (pre++[x]) t s' (by rw [List.append_assoc]; exact hp) h2
  rw [List.length_append,List.length_singleton] at this
  show (Bj c pre.length s).bind _=_
  rw [e]; exact this
theorem Pk {n a b:Nat} {A:List Nat} (hA:NOk n A) (hn:n≤5) (ha:a<n) (hb:b<n) (ph:Int) (S:List Int):Bn [cxg (a,b)] (ph,cI A,S) (ph,cI (cxA A a b),S):=by
 obtain ⟨c1,c2,c3⟩:=EP hA hn ha hb
 refine ⟨_,?_,rfl⟩
 unfold Bj
 simp only
 rw [show getI [cxg (a,b)] ((0:Nat):Int)=some (cxg (a,b)) from rfl]
 simp only [Option.bind_some]
 rw [show ((cxg (a,b)).Kind==9)=true from rfl,show (cxg (a,b)).B=(b:Int) from rfl,show (cxg (a,b)).A=(a:Int) from rfl,c1,c2]
 simp only [cond_true,Option.bind_some,c3,orR]
 rfl
theorem CT {q m:Nat} {A:List Nat} (hq:A[q]?=some m) (ph:Int) {S:List Int} {z r v w:Int} (hz:(z==9)=false∧(z==11)=false∧(z==10)=false∧(z==12)=false) (hr:Dx z=some r) (hr0:(r==0)=false) (hv:S[m]?=some v) (hw:Int.tmod (IntKind.i64.wrap ((Int.tmod (IntKind.i64.wrap (v+r)) 8)+8)) 8=w):Bn [Aa.mk z (q:Int) 0] (ph,cI A,S) (ph,cI A,S.set m w):=by
 refine ⟨_,?_,rfl⟩
 unfold Bj
 simp only
 rw [show getI [Aa.mk z (q:Int) 0] ((0:Nat):Int)=some (Aa.mk z (q:Int) 0) from rfl]
 simp only [Option.bind_some]
 rw [hz.1,hz.2.1,hz.2.2.1,hz.2.2.2,hr,Ar hq]
 simp only [cond_false,Option.bind_some,hr0]
 unfold AU
 rw [getI_nat,hv]
 simp only [Option.bind_some,Int.toNat_natCast,hw,orR]
theorem P9 {q m k:Nat} {A:List Nat} (hq:A[q]?=some m) (ph:Int) {S:List Int} (hv:S[m]?=some 0) (hk:1≤k∧k≤7):Bn (A4 q k) (ph,cI A,S) (ph,cI A,S.set m (k:Int)):=by
 have hm:=(List.getElem?_eq_some_iff.1 hv).1
 have two:∀ {z r v w w2:Int},(z==9)=false∧(z==11)=false∧(z==10)=false∧(z==12)=false→Dx z=some r→(r==0)=false→Int.tmod (IntKind.i64.wrap ((Int.tmod (IntKind.i64.wrap (0+r)) 8)+8)) 8=w→Int.tmod (IntKind.i64.wrap ((Int.tmod (IntKind.i64.wrap (w+1)) 8)+8)) 8=w2→Bn [Aa.mk z (q:Int) 0,Aa.mk 7 (q:Int) 0] (ph,cI A,S) (ph,cI A,S.set m w2):=fun {z r v w w2} h1 h2 h3 h4 h5=>by
  have a:=CT hq ph (z:=z) h1 h2 h3 hv h4
  have b:=CT hq ph (z:=7) (S:=S.set m w) (r:=1) (v:=w) (w:=w2) (by decide) rfl (by decide) (by rw [List.getElem?_set,if_pos rfl,if_pos hm]) h5
  rw [List.set_set] at b
  exact Fr a b
 have:k=1∨k=2∨k=3∨k=4∨k=5∨k=6∨k=7:=by omega
 rcases this with e | e | e | e | e | e | e <;> subst e
 ·exact CT hq ph (z:=7) (r:=1) (v:=0) (w:=1) (by decide) rfl (by decide) hv (by decide)
 ·exact CT hq ph (z:=5) (r:=2) (v:=0) (w:=2) (by decide) rfl (by decide) hv (by decide)
 ·exact two (z:=5) (r:=2) (v:=0) (w:=2) (w2:=3) (by decide) rfl (by decide) (by decide) (by decide)
 ·exact CT hq ph (z:=4) (r:=4) (v:=0) (w:=4) (by decide) rfl (by decide) hv (by decide)
 ·exact two (z:=4) (r:=4) (v:=0) (w:=4) (w2:=5) (by decide) rfl (by decide) (by decide) (by decide)
 ·exact CT hq ph (z:=6) (r:=6) (v:=0) (w:=6) (by decide) rfl (by decide) hv (by decide)
 ·exact CT hq ph (z:=8) (r:=7) (v:=0) (w:=7) (by decide) rfl (by decide) hv (by decide)
theorem Jb (O S:List Int):∀ (k j:Nat),j+k≤7→Bn (List.replicate k wG) ((j:Int),O,S) (((j+k:Nat):Int),O,S)
 | 0,j,_=>rfl
 | k+1,j,h=>by
  have:=Jb O S k (j+1) (by omega)
  rw [show j+1+k=j+(k+1) by omega] at this
  refine ⟨(((j+1:Nat):Int),O,S),?_,this⟩
  unfold Bj
  simp only
  rw [show getI [wG] ((0:Nat):Int)=some wG from rfl]
  simp only [Option.bind_some]
  rw [show (wG.Kind==9)=false from rfl,show (wG.Kind==11)=false from rfl,show (wG.Kind==10)=false from rfl,show (wG.Kind==12)=true from rfl,Dn (by omega),Int.tmod_eq_emod_of_nonneg (by omega),show ((j+1:Nat):Int) % 8=((j+1:Nat):Int) by omega]
  rfl
def cf (T:List Ab) (m:Nat):Int:=match T.find? (isM m) with | some t=>t.Coef | none=>0
def TabT (T:List Ab) (done:List Int) (S:List Int):Prop:=S.length=32∧∀ m:Nat,m<32→S[m]?=some (if (m:Int)∈done then cf T m else 0)
def Rel (T:List Ab) (n:Nat) (s:List Int×List Aa) (A:List Nat) (S:List Int):Prop:=Bn s.2 (0,cI (idn n),List.replicate 32 0) (0,cI A,S)∧TabT T s.1 S
theorem Jq {T:List Ab} {n N:Nat} (hn:n≤5) (hT:TOk N T) {s:List Int×List Aa} {A:List Nat} {S:List Int} (hA:NOk n A) (h:Rel T n s A S) {q:Nat} (hq:q<n):∃ S',Rel T n (plS T q (A.getD q 0) s) A S':=by
 have hrow:=AS (l:=A) (i:=q) (by rw [hA.1]; exact hq)
 have hm:=Bx hA.2 q
 have h32:=Ax hn
 generalize A.getD q 0=m at *
 unfold plS
 cases hf:T.find? (isM m) with
 | none=>exact ⟨S,h⟩
 | some t =>
  simp only
  by_cases hd:(m:Int)∈s.1
  ·rw [if_pos hd]; exact ⟨S,h⟩
  ·rw [if_neg hd]
   have hmem:=List.mem_of_find?_eq_some hf
   obtain ⟨_,c1,c2⟩:=hT.2 t hmem
   obtain ⟨r1,r2,r3⟩:=h
   have h0:=r3 m (by omega)
   rw [if_neg hd] at h0
   refine ⟨S.set m (t.Coef.toNat:Int),Fr r1 (P9 hrow 0 h0 (by omega)),by simp only [List.length_set]; exact r2,fun x hx=>?_⟩
   rw [List.getElem?_set]
   by_cases e:m=x
   ·subst e
    rw [if_pos rfl,if_pos (by rw [r2]; exact hx),if_pos (List.mem_append_right _ (.head _))]
    unfold cf
    rw [hf]
    simp only [Option.some.injEq]
    omega
   ·rw [if_neg e,r3 x hx]
    congr 1
    have:((x:Int)∈s.1++[(m:Int)])↔(x:Int)∈s.1:=by
     rw [List.mem_append,List.mem_singleton]
     constructor
     ·rintro (h | h)
      ·exact h
      ·exact absurd (by omega) e
     ·exact .inl
    by_cases hx2:(x:Int)∈s.1
    ·rw [if_pos hx2,if_pos (this.2 hx2)]
    ·rw [if_neg hx2,if_neg (fun h=>hx2 (this.1 h))]
theorem Kx {T:List Ab} {n N:Nat} (hn:n≤5) (hT:TOk N T) {A:List Nat} (hA:NOk n A):∀ (L:List Nat) (s:List Int×List Aa) (S:List Int),(∀ q∈L,q<n)→Rel T n s A S→∃ S',Rel T n (L.foldl (fun s q=>plS T q (A.getD q 0) s) s) A S'
 | [],_,S,_,h=>⟨S,h⟩
 | q::L,s,S,hL,h=>by
  obtain ⟨S',h'⟩:=Jq hn hT hA h (hL q (.head _))
  exact Kx hn hT hA L _ S' (fun q hq=>hL q (.tail _ hq)) h'
theorem Jf {T:List Ab} {n N:Nat} (hn:n≤5) (hT:TOk N T):∀ (gs:List (Nat×Nat)) (A:List Nat) (s:List Int×List Aa) (S:List Int),GOk n gs→NOk n A→Rel T n s A S→∃ S',Rel T n (By T gs A s) (An A gs) S'
 | [],_,_,S,_,_,h=>⟨S,h⟩
 | g::r,A,s,S,hg,hA,h=>by
  obtain ⟨g1,g2,g3⟩:=hg g (.head _)
  have h2:Rel T n (s.1,s.2++[cxg g]) (cxA A g.1 g.2) S:=⟨Fr h.1 (Pk hA hn g1 g2 0 S),h.2⟩
  obtain ⟨S',h'⟩:=Jq hn hT (Bi hA g.1 g.2) h2 g2
  exact Jf hn hT r (cxA A g.1 g.2) _ S' (fun x hx=>hg x (.tail _ hx)) (Bi hA g.1 g.2) h'
theorem NQ {T:List Ab} {n N:Nat} (hn:n≤5) (hT:TOk N T) {gs:List (Nat×Nat)} (hg:GOk n gs):∃ S,Rel T n (Ap T n gs) (An (idn n) gs) S:=by
 obtain ⟨S,h⟩:=Kx hn hT (AB n) (List.range n) ([],[]) (List.replicate 32 0) (fun q hq=>List.mem_range.1 hq) ⟨rfl,by simp,fun m hm=>by
  rw [List.getElem?_replicate,if_pos hm]; simp⟩
 exact Jf hn hT gs (idn n) _ S hg (AB n) h
theorem FY {T:List Ab} {q m:Nat} {s:List Int×List Aa} {x:Int} (h:x∈s.1):x∈(plS T q m s).1:=by
 unfold plS
 split
 ·exact h
 ·split
  ·exact h
  ·exact List.mem_append_left _ h
theorem Ka {T:List Ab} {q m:Nat} {s:List Int×List Aa} (h:T.find? (isM m)≠none):(m:Int)∈(plS T q m s).1:=by
 unfold plS
 cases hf:T.find? (isM m) with
 | none=>exact absurd hf h
 | some t =>
  simp only
  split
  ·assumption
  ·exact List.mem_append_right _ (.head _)
theorem Jw {T:List Ab} {x:Int}:∀ (gs:List (Nat×Nat)) (A:List Nat) (s:List Int×List Aa),x∈s.1→x∈(By T gs A s).1
 | [],_,_,h=>h
 | g::r,A,s,h=>Jw r (cxA A g.1 g.2) _ (FY (s:=(s.1,s.2++[cxg g])) h)
theorem Hv {T:List Ab} {n:Nat}:∀ (gs:List (Nat×Nat)) (A:List Nat) (s:List Int×List Aa),GOk n gs→A.length=n→(∀ m∈A,T.find? (isM m)≠none→(m:Int)∈s.1)→∀ m∈AZ A gs,T.find? (isM m)≠none→(m:Int)∈(By T gs A s).1
 | [],_,_,_,_,h=>h
 | g::r,A,s,hg,hl,h=>fun m hm hf=>by
  obtain ⟨g1,g2,g3⟩:=hg g (.head _)
  rcases List.mem_append.1 hm with hm | hm
  ·exact Jw r _ _ (FY (s:=(s.1,s.2++[cxg g])) (h m hm hf))
  ·refine Hv r (cxA A g.1 g.2) _ (fun x hx=>hg x (.tail _ hx)) (by rw [BD,Be]; exact hl) (fun y hy hfy=>?_) m hm hf
   have:y=(cxA A g.1 g.2).getD g.2 0∨y∈A:=by
    obtain ⟨i,hi,rfl⟩:=List.mem_iff_getElem.1 hy
    have hget:(cxA A g.1 g.2)[i]=(cxA A g.1 g.2).getD i 0:=by rw [List.getD_eq_getElem?_getD,List.getElem?_eq_getElem hi]; rfl
    by_cases e:i=g.2
    ·subst e; exact .inl hget
    ·right
     rw [hget,BD,AP (by omega),if_neg e]
     have hi2:i<A.length:=by rw [BD,Be] at hi; exact hi
     rw [List.getD_eq_getElem?_getD,List.getElem?_eq_getElem hi2]
     exact List.getElem_mem _
   rcases this with rfl | hyA
   ·exact Ka hfy
   ·exact FY (s:=(s.1,s.2++[cxg g])) (h y hyA hfy)
theorem J9 {T:List Ab} (A:List Nat):∀ (L:List Nat) (s:List Int×List Aa),(∀ x∈s.1,x∈(L.foldl (fun s q=>plS T q (A.getD q 0) s) s).1)∧∀ q∈L,T.find? (isM (A.getD q 0))≠none→((A.getD q 0:Nat):Int)∈(L.foldl (fun s q=>plS T q (A.getD q 0) s) s).1
 | [],_=>⟨fun _ h=>h,fun _ h=>by cases h⟩
 | q::L,s=>by
  obtain ⟨h1,h2⟩:=J9 (T:=T) A L (plS T q (A.getD q 0) s)
  refine ⟨fun x hx=>h1 x (FY hx),fun y hy hf=>?_⟩
  rcases List.mem_cons.1 hy with rfl | hy
  ·exact h1 _ (Ka hf)
  ·exact h2 y hy hf
theorem Mk {T:List Ab} {n:Nat} {gs:List (Nat×Nat)} (hg:GOk n gs):∀ m∈AZ (idn n) gs,T.find? (isM m)≠none→(m:Int)∈(Ap T n gs).1:=by
 refine Hv gs (idn n) _ hg (Bd n) (fun m hm hf=>?_)
 obtain ⟨i,hi,rfl⟩:=List.mem_iff_getElem.1 hm
 rw [Bd] at hi
 have hget:(idn n)[i]'(by rw [Bd]; exact hi)=(idn n).getD i 0:=by rw [List.getD_eq_getElem?_getD,List.getElem?_eq_getElem (by rw [Bd]; exact hi)]; rfl
 rw [hget] at hf ⊢
 exact (J9 (T:=T) (idn n) (List.range n) ([],[])).2 i (List.mem_range.2 hi) hf
theorem HO {i:Nat}:∀ {T:List Ab},T.Pairwise (fun a b=>a.Mask<b.Mask)→T.filter (fun t=>decide (t.Mask<((i+1:Nat):Int)))=T.filter (fun t=>decide (t.Mask<(i:Int)))++(T.find? (isM i)).toList
 | [],_=>rfl
 | a::T,hp=>by
  rw [List.pairwise_cons] at hp
  have ih:=HO (i:=i) hp.2
  have big:(i:Int)≤a.Mask→T.filter (fun t=>decide (t.Mask<(i:Int)))=[]∧T.filter (fun t=>decide (t.Mask<((i+1:Nat):Int)))=[]:=fun h=>by
   constructor
   ·rw [List.filter_eq_nil_iff]; intro x hx; have:=hp.1 x hx; simp only [decide_eq_true_eq]; omega
   ·rw [List.filter_eq_nil_iff]; intro x hx; have:=hp.1 x hx; simp only [decide_eq_true_eq]; omega
  rw [List.filter_cons,List.filter_cons,List.find?_cons]
  by_cases h1:a.Mask<(i:Int)
  ·rw [if_pos (by simpa using (show a.Mask<((i+1:Nat):Int) by omega)),if_pos (by simpa using h1),show isM i a=false by unfold isM; simp only [beq_eq_false_iff_ne,ne_eq]; omega]
   simp only
   rw [ih]; rfl
  ·by_cases h2:a.Mask=(i:Int)
   ·rw [if_pos (by simpa using (show a.Mask<((i+1:Nat):Int) by omega)),if_neg (by simpa using h1),show isM i a=true by unfold isM; simpa using h2]
    obtain ⟨b1,b2⟩:=big (by omega)
    rw [b1,b2]; rfl
   ·rw [if_neg (by simpa using (show ¬ a.Mask<((i+1:Nat):Int) by omega)),if_neg (by simpa using h1),show isM i a=false by unfold isM; simpa using h2]
    simp only
    rw [ih]
theorem Ps {T:List Ab} {N:Nat} (hT:TOk N T) (hN:N≤32) {S:List Int} (hS:∀ m,m<32→S[m]?=some (cf T m)):tl S 32=T:=by
 have key:∀ i,i≤32→tl S i=T.filter (fun t=>decide (t.Mask<(i:Int))):=fun i=>by
  induction i with
  | zero =>
   intro _
   symm
   rw [show tl S 0=[] from rfl,List.filter_eq_nil_iff]
   intro t ht
   have:=(hT.2 t ht).1.1
   simp only [decide_eq_true_eq]; omega
  | succ i ih =>
   intro hi
   have hs:=hS i (by omega)
   have hg:S.getD i 0=cf T i:=by rw [List.getD_eq_getElem?_getD,hs]; rfl
   rw [HO hT.1,← ih (by omega)]
   have e:tl S (i+1)=tl S i++(if 0<i∧0<S.getD i 0 then [Ab.mk (i:Int) (S.getD i 0)] else []):=rfl
   rw [e,hg]
   unfold cf
   cases hf:T.find? (isM i) with
   | none=>simp
   | some t =>
    have hmem:=List.mem_of_find?_eq_some hf
    have htm:=List.find?_some hf
    have hmask:t.Mask=(i:Int):=by unfold isM at htm; exact beq_iff_eq.1 htm
    obtain ⟨⟨c0,_⟩,c1,c2⟩:=hT.2 t hmem
    obtain ⟨tm,tc⟩:=t
    simp only at hmask c0 c1 c2 ⊢
    subst hmask
    rw [if_pos ⟨by omega,by omega⟩]
    rfl
 rw [key 32 (Nat.le_refl _),List.filter_eq_self]
 intro t ht
 have:=(hT.2 t ht).1.2
 simp only [decide_eq_true_eq]; omega
/-- PhasePolyOf of a placed network. -/
theorem Ia {n:Nat} (hn:1≤n∧n≤5) {T:List Ab} (hT:TOk (2 ^ n) T) {gs:List (Nat×Nat)} (hg:GOk n gs) (hall:∀ t∈T,t.Mask∈(Ap T n gs).1) {k:Nat} (hk:k≤7) (hc:cOk (Ae.mk (n:Int) ((Ap T n gs).2++List.replicate k wG))=true) :
  BA (Ae.mk (n:Int) ((Ap T n gs).2++List.replicate k wG))=some (Ah.mk (n:Int) (k:Int) T (Ad.mk (cI (An (idn n) gs))),true):=by
 have h32:=Ax hn.2
 obtain ⟨S,r1,r2,r3⟩:=NQ hn.2 hT hg
 have hlen:((Ap T n gs).2++List.replicate k wG).length≤400:=by
  unfold cOk at hc
  simp only [Bool.and_eq_true,decide_eq_true_eq] at hc
  exact hc.1.2
 have hw:=Jb (cI (An (idn n) gs)) S k 0 (by omega)
 rw [Nat.zero_add] at hw
 have hpp:=Fr r1 hw
 have hS:∀ m,m<32→S[m]?=some (cf T m):=fun m hm=>by
  rw [r3 m hm]
  congr 1
  cases hf:T.find? (isM m) with
  | none=>unfold cf; rw [hf]; simp
  | some t =>
   have htm:=List.find?_some hf
   have hmask:t.Mask=(m:Int):=by unfold isM at htm; exact beq_iff_eq.1 htm
   rw [if_pos (by rw [← hmask]; exact hall t (List.mem_of_find?_eq_some hf))]
 have hcf:∀ m,0≤cf T m∧cf T m≤7∧(2 ^ n≤m→cf T m=0):=fun m=>by
  unfold cf
  cases hf:T.find? (isM m) with
  | none=>simp
  | some t =>
   have hmem:=List.mem_of_find?_eq_some hf
   have htm:=List.find?_some hf
   have hmask:t.Mask=(m:Int):=by unfold isM at htm; exact beq_iff_eq.1 htm
   obtain ⟨⟨_,c0⟩,c1,c2⟩:=hT.2 t hmem
   simp only
   omega
 have hgd:∀ m,S.getD m 0=if m<32 then cf T m else 0:=fun m=>by
  rw [List.getD_eq_getElem?_getD]
  by_cases hm:m<32
  ·rw [hS m hm,if_pos hm]; rfl
  ·rw [if_neg hm,List.getElem?_eq_none (by rw [r2]; omega)]; rfl
 have htab:AG (2 ^ n) S:=⟨r2,fun m=>by
  rw [hgd]; split
  ·exact ⟨(hcf m).1,(hcf m).2.1⟩
  ·omega,fun m hm=>by
  rw [hgd]; split
  ·exact (hcf m).2.2 hm
  ·rfl⟩
 have hid:=FB ⟨n,by omega⟩
 simp only at hid
 unfold BA
 rw [E4 _ (by simp only; omega),hc]
 simp only [Option.bind_some,Bool.not_true,cond_false]
 rw [hid]
 simp only [Option.bind_some]
 have hloop:=HU (c:=Ae.mk (n:Int) ((Ap T n gs).2++List.replicate k wG)) ((Ap T n gs).2++List.replicate k wG) [] _ _ rfl hpp
 rw [List.length_nil] at hloop
 rw [chk_t (by omega),hloop]
 simp only [Option.bind_some,orR]
 rw [IM htab,Ps hT h32 hS]
 rfl

def AN (g:Aa):Bool:=(g.Kind==7)||(g.Kind==8)
def A0:List Ab→Nat
 | []=>0
 | t::T=>t.Coef.toNat % 2+A0 T
theorem FO:∀ (a b:List Ab),A0 (a++b)=A0 a+A0 b
 | [],b=>by show A0 b=0+A0 b; omega
 | x::a,b=>by show x.Coef.toNat % 2+A0 (a++b)=x.Coef.toNat % 2+A0 a+A0 b; rw [FO a b]; omega
theorem Ib:∀ l:List Ab,A0 l≤l.length
 | []=>Nat.le_refl _
 | t::l=>by have:=Ib l; show t.Coef.toNat % 2+A0 l≤l.length+1; omega
theorem NB:∀ (q:Fin 5) (k:Fin 8),(A4 q.val k.val).countP AN=k.val % 2:=by decide +kernel
theorem PL {q k:Nat} (hq:q<5) (hk:k<8):(A4 q k).countP AN=k % 2:=NB ⟨q,hq⟩ ⟨k,hk⟩
def AX (T:List Ab) (s:List Int×List Aa):Prop:=s.2.countP AN+A0 (lft T s.1)=A0 T
theorem Kc {T:List Ab} {n N:Nat} (hn:n≤5) (hT:TOk N T) {s:List Int×List Aa} (h:AX T s) {q m:Nat} (hq:q<n):AX T (plS T q m s):=by
 unfold plS
 cases hf:T.find? (isM m) with
 | none=>exact h
 | some t =>
  simp only
  by_cases hd:(m:Int)∈s.1
  ·rw [if_pos hd]; exact h
  ·rw [if_neg hd]
   have hmem:=List.mem_of_find?_eq_some hf
   have htm:=List.find?_some hf
   have hmask:t.Mask=(m:Int):=by unfold isM at htm; exact beq_iff_eq.1 htm
   obtain ⟨_,c1,c2⟩:=hT.2 t hmem
   have hL:t∈lft T s.1:=List.mem_filter.2 ⟨hmem,by rw [hmask]; simpa using hd⟩
   obtain ⟨i,hi,hit⟩:=List.mem_iff_getElem.1 hL
   have he:=Gu (T:=lft T s.1) (hT.1.sublist (List.filter_sublist:(lft T s.1).Sublist T)) (i:=i) (t:=t) (by rw [List.getElem?_eq_getElem hi,hit])
   have e2:lft T (s.1++[(m:Int)])=(lft T s.1).filter fun x=>x.Mask != t.Mask:=by
    unfold lft
    rw [List.filter_filter]
    apply List.filter_congr
    intro x _
    rw [hmask,Bool.eq_iff_iff]
    simp only [Bool.and_eq_true,Bool.not_eq_true',decide_eq_false_iff_not,bne_iff_ne,ne_eq,List.mem_append,List.mem_singleton,not_or]
    exact and_comm
   have e3:A0 (lft T s.1)=A0 ((lft T s.1).take i)+(t.Coef.toNat % 2+A0 ((lft T s.1).drop (i+1))):=by
    have:=List.take_append_drop i (lft T s.1)
    rw [List.drop_eq_getElem_cons hi,hit] at this
    conv=>lhs; rw [← this]
    rw [FO]; rfl
   unfold AX at h ⊢
   simp only
   rw [e2,← he,FO,List.countP_append,PL (by omega) (by omega)]
   omega
theorem Jx {T:List Ab} {n N:Nat} (hn:n≤5) (hT:TOk N T) (A:List Nat):∀ (L:List Nat) (s:List Int×List Aa),(∀ q∈L,q<n)→AX T s→AX T (L.foldl (fun s q=>plS T q (A.getD q 0) s) s)
 | [],_,_,h=>h
 | q::L,s,hL,h=>Jx hn hT A L (plS T q (A.getD q 0) s) (fun q hq=>hL q (.tail _ hq)) (Kc hn hT h (hL q (.head _)))
theorem I6 {T:List Ab} {n N:Nat} (hn:n≤5) (hT:TOk N T):∀ (gs:List (Nat×Nat)) (A:List Nat) (s:List Int×List Aa),GOk n gs→AX T s→AX T (By T gs A s)
 | [],_,_,_,h=>h
 | g::r,A,s,hg,h=>by
  have h2:AX T (s.1,s.2++[cxg g]):=by
   unfold AX at h ⊢
   simp only
   rw [List.countP_append,show [cxg g].countP AN=0 from rfl]
   exact h
  exact I6 hn hT r (cxA A g.1 g.2) _ (fun x hx=>hg x (.tail _ hx)) (Kc hn hT h2 (hg g (.head _)).2.1)
theorem MU {T:List Ab} {n N:Nat} (hn:n≤5) (hT:TOk N T) {gs:List (Nat×Nat)} (hg:GOk n gs):AX T (Ap T n gs) :=
 I6 hn hT gs (idn n) _ hg (Jx hn hT (idn n) (List.range n) ([],[]) (fun q hq=>List.mem_range.1 hq) (by
  have:lft T []=T:=by unfold lft; rw [List.filter_eq_self]; intro x _; simp
  unfold AX
  simp only [this]
  exact Nat.zero_add _))
theorem Lq {T:List Ab} {N:Nat} (hT:TOk N T) (hl:T.length≤1000):Ep T=some ((A0 T:Nat):Int):=by
 unfold Ep
 rw [chk_t (by omega)]
 obtain ⟨z,e1,e2⟩:=forN_inv (f:=EJ T) (fun j z=>z=((A0 (T.take j):Nat):Int)) T.length 0 0 rfl (fun j z _ hj hz=>by
  have hx:=List.getElem?_eq_getElem (show j<T.length by omega)
  generalize T[j]=x at hx
  obtain ⟨_,c1,c2⟩:=hT.2 x (List.mem_of_getElem? hx)
  have hle:=Ib (T.take j)
  rw [List.length_take] at hle
  subst hz
  unfold EJ
  rw [getI_nat,hx]
  simp only [Option.bind_some]
  have e:Int.tmod x.Coef 2=((x.Coef.toNat % 2:Nat):Int):=by rw [Int.tmod_eq_emod_of_nonneg (by omega)]; omega
  rw [e,wrap_i64 ⟨by omega,by omega⟩,List.take_add_one,hx,FO]
  exact ⟨_,rfl,by show _=((A0 (T.take j)+(x.Coef.toNat % 2+0):Nat):Int); omega⟩)
 rw [Nat.zero_add,List.take_length] at e2
 rw [e1,e2]; rfl
theorem KG {c:Ae} (hc:cOk c=true):CH c=some ((c.Gates.countP AN:Nat):Int):=by
 have hl:c.Gates.length≤400:=by
  unfold cOk at hc
  simp only [Bool.and_eq_true,decide_eq_true_eq] at hc
  exact hc.1.2
 unfold CH ER EG
 rw [E4 _ (by omega),hc]
 simp only [Option.bind_some,Bool.not_true,cond_false]
 rw [chk_t (by omega)]
 obtain ⟨z,e1,e2⟩:=forN_inv (f:=ET c CO) (fun j z=>z=(((c.Gates.take j).countP AN:Nat):Int)) c.Gates.length 0 0 rfl (fun j z _ hj hz=>by
  have hx:=List.getElem?_eq_getElem (show j<c.Gates.length by omega)
  generalize c.Gates[j]=x at hx
  have hle:=List.countP_le_length (p:=AN) (l:=c.Gates.take j)
  rw [List.length_take] at hle
  subst hz
  unfold ET CO
  rw [getI_nat,hx]
  simp only [Option.bind_some]
  rw [List.take_add_one,hx,List.countP_append]
  rw [show ((x.Kind==7)||(x.Kind==8))=AN x from rfl]
  cases hb:AN x with
  | true =>
   refine ⟨_,rfl,?_⟩
   have:(some x).toList.countP AN=1:=by show [x].countP AN=1; rw [List.countP_singleton,hb]; rfl
   rw [this,wrap_i64 ⟨by omega,by omega⟩]; omega
  | false =>
   have:(some x).toList.countP AN=0:=by show [x].countP AN=0; rw [List.countP_singleton,hb]; rfl
   exact ⟨_,rfl,by rw [this]; omega⟩)
 rw [Nat.zero_add,List.take_length] at e2
 rw [e1,e2]
 rfl
def BF (c:Ae):Bool:=cOk c&&c.Gates.all fun g=>g.Kind==9
theorem Jn {c:Ae} (h:BF c=true):∃ (n:Nat) (gs:List (Nat×Nat)),(1≤n∧n≤5)∧c=Ae.mk (n:Int) (gs.map cxg)∧GOk n gs∧gs.length≤400:=by
 unfold BF at h
 rw [Bool.and_eq_true] at h
 obtain ⟨hc,h9⟩:=h
 unfold cOk at hc
 simp only [Bool.and_eq_true,decide_eq_true_eq] at hc
 obtain ⟨⟨⟨h1,h5⟩,hl⟩,hg⟩:=hc
 obtain ⟨Q,G⟩:=c
 simp only at h1 h5 hl hg h9
 obtain ⟨n,rfl⟩:∃ n:Nat,Q=(n:Int):=⟨Q.toNat,by omega⟩
 have key:∀ (G:List Aa),G.all (gOk (n:Int))=true→(G.all fun g=>g.Kind==9)=true→∃ gs:List (Nat×Nat),G=gs.map cxg∧GOk n gs:=fun G=>by
  induction G with
  | nil=>intro _ _; exact ⟨[],rfl,fun g hg=>by cases hg⟩
  | cons g G ih =>
   intro a b
   rw [List.all_cons,Bool.and_eq_true] at a b
   obtain ⟨gs,e,hgs⟩:=ih a.2 b.2
   have hk:g.Kind=9:=beq_iff_eq.1 b.1
   obtain ⟨K,A,B⟩:=g
   simp only at hk
   subst hk
   rcases Ok a.1 with h | h | h
   ·simp only at h; omega
   ·simp only at h
    refine ⟨(A.toNat,B.toNat)::gs,?_,fun x hx=>?_⟩
    ·rw [List.map_cons,← e]
     unfold cxg
     simp only
     rw [Int.toNat_of_nonneg (by omega),Int.toNat_of_nonneg (by omega)]
    ·rcases List.mem_cons.1 hx with rfl | hx
     ·simp only; omega
     ·exact hgs x hx
   ·simp only at h; omega
 obtain ⟨gs,rfl,hgs⟩:=key G hg h9
 exact ⟨n,gs,by omega,rfl,hgs,by rwa [List.length_map] at hl⟩
theorem Ph {c:Ae} (hl:c.Gates.length≤1000):Ec c=some (BF c):=by
 unfold Ec
 rw [E4 _ (by omega)]
 simp only [Option.bind_some]
 have hf:BJ c.Gates Cg=some (c.Gates.any fun g=>g.Kind != 9):=by
  unfold BJ D5
  rw [chk_t (by omega)]
  rcases forX_any (f:=Dk c.Gates Cg) (l:=c.Gates) (p:=fun g=>g.Kind != 9) (q:=fun i=>(i:Int)) (fun i x hx=>by
   unfold Dk Cg
   simp only [getI_nat,hx,Option.bind_some]
   cases (x.Kind != 9) <;> rfl) with ⟨h1,h2⟩ | ⟨h1,i,_,h2⟩
  ·rw [h2,h1]; rfl
  ·rw [h2,h1]
   simp only [Option.bind_some,orR]
   rw [decide_eq_true (by omega)]
 rw [hf]
 unfold BF
 have e:(!(c.Gates.any fun g=>g.Kind != 9))=c.Gates.all fun g=>g.Kind==9:=by
  rw [List.all_eq_not_any_not]
  rfl
 cases hc:cOk c with
 | true =>
  simp only [gb,cond_true,Option.bind_some,Bool.true_and]
  rw [e]
 | false=>rfl
theorem Jh {c:Ae} (hl:c.Gates.length≤1000):Di c=some (BF c):=by
 unfold Di
 rw [JQ]
 simp only [Option.bind_some]
 have hf:D7 c 9 9=some ((c.Gates.countP (fun g=>g.Kind==9):Nat):Int):=by
  unfold D7
  rw [chk_t (by omega)]
  obtain ⟨z,e1,e2⟩:=forN_inv (f:=Fe c 9 9) (fun j z=>z=(((c.Gates.take j).countP (fun g=>g.Kind==9):Nat):Int)) c.Gates.length 0 0 rfl (fun j z _ hj hz=>by
   have hx:=List.getElem?_eq_getElem (show j<c.Gates.length by omega)
   generalize c.Gates[j]=x at hx
   have hle:=List.countP_le_length (p:=fun g:Aa=>g.Kind==9) (l:=c.Gates.take j)
   rw [List.length_take] at hle
   subst hz
   unfold Fe
   rw [getI_nat,hx,FA]
   simp only [Option.bind_some]
   rw [Bw,List.take_add_one,hx,List.countP_append]
   simp only [Option.bind_some]
   by_cases h9:x.Kind=9
   ·rw [decide_eq_true (show 9≤x.Kind by omega),decide_eq_true (show x.Kind≤9 by omega)]
    refine ⟨_,rfl,?_⟩
    have:(some x).toList.countP (fun g:Aa=>g.Kind==9)=1:=by show [x].countP _=1; rw [List.countP_singleton,show (x.Kind==9)=true by simpa using h9]; rfl
    rw [this,wrap_i64 ⟨by omega,by omega⟩]; omega
   ·have e:(decide (9≤x.Kind)&&decide (x.Kind≤9))=false:=by simp; omega
    rw [e]
    have:(some x).toList.countP (fun g:Aa=>g.Kind==9)=0:=by show [x].countP _=0; rw [List.countP_singleton,show (x.Kind==9)=false by simpa using h9]; rfl
    exact ⟨_,rfl,by rw [this]; omega⟩)
  rw [Nat.zero_add,List.take_length] at e2
  rw [e1,e2]; rfl
 rw [hf]
 unfold BF
 cases hc:cOk c with
 | false=>rfl
 | true =>
  simp only [gb,cond_true,Option.bind_some,Bool.true_and,Option.some.injEq]
  rw [Bool.eq_iff_iff,beq_iff_eq,List.all_eq_true]
  constructor
  ·intro h
   exact List.countP_eq_length.1 (by omega)
  ·intro h
   have:=List.countP_eq_length.2 h
   omega
/-- PlaceRotations on both sides, and what it gives. -/
theorem Mf {c:Ae} {T:List Ab} (hl:c.Gates.length≤400) (hTl:T.length≤1000):∃ r b,Ef c T=some (r,b)∧DG c T=some (r,b)∧r.Gates.length≤400∧(b=true→∃ P,BA r=some (P,true)∧P.Terms=T):=by
 unfold Ef DG
 rw [Ph (by omega),Jh (by omega)]
 simp only [Option.bind_some]
 cases hnet:BF c with
 | false=>exact ⟨_,_,rfl,rfl,by simp,fun h=>by cases h⟩
 | true =>
  obtain ⟨n,gs,hn,rfl,hg,hgl⟩:=Jn hnet
  have h32:=Ax hn.2
  have hid:=FT ⟨n,by omega⟩
  simp only at hid
  simp only [Bool.not_true,Bool.not_false,gb,cond_true]
  rw [hid]
  simp only [Option.bind_some]
  obtain ⟨b,a1,a2⟩:=JH (T:=T) (n:=(n:Int)) (by omega) (by omega)
  obtain ⟨b',p1,p2,_⟩:=Kw (p:=Ah.mk (n:Int) 0 T (Ad.mk (cI (idn n)))) (by simp only; omega) (by simp only [Aj]; rw [Bd]; omega)
  have hlv:=FL (Bd n) hn.1 hn.2 (AB n).2 (Fi n)
  have hbb:b'=b:=by
   unfold AD at p2
   simp only at p2
   rw [Bw,Bw,decide_eq_true (show (1:Int)≤(n:Int) by omega),decide_eq_true (show (n:Int)≤5 by omega)] at p2
   simp only [Bool.and_self,Option.bind_some,gb,cond_true] at p2
   rw [show (decide ((0:Int)≤0)&&decide ((0:Int)≤7))=true from rfl] at p2
   simp only [Option.bind_some,Bool.and_self,cond_true] at p2
   rw [a1,Aj,Bd,show ((n:Int)==(n:Int))=true from beq_self_eq_true _,hlv] at p2
   cases b
   ·simpa using p2.symm
   ·simpa using p2.symm
  subst hbb
  rw [a1,p1]
  simp only [Option.bind_some]
  cases b' with
  | false=>exact ⟨_,_,rfl,rfl,by simp,fun h=>by cases h⟩
  | true =>
   simp only [Bool.not_true,Bool.or_self,cond_false]
   obtain ⟨t1,t2⟩:=a2 rfl
   rw [Int.toNat_natCast] at t1
   have hT:=HW t1 t2
   rw [HV hn hT hTl hg (by omega),Kb hn hT hTl hg (by omega)]
   simp only [Option.bind_some]
   have inv:=JI hn.2 hT hg
   have hTl2:=GE hn.2 hT
   have hlen:(Ap T n gs).2.length≤1000:=by have:=inv.len; have:=inv.sum; omega
   have hcok:cOk (Ae.mk (n:Int) (Ap T n gs).2)=decide ((Ap T n gs).2.length≤400):=by
    by_cases h4:(Ap T n gs).2.length≤400
    ·rw [decide_eq_true h4]; exact GJ hn h4 inv.ok
    ·rw [decide_eq_false h4]; unfold cOk; simp only; rw [decide_eq_false h4]; simp
   rw [Kp hn (by omega),hcok]
   have hsum:=inv.sum
   by_cases hall:(lft T (Ap T n gs).1).length=0
   ·rw [show (((lft T (Ap T n gs).1).length:Int)==0)=true by rw [hall]; rfl,decide_eq_false (show ¬ ((Ap T n gs).1.length:Int)<(T.length:Int) by omega)]
    simp only [Bool.not_true,cond_false,Bool.false_or]
    by_cases h4:(Ap T n gs).2.length≤400
    ·rw [decide_eq_true h4,decide_eq_false (show ¬ (400:Int)<((Ap T n gs).2.length:Int) by omega)]
     simp only [cond_true,cond_false,Option.bind_some]
     refine ⟨_,_,rfl,rfl,h4,fun _=>?_⟩
     have hdone:∀ t∈T,t.Mask∈(Ap T n gs).1:=fun t ht=>by
      refine Classical.byContradiction fun hno=>?_
      have:t∈lft T (Ap T n gs).1:=List.mem_filter.2 ⟨ht,by simpa using hno⟩
      rw [List.length_eq_zero_iff.1 hall] at this
      cases this
     have:=Ia hn hT hg hdone (k:=0) (by omega) (by rw [show List.replicate 0 wG=[] from rfl,List.append_nil,hcok,decide_eq_true h4])
     rw [show List.replicate 0 wG=[] from rfl,List.append_nil] at this
     exact ⟨_,this,rfl⟩
    ·rw [decide_eq_false h4,decide_eq_true (show (400:Int)<((Ap T n gs).2.length:Int) by omega)]
     exact ⟨_,_,rfl,rfl,by simp,fun h=>by cases h⟩
   ·rw [show (((lft T (Ap T n gs).1).length:Int)==0)=false by simp only [beq_eq_false_iff_ne,ne_eq]; omega,decide_eq_true (show ((Ap T n gs).1.length:Int)<(T.length:Int) by omega)]
    exact ⟨_,_,rfl,rfl,by simp,fun h=>by cases h⟩

theorem N6 (n:Nat) (hn:1≤n∧n≤5):Dr (fun c=>D0 c (n:Int)) (fun c=>c.Gates.length≤8) 40:=fun code a s k hb h0 h1 h2=>by
 unfold D0
 simp only
 obtain ⟨v1,a1,s1,e1,p1,q1,r1⟩:=Aq 9 (by omega) code a s k hb h0 h1 (by omega)
 simp only at e1
 rw [e1]; simp only [Option.bind_some]
 have hv1:=CJ p1 (by omega)
 have hs:=Cc (f:=Fa (n:Int) (Ac.mk code a s)) (fun t=>0≤t.2.2.2∧0≤t.1∧t.1+4*t.2.2.2≤((k+2+32:Nat):Int)∧(t.2.2.1.length:Int)+t.2.2.2≤8) (fun t=>0≤t.1∧t.1≤((k+2+32:Nat):Int)∧t.2.2.1.length≤8) (fun _:Ae×Ac=>False) (fun t=>t.2.2.2.toNat) (fun t ht=>by
  obtain ⟨b1,z1,G,k_⟩:=t
  obtain ⟨t1,t2,t3,t4⟩:=ht
  simp only at t1 t2 t3 t4
  unfold Fa
  simp only
  by_cases hk0:0<k_∧1<n
  ·rw [decide_eq_true hk0.1,decide_eq_true (show (1:Int)<(n:Int) by omega)]
   simp only [Bool.and_self,cond_true]
   obtain ⟨v2,a2,s2,e2,p2,q2,r2⟩:=Aq (n:Int) (by omega) code b1 z1 b1.toNat hb t2 (by omega) (by omega)
   simp only at e2
   rw [e2]; simp only [Option.bind_some]
   rw [wrap_i64 (a:=(n:Int)-1) ⟨by omega,by omega⟩]
   obtain ⟨v3,a3,s3,e3,p3,q3,r3⟩:=Aq ((n:Int)-1) (by omega) code a2 s2 (b1.toNat+2) hb q2 r2 (by omega)
   simp only at e3
   rw [e3]; simp only [Option.bind_some]
   rw [chk_t (by omega),chk_t (by omega),wrap_i64 (a:=k_-1) ⟨by omega,by omega⟩]
   exact .inl ⟨_,rfl,⟨by simp only; omega,q3,by simp only; omega,by simp only [List.length_append,List.length_singleton]; omega⟩,by simp only; omega⟩
  ·have e:(decide (0<k_)&&decide ((1:Int)<(n:Int)))=false:=by
    rw [Bool.and_eq_false_iff,decide_eq_false_iff_not,decide_eq_false_iff_not]; omega
   rw [e]
   exact .inr (.inl ⟨_,rfl,t2,by simp only; omega,by simp only; omega⟩)) fuel (a1,s1,[],v1) ⟨by simp only; omega,q1,by simp only; omega,by simp only [List.length_nil]; omega⟩ (AC (by simp only; omega))
 rcases hs with ⟨⟨b1,z1,G,k_⟩,w1,w2,w3,w4⟩ | ⟨r,_,hr⟩
 ·rw [w1]
  simp only at w2 w3 w4
  exact ⟨_,_,_,rfl,w4,w2,by first | omega | (simp only; omega)⟩
 ·exact hr.elim
theorem OQ:Dr DK (fun c=>c.Gates.length≤9) 1100:=fun code a s k hb h0 h1 h2=>by
 unfold DK
 obtain ⟨v1,a1,s1,e1,p1,q1,r1⟩:=G9 10 (by decide) code a s k hb h0 h1 (by omega)
 simp only at e1
 rw [e1]; simp only [Option.bind_some]
 cases v1 with
 | true =>
  simp only [cond_true]
  obtain ⟨c,a2,s2,e2,hp,q2,r2⟩:=Oh code a1 s1 (k+2) hb q1 r1 (by omega)
  rw [e2]
  exact ⟨_,_,_,rfl,hp,q2,by first | omega | (simp only; omega)⟩
 | false =>
  simp only [cond_false]
  obtain ⟨v2,a2,s2,e2,p2,q2,r2⟩:=Aq 5 (by decide) code a1 s1 (k+2) hb q1 r1 (by omega)
  simp only at e2
  rw [e2]; simp only [Option.bind_some]
  obtain ⟨n,hn⟩:∃ n:Nat,1+v2=n:=⟨(1+v2).toNat,by omega⟩
  rw [wr (a:=1+v2) (by omega),hn]
  obtain ⟨c,a3,s3,e3,hp,q3,r3⟩:=N6 n (by omega) code a2 s2 (k+2+2) hb q2 r2 (by omega)
  simp only at e3
  rw [e3]
  exact ⟨_,_,_,rfl,Nat.le_trans hp (by decide),q3,by first | omega | (simp only; omega)⟩
theorem M3 {n:Nat} (hn:1≤n∧n≤5) {gs:List (Nat×Nat)} (hg:GOk n gs) (hgl:gs.length≤400):∃ L:List Nat,De (Ae.mk (n:Int) (gs.map cxg))=some (cI L)∧(∀ x∈L,x<2 ^ n)∧L.length≤405:=by
 have hid:=FT ⟨n,by omega⟩
 simp only at hid
 unfold De
 simp only
 rw [hid]
 simp only [Option.bind_some]
 rw [(GM (l:=cI (idn n)) (by rw [Aj,Bd]; omega)).1]
 simp only [Option.bind_some]
 rw [List.length_map,chk_t (by omega)]
 obtain ⟨t,e1,e2⟩:=forN_inv (f:=F3 (Ae.mk (n:Int) (gs.map cxg))) (fun i t=>∃ A L:List Nat,t=(cI A,cI L)∧NOk n A∧(∀ x∈L,x<2 ^ n)∧L.length≤5+i) gs.length 0 (cI (idn n),cI (idn n)) ⟨idn n,idn n,rfl,AB n,(AB n).2,by rw [Bd]; omega⟩ (fun i t _ hi ⟨A,L,e,hA,hL,hLl⟩=>by
  subst e
  have hx:=List.getElem?_eq_getElem (show i<gs.length by omega)
  generalize gs[i]=g at hx
  obtain ⟨g1,g2,g3⟩:=hg g (List.mem_of_getElem? hx)
  obtain ⟨c1,c2,c3⟩:=EP hA hn.2 g1 g2
  have hA2:NOk n (cxL A g.1 g.2):=Bi hA _ _
  have hcx:=EV (R:=cI A) (a:=(g.1:Int)) (b:=(g.2:Int)) (by rw [Aj,hA.1]; omega) c1 c2
  rw [c3] at hcx
  unfold F3
  simp only
  rw [getI_nat,List.getElem?_map,hx]
  simp only [Option.map_some,Option.bind_some]
  rw [show (cxg g).A=(g.1:Int) from rfl,show (cxg g).B=(g.2:Int) from rfl,hcx]
  simp only [Option.bind_some]
  rw [Ar (AS (l:=cxL A g.1 g.2) (i:=g.2) (by rw [hA2.1]; exact g2))]
  simp only [Option.bind_some]
  have hb:=Bx hA2.2 g.2
  rw [Ie (by rw [Aj]; omega)]
  simp only [Option.bind_some]
  cases decide ((((cxL A g.1 g.2).getD g.2 0:Nat):Int)∈cI L) with
  | true=>exact ⟨_,rfl,cxL A g.1 g.2,L,rfl,hA2,hL,by omega⟩
  | false =>
   simp only [Bool.not_false,cond_true]
   rw [chk_t (by rw [Aj]; omega)]
   refine ⟨_,rfl,cxL A g.1 g.2,L++[(cxL A g.1 g.2).getD g.2 0],by unfold cI; simp,hA2,fun x hx=>?_,by simp; omega⟩
   rcases List.mem_append.1 hx with hx | hx
   ·exact hL x hx
   ·rw [List.mem_singleton] at hx; subst hx; exact hb)
 obtain ⟨A,L,rfl,_,hL,hLl⟩:=e2
 rw [e1]
 exact ⟨L,rfl,hL,by omega⟩
theorem NS {code:List Int} (hb:BOk code):∃ c T,DU code=some (c,T)∧c.Gates.length≤9∧T.length≤33:=by
 unfold DU
 obtain ⟨c,a1,s1,e1,hc,q1,r1⟩:=OQ code 0 0 0 hb (by decide) (by decide) (by decide)
 rw [e1]
 simp only [Option.bind_some]
 rw [Jh (by omega)]
 simp only [Option.bind_some]
 have mid_:∃ (a2 s2:Int) (T:List Ab),(bif BF c then (chk ((0:Int)≤(IntKind.u64.wrap c.Qubits)) <|
   chk ((0:Int)≤(shlK .i64 1 (IntKind.u64.wrap c.Qubits))∧(shlK .i64 1 (IntKind.u64.wrap c.Qubits))≤1099511627776) <|
   (De c).bind fun r_4 =>
   chk (r_4.length≤9223372036854775807) <|
   (forN (DF r_4 code) r_4.length 0 (a1,s1,(List.replicate ((shlK .i64 1 (IntKind.u64.wrap c.Qubits)).toNat) 0))).bind fun (at_1,seed1,by_) =>
   (BT by_).bind fun r_6 =>
   some (at_1,seed1,r_6)) else (some (a1,s1,[])):Option (Int×Int×List Ab))=some (a2,s2,T)∧T.length≤32∧0≤a2∧a2≤((3000:Nat):Int):=by
  cases hnet:BF c with
  | false=>exact ⟨_,_,_,rfl,by simp,q1,by omega⟩
  | true =>
   simp only [cond_true]
   obtain ⟨n,gs,hn,rfl,hg,hgl⟩:=Jn hnet
   have h32:=Ax hn.2
   obtain ⟨z1,z2,z3,z4,z5,z6⟩:=CI (n:=(n:Int)) (by omega)
   rw [Int.toNat_natCast] at z2 z4
   simp only
   rw [chk_t z1,chk_t (show (0:Int)≤(shlK .i64 1 (IntKind.u64.wrap (n:Int)))∧(shlK .i64 1 (IntKind.u64.wrap (n:Int)))≤1099511627776 by rw [z2]; exact ⟨Int.natCast_nonneg _,Int.le_trans (Int.ofNat_le.2 h32) (by decide)⟩),z2,Int.toNat_natCast]
   obtain ⟨L,l1,l2,l3⟩:=M3 hn hg hgl
   rw [l1]
   simp only [Option.bind_some]
   rw [chk_t (by rw [Aj]; omega),Aj]
   obtain ⟨⟨a3,z3,R3⟩,f1,f2,f3,f4⟩:=forN_inv (f:=DF (cI L) code) (fun i t=>t.2.2.length=2 ^ n∧0≤t.1∧t.1≤((1100+2*i:Nat):Int)) L.length 0 (a1,s1,List.replicate (2 ^ n) 0) ⟨by simp,q1,by simp only; omega⟩ (fun i t _ hi ⟨t1,t2,t3⟩=>by
    obtain ⟨c1,c2,c3⟩:=t
    simp only at t1 t2 t3
    have hx:=List.getElem?_eq_getElem (show i<L.length by omega)
    generalize L[i]=x at hx
    have hxl:=l2 x (List.mem_of_getElem? hx)
    unfold DF
    simp only
    rw [Ar hx]
    simp only [Option.bind_some]
    obtain ⟨v3,a3,s3,e3,p3,q3,r3⟩:=Aq 8 (by decide) code c1 c2 (1100+2*i) hb t2 t3 (by omega)
    simp only at e3
    rw [e3]; simp only [Option.bind_some]
    obtain ⟨y,hy,_⟩:=getI_at (l:=c3) (i:=(x:Int)) (by omega) (by omega)
    rw [hy]
    exact ⟨_,rfl,by simp only [List.length_set]; exact t1,q3,by simp only; omega⟩)
   rw [f1]
   simp only at f2 f3 f4
   simp only [Option.bind_some]
   obtain ⟨T,g1,g2,_,_⟩:=IP (by_:=R3) (by omega)
   rw [g1]
   exact ⟨_,_,_,rfl,by omega,f3,by omega⟩
 obtain ⟨a2,s2,T,m1,m2,m3,m4⟩:=mid_
 rw [m1]
 simp only [Option.bind_some]
 obtain ⟨v3,a3,s3,e3,p3,q3,r3⟩:=G9 8 (by decide) code a2 s2 3000 hb m3 m4 (by decide)
 simp only at e3
 rw [e3]; simp only [Option.bind_some]
 cases v3 with
 | false=>exact ⟨_,_,rfl,hc,by omega⟩
 | true =>
  simp only [cond_true]
  obtain ⟨v4,a4,s4,e4,p4,q4,r4⟩:=Aq 33 (by decide) code a3 s3 (3000+2) hb q3 r3 (by decide)
  simp only at e4
  rw [e4]; simp only [Option.bind_some]
  obtain ⟨v5,a5,s5,e5,p5,q5,r5⟩:=Aq 9 (by decide) code a4 s4 (3000+2+2) hb q4 r4 (by decide)
  simp only at e5
  rw [e5]; simp only [Option.bind_some]
  rw [chk_t (by omega)]
  exact ⟨_,_,rfl,hc,by simp; omega⟩

theorem MT {l:List Ab} (h:l.length≤9223372036854775807):Da l l=some true:=by
 unfold Da
 rw [show ((l.length:Int) != (l.length:Int))=false from bne_self_eq_false _]
 simp only [cond_false]
 rw [chk_t h,forX_pass (f:=Fk l l) (n:=l.length) (s:=()) (fun i hi=>by
  unfold Fk
  rw [getI_nat,List.getElem?_eq_getElem hi]
  simp only [Option.bind_some,beq_self_eq_true,Bool.and_self,Bool.not_true,cond_false])]
 rfl
theorem HP {c:Ae} (h:c.Gates.length≤9223372036854775807):Do c c=some true:=by
 unfold Do EM
 rw [beq_self_eq_true,show ((c.Gates.length:Int) != (c.Gates.length:Int))=false from bne_self_eq_false _]
 simp only [gb,cond_true,cond_false]
 rw [chk_t h,forX_pass (f:=Fd c.Gates c.Gates) (n:=c.Gates.length) (s:=()) (fun i hi=>by
  unfold Fd
  rw [getI_nat,List.getElem?_eq_getElem hi]
  simp only [Option.bind_some,beq_self_eq_true,Bool.and_self,Bool.not_true,cond_false])]
 rfl
/-- PhaseNetwork of anything drawn. -/
theorem MG {p:Ah} (h1:p.Terms.length≤1000) (h2:p.Out.Rows.length≤1000):∃ r b,BH p=some (r,b)∧BU p=some (r,b)∧r.Gates.length≤400∧(b=true→BA r=some (p,true)∧CU p p=some (true,true)∧∃ k,DI p=some (k,true)∧CH r=some k):=by
 obtain ⟨b,s0,v0,hv⟩:=Kw (p:=p) (by omega) (by omega)
 cases b with
 | false =>
  refine ⟨Ae.mk 0 [],false,?_,?_,by simp,fun h=>by cases h⟩
  ·unfold BH; rw [v0]; rfl
  ·unfold BU; rw [s0]; rfl
 | true =>
  obtain ⟨n,l,k0⟩:=hv rfl
  have hn:1≤n∧n≤5:=⟨k0.1.1,k0.1.2.1⟩
  obtain ⟨tot,k,hg,hgl,hrows,hseen,hk7,hk,hok,i1,i2⟩:=ND k0 v0 s0
  have hT:=HH k0
  have hTl:=GE hn.2 hT
  have hdone:∀ t∈p.Terms,t.Mask∈(Ap p.Terms n tot).1:=fun t ht=>by
   obtain ⟨⟨c1,_⟩,_⟩:=hT.2 t ht
   have hm:t.Mask=((t.Mask.toNat:Nat):Int):=by omega
   have:=Mk (T:=p.Terms) hg t.Mask.toNat (hseen t ht) (by rw [HE hT.1 ht hm]; simp)
   rw [hm]; exact this
  have hpp:=Ia hn hT hg hdone hk7 hok
  rw [hrows] at hpp
  have hpeq:Ah.mk (n:Int) (k:Int) p.Terms (Ad.mk (cI l))=p:=by
   rw [← hk,← k0.1.2.2,← k0.2.2.1.1]
  rw [hpeq] at hpp
  obtain ⟨b,e1,e2⟩:=LH k0 k0 v0 v0
  have hb:b=true:=e2.2 ⟨rfl,rfl,fun x _=>by rw [Int.sub_self]; rfl⟩
  subst hb
  have hlen:((Ap p.Terms n tot).2++List.replicate k wG).length≤400:=by
   have:=hok
   unfold cOk at this
   simp only [Bool.and_eq_true,decide_eq_true_eq] at this
   exact this.1.2
  refine ⟨_,true,i1,i2,hlen,fun _=>⟨hpp,e1,((A0 p.Terms:Nat):Int),?_,?_⟩⟩
  ·unfold DI
   rw [v0]
   simp only [Option.bind_some,Bool.not_true,cond_false]
   rw [Lq hT (by omega)]; rfl
  ·rw [KG hok]
   have hci:=MU hn.2 hT hg
   have hlft:lft p.Terms (Ap p.Terms n tot).1=[]:=by
    unfold lft
    rw [List.filter_eq_nil_iff]
    intro t ht
    simp [hdone t ht]
   unfold AX at hci
   rw [hlft] at hci
   simp only
   rw [List.countP_append,show (List.replicate k wG).countP AN=0 from by rw [List.countP_replicate]; rfl,Nat.add_zero]
   rw [show A0 []=0 from rfl,Nat.add_zero] at hci
   rw [hci]
theorem law_FnPhaseNetworks (a0 a1:List Int) (o0:a0.length≤9223372036854775807∧∀ y∈a0,U8 y) (o1:a1.length≤9223372036854775807∧∀ y∈a1,U8 y):EO a0 a1=some true:=by
 unfold EO
 cases hbig:decide (1048576<(IntKind.i64.wrap ((a0.length:Int)+(a1.length:Int)))) with
 | true=>rfl
 | false =>
  simp only [cond_false]
  have hd:∃ p,Dd a0=some p∧p.Terms.length≤33∧p.Out.Rows.length≤6:=by
   unfold Dd Fs
   obtain ⟨p,a1,s1,e1,hp,q1,r1⟩:=OF a0 0 0 0 o0 (by decide) (by decide) (by decide)
   rw [e1]
   exact ⟨_,rfl,hp⟩
  obtain ⟨p,hd,hp1,hp2⟩:=hd
  rw [hd]; simp only [Option.bind_some]
  obtain ⟨r,b,i1,i2,hrl,hb⟩:=MG (p:=p) (by omega) (by omega)
  rw [i1,i2]
  simp only [Option.bind_some]
  obtain ⟨c,T,hd2,hc,hT⟩:=NS (code:=a1) o1
  rw [hd2]; simp only [Option.bind_some]
  obtain ⟨r',b',j1,j2,hrl',hb'⟩:=Mf (c:=c) (T:=T) (by omega) (by omega)
  rw [j1,j2]
  simp only [Option.bind_some,beq_self_eq_true,Bool.not_true,Bool.not_false,gb,cond_true]
  rw [HP (by omega)]
  simp only [Option.bind_some,Bool.not_true,Bool.or_self,Bool.not_false,cond_true]
  rw [HP (by omega)]
  simp only [Option.bind_some,Bool.not_true,Bool.or_self,cond_false]
  have hmid:((bif b' then ((BA r').bind fun (r_14,r_15) =>
    (gb (!(!r_15)) false (Da r_14.Terms T)).bind fun r_16 =>
    bif ((!r_15)||(!r_16)) then (some (.inr false)) else (some (.inl ()))) else (some (.inl ()))):Option ((Unit) ⊕ (Bool)))=some (.inl ()):=by
   cases b' with
   | false=>rfl
   | true =>
    obtain ⟨P,e1,e2⟩:=hb' rfl
    simp only [cond_true]
    rw [e1]
    simp only [Option.bind_some,Bool.not_true,Bool.not_false,gb,cond_true]
    rw [e2,MT (by omega)]
    rfl
  simp only [gb] at hmid
  rw [hmid]
  simp only [Option.bind_some,orR]
  cases b with
  | false=>rfl
  | true =>
   obtain ⟨f1,f2,k,f3,f4⟩:=hb rfl
   simp only [Bool.not_true,cond_false]
   rw [f1]
   simp only [Option.bind_some]
   rw [f2]
   simp only [Option.bind_some]
   rw [f3]
   simp only [Option.bind_some,Bool.and_self,cond_true]
   rw [f4]
   simp
end Go.VK
