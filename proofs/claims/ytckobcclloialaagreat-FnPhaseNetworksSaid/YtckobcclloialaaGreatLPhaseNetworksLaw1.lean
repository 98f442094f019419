/- The plain law of FnPhaseNetworks: what its Lean function answers, for all arguments. -/
import Derived.Test.YtckobcclloialaaGreatLPhaseNetworksFn
import Derived.Test.YtckobcclloialaaGreatLibI
set_option maxRecDepth 10000
set_option maxHeartbeats 1000000
set_option linter.unusedSimpArgs false
set_option linter.unusedVariables false
namespace Go.VK
theorem Cc {σ ρ:Type} {f:σ→Option (Ex σ ρ)} (I:σ→Prop) (Q:σ→Prop) (Qr:ρ→Prop) (m:σ→Nat)
  (h:∀ s,I s→(∃ s',f s=some (.nx s')∧I s'∧m s'<m s)∨(∃ s',f s=some (.br s')∧Q s')∨∃ r,f s=some (.rt r)∧Qr r) :
  ∀ (k:Nat) (s:σ),I s→m s<k→(∃ s',whX f k s=some (.inl s')∧Q s')∨∃ r,whX f k s=some (.inr r)∧Qr r
 | 0,_,_,hm=>absurd hm (Nat.not_lt_zero _)
 | k+1,s,hI,hm=>by
  rcases h s hI with ⟨s',h1,h2,h3⟩ | ⟨s',h1,h2⟩ | ⟨r,h1,h2⟩
  ·rcases Cc I Q Qr m h k s' h2 (by omega) with ⟨s'',h4,h5⟩ | ⟨r,h4,h5⟩
   ·exact .inl ⟨s'',by simp only [whX,h1,Option.bind_some]; exact h4,h5⟩
   ·exact .inr ⟨r,by simp only [whX,h1,Option.bind_some]; exact h4,h5⟩
  ·exact .inl ⟨s',by simp only [whX,h1,Option.bind_some],h2⟩
  ·exact .inr ⟨r,by simp only [whX,h1,Option.bind_some],h2⟩
theorem Pc {n:Nat} (h:n<18446744073709551616):n<fuel:=h

theorem wr {a:Int} (h : -9000000000000000000≤a∧a≤9000000000000000000):IntKind.i64.wrap a=a:=wrap_i64 ⟨by omega,by omega⟩
/-- What the specification holds (z, and its flag b') beside the number o (or none): the flag before is b; once it is set, it stays. -/
def SR {α:Type} (G:α→Prop) (o:Option α) (b:Bool) (z:α) (b':Bool):Prop:=G z∧(b=true→b'=true)∧(b=false→(o=some z∧b'=false)∨(o=none∧b'=true))
theorem SR.bind {α β:Type} {G:α→Prop} {G':β→Prop} {o:Option α} {o':α→Option β} {b b' b'':Bool} {z:α} {z':β} (h1:SR G o b z b') (h2:SR G' (o' z) b' z' b''):SR G' (o.bind o') b z' b'':=by
 refine ⟨h2.1,fun h=>h2.2.1 (h1.2.1 h),fun h=>?_⟩
 rcases h1.2.2 h with ⟨rfl,rfl⟩ | ⟨rfl,rfl⟩
 ·exact h2.2.2 rfl
 ·exact .inr ⟨rfl,h2.2.1 rfl⟩
theorem SR.mono {α:Type} {G G':α→Prop} {o:Option α} {b b':Bool} {z:α} (h:SR G o b z b') (hg:G z→G' z):SR G' o b z b':=⟨hg h.1,h.2⟩
theorem SR.map {α β:Type} {G:α→Prop} {G':β→Prop} {o:Option α} {b b':Bool} {z:α} (h:SR G o b z b') (g:α→β) (hg:G z→G' (g z)):SR G' (o.map g) b (g z) b':=by
 refine ⟨hg h.1,h.2.1,fun hb=>?_⟩
 rcases h.2.2 hb with ⟨rfl,h2⟩ | ⟨rfl,h2⟩
 ·exact .inl ⟨rfl,h2⟩
 ·exact .inr ⟨rfl,h2⟩
theorem J7 {α ρ:Type} [DecidableEq α] {f:Nat→Unit→Option (Ex Unit ρ)} {l l':List α} {q:ρ} (hl:l.length=l'.length)
  (hf:∀ i x y,l[i]?=some x→l'[i]?=some y→f i ()=some (bif !decide (x=y) then .rt q else .nx ())):forX f l.length 0 ()=some (if l=l' then .inl () else .inr q):=by
 rcases forX_inv (f:=f) (fun j _=>∀ i,i<j→l[i]?=l'[i]?) (fun r=>r=q∧l≠l') l.length 0 () (fun i hi=>absurd hi (Nat.not_lt_zero _)) (fun j s _ hj hI=>by
  have hj:j<l.length:=by omega
  have h:=hf j _ _ (List.getElem?_eq_getElem hj) (List.getElem?_eq_getElem (show j<l'.length by omega))
  by_cases he:l[j]=l'[j]'(by omega)
  ·rw [decide_eq_true he] at h
   refine .inl ⟨(),h,fun i hi=>?_⟩
   rcases Nat.lt_succ_iff_lt_or_eq.1 hi with h' | rfl
   ·exact hI i h'
   ·rw [List.getElem?_eq_getElem hj,List.getElem?_eq_getElem (show i<l'.length by omega),he]
  ·rw [decide_eq_false he] at h
   exact .inr ⟨q,h,rfl,fun e=>he (by subst e; rfl)⟩) with ⟨⟨⟩,h1,h2⟩ | ⟨r,h1,rfl,h2⟩
 ·rw [h1,if_pos]
  apply List.ext_getElem?
  intro i
  by_cases hi:i<l.length
  ·exact h2 i (by omega)
  ·rw [List.getElem?_eq_none (by omega),List.getElem?_eq_none (by omega)]
 ·rw [h1,if_neg h2]
/-- What a sum is, taken by eight. -/
def m8 (x:Int):Int:=Int.tmod (IntKind.i64.wrap ((Int.tmod x 8)+8)) 8
theorem JE {x:Int} (h : -1000000≤x∧x≤1000000):m8 x=x % 8:=by
 unfold m8
 by_cases h0:0≤x
 ·rw [Int.tmod_eq_emod_of_nonneg h0,wrap_i64 ⟨by omega,by omega⟩,Int.tmod_eq_emod_of_nonneg (by omega)]
  omega
 ·obtain ⟨y,rfl⟩:∃ y,x = -y:=⟨-x,by omega⟩
  rw [Int.neg_tmod,Int.tmod_eq_emod_of_nonneg (show 0≤y by omega),wrap_i64 ⟨by omega,by omega⟩,Int.tmod_eq_emod_of_nonneg (by omega)]
  omega
/-- The two tables of sums say the same: B as it runs, S taken by eight, with a bound. -/
def DH (N:Nat) (z:Int) (B S:List Int):Prop :=
 B.length=N∧S.length=32∧N≤32∧(∀ (j:Nat) (x:Int),B[j]?=some x→-z≤x∧x≤z∧S[j]?=some (x % 8))∧∀ j,N≤j→j<32→S[j]?=some 0
theorem DH.mono {N:Nat} {z z':Int} {B S:List Int} (h:DH N z B S) (hz:z≤z'):DH N z' B S :=
 ⟨h.1,h.2.1,h.2.2.1,fun j x hx=>⟨by have:=(h.2.2.2.1 j x hx).1; omega,Int.le_trans (h.2.2.2.1 j x hx).2.1 hz,(h.2.2.2.1 j x hx).2.2⟩,h.2.2.2.2⟩
theorem DH.add {N:Nat} {z:Int} {B S:List Int} (h:DH N z B S) (hz:z≤100000) {i d:Int} (h0:0≤i) (h1:i<N) (hd : -28≤d∧d≤28) :
  ∃ x,getI B i=some x∧AU S i d=some (S.set i.toNat ((x+d) % 8))∧IntKind.i64.wrap (x+d)=x+d∧DH N (z+28) (B.set i.toNat (IntKind.i64.wrap (x+d))) (S.set i.toNat ((x+d) % 8)):=by
 obtain ⟨hB,hS,hN,hj,ho⟩:=h
 obtain ⟨x,hx,hx'⟩:=getI_at h0 (show i<B.length by omega)
 obtain ⟨x0,xz,xs⟩:=hj _ _ hx'
 have hw:IntKind.i64.wrap (x+d)=x+d:=wrap_i64 ⟨by omega,by omega⟩
 have hs:getI S i=some (x % 8):=by unfold getI; rw [if_pos h0,xs]
 refine ⟨x,hx,?_,hw,by simpa using hB,by simpa using hS,hN,?_,?_⟩
 ·unfold AU
  rw [hs]
  simp only [Option.bind_some]
  rw [wrap_i64 (a:=x % 8+d) ⟨by omega,by omega⟩]
  have:=JE (x:=x % 8+d) ⟨by omega,by omega⟩
  unfold m8 at this
  rw [this,show (x % 8+d) % 8=(x+d) % 8 by omega]
 ·intro j y hy
  rw [List.getElem?_set] at hy ⊢
  by_cases e:i.toNat=j
  ·subst e
   rw [if_pos rfl] at hy ⊢
   rw [if_pos (by omega)] at hy ⊢
   cases hy
   rw [hw]
   exact ⟨by omega,by omega,rfl⟩
  ·rw [if_neg e] at hy ⊢
   have:=hj j y hy
   exact ⟨by omega,by omega,this.2.2⟩
 ·intro j hj1 hj2
  rw [List.getElem?_set,if_neg (by omega)]
  exact ho j hj1 hj2
/-- The exclusive or of two small numbers. -/
theorem E0 {a b:Nat} (ha:a<32) (hb:b<32):bits .xor .i64 (a:Int) (b:Int)=((a ^^^ b:Nat):Int):=by
 have h1:a ^^^ b<2 ^ 5:=Nat.xor_lt_two_pow ha hb
 show IntKind.i64.wrap ((BitVec.ofInt 64 (a:Int) ^^^ BitVec.ofInt 64 (b:Int)).toNat:Int)=_
 have e1:BitVec.ofInt 64 (a:Int)=BitVec.ofNat 64 a:=rfl
 have e2:BitVec.ofInt 64 (b:Int)=BitVec.ofNat 64 b:=rfl
 rw [e1,e2,BitVec.toNat_xor,BitVec.toNat_ofNat,BitVec.toNat_ofNat,Nat.mod_eq_of_lt (by omega),Nat.mod_eq_of_lt (by omega)]
 exact wrap_i64 ⟨by omega,by omega⟩
/-- The rows of a map over n wires, each a number below N. -/
def Ga (n N:Nat) (R:List Int):Prop:=R.length=n∧∀ x∈R,0≤x∧x<N
theorem Ga.set {n N:Nat} {R:List Int} (h:Ga n N R) (i:Nat) {x:Nat} (hx:x<N):Ga n N (R.set i (x:Int)) :=
 ⟨by rw [List.length_set]; exact h.1,fun y hy=>by
  rcases List.mem_or_eq_of_mem_set hy with hy | rfl
  ·exact h.2 y hy
  ·omega⟩
theorem EV {R:List Int} {a b:Int} {x y:Int} (hl:R.length≤32) (hb:getI R b=some x) (ha:getI R a=some y):A9 (Ad.mk R) a b=some (Ad.mk (R.set b.toNat (bits .xor .i64 x y))):=by
 unfold A9 AA
 rw [chk_t (show 0+R.length≤1099511627776 by omega)]
 simp only [Option.bind_some,hb,ha]
/-- The two identities. -/
theorem Pa {n:Int} (hn:1≤n∧n≤5):∃ R,AQ n=some (Ad.mk R)∧Bu n=some (Ad.mk R)∧Ga n.toNat (2 ^ n.toNat) R ∧
  (0:Int)≤IntKind.u64.wrap n∧shlK .i64 1 (IntKind.u64.wrap n)=((2 ^ n.toNat:Nat):Int):=by
 have:n=1∨n=2∨n=3∨n=4∨n=5:=by omega
 rcases this with rfl | rfl | rfl | rfl | rfl
 ·exact ⟨[1],by decide,by decide,⟨by decide,by decide⟩,by decide,by decide⟩
 ·exact ⟨[1,2],by decide,by decide,⟨by decide,by decide⟩,by decide,by decide⟩
 ·exact ⟨[1,2,4],by decide,by decide,⟨by decide,by decide⟩,by decide,by decide⟩
 ·exact ⟨[1,2,4,8],by decide,by decide,⟨by decide,by decide⟩,by decide,by decide⟩
 ·exact ⟨[1,2,4,8,16],by decide,by decide,⟨by decide,by decide⟩,by decide,by decide⟩

theorem AC {n:Nat} (h:n<18446744073709551616):n<fuel:=h
def Sp:List Nat→Nat→Prop
 | [],v=>v=0
 | x::t,v=>Sp t v∨Sp t (v ^^^ x)
theorem xx (a b:Nat):a ^^^ b ^^^ b=a:=by rw [Nat.xor_assoc,Nat.xor_self,Nat.xor_zero]
theorem xr (a b c:Nat):a ^^^ b ^^^ c=a ^^^ c ^^^ b:=by rw [Nat.xor_assoc,Nat.xor_comm b c,← Nat.xor_assoc]
theorem Eu:∀ L,Sp L 0
 | []=>rfl
 | _::t=>.inl (Eu t)
theorem CX:∀ {L:List Nat} {y v:Nat},y∈L→Sp L v→Sp L (v ^^^ y)
 | z::t,y,v,hy,hv=>by
  rcases List.mem_cons.1 hy with rfl | hy
  ·rcases hv with h | h
   ·exact .inr (by rw [xx]; exact h)
   ·exact .inl h
  ·rcases hv with h | h
   ·exact .inl (CX hy h)
   ·exact .inr (by rw [xr]; exact CX hy h)
theorem Cj:∀ {L L':List Nat},(∀ y∈L,y∈L')→∀ {v:Nat},Sp L v→Sp L' v
 | [],L',_,v,h=>by
  have:v=0:=h
  rw [this]; exact Eu L'
 | y::t,L',hs,v,h=>by
  rcases h with h | h
  ·exact Cj (fun z hz=>hs z (List.mem_cons_of_mem _ hz)) h
  ·have:=CX (hs y (List.mem_cons_self ..)) (Cj (fun z hz=>hs z (List.mem_cons_of_mem _ hz)) h)
   rwa [xx] at this
def red (b x y:Nat):Nat:=if y.testBit b then y ^^^ x else y
theorem P8 {b x:Nat} (hx:x.testBit b=true) (y:Nat):(red b x y).testBit b=false:=by
 unfold red
 cases h:y.testBit b with
 | true=>simp [Nat.testBit_xor,h,hx]
 | false=>simp [h]
theorem F8 {b x:Nat} (hx:x.testBit b=true):∀ {L:List Nat} {v:Nat},Sp (L.map (red b x)) v→v.testBit b=false
 | [],v,h=>by
  have:v=0:=h
  rw [this,Nat.zero_testBit]
 | y::t,v,h=>by
  rcases h with h | h
  ·exact F8 hx h
  ·have h1:=F8 hx h
   rw [Nat.testBit_xor,P8 hx y] at h1
   simpa using h1
theorem FJ {b x:Nat}:∀ {L:List Nat} {v:Nat},Sp (L.map (red b x)) v→Sp L v∨Sp L (v ^^^ x)
 | [],v,h=>.inl h
 | y::t,v,h=>by
  rcases h with h | h
  ·rcases FJ h with h | h
   ·exact .inl (.inl h)
   ·exact .inr (.inl h)
  ·unfold red at h
   split at h
   ·rcases FJ h with h | h
    ·exact .inr (.inr (by rw [← Nat.xor_assoc,xr] at h; exact h))
    ·exact .inl (.inr (by rw [← Nat.xor_assoc,xx] at h; exact h))
   ·rcases FJ h with h | h
    ·exact .inl (.inr h)
    ·exact .inr (.inr (by rw [xr]; exact h))
theorem FP {b x:Nat}:∀ {L:List Nat} {v:Nat},Sp L v→Sp (L.map (red b x)) v∨Sp (L.map (red b x)) (v ^^^ x)
 | [],v,h=>.inl h
 | y::t,v,h=>by
  have key:∀ u,(Sp (t.map (red b x)) (u ^^^ red b x y)→Sp ((y::t).map (red b x)) u):=fun u hu=>.inr hu
  rcases h with h | h
  ·rcases FP (b:=b) (x:=x) h with h | h
   ·exact .inl (.inl h)
   ·exact .inr (.inl h)
  ·rcases FP (b:=b) (x:=x) h with h | h
   ·by_cases hb:y.testBit b=true
    ·refine .inr (key _ ?_)
     unfold red; rw [if_pos hb,← Nat.xor_assoc,xr (v ^^^ x),xx]; exact h
    ·refine .inl (key _ ?_)
     unfold red; rw [if_neg hb]; exact h
   ·by_cases hb:y.testBit b=true
    ·refine .inl (key _ ?_)
     unfold red; rw [if_pos hb,← Nat.xor_assoc]; exact h
    ·refine .inr (key _ ?_)
     unfold red; rw [if_neg hb,xr]; exact h
theorem GP {b x:Nat} (hx:x.testBit b=true) {L:List Nat} {v:Nat}:Sp (L.map (red b x)) v↔Sp (x::L) v∧v.testBit b=false:=by
 constructor
 ·intro h; exact ⟨FJ h,F8 hx h⟩
 ·rintro ⟨h,hv⟩
  have no:∀ {u:Nat},u.testBit b=false→¬ Sp (L.map (red b x)) (u ^^^ x):=fun hu h=>by
   have:=F8 hx h
   rw [Nat.testBit_xor,hu,hx] at this
   simp at this
  rcases h with h | h
  ·rcases FP (b:=b) (x:=x) h with h | h
   ·exact h
   ·exact absurd h (no hv)
  ·rcases FP (b:=b) (x:=x) h with h | h
   ·exact absurd h (no hv)
   ·rw [xx] at h; exact h
theorem EW {b:Nat}:∀ {L:List Nat} {v:Nat},(∀ y∈L,y.testBit b=false)→Sp L v→v.testBit b=false
 | [],v,_,h=>by
  have:v=0:=h
  rw [this,Nat.zero_testBit]
 | y::t,v,hn,h=>by
  have hy:=hn y (List.mem_cons_self ..)
  have ht:∀ z∈t,z.testBit b=false:=fun z hz=>hn z (List.mem_cons_of_mem _ hz)
  rcases h with h | h
  ·exact EW ht h
  ·have:=EW ht h
   rw [Nat.testBit_xor,hy] at this
   simpa using this
theorem Du {L:List Nat} {y:Nat} (h:y∈L):Sp L y:=by
 have:=CX h (Eu L)
 rwa [Nat.zero_xor] at this
/-- Small numbers as words. -/
def cI (l:List Nat):List Int:=l.map fun (x:Nat)=>(x:Int)
theorem Aj (l:List Nat):(cI l).length=l.length:=by simp [cI]
theorem Ar {l:List Nat} {i x:Nat} (h:l[i]?=some x):getI (cI l) (i:Int)=some (x:Int):=by
 rw [getI_nat]; simp [cI,h]
theorem DV (l:List Nat) (i x:Nat):(cI l).set i (x:Int)=cI (l.set i x):=by simp [cI]
def sm5 (l:List Nat):Prop:=∀ x∈l,x<32
theorem P2 {a b:Nat} (ha:a<32) (hb:b<32):a ^^^ b<32:=by
 have:a ^^^ b<2 ^ 5:=Nat.xor_lt_two_pow ha hb
 omega
theorem Ll:∀ (x:Fin 32) (b:Fin 10),((bits .and .i64 (shrK .i64 (x.val:Int) (b.val:Int)) 1)==1)=x.val.testBit b.val:=by decide +kernel
theorem tb {x b:Nat} (hx:x<32) (hb:b<10):((bits .and .i64 (shrK .i64 (x:Int) (b:Int)) 1)==1)=x.testBit b:=Ll ⟨x,hx⟩ ⟨b,hb⟩
theorem C1 {a:Nat} (h:a<1000):IntKind.u64.wrap (a:Int)=(a:Int):=by
 simp [IntKind.wrap,IntKind.signed,IntKind.bits]
 omega
theorem GS {b x y:Nat} (hx:x<32) (hy:y<32):red b x y<32:=by
 unfold red
 split
 ·exact P2 hy hx
 ·exact hy
/-- The specification looks for a row. -/
theorem Ko {r1:List Int} {l:List Nat} {b:Nat} (hl:l.length=r1.length) (hs:sm5 l) (hn:l.length≤64) (hb:b<10) :
  ∀ (q m i:Nat),i+m=l.length→m<q→∃ (a:Int) (i':Int),whX (Dc r1 (cI l) b) q (-1,(i:Int))=some (.inl (a,i')) ∧
   ((a = -1∧∀ j y,i≤j→l[j]?=some y→y.testBit b=false)∨∃ (j y:Nat),a=(j:Int)∧i≤j∧l[j]?=some y∧y.testBit b=true)
 | 0,_,_,_,h=>absurd h (Nat.not_lt_zero _)
 | q+1,0,i,hm,_=>by
  refine ⟨-1,i,?_,.inl ⟨rfl,fun j y hj hy=>?_⟩⟩
  ·simp only [whX]
   unfold Dc
   simp only
   rw [decide_eq_false (show ¬ (i:Int)<(r1.length:Int) by omega)]
   rfl
  ·have:=(List.getElem?_eq_some_iff.1 hy).1; omega
 | q+1,m+1,i,hm,hq=>by
  have hi:i<l.length:=by omega
  have hx:=List.getElem?_eq_getElem hi
  have hx32:=hs l[i] (List.getElem_mem hi)
  have hstep:Dc r1 (cI l) b (-1,(i:Int))=some (bif l[i].testBit b then .br ((i:Int),(i:Int)) else .nx (-1,((i+1:Nat):Int))):=by
   unfold Dc
   simp only
   rw [decide_eq_true (show (i:Int)<(r1.length:Int) by omega),Ar hx]
   simp only [cond_true,Option.bind_some]
   rw [C1 (by omega),chk_t (by omega),tb hx32 hb,wrap_i64 (a:=(i:Int)+1) ⟨by omega,by omega⟩]
   cases l[i].testBit b <;> rfl
  cases hb':l[i].testBit b with
  | true =>
   rw [hb'] at hstep
   exact ⟨i,i,by simp only [whX,hstep,cond_true,Option.bind_some],.inr ⟨i,l[i],rfl,Nat.le_refl _,hx,hb'⟩⟩
  | false =>
   rw [hb'] at hstep
   obtain ⟨a,i',h1,h2⟩:=Ko hl hs hn hb q m (i+1) (by omega) (by omega)
   refine ⟨a,i',by simp only [whX,hstep,cond_false,Option.bind_some]; exact h1,?_⟩
   rcases h2 with ⟨h2,h3⟩ | ⟨j,y,h2,h3,h4,h5⟩
   ·refine .inl ⟨h2,fun j y hj hy=>?_⟩
    by_cases hji:j=i
    ·subst hji; rw [hx] at hy; cases hy; exact hb'
    ·exact h3 j y (by omega) hy
   ·exact .inr ⟨j,y,h2,by omega,h4,h5⟩
theorem KT {l:List Nat} {r b x:Nat} (hs:sm5 l) (hx:x<32) (hb:b<10) :
  ∃ l2:List Nat,forN (DP (r:Int) b (x:Int)) l.length 0 (cI l)=some (cI l2)∧l2.length=l.length∧sm5 l2∧l2.drop (r+1)=(l.drop (r+1)).map (red b x):=by
 obtain ⟨s,h1,l2,rfl,h2,h3⟩:=forN_inv (f:=DP (r:Int) b (x:Int)) (fun i s=>∃ l2:List Nat,s=cI l2∧l2.length=l.length∧∀ j y,l[j]?=some y→l2[j]?=some (if j<i∧j≠r then red b x y else y)) l.length 0 (cI l)
  ⟨l,rfl,rfl,fun j y hy=>by rw [if_neg (by omega)]; exact hy⟩ (fun i s _ hi ⟨l2,hs2,h2,h3⟩=>by
   subst hs2
   have hi:i<l.length:=by omega
   have hy:=List.getElem?_eq_getElem hi
   have h2i:=h3 i _ hy
   rw [if_neg (by omega)] at h2i
   have hy32:=hs l[i] (List.getElem_mem hi)
   unfold DP
   by_cases hir:i=r
   ·subst hir
    have e:((i:Int) != (i:Int))=false:=by simp
    rw [e]
    simp only [gb,cond_false,Option.bind_some,Bool.false_and]
    rw [chk_t (fun h=>by cases h)]
    refine ⟨cI l2,rfl,l2,rfl,h2,fun j y hjy=>?_⟩
    rw [h3 j y hjy]
    by_cases hji:j=i
    ·rw [if_neg (by omega),if_neg (by omega)]
    ·by_cases hlt:j<i
     ·rw [if_pos (by omega),if_pos (by omega)]
     ·rw [if_neg (by omega),if_neg (by omega)]
   ·have e:((i:Int) != (r:Int))=true:=by simp; omega
    rw [e]
    simp only [gb,cond_true,Bool.true_and]
    rw [Ar h2i]
    simp only [Option.bind_some]
    rw [C1 (by omega),chk_t (fun _=>by omega),tb hy32 hb]
    cases hbit:l[i].testBit b with
    | false =>
     refine ⟨cI l2,rfl,l2,rfl,h2,fun j y hjy=>?_⟩
     rw [h3 j y hjy]
     by_cases hji:j=i
     ·subst hji
      rw [hy] at hjy; cases hjy
      rw [if_neg (by omega),if_pos (by omega)]
      unfold red; rw [hbit]; simp
     ·by_cases hlt:j<i∧j≠r
      ·rw [if_pos hlt,if_pos (by omega)]
      ·rw [if_neg hlt,if_neg (by omega)]
    | true =>
     simp only [cond_true,Option.bind_some,Int.toNat_natCast]
     rw [E0 hy32 hx,DV]
     refine ⟨_,rfl,_,rfl,by simpa using h2,fun j y hjy=>?_⟩
     rw [List.getElem?_set]
     by_cases hji:i=j
     ·subst hji
      rw [hy] at hjy; cases hjy
      rw [if_pos rfl,if_pos (by omega),if_pos (by omega)]
      unfold red; rw [hbit]; rfl
     ·rw [if_neg hji,h3 j y hjy]
      by_cases hlt:j<i∧j≠r
      ·rw [if_pos hlt,if_pos (by omega)]
      ·rw [if_neg hlt,if_neg (by omega)])
 rw [Nat.zero_add] at h3
 refine ⟨l2,h1,h2,fun y hy=>?_,?_⟩
 ·obtain ⟨j,hj⟩:=List.mem_iff_getElem?.1 hy
  have hjl:j<l.length:=by rw [← h2]; exact (List.getElem?_eq_some_iff.1 hj).1
  have:=h3 j _ (List.getElem?_eq_getElem hjl)
  rw [hj] at this
  cases this
  have h32:=hs l[j] (List.getElem_mem hjl)
  split
  ·exact GS hx h32
  ·exact h32
 ·apply List.ext_getElem?
  intro j
  rw [List.getElem?_drop,List.getElem?_map,List.getElem?_drop]
  by_cases hj:r+1+j<l.length
  ·have hy:=List.getElem?_eq_getElem hj
   rw [h3 _ _ hy,hy,if_pos (by omega)]; rfl
  ·rw [List.getElem?_eq_none (by omega),List.getElem?_eq_none (by omega)]; rfl
theorem Iz {l:List Nat} {b x:Nat} (hs:sm5 l) (hx:x<32) (hb:b<10):forN (D9 b (x:Int)) l.length 0 (cI l)=some (cI (l.map (red b x))):=by
 obtain ⟨s,h1,l2,rfl,h2,h3⟩:=forN_inv (f:=D9 b (x:Int)) (fun i s=>∃ l2:List Nat,s=cI l2∧l2.length=l.length∧∀ j y,l[j]?=some y→l2[j]?=some (if j<i then red b x y else y)) l.length 0 (cI l)
  ⟨l,rfl,rfl,fun j y hy=>by rw [if_neg (by omega)]; exact hy⟩ (fun i s _ hi ⟨l2,hs2,h2,h3⟩=>by
   subst hs2
   have hi:i<l.length:=by omega
   have hy:=List.getElem?_eq_getElem hi
   have h2i:=h3 i _ hy
   rw [if_neg (by omega)] at h2i
   have hy32:=hs l[i] (List.getElem_mem hi)
   unfold D9
   rw [Ar h2i]
   simp only [Option.bind_some]
   rw [chk_t (by omega),tb hy32 hb]
   cases hbit:l[i].testBit b with
   | false =>
    refine ⟨cI l2,rfl,l2,rfl,h2,fun j y hjy=>?_⟩
    rw [h3 j y hjy]
    by_cases hji:j=i
    ·subst hji
     rw [hy] at hjy; cases hjy
     rw [if_neg (by omega),if_pos (by omega)]
     unfold red; rw [hbit]; simp
    ·by_cases hlt:j<i
     ·rw [if_pos hlt,if_pos (by omega)]
     ·rw [if_neg hlt,if_neg (by omega)]
   | true =>
    simp only [cond_true,Option.bind_some,Int.toNat_natCast]
    rw [E0 hy32 hx,DV]
    refine ⟨_,rfl,_,rfl,by simpa using h2,fun j y hjy=>?_⟩
    rw [List.getElem?_set]
    by_cases hji:i=j
    ·subst hji
     rw [hy] at hjy; cases hjy
     rw [if_pos rfl,if_pos (by omega),if_pos (by omega)]
     unfold red; rw [hbit]; rfl
    ·rw [if_neg hji,h3 j y hjy]
     by_cases hlt:j<i
     ·rw [if_pos hlt,if_pos (by omega)]
     ·rw [if_neg hlt,if_neg (by omega)])
 rw [h1]
 congr 2
 apply List.ext_getElem?
 intro j
 rw [List.getElem?_map]
 by_cases hj:j<l.length
 ·have hy:=List.getElem?_eq_getElem hj
  rw [h3 _ _ hy,hy,if_pos (by omega)]; rfl
 ·rw [List.getElem?_eq_none (by omega),List.getElem?_eq_none (by omega)]; rfl
theorem Ke {l:List Nat} {b:Nat} (hs:sm5 l) (hn:l.length≤64) (hb:b<10) :
  ∃ a:Int,BL (cI l) (fun x_0=>BW x_0 (b:Int))=some a∧((a = -1∧∀ y∈l,y.testBit b=false)∨∃ j y:Nat,a=(j:Int)∧l[j]?=some y∧y.testBit b=true):=by
 unfold BL
 rw [chk_t (by rw [Aj]; omega)]
 rcases forX_inv (f:=C0 (cI l) (fun x_0=>BW x_0 (b:Int))) (fun i _=>∀ j y,j<i→l[j]?=some y→y.testBit b=false) (fun r=>∃ j y:Nat,r=(j:Int)∧l[j]?=some y∧y.testBit b=true) (cI l).length 0 () (fun j y hj=>absurd hj (Nat.not_lt_zero _)) (fun i s _ hi hI=>by
  rw [Aj] at hi
  have hi:i<l.length:=by omega
  have hy:=List.getElem?_eq_getElem hi
  have hy32:=hs l[i] (List.getElem_mem hi)
  unfold C0 BW
  rw [Ar hy]
  simp only [Option.bind_some]
  rw [chk_t (by omega),tb hy32 hb]
  simp only [Option.bind_some]
  cases hbit:l[i].testBit b with
  | true=>exact .inr ⟨_,rfl,i,l[i],rfl,hy,hbit⟩
  | false =>
   refine .inl ⟨(),rfl,fun j y hj hjy=>?_⟩
   by_cases hji:j=i
   ·subst hji; rw [hy] at hjy; cases hjy; exact hbit
   ·exact hI j y (by omega) hjy) with ⟨⟨⟩,h1,h2⟩ | ⟨r,h1,j,y,rfl,h3,h4⟩
 ·rw [h1]
  refine ⟨-1,rfl,.inl ⟨rfl,fun y hy=>?_⟩⟩
  obtain ⟨j,hj⟩:=List.mem_iff_getElem?.1 hy
  exact h2 j y (by rw [Aj,Nat.zero_add]; exact (List.getElem?_eq_some_iff.1 hj).1) hj
 ·rw [h1]; exact ⟨_,rfl,.inr ⟨j,y,rfl,h3,h4⟩⟩
/-- The two ranks run beside each other. -/
def Ge (n:Nat) (s t:List Int×Int):Prop:=∃ (l m:List Nat) (r:Nat),s=(cI l,(r:Int))∧t=(cI m,(r:Int))∧l.length=n∧r≤n∧m.length≤n∧sm5 l∧sm5 m∧∀ v,Sp (l.drop r) v↔Sp m v
theorem Pw {n b:Nat} (hn:n≤5) (hb:b<10) {r1:List Int} (hr1:r1.length=n) {s t:List Int×Int} (h:Ge n s t) :
  ∃ s' t',DC r1 b s=some s'∧BM b t=some t'∧Ge n s' t':=by
 obtain ⟨l,m,r,rfl,rfl,hl,hr,hm,sl,smm,hSp⟩:=h
 obtain ⟨a,i',f1,f2⟩:=Ko (r1:=r1) (l:=l) (b:=b) (by omega) sl (by omega) hb fuel (l.length-r) r (by omega) (AC (by omega))
 obtain ⟨a',g1,g2⟩:=Ke (l:=m) (b:=b) smm (by omega) hb
 unfold DC BM
 simp only
 rw [f1,g1]
 simp only [Option.bind_some,orR]
 have hmemd:∀ y,y∈l.drop r↔∃ j,r≤j∧l[j]?=some y:=fun y=>by
  rw [List.mem_iff_getElem?]
  constructor
  ·rintro ⟨j,hj⟩; rw [List.getElem?_drop] at hj; exact ⟨r+j,by omega,hj⟩
  ·rintro ⟨j,hj,h⟩; exact ⟨j-r,by rw [List.getElem?_drop,show r+(j-r)=j by omega]; exact h⟩
 rcases f2 with ⟨rfl,f2⟩ | ⟨p,x,rfl,hp,hpx,hxb⟩
 ·-- none in the specification: none in the program
  have hnone:∀ y∈m,y.testBit b=false:=fun y hy=>EW (L:=l.drop r) (fun z hz=>by obtain ⟨j,h1,h2⟩:=(hmemd z).1 hz; exact f2 j z h1 h2) ((hSp y).2 (Du hy))
  rcases g2 with ⟨rfl,_⟩ | ⟨j,y,rfl,h1,h2⟩
  ·exact ⟨_,_,rfl,rfl,l,m,r,rfl,rfl,hl,hr,hm,sl,smm,hSp⟩
  ·rw [hnone y (List.mem_of_getElem? h1)] at h2; cases h2
 ·rcases g2 with ⟨rfl,g2⟩ | ⟨p',x',rfl,hpx',hxb'⟩
  ·have:=EW g2 ((hSp x).1 (Du ((hmemd x).2 ⟨p,hp,hpx⟩)))
   rw [this] at hxb; cases hxb
  ·have hpl:p<l.length:=(List.getElem?_eq_some_iff.1 hpx).1
   have hrl:r<l.length:=by omega
   have hrx:=List.getElem?_eq_getElem hrl
   have hx32:=sl x (List.mem_of_getElem? hpx)
   have hx32':=smm x' (List.mem_of_getElem? hpx')
   have hr32:=sl l[r] (List.getElem_mem hrl)
   have hpl':p'<m.length:=(List.getElem?_eq_some_iff.1 hpx').1
   rw [decide_eq_false (show ¬ (p:Int)<0 by omega),decide_eq_false (show ¬ (p':Int)<0 by omega)]
   simp only [cond_false]
   rw [Ar hpx,Ar hrx,Ar hpx']
   simp only [Option.bind_some,Int.toNat_natCast]
   rw [DV]
   have hr2:∃ z,(l.set p l[r])[r]?=some z:=⟨_,List.getElem?_eq_getElem (by simpa using hrl)⟩
   obtain ⟨z,hz⟩:=hr2
   rw [Ar hz,DV]
   simp only [Option.bind_some]
   rw [chk_t (by omega)]
   -- the specification's rows
   generalize hl1:(l.set p l[r]).set r x=l1
   have l1len:l1.length=l.length:=by rw [← hl1]; simp
   have l1get:∀ j,l1[j]?=if j=r then (if j<l.length then some x else none) else if j=p then (if j<l.length then some l[r] else none) else l[j]?:=fun j=>by
    rw [← hl1,List.getElem?_set,List.getElem?_set]
    by_cases h1:r=j
    ·subst h1; rw [if_pos rfl,if_pos rfl,List.length_set]
    ·rw [if_neg h1,if_neg (Ne.symm h1)]
     by_cases h2:p=j
     ·subst h2; simp
     ·rw [if_neg h2,if_neg (Ne.symm h2)]
   have sl1:sm5 l1:=fun y hy=>by
    obtain ⟨j,hj⟩:=List.mem_iff_getElem?.1 hy
    rw [l1get] at hj
    split at hj
    ·split at hj
     ·cases hj; exact hx32
     ·cases hj
    ·split at hj
     ·split at hj
      ·cases hj; exact hr32
      ·cases hj
     ·exact sl y (List.mem_of_getElem? hj)
   obtain ⟨l2,e1,e2,e3,e4⟩:=KT (l:=l1) (r:=r) (b:=b) (x:=x) sl1 hx32 hb
   rw [show r1.length=l1.length by omega,e1]
   -- the program's rows
   have hdel:Ce (cI m) (p':Int) (IntKind.i64.wrap ((p':Int)+1))=some (cI (m.take p'++m.drop (p'+1))):=by
    unfold Ce
    rw [wrap_i64 (a:=(p':Int)+1) ⟨by omega,by omega⟩,chk_t (by rw [Aj]; omega)]
    have e:((p':Int)==(p':Int)+1)=false:=beq_eq_false_iff_ne.2 (by omega)
    rw [e]
    simp only [cond_false]
    rw [chk_t (by omega)]
    have e2:((p':Int)+1).toNat=p'+1:=by omega
    rw [Int.toNat_natCast,e2]
    unfold cI
    rw [List.map_append,List.map_take,List.map_drop]
   rw [hdel]
   simp only [Option.bind_some]
   generalize hm1:m.take p'++m.drop (p'+1)=m1
   have hmx:m=m.take p'++x'::m.drop (p'+1):=by
    have:=List.getElem?_eq_some_iff.1 hpx'
    obtain ⟨h1,h2⟩:=this
    rw [← h2,List.getElem_cons_drop,List.take_append_drop]
   have mmem:∀ y,y∈x'::m1↔y∈m:=fun y=>by
    rw [← hm1]
    conv=>rhs; rw [hmx]
    simp only [List.mem_cons,List.mem_append]
    constructor
    ·rintro (h | h | h)
     ·exact .inr (.inl h)
     ·exact .inl h
     ·exact .inr (.inr h)
    ·rintro (h | h | h)
     ·exact .inr (.inl h)
     ·exact .inl h
     ·exact .inr (.inr h)
   have sm1:sm5 m1:=fun y hy=>smm y ((mmem y).1 (List.mem_cons_of_mem _ hy))
   have m1len:m1.length+1=m.length:=by
    have:=congrArg List.length hmx
    rw [← hm1]
    simp at this ⊢
    omega
   rw [Aj,chk_t (by omega),Iz sm1 hx32' hb]
   simp only [Option.bind_some]
   rw [wrap_i64 (a:=(r:Int)+1) ⟨by omega,by omega⟩]
   refine ⟨_,_,rfl,rfl,l2,m1.map (red b x'),r+1,rfl,rfl,by omega,by omega,by simp; omega,e3,fun y hy=>?_,fun v=>?_⟩
   ·obtain ⟨z,hz,rfl⟩:=List.mem_map.1 hy
    exact GS hx32' (sm1 z hz)
   ·rw [e4,GP hxb,GP hxb']
    have k1:∀ u,Sp (x::l1.drop (r+1)) u↔Sp (l.drop r) u:=fun u=>by
     constructor
     ·refine Cj (fun y hy=>?_)
      rcases List.mem_cons.1 hy with rfl | hy
      ·exact (hmemd y).2 ⟨p,hp,hpx⟩
      ·obtain ⟨j,hj⟩:=List.mem_iff_getElem?.1 hy
       rw [List.getElem?_drop,l1get,if_neg (by omega)] at hj
       split at hj
       ·split at hj
        ·cases hj; exact (hmemd _).2 ⟨r,Nat.le_refl _,hrx⟩
        ·cases hj
       ·exact (hmemd y).2 ⟨r+1+j,by omega,hj⟩
     ·refine Cj (fun y hy=>?_)
      obtain ⟨j,hj,hjy⟩:=(hmemd y).1 hy
      have hjl:=(List.getElem?_eq_some_iff.1 hjy).1
      by_cases hjp:j=p
      ·subst hjp; rw [hpx] at hjy; cases hjy; exact List.mem_cons_self ..
      ·by_cases hjr:j=r
       ·subst hjr
        rw [hrx] at hjy; cases hjy
        refine List.mem_cons_of_mem _ (List.mem_iff_getElem?.2 ⟨p-(j+1),?_⟩)
        rw [List.getElem?_drop,l1get,show j+1+(p-(j+1))=p by omega,if_neg (by omega),if_pos rfl,if_pos hpl]
       ·refine List.mem_cons_of_mem _ (List.mem_iff_getElem?.2 ⟨j-(r+1),?_⟩)
        rw [List.getElem?_drop,l1get,show r+1+(j-(r+1))=j by omega,if_neg hjr,if_neg hjp]; exact hjy
    have k2:∀ u,Sp (x'::m1) u↔Sp m u:=fun u=>⟨Cj (fun y hy=>(mmem y).1 hy),Cj (fun y hy=>(mmem y).2 hy)⟩
    rw [k1,k2,hSp]
theorem In {l:List Nat} (hn:l.length≤5) (hs:sm5 l):∃ r:Int,Cv (cI l)=some r∧Cr (cI l)=some r:=by
 have h0:Ge l.length (cI l,0) (cI l,0):=⟨l,l,0,rfl,rfl,rfl,by omega,by omega,hs,hs,fun v=>by rw [List.drop_zero]⟩
 obtain ⟨s,t,h1,h2,h3⟩:=forN2_inv (f:=DC (cI l)) (g:=BM) (fun _ s t=>Ge l.length s t) 10 0 _ _ h0 (fun b s t _ hb h=>Pw hn (by omega) (Aj l) h)
 obtain ⟨l',m',r,rfl,rfl,_⟩:=h3
 refine ⟨r,?_,?_⟩
 ·unfold Cv AA
  rw [chk_t (by rw [Aj]; omega)]
  simp only [Option.bind_some]
  rw [h1]; rfl
 ·unfold Cr AL
  rw [chk_t (by rw [Aj]; omega)]
  simp only [Option.bind_some]
  rw [h2]; rfl

def Bm (m:Nat):List Nat:=(List.range 5).filter fun k=>m.testBit k
theorem MY:∀ m:Fin 32,DB ((m.val:Nat):Int)=some (cI (Bm m.val)):=by decide +kernel
theorem LV {m:Nat} (h:m<32):DB (m:Int)=some (cI (Bm m)):=MY ⟨m,h⟩
theorem LN (m:Nat):(Bm m).length≤5:=Nat.le_trans (List.length_filter_le _ _) (by simp)
def thr (l:List Nat) (m:Nat):Nat:=(List.range 5).foldl (fun x k=>if m.testBit k then x ^^^ l.getD k 0 else x) 0
theorem Gk {f:Nat→Int→Option Int} {g:Nat→Nat→Nat} (P:Nat→Prop):∀ (r:List Nat) (i x:Nat),P x →
  (∀ j y x,r[j]?=some y→P x→f (i+j) (x:Int)=some ((g x y:Nat):Int)∧P (g x y))→forN f r.length i (x:Int)=some ((r.foldl g x:Nat):Int)∧P (r.foldl g x)
 | [],_,_,h,_=>⟨rfl,h⟩
 | y::t,i,x,h,hf=>by
  obtain ⟨h1,h2⟩:=hf 0 y x rfl h
  obtain ⟨h3,h4⟩:=Gk P t (i+1) (g x y) h2 (fun j z w hz hw=>by
   have:=hf (j+1) z w hz hw
   rw [show i+1+j=i+(j+1) by omega]; exact this)
  refine ⟨?_,h4⟩
  show (f i (x:Int)).bind _=_
  rw [show i=i+0 from rfl,h1]
  exact h3
theorem Ax {n:Nat} (h:n≤5):2 ^ n≤32:=by
 have:2 ^ n≤2 ^ 5:=Nat.pow_le_pow_right (by decide) h
 omega
theorem Bx {l:List Nat} {n:Nat} (hs:∀ x∈l,x<2 ^ n) (k:Nat):l.getD k 0<2 ^ n:=by
 rw [List.getD_eq_getElem?_getD]
 cases h:l[k]? with
 | none=>exact Nat.two_pow_pos n
 | some x=>exact hs x (List.mem_of_getElem? h)
theorem Fm {m n k:Nat} (hm:m<2 ^ n) (hk:n≤k):m.testBit k=false :=
 Nat.testBit_lt_two_pow (Nat.lt_of_lt_of_le hm (Nat.pow_le_pow_right (by decide) hk))
theorem Kr {l:List Nat} {n m:Nat} (hl:l.length=n) (hn:n≤5) (hs:∀ x∈l,x<2 ^ n) (hm:m<2 ^ n) :
  forN (Cx (cI (Bm m)) (Ad.mk (cI l))) (cI (Bm m)).length 0 0=some ((thr l m:Nat):Int)∧thr l m<2 ^ n:=by
 have h32:=Ax hn
 obtain ⟨h1,h2⟩:=Gk (f:=Cx (cI (Bm m)) (Ad.mk (cI l))) (g:=fun x k=>x ^^^ l.getD k 0) (fun x=>x<2 ^ n) (Bm m) 0 0 (Nat.two_pow_pos n) (fun j y x hy hx=>by
  have hmem:=List.mem_of_getElem? hy
  have hbit:m.testBit y=true:=(List.mem_filter.1 hmem).2
  have hyn:y<n:=by
   rcases Nat.lt_or_ge y n with h | h
   ·exact h
   ·rw [Fm hm h] at hbit; cases hbit
  have hg:=List.getElem?_eq_getElem (show y<l.length by omega)
  have hgd:l.getD y 0=l[y]'(by omega):=by rw [List.getD_eq_getElem?_getD,hg]; rfl
  have hlt:l[y]'(by omega)<2 ^ n:=hs _ (List.getElem_mem _)
  refine ⟨?_,by rw [hgd]; exact Nat.xor_lt_two_pow hx hlt⟩
  unfold Cx
  rw [Nat.zero_add,Ar hy]
  simp only [Option.bind_some]
  rw [Ar hg]
  simp only [Option.bind_some]
  rw [E0 (by omega) (by omega),hgd])
 have e:(Bm m).foldl (fun x k=>x ^^^ l.getD k 0) 0=thr l m:=by
  unfold Bm thr
  rw [List.foldl_filter]
 rw [e] at h1 h2
 rw [Aj]
 exact ⟨h1,h2⟩
theorem ML {l:List Nat} {n m:Nat} (hl:l.length=n) (hn:n≤5) (hs:∀ x∈l,x<2 ^ n) (hm:m<2 ^ n) :
  Ed (Ad.mk (cI l)) (m:Int)=some ((thr l m:Nat):Int):=by
 have h32:=Ax hn
 unfold Ed
 obtain ⟨h1,h2⟩:=Gk (f:=DL (Ad.mk (cI l)) (m:Int)) (g:=fun x k=>if m.testBit k then x ^^^ l.getD k 0 else x) (fun x=>x<2 ^ n) (List.range n) 0 0 (Nat.two_pow_pos n) (fun j y x hy hx=>by
  have hjy:j<n∧y=j:=by
   have hj:=(List.getElem?_eq_some_iff.1 hy).1
   rw [List.length_range] at hj
   rw [List.getElem?_range hj] at hy
   exact ⟨hj,by cases hy; rfl⟩
  obtain ⟨hj,rfl⟩:=hjy
  have hg:=List.getElem?_eq_getElem (show y<l.length by omega)
  have hgd:l.getD y 0=l[y]'(by omega):=by rw [List.getD_eq_getElem?_getD,hg]; rfl
  have hlt:l[y]'(by omega)<2 ^ n:=hs _ (List.getElem_mem _)
  unfold DL
  rw [Nat.zero_add,Ar hg]
  simp only [Option.bind_some]
  rw [chk_t (by omega),tb (by omega) (by omega)]
  cases hb:m.testBit y with
  | false=>exact ⟨rfl,by simpa using hx⟩
  | true =>
   simp only [cond_true,Option.bind_some,if_true]
   rw [E0 (by omega) (by omega),hgd]
   exact ⟨rfl,Nat.xor_lt_two_pow hx hlt⟩)
 have stop:∀ k,(List.range (n+k)).foldl (fun x k=>if m.testBit k then x ^^^ l.getD k 0 else x) 0=(List.range n).foldl (fun x k=>if m.testBit k then x ^^^ l.getD k 0 else x) 0:=by
  intro k
  induction k with
  | zero=>rfl
  | succ k ih =>
   rw [← Nat.add_assoc,List.range_succ,List.foldl_append,ih]
   simp only [List.foldl_cons,List.foldl_nil]
   rw [Fm hm (show n≤n+k by omega)]
   rfl
 have e:(List.range n).foldl (fun x k=>if m.testBit k then x ^^^ l.getD k 0 else x) 0=thr l m:=by
  rw [← stop (5-n),show n+(5-n)=5 by omega]; rfl
 rw [e,List.length_range] at h1
 rw [chk_t (show (cI l).length≤9223372036854775807 by rw [Aj]; omega)]
 rw [show (Ad.mk (cI l)).Rows.length=n by simp only [Aj]; exact hl]
 rw [show forN (DL (Ad.mk (cI l)) (m:Int)) n 0 0=some ((thr l m:Nat):Int) from h1]
 rfl
theorem OC {l:List Nat} {n m:Nat} (hl:l.length=n) (hn:n≤5) (hs:∀ x∈l,x<2 ^ n) (hm:m<2 ^ n):thr l m<2 ^ n:=(Kr hl hn hs hm).2
theorem FG {ρ:Type} {f:(List Int×Int)→Option (Ex (List Int×Int) ρ)} {L:List Nat} {g:Nat→Nat}
  (hstep:∀ (i y:Nat) (acc:List Int),acc.length=i→L[i]?=some y→f (acc,(i:Int))=some (.nx (acc++[((g y:Nat):Int)],((i+1:Nat):Int))))
  (hend:∀ acc,f (acc,(L.length:Int))=some (.br (acc,(L.length:Int)))) :
  ∀ (q m i:Nat),i+m=L.length→m<q→whX f q (cI ((L.take i).map g),(i:Int))=some (.inl (cI (L.map g),(L.length:Int)))
 | 0,_,_,_,h=>absurd h (Nat.not_lt_zero _)
 | q+1,0,i,hm,_=>by
  have hi:i=L.length:=by omega
  subst hi
  simp only [whX]
  rw [hend]
  simp only [Option.bind_some,List.take_length]
 | q+1,m+1,i,hm,hq=>by
  have hx:=List.getElem?_eq_getElem (show i<L.length by omega)
  generalize L[i]=x at hx
  have ih:=FG hstep hend q m (i+1) (by omega) (by omega)
  simp only [whX]
  rw [hstep i x _ (by rw [Aj,List.length_map,List.length_take]; omega) hx]
  simp only [Option.bind_some]
  rw [← ih]
  congr 3
  rw [List.take_add_one,hx]
  simp [cI]
theorem NX {l l2:List Nat} {n:Nat} (hl:l.length=n) (hn:n≤5) (hs:∀ x∈l,x<2 ^ n) (hl2:l2.length=n) (hs2:∀ x∈l2,x<2 ^ n)
  (v1:AO (Ad.mk (cI l))=some true) (v2:AO (Ad.mk (cI l2))=some true) :
  DO (Ad.mk (cI l)) (Ad.mk (cI l2))=some (Ad.mk (cI (l2.map (thr l))))∧DD (Ad.mk (cI l)) (Ad.mk (cI l2))=some (Ad.mk (cI (l2.map (thr l))),true):=by
 have h32:=Ax hn
 constructor
 ·unfold DO
  have:=FG (f:=E1 (Ad.mk (cI l2)) (Ad.mk (cI l))) (L:=l2) (g:=thr l) (fun i y acc ha hy=>by
   have hi:=(List.getElem?_eq_some_iff.1 hy).1
   have hy2:=hs2 y (List.mem_of_getElem? hy)
   have hsl:=LN y
   unfold E1
   simp only [Aj]
   rw [decide_eq_true (show (i:Int)<(l2.length:Int) by omega),Ar hy]
   simp only [cond_true,Option.bind_some]
   rw [LV (show y<32 by omega)]
   simp only [Option.bind_some]
   rw [chk_t (by rw [Aj]; omega)]
   rw [show forN (Cx (cI (Bm y)) (Ad.mk (cI l))) (cI (Bm y)).length 0 0=some ((thr l y:Nat):Int) from (Kr hl hn hs hy2).1]
   simp only [Option.bind_some]
   rw [chk_t (by omega),wrap_i64 (a:=(i:Int)+1) ⟨by omega,by omega⟩]
   rfl) (fun acc=>by
   unfold E1
   simp only [Aj]
   rw [decide_eq_false (show ¬ (l2.length:Int)<(l2.length:Int) by omega)]
   rfl) fuel l2.length 0 (by omega) (AC (by omega))
  rw [show (([]:List Int),(0:Int))=(cI ((l2.take 0).map (thr l)),((0:Nat):Int)) from rfl,this]
  rfl
 ·unfold DD
  rw [v1,v2]
  simp only [Option.bind_some,gb,Bool.not_true,Bool.not_false,cond_true,Bool.false_or,Aj]
  have e:((l.length:Int) != (l2.length:Int))=false:=by rw [hl,hl2]; exact bne_self_eq_false _
  rw [e]
  simp only [cond_false]
  have:=FG (f:=DN (Ad.mk (cI l2)) (Ad.mk (cI l))) (L:=l2) (g:=thr l) (fun i y acc ha hy=>by
   have hi:=(List.getElem?_eq_some_iff.1 hy).1
   have hy2:=hs2 y (List.mem_of_getElem? hy)
   unfold DN
   simp only [Aj]
   rw [decide_eq_true (show (i:Int)<(l2.length:Int) by omega),Ar hy]
   simp only [cond_true,Option.bind_some]
   rw [ML hl hn hs hy2]
   simp only [Option.bind_some]
   rw [chk_t (by omega),wrap_i64 (a:=(i:Int)+1) ⟨by omega,by omega⟩]
   rfl) (fun acc=>by
   unfold DN
   simp only [Aj]
   rw [decide_eq_false (show ¬ (l2.length:Int)<(l2.length:Int) by omega)]
   rfl) fuel l2.length 0 (by omega) (AC (by omega))
  rw [show (([]:List Int),(0:Int))=(cI ((l2.take 0).map (thr l)),((0:Nat):Int)) from rfl,this]
  rfl

theorem FA:Ay=A2:=rfl
theorem Bw (n a b:Int):A2 n a b=some (decide (a≤n)&&decide (n≤b)):=rfl
theorem bsV {α:Type} {b:Bool} {x y:α}:(bif b then some x else some y)=some (bif b then x else y):=by cases b <;> rfl
theorem CI {n:Int} (h:1≤n∧n≤5):(0:Int)≤IntKind.u64.wrap n∧shlK .i64 1 (IntKind.u64.wrap n)=((2 ^ n.toNat:Nat):Int)∧shlK .i64 1 n=((2 ^ n.toNat:Nat):Int)∧2 ^ n.toNat≤32∧2≤2 ^ n.toNat ∧
  IntKind.i64.wrap (((2 ^ n.toNat:Nat):Int)-1)=((2 ^ n.toNat:Nat):Int)-1:=by
 have:n=1∨n=2∨n=3∨n=4∨n=5:=by omega
 rcases this with rfl | rfl | rfl | rfl | rfl <;> decide
theorem NM {l:List Int} {f:Int→Option Bool} {p:Int→Bool} (hl:l.length≤9223372036854775807) (hf:∀ x,f x=some (p x)) :
  ∃ i,BL l f=some i∧decide (0≤i)=l.any p:=by
 unfold BL
 rw [chk_t hl]
 rcases forX_any (f:=C0 l f) (l:=l) (p:=p) (q:=fun i=>(i:Int)) (fun i x hx=>by
  unfold C0
  simp only [getI_nat,hx,Option.bind_some,hf,bsV]) with ⟨h1,h2⟩ | ⟨h1,i,_,h2⟩
 ·rw [h2,h1]; exact ⟨-1,rfl,by decide⟩
 ·rw [h2,h1]; exact ⟨i,rfl,by simp⟩
theorem GW {l:List Int} {f:Int→Option Bool} {p:Int→Bool} (hl:l.length≤9223372036854775807) (hf:∀ x,f x=some (p x)) :
  CK l f=some (l.any p):=by
 unfold CK
 obtain ⟨i,h1,h2⟩:=NM hl hf
 rw [h1]; simp only [Option.bind_some,h2]
theorem FS {α:Type} {l:List α} {p:α→Bool}:(l.any fun x=>!p x)=!l.all p:=by
 induction l with
 | nil=>rfl
 | cons x l ih=>simp only [List.any_cons,List.all_cons,ih,Bool.not_and]
theorem OZ {l:List Int} (hl:l.length≤9223372036854775807) (a b:Int):Ek l a b=some (l.all fun x=>decide (a≤x)&&decide (x≤b)):=by
 unfold Ek
 rw [chk_t hl]
 rcases forX_any (f:=EZ l a b) (l:=l) (p:=fun x=>!(decide (a≤x)&&decide (x≤b))) (q:=fun _=>false) (fun i x hx=>by
  unfold EZ Ay
  simp only [getI_nat,hx,Option.bind_some,bsV]) with ⟨h1,h2⟩ | ⟨h1,i,_,h2⟩
 ·rw [h2]
  rw [FS] at h1
  simp only [Option.bind_some,orR]
  rw [show (l.all fun x=>decide (a≤x)&&decide (x≤b))=true by simpa using h1]
 ·rw [h2]
  rw [FS] at h1
  simp only [Option.bind_some,orR]
  rw [show (l.all fun x=>decide (a≤x)&&decide (x≤b))=false by simpa using h1]
/-- A list of small numbers is one of words. -/
theorem ID {R:List Int} (h:∀ x∈R,0≤x):R=cI (R.map Int.toNat):=by
 unfold cI
 rw [List.map_map]
 conv=>lhs; rw [← List.map_id R]
 apply List.map_congr_left
 intro x hx
 have:=h x hx
 simp only [id,Function.comp]
 omega
/-- Both say the same of a linear map. -/
theorem H4 {R:List Int} (hl:R.length≤9223372036854775807):∃ b,BE (Ad.mk R)=some b∧AO (Ad.mk R)=some b ∧
  (b=true→∃ l:List Nat,R=cI l∧1≤l.length∧l.length≤5∧(∀ x∈l,x<2 ^ l.length)∧Cv R=some (R.length:Int)):=by
 unfold BE AO
 rw [FA,Bw]
 simp only [Option.bind_some]
 by_cases hn:1≤(R.length:Int)∧(R.length:Int)≤5
 ·obtain ⟨s1,s2,s3,s4,s5,s6⟩:=CI hn
  rw [decide_eq_true hn.1,decide_eq_true hn.2]
  simp only [Bool.and_self,Bool.true_and,gb,cond_true]
  rw [chk_t (fun _=>s1),s2,s6,OZ hl,GW (p:=fun x=>!(decide (0≤x)&&decide (x≤((2 ^ ((R.length:Int)).toNat:Nat):Int)-1))) hl (fun x=>by
   unfold Db
   rw [chk_t (by omega),s3,s6,Bw]; rfl)]
  simp only [Option.bind_some,FS,Bool.not_not]
  cases hall:R.all fun x=>decide (0≤x)&&decide (x≤((2 ^ ((R.length:Int)).toNat:Nat):Int)-1) with
  | false=>exact ⟨false,by simp,by simp,fun h=>by cases h⟩
  | true =>
   have hx:∀ x∈R,0≤x∧x≤((2 ^ ((R.length:Int)).toNat:Nat):Int)-1:=fun x hx=>by
    have:=List.all_eq_true.1 hall x hx
    simpa using this
   have hR:=ID (fun x hx'=>(hx x hx').1)
   have hlen:(R.map Int.toNat).length=R.length:=by simp
   have hsm:∀ x∈R.map Int.toNat,x<2 ^ (R.map Int.toNat).length:=fun x hx'=>by
    obtain ⟨y,hy,rfl⟩:=List.mem_map.1 hx'
    have:=hx y hy
    rw [hlen]
    rw [Int.toNat_natCast] at this
    omega
   obtain ⟨r,r1,r2⟩:=In (l:=R.map Int.toNat) (by omega) (fun x hx'=>by
    have:=hsm x hx'
    rw [hlen] at this
    rw [Int.toNat_natCast] at s4
    omega)
   rw [← hR] at r1 r2
   simp only [cond_true]
   rw [r1,r2]
   simp only [Option.bind_some,Bool.and_self,Bool.true_and]
   refine ⟨_,rfl,rfl,fun hb=>⟨R.map Int.toNat,hR,by omega,by omega,hsm,?_⟩⟩
   have:=eq_of_beq hb
   rw [this]
 ·have e:(decide (1≤(R.length:Int))&&decide ((R.length:Int)≤5))=false:=by
   simp only [Bool.and_eq_false_iff,decide_eq_false_iff_not]; omega
  rw [e]
  simp only [gb,cond_false,Option.bind_some,Bool.false_and]
  rw [chk_t (fun h=>by cases h)]
  exact ⟨false,rfl,rfl,fun h=>by cases h⟩
/-- A phase polynomial that is taken, over n wires. -/
def A8 (p:Ah) (n:Nat) (l:List Nat):Prop :=
 (1≤n∧n≤5∧p.Qubits=(n:Int))∧(0≤p.Phase∧p.Phase≤7)∧(p.Out=Ad.mk (cI l)∧l.length=n∧(∀ x∈l,x<2 ^ n)∧Cv (cI l)=some (n:Int)∧BE p.Out=some true∧AO p.Out=some true) ∧
 (∀ (i:Nat) x,p.Terms[i]?=some x→(1≤x.Mask∧x.Mask<((2 ^ n:Nat):Int)∧1≤x.Coef∧x.Coef≤7))∧(∀ (i:Nat) x y,p.Terms[i]?=some x→p.Terms[i+1]?=some y→x.Mask<y.Mask)
theorem JH {T:List Ab} {n:Int} (hn:1≤n∧n≤5) (hl:T.length≤9223372036854775807):∃ b,Cb n T=some b ∧
  (b=true→(∀ (i:Nat) x,T[i]?=some x→(1≤x.Mask∧x.Mask<((2 ^ n.toNat:Nat):Int)∧1≤x.Coef∧x.Coef≤7))∧(∀ (i:Nat) x y,T[i]?=some x→T[i+1]?=some y→x.Mask<y.Mask)):=by
 obtain ⟨s1,s2,s3,s4,s5,s6⟩:=CI hn
 unfold Cb
 rw [chk_t hl]
 rcases forX_inv (f:=Cn T n) (fun k _=>(∀ (i:Nat) x,i<k→T[i]?=some x→(1≤x.Mask∧x.Mask<((2 ^ n.toNat:Nat):Int)∧1≤x.Coef∧x.Coef≤7))∧(∀ (i:Nat) x y,i+1<k→T[i]?=some x→T[i+1]?=some y→x.Mask<y.Mask)) (fun r=>r=false)
  T.length 0 () ⟨fun i x h=>absurd h (Nat.not_lt_zero _),fun i x y h=>absurd h (Nat.not_lt_zero _)⟩ (fun k s _ hk ⟨h1,h2⟩=>by
  have hk:k<T.length:=by omega
  have hx:=List.getElem?_eq_getElem hk
  generalize T[k]=x at hx
  unfold Cn
  rw [getI_nat,hx]
  simp only [Option.bind_some]
  rw [chk_t (by omega),s3,s6,Bw,Bw]
  simp only [Option.bind_some]
  by_cases hok:(1≤x.Mask∧x.Mask≤((2 ^ n.toNat:Nat):Int)-1)∧1≤x.Coef∧x.Coef≤7
  ·rw [decide_eq_true hok.1.1,decide_eq_true hok.1.2,decide_eq_true hok.2.1,decide_eq_true hok.2.2]
   simp only [Bool.and_self,Bool.not_true,Bool.not_false,Bool.or_self,gb,cond_true,Option.bind_some,Bool.true_and,Bool.false_or]
   have here:∀ (i:Nat) z,i<k+1→T[i]?=some z→(1≤z.Mask∧z.Mask<((2 ^ n.toNat:Nat):Int)∧1≤z.Coef∧z.Coef≤7):=fun i z hi hz=>by
    by_cases hik:i=k
    ·subst hik; rw [hx] at hz; cases hz; exact ⟨hok.1.1,by omega,hok.2.1,hok.2.2⟩
    ·exact h1 i z (by omega) hz
   by_cases hk0:k=0
   ·subst hk0
    rw [decide_eq_false (show ¬ (0:Int)<((0:Nat):Int) by omega)]
    simp only [cond_false,Option.bind_some,Bool.false_and]
    exact .inl ⟨(),by first | rfl | trivial,here,fun i a b hi=>by omega⟩
   ·rw [decide_eq_true (show (0:Int)<(k:Int) by omega),wrap_i64 (a:=(k:Int)-1) ⟨by omega,by omega⟩]
    obtain ⟨j,rfl⟩:∃ j,k=j+1:=⟨k-1,by omega⟩
    rw [show (((j+1:Nat):Int)-1)=((j:Nat):Int) by omega,getI_nat]
    have hy:=List.getElem?_eq_getElem (show j<T.length by omega)
    generalize T[j]=y at hy
    rw [hy]
    simp only [cond_true,Option.bind_some,Bool.true_and]
    by_cases hlt:x.Mask≤y.Mask
    ·rw [decide_eq_true hlt]; exact .inr ⟨false,rfl,rfl⟩
    ·rw [decide_eq_false hlt]
     refine .inl ⟨(),rfl,here,fun i a b hi ha hb=>?_⟩
     by_cases hij:i=j
     ·subst hij; rw [hy] at ha; rw [hx] at hb; cases ha; cases hb; omega
     ·exact h2 i a b (by omega) ha hb
  ·refine .inr ⟨false,?_,rfl⟩
   have e:((!(decide (1≤x.Mask)&&decide (x.Mask≤((2 ^ n.toNat:Nat):Int)-1)))||!(decide (1≤x.Coef)&&decide (x.Coef≤7)))=true:=by
    simp only [Bool.or_eq_true,Bool.not_eq_true',Bool.and_eq_false_iff,decide_eq_false_iff_not]
    omega
   cases hA:decide (1≤x.Mask)&&decide (x.Mask≤((2 ^ n.toNat:Nat):Int)-1) with
   | false=>simp [gb]
   | true =>
    rw [hA] at e
    simp only [Bool.not_true,Bool.false_or,Bool.not_eq_true'] at e
    simp [gb,e]) with ⟨⟨⟩,h1,h2,h3⟩ | ⟨r,h1,rfl⟩
 ·rw [h1]
  exact ⟨true,rfl,fun _=>⟨fun i x hx=>h2 i x (by have:=(List.getElem?_eq_some_iff.1 hx).1; omega) hx,fun i x y hx hy=>h3 i x y (by have:=(List.getElem?_eq_some_iff.1 hy).1; omega) hx hy⟩⟩
 ·rw [h1]; exact ⟨false,rfl,fun h=>by cases h⟩
theorem Px {p:Ah} (hn:1≤p.Qubits∧p.Qubits≤5):Fg p=Cn p.Terms p.Qubits:=by
 obtain ⟨s1,s2,s3,s4,s5,s6⟩:=CI hn
 funext i u
 unfold Fg Cn
 rw [FA,s2,s3]
 cases getI p.Terms (i:Int) with
 | none=>rfl
 | some x =>
  simp only [Option.bind_some]
  rw [chk_t s1,chk_t (by omega)]
/-- Both say the same of a phase polynomial. -/
theorem Kw {p:Ah} (h1:p.Terms.length≤9223372036854775807) (h2:p.Out.Rows.length≤9223372036854775807) :
  ∃ b,BB p=some b∧AD p=some b∧(b=true→∃ n l,A8 p n l):=by
 obtain ⟨Q,P,T,⟨R⟩⟩:=p
 obtain ⟨b1,e1,e2,e3⟩:=H4 h2
 unfold BB AD
 rw [FA,Bw,Bw]
 simp only [Option.bind_some]
 by_cases hn:1≤Q∧Q≤5
 ·obtain ⟨b2,f1,f2⟩:=JH (T:=T) hn h1
  rw [decide_eq_true hn.1,decide_eq_true hn.2]
  rw [Px (p:=Ah.mk Q P T (Ad.mk R)) hn]
  have hspec:(chk (T.length≤9223372036854775807)<|(forX (Cn T Q) T.length 0 ()).bind<|orR fun _=>some true)=some b2:=f1
  simp only [gb,Bool.and_self,Bool.not_true,Bool.not_false,cond_true,Option.bind_some,Bool.false_or,Bool.true_and]
  cases hP:decide (0≤P)&&decide (P≤7) with
  | false =>
   simp only [cond_false,cond_true,Bool.not_false,Bool.not_true,Bool.true_or,Option.bind_some,Bool.false_and]
   exact ⟨false,rfl,rfl,fun h=>by cases h⟩
  | true =>
   simp only [cond_true,Bool.not_true,Bool.false_or,Option.bind_some,Bool.true_and]
   rw [f1]
   simp only [Option.bind_some]
   by_cases hlen:(R.length:Int)=Q
   ·have g1:((R.length:Int) != Q)=false:=by simp [hlen]
    have g2:((R.length:Int)==Q)=true:=by simp [hlen]
    rw [g1,g2]
    simp only [Bool.not_false,cond_true,Bool.false_or,Bool.and_true]
    rw [e1]
    simp only [Option.bind_some]
    cases b1 with
    | false =>
     simp only [Bool.not_false,cond_true]
     cases b2 with
     | false=>simp only [cond_false,Option.bind_some,Bool.false_and]; exact ⟨false,rfl,rfl,fun h=>by cases h⟩
     | true=>simp only [cond_true]; rw [e2]; exact ⟨false,rfl,rfl,fun h=>by cases h⟩
    | true =>
     simp only [Bool.not_true,cond_false]
     rw [hspec]
     cases b2 with
     | false=>simp only [cond_false,Option.bind_some,Bool.false_and]; exact ⟨false,rfl,rfl,fun h=>by cases h⟩
     | true =>
      simp only [cond_true]
      rw [e2]
      refine ⟨true,rfl,rfl,fun _=>?_⟩
      obtain ⟨l,l1,l2,l3,l4,l5⟩:=e3 rfl
      obtain ⟨t1,t2⟩:=f2 rfl
      have hll:l.length=R.length:=by have:=congrArg List.length l1; rw [Aj] at this; exact this.symm
      have hP':0≤P∧P≤7:=by simpa using hP
      refine ⟨l.length,l,⟨l2,l3,by simp only; omega⟩,hP',⟨congrArg Ad.mk l1,rfl,l4,?_,e1,e2⟩,?_,t2⟩
      ·rw [← l1,hll]; exact l5
      ·rw [show l.length=Q.toNat by omega]; exact t1
   ·have g1:((R.length:Int) != Q)=true:=by simp [hlen]
    have g2:((R.length:Int)==Q)=false:=by simp [hlen]
    rw [g1,g2]
    simp only [Bool.not_true,cond_false,cond_true,Bool.true_or,Bool.and_false,Option.bind_some,Bool.false_and]
    exact ⟨false,rfl,rfl,fun h=>by cases h⟩
 ·have e:(decide (1≤Q)&&decide (Q≤5))=false:=by
   simp only [Bool.and_eq_false_iff,decide_eq_false_iff_not]; omega
  rw [e]
  simp only [gb,cond_false,cond_true,Option.bind_some,Bool.false_and,Bool.not_false,Bool.not_true,Bool.true_or]
  exact ⟨false,rfl,rfl,fun h=>by cases h⟩

theorem IA {p:Ah} {n:Nat} {l:List Nat} (h:A8 p n l):∀ (i:Nat) x,p.Terms[i]?=some x→(i:Int)+1≤x.Mask
 | 0,x,hx=>by have:=(h.2.2.2.1 0 x hx).1; omega
 | i+1,x,hx=>by
  have hl:=(List.getElem?_eq_some_iff.1 hx).1
  have hz:=List.getElem?_eq_getElem (show i<p.Terms.length by omega)
  have h1:=IA h i _ hz
  have h2:=h.2.2.2.2 i _ x hz hx
  omega
theorem OS {p:Ah} {n:Nat} {l:List Nat} (h:A8 p n l):p.Terms.length≤31:=by
 rcases Nat.lt_or_ge 31 p.Terms.length with hl | hl
 ·have hz:=List.getElem?_eq_getElem hl
  have h1:=IA h 31 _ hz
  have h2:=(h.2.2.2.1 31 _ hz).2.1
  have h3:=Ax h.1.2.1
  omega
 ·exact hl
theorem Nm {p:Ah} {n:Nat} {l:List Nat} (h:A8 p n l) {i:Nat} {x:Ab} (hx:p.Terms[i]?=some x):∃ m:Nat,x.Mask=(m:Int)∧1≤m∧m<2 ^ n:=by
 have:=h.2.2.2.1 i x hx
 exact ⟨x.Mask.toNat,by omega,by omega,by omega⟩
theorem BY {a:Nat} (h:a<18446744073709551616):IntKind.u64.wrap (a:Int)=(a:Int):=by
 simp [IntKind.wrap,IntKind.signed,IntKind.bits]
 omega
theorem CM (x k:Nat) (hk:k≤64):shrK .u64 (x:Int) (k:Int)=((x / 2 ^ k:Nat):Int):=by
 unfold shrK
 rw [Int.toNat_natCast,Nat.min_eq_left (show k≤IntKind.bits .u64 from hk),Int.ofNat_fdiv]
 simp
theorem Ey {a b:Nat} (ha:a<18446744073709551616) (hb:b<18446744073709551616):bits .and .u64 (a:Int) (b:Int)=((a &&& b:Nat):Int):=by
 have h1:a &&& b≤a:=Nat.and_le_left
 show IntKind.u64.wrap ((BitVec.ofInt 64 (a:Int) &&& BitVec.ofInt 64 (b:Int)).toNat:Int)=_
 have e1:BitVec.ofInt 64 (a:Int)=BitVec.ofNat 64 a:=rfl
 have e2:BitVec.ofInt 64 (b:Int)=BitVec.ofNat 64 b:=rfl
 rw [e1,e2,BitVec.toNat_and,BitVec.toNat_ofNat,BitVec.toNat_ofNat,Nat.mod_eq_of_lt (by omega),Nat.mod_eq_of_lt (by omega)]
 exact BY (by omega)
theorem II {a b:Nat} (ha:a<9223372036854775808) (hb:b<9223372036854775808):bits .and .i64 (a:Int) (b:Int)=((a &&& b:Nat):Int):=by
 have h1:a &&& b≤a:=Nat.and_le_left
 show IntKind.i64.wrap ((BitVec.ofInt 64 (a:Int) &&& BitVec.ofInt 64 (b:Int)).toNat:Int)=_
 have e1:BitVec.ofInt 64 (a:Int)=BitVec.ofNat 64 a:=rfl
 have e2:BitVec.ofInt 64 (b:Int)=BitVec.ofNat 64 b:=rfl
 rw [e1,e2,BitVec.toNat_and,BitVec.toNat_ofNat,BitVec.toNat_ofNat,Nat.mod_eq_of_lt (by omega),Nat.mod_eq_of_lt (by omega)]
 exact wrap_i64 ⟨by omega,by omega⟩
theorem Ca (k:Nat) {d c:Nat} (y M:Nat) (hd:d<2 ^ k) (hc:c<2 ^ k):(d+2 ^ k*y) &&& (c+2 ^ k*M)=(d &&& c)+2 ^ k*(y &&& M):=by
 have hdc:d &&& c<2 ^ k:=Nat.and_lt_two_pow d hc
 apply Nat.eq_of_testBit_eq
 intro j
 rw [Nat.add_comm d,Nat.add_comm c,Nat.add_comm (d &&& c),Nat.testBit_and,Nat.testBit_two_pow_mul_add _ hd,Nat.testBit_two_pow_mul_add _ hc,Nat.testBit_two_pow_mul_add _ hdc]
 by_cases h:j<k
 ·rw [if_pos h,if_pos h,if_pos h,Nat.testBit_and]
 ·rw [if_neg h,if_neg h,if_neg h,Nat.testBit_and]
def val:List Nat→Nat
 | []=>0
 | d::t=>d+16*val t
def A5 (c:Nat):Nat→Nat
 | 0=>0
 | n+1=>c+16*A5 c n
def a4 (d:Nat):Nat:=(d / 2 &&& 5)+(d &&& 5)
def b4 (d:Nat):Nat:=(d / 4 &&& 3)+(d &&& 3)
def c4 (d:Nat):Nat:=b4 (a4 d)
theorem A7:∀ d:Fin 16,a4 d.val<16∧c4 d.val≤4∧∀ e:Fin 2,(d.val / 2+8*e.val) &&& 5=d.val / 2 &&& 5:=by decide
theorem PH:∀ d:Fin 16,∀ e:Fin 4,(d.val / 4+4*e.val) &&& 3=d.val / 4 &&& 3:=by decide
theorem stA:∀ (ds:List Nat) (n:Nat),ds.length≤n→(∀ d∈ds,d<16)→(val ds / 2 &&& A5 5 n)+(val ds &&& A5 5 n)=val (ds.map a4)
 | [],n,_,_=>by simp [val]
 | d::t,0,h,_=>absurd h (by simp)
 | d::t,n+1,h,hd=>by
  have hd16:=hd d (List.mem_cons_self ..)
  have ih:=stA t n (by simpa using h) (fun x hx=>hd x (List.mem_cons_of_mem _ hx))
  have e1:(d+16*val t) / 2=(d / 2+8*(val t % 2))+2 ^ 4*(val t / 2):=by omega
  have e2:=(A7 ⟨d,hd16⟩).2.2 ⟨val t % 2,Nat.mod_lt _ (by decide)⟩
  simp only at e2
  have e3:=Ca 4 (d:=d / 2+8*(val t % 2)) (c:=5) (val t / 2) (A5 5 n) (by omega) (by decide)
  have e4:=Ca 4 (d:=d) (c:=5) (val t) (A5 5 n) (by omega) (by decide)
  show ((d+16*val t) / 2 &&& (5+16*A5 5 n))+((d+16*val t) &&& (5+16*A5 5 n))=a4 d+16*val (t.map a4)
  rw [e1,show (5+16*A5 5 n)=5+2 ^ 4*A5 5 n from rfl,e3,show d+16*val t=d+2 ^ 4*val t from rfl,e4,e2,← ih]
  unfold a4
  omega
theorem stB:∀ (ds:List Nat) (n:Nat),ds.length≤n→(∀ d∈ds,d<16)→(val ds / 4 &&& A5 3 n)+(val ds &&& A5 3 n)=val (ds.map b4)
 | [],n,_,_=>by simp [val]
 | d::t,0,h,_=>absurd h (by simp)
 | d::t,n+1,h,hd=>by
  have hd16:=hd d (List.mem_cons_self ..)
  have ih:=stB t n (by simpa using h) (fun x hx=>hd x (List.mem_cons_of_mem _ hx))
  have e1:(d+16*val t) / 4=(d / 4+4*(val t % 4))+2 ^ 4*(val t / 4):=by omega
  have e2:=PH ⟨d,hd16⟩ ⟨val t % 4,Nat.mod_lt _ (by decide)⟩
  simp only at e2
  have e3:=Ca 4 (d:=d / 4+4*(val t % 4)) (c:=3) (val t / 4) (A5 3 n) (by omega) (by decide)
  have e4:=Ca 4 (d:=d) (c:=3) (val t) (A5 3 n) (by omega) (by decide)
  show ((d+16*val t) / 4 &&& (3+16*A5 3 n))+((d+16*val t) &&& (3+16*A5 3 n))=b4 d+16*val (t.map b4)
  rw [e1,show (3+16*A5 3 n)=3+2 ^ 4*A5 3 n from rfl,e3,show d+16*val t=d+2 ^ 4*val t from rfl,e4,e2,← ih]
  unfold b4
  omega
theorem Gi {p q:Nat} (h:p<16):(p+16*q) &&& 15=p:=by
 rw [show (15:Nat)=2 ^ 4-1 from rfl,Nat.and_two_pow_sub_one_eq_mod]
 omega
def pA (x:Int):Int:=IntKind.u64.wrap (bits .and .u64 (shrK .u64 x 1) 6148914691236517205+bits .and .u64 x 6148914691236517205)
def pB (x:Int):Int:=IntKind.u64.wrap (bits .and .u64 (shrK .u64 x 2) 3689348814741910323+bits .and .u64 x 3689348814741910323)
def pC (x:Int):Int:=bits .and .u64 (IntKind.u64.wrap (shrK .u64 x 4+x)) 1085102592571150095
def pD (x:Int):Int:=IntKind.u64.wrap (x+shrK .u64 x 8)
def pE (x:Int):Int:=IntKind.u64.wrap (x+shrK .u64 x 16)
def pF (x:Int):Int:=IntKind.u64.wrap (x+shrK .u64 x 32)
def pG (x:Int):Int:=bits .and .i64 (IntKind.i64.wrap x) 127
theorem LW (x:Int):CL x=some (pG (pF (pE (pD (pC (pB (pA x))))))):=rfl
theorem Gq {d0 d1 d2 d3 d4 d5 d6 d7:Nat} (h0:d0<16) (h1:d1<16) (h2:d2<16) (h3:d3<16) (h4:d4<16) (h5:d5<16) (h6:d6<16) (h7:d7<16):val [d0,d1,d2,d3,d4,d5,d6,d7]<4294967296:=by
 simp only [val]; omega
theorem Pe {x A:Nat} (hx:x<4294967296) (hA:A<4294967296) (h:(x / 2 &&& 6148914691236517205)+(x &&& 6148914691236517205)=A):pA (x:Int)=(A:Int):=by
 unfold pA
 have h2:x / 2<18446744073709551616:=by omega
 have h1:x<18446744073709551616:=by omega
 rw [show (1:Int)=((1:Nat):Int) from rfl,CM x 1 (by decide),show (6148914691236517205:Int)=((6148914691236517205:Nat):Int) from rfl,show x / 2 ^ 1=x / 2 from rfl,Ey h2 (by decide),Ey h1 (by decide),← Int.natCast_add,h]
 exact BY (by omega)
theorem Lh {x A:Nat} (hx:x<4294967296) (hA:A<4294967296) (h:(x / 4 &&& 3689348814741910323)+(x &&& 3689348814741910323)=A):pB (x:Int)=(A:Int):=by
 unfold pB
 have h2:x / 4<18446744073709551616:=by omega
 have h1:x<18446744073709551616:=by omega
 rw [show (2:Int)=((2:Nat):Int) from rfl,CM x 2 (by decide),show (3689348814741910323:Int)=((3689348814741910323:Nat):Int) from rfl,show x / 2 ^ 2=x / 4 from rfl,Ey h2 (by decide),Ey h1 (by decide),← Int.natCast_add,h]
 exact BY (by omega)
theorem Pp {p0 p1 p2 p3 p4 p5 p6 p7 B:Nat} (n0:p0≤4) (n1:p1≤4) (n2:p2≤4) (n3:p3≤4) (n4:p4≤4) (n5:p5≤4) (n6:p6≤4) (n7:p7≤4) (hB:B=p0+16*(p1+16*(p2+16*(p3+16*(p4+16*(p5+16*(p6+16*p7))))))) :
  (B / 16+B) &&& 1085102592571150095=(p0+p1)+256*((p2+p3)+256*((p4+p5)+256*(p6+p7))):=by
 have e:B / 16+B=((p0+p1)+16*(p1+p2))+2 ^ 8*(((p2+p3)+16*(p3+p4))+2 ^ 8*(((p4+p5)+16*(p5+p6))+2 ^ 8*(((p6+p7)+16*p7)+2 ^ 8*0))):=by
  have:B / 16=p1+16*(p2+16*(p3+16*(p4+16*(p5+16*(p6+16*p7))))):=by omega
  rw [this,hB]; clear this hB; omega
 have a0:p0+p1+16*(p1+p2)<2 ^ 8:=by clear e hB; omega
 have a1:p2+p3+16*(p3+p4)<2 ^ 8:=by clear e hB; omega
 have a2:p4+p5+16*(p5+p6)<2 ^ 8:=by clear e hB; omega
 have a3:p6+p7+16*p7<2 ^ 8:=by clear e hB; omega
 have b0:p0+p1<16:=by clear e hB; omega
 have b1:p2+p3<16:=by clear e hB; omega
 have b2:p4+p5<16:=by clear e hB; omega
 have b3:p6+p7<16:=by clear e hB; omega
 rw [e,show (1085102592571150095:Nat)=15+2 ^ 8*(15+2 ^ 8*(15+2 ^ 8*(15+2 ^ 8*252645135))) from rfl,Ca 8 _ _ a0 (by decide),Ca 8 _ _ a1 (by decide),Ca 8 _ _ a2 (by decide),Ca 8 _ _ a3 (by decide),
  Gi b0,Gi b1,Gi b2,Gi b3,Nat.zero_and,Nat.mul_zero,Nat.add_zero]
theorem Pr {B C:Nat} (hB:B<4294967296) (h:(B / 16+B) &&& 1085102592571150095=C):pC (B:Int)=(C:Int):=by
 unfold pC
 have h1:B / 16+B<18446744073709551616:=by omega
 rw [show (4:Int)=((4:Nat):Int) from rfl,CM B 4 (by decide),← Int.natCast_add,show B / 2 ^ 4=B / 16 from rfl,BY h1,show (1085102592571150095:Int)=((1085102592571150095:Nat):Int) from rfl,Ey h1 (by decide),h]
theorem PE {C:Nat} (h:C<4294967296):pD (C:Int)=((C+C / 256:Nat):Int):=by
 unfold pD
 rw [show (8:Int)=((8:Nat):Int) from rfl,CM C 8 (by decide),← Int.natCast_add,show C / 2 ^ 8=C / 256 from rfl,BY (by omega)]
theorem KH {C:Nat} (h:C<8589934592):pE (C:Int)=((C+C / 65536:Nat):Int):=by
 unfold pE
 rw [show (16:Int)=((16:Nat):Int) from rfl,CM C 16 (by decide),← Int.natCast_add,show C / 2 ^ 16=C / 65536 from rfl,BY (by omega)]
theorem Lb {C:Nat} (h:C<17179869184):pF (C:Int)=((C+C / 4294967296:Nat):Int):=by
 unfold pF
 rw [show (32:Int)=((32:Nat):Int) from rfl,CM C 32 (by decide),← Int.natCast_add,show C / 2 ^ 32=C / 4294967296 from rfl,BY (by omega)]
theorem NE {C:Nat} (h:C<34359738368):pG (C:Int)=((C % 128:Nat):Int):=by
 unfold pG
 rw [wrap_i64 ⟨by omega,by omega⟩,show (127:Int)=((127:Nat):Int) from rfl,II (by omega) (by decide),show (127:Nat)=2 ^ 7-1 from rfl,Nat.and_two_pow_sub_one_eq_mod]
theorem NI {q0 q1 q2 q3:Nat} (h0:q0≤8) (h1:q1≤8) (h2:q2≤8) (h3:q3≤8) {C D E F:Nat} (hC:C=q0+256*(q1+256*(q2+256*q3))) (hD:D=C+C / 256) (hE:E=D+D / 65536) (hF:F=E+E / 4294967296) :
  F % 128=q0+q1+q2+q3∧C<4294967296∧D<8589934592∧E<17179869184∧F<34359738368:=by
 have c1:C / 256=q1+256*(q2+256*q3):=by omega
 have d1:D=(q0+q1)+256*((q1+q2)+256*((q2+q3)+256*q3)):=by rw [hD,c1,hC]; omega
 clear hD c1
 have d2:D / 65536=(q2+q3)+256*q3:=by rw [d1]; omega
 have e1:E=(q0+q1+q2+q3)+256*((q1+q2+q3)+256*((q2+q3)+256*q3)):=by rw [hE,d2,d1]; omega
 clear hE d2
 have e2:E / 4294967296=0:=by rw [e1]; omega
 have f1:F=E:=by rw [hF,e2]; omega
 clear hF e2
 refine ⟨?_,by omega,by omega,by omega,by omega⟩
 rw [f1,e1]; clear f1 e1 d1 hC; omega
/-- The sum of the bits in the eight parts of four. -/
theorem Lr {d0 d1 d2 d3 d4 d5 d6 d7:Nat} (h0:d0<16) (h1:d1<16) (h2:d2<16) (h3:d3<16) (h4:d4<16) (h5:d5<16) (h6:d6<16) (h7:d7<16) :
  CL ((val [d0,d1,d2,d3,d4,d5,d6,d7]:Nat):Int)=some ((c4 d0+c4 d1+c4 d2+c4 d3+c4 d4+c4 d5+c4 d6+c4 d7:Nat):Int):=by
 have hall:∀ d∈[d0,d1,d2,d3,d4,d5,d6,d7],d<16:=by
  intro d hd
  simp only [List.mem_cons,List.not_mem_nil,or_false] at hd
  rcases hd with rfl | rfl | rfl | rfl | rfl | rfl | rfl | rfl <;> assumption
 have hA:=stA [d0,d1,d2,d3,d4,d5,d6,d7] 16 (by simp) hall
 have hallA:∀ d∈[d0,d1,d2,d3,d4,d5,d6,d7].map a4,d<16:=by
  intro d hd
  obtain ⟨e,he,rfl⟩:=List.mem_map.1 hd
  exact (A7 ⟨e,hall e he⟩).1
 have hB:=stB ([d0,d1,d2,d3,d4,d5,d6,d7].map a4) 16 (by simp) hallA
 have hx:=Gq h0 h1 h2 h3 h4 h5 h6 h7
 have hAlt:val ([d0,d1,d2,d3,d4,d5,d6,d7].map a4)<4294967296:=Gq (A7 ⟨d0,h0⟩).1 (A7 ⟨d1,h1⟩).1 (A7 ⟨d2,h2⟩).1 (A7 ⟨d3,h3⟩).1 (A7 ⟨d4,h4⟩).1 (A7 ⟨d5,h5⟩).1 (A7 ⟨d6,h6⟩).1 (A7 ⟨d7,h7⟩).1
 have m5:A5 5 16=6148914691236517205:=by decide
 have m3:A5 3 16=3689348814741910323:=by decide
 rw [m5] at hA
 rw [m3] at hB
 have n0:c4 d0≤4:=(A7 ⟨d0,h0⟩).2.1
 have n1:c4 d1≤4:=(A7 ⟨d1,h1⟩).2.1
 have n2:c4 d2≤4:=(A7 ⟨d2,h2⟩).2.1
 have n3:c4 d3≤4:=(A7 ⟨d3,h3⟩).2.1
 have n4:c4 d4≤4:=(A7 ⟨d4,h4⟩).2.1
 have n5:c4 d5≤4:=(A7 ⟨d5,h5⟩).2.1
 have n6:c4 d6≤4:=(A7 ⟨d6,h6⟩).2.1
 have n7:c4 d7≤4:=(A7 ⟨d7,h7⟩).2.1
 have hBv:val (([d0,d1,d2,d3,d4,d5,d6,d7].map a4).map b4)=c4 d0+16*(c4 d1+16*(c4 d2+16*(c4 d3+16*(c4 d4+16*(c4 d5+16*(c4 d6+16*c4 d7)))))):=by
  show c4 d0+16*(c4 d1+16*(c4 d2+16*(c4 d3+16*(c4 d4+16*(c4 d5+16*(c4 d6+16*(c4 d7+16*0)))))))=_
  rw [Nat.mul_zero,Nat.add_zero]
 have hBlt:=Gq (Nat.lt_of_le_of_lt n0 (by decide)) (Nat.lt_of_le_of_lt n1 (by decide)) (Nat.lt_of_le_of_lt n2 (by decide)) (Nat.lt_of_le_of_lt n3 (by decide)) (Nat.lt_of_le_of_lt n4 (by decide)) (Nat.lt_of_le_of_lt n5 (by decide)) (Nat.lt_of_le_of_lt n6 (by decide)) (Nat.lt_of_le_of_lt n7 (by decide))
 have hBe:val [c4 d0,c4 d1,c4 d2,c4 d3,c4 d4,c4 d5,c4 d6,c4 d7]=val (([d0,d1,d2,d3,d4,d5,d6,d7].map a4).map b4):=rfl
 rw [hBe] at hBlt
 rw [LW,Pe hx hAlt hA,Lh hAlt hBlt hB,Pr hBlt (Pp n0 n1 n2 n3 n4 n5 n6 n7 hBv)]
 have e8:∀ {a b:Nat},a≤4→b≤4→a+b≤8:=fun h h'=>Nat.add_le_add h h'
 obtain ⟨s1,s2,s3,s4,s5⟩:=NI (e8 n0 n1) (e8 n2 n3) (e8 n4 n5) (e8 n6 n7) rfl rfl rfl rfl
 rw [PE s2,KH s3,Lb s4,NE s5,s1]
 simp only [Nat.add_assoc]
def AT (x:Nat) (n:Nat):List Nat:=(List.range n).filter fun k=>x.testBit k
theorem LX:∀ d:Fin 16,(AT d.val 4).length=c4 d.val:=by decide
theorem Cs (x n:Nat):(AT x (n+4)).length=c4 (x % 16)+(AT (x / 16) n).length:=by
 rw [← LX ⟨x % 16,Nat.mod_lt _ (by decide)⟩]
 unfold AT
 rw [show n+4=n+1+1+1+1 from rfl,List.range_succ_eq_map,List.range_succ_eq_map,List.range_succ_eq_map,List.range_succ_eq_map]
 simp only [List.map_cons,List.map_map]
 have hlow:∀ k:Nat,k<4→x.testBit k=(x % 16).testBit k:=fun k hk=>by
  rw [show (16:Nat)=2 ^ 4 from rfl,Nat.testBit_mod_two_pow]
  simp [hk]
 have hhigh:((List.range n).map (Nat.succ ∘ Nat.succ ∘ Nat.succ ∘ Nat.succ)).filter (fun k=>x.testBit k)=((List.range n).filter fun k=>(x / 16).testBit k).map (Nat.succ ∘ Nat.succ ∘ Nat.succ ∘ Nat.succ):=by
  rw [List.filter_map]
  congr 1
  apply List.filter_congr
  intro k _
  show x.testBit (k+4)=(x / 16).testBit k
  rw [Nat.testBit_add]
 have hr4:List.range 4=[0,1,2,3]:=by decide
 rw [hr4]
 simp only [List.filter_cons]
 rw [show Nat.succ 0=1 from rfl,show Nat.succ 1=2 from rfl,show Nat.succ 2=3 from rfl]
 rw [hlow 0 (by decide),hlow 1 (by decide),hlow 2 (by decide),hlow 3 (by decide)]
 have hhigh':=congrArg List.length hhigh
 rw [List.length_map] at hhigh'
 cases (x % 16).testBit 0 <;> cases (x % 16).testBit 1 <;> cases (x % 16).testBit 2 <;> cases (x % 16).testBit 3 <;> simp [hhigh'] <;> omega
theorem NY {x:Nat} (hx:x<4294967296):CL (x:Int)=some (((AT x 32).length:Nat):Int):=by
 have hv:x=val [x % 16,x / 16 % 16,x / 16 / 16 % 16,x / 16 / 16 / 16 % 16,x / 16 / 16 / 16 / 16 % 16,x / 16 / 16 / 16 / 16 / 16 % 16,x / 16 / 16 / 16 / 16 / 16 / 16 % 16,x / 16 / 16 / 16 / 16 / 16 / 16 / 16 % 16]:=by
  simp only [val]; omega
 have hm:∀ y:Nat,y % 16<16:=fun y=>Nat.mod_lt _ (by decide)
 have h:=Lr (hm x) (hm (x / 16)) (hm (x / 16 / 16)) (hm (x / 16 / 16 / 16)) (hm (x / 16 / 16 / 16 / 16)) (hm (x / 16 / 16 / 16 / 16 / 16)) (hm (x / 16 / 16 / 16 / 16 / 16 / 16)) (hm (x / 16 / 16 / 16 / 16 / 16 / 16 / 16))
 rw [← hv] at h
 rw [h,Cs x 28,Cs _ 24,Cs _ 20,Cs _ 16,Cs _ 12,Cs _ 8,Cs _ 4,Cs _ 0]
 rw [show (AT (x / 16 / 16 / 16 / 16 / 16 / 16 / 16 / 16) 0).length=0 from rfl]
 congr 2
 omega
theorem Po {x:Nat} (hx:x<4294967296):Dq (x:Int)=some (((AT x 32).length:Nat):Int):=by
 unfold Dq EY
 rw [BY (by omega),NY hx]
 rfl
theorem Og:∀ (x:Fin 32) (b:Fin 10),((bits .and .i64 (shrK .i64 (x.val:Int) (b.val:Int)) 1)==0)=!x.val.testBit b.val:=by decide +kernel
theorem tb0 {x b:Nat} (hx:x<32) (hb:b<10):((bits .and .i64 (shrK .i64 (x:Int) (b:Int)) 1)==0)=!x.testBit b:=Og ⟨x,hx⟩ ⟨b,hb⟩
def NOk (n:Nat) (l:List Nat):Prop:=l.length=n∧∀ x∈l,x<2 ^ n
theorem cxN {l:List Nat} {n a b:Nat} (hl:NOk n l) (hn:n≤5) (ha:a<n) (hb:b<n):∃ l',NOk n l'∧A9 (Ad.mk (cI l)) (a:Int) (b:Int)=some (Ad.mk (cI l')) ∧
  ∃ x y:Nat,getI (cI l) (b:Int)=some (x:Int)∧getI (cI l) (a:Int)=some (y:Int)∧(cI l).set ((b:Int)).toNat (bits .xor .i64 (x:Int) (y:Int))=cI l':=by
 have h32:=Ax hn
 obtain ⟨x,hx⟩:∃ v,l[b]?=some v:=⟨_,List.getElem?_eq_getElem (show b<l.length by have:=hl.1; omega)⟩
 obtain ⟨y,hy⟩:∃ v,l[a]?=some v:=⟨_,List.getElem?_eq_getElem (show a<l.length by have:=hl.1; omega)⟩
 have hx2:=hl.2 _ (List.mem_of_getElem? hx)
 have hy2:=hl.2 _ (List.mem_of_getElem? hy)
 have hset:(cI l).set ((b:Int)).toNat (bits .xor .i64 (x:Int) (y:Int))=cI (l.set b (x ^^^ y)):=by
  rw [E0 (by omega) (by omega),Int.toNat_natCast,DV]
 refine ⟨l.set b (x ^^^ y),⟨by rw [List.length_set]; exact hl.1,fun z hz=>?_⟩,?_,x,y,Ar hx,Ar hy,hset⟩
 ·rcases List.mem_or_eq_of_mem_set hz with hz | rfl
  ·exact hl.2 z hz
  ·exact Nat.xor_lt_two_pow hx2 hy2
 ·rw [EV (by rw [Aj]; have:=hl.1; omega) (Ar hx) (Ar hy),hset]
def EC (n:Nat) (out:List Aa):Prop:=∀ g∈out,∃ a b:Nat,a<n∧b<n∧g=Aa.mk 9 (a:Int) (b:Int)
theorem EC.snoc {n:Nat} {out:List Aa} (h:EC n out) {a b:Nat} (ha:a<n) (hb:b<n):EC n (out++[Aa.mk 9 (a:Int) (b:Int)]):=fun g hg=>by
 rcases List.mem_append.1 hg with hg | hg
 ·exact h g hg
 ·exact ⟨a,b,ha,hb,by simpa using hg⟩
theorem FZ {l:List Nat} {n a b:Nat} {out:List Aa} (ho:out.length≤1000) {x y:Nat} {l':List Nat} (hx:getI (cI l) (b:Int)=some (x:Int)) (hy:getI (cI l) (a:Int)=some (y:Int))
  (hs:(cI l).set ((b:Int)).toNat (bits .xor .i64 (x:Int) (y:Int))=cI l'):Ds (a:Int) (b:Int) (cI l) out=some (cI l',out++[Aa.mk 9 (a:Int) (b:Int)]):=by
 unfold Ds
 rw [hx,hy]
 simp only [Option.bind_some]
 rw [chk_t (by omega),hs]
theorem KA {σ ρ ρ':Type} {f:σ→Option (Ex σ ρ)} {g:σ→Option (Ex σ ρ')} (I:Nat→σ→Prop) (Z:σ→Prop)
  (hz:∀ m s,I m s→(∃ s',f s=some (.br s')∧g s=some (.br s')∧Z s')∨∃ m' s',m=m'+1∧f s=some (.nx s')∧g s=some (.nx s')∧I m' s') :
  ∀ (q m:Nat) (s:σ),I m s→m<q→∃ s',whX f q s=some (.inl s')∧whX g q s=some (.inl s')∧Z s'
 | 0,_,_,_,h=>absurd h (Nat.not_lt_zero _)
 | q+1,m,s,hI,hq=>by
  rcases hz m s hI with ⟨s',h1,h2,h3⟩ | ⟨m',s',hm,h1,h2,h3⟩
  ·exact ⟨s',by simp only [whX,h1,Option.bind_some],by simp only [whX,h2,Option.bind_some],h3⟩
  ·obtain ⟨s'',h4,h5,h6⟩:=KA I Z hz q m' s' h3 (by omega)
   exact ⟨s'',by simp only [whX,h1,Option.bind_some]; exact h4,by simp only [whX,h2,Option.bind_some]; exact h5,h6⟩
def EOk (n b:Nat) (s:List Int×List Aa):Prop:=∃ l,s.1=cI l∧NOk n l∧EC n s.2∧s.2.length≤b
theorem EOk.mono {n b b':Nat} {s:List Int×List Aa} (h:EOk n b s) (hb:b≤b'):EOk n b' s:=by
 obtain ⟨l,h1,h2,h3,h4⟩:=h
 exact ⟨l,h1,h2,h3,by omega⟩
theorem MX {n k b:Nat} (hn:n≤5) (hk:k<n) (hb:b≤900) {r:List Int} (hr:r.length=n):∀ (m:Nat) (s:List Int×List Aa×Int),(∃ i:Nat,i+m=n∧s.2.2=(i:Int)∧EOk n (b+i) (s.1,s.2.1)) →
  (∃ s',Df r k s=some (.br s')∧Bb r k s=some (.br s')∧EOk n (b+n) (s'.1,s'.2.1)) ∨
  ∃ m' s',m=m'+1∧Df r k s=some (.nx s')∧Bb r k s=some (.nx s')∧∃ i:Nat,i+m'=n∧s'.2.2=(i:Int)∧EOk n (b+i) (s'.1,s'.2.1):=by
 rintro m ⟨R1,o1,i1⟩ ⟨i,him,hi1,l,h1,h2,h3,h4⟩
 simp only at hi1 h1 h3 h4
 subst hi1 h1
 have h32:=Ax hn
 obtain ⟨xk,hkx⟩:∃ v,l[k]?=some v:=⟨_,List.getElem?_eq_getElem (show k<l.length by have:=h2.1; omega)⟩
 have hkx2:=h2.2 _ (List.mem_of_getElem? hkx)
 unfold Df Bb
 simp only
 rw [C1 (show k<1000 by omega),hr]
 by_cases hi:i<n
 ·rw [decide_eq_true (show (i:Int)<(n:Int) by omega),Ar hkx]
  simp only [gb,cond_true,Option.bind_some,Bool.true_and]
  rw [chk_t (fun _=>by omega),chk_t (fun _=>by omega),tb0 (by omega) (by omega)]
  cases hb1:xk.testBit k with
  | true =>
   simp only [Bool.not_true,cond_false]
   exact .inl ⟨_,rfl,rfl,l,rfl,h2,h3,by simp only; omega⟩
  | false =>
   simp only [Bool.not_false,cond_true]
   obtain ⟨xi,hix⟩:∃ v,l[i]?=some v:=⟨_,List.getElem?_eq_getElem (show i<l.length by have:=h2.1; omega)⟩
   have hix2:=h2.2 _ (List.mem_of_getElem? hix)
   rw [Ar hix]
   simp only [Option.bind_some]
   rw [chk_t (by omega),chk_t (by omega),tb (by omega) (by omega),wrap_i64 (a:=(i:Int)+1) ⟨by omega,by omega⟩]
   refine .inr ?_
   obtain ⟨m',rfl⟩:∃ m',m=m'+1:=⟨m-1,by omega⟩
   cases hb2:xi.testBit k with
   | true =>
    obtain ⟨l',c1,c2,x,y,c3,c4,c5⟩:=cxN h2 hn hi hk
    simp only [cond_true]
    rw [c2,FZ (n:=n) (by omega) c3 c4 c5]
    simp only [Option.bind_some]
    rw [chk_t (by omega)]
    exact ⟨m',_,rfl,rfl,rfl,i+1,by omega,by simp only; omega,l',rfl,c1,h3.snoc hi hk,by simp only [List.length_append,List.length_singleton]; omega⟩
   | false =>
    simp only [cond_false,Option.bind_some]
    exact ⟨m',_,rfl,rfl,rfl,i+1,by omega,by simp only; omega,l,rfl,h2,h3,by simp only; omega⟩
 ·rw [decide_eq_false (show ¬ (i:Int)<(n:Int) by omega)]
  simp only [gb,cond_false,Option.bind_some,Bool.false_and]
  first | rw [chk_t (fun h=>by cases h),chk_t (fun h=>by cases h)] | skip
  exact .inl ⟨_,rfl,rfl,l,rfl,h2,h3,by simp only; omega⟩
theorem Lm {n k b i:Nat} (hn:n≤5) (hk:k<n) (hb:b≤900) (hi:i<n) {s:List Int×List Aa} (h:EOk n b s) :
  ∃ s',Et k i s=some s'∧BQ k i s=some s'∧EOk n (b+1) s':=by
 obtain ⟨R1,o1⟩:=s
 obtain ⟨l,h1,h2,h3,h4⟩:=h
 simp only at h1 h3 h4
 subst h1
 have h32:=Ax hn
 obtain ⟨xi,hix⟩:∃ v,l[i]?=some v:=⟨_,List.getElem?_eq_getElem (show i<l.length by have:=h2.1; omega)⟩
 have hix2:=h2.2 _ (List.mem_of_getElem? hix)
 unfold Et BQ
 simp only
 rw [C1 (show k<1000 by omega)]
 by_cases hik:i=k
 ·subst hik
  have e:((i:Int) != (i:Int))=false:=by simp
  rw [e]
  simp only [gb,cond_false,Option.bind_some,Bool.false_and]
  first | rw [chk_t (fun h=>by cases h),chk_t (fun h=>by cases h)] | skip
  exact ⟨_,rfl,rfl,l,rfl,h2,h3,by simp only; omega⟩
 ·have e:((i:Int) != (k:Int))=true:=by simp; omega
  rw [e,Ar hix]
  simp only [gb,cond_true,Option.bind_some,Bool.true_and]
  rw [chk_t (fun _=>by omega),chk_t (fun _=>by omega),tb (by omega) (by omega)]
  cases hb2:xi.testBit k with
  | true =>
   obtain ⟨l',c1,c2,x,y,c3,c4,c5⟩:=cxN h2 hn hk hi
   simp only [cond_true]
   rw [c2,FZ (n:=n) (by omega) c3 c4 c5]
   simp only [Option.bind_some]
   rw [chk_t (by omega)]
   exact ⟨_,rfl,rfl,l',rfl,c1,h3.snoc hk hi,by simp only [List.length_append,List.length_singleton]; omega⟩
  | false =>
   simp only [cond_false,Option.bind_some]
   exact ⟨_,rfl,rfl,l,rfl,h2,h3,by simp only; omega⟩
theorem KN {n k b:Nat} (hn:n≤5) (hk:k<n) (hb:b≤800) {r:List Int} (hr:r.length=n) {s:List Int×List Aa} (h:EOk n b s) :
  ∃ s',D6 r k s=some s'∧BK r k s=some s'∧EOk n (b+10) s':=by
 obtain ⟨R1,o1⟩:=s
 unfold D6 BK
 simp only
 rw [wrap_i64 (a:=(k:Int)+1) ⟨by omega,by omega⟩]
 obtain ⟨⟨R2,o2,i2⟩,e1,e2,e3⟩:=KA (f:=Df r k) (g:=Bb r k) _ (fun s'=>EOk n (b+n) (s'.1,s'.2.1)) (MX hn hk (by omega) hr) fuel (n-(k+1)) (R1,o1,(k:Int)+1)
  ⟨k+1,by omega,by simp only; omega,h.mono (by omega)⟩ (AC (by omega))
 rw [e1,e2]
 simp only [Option.bind_some,orR]
 rw [chk_t (by omega),chk_t (by omega),hr]
 obtain ⟨s,t,f1,f2,f3,f4⟩:=forN2_inv (f:=Et k) (g:=BQ k) (fun i s t=>s=t∧EOk n (b+n+i) s) n 0 (R2,o2) (R2,o2) ⟨rfl,e3⟩ (fun i s t _ hi ⟨h1,h2⟩=>by
  subst h1
  obtain ⟨s',a1,a2,a3⟩:=Lm (b:=b+n+i) hn hk (by omega) (show i<n by omega) h2
  exact ⟨s',s',a1,a2,rfl,a3.mono (by omega)⟩)
 rw [f1,f2,← f3]
 exact ⟨s,rfl,rfl,f4.mono (by omega)⟩
theorem Hu {l:List Nat} {n:Nat} (hl:NOk n l) (hn:n≤5):∃ gs,C8 (Ad.mk (cI l))=some gs∧BP (Ad.mk (cI l))=some gs∧EC n gs∧gs.length≤50:=by
 unfold C8 BP AA AL
 have hlen:(cI l).length=n:=by rw [Aj]; exact hl.1
 simp only
 rw [chk_t (by omega)]
 simp only [Option.bind_some]
 rw [chk_t (by omega),chk_t (by omega),hlen]
 obtain ⟨s,t,f1,f2,f3,f4⟩:=forN2_inv (f:=D6 (cI l)) (g:=BK (cI l)) (fun i s t=>s=t∧EOk n (10*i) s) n 0 (cI l,[]) (cI l,[]) ⟨rfl,l,rfl,hl,(fun g hg=>nomatch hg),Nat.le_refl 0⟩ (fun i s t _ hi ⟨h1,h2⟩=>by
  subst h1
  obtain ⟨s',a1,a2,a3⟩:=KN (b:=10*i) hn (show i<n by omega) (by omega) hlen h2
  exact ⟨s',s',a1,a2,rfl,a3.mono (by omega)⟩)
 rw [f1,f2,← f3]
 obtain ⟨l',g1,g2,g3,g4⟩:=f4
 obtain ⟨R',o'⟩:=s
 exact ⟨o',rfl,rfl,g3,by simp only at g4; omega⟩
theorem Oz {l:List Nat} {n:Nat} (hl:NOk n l) (h1:1≤n) (hn:n≤5) (hv:BE (Ad.mk (cI l))=some true) :
  ∃ l',NOk n l'∧DW (Ad.mk (cI l))=some (Ad.mk (cI l'),true)∧Cp (Ad.mk (cI l))=some (Ad.mk (cI l')):=by
 unfold DW Cp
 rw [hv]
 simp only [Option.bind_some,Bool.not_true,cond_false]
 have hlen:(cI l).length=n:=by rw [Aj]; exact hl.1
 rw [hlen]
 obtain ⟨R,r1,r2,r3,_⟩:=Pa (n:=(n:Int)) ⟨by omega,by omega⟩
 rw [Int.toNat_natCast] at r3
 have hR:=ID (fun x hx=>(r3.2 x hx).1)
 have hRok:NOk n (R.map Int.toNat):=⟨by rw [List.length_map]; exact r3.1,fun x hx=>by
  obtain ⟨y,hy,rfl⟩:=List.mem_map.1 hx
  have:=r3.2 y hy
  omega⟩
 obtain ⟨gs,g1,g2,g3,g4⟩:=Hu hl hn
 rw [r1,r2,g1,g2]
 simp only [Option.bind_some]
 rw [chk_t (by omega),chk_t (by omega)]
 obtain ⟨s,t,f1,f2,f3,l',f4,f5⟩:=forN2_inv (f:=Fx gs) (g:=CD gs) (fun i s t=>s=t∧∃ l',s=cI l'∧NOk n l') gs.length 0 R R ⟨rfl,_,hR,hRok⟩ (fun i s t _ hi ⟨e1,l',e2,e3⟩=>by
  subst e1 e2
  have hx:=List.getElem?_eq_getElem (show i<gs.length by omega)
  obtain ⟨a,b,ha,hb,hg⟩:=g3 _ (List.mem_of_getElem? hx)
  rw [hg] at hx
  obtain ⟨l2,c1,c2,x,y,c3,c4,c5⟩:=cxN e3 hn ha hb
  refine ⟨cI l2,cI l2,?_,?_,rfl,l2,rfl,c1⟩
  ·unfold Fx
   rw [getI_nat,hx]
   simp only [Option.bind_some]
   rw [c2]; rfl
  ·unfold CD
   rw [getI_nat,hx]
   simp only [Option.bind_some,c3,c4,c5])
 subst f3 f4
 rw [f1,f2]
 exact ⟨l',f5,rfl,rfl⟩

theorem BI {P:Nat→Prop} (h0:P 0):∀ {L:List Nat},(∀ v y,y∈L→P v→P (v ^^^ y))→∀ {v:Nat},Sp L v→P v
 | [],_,v,h=>by
  have:v=0:=h
  rw [this]; exact h0
 | y::t,hx,v,h=>by
  have ht:=fun v z hz=>hx v z (List.mem_cons_of_mem _ hz)
  rcases h with h | h
  ·exact BI h0 ht h
  ·have:=hx _ y (List.mem_cons_self ..) (BI h0 ht h)
   rwa [xx] at this
theorem J3 {L:List Nat} {u w:Nat} (hu:Sp L u) (hw:Sp L w):Sp L (u ^^^ w) :=
 BI (P:=fun w=>Sp L (u ^^^ w)) (by rw [Nat.xor_zero]; exact hu) (fun v y hy hv=>by rw [← Nat.xor_assoc]; exact CX hy hv) hw
theorem Iu {n:Nat} {L:List Nat} (hs:∀ x∈L,x<2 ^ n) {v:Nat} (h:Sp L v):v<2 ^ n :=
 BI (P:=fun v=>v<2 ^ n) (Nat.two_pow_pos n) (fun v y hy hv=>Nat.xor_lt_two_pow hv (hs y hy)) h
/-- A number whose first bit is b. -/
def HF (b v:Nat):Prop:=(∀ j,j<b→v.testBit j=false)∧v.testBit b=true
def As (n:Nat) (l:List Nat):Prop:=∀ b,b<n→∃ v,Sp l v∧HF b v
theorem EK {n:Nat} {l:List Nat} (h:As n l):∀ (d b v:Nat),b+d=n→v<2 ^ n→(∀ j,j<b→v.testBit j=false)→(∀ x∈l,x<2 ^ n)→Sp l v
 | 0,b,v,hb,hv,hz,_=>by
  have:v=0:=Nat.eq_of_testBit_eq fun j=>by
   rw [Nat.zero_testBit]
   rcases Nat.lt_or_ge j b with h1 | h1
   ·exact hz j h1
   ·exact Fm hv (by omega)
  rw [this]; exact Eu l
 | d+1,b,v,hb,hv,hz,hs=>by
  cases hbit:v.testBit b with
  | false =>
   refine EK h d (b+1) v (by omega) hv (fun j hj=>?_) hs
   rcases Nat.lt_succ_iff_lt_or_eq.1 hj with h1 | rfl
   ·exact hz j h1
   ·exact hbit
  | true =>
   obtain ⟨w,w1,w2,w3⟩:=h b (by omega)
   have:=EK h d (b+1) (v ^^^ w) (by omega) (Nat.xor_lt_two_pow hv (Iu hs w1)) (fun j hj=>by
    rw [Nat.testBit_xor]
    rcases Nat.lt_succ_iff_lt_or_eq.1 hj with h1 | rfl
    ·rw [hz j h1,w2 j h1]; rfl
    ·rw [hbit,w3]; rfl) hs
   have:=J3 this w1
   rwa [xx] at this
theorem KQ {n:Nat} {l:List Nat} (h:∀ v,v<2 ^ n→Sp l v):As n l:=fun b hb=>by
 refine ⟨2 ^ b,h _ (Nat.pow_lt_pow_right (by decide) hb),fun j hj=>?_,?_⟩
 ·rw [Nat.testBit_two_pow]; simp; omega
 ·rw [Nat.testBit_two_pow]; simp
/-- The program's rank: its loop beside the span. -/
def FX (n:Nat) (l:List Nat) (b:Nat) (t:List Int×Int):Prop:=∃ (m:List Nat) (r:Nat),t=(cI m,(r:Int))∧m.length+r=n∧sm5 m∧(∀ v,Sp m v↔Sp l v∧∀ j,j<b→v.testBit j=false) ∧
 r≤min b n∧(r=min b n→∀ b',b'<min b n→∃ v,Sp l v∧HF b' v)∧(As n l→r=min b n)
theorem ME {n b:Nat} {l:List Nat} (hn:n≤5) (hb:b<10) (hs:∀ x∈l,x<2 ^ n) {t:List Int×Int} (h:FX n l b t):∃ t',BM b t=some t'∧FX n l (b+1) t':=by
 obtain ⟨m,r,rfl,hm,smm,hSp,hr,hA,hB⟩:=h
 obtain ⟨a',g1,g2⟩:=Ke (l:=m) (b:=b) smm (by omega) hb
 unfold BM
 simp only
 rw [g1]
 simp only [Option.bind_some]
 rcases g2 with ⟨rfl,g2⟩ | ⟨p',x',rfl,hpx',hxb'⟩
 ·have hno:∀ v,Sp m v→v.testBit b=false:=fun v hv=>EW g2 hv
  refine ⟨_,rfl,m,r,rfl,hm,smm,fun v=>⟨fun hv=>⟨((hSp v).1 hv).1,fun j hj=>?_⟩,fun ⟨h1,h2⟩=>(hSp v).2 ⟨h1,fun j hj=>h2 j (by omega)⟩⟩,by omega,fun he=>?_,fun hF=>?_⟩
  ·rcases Nat.lt_succ_iff_lt_or_eq.1 hj with h1 | rfl
   ·exact ((hSp v).1 hv).2 j h1
   ·exact hno v hv
  ·rcases Nat.lt_or_ge b n with h1 | h1
   ·omega
   ·rw [show min (b+1) n=min b n by omega] at he ⊢
    exact hA he
  ·rcases Nat.lt_or_ge b n with h1 | h1
   ·obtain ⟨v,v1,v2,v3⟩:=hF b h1
    rw [hno v ((hSp v).2 ⟨v1,v2⟩)] at v3
    cases v3
   ·rw [show min (b+1) n=min b n by omega]; exact hB hF
 ·have hx32':=smm x' (List.mem_of_getElem? hpx')
  have hpl':p'<m.length:=(List.getElem?_eq_some_iff.1 hpx').1
  have hxl:=(hSp x').1 (Du (List.mem_of_getElem? hpx'))
  have hbn:b<n:=by
   rcases Nat.lt_or_ge b n with h1 | h1
   ·exact h1
   ·rw [Fm (Iu hs hxl.1) h1] at hxb'; cases hxb'
  rw [decide_eq_false (show ¬ (p':Int)<0 by omega)]
  simp only [cond_false]
  rw [Ar hpx']
  simp only [Option.bind_some]
  have hdel:Ce (cI m) (p':Int) (IntKind.i64.wrap ((p':Int)+1))=some (cI (m.take p'++m.drop (p'+1))):=by
   unfold Ce
   rw [wrap_i64 (a:=(p':Int)+1) ⟨by omega,by omega⟩,chk_t (by rw [Aj]; omega)]
   have e:((p':Int)==(p':Int)+1)=false:=beq_eq_false_iff_ne.2 (by omega)
   rw [e]
   simp only [cond_false]
   rw [chk_t (by omega)]
   have e2:((p':Int)+1).toNat=p'+1:=by omega
   rw [Int.toNat_natCast,e2]
   unfold cI
   rw [List.map_append,List.map_take,List.map_drop]
  rw [hdel]
  simp only [Option.bind_some]
  generalize hm1:m.take p'++m.drop (p'+1)=m1
  have hmx:m=m.take p'++x'::m.drop (p'+1):=by
   have:=List.getElem?_eq_some_iff.1 hpx'
   obtain ⟨h1,h2⟩:=this
   rw [← h2,List.getElem_cons_drop,List.take_append_drop]
  have mmem:∀ y,y∈x'::m1↔y∈m:=fun y=>by
   rw [← hm1]
   conv=>rhs; rw [hmx]
   simp only [List.mem_cons,List.mem_append]
   constructor
   ·rintro (h | h | h)
    ·exact .inr (.inl h)
    ·exact .inl h
    ·exact .inr (.inr h)
   ·rintro (h | h | h)
    ·exact .inr (.inl h)
    ·exact .inl h
    ·exact .inr (.inr h)
  have sm1:sm5 m1:=fun y hy=>smm y ((mmem y).1 (List.mem_cons_of_mem _ hy))
  have m1len:m1.length+1=m.length:=by
   have:=congrArg List.length hmx
   rw [← hm1]
   simp at this ⊢
   omega
  rw [Aj,chk_t (by omega),Iz sm1 hx32' hb]
  simp only [Option.bind_some]
  rw [wrap_i64 (a:=(r:Int)+1) ⟨by omega,by omega⟩]
  have k2:∀ u,Sp (x'::m1) u↔Sp m u:=fun u=>⟨Cj (fun y hy=>(mmem y).1 hy),Cj (fun y hy=>(mmem y).2 hy)⟩
  refine ⟨_,rfl,m1.map (red b x'),r+1,rfl,by simp; omega,fun y hy=>?_,fun v=>?_,by omega,fun he b' hb'=>?_,fun hF=>?_⟩
  ·obtain ⟨z,hz,rfl⟩:=List.mem_map.1 hy
   exact GS hx32' (sm1 z hz)
  ·rw [GP hxb',k2,hSp]
   constructor
   ·rintro ⟨⟨h1,h2⟩,h3⟩
    refine ⟨h1,fun j hj=>?_⟩
    rcases Nat.lt_succ_iff_lt_or_eq.1 hj with h4 | rfl
    ·exact h2 j h4
    ·exact h3
   ·rintro ⟨h1,h2⟩
    exact ⟨⟨h1,fun j hj=>h2 j (by omega)⟩,h2 b (by omega)⟩
  ·by_cases hbb:b'=b
   ·subst hbb; exact ⟨x',hxl.1,hxl.2,hxb'⟩
   ·exact hA (by omega) b' (by omega)
  ·have:=hB hF; omega
theorem Hr {l:List Nat} {n:Nat} (hl:l.length=n) (hn:n≤5) (hs:∀ x∈l,x<2 ^ n):∃ r:Nat,Cr (cI l)=some (r:Int)∧(r=n↔As n l):=by
 have h32:=Ax hn
 have h0:FX n l 0 (cI l,0):=⟨l,0,rfl,by omega,fun x hx=>by have:=hs x hx; omega,fun v=>⟨fun h=>⟨h,fun j hj=>absurd hj (Nat.not_lt_zero _)⟩,fun h=>h.1⟩,by omega,fun _ b' hb'=>by omega,fun _=>by omega⟩
 obtain ⟨t,h1,m,r,rfl,h2,h3,h4,h5,h6,h7⟩:=forN_inv (f:=BM) (fun b t=>FX n l b t) 10 0 _ h0 (fun b t _ hb h=>ME hn (by omega) hs h)
 refine ⟨r,?_,fun h b hb=>h6 (by omega) b (by omega),fun h=>by have:=h7 h; omega⟩
 unfold Cr AL
 rw [chk_t (by rw [Aj]; omega)]
 simp only [Option.bind_some]
 rw [h1]; rfl
theorem Nk {p:Ah} {n:Nat} {l:List Nat} (h:A8 p n l):As n l:=by
 obtain ⟨_,hl,hs,hr,_,_⟩:=h.2.2.1
 have hn:=h.1.2.1
 have h32:=Ax hn
 obtain ⟨r,r1,r2⟩:=In (l:=l) (by omega) (fun x hx=>by have:=hs x hx; omega)
 obtain ⟨r',e1,e2⟩:=Hr hl hn hs
 rw [hr] at r1
 rw [e1] at r2
 cases r1
 have:=Option.some.inj r2
 exact e2.1 (by omega)
theorem FL {l:List Nat} {n:Nat} (hl:l.length=n) (h1:1≤n) (hn:n≤5) (hs:∀ x∈l,x<2 ^ n) (hF:As n l):AO (Ad.mk (cI l))=some true:=by
 obtain ⟨r,e1,e2⟩:=Hr hl hn hs
 have hr:=e2.2 hF
 subst hr
 have hcl:(cI l).length=r:=by rw [Aj]; exact hl
 have hq:1≤((cI l).length:Int)∧((cI l).length:Int)≤5:=by omega
 obtain ⟨s1,s2,s3,s4,s5,s6⟩:=CI hq
 unfold AO
 rw [Bw]
 simp only [Option.bind_some]
 rw [decide_eq_true hq.1,decide_eq_true hq.2]
 simp only [Bool.and_self,Bool.true_and,gb,cond_true]
 rw [GW (p:=fun x=>!(decide (0≤x)&&decide (x≤((2 ^ (((cI l).length:Int)).toNat:Nat):Int)-1))) (by omega) (fun x=>by
  unfold Db
  rw [chk_t (by omega),s3,s6,Bw]; rfl)]
 simp only [Option.bind_some,FS,Bool.not_not]
 have hall:((cI l).all fun x=>decide (0≤x)&&decide (x≤((2 ^ (((cI l).length:Int)).toNat:Nat):Int)-1))=true:=by
  rw [List.all_eq_true]
  intro x hx
  obtain ⟨y,hy,rfl⟩:=List.mem_map.1 hx
  have:=hs y hy
  rw [hcl,Int.toNat_natCast]
  simp only [Bool.and_eq_true,decide_eq_true_eq]
  omega
 rw [hall]
 simp only [cond_true]
 rw [e1]
 simp only [Option.bind_some,hcl,beq_self_eq_true,Bool.and_self]
theorem Iw (l:List Nat) (a b:Nat):∀ (r:List Nat) (x y:Nat),r.foldl (fun x k=>if (a ^^^ b).testBit k then x ^^^ l.getD k 0 else x) (x ^^^ y)=r.foldl (fun x k=>if a.testBit k then x ^^^ l.getD k 0 else x) x ^^^ r.foldl (fun x k=>if b.testBit k then x ^^^ l.getD k 0 else x) y
 | [],_,_=>rfl
 | k::t,x,y=>by
  simp only [List.foldl_cons]
  rw [← Iw l a b t]
  congr 1
  rw [Nat.testBit_xor]
  generalize l.getD k 0=z
  cases a.testBit k <;> cases b.testBit k <;> simp
  ·rw [Nat.xor_assoc]
  ·rw [xr]
  ·rw [xr x z (y ^^^ z),← Nat.xor_assoc,xx]
theorem Er (l:List Nat) (a b:Nat):thr l (a ^^^ b)=thr l a ^^^ thr l b:=by
 have:=Iw l a b (List.range 5) 0 0
 rw [Nat.xor_self] at this
 exact this
theorem FD (l:List Nat):thr l 0=0:=by
 have:=Er l 0 0
 rw [Nat.xor_self,Nat.xor_self] at this
 exact this
theorem Gv (l:List Nat) {i:Nat} (hi:i<5):thr l (2 ^ i)=l.getD i 0:=by
 have:i=0∨i=1∨i=2∨i=3∨i=4:=by omega
 rcases this with rfl | rfl | rfl | rfl | rfl <;> simp [thr,List.range,List.range.loop,Nat.testBit,Nat.shiftRight_eq_div_pow]
def idn (n:Nat):List Nat:=(List.range n).map fun i=>2 ^ i
theorem AB (n:Nat):NOk n (idn n):=⟨by simp [idn],fun x hx=>by
 obtain ⟨i,hi,rfl⟩:=List.mem_map.1 hx
 exact Nat.pow_lt_pow_right (by decide) (List.mem_range.1 hi)⟩
theorem Gs {n i:Nat} (hi:i<n):(idn n).getD i 0=2 ^ i:=by
 rw [List.getD_eq_getElem?_getD,idn,List.getElem?_map,List.getElem?_range hi]; rfl
theorem AS {l:List Nat} {i:Nat} (hi:i<l.length):l[i]?=some (l.getD i 0):=by
 rw [List.getD_eq_getElem?_getD,List.getElem?_eq_getElem hi]; rfl
theorem E5 {l l':List Nat} (hl:l.length=l'.length) (h:∀ i,i<l.length→l.getD i 0=l'.getD i 0):l=l':=by
 apply List.ext_getElem? 
 intro i
 by_cases hi:i<l.length
 ·rw [AS hi,AS (by omega),h i hi]
 ·rw [List.getElem?_eq_none (by omega),List.getElem?_eq_none (by omega)]
theorem C4 {f:Nat→Nat} {l:List Nat} {i:Nat} (hi:i<l.length):(l.map f).getD i 0=f (l.getD i 0):=by
 rw [List.getD_eq_getElem?_getD,List.getElem?_map,AS hi]; rfl
theorem Ks {l:List Nat} {n:Nat} (hl:l.length=n) (hn:n≤5):(idn n).map (thr l)=l:=by
 refine E5 (by rw [List.length_map,(AB n).1,hl]) fun i hi=>?_
 rw [List.length_map,(AB n).1] at hi
 rw [C4 (by rw [(AB n).1]; exact hi),Gs hi,Gv l (by omega)]
theorem Fi (n:Nat):As n (idn n):=fun b hb=>by
 refine ⟨2 ^ b,Du (List.mem_map.2 ⟨b,List.mem_range.2 hb,rfl⟩),fun j hj=>?_,?_⟩
 ·rw [Nat.testBit_two_pow]; simp; omega
 ·rw [Nat.testBit_two_pow]; simp
theorem PT {L L':List Nat} (h:∀ y∈L,Sp L' y) {v:Nat} (hv:Sp L v):Sp L' v :=
 BI (P:=fun v=>Sp L' v) (Eu L') (fun _ y hy hv=>J3 hv (h y hy)) hv
theorem OX {n:Nat} {L L':List Nat} (h:∀ y∈L,Sp L' y) (hF:As n L):As n L':=fun b hb=>by
 obtain ⟨v,h1,h2⟩:=hF b hb
 exact ⟨v,PT h h1,h2⟩
theorem N7 {l l2:List Nat} {n:Nat} (hl:NOk n l) (hl2:NOk n l2) (hn:n≤5) (hF:As n l) (hF2:As n l2):As n (l2.map (thr l)):=by
 refine KQ fun v hv=>?_
 have h1:=EK hF n 0 v (by omega) hv (fun j hj=>absurd hj (Nat.not_lt_zero _)) hl.2
 obtain ⟨c,hc,rfl⟩:=BI (P:=fun v=>∃ c,c<2 ^ n∧thr l c=v) ⟨0,Nat.two_pow_pos n,FD l⟩ (fun v y hy ⟨c,hc,hv⟩=>by
  obtain ⟨i,hi⟩:=List.mem_iff_getElem?.1 hy
  have hi2:=(List.getElem?_eq_some_iff.1 hi).1
  rw [hl.1] at hi2
  refine ⟨c ^^^ 2 ^ i,Nat.xor_lt_two_pow hc (Nat.pow_lt_pow_right (by decide) hi2),?_⟩
  rw [Er,hv,Gv l (by omega),List.getD_eq_getElem?_getD,hi]; rfl) h1
 have h2:=EK hF2 n 0 c (by omega) hc (fun j hj=>absurd hj (Nat.not_lt_zero _)) hl2.2
 refine BI (P:=fun c=>Sp (l2.map (thr l)) (thr l c)) (by rw [FD]; exact Eu _) (fun v y hy hv=>?_) h2
 rw [Er]
 exact CX (List.mem_map.2 ⟨y,hy,rfl⟩) hv
def cxL (x:List Nat) (a b:Nat):List Nat:=x.set b (x.getD b 0 ^^^ x.getD a 0)
def cxG (x:List Nat) (g:Aa):List Nat:=cxL x g.A.toNat g.B.toNat
def cxs (gs:List Aa) (x:List Nat):List Nat:=gs.foldl cxG x
theorem GK (gs:List Aa) (a b:Nat) (x:List Nat):cxs (gs++[Aa.mk 9 (a:Int) (b:Int)]) x=cxL (cxs gs x) a b:=by
 unfold cxs
 rw [List.foldl_append]; rfl
theorem Be (x:List Nat) (a b:Nat):(cxL x a b).length=x.length:=by simp [cxL]
theorem AP {x:List Nat} {a b:Nat} (hb:b<x.length) (j:Nat):(cxL x a b).getD j 0=if j=b then x.getD b 0 ^^^ x.getD a 0 else x.getD j 0:=by
 unfold cxL
 rw [List.getD_eq_getElem?_getD,List.getElem?_set]
 by_cases h:b=j
 ·subst h; rw [if_pos rfl,if_pos hb,if_pos rfl]; rfl
 ·rw [if_neg h,if_neg (Ne.symm h),← List.getD_eq_getElem?_getD]
theorem Bi {n:Nat} {x:List Nat} (h:NOk n x) (a b:Nat):NOk n (cxL x a b):=⟨by rw [Be]; exact h.1,fun z hz=>by
 rcases List.mem_or_eq_of_mem_set hz with hz | rfl
 ·exact h.2 z hz
 ·exact Nat.xor_lt_two_pow (Bx h.2 _) (Bx h.2 _)⟩
theorem Hz {l x:List Nat} {a b:Nat} (ha:a<x.length) (hb:b<x.length):(cxL x a b).map (thr l)=cxL (x.map (thr l)) a b:=by
 refine E5 (by simp [cxL]) fun i hi=>?_
 rw [List.length_map,Be] at hi
 rw [C4 (by rw [Be]; exact hi),AP hb,AP (by rw [List.length_map]; exact hb),C4 hb,C4 ha]
 split
 ·rw [Er]
 ·rw [C4 hi]
theorem cxM {l:List Nat} {n a b:Nat} (hl:NOk n l) (hn:n≤5) (ha:a<n) (hb:b<n):getI (cI l) (b:Int)=some ((l.getD b 0:Nat):Int)∧getI (cI l) (a:Int)=some ((l.getD a 0:Nat):Int) ∧
  (cI l).set ((b:Int)).toNat (bits .xor .i64 ((l.getD b 0:Nat):Int) ((l.getD a 0:Nat):Int))=cI (cxL l a b):=by
 have h32:=Ax hn
 have h1:=Bx hl.2 b
 have h2:=Bx hl.2 a
 refine ⟨Ar (AS (by rw [hl.1]; exact hb)),Ar (AS (by rw [hl.1]; exact ha)),?_⟩
 rw [E0 (by omega) (by omega),Int.toNat_natCast,DV]; rfl
theorem Ft {n a b:Nat} {l:List Nat} (hl:l.length=n) (ha:a<n) (hb:b<n) (hab:a≠b) (hF:As n l):As n (cxL l a b):=by
 refine OX (fun y hy=>?_) hF
 have hmem:∀ j,j<n→(cxL l a b).getD j 0∈cxL l a b:=fun j hj=>List.mem_of_getElem? (AS (by rw [Be,hl]; exact hj))
 obtain ⟨j,hj⟩:=List.mem_iff_getElem?.1 hy
 have hj2:=(List.getElem?_eq_some_iff.1 hj).1
 have hy2:y=l.getD j 0:=by rw [List.getD_eq_getElem?_getD,hj]; rfl
 by_cases hjb:j=b
 ·have h1:=Du (hmem b hb)
  have h2:=hmem a ha
  rw [AP (by omega),if_neg hab] at h2
  have:=CX h2 h1
  rw [AP (by omega),if_pos rfl,xx] at this
  rw [hy2,hjb]; exact this
 ·have h1:=Du (hmem j (by omega))
  rw [AP (by omega),if_neg hjb] at h1
  rw [hy2]; exact h1
def GsN (n:Nat) (out:List Aa):Prop:=∀ g∈out,∃ a b:Nat,a<n∧b<n∧a≠b∧g=Aa.mk 9 (a:Int) (b:Int)
theorem GsN.snoc {n:Nat} {out:List Aa} (h:GsN n out) {a b:Nat} (ha:a<n) (hb:b<n) (hab:a≠b):GsN n (out++[Aa.mk 9 (a:Int) (b:Int)]):=fun g hg=>by
 rcases List.mem_append.1 hg with hg | hg
 ·exact h g hg
 ·exact ⟨a,b,ha,hb,hab,by simpa using hg⟩
def FM (l:List Nat) (n k:Nat):Prop:=∀ i j,i<n→j<k→(l.getD i 0).testBit j=decide (i=j)
theorem Ix {l:List Nat} {n k a b:Nat} (hl:l.length=n) (ha:a<n) (hb:b<n) (hka:k≤a) (h:FM l n k):FM (cxL l a b) n k:=fun i j hi hj=>by
 rw [AP (by omega)]
 split
 ·rename_i e
  subst e
  rw [Nat.testBit_xor,h i j hi hj,h a j ha hj,decide_eq_false (show ¬ a=j by omega)]
  simp
 ·exact h i j hi hj
def fx:Nat→(Nat→Bool)→Bool
 | 0,_=>false
 | n+1,f=>(fx n f).xor (f n)
theorem EQ:∀ {n:Nat} {f:Nat→Bool},(∀ j,j<n→f j=false)→fx n f=false
 | 0,_,_=>rfl
 | n+1,f,h=>by
  show (fx n f).xor (f n)=false
  rw [EQ (fun j hj=>h j (by omega)),h n (by omega)]; rfl
theorem J5 (f g:Nat→Bool):∀ n,fx n (fun j=>(f j).xor (g j))=(fx n f).xor (fx n g)
 | 0=>rfl
 | n+1=>by
  show (fx n fun j=>(f j).xor (g j)).xor ((f n).xor (g n))=((fx n f).xor (f n)).xor ((fx n g).xor (g n))
  rw [J5 f g n]
  cases fx n f <;> cases fx n g <;> cases f n <;> cases g n <;> rfl
theorem KD {f:Nat→Bool} {s:Nat}:∀ {n:Nat},s<n→(∀ j,j<n→j≠s→f j=false)→fx n f=f s
 | 0,h,_=>absurd h (Nat.not_lt_zero _)
 | n+1,h,hz=>by
  show (fx n f).xor (f n)=f s
  by_cases hs:s=n
  ·subst hs
   rw [EQ (fun j hj=>hz j (by omega) (by omega))]
   simp
  ·rw [KD (show s<n by omega) (fun j hj hne=>hz j (by omega) hne),hz n (by omega) (fun h=>hs h.symm)]
   simp
/-- There is a row to take. -/
theorem Ou {l:List Nat} {n k:Nat} (hl:l.length=n) (hF:As n l) (hk:k<n) (hc:FM l n k) (hz:∀ i,k≤i→i<n→(l.getD i 0).testBit k=false):False:=by
 obtain ⟨v,v1,v2,v3⟩:=hF k hk
 have:=BI (P:=fun v=>v.testBit k=fx k (fun j=>v.testBit j&&(l.getD j 0).testBit k)) (by rw [Nat.zero_testBit,EQ (fun j _=>by rw [Nat.zero_testBit]; rfl)]) (fun v y hy hv=>by
  obtain ⟨i,hi⟩:=List.mem_iff_getElem?.1 hy
  have hi2:=(List.getElem?_eq_some_iff.1 hi).1
  have hy2:y=l.getD i 0:=by rw [List.getD_eq_getElem?_getD,hi]; rfl
  have hrow:y.testBit k=fx k (fun j=>y.testBit j&&(l.getD j 0).testBit k):=by
   by_cases hik:i<k
   ·rw [KD (s:=i) hik (fun j hj hne=>by rw [hy2,hc i j (by omega) hj,decide_eq_false (Ne.symm hne)]; rfl),hy2,hc i i (by omega) hik,decide_eq_true rfl]; rfl
   ·rw [EQ (fun j hj=>by rw [hy2,hc i j (by omega) hj,decide_eq_false (show ¬ i=j by omega)]; rfl),hy2]
    exact hz i (by omega) (by omega)
  have e:(fun j=>(v ^^^ y).testBit j&&(l.getD j 0).testBit k)=fun j=>(v.testBit j&&(l.getD j 0).testBit k).xor (y.testBit j&&(l.getD j 0).testBit k):=by
   funext j
   rw [Nat.testBit_xor]
   cases v.testBit j <;> cases y.testBit j <;> cases (l.getD j 0).testBit k <;> rfl
  rw [Nat.testBit_xor,hv,hrow,e,J5]) v1
 rw [v3,EQ (fun j hj=>by rw [v2 j hj]; rfl)] at this
 cases this
/-- Rows that the gates so far have made of the first ones. -/
def El (n k:Nat) (l0:List Nat) (b:Nat) (P:List Nat→Prop) (s:List Int×List Aa):Prop:=∃ l,s.1=cI l∧NOk n l∧GsN n s.2∧s.2.length≤b∧l=cxs s.2 l0∧As n l∧FM l n k∧P l
theorem El.mono {n k b b':Nat} {l0:List Nat} {P P':List Nat→Prop} {s:List Int×List Aa} (h:El n k l0 b P s) (hb:b≤b') (hP:∀ l,P l→P' l):El n k l0 b' P' s:=by
 obtain ⟨l,h1,h2,h3,h4,h5,h6,h7,h8⟩:=h
 exact ⟨l,h1,h2,h3,by omega,h5,h6,h7,hP l h8⟩
theorem Mx {n k b:Nat} {l0:List Nat} (hn:n≤5) (hk:k<n) (hb:b≤900) {r:List Int} (hr:r.length=n) (s:List Int×List Aa×Int)
  (h:∃ i:Nat,s.2.2=(i:Int)∧k+1≤i∧i≤n∧El n k l0 (b+i) (fun l=>(∀ i',k<i'→i'<i→(l.getD i' 0).testBit k=false)∨(l.getD k 0).testBit k=true) (s.1,s.2.1)) :
  (∃ s',Bb r k s=some (.nx s')∧(∃ i:Nat,s'.2.2=(i:Int)∧k+1≤i∧i≤n∧El n k l0 (b+i) (fun l=>(∀ i',k<i'→i'<i→(l.getD i' 0).testBit k=false)∨(l.getD k 0).testBit k=true) (s'.1,s'.2.1))∧n-s'.2.2.toNat<n-s.2.2.toNat) ∨
  (∃ s',Bb r k s=some (.br s')∧El n k l0 (b+n) (fun l=>(l.getD k 0).testBit k=true) (s'.1,s'.2.1))∨∃ q:List Int×List Aa,Bb r k s=some (.rt q)∧False:=by
 obtain ⟨R1,o1,i1⟩:=s
 obtain ⟨i,hi1,hki,hin,l,h1,h2,h3,h4,h5,h6,h7,h8⟩:=h
 simp only at hi1 h1 h3 h4 h5 hki hin
 subst hi1 h1
 have h32:=Ax hn
 have hkx:getI (cI l) (k:Int)=some ((l.getD k 0:Nat):Int):=Ar (AS (by rw [h2.1]; exact hk))
 have hkx2:=Bx h2.2 k
 unfold Bb
 simp only
 rw [hr]
 by_cases hi:i<n
 ·rw [decide_eq_true (show (i:Int)<(n:Int) by omega),hkx]
  simp only [gb,cond_true,Option.bind_some,Bool.true_and]
  rw [chk_t (fun _=>by omega),tb0 (by omega) (by omega)]
  cases hb1:(l.getD k 0).testBit k with
  | true =>
   simp only [Bool.not_true,cond_false]
   exact .inr (.inl ⟨_,rfl,l,rfl,h2,h3,by simp only; omega,h5,h6,h7,hb1⟩)
  | false =>
   have h8:∀ i',k<i'→i'<i→(l.getD i' 0).testBit k=false:=h8.resolve_right (fun e=>by rw [hb1] at e; cases e)
   simp only [Bool.not_false,cond_true]
   have hix:getI (cI l) (i:Int)=some ((l.getD i 0:Nat):Int):=Ar (AS (by rw [h2.1]; exact hi))
   have hix2:=Bx h2.2 i
   rw [hix]
   simp only [Option.bind_some]
   rw [chk_t (by omega),tb (by omega) (by omega),wrap_i64 (a:=(i:Int)+1) ⟨by omega,by omega⟩]
   refine .inl ?_
   cases hb2:(l.getD i 0).testBit k with
   | true =>
    obtain ⟨c3,c4,c5⟩:=cxM h2 hn hi hk
    simp only [cond_true]
    rw [FZ (n:=n) (by omega) c3 c4 c5]
    simp only [Option.bind_some]
    first | rw [chk_t (by omega)] | skip
    refine ⟨_,rfl,⟨i+1,by simp only; omega,by omega,by omega,_,rfl,Bi h2 _ _,h3.snoc hi hk (by omega),by simp only [List.length_append,List.length_singleton]; omega,?_,Ft h2.1 hi hk (by omega) h6,Ix h2.1 hi hk (by omega) h7,.inr ?_⟩,by simp only; omega⟩
    ·simp only; rw [GK,← h5]
    ·rw [AP (by rw [h2.1]; exact hk),if_pos rfl,Nat.testBit_xor,hb1,hb2]; rfl
   | false =>
    simp only [cond_false,Option.bind_some]
    refine ⟨_,rfl,⟨i+1,by simp only; omega,by omega,by omega,l,rfl,h2,h3,by simp only; omega,h5,h6,h7,.inl fun i' a1 a2=>?_⟩,by simp only; omega⟩
    rcases Nat.lt_succ_iff_lt_or_eq.1 a2 with a3 | rfl
    ·exact h8 i' a1 a3
    ·exact hb2
 ·rw [decide_eq_false (show ¬ (i:Int)<(n:Int) by omega)]
  simp only [gb,cond_false,Option.bind_some,Bool.false_and]
  first | rw [chk_t (fun h=>by cases h)] | skip
  refine .inr (.inl ⟨_,rfl,l,rfl,h2,h3,by simp only; omega,h5,h6,h7,?_⟩)
  cases hb1:(l.getD k 0).testBit k with
  | true=>exact hb1
  | false =>
   have h8:∀ i',k<i'→i'<i→(l.getD i' 0).testBit k=false:=h8.resolve_right (fun e=>by rw [hb1] at e; cases e)
   refine (Ou h2.1 h6 hk h7 fun i' a1 a2=>?_).elim
   rcases Nat.lt_or_ge k i' with a3 | a3
   ·exact h8 i' a3 (by omega)
   ·rw [show i'=k by omega]; exact hb1
theorem MC {n k b i:Nat} {l0:List Nat} (hn:n≤5) (hk:k<n) (hb:b≤900) (hi:i<n) {s:List Int×List Aa} (h:El n k l0 b (fun l=>(l.getD k 0).testBit k=true∧∀ i',i'<i→i'≠k→(l.getD i' 0).testBit k=false) s) :
  ∃ s',BQ k i s=some s'∧El n k l0 (b+1) (fun l=>(l.getD k 0).testBit k=true∧∀ i',i'<i+1→i'≠k→(l.getD i' 0).testBit k=false) s':=by
 obtain ⟨R1,o1⟩:=s
 obtain ⟨l,h1,h2,h3,h4,h5,h6,h7,h8,h9⟩:=h
 simp only at h1 h3 h4 h5
 subst h1
 have h32:=Ax hn
 have hix:getI (cI l) (i:Int)=some ((l.getD i 0:Nat):Int):=Ar (AS (by rw [h2.1]; exact hi))
 have hix2:=Bx h2.2 i
 unfold BQ
 simp only
 by_cases hik:i=k
 ·subst hik
  have e:((i:Int) != (i:Int))=false:=by simp
  rw [e]
  simp only [gb,cond_false,Option.bind_some,Bool.false_and]
  first | rw [chk_t (fun h=>by cases h)] | skip
  refine ⟨_,rfl,l,rfl,h2,h3,by simp only; omega,h5,h6,h7,h8,fun i' a1 a2=>h9 i' (by omega) a2⟩
 ·have e:((i:Int) != (k:Int))=true:=by simp; omega
  rw [e,hix]
  simp only [gb,cond_true,Option.bind_some,Bool.true_and]
  rw [chk_t (fun _=>by omega),tb (by omega) (by omega)]
  cases hb2:(l.getD i 0).testBit k with
  | true =>
   obtain ⟨c3,c4,c5⟩:=cxM h2 hn hk hi
   simp only [cond_true]
   rw [FZ (n:=n) (by omega) c3 c4 c5]
   simp only [Option.bind_some]
   first | rw [chk_t (by omega)] | skip
   refine ⟨_,rfl,_,rfl,Bi h2 _ _,h3.snoc hk hi (by omega),by simp only [List.length_append,List.length_singleton]; omega,?_,Ft h2.1 hk hi (by omega) h6,Ix h2.1 hk hi (Nat.le_refl _) h7,?_,fun i' a1 a2=>?_⟩
   ·simp only; rw [GK,← h5]
   ·rw [AP (by rw [h2.1]; exact hi),if_neg (by omega)]; exact h8
   ·rw [AP (by rw [h2.1]; exact hi)]
    split
    ·rw [Nat.testBit_xor,hb2,h8]; rfl
    ·exact h9 i' (by omega) a2
  | false =>
   simp only [cond_false,Option.bind_some]
   refine ⟨_,rfl,l,rfl,h2,h3,by simp only; omega,h5,h6,h7,h8,fun i' a1 a2=>?_⟩
   rcases Nat.lt_succ_iff_lt_or_eq.1 a1 with a3 | rfl
   ·exact h9 i' a3 a2
   ·exact hb2
theorem PG {n k b:Nat} {l0:List Nat} (hn:n≤5) (hk:k<n) (hb:b≤800) {r:List Int} (hr:r.length=n) {s:List Int×List Aa} (h:El n k l0 b (fun _=>True) s) :
  ∃ s',BK r k s=some s'∧El n (k+1) l0 (b+10) (fun _=>True) s':=by
 obtain ⟨R1,o1⟩:=s
 unfold BK
 simp only
 rw [wrap_i64 (a:=(k:Int)+1) ⟨by omega,by omega⟩]
 rcases Cc (f:=Bb r k) _ _ (fun _:List Int×List Aa=>False) (fun s=>n-s.2.2.toNat) (fun s hs=>Mx (l0:=l0) (b:=b) hn hk (by omega) hr s hs) fuel (R1,o1,(k:Int)+1)
  ⟨k+1,by simp only; omega,by omega,by omega,h.mono (by omega) (fun l _=>.inl fun i' a1 a2=>by omega)⟩ (AC (by omega)) with ⟨⟨R2,o2,i2⟩,e1,e2⟩ | ⟨r,_,hr⟩
 ·rw [e1]
  simp only [Option.bind_some,orR]
  rw [chk_t (by omega),hr]
  obtain ⟨s,f1,f2⟩:=forN_inv (f:=BQ k) (fun i s=>El n k l0 (b+n+i) (fun l=>(l.getD k 0).testBit k=true∧∀ i',i'<i→i'≠k→(l.getD i' 0).testBit k=false) s) n 0 (R2,o2) (e2.mono (by omega) (fun l hl=>⟨hl,fun i' a=>absurd a (Nat.not_lt_zero _)⟩)) (fun i s _ hi h2=>by
   obtain ⟨s',a1,a2⟩:=MC (b:=b+n+i) hn hk (by omega) (show i<n by omega) h2
   exact ⟨s',a1,a2.mono (by omega) (fun _ h=>h)⟩)
  rw [f1]
  refine ⟨s,rfl,?_⟩
  obtain ⟨l,h1,h2,h3,h4,h5,h6,h7,h8,h9⟩:=f2
  refine ⟨l,h1,h2,h3,by omega,h5,h6,fun i j hi hj=>?_,trivial⟩
  rcases Nat.lt_succ_iff_lt_or_eq.1 hj with a | rfl
  ·exact h7 i j hi a
  ·by_cases hij:i=j
   ·subst hij; rw [h8,decide_eq_true rfl]
   ·rw [h9 i (by omega) hij,decide_eq_false hij]
 ·exact hr.elim
theorem IL {l:List Nat} {n:Nat} (hl:NOk n l) (hn:n≤5) (hF:As n l):∃ gs,BP (Ad.mk (cI l))=some gs∧GsN n gs∧gs.length≤50∧cxs gs l=idn n:=by
 unfold BP AL
 have hlen:(cI l).length=n:=by rw [Aj]; exact hl.1
 simp only
 rw [chk_t (by omega)]
 simp only [Option.bind_some]
 rw [chk_t (by omega),hlen]
 obtain ⟨s,f1,l',h1,h2,h3,h4,h5,h6,h7,_⟩:=forN_inv (f:=BK (cI l)) (fun i s=>El n i l (10*i) (fun _=>True) s) n 0 (cI l,[]) ⟨l,rfl,hl,(fun g hg=>nomatch hg),Nat.le_refl 0,rfl,hF,fun i j _ hj=>absurd hj (Nat.not_lt_zero _),trivial⟩ (fun i s _ hi h=>by
  obtain ⟨s',a1,a2⟩:=PG (b:=10*i) hn (show i<n by omega) (by omega) hlen h
  exact ⟨s',a1,a2.mono (by omega) (fun _ h=>h)⟩)
 rw [f1]
 obtain ⟨R',o'⟩:=s
 refine ⟨o',rfl,h3,by simp only at h4; omega,?_⟩
 simp only at h5
 rw [← h5]
 refine E5 (by rw [h2.1,(AB n).1]) fun i hi=>?_
 rw [h2.1] at hi
 rw [Gs hi]
 refine Nat.eq_of_testBit_eq fun j=>?_
 rw [Nat.testBit_two_pow]
 rcases Nat.lt_or_ge j n with hj | hj
 ·exact h7 i j hi (by omega)
 ·rw [Fm (Bx h2.2 i) hj,decide_eq_false (show ¬ i=j by omega)]
theorem FB:∀ n:Fin 6,Bu (n.val:Int)=some (Ad.mk (cI (idn n.val))):=by decide +kernel
theorem M2 {l:List Nat} {n:Nat} (hl:NOk n l) (hn:n≤5) (hF:As n l):∃ l',Cp (Ad.mk (cI l))=some (Ad.mk (cI l'))∧NOk n l'∧As n l'∧l'.map (thr l)=idn n:=by
 unfold Cp
 have hlen:(cI l).length=n:=by rw [Aj]; exact hl.1
 rw [hlen]
 have hid:=FB ⟨n,by omega⟩
 simp only at hid
 obtain ⟨gs,g1,g2,g3,g4⟩:=IL hl hn hF
 rw [hid,g1]
 simp only [Option.bind_some]
 rw [chk_t (by omega)]
 obtain ⟨s,f1,l',f2,f3,f4,f5⟩:=forN_inv (f:=CD gs) (fun i s=>∃ l',s=cI l'∧NOk n l'∧As n l'∧l'.map (thr l)=cxs (gs.take i) l) gs.length 0 (cI (idn n)) ⟨idn n,rfl,AB n,Fi n,by rw [Ks hl.1 hn]; rfl⟩ (fun i s _ hi ⟨l',e2,e3,e4,e5⟩=>by
  subst e2
  have hx:=List.getElem?_eq_getElem (show i<gs.length by omega)
  obtain ⟨a,b,ha,hb,hab,hg⟩:=g2 _ (List.mem_of_getElem? hx)
  rw [hg] at hx
  obtain ⟨c3,c4,c5⟩:=cxM e3 hn ha hb
  refine ⟨cI (cxL l' a b),?_,_,rfl,Bi e3 _ _,?_,?_⟩
  ·unfold CD
   rw [getI_nat,hx]
   simp only [Option.bind_some,c3,c4,c5]
  ·exact Ft e3.1 ha hb hab e4
  ·rw [Hz (by rw [e3.1]; exact ha) (by rw [e3.1]; exact hb),e5,List.take_add_one,hx]
   exact (GK _ a b l).symm)
 rw [f1]
 refine ⟨l',by rw [f2]; rfl,f3,f4,?_⟩
 rw [f5,Nat.zero_add,List.take_length,g4]

def Ao:Nat→(Nat→Int)→Int
 | 0,_=>0
 | n+1,f=>Ao n f+f n
theorem IG:∀ {n:Nat} {f g:Nat→Int},(∀ k,k<n→f k=g k)→Ao n f=Ao n g
 | 0,_,_,_=>rfl
 | n+1,f,g,h=>by
  show Ao n f+f n=Ao n g+g n
  rw [IG (fun k hk=>h k (by omega)),h n (by omega)]
theorem FU:∀ {n:Nat} {f:Nat→Int},(∀ k,k<n→f k=0)→Ao n f=0
 | 0,_,_=>rfl
 | n+1,f,h=>by
  show Ao n f+f n=0
  rw [FU (fun k hk=>h k (by omega)),h n (by omega)]; rfl
theorem Gb {f:Nat→Int} {s:Nat}:∀ {n:Nat},s<n→(∀ k,k<n→k≠s→f k=0)→Ao n f=f s
 | 0,h,_=>absurd h (Nat.not_lt_zero _)
 | n+1,h,hz=>by
  show Ao n f+f n=f s
  by_cases hs:s=n
  ·subst hs
   rw [FU (fun k hk=>hz k (by omega) (by omega))]; omega
  ·rw [Gb (show s<n by omega) (fun k hk hne=>hz k (by omega) hne),hz n (by omega) (fun h=>hs h.symm)]; omega
theorem GV (f g:Nat→Int):∀ n,Ao n (fun k=>f k+g k)=Ao n f+Ao n g
 | 0=>rfl
 | n+1=>by
  show Ao n (fun k=>f k+g k)+(f n+g n)=(Ao n f+f n)+(Ao n g+g n)
  rw [GV f g n]; omega
/-- What a table adds up to. -/
def AY (f:Nat→Int) (S:List Int):Int:=Ao 32 (fun m=>f m*S.getD m 0)
theorem GD {S:List Int} {j:Nat} (hj:j<S.length) (y:Int) (m:Nat):(S.set j y).getD m 0=if m=j then y else S.getD m 0:=by
 rw [List.getD_eq_getElem?_getD,List.getElem?_set]
 by_cases h:j=m
 ·subst h; rw [if_pos rfl,if_pos hj,if_pos rfl]; rfl
 ·rw [if_neg h,if_neg (Ne.symm h),← List.getD_eq_getElem?_getD]
theorem LM (f:Nat→Int) {S:List Int} (hS:S.length=32) {j:Nat} (hj:j<32) (y:Int):AY f (S.set j y)=AY f S+f j*(y-S.getD j 0):=by
 unfold AY
 have:(fun m=>f m*(S.set j y).getD m 0)=fun m=>f m*S.getD m 0+(if m=j then f j*(y-S.getD j 0) else 0):=by
  funext m
  rw [GD (by omega)]
  split
  ·rename_i e; subst e; rw [Int.mul_sub]; omega
  ·omega
 rw [this,GV,Gb (s:=j) hj (fun k _ hk=>if_neg hk),if_pos rfl]
/-- What terms add up to. -/
def Ai (f:Nat→Int):List Ab→Int
 | []=>0
 | t::T=>f t.Mask.toNat*t.Coef+Ai f T
theorem Gz (f:Nat→Int) (t:Ab):∀ T,Ai f (T++[t])=Ai f T+f t.Mask.toNat*t.Coef
 | []=>by simp [Ai]
 | x::T=>by
  show f x.Mask.toNat*x.Coef+Ai f (T++[t])=f x.Mask.toNat*x.Coef+Ai f T+_
  rw [Gz f t T]; omega
theorem Oe (f:Nat→Int) {T:List Ab} {i:Nat} {x:Ab} (hx:T[i]?=some x):Ai f (T.take (i+1))=Ai f (T.take i)+f x.Mask.toNat*x.Coef:=by
 rw [List.take_add_one,hx]
 exact Gz f x _
/-- The terms of a table. -/
def tl (S:List Int):Nat→List Ab
 | 0=>[]
 | n+1=>tl S n++(if 0<n∧0<S.getD n 0 then [Ab.mk (n:Int) (S.getD n 0)] else [])
/-- A table that is taken. -/
def AG (N:Nat) (S:List Int):Prop:=S.length=32∧(∀ m,0≤S.getD m 0∧S.getD m 0≤7)∧∀ m,N≤m→S.getD m 0=0
theorem GA (S:List Int):∀ n,(tl S n).length≤n
 | 0=>Nat.le_refl _
 | n+1=>by
  have:=GA S n
  unfold tl
  split
  ·simp; omega
  ·simp; omega
theorem IM {N:Nat} {S:List Int} (h:AG N S):Dm S=some (tl S 32):=by
 obtain ⟨l,h1,h2⟩:=forN_inv (f:=Fo S) (fun i s=>s=tl S i) 32 0 [] rfl (fun i s _ hi hs=>by
  subst hs
  have hx:getI S (i:Int)=some (S.getD i 0):=by rw [getI_nat,List.getD_eq_getElem?_getD,List.getElem?_eq_getElem (show i<S.length by have:=h.1; omega)]; rfl
  have hl:=GA S i
  refine ⟨_,?_,rfl⟩
  unfold Fo
  simp only [hx,Option.bind_some]
  rw [show tl S (i+1)=tl S i++(if 0<i∧0<S.getD i 0 then [Ab.mk (i:Int) (S.getD i 0)] else []) from rfl]
  by_cases hc:0<i∧0<S.getD i 0
  ·rw [if_pos hc,decide_eq_true (show (0:Int)<(i:Int) by omega),decide_eq_true hc.2]
   simp only [Bool.and_self,cond_true]
   rw [chk_t (by omega)]
   rfl
  ·rw [if_neg hc,List.append_nil]
   have e:(decide ((0:Int)<(i:Int))&&decide (0<S.getD i 0))=false:=by
    simp only [Bool.and_eq_false_iff,decide_eq_false_iff_not]; omega
   rw [e]; rfl)
 unfold Dm
 rw [h1,h2]; rfl
theorem HQ {N:Nat} {S:List Int} (h:AG N S) {f:Nat→Int} (hf:f 0=0):∀ n,Ai f (tl S n)=Ao n (fun m=>f m*S.getD m 0)
 | 0=>rfl
 | n+1=>by
  show Ai f (tl S n++_)=Ao n (fun m=>f m*S.getD m 0)+f n*S.getD n 0
  rw [← HQ h hf n]
  split
  ·rw [Gz]; rfl
  ·rename_i hc
   rw [List.append_nil]
   have h0:=(h.2.1 n).1
   by_cases hn:n=0
   ·subst hn; rw [hf]; omega
   ·rw [show S.getD n 0=0 by omega]; omega
theorem Mu {N:Nat} {S:List Int} (h:AG N S) {f:Nat→Int} (hf:f 0=0):Ai f (tl S 32)=AY f S:=HQ h hf 32
/-- Two tables with the same terms. -/
theorem NO {N N':Nat} {S S':List Int} (h:AG N S) (h':AG N' S') (he:tl S 32=tl S' 32) (m:Nat) (h1:1≤m) (h2:m<32):S.getD m 0=S'.getD m 0:=by
 have key:∀ {N:Nat} {S:List Int},AG N S→Ai (fun k=>if k=m then 1 else 0) (tl S 32)=S.getD m 0:=fun {N S} h=>by
  rw [Mu h (if_neg (by omega))]
  unfold AY
  rw [Gb (s:=m) h2 (fun k _ hk=>by show (if k=m then (1:Int) else 0)*_=0; rw [if_neg hk]; omega)]
  show (if m=m then (1:Int) else 0)*_=_
  rw [if_pos rfl]; omega
 rw [← key h,← key h',he]
theorem JN {S S':List Int}:∀ {n:Nat},(∀ m,1≤m→m<n→S.getD m 0=S'.getD m 0)→tl S n=tl S' n
 | 0,_=>rfl
 | n+1,h=>by
  unfold tl
  rw [JN (fun m h1 h2=>h m h1 (by omega))]
  by_cases hn:0<n
  ·rw [h n hn (by omega)]
  ·rw [if_neg (fun a=>hn a.1),if_neg (fun a=>hn a.1)]
/-- One more onto a table. -/
theorem Mi {N:Nat} {S:List Int} (h:AG N S) (hN:N≤32) {m:Nat} (hm:m<N) {d:Int} (hd : -28≤d∧d≤28):∃ S',AU S (m:Int) d=some S'∧AG N S'∧∀ f,∃ q,AY f S'=AY f S+f m*d+8*q:=by
 have hl:=h.1
 have hx:getI S (m:Int)=some (S.getD m 0):=by rw [getI_nat,List.getD_eq_getElem?_getD,List.getElem?_eq_getElem (show m<S.length by omega)]; rfl
 have hb:=h.2.1 m
 refine ⟨S.set m ((S.getD m 0+d) % 8),?_,⟨by simpa using hl,fun j=>?_,fun j hj=>?_⟩,fun f=>⟨f m*-((S.getD m 0+d) / 8),?_⟩⟩
 ·unfold AU
  rw [hx]
  simp only [Option.bind_some]
  rw [wrap_i64 (a:=S.getD m 0+d) ⟨by omega,by omega⟩]
  have:=JE (x:=S.getD m 0+d) ⟨by omega,by omega⟩
  unfold m8 at this
  rw [this]; rfl
 ·rw [GD (by omega)]
  split
  ·omega
  ·exact h.2.1 j
 ·rw [GD (by omega),if_neg (by omega)]
  exact h.2.2 j hj
 ·rw [LM f hl (by omega)]
  generalize S.getD m 0=s at *
  have e:(s+d) % 8-s=d+8*-((s+d) / 8):=by omega
  rw [e,Int.mul_add,Int.mul_left_comm]
  omega
theorem NV (N:Nat):AG N (List.replicate 32 0)∧∀ f,AY f (List.replicate 32 0)=0:=by
 have e:∀ m,(List.replicate 32 (0:Int)).getD m 0=0:=fun m=>by
  rw [List.getD_eq_getElem?_getD,List.getElem?_replicate]; split <;> rfl
 exact ⟨⟨by simp,fun m=>by rw [e]; omega,fun m _=>e m⟩,fun f=>FU fun k _=>by rw [e]; omega⟩
def pn (x:Nat):Nat:=(AT x 32).length % 2
theorem Jp {a:Nat} (b:Nat) (ha:a<32):a &&& b<32:=Nat.lt_of_le_of_lt Nat.and_le_left ha
def phS (x:Nat) (m:Nat):Int:=((pn (m &&& x):Nat):Int)
theorem LQ {p:Ah} {n:Nat} {l:List Nat} (h:A8 p n l):∀ x∈p.Terms,1≤x.Coef∧x.Coef≤7:=fun x hx=>by
 obtain ⟨i,hi⟩:=List.mem_iff_getElem?.1 hx
 exact (h.2.2.2.1 i x hi).2.2
theorem J1 {p:Ah} {n:Nat} {l:List Nat} (h:A8 p n l):∀ x∈p.Terms,∃ m:Nat,x.Mask=(m:Int)∧1≤m∧m<2 ^ n:=fun x hx=>by
 obtain ⟨i,hi⟩:=List.mem_iff_getElem?.1 hx
 exact Nm h hi
theorem HK {f g:Nat→Int}:∀ {T:List Ab},(∀ x∈T,f x.Mask.toNat=g x.Mask.toNat)→Ai f T=Ai g T
 | [],_=>rfl
 | t::T,h=>by
  show f t.Mask.toNat*t.Coef+Ai f T=g t.Mask.toNat*t.Coef+Ai g T
  rw [h t (List.mem_cons_self ..),HK (fun x hx=>h x (List.mem_cons_of_mem _ hx))]
theorem PQ {l l':List Nat} {n:Nat} (hl:NOk n l) (hl':NOk n l') (hn:n≤5) (h:l'.map (thr l)=idn n) {m:Nat} (hm:m<2 ^ n):thr l (thr l' m)=m:=by
 have hs:=EK (Fi n) n 0 m (by omega) hm (fun j hj=>absurd hj (Nat.not_lt_zero _)) (AB n).2
 refine BI (P:=fun m=>thr l (thr l' m)=m) (by rw [FD,FD]) (fun v y hy he=>?_) hs
 obtain ⟨q,hq,rfl⟩:=List.mem_map.1 hy
 have hq:=List.mem_range.1 hq
 rw [Er,Er,he,Gv l' (by omega)]
 have:(l'.map (thr l)).getD q 0=2 ^ q:=by rw [h,Gs hq]
 rw [C4 (by rw [hl'.1]; exact hq)] at this
 rw [this]
def pwL:List Int:=[0,1,1,-2,1,-2,-2,4,1,-2,-2,4,-2,4,4,0,1,-2,-2,4,-2,4,4,0,-2,4,4,0,4,0,0,0]
def pnL:List Nat:=[0,1,1,0,1,0,0,1,1,0,0,1,0,1,1,0,1,0,0,1,0,1,1,0,0,1,1,0,1,0,0,1]
def mf (s m:Nat):Int:=if m &&& s=s then pwL.getD s 0 else 0
theorem KU:∀ s:Fin 32,(if 3<(AT s.val 32).length then pwL.getD s.val 0=0 else getI ([0,1,(-2),4]:List Int) (((AT s.val 32).length:Nat):Int)=some (pwL.getD s.val 0)):=by decide +kernel
theorem H1:∀ m:Fin 32,pn m.val=pnL.getD m.val 0:=by decide +kernel
theorem PV:∀ s:Fin 32,-2≤pwL.getD s.val 0∧pwL.getD s.val 0≤4:=by decide +kernel
theorem PM:∀ m x:Fin 32,(Ao 32 (fun s=>(if s &&& x.val=s then 1 else 0)*(if m.val &&& s=s then pwL.getD s 0 else 0))-((pnL.getD (m.val &&& x.val) 0:Nat):Int)) % 8=0:=by decide +kernel
/-- The sign with which a phase comes into a monomial. -/
def sgx (s x:Nat):Int:=if x &&& s=x then (if pnL.getD (s ^^^ x) 0=0 then 1 else -1) else 0
theorem PR:∀ m s:Fin 32,(Ao 32 (fun x=>sgx s.val x*((pnL.getD (m.val &&& x) 0:Nat):Int))-(if m.val &&& s.val=s.val then pwL.getD s.val 0 else 0)) % 8=0:=by decide +kernel
theorem Gj {f g:Nat→Int}:∀ {T:List Ab},(∀ x∈T,(f x.Mask.toNat-g x.Mask.toNat) % 8=0)→(Ai f T-Ai g T) % 8=0
 | [],_=>rfl
 | t::T,h=>by
  have h1:=h t (List.mem_cons_self ..)
  have h2:=Gj (T:=T) (fun x hx=>h x (List.mem_cons_of_mem _ hx))
  show (f t.Mask.toNat*t.Coef+Ai f T-(g t.Mask.toNat*t.Coef+Ai g T)) % 8=0
  have e:f t.Mask.toNat*t.Coef+Ai f T-(g t.Mask.toNat*t.Coef+Ai g T)=(f t.Mask.toNat-g t.Mask.toNat)*t.Coef+(Ai f T-Ai g T):=by rw [Int.sub_mul]; omega
  rw [e,Int.add_emod,Int.mul_emod,h1,h2]; simp
theorem I0 (c:Int) (f:Nat→Int):∀ n,Ao n (fun s=>f s*c)=Ao n f*c
 | 0=>by show (0:Int)=0*c; omega
 | n+1=>by
  show Ao n (fun s=>f s*c)+f n*c=(Ao n f+f n)*c
  rw [I0 c f n,Int.add_mul]
theorem Hi (h:Nat→Int) (f:Nat→Nat→Int) (n:Nat):∀ T:List Ab,Ai (fun m=>Ao n (fun s=>h s*f s m)) T=Ao n (fun s=>h s*Ai (f s) T)
 | []=>by
  show (0:Int)=Ao n (fun s=>h s*0)
  rw [FU (fun k _=>by omega)]
 | t::T=>by
  show Ao n (fun s=>h s*f s t.Mask.toNat)*t.Coef+Ai (fun m=>Ao n (fun s=>h s*f s m)) T=Ao n (fun s=>h s*(f s t.Mask.toNat*t.Coef+Ai (f s) T))
  rw [Hi h f n T,← I0,← GV]
  exact IG fun k _=>by rw [Int.mul_add,Int.mul_assoc]
theorem GU {f g:Nat→Int}:∀ {n:Nat},(∀ k,k<n→(f k-g k) % 8=0)→(Ao n f-Ao n g) % 8=0
 | 0,_=>rfl
 | n+1,h=>by
  have h1:=GU (n:=n) (fun k hk=>h k (by omega))
  have h2:=h n (by omega)
  show (Ao n f+f n-(Ao n g+g n)) % 8=0
  omega
theorem Jl {p:Ah} {n:Nat} {l:List Nat} (h:A8 p n l):∀ x∈p.Terms,x.Mask.toNat<32:=fun x hx=>by
 obtain ⟨m,hm,_,m2⟩:=J1 h x hx
 have:=Ax h.1.2.1
 omega
theorem HX {p:Ah} {n:Nat} {l:List Nat} (h:A8 p n l) {x:Nat} (hx:x<32):(Ao 32 (fun s=>(if s &&& x=s then 1 else 0)*Ai (mf s) p.Terms)-Ai (phS x) p.Terms) % 8=0:=by
 rw [← Hi]
 refine Gj fun y hy=>?_
 have hm:=Jl h y hy
 have:=PM ⟨y.Mask.toNat,hm⟩ ⟨x,hx⟩
 simp only at this
 show (Ao 32 (fun s=>(if s &&& x=s then 1 else 0)*mf s y.Mask.toNat)-((pn (y.Mask.toNat &&& x):Nat):Int)) % 8=0
 rw [H1 ⟨_,Jp x hm⟩]
 exact this
theorem If {p:Ah} {n:Nat} {l:List Nat} (h:A8 p n l) {s:Nat} (hs:s<32):(Ao 32 (fun x=>sgx s x*Ai (phS x) p.Terms)-Ai (mf s) p.Terms) % 8=0:=by
 rw [← Hi]
 refine Gj fun y hy=>?_
 have hm:=Jl h y hy
 have:=PR ⟨y.Mask.toNat,hm⟩ ⟨s,hs⟩
 simp only at this
 show (Ao 32 (fun x=>sgx s x*((pn (y.Mask.toNat &&& x):Nat):Int))-mf s y.Mask.toNat) % 8=0
 have e:(fun x=>sgx s x*((pn (y.Mask.toNat &&& x):Nat):Int))=fun x=>sgx s x*((pnL.getD (y.Mask.toNat &&& x) 0:Nat):Int):=by
  funext x
  rw [H1 ⟨_,Jp x hm⟩]
 rw [e]
 exact this
theorem It {s x n:Nat} (h:s &&& x=s) (hx:x<2 ^ n):s<2 ^ n:=by
 rw [← h]; exact Nat.lt_of_le_of_lt Nat.and_le_right hx
/-- The phases are the same just if the monomials are. -/
theorem Ol {p q:Ah} {n:Nat} {l l':List Nat} (hp:A8 p n l) (hq:A8 q n l') :
  (∀ x,x<2 ^ n→(Ai (phS x) p.Terms-Ai (phS x) q.Terms) % 8=0)↔∀ s,s<2 ^ n→(Ai (mf s) p.Terms-Ai (mf s) q.Terms) % 8=0:=by
 have h32:=Ax hp.1.2.1
 constructor
 ·intro h s hs
  have h1:=If hp (show s<32 by omega)
  have h2:=If hq (show s<32 by omega)
  have h3:=GU (n:=32) (f:=fun x=>sgx s x*Ai (phS x) p.Terms) (g:=fun x=>sgx s x*Ai (phS x) q.Terms) (fun x _=>by
   by_cases hc:x &&& s=x
   ·have:=h x (It hc hs)
    rw [← Int.mul_sub,Int.mul_emod,this]; simp
   ·unfold sgx; rw [if_neg hc]; simp)
  omega
 ·intro h x hx
  have h1:=HX hp (show x<32 by omega)
  have h2:=HX hq (show x<32 by omega)
  have h3:=GU (n:=32) (f:=fun s=>(if s &&& x=s then 1 else 0)*Ai (mf s) p.Terms) (g:=fun s=>(if s &&& x=s then 1 else 0)*Ai (mf s) q.Terms) (fun s _=>by
   by_cases hc:s &&& x=s
   ·have:=h s (It hc hx)
    simp only [if_pos hc]
    rw [← Int.mul_sub,Int.mul_emod,this]; simp
   ·simp only [if_neg hc]; simp)
  omega
theorem IQ {N:Nat} {S S':List Int} {m:Nat} {d:Int} (h:∀ f,∃ q,AY f S'=AY f S+f m*d+8*q) {s:Nat} (hs:s<32):(S'.getD s 0-(S.getD s 0+(if m=s then d else 0))) % 8=0:=by
 have key:∀ S:List Int,AY (fun k=>if k=s then 1 else 0) S=S.getD s 0:=fun S=>by
  unfold AY
  rw [Gb (s:=s) hs (fun k _ hk=>by show (if k=s then (1:Int) else 0)*_=0; rw [if_neg hk]; omega)]
  show (if s=s then (1:Int) else 0)*_=_
  rw [if_pos rfl]; omega
 obtain ⟨q,hq⟩:=h (fun k=>if k=s then 1 else 0)
 rw [key,key] at hq
 try simp only at hq
 split at hq
 ·rename_i e; rw [if_pos e]; omega
 ·rename_i e; rw [if_neg e]; omega
theorem LE {p:Ah} {n:Nat} {l:List Nat} (h:A8 p n l) {s:Nat} (hs:s<2 ^ n) (h1:1≤s) {S:List Int} (hS:AG (2 ^ n) S) (hz:S.getD s 0=0) :
  ∃ S',forN (Dw p (s:Int) (pwL.getD s 0)) p.Terms.length 0 S=some S'∧AG (2 ^ n) S'∧S'.getD s 0=Ai (mf s) p.Terms % 8∧∀ s',s'≠s→S'.getD s' 0=S.getD s' 0:=by
 have h32:=Ax h.1.2.1
 obtain ⟨S',e1,e2,e3,e4⟩:=forN_inv (f:=Dw p (s:Int) (pwL.getD s 0)) (fun i S'=>AG (2 ^ n) S'∧(S'.getD s 0-Ai (mf s) (p.Terms.take i)) % 8=0∧∀ s',s'≠s→S'.getD s' 0=S.getD s' 0) p.Terms.length 0 S ⟨hS,by rw [hz,List.take_zero]; rfl,fun _ _=>rfl⟩ (fun i S' _ hi ⟨t1,t2,t3⟩=>by
  have hx:=List.getElem?_eq_getElem (show i<p.Terms.length by omega)
  generalize p.Terms[i]=x at hx
  have hmem:=List.mem_of_getElem? hx
  obtain ⟨m,hm,m1,m2⟩:=J1 h x hmem
  have hc:=LQ h x hmem
  have hw:=PV ⟨s,by omega⟩
  simp only at hw
  unfold Dw
  rw [getI_nat,hx]
  simp only [Option.bind_some]
  rw [hm,II (by omega) (by omega),Oe _ hx,hm,Int.toNat_natCast]
  unfold mf
  by_cases hb:m &&& s=s
  ·have e:(((m &&& s:Nat):Int)==(s:Int))=true:=by rw [hb]; exact beq_self_eq_true _
   rw [e,if_pos hb]
   simp only [cond_true]
   have hd : -14≤pwL.getD s 0*x.Coef∧pwL.getD s 0*x.Coef≤28:=by
    generalize pwL.getD s 0=w at hw
    have hw':w = -2∨w = -1∨w=0∨w=1∨w=2∨w=3∨w=4:=by omega
    rcases hw' with rfl | rfl | rfl | rfl | rfl | rfl | rfl <;> omega
   rw [wrap_i64 (a:=pwL.getD s 0*x.Coef) ⟨by omega,by omega⟩]
   obtain ⟨S2,a1,a2,a3⟩:=Mi t1 h32 (m:=s) hs (d:=pwL.getD s 0*x.Coef) ⟨by omega,by omega⟩
   rw [a1]
   refine ⟨S2,rfl,a2,?_,fun s' hs'=>?_⟩
   ·have:=IQ (N:=0) a3 (s:=s) (by omega)
    rw [if_pos rfl] at this
    have t2':(S'.getD s 0-Ai (mf s) (List.take i p.Terms)) % 8=0:=t2
    have hmf:Ai (fun m=>if m &&& s=s then pwL.getD s 0 else 0) (List.take i p.Terms)=Ai (mf s) (List.take i p.Terms):=rfl
    show (S2.getD s 0-(Ai (mf s) (List.take i p.Terms)+pwL.getD s 0*x.Coef)) % 8=0
    omega
   ·by_cases h3:s'<32
    ·have:=IQ (N:=0) a3 (s:=s') h3
     rw [if_neg (fun e=>hs' e.symm)] at this
     have b1:=a2.2.1 s'
     have b2:=t1.2.1 s'
     rw [← t3 s' hs']
     omega
    ·rw [a2.2.2 s' (by omega),hS.2.2 s' (by omega)]
  ·have e:(((m &&& s:Nat):Int)==(s:Int))=false:=beq_eq_false_iff_ne.2 (by omega)
   rw [e,if_neg hb]
   simp only [cond_false,Option.bind_some]
   refine ⟨S',rfl,t1,?_,t3⟩
   show (S'.getD s 0-(Ai (mf s) (List.take i p.Terms)+0*x.Coef)) % 8=0
   have:(S'.getD s 0-Ai (mf s) (List.take i p.Terms)) % 8=0:=t2
   omega)
 rw [Nat.zero_add,List.take_length] at e3
 have:=e2.2.1 s
 exact ⟨S',e1,e2,by omega,e4⟩
theorem Jt {p:Ah} {n:Nat} {l:List Nat} (h:A8 p n l) (hv:AD p=some true) :
  ∃ S,C7 p=some (tl S 32,true)∧AG (2 ^ n) S∧∀ s,1≤s→s<2 ^ n→S.getD s 0=Ai (mf s) p.Terms % 8:=by
 have t0:=OS h
 have h32:=Ax h.1.2.1
 have hq:1≤p.Qubits∧p.Qubits≤5:=by have:=h.1; omega
 obtain ⟨s1,s2,s3,s4,s5,s6⟩:=CI hq
 have hqn:p.Qubits.toNat=n:=by have:=h.1; omega
 rw [hqn] at s2 s3 s4 s5 s6
 have hs:=Cc (f:=Fy p) (fun t=>∃ j:Nat,t.2=(j:Int)∧1≤j∧j≤2 ^ n∧AG (2 ^ n) t.1∧∀ s,t.1.getD s 0=if 1≤s∧s<j then Ai (mf s) p.Terms % 8 else 0)
  (fun t=>AG (2 ^ n) t.1∧∀ s,1≤s→s<2 ^ n→t.1.getD s 0=Ai (mf s) p.Terms % 8) (fun _:List Ab×Bool=>False) (fun t=>2 ^ n-t.2.toNat) (fun t ht=>by
   obtain ⟨S,m⟩:=t
   obtain ⟨j,rfl,j1,j2,hS,hval⟩:=ht
   simp only at hS hval
   unfold Fy
   simp only
   rw [chk_t (by omega),s3]
   by_cases hj:j<2 ^ n
   ·rw [decide_eq_true (show (j:Int)<((2 ^ n:Nat):Int) by omega)]
    simp only [cond_true]
    rw [Po (show j<4294967296 by omega)]
    simp only [Option.bind_some]
    have hw:=KU ⟨j,by omega⟩
    simp only at hw
    have hz:S.getD j 0=0:=by rw [hval j,if_neg (by omega)]
    rw [wrap_i64 (a:=(j:Int)+1) ⟨by omega,by omega⟩]
    by_cases h3:3<(AT j 32).length
    ·rw [if_pos h3] at hw
     rw [decide_eq_true (show (3:Int)<(((AT j 32).length:Nat):Int) by omega)]
     simp only [cond_true,Option.bind_some]
     refine .inl ⟨_,rfl,⟨j+1,by simp only; omega,by omega,by omega,hS,fun s=>?_⟩,by simp only; omega⟩
     simp only
     rw [hval s]
     by_cases hsj:s=j
     ·subst hsj
      rw [if_neg (by omega),if_pos (by omega)]
      have:Ai (mf s) p.Terms=0:=by
       have e:=HK (f:=mf s) (g:=fun _=>0) (T:=p.Terms) (fun x _=>by unfold mf; rw [hw]; split <;> rfl)
       rw [e]
       have:∀ T:List Ab,Ai (fun _=>0) T=0:=fun T=>by
        induction T with
        | nil=>rfl
        | cons t T ih=>show 0*t.Coef+Ai (fun _=>0) T=0; rw [ih]; omega
       exact this _
      rw [this]; rfl
     ·by_cases hc:1≤s∧s<j
      ·rw [if_pos hc,if_pos (by omega)]
      ·rw [if_neg hc,if_neg (by omega)]
    ·rw [if_neg h3] at hw
     rw [decide_eq_false (show ¬ (3:Int)<(((AT j 32).length:Nat):Int) by omega),hw]
     simp only [cond_false,Option.bind_some]
     rw [chk_t (by omega)]
     obtain ⟨S',e1,e2,e3,e4⟩:=LE h hj j1 hS hz
     rw [e1]
     simp only [Option.bind_some]
     refine .inl ⟨_,rfl,⟨j+1,by simp only; omega,by omega,by omega,e2,fun s=>?_⟩,by simp only; omega⟩
     simp only
     by_cases hsj:s=j
     ·subst hsj; rw [e3,if_pos (by omega)]
     ·rw [e4 s hsj,hval s]
      by_cases hc:1≤s∧s<j
      ·rw [if_pos hc,if_pos (by omega)]
      ·rw [if_neg hc,if_neg (by omega)]
   ·rw [decide_eq_false (show ¬ (j:Int)<((2 ^ n:Nat):Int) by omega)]
    simp only [cond_false]
    exact .inr (.inl ⟨_,rfl,hS,fun s a b=>by simp only; rw [hval s,if_pos (by omega)]⟩)) fuel (List.replicate 32 0,1) ⟨1,rfl,by omega,by omega,(NV (2 ^ n)).1,fun s=>by
    simp only
    rw [List.getD_eq_getElem?_getD,List.getElem?_replicate,if_neg (show ¬ (1≤s∧s<1) by omega)]; split <;> rfl⟩ (AC (by simp only; omega))
 unfold C7
 rw [hv]
 simp only [Option.bind_some,Bool.not_true,cond_false]
 rcases hs with ⟨⟨S,m⟩,w1,w2,w3⟩ | ⟨r,_,hr⟩
 ·rw [w1]
  simp only [Option.bind_some,orR]
  rw [IM w2]
  exact ⟨S,rfl,w2,w3⟩
 ·exact hr.elim
theorem eqI (a b:List Int) (h:a.length≤9223372036854775807):Dz a b=some (decide (a=b)):=by
 unfold Dz
 by_cases hl:a.length=b.length
 ·have e2:((a.length:Int) != (b.length:Int))=false:=by rw [hl]; exact bne_self_eq_false _
  rw [e2]
  simp only [cond_false]
  rw [chk_t h,J7 (f:=EN a b) (l:=a) (l':=b) (q:=false) hl (fun i x y hx hy=>by
   unfold EN
   rw [getI_nat,getI_nat,hx,hy]
   simp only [Option.bind_some]
   by_cases hxy:x=y
   ·subst hxy; simp
   ·have:(x != y)=true:=by simp [hxy]
    rw [this,decide_eq_false hxy]; rfl)]
  by_cases hab:a=b
  ·rw [if_pos hab,decide_eq_true hab]; rfl
  ·rw [if_neg hab,decide_eq_false hab]; rfl
 ·have e2:((a.length:Int) != (b.length:Int))=true:=by simp; omega
  rw [e2,decide_eq_false (fun e=>hl (by rw [e]))]; rfl
theorem eqT (a b:List Ab) (h:a.length≤9223372036854775807):En a b=some (decide (a=b)):=by
 unfold En
 by_cases hl:a.length=b.length
 ·have e2:((a.length:Int) != (b.length:Int))=false:=by rw [hl]; exact bne_self_eq_false _
  rw [e2]
  simp only [cond_false]
  rw [chk_t h,J7 (f:=EU a b) (l:=a) (l':=b) (q:=false) hl (fun i x y hx hy=>by
   unfold EU
   rw [getI_nat,getI_nat,hx,hy]
   simp only [Option.bind_some]
   have e:((x.Mask==y.Mask)&&((x.Coef==y.Coef)&&true))=decide (x=y):=by
    obtain ⟨m,c⟩:=x
    obtain ⟨m',c'⟩:=y
    rw [Bool.eq_iff_iff]
    simp only [Bool.and_true,Bool.and_eq_true,beq_iff_eq,decide_eq_true_eq,Ab.mk.injEq]
   rw [e]
   cases decide (x=y) <;> rfl)]
  by_cases hab:a=b
  ·rw [if_pos hab,decide_eq_true hab]; rfl
  ·rw [if_neg hab,decide_eq_false hab]; rfl
 ·have e2:((a.length:Int) != (b.length:Int))=true:=by simp; omega
  rw [e2,decide_eq_false (fun e=>hl (by rw [e]))]; rfl
/-- What it means that two phase polynomials are equal. -/
theorem LH {p q:Ah} {n:Nat} {l l':List Nat} (hp:A8 p n l) (hq:A8 q n l') (vp:AD p=some true) (vq:AD q=some true) :
  ∃ b,CU p q=some (b,true)∧(b=true↔p.Phase=q.Phase∧p.Out.Rows=q.Out.Rows∧∀ x,x<2 ^ n→(Ai (phS x) p.Terms-Ai (phS x) q.Terms) % 8=0):=by
 obtain ⟨S,m1,m2,m3⟩:=Jt hp vp
 obtain ⟨S',m1',m2',m3'⟩:=Jt hq vq
 have h32:=Ax hp.1.2.1
 have hl:=GA S 32
 have hr:p.Out.Rows.length≤5:=by rw [hp.2.2.1.1]; simp only [Aj]; have:=hp.2.2.1.2.1; have:=hp.1.2.1; omega
 have htl:tl S 32=tl S' 32↔∀ x,x<2 ^ n→(Ai (phS x) p.Terms-Ai (phS x) q.Terms) % 8=0:=by
  rw [Ol hp hq]
  constructor
  ·intro h s hs
   by_cases h0:1≤s
   ·have:=NO m2 m2' h s h0 (by omega)
    rw [m3 s h0 hs,m3' s h0 hs] at this
    omega
   ·have h0:s=0:=by omega
    subst h0
    have key:∀ T:List Ab,Ai (mf 0) T=0:=fun T=>by
     induction T with
     | nil=>rfl
     | cons t T ih=>show mf 0 t.Mask.toNat*t.Coef+Ai (mf 0) T=0; rw [ih]; unfold mf; split <;> simp [pwL]
    rw [key,key]; rfl
  ·intro h
   refine JN fun m h1 h2=>?_
   by_cases hm:m<2 ^ n
   ·rw [m3 m h1 hm,m3' m h1 hm]
    have:=h m hm
    omega
   ·rw [m2.2.2 m (by omega),m2'.2.2 m (by omega)]
 unfold CU
 rw [vp]
 simp only [Option.bind_some,Bool.not_true,Bool.not_false,gb,cond_true]
 rw [vq]
 simp only [Option.bind_some,Bool.not_true,Bool.or_self,Bool.false_or]
 have e:(p.Qubits != q.Qubits)=false:=by have:=hp.1.2.2; have:=hq.1.2.2; simp; omega
 rw [e]
 simp only [cond_false]
 rw [m1,m1']
 simp only [Option.bind_some]
 by_cases hph:p.Phase=q.Phase
 ·rw [show (p.Phase==q.Phase)=true by simp [hph]]
  simp only [cond_true,Bool.true_and]
  rw [eqI _ _ (by omega)]
  simp only [Option.bind_some]
  by_cases hro:p.Out.Rows=q.Out.Rows
  ·rw [decide_eq_true hro]
   simp only [cond_true,Bool.true_and]
   rw [eqT _ _ (by omega)]
   refine ⟨_,rfl,?_⟩
   rw [decide_eq_true_eq,htl]
   exact ⟨fun h=>⟨hph,hro,h⟩,fun h=>h.2.2⟩
  ·rw [decide_eq_false hro]
   refine ⟨false,rfl,fun h=>(by cases h),fun h=>absurd h.2.1 hro⟩
 ·rw [show (p.Phase==q.Phase)=false by simp [hph]]
  refine ⟨false,rfl,fun h=>(by cases h),fun h=>absurd h.1 hph⟩

def BOk (code:List Int):Prop:=code.length≤9223372036854775807∧∀ y∈code,U8 y
/-- A draw gives a value that P is true of, and goes on by at most n places. -/
def Dr {α:Type} (f:Ac→Option (α×Ac)) (P:α→Prop) (n:Nat):Prop :=
 ∀ (code:List Int) (a s:Int) (k:Nat),BOk code→0≤a→a≤k→k+n≤1000000000→∃ v a' s',f (Ac.mk code a s)=some (v,Ac.mk code a' s')∧P v∧0≤a'∧a'≤((k+n:Nat):Int)
theorem Dr.mono {α:Type} {f:Ac→Option (α×Ac)} {P P':α→Prop} {n n':Nat} (h:Dr f P n) (hP:∀ v,P v→P' v) (hn:n≤n'):Dr f P' n':=fun code a s k hb h0 h1 h2=>by
 obtain ⟨v,a',s',e,p,q,r⟩:=h code a s k hb h0 h1 (by omega)
 exact ⟨v,a',s',e,hP v p,q,by omega⟩
theorem HZ:Dr CR (fun v=>0≤v∧v≤255) 1:=fun code a s k hb h0 h1 h2=>by
 obtain ⟨b1,b2⟩:=hb
 have hw:IntKind.i64.wrap (a+1)=a+1:=wrap_i64 ⟨by omega,by omega⟩
 have hrest:∀ b:Int,0≤b∧b≤255→∃ v a' s',(bif (decide ((IntKind.i64.wrap (a+1))≤(code.length:Int))) then (some ((b,(Ac.mk code (IntKind.i64.wrap (a+1)) (IntKind.u64.wrap ((IntKind.u64.wrap ((IntKind.u64.wrap (s*6364136223846793005))+(IntKind.u64.wrap b)))+1442695040888963407)))))) else (some (((IntKind.i64.wrap (bits .and .u64 (shrK .u64 (IntKind.u64.wrap ((IntKind.u64.wrap ((IntKind.u64.wrap (s*6364136223846793005))+(IntKind.u64.wrap b)))+1442695040888963407)) 40) 255)),(Ac.mk code (IntKind.i64.wrap (a+1)) (IntKind.u64.wrap ((IntKind.u64.wrap ((IntKind.u64.wrap (s*6364136223846793005))+(IntKind.u64.wrap b)))+1442695040888963407)))))))=some (v,Ac.mk code a' s')∧(0≤v∧v≤255)∧0≤a'∧a'≤((k+1:Nat):Int):=fun b hb=>by
  rw [hw]
  cases decide (a+1≤(code.length:Int)) with
  | true=>exact ⟨_,_,_,rfl,hb,by omega,by omega⟩
  | false =>
   refine ⟨_,_,_,rfl,?_,by omega,by omega⟩
   generalize hz:IntKind.u64.wrap ((IntKind.u64.wrap ((IntKind.u64.wrap (s*6364136223846793005))+(IntKind.u64.wrap b)))+1442695040888963407)=z
   have key:∃ m:Nat,bits .and .u64 (shrK .u64 z 40) 255=(m:Int)∧m≤255:=by
    have z0:0≤z:=by rw [← hz]; exact Int.emod_nonneg _ (by decide)
    have z1:z<18446744073709551616:=by rw [← hz]; exact Int.emod_lt_of_pos _ (by decide)
    obtain ⟨n,rfl⟩:∃ n:Nat,z=n:=⟨z.toNat,by omega⟩
    rw [show (40:Int)=((40:Nat):Int) from rfl,CM n 40 (by decide),show (255:Int)=((255:Nat):Int) from rfl,Ey (Nat.lt_of_le_of_lt (Nat.div_le_self _ _) (by omega)) (by decide)]
    exact ⟨_,rfl,Nat.and_le_right⟩
   obtain ⟨m,e,hm⟩:=key
   rw [e,wrap_i64 (a:=(m:Int)) ⟨by omega,by omega⟩]
   omega
 unfold CR
 simp only
 by_cases hlt:a<(code.length:Int)
 ·rw [decide_eq_true hlt]
  obtain ⟨x,hx,hx2⟩:=getI_at h0 hlt
  have:=b2 x (List.mem_of_getElem? hx2)
  unfold U8 at this
  simp only [cond_true,hx,Option.bind_some]
  rw [wrap_i64 (a:=x) ⟨by omega,by omega⟩]
  exact hrest x this
 ·rw [decide_eq_false hlt]
  simp only [cond_false,Option.bind_some]
  exact hrest 0 ⟨by decide,by decide⟩
theorem Aq (n:Int) (hn:n≤1000000):Dr (fun c=>Am c n) (fun v=>0≤v∧(v<n∨v=0)) 2:=fun code a s k hb h0 h1 h2=>by
 unfold Am
 by_cases hle:n≤1
 ·rw [decide_eq_true hle]
  exact ⟨0,a,s,rfl,⟨Int.le_refl 0,.inr rfl⟩,h0,by omega⟩
 ·rw [decide_eq_false hle]
  obtain ⟨v,a',s',e,hv,a0,a1⟩:=HZ code a s k hb h0 h1 (by omega)
  simp only [cond_false]
  rw [e]
  simp only [Option.bind_some]
  have tmb:∀ x:Int,0≤x→0≤Int.tmod x n∧(Int.tmod x n<n∨Int.tmod x n=0):=fun x hx=>⟨Int.tmod_nonneg n hx,.inl (Int.tmod_lt_of_pos x (by omega))⟩
  by_cases hbig:200<n
  ·rw [decide_eq_true hbig]
   obtain ⟨v2,a2,s2,e2,hv2,b0,b1⟩:=HZ code a' s' (k+1) hb a0 a1 (by omega)
   simp only [cond_true]
   rw [e2]
   simp only [Option.bind_some]
   rw [chk_t (by omega),wrap_i64 (a:=v*256) ⟨by omega,by omega⟩,wrap_i64 (a:=v*256+v2) ⟨by omega,by omega⟩]
   exact ⟨_,_,_,rfl,tmb _ (by omega),b0,by omega⟩
  ·rw [decide_eq_false hbig]
   simp only [cond_false,Option.bind_some]
   rw [chk_t (by omega)]
   exact ⟨_,_,_,rfl,tmb _ hv.1,a0,by omega⟩
theorem G9 (n:Int) (hn:n≤1000000):Dr (fun c=>BG c n) (fun _=>True) 2:=fun code a s k hb h0 h1 h2=>by
 obtain ⟨v,a',s',e,hv,a0,a1⟩:=Aq n hn code a s k hb h0 h1 h2
 unfold BG
 simp only at e ⊢
 rw [e]
 exact ⟨_,_,_,rfl,trivial,a0,a1⟩
theorem FE (l:List Int) (hl:1≤l.length∧l.length≤1000):Dr (fun c=>Bl c l) (fun v=>v∈l) 2:=fun code a s k hb h0 h1 h2=>by
 obtain ⟨v,a',s',e,hv,a0,a1⟩:=Aq (l.length:Int) (by omega) code a s k hb h0 h1 h2
 unfold Bl
 simp only at e ⊢
 rw [e]
 obtain ⟨x,hx,hx2⟩:=getI_at (l:=l) hv.1 (by omega)
 simp only [Option.bind_some,hx]
 exact ⟨_,_,_,rfl,List.mem_of_getElem? hx2,a0,a1⟩
theorem CJ {n v:Int} (h:0≤v∧(v<n∨v=0)) (hn:0<n):0≤v∧v<n:=by omega
/-- A gate that is taken, over n wires. -/
def gOk (n:Int) (g:Aa):Bool :=
 bif decide (1≤g.Kind)&&decide (g.Kind≤8) then decide (0≤g.A)&&decide (g.A≤n-1)&&(g.B==0)
 else bif decide (9≤g.Kind)&&decide (g.Kind≤11) then decide (0≤g.A)&&decide (g.A≤n-1)&&(decide (0≤g.B)&&decide (g.B≤n-1))&&(g.A != g.B)
 else (g.Kind==12)&&(g.A==0)&&(g.B==0)
theorem PC {n:Int} (hn:1≤n∧n≤5) (g:Aa):DJ n g=some (gOk n g):=by
 unfold DJ Ay gOk
 rw [wrap_i64 (a:=n-1) ⟨by omega,by omega⟩]
 simp only [Option.bind_some,gb]
 cases decide (1≤g.Kind)&&decide (g.Kind≤8) <;> cases decide (9≤g.Kind)&&decide (g.Kind≤11) <;> simp only [cond_true,cond_false,Option.bind_some]
 all_goals cases decide (0≤g.A)&&decide (g.A≤n-1) <;> simp
theorem OT {n:Int} (hn:1≤n∧n≤5) (g:Aa):DZ n g=some (gOk n g):=by
 unfold DZ Fc A2 gOk
 rw [wrap_i64 (a:=n-1) ⟨by omega,by omega⟩]
 have h1:decide (1≤n)=true:=decide_eq_true hn.1
 have h5:decide (n≤5)=true:=decide_eq_true hn.2
 simp only [Option.bind_some,gb,h1,h5,Bool.and_self,Bool.not_true,Bool.not_false,cond_true,Bool.false_or]
 by_cases hk:1≤g.Kind∧g.Kind≤12
 ·have e1:(decide (1≤g.Kind)&&decide (g.Kind≤12))=true:=by simp [hk]
  simp only [e1,Bool.not_true,cond_false]
  by_cases h12:g.Kind=12
  ·simp [h12]
  ·have e12:(g.Kind==12)=false:=by simp [h12]
   simp only [e12,cond_false]
   by_cases h9:9≤g.Kind
   ·have a1:(decide (9≤g.Kind)&&decide (g.Kind≤11))=true:=by simp; omega
    have a2:(decide (1≤g.Kind)&&decide (g.Kind≤8))=false:=by simp; omega
    simp only [a1,a2,cond_true,cond_false]
    cases decide (0≤g.A)&&decide (g.A≤n-1) <;> simp
   ·have a1:(decide (9≤g.Kind)&&decide (g.Kind≤11))=false:=by simp; omega
    have a2:(decide (1≤g.Kind)&&decide (g.Kind≤8))=true:=by simp; omega
    simp only [a1,a2,cond_true,cond_false]
 ·have e1:(decide (1≤g.Kind)&&decide (g.Kind≤12))=false:=by simp; omega
  have a1:(decide (9≤g.Kind)&&decide (g.Kind≤11))=false:=by simp; omega
  have a2:(decide (1≤g.Kind)&&decide (g.Kind≤8))=false:=by simp; omega
  have a3:(g.Kind==12)=false:=by simp; omega
  simp [e1,a1,a2,a3]
/-- A circuit that is taken. -/
def cOk (c:Ae):Bool:=decide (1≤c.Qubits)&&decide (c.Qubits≤5)&&decide (c.Gates.length≤400)&&c.Gates.all (gOk c.Qubits)
theorem JQ (c:Ae):BX c=some (cOk c):=by
 unfold BX Ay cOk
 simp only [Option.bind_some]
 by_cases hn:1≤c.Qubits∧c.Qubits≤5
 ·by_cases hl:c.Gates.length≤400
  ·have e:(!(decide (1≤c.Qubits)&&decide (c.Qubits≤5))||decide ((400:Int)<(c.Gates.length:Int)))=false:=by simp [hn]; omega
   rw [e,cond_false,chk_t (by omega)]
   rcases forX_any (f:=Fz c) (l:=c.Gates) (p:=fun g=>!gOk c.Qubits g) (q:=fun _=>false) (fun i x hx=>by
    unfold Fz; simp only [getI_nat,hx,Option.bind_some,PC hn]; cases gOk c.Qubits x <;> rfl) with ⟨h1,h2⟩ | ⟨h1,i,_,h2⟩
   ·rw [h2]
    have:c.Gates.all (gOk c.Qubits)=true:=by rw [List.all_eq_true]; intro x hx; have:=List.any_eq_false.1 h1 x hx; simpa using this
    simp [orR,hn,hl,this]
   ·rw [h2]
    have:c.Gates.all (gOk c.Qubits)=false:=by
     obtain ⟨x,hx,hp⟩:=List.any_eq_true.1 h1
     rw [List.all_eq_false]; exact ⟨x,hx,by simpa using hp⟩
    simp [orR,this]
  ·have e:(!(decide (1≤c.Qubits)&&decide (c.Qubits≤5))||decide ((400:Int)<(c.Gates.length:Int)))=true:=by simp; omega
   rw [e,cond_true]
   simp [hl]
 ·have e:(!(decide (1≤c.Qubits)&&decide (c.Qubits≤5))||decide ((400:Int)<(c.Gates.length:Int)))=true:=by simp; omega
  rw [e,cond_true]
  have:(decide (1≤c.Qubits)&&decide (c.Qubits≤5))=false:=by simp; omega
  simp [this]
theorem E4 (c:Ae) (hlen:c.Gates.length≤1048576):AW c=some (cOk c):=by
 unfold AW A2 cOk
 simp only [Option.bind_some]
 by_cases hn:1≤c.Qubits∧c.Qubits≤5
 ·by_cases hl:c.Gates.length≤400
  ·have e:(decide (1≤c.Qubits)&&decide (c.Qubits≤5)&&decide ((c.Gates.length:Int)≤400))=true:=by simp [hn]; omega
   rw [e]
   have hf:∀ i x,c.Gates[i]?=some x→Dk c.Gates (fun x_0=>CB x_0 c) i ()=some (bif !gOk c.Qubits x then .rt (i:Int) else .nx ()):=fun i x hx=>by
    unfold Dk CB
    simp only [getI_nat,hx,Option.bind_some,OT hn]
    cases gOk c.Qubits x <;> rfl
   unfold BJ D5
   rw [chk_t (by omega)]
   rcases forX_any hf with ⟨h1,h2⟩ | ⟨h1,i,_,h2⟩
   ·rw [h2]
    have:c.Gates.all (gOk c.Qubits)=true:=by rw [List.all_eq_true]; intro x hx; have:=List.any_eq_false.1 h1 x hx; simpa using this
    simp [orR,hn,hl,this,gb]
   ·rw [h2]
    have:c.Gates.all (gOk c.Qubits)=false:=by
     obtain ⟨x,hx,hp⟩:=List.any_eq_true.1 h1
     rw [List.all_eq_false]; exact ⟨x,hx,by simpa using hp⟩
    simp [orR,this,gb]
  ·have e:(decide (1≤c.Qubits)&&decide (c.Qubits≤5)&&decide ((c.Gates.length:Int)≤400))=false:=by simp; omega
   rw [e]
   simp [gb,hl]
 ·have this:(decide (1≤c.Qubits)&&decide (c.Qubits≤5))=false:=by simp; omega
  simp [gb,this]
theorem Ok {n:Int} {g:Aa} (h:gOk n g=true):(1≤g.Kind∧g.Kind≤8∧0≤g.A∧g.A≤n-1)∨(9≤g.Kind∧g.Kind≤11∧0≤g.A∧g.A≤n-1∧0≤g.B∧g.B≤n-1∧g.A≠g.B)∨g.Kind=12:=by
 unfold gOk at h
 by_cases h1:1≤g.Kind∧g.Kind≤8
 ·have e:(decide (1≤g.Kind)&&decide (g.Kind≤8))=true:=by simp [h1]
  rw [e,cond_true] at h
  simp at h
  exact .inl ⟨h1.1,h1.2,h.1.1,h.1.2⟩
 ·have e:(decide (1≤g.Kind)&&decide (g.Kind≤8))=false:=by simp; omega
  rw [e,cond_false] at h
  by_cases h2:9≤g.Kind∧g.Kind≤11
  ·have e:(decide (9≤g.Kind)&&decide (g.Kind≤11))=true:=by simp [h2]
   rw [e,cond_true] at h
   simp at h
   exact .inr (.inl ⟨h2.1,h2.2,h.1.1.1,h.1.1.2,h.1.2.1,h.1.2.2,h.2⟩)
  ·have e:(decide (9≤g.Kind)&&decide (g.Kind≤11))=false:=by simp; omega
   rw [e,cond_false] at h
   simp at h
   exact .inr (.inr h.1.1)
theorem Mm (n:Nat) (hn:1≤n∧n≤6) (kinds:List Int) (hk:1≤kinds.length∧kinds.length≤1000) (hr:∀ x∈kinds,1≤x∧x≤12):Dr (fun c=>DY c (n:Int) kinds) (fun g=>gOk n g=true) 8:=fun code a s k hb h0 h1 h2=>by
 unfold DY
 obtain ⟨v1,a1,s1,e1,p1,q1,r1⟩:=Aq (kinds.length:Int) (by omega) code a s k hb h0 h1 (by omega)
 simp only at e1 ⊢
 rw [e1]; simp only [Option.bind_some]
 obtain ⟨x,hx,hx2⟩:=getI_at (l:=kinds) (i:=v1) p1.1 (by omega)
 have hxr:=hr x (List.mem_of_getElem? hx2)
 rw [hx]; simp only [Option.bind_some]
 by_cases h12:x=12
 ·subst h12
  simp only [beq_self_eq_true,cond_true]
  exact ⟨_,_,_,rfl,by unfold gOk; simp,q1,by first | omega | (simp only; omega)⟩
 ·have e12:(x==12)=false:=by simp [h12]
  rw [e12]
  simp only [cond_false]
  obtain ⟨v2,a2,s2,e2,p2,q2,r2⟩:=Aq (n:Int) (by omega) code a1 s1 (k+2) hb q1 r1 (by omega)
  simp only at e2
  rw [e2]; simp only [Option.bind_some]
  unfold Ay
  simp only [Option.bind_some]
  by_cases h9:9≤x∧x≤11
  ·rw [decide_eq_true h9.1,decide_eq_true h9.2]
   simp only [Bool.and_self,cond_true]
   by_cases hn1:n=1
   ·subst hn1
    simp only [beq_self_eq_true,cond_true,Option.bind_some,orR,show (((1:Nat):Int)==1)=true from rfl]
    exact ⟨_,_,_,rfl,by unfold gOk; simp,q2,by first | omega | (simp only; omega)⟩
   ·have en:((n:Int)==1)=false:=by simp; omega
    rw [en]
    simp only [cond_false]
    rw [wrap_i64 (a:=(n:Int)-1) ⟨by omega,by omega⟩]
    obtain ⟨v3,a3,s3,e3,p3,q3,r3⟩:=Aq ((n:Int)-1) (by omega) code a2 s2 (k+2+2) hb q2 r2 (by omega)
    simp only at e3
    rw [e3]; simp only [Option.bind_some]
    have hv2:=CJ p2 (by omega)
    have hv3:=CJ p3 (by omega)
    rw [chk_t (by omega),wrap_i64 (a:=v2+1) ⟨by omega,by omega⟩,wrap_i64 (a:=v2+1+v3) ⟨by omega,by omega⟩]
    have w0:0≤Int.tmod (v2+1+v3) (n:Int):=Int.tmod_nonneg _ (by omega)
    have w1:Int.tmod (v2+1+v3) (n:Int)<(n:Int):=Int.tmod_lt_of_pos _ (by omega)
    have wne:Int.tmod (v2+1+v3) (n:Int)≠v2:=by
     rw [Int.tmod_eq_emod_of_nonneg (by omega)]
     by_cases hlt:v2+1+v3<(n:Int)
     ·rw [Int.emod_eq_of_lt (by omega) hlt]; omega
     ·have:(v2+1+v3) % (n:Int)=v2+1+v3-(n:Int):=by
       rw [← Int.sub_emod_right,Int.emod_eq_of_lt (by omega) (by omega)]
      rw [this]; omega
    simp only [Option.bind_some,orR]
    refine ⟨_,_,_,rfl,?_,q3,by first | omega | (simp only; omega)⟩
    generalize Int.tmod (v2+1+v3) (n:Int)=w at w0 w1 wne
    unfold gOk
    simp only
    rw [show (decide (1≤x)&&decide (x≤8))=false by simp; omega,decide_eq_true h9.1,decide_eq_true h9.2,decide_eq_true hv2.1,decide_eq_true (show v2≤(n:Int)-1 by omega),decide_eq_true w0,decide_eq_true (show w≤(n:Int)-1 by omega)]
    simp
    omega
  ·have e9:(decide (9≤x)&&decide (x≤11))=false:=by
    simp only [Bool.and_eq_false_iff,decide_eq_false_iff_not]; omega
   rw [e9]
   simp only [cond_false,Option.bind_some,orR]
   have hv2:=CJ p2 (by omega)
   refine ⟨_,_,_,rfl,?_,q2,by first | omega | (simp only; omega)⟩
   unfold gOk
   simp only
   rw [decide_eq_true hxr.1,decide_eq_true (show x≤8 by omega),decide_eq_true hv2.1,decide_eq_true (show v2≤(n:Int)-1 by omega)]
   rfl
theorem Ly (n:Nat) (hn:1≤n∧n≤6) (most:Nat) (hm:most≤100) (kinds:List Int) (hk:1≤kinds.length∧kinds.length≤1000) (hr:∀ x∈kinds,1≤x∧x≤12):Dr (fun c=>C2 c (n:Int) (most:Int) kinds) (fun c=>c.Qubits=(n:Int)∧c.Gates.length≤most∧c.Gates.all (gOk n)=true) 1000:=fun code a s k hb h0 h1 h2=>by
 unfold C2
 simp only
 rw [wrap_i64 (a:=(most:Int)+1) ⟨by omega,by omega⟩]
 obtain ⟨v1,a1,s1,e1,p1,q1,r1⟩:=Aq ((most:Int)+1) (by omega) code a s k hb h0 h1 (by omega)
 simp only at e1
 rw [e1]; simp only [Option.bind_some]
 have hv1:=CJ p1 (by omega)
 have hs:=Cc (f:=Fv (Ac.mk code a s) (n:Int) kinds) (fun t=>0≤t.2.2.2∧0≤t.1∧t.1+8*t.2.2.2≤((k+2+8*most:Nat):Int)∧(t.2.2.1.length:Int)+t.2.2.2≤(most:Int)∧t.2.2.1.all (gOk n)=true) (fun t=>0≤t.1∧t.1≤((k+2+8*most:Nat):Int)∧t.2.2.1.length≤most∧t.2.2.1.all (gOk n)=true) (fun _:Ae×Ac=>False) (fun t=>t.2.2.2.toNat) (fun t ht=>by
  obtain ⟨b1,z1,G,k_⟩:=t
  obtain ⟨t1,t2,t3,t4,t5⟩:=ht
  simp only at t1 t2 t3 t4 t5
  unfold Fv
  simp only
  by_cases hk0:0<k_
  ·rw [decide_eq_true hk0]
   simp only [cond_true]
   obtain ⟨v2,a2,s2,e2,p2,q2,r2⟩:=Mm n hn kinds hk hr code b1 z1 b1.toNat hb t2 (by omega) (by omega)
   simp only at e2
   rw [e2]; simp only [Option.bind_some]
   rw [chk_t (by omega),wrap_i64 (a:=k_-1) ⟨by omega,by omega⟩]
   exact .inl ⟨_,rfl,⟨by simp only; omega,q2,by simp only; omega,by simp only [List.length_append,List.length_singleton]; omega,by simp only [List.all_append,t5,List.all_cons,List.all_nil,p2,Bool.and_self]⟩,by simp only; omega⟩
  ·rw [decide_eq_false hk0]
   exact .inr (.inl ⟨_,rfl,t2,by simp only; omega,by simp only; omega,t5⟩)) fuel (a1,s1,[],v1) ⟨by simp only; omega,q1,by simp only; omega,by simp only [List.length_nil]; omega,rfl⟩ (AC (by simp only; omega))
 rcases hs with ⟨⟨b1,z1,G,k_⟩,w1,w2,w3,w4,w5⟩ | ⟨r,_,hr⟩
 ·rw [w1]
  simp only at w2 w3 w4 w5
  exact ⟨_,_,_,rfl,⟨rfl,w4,w5⟩,w2,by first | omega | (simp only; omega)⟩
 ·exact hr.elim
theorem Pv:Dr Dl (fun c=>∃ n:Nat,(1≤n∧n≤3)∧c.Qubits=(n:Int)∧c.Gates.length≤8∧c.Gates.all (gOk n)=true) 1010:=fun code a s k hb h0 h1 h2=>by
 unfold Dl
 obtain ⟨v1,a1,s1,e1,p1,q1,r1⟩:=FE [1,2,2,3] (by decide) code a s k hb h0 h1 (by omega)
 simp only at e1 ⊢
 rw [e1]; simp only [Option.bind_some]
 obtain ⟨n,rfl,hn⟩:∃ n:Nat,v1=n∧1≤n∧n≤3:=by
  simp only [List.mem_cons,List.not_mem_nil,or_false] at p1
  exact ⟨v1.toNat,by omega,by omega,by omega⟩
 obtain ⟨v2,a2,s2,e2,p2,q2,r2⟩:=Ly n ⟨by omega,by omega⟩ 8 (by decide) [1,2,3,4,5,6,7,8,9,9,10,11,12,7,1] (by decide) (by decide) code a1 s1 (k+2) hb q1 r1 (by omega)
 simp only at e2
 rw [show C2 (Ac.mk code a1 s1) (n:Int) 8 [1,2,3,4,5,6,7,8,9,9,10,11,12,7,1]=_ from e2]
 exact ⟨_,_,_,rfl,⟨n,hn,p2⟩,q2,by first | omega | (simp only; omega)⟩
theorem Oh:Dr Ew (fun c=>c.Gates.length≤9) 1040:=fun code a s k hb h0 h1 h2=>by
 unfold Ew
 obtain ⟨v1,a1,s1,e1,⟨n,hn,hq,hl,_⟩,q1,r1⟩:=Pv code a s k hb h0 h1 (by omega)
 simp only
 rw [e1]; simp only [Option.bind_some]
 obtain ⟨v2,a2,s2,e2,p2,q2,r2⟩:=Aq 14 (by decide) code a1 s1 (k+1010) hb q1 r1 (by omega)
 simp only at e2
 rw [e2]; simp only [Option.bind_some]
 cases v2==0 with
 | true =>
  simp only [cond_true]
  obtain ⟨v3,a3,s3,e3,p3,q3,r3⟩:=FE [0,1,5,6] (by decide) code a2 s2 (k+1010+2) hb q2 r2 (by omega)
  simp only at e3
  rw [e3]
  exact ⟨_,_,_,rfl,by simp only; omega,q3,by first | omega | (simp only; omega)⟩
 | false =>
  cases v2==1 with
  | true =>
   simp only [cond_true,cond_false]
   obtain ⟨v3,a3,s3,e3,p3,q3,r3⟩:=Aq 14 (by decide) code a2 s2 (k+1010+2) hb q2 r2 (by omega)
   simp only at e3
   rw [e3]; simp only [Option.bind_some]
   obtain ⟨v4,a4,s4,e4,p4,q4,r4⟩:=Aq 4 (by decide) code a3 s3 (k+1010+2+2) hb q3 r3 (by omega)
   simp only at e4
   rw [e4]; simp only [Option.bind_some]
   obtain ⟨v5,a5,s5,e5,p5,q5,r5⟩:=Aq 4 (by decide) code a4 s4 (k+1010+2+2+2) hb q4 r4 (by omega)
   simp only at e5
   rw [e5]; simp only [Option.bind_some]
   rw [chk_t (by omega)]
   exact ⟨_,_,_,rfl,by simp only [List.length_append,List.length_singleton]; omega,q5,by first | omega | (simp only; omega)⟩
  | false =>
   simp only [cond_false]
   exact ⟨_,_,_,rfl,by simp only; omega,q2,by first | omega | (simp only; omega)⟩

theorem Pz:∀ n:Fin 6,AQ (n.val:Int)=some (Ad.mk (cI (idn n.val))):=by decide +kernel
theorem Kf (n:Nat) (hn:1≤n∧n≤5):Dr (fun c=>CS c (n:Int)) (fun m=>∃ l,m=Ad.mk (cI l)∧NOk n l∧As n l) 40:=fun code a s k hb h0 h1 h2=>by
 unfold CS
 have hid:=Pz ⟨n,by omega⟩
 simp only at hid ⊢
 rw [hid]; simp only [Option.bind_some]
 obtain ⟨v1,a1,s1,e1,p1,q1,r1⟩:=Aq 8 (by decide) code a s k hb h0 h1 (by omega)
 simp only at e1
 rw [e1]; simp only [Option.bind_some]
 have hs:=Cc (f:=Ff (n:Int) (Ac.mk code a s)) (fun t=>∃ l,t.2.2.1=cI l∧(NOk n l∧As n l)∧0≤t.2.2.2∧t.2.2.2≤7∧0≤t.1∧t.1+4*t.2.2.2≤((k+30:Nat):Int)) (fun t=>∃ l,t.2.2.1=cI l∧(NOk n l∧As n l)∧0≤t.1∧t.1≤((k+30:Nat):Int)) (fun _:Ad×Ac=>False) (fun t=>t.2.2.2.toNat) (fun t ht=>by
  obtain ⟨b1,z1,R,k_⟩:=t
  obtain ⟨l,t1,⟨t2,tF⟩,t3,t4,t5,t6⟩:=ht
  simp only at t1 t3 t4 t5 t6
  subst t1
  unfold Ff
  simp only
  by_cases hk:0<k_∧1<(n:Int)
  ·rw [decide_eq_true hk.1,decide_eq_true hk.2]
   simp only [Bool.and_self,cond_true]
   obtain ⟨v2,a2,s2,e2,p2,q2,r2⟩:=Aq (n:Int) (by omega) code b1 z1 (k+30) hb t5 (by omega) (by omega)
   simp only at e2
   rw [e2]; simp only [Option.bind_some]
   rw [wrap_i64 (a:=(n:Int)-1) ⟨by omega,by omega⟩]
   have r2':a2≤b1+2:=by
    obtain ⟨v2',a2',s2',e2',_,_,r2''⟩:=Aq (n:Int) (by omega) code b1 z1 b1.toNat hb t5 (by omega) (by omega)
    simp only at e2'
    rw [e2'] at e2; cases e2; omega
   obtain ⟨v3,a3,s3,e3,p3,q3,r3⟩:=Aq ((n:Int)-1) (by omega) code a2 s2 a2.toNat hb q2 (by omega) (by omega)
   simp only at e3
   rw [e3]; simp only [Option.bind_some]
   have hv2:=CJ p2 (by omega)
   have hv3:=CJ p3 (by omega)
   rw [chk_t (by omega),wrap_i64 (a:=v2+1) ⟨by omega,by omega⟩,wrap_i64 (a:=v2+1+v3) ⟨by omega,by omega⟩]
   have w0:0≤Int.tmod (v2+1+v3) (n:Int):=Int.tmod_nonneg _ (by omega)
   have w1:Int.tmod (v2+1+v3) (n:Int)<(n:Int):=Int.tmod_lt_of_pos _ (by omega)
   have wne:Int.tmod (v2+1+v3) (n:Int)≠v2:=by
    rw [Int.tmod_eq_emod_of_nonneg (by omega)]
    by_cases hlt:v2+1+v3<(n:Int)
    ·rw [Int.emod_eq_of_lt (by omega) hlt]; omega
    ·have:(v2+1+v3) % (n:Int)=v2+1+v3-(n:Int):=by
      rw [← Int.sub_emod_right,Int.emod_eq_of_lt (by omega) (by omega)]
     rw [this]; omega
   generalize Int.tmod (v2+1+v3) (n:Int)=w at w0 w1 wne
   obtain ⟨x,rfl⟩:∃ x:Nat,v2=x:=⟨v2.toNat,by omega⟩
   obtain ⟨y,rfl⟩:∃ y:Nat,w=y:=⟨w.toNat,by omega⟩
   obtain ⟨c3,c4,c5⟩:=cxM t2 hn.2 (show x<n by omega) (show y<n by omega)
   have c2:=EV (R:=cI l) (a:=(x:Int)) (b:=(y:Int)) (by rw [Aj]; have:=t2.1; omega) c3 c4
   rw [c5] at c2
   have c1:NOk n (cxL l x y)∧As n (cxL l x y):=⟨Bi t2 _ _,Ft t2.1 (by omega) (by omega) (by omega) tF⟩
   rw [c2]; simp only [Option.bind_some]
   rw [wrap_i64 (a:=k_-1) ⟨by omega,by omega⟩]
   exact .inl ⟨_,rfl,⟨_,rfl,c1,by simp only; omega,by simp only; omega,q3,by simp only; omega⟩,by simp only; omega⟩
  ·have e:(decide (0<k_)&&decide (1<(n:Int)))=false:=by
    simp only [Bool.and_eq_false_iff,decide_eq_false_iff_not]; omega
   rw [e]
   exact .inr (.inl ⟨_,rfl,l,rfl,⟨t2,tF⟩,t5,by simp only; omega⟩)) fuel (a1,s1,cI (idn n),v1) ⟨idn n,rfl,⟨AB n,Fi n⟩,by simp only; omega,by simp only; omega,q1,by simp only; omega⟩ (AC (by simp only; omega))
 rcases hs with ⟨⟨b1,z1,R,k_⟩,w1,l,w2,w3,w4,w5⟩ | ⟨r,_,hr⟩
 ·rw [w1]
  simp only at w2 w4 w5
  subst w2
  exact ⟨_,_,_,rfl,⟨l,rfl,w3⟩,w4,by first | omega | (simp only; omega)⟩
 ·exact hr.elim
theorem IP {by_:List Int} (h:by_.length≤1000):∃ T,BT by_=some T∧T.length≤by_.length∧(∀ t∈T,(1≤t.Mask∧t.Mask<(by_.length:Int))∧1≤t.Coef∧t.Coef≤7)∧∀ (i:Nat) x y,T[i]?=some x→T[i+1]?=some y→x.Mask<y.Mask:=by
 unfold BT
 rw [chk_t (by omega)]
 obtain ⟨T,h1,h2,h3,h4⟩:=forN_inv (f:=ES by_) (fun i T=>T.length≤i∧(∀ t∈T,((1≤t.Mask∧t.Mask<(by_.length:Int))∧1≤t.Coef∧t.Coef≤7)∧t.Mask<(i:Int))∧∀ (j:Nat) x y,T[j]?=some x→T[j+1]?=some y→x.Mask<y.Mask) by_.length 0 [] ⟨Nat.le_refl 0,fun t ht=>(by cases ht),fun j x y hx=>(by simp at hx)⟩ (fun i T _ hi ⟨hT,hM,hS⟩=>by
  unfold ES
  rw [getI_nat,List.getElem?_eq_getElem (show i<by_.length by omega)]
  simp only [Option.bind_some]
  have hr : -7≤Int.tmod by_[i] 8∧Int.tmod by_[i] 8≤7:=by
   have a1:=Int.tmod_lt_of_pos by_[i] (show (0:Int)<8 by decide)
   have a2:=Int.lt_tmod_of_pos by_[i] (show (0:Int)<8 by decide)
   omega
  rw [wrap_i64 (a:=Int.tmod by_[i] 8+8) ⟨by omega,by omega⟩]
  have hv:0≤Int.tmod (Int.tmod by_[i] 8+8) 8∧Int.tmod (Int.tmod by_[i] 8+8) 8≤7:=by
   have a1:=Int.tmod_lt_of_pos (Int.tmod by_[i] 8+8) (show (0:Int)<8 by decide)
   have a3:=Int.tmod_nonneg 8 (a:=Int.tmod by_[i] 8+8) (by omega)
   omega
  generalize Int.tmod (Int.tmod by_[i] 8+8) 8=w at hv
  by_cases hc:0<i∧0<w
  ·rw [decide_eq_true (show (0:Int)<(i:Int) by omega),decide_eq_true hc.2]
   simp only [Bool.and_self,cond_true]
   rw [chk_t (by omega)]
   refine ⟨_,rfl,by simp; omega,fun t ht=>?_,fun j x y hx hy=>?_⟩
   ·rcases List.mem_append.1 ht with ht | ht
    ·obtain ⟨a,b⟩:=hM t ht
     exact ⟨a,by omega⟩
    ·simp only [List.mem_singleton] at ht
     subst ht
     simp only
     omega
   ·have hyl:=(List.getElem?_eq_some_iff.1 hy).1
    rw [List.length_append,List.length_singleton] at hyl
    rw [List.getElem?_append_left (by omega)] at hx
    by_cases hj:j+1<T.length
    ·rw [List.getElem?_append_left hj] at hy
     exact hS j x y hx hy
    ·rw [List.getElem?_append_right (by omega),show j+1-T.length=0 by omega] at hy
     cases hy
     exact (hM x (List.mem_of_getElem? hx)).2
  ·have e:((decide (0<(i:Int)))&&(decide (0<w)))=false:=by
    simp only [Bool.and_eq_false_iff,decide_eq_false_iff_not]; omega
   rw [e]
   refine ⟨_,rfl,by omega,fun t ht=>?_,hS⟩
   obtain ⟨a,b⟩:=hM t ht
   exact ⟨a,by omega⟩)
 rw [h1]
 exact ⟨T,rfl,by omega,fun t ht=>(h3 t ht).1,h4⟩
/-- What is drawn is valid. -/
def PN (n:Nat) (p:Ah):Prop:=∃ l,p.Qubits=(n:Int)∧(0≤p.Phase∧p.Phase≤7)∧p.Out=Ad.mk (cI l)∧NOk n l∧As n l∧p.Terms.length≤32∧(∀ t∈p.Terms,(1≤t.Mask∧t.Mask<((2 ^ n:Nat):Int))∧1≤t.Coef∧t.Coef≤7)∧∀ (i:Nat) x y,p.Terms[i]?=some x→p.Terms[i+1]?=some y→x.Mask<y.Mask
theorem P5 (n:Nat) (hn:1≤n∧n≤5):Dr (fun c=>Ej c (n:Int)) (fun p=>p.Qubits=(n:Int)∧p.Terms.length≤32∧p.Out.Rows.length=n∧PN n p) 200:=fun code a s k hb h0 h1 h2=>by
 have hq:1≤(n:Int)∧(n:Int)≤5:=by omega
 obtain ⟨s1',s2',s3',s4',s5',s6'⟩:=CI hq
 rw [Int.toNat_natCast] at s2' s3' s4' s5' s6'
 unfold Ej
 simp only
 rw [chk_t s1',s2',chk_t ⟨by omega,by omega⟩,Int.toNat_natCast]
 obtain ⟨v1,a1,s1,e1,p1,q1,r1⟩:=Aq 6 (by decide) code a s k hb h0 h1 (by omega)
 simp only at e1
 rw [e1]; simp only [Option.bind_some]
 have hs:=Cc (f:=Fu (Ac.mk code a s) (n:Int)) (fun t=>t.2.2.1.length=2 ^ n∧0≤t.2.2.2∧t.2.2.2≤5∧0≤t.1∧t.1+4*t.2.2.2≤((k+22:Nat):Int)) (fun t=>t.2.2.1.length=2 ^ n∧0≤t.1∧t.1≤((k+22:Nat):Int)) (fun _:Ah×Ac=>False) (fun t=>t.2.2.2.toNat) (fun t ht=>by
  obtain ⟨b1,z1,R,k_⟩:=t
  obtain ⟨t1,t3,t4,t5,t6⟩:=ht
  simp only at t1 t3 t4 t5 t6
  unfold Fu
  simp only
  by_cases hk:0<k_
  ·rw [decide_eq_true hk]
   simp only [cond_true]
   rw [s2',Int.toNat_natCast]
   obtain ⟨v2,a2,s2,e2,p2,q2,r2⟩:=Aq ((2 ^ n:Nat):Int) (by omega) code b1 z1 b1.toNat hb t5 (by omega) (by omega)
   simp only at e2
   rw [e2]; simp only [Option.bind_some]
   obtain ⟨v3,a3,s3,e3,p3,q3,r3⟩:=Aq 8 (by decide) code a2 s2 a2.toNat hb q2 (by omega) (by omega)
   simp only at e3
   rw [e3]; simp only [Option.bind_some]
   obtain ⟨x,hx,_⟩:=getI_at (l:=R) p2.1 (by omega)
   rw [hx]; simp only [Option.bind_some]
   rw [wrap_i64 (a:=k_-1) ⟨by omega,by omega⟩]
   exact .inl ⟨_,rfl,⟨by simp only [List.length_set]; exact t1,by simp only; omega,by simp only; omega,q3,by simp only; omega⟩,by simp only; omega⟩
  ·rw [decide_eq_false hk]
   exact .inr (.inl ⟨_,rfl,t1,t5,by simp only; omega⟩)) fuel (a1,s1,List.replicate (2 ^ n) 0,v1) ⟨by simp,by simp only; omega,by simp only; omega,q1,by simp only; omega⟩ (AC (by simp only; omega))
 rcases hs with ⟨⟨b1,z1,R,k_⟩,w1,w2,w4,w5⟩ | ⟨r,_,hr⟩
 ·rw [w1]
  simp only at w2 w4 w5
  simp only [Option.bind_some,orR]
  obtain ⟨v2,a2,s2,e2,p2,q2,r2⟩:=G9 6 (by decide) code b1 z1 (k+22) hb w4 w5 (by omega)
  simp only at e2
  rw [e2]; simp only [Option.bind_some]
  have mid_:∃ (a3 z3:Int) (R3:List Int),(bif v2 then (chk (2 ^ n≤9223372036854775807)<|(forN (DX (Ac.mk code a s)) (2 ^ n) 0 (a2,s2,R)).bind fun (at_2,seed2,by_2)=>some (at_2,seed2,by_2)) else (some (a2,s2,R)):Option (Int×Int×List Int))=some (a3,z3,R3)∧R3.length=2 ^ n∧0≤a3∧a3≤((k+24+64:Nat):Int):=by
   cases v2 with
   | false=>exact ⟨_,_,_,rfl,w2,q2,by omega⟩
   | true =>
    simp only [cond_true]
    rw [chk_t (by omega)]
    obtain ⟨⟨a3,z3,R3⟩,f1,f2,f3,f4⟩:=forN_inv (f:=DX (Ac.mk code a s)) (fun i t=>t.2.2.length=2 ^ n∧0≤t.1∧t.1≤((k+24+2*i:Nat):Int)) (2 ^ n) 0 (a2,s2,R) ⟨w2,q2,by simp only; omega⟩ (fun i t _ hi ⟨t1,t2,t3⟩=>by
     obtain ⟨c1,c2,c3⟩:=t
     simp only at t1 t2 t3
     unfold DX
     simp only
     obtain ⟨v3,a3,s3,e3,p3,q3,r3⟩:=Aq 8 (by decide) code c1 c2 (k+24+2*i) hb t2 t3 (by omega)
     simp only at e3
     rw [e3]; simp only [Option.bind_some]
     obtain ⟨x,hx,_⟩:=getI_at (l:=c3) (i:=(i:Int)) (by omega) (by omega)
     rw [hx]; simp only [Option.bind_some]
     exact ⟨_,rfl,by simp only [List.length_set]; exact t1,q3,by simp only; omega⟩)
    simp only at f2 f3 f4
    rw [f1]
    exact ⟨_,_,_,rfl,f2,f3,by omega⟩
  obtain ⟨a3,z3,R3,m1,m2,m3,m4⟩:=mid_
  rw [m1]; simp only [Option.bind_some]
  obtain ⟨v4,a4,s4,e4,p4,q4,r4⟩:=Aq 8 (by decide) code a3 z3 (k+24+64) hb m3 m4 (by omega)
  simp only at e4
  rw [e4]; simp only [Option.bind_some]
  obtain ⟨T,T1,T2,T3,T4⟩:=IP (by_:=R3) (by omega)
  rw [T1]; simp only [Option.bind_some]
  obtain ⟨v5,a5,s5,e5,⟨l,rfl,hl,hF⟩,q5,r5⟩:=Kf n hn code a4 s4 (k+24+64+2) hb q4 r4 (by omega)
  simp only at e5
  rw [e5]
  exact ⟨_,_,_,rfl,⟨rfl,by simp only; omega,by simp only [Aj]; exact hl.1,l,rfl,⟨by simp only; omega,by simp only; omega⟩,rfl,hl,hF,by simp only; omega,by rw [m2] at T3; exact T3,T4⟩,q5,by first | omega | (simp only; omega)⟩
 ·exact hr.elim
theorem Pu:Dr Dy (fun m=>m.Rows.length≤6) 60:=fun code a s k hb h0 h1 h2=>by
 unfold Dy
 obtain ⟨v1,a1,s1,e1,p1,q1,r1⟩:=Aq 5 (by decide) code a s k hb h0 h1 (by omega)
 simp only at e1 ⊢
 rw [e1]; simp only [Option.bind_some]
 obtain ⟨x,rfl⟩:∃ x:Nat,v1=x:=⟨v1.toNat,by omega⟩
 rw [wrap_i64 (a:=1+(x:Int)) ⟨by omega,by omega⟩,show (1:Int)+(x:Int)=((1+x:Nat):Int) by omega]
 obtain ⟨v2,a2,s2,e2,⟨l,rfl,hl,_⟩,q2,r2⟩:=Kf (1+x) ⟨by omega,by omega⟩ code a1 s1 (k+2) hb q1 r1 (by omega)
 simp only at e2
 rw [e2]; simp only [Option.bind_some]
 have hll:(cI l).length=1+x:=by rw [Aj]; exact hl.1
 obtain ⟨v3,a3,s3,e3,p3,q3,r3⟩:=Aq 12 (by decide) code a2 s2 (k+2+40) hb q2 r2 (by omega)
 simp only at e3
 rw [e3]; simp only [Option.bind_some]
 cases v3==0 with
 | true =>
  simp only [cond_true]
  obtain ⟨v4,a4,s4,e4,p4,q4,r4⟩:=FE [(-1),0,31,32,3] (by decide) code a3 s3 (k+2+40+2) hb q3 r3 (by omega)
  simp only at e4
  rw [e4]; simp only [Option.bind_some]
  obtain ⟨y,hy,_⟩:=getI_at (l:=cI l) (i:=0) (by omega) (by omega)
  rw [hy]
  exact ⟨_,_,_,rfl,by simp only [List.length_set]; omega,q4,by first | omega | (simp only; omega)⟩
 | false =>
  cases v3==1 with
  | true =>
   simp only [cond_true,cond_false]
   obtain ⟨v4,a4,s4,e4,p4,q4,r4⟩:=Aq 70 (by decide) code a3 s3 (k+2+40+2) hb q3 r3 (by omega)
   simp only at e4
   rw [e4]; simp only [Option.bind_some]
   rw [chk_t (by omega)]
   exact ⟨_,_,_,rfl,by simp only [List.length_append,List.length_singleton]; omega,q4,by first | omega | (simp only; omega)⟩
  | false =>
   cases v3==2 with
   | true =>
    simp only [cond_true,cond_false]
    rw [chk_t (by omega)]
    exact ⟨_,_,_,rfl,by simp only [List.length_drop]; omega,q3,by first | omega | (simp only; omega)⟩
   | false =>
    simp only [cond_false]
    exact ⟨_,_,_,rfl,by simp only; omega,q3,by first | omega | (simp only; omega)⟩
theorem OF:Dr Dv (fun p=>p.Terms.length≤33∧p.Out.Rows.length≤6) 300:=fun code a s k hb h0 h1 h2=>by
 unfold Dv
 obtain ⟨v1,a1,s1,e1,p1,q1,r1⟩:=Aq 5 (by decide) code a s k hb h0 h1 (by omega)
 simp only at e1 ⊢
 rw [e1]; simp only [Option.bind_some]
 obtain ⟨x,rfl⟩:∃ x:Nat,v1=x:=⟨v1.toNat,by omega⟩
 rw [wrap_i64 (a:=1+(x:Int)) ⟨by omega,by omega⟩,show (1:Int)+(x:Int)=((1+x:Nat):Int) by omega]
 obtain ⟨v2,a2,s2,e2,⟨_,hT,hR,_⟩,q2,r2⟩:=P5 (1+x) ⟨by omega,by omega⟩ code a1 s1 (k+2) hb q1 r1 (by omega)
 simp only at e2
 rw [e2]; simp only [Option.bind_some]
 obtain ⟨v3,a3,s3,e3,p3,q3,r3⟩:=Aq 16 (by decide) code a2 s2 (k+2+200) hb q2 r2 (by omega)
 simp only at e3
 rw [e3]; simp only [Option.bind_some]
 cases v3==0 with
 | true =>
  simp only [cond_true]
  obtain ⟨v4,a4,s4,e4,p4,q4,r4⟩:=FE [(-1),8,0] (by decide) code a3 s3 (k+2+200+2) hb q3 r3 (by omega)
  simp only at e4
  rw [e4]
  exact ⟨_,_,_,rfl,⟨by simp only; omega,by simp only; omega⟩,q4,by first | omega | (simp only; omega)⟩
 | false =>
  cases v3==1 with
  | true =>
   simp only [cond_true,cond_false]
   obtain ⟨v4,a4,s4,e4,p4,q4,r4⟩:=Aq 33 (by decide) code a3 s3 (k+2+200+2) hb q3 r3 (by omega)
   simp only at e4
   rw [e4]; simp only [Option.bind_some]
   obtain ⟨v5,a5,s5,e5,p5,q5,r5⟩:=Aq 9 (by decide) code a4 s4 (k+2+200+2+2) hb q4 r4 (by omega)
   simp only at e5
   rw [e5]; simp only [Option.bind_some]
   rw [chk_t (by omega)]
   exact ⟨_,_,_,rfl,⟨by simp only [List.length_append,List.length_singleton]; omega,by simp only; omega⟩,q5,by first | omega | (simp only; omega)⟩
  | false =>
   cases v3==2 with
   | true =>
    simp only [cond_true,cond_false]
    obtain ⟨v4,a4,s4,e4,p4,q4,r4⟩:=Pu code a3 s3 (k+2+200+2) hb q3 r3 (by omega)
    rw [e4]
    exact ⟨_,_,_,rfl,⟨by simp only; omega,by simp only; omega⟩,q4,by first | omega | (simp only; omega)⟩
   | false =>
    cases v3==3 with
    | true =>
     simp only [cond_true,cond_false]
     obtain ⟨v4,a4,s4,e4,p4,q4,r4⟩:=Aq 7 (by decide) code a3 s3 (k+2+200+2) hb q3 r3 (by omega)
     simp only at e4
     rw [e4]
     exact ⟨_,_,_,rfl,⟨by simp only; omega,by simp only; omega⟩,q4,by first | omega | (simp only; omega)⟩
    | false =>
     simp only [cond_false]
     exact ⟨_,_,_,rfl,⟨by simp only; omega,by simp only; omega⟩,q3,by first | omega | (simp only; omega)⟩

def Az (A:List Nat):Nat→Nat→Nat
 | 0,_=>0
 | k+1,v=>Az A k v ^^^ (if v.testBit k then A.getD k 0 else 0)
def AH (j t v:Nat):Nat:=if v.testBit t then v ^^^ 2 ^ j else v
theorem JJ (j v k:Nat):(v ^^^ 2 ^ j).testBit k=(v.testBit k ^^ decide (j=k)):=by
 rw [Nat.testBit_xor,Nat.testBit_two_pow]
theorem IU {A:List Nat} {j v:Nat}:∀ {n:Nat},Az A n (v ^^^ 2 ^ j)=if j<n then Az A n v ^^^ A.getD j 0 else Az A n v
 | 0=>by rw [if_neg (Nat.not_lt_zero _)]; rfl
 | n+1=>by
  have ih:=IU (A:=A) (j:=j) (v:=v) (n:=n)
  unfold Az
  rw [ih,JJ]
  by_cases h:j<n
  ·have e:decide (j=n)=false:=decide_eq_false (by omega)
   rw [e,Bool.xor_false,if_pos h,if_pos (show j<n+1 by omega)]
   ac_rfl
  ·by_cases e:j=n
   ·subst e
    have e:decide (j=j)=true:=decide_eq_true rfl
    rw [e,if_neg h,if_pos (show j<j+1 by omega)]
    cases v.testBit j
    ·simp
    ·simp [Nat.xor_assoc]
   ·have e2:decide (j=n)=false:=decide_eq_false e
    rw [e2,Bool.xor_false,if_neg h,if_neg (show ¬ j<n+1 by omega)]
theorem IR {A:List Nat} {t x k:Nat} (ht:t<A.length):(A.set t x).getD k 0=if k=t then x else A.getD k 0:=by
 rw [List.getD_eq_getElem?_getD,List.getElem?_set]
 by_cases h:t=k
 ·subst h; rw [if_pos rfl,if_pos ht,if_pos rfl]; rfl
 ·rw [if_neg h,if_neg (fun e=>h e.symm),List.getD_eq_getElem?_getD]
theorem G4 {A:List Nat} {t x v:Nat} (ht:t<A.length):∀ {n:Nat},(t<n→v.testBit t=false)→Az (A.set t x) n v=Az A n v
 | 0,_=>rfl
 | n+1,h=>by
  unfold Az
  rw [G4 ht (fun hn=>h (by omega)),IR ht]
  by_cases e:n=t
  ·subst e
   rw [h (by omega)]
   rfl
  ·rw [if_neg e]
theorem H8 {A:List Nat} {t x v:Nat} (ht:t<A.length) (hv:v.testBit t=true):∀ {n:Nat},t<n→Az (A.set t x) n v=Az A n v ^^^ (A.getD t 0 ^^^ x)
 | 0,h=>absurd h (Nat.not_lt_zero _)
 | n+1,h=>by
  unfold Az
  rw [IR ht]
  by_cases e:n=t
  ·subst e
   rw [G4 ht (fun hn=>absurd hn (Nat.lt_irrefl _)),if_pos rfl,hv,if_pos rfl,if_pos rfl,Nat.xor_assoc,← Nat.xor_assoc (A.getD n 0),Nat.xor_self,Nat.zero_xor]
  ·rw [H8 ht hv (by omega),if_neg e]
   ac_rfl
/-- A controlled NOT, and the vectors that go with it. -/
theorem H3 {A:List Nat} {n j t v:Nat} (hA:A.length=n) (hj:j<n) (ht:t<n) (hne:j≠t):Az (A.set t (A.getD t 0 ^^^ A.getD j 0)) n (AH j t v)=Az A n v:=by
 unfold AH
 cases hv:v.testBit t with
 | false =>
  simp only [Bool.false_eq_true,if_false]
  exact G4 (by omega) (fun _=>hv)
 | true =>
  simp only [if_true]
  rw [IU,if_pos hj,H8 (by omega) hv ht]
  have gd:(A.set t (A.getD t 0 ^^^ A.getD j 0)).getD j 0=A.getD j 0:=by
   rw [List.getD_eq_getElem?_getD,List.getElem?_set,if_neg (fun e=>hne e.symm),List.getD_eq_getElem?_getD]
  rw [gd,← Nat.xor_assoc (A.getD t 0),Nat.xor_self,Nat.zero_xor,Nat.xor_assoc,Nat.xor_self,Nat.xor_zero]
theorem Hf {A:List Nat}:∀ {n v:Nat},(∀ k,k<n→v.testBit k=false)→Az A n v=0
 | 0,_,_=>rfl
 | n+1,v,h=>by
  unfold Az
  rw [Hf (fun k hk=>h k (by omega)),h n (by omega)]; simp
theorem HJ {A:List Nat} {t:Nat}:∀ {n v:Nat},t<n→(∀ k,k<n→v.testBit k=decide (k=t))→Az A n v=A.getD t 0
 | 0,_,ht,_=>absurd ht (Nat.not_lt_zero _)
 | n+1,v,ht,h=>by
  unfold Az
  rw [h n (by omega)]
  by_cases e:n=t
  ·subst e
   rw [Hf (fun k hk=>by rw [h k (by omega)]; exact decide_eq_false (by omega)),decide_eq_true rfl]
   simp
  ·rw [HJ (t:=t) (by omega) (fun k hk=>h k (by omega)),decide_eq_false e]
   simp
structure GT where
 ps:List (Nat×Nat)
 fr:List Nat
 tg:Option Nat
def GT.flip (x:GT) (j t:Nat):GT:=⟨x.ps.map fun p=>(AH j t p.1,p.2),x.fr,x.tg⟩
/-- What each task keeps. -/
structure Cf (n:Nat) (A:List Nat) (x:GT):Prop where
 ok:∀ p∈x.ps,p.1<2 ^ n∧Az A n p.1=p.2∧p.2≠0
 cs:∀ k,k<n→k∉x.fr→∀ p∈x.ps,∀ q∈x.ps,p.1.testBit k=q.1.testBit k
 nn:x.tg=none→∀ k,k<n→k∉x.fr→∀ p∈x.ps,p.1.testBit k=false
 sm:∀ t,x.tg=some t→(t<n∧t∉x.fr)∧∀ p∈x.ps,p.1.testBit t=true
/-- What a task that lies above another has to do with it. -/
def Ha (n:Nat) (y x:GT):Prop:=y.tg≠none∧(x.tg=y.tg∨∀ k,k<n→k∉y.fr→∀ p∈x.ps,p.1.testBit k=false)
theorem G0 {n j t v:Nat} (hj:j<n) (hv:v<2 ^ n):AH j t v<2 ^ n:=by
 unfold AH
 split
 ·exact Nat.xor_lt_two_pow hv (Nat.pow_lt_pow_right (by omega) hj)
 ·exact hv
theorem EE {j t v k:Nat}:(AH j t v).testBit k=(v.testBit k ^^ (v.testBit t&&decide (j=k))):=by
 unfold AH
 cases hv:v.testBit t with
 | false=>simp
 | true=>simp only [if_true,Bool.true_and]; exact JJ j v k
theorem Cy {j t v k:Nat} (h:k≠j):(AH j t v).testBit k=v.testBit k:=by
 rw [EE,decide_eq_false (fun e=>h e.symm),Bool.and_false,Bool.xor_false]
def cxA (A:List Nat) (j t:Nat):List Nat:=A.set t (A.getD t 0 ^^^ A.getD j 0)
end Go.VK
