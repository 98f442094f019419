/- The plain law of FnCliffords: what its Lean function answers, for all arguments. -/
import Derived.Test.YtjjhmbpannlkaaaGreatLCliffordsFn
import Derived.Test.YtjjhmbpannlkaaaGreatLibI
set_option maxRecDepth 10000
set_option maxHeartbeats 1000000
set_option linter.unusedSimpArgs false
set_option linter.unusedVariables false
namespace Go.VK
theorem Gc {σ ρ:Type} {f:σ→Option (Ex σ ρ)} (I:σ→Prop) (Q:σ→Prop) (Qr:ρ→Prop) (m:σ→Nat)
  (h:∀ s,I s→(∃ o,f s=some (.nx o)∧I o∧m o<m s)∨(∃ o,f s=some (.br o)∧Q o)∨∃ r,f s=some (.rt r)∧Qr r) :
  ∀ (k:Nat) (s:σ),I s→m s<k→(∃ o,whX f k s=some (.inl o)∧Q o)∨∃ r,whX f k s=some (.inr r)∧Qr r
 | 0,_,_,hm=>absurd hm (Nat.not_lt_zero _)
 | k+1,s,hI,hm=>by
  rcases h s hI with ⟨o,u,D,P⟩ | ⟨o,u,D⟩ | ⟨r,u,D⟩
  ·rcases Gc I Q Qr m h k o D (by omega) with ⟨H,J,O⟩ | ⟨r,J,O⟩
   ·exact .inl ⟨H,by simp only [whX,u,Option.bind_some]; exact J,O⟩
   ·exact .inr ⟨r,by simp only [whX,u,Option.bind_some]; exact J,O⟩
  ·exact .inl ⟨o,by simp only [whX,u,Option.bind_some],D⟩
  ·exact .inr ⟨r,by simp only [whX,u,Option.bind_some],D⟩
/-- Two loops in step that both end by themselves. -/
theorem Jk {σ ρ ρ':Type} {f:σ→Option (Ex σ ρ)} {g:σ→Option (Ex σ ρ')} (I:σ→Prop) (Q:σ→Prop) (m:σ→Nat)
  (h:∀ s,I s→(∃ o,f s=some (.nx o)∧g s=some (.nx o)∧I o∧m o<m s)∨∃ o,f s=some (.br o)∧g s=some (.br o)∧Q o) :
  ∀ (k:Nat) (s:σ),I s→m s<k→∃ o,whX f k s=some (.inl o)∧whX g k s=some (.inl o)∧Q o
 | 0,_,_,hm=>absurd hm (Nat.not_lt_zero _)
 | k+1,s,hI,hm=>by
  rcases h s hI with ⟨o,D,u,H,U⟩ | ⟨o,D,u,H⟩
  ·obtain ⟨J,P,O,S⟩:=Jk I Q m h k o H (by omega)
   exact ⟨J,by simp only [whX,D,Option.bind_some]; exact P,by simp only [whX,u,Option.bind_some]; exact O,S⟩
  ·exact ⟨o,by simp only [whX,D,Option.bind_some],by simp only [whX,u,Option.bind_some],H⟩
theorem CT {n:Nat} (h:n<18446744073709551616):n<fuel:=h

/-- A coefficient that is taken. -/
def Bu (n:Int):Bool:=decide (-1000000000≤n)&&decide (n≤1000000000)
def rOk (x:Ac):Bool:=Bu x.A&&Bu x.B&&Bu x.C&&Bu x.D
def AP (x:Ac):Bool:=(Int.tmod (IntKind.i64.wrap (x.A+x.C)) 2==0)&&(Int.tmod (IntKind.i64.wrap (x.B+x.D)) 2==0)
def dOk (x:Ad):Bool:=rOk x.Num&&(decide (0≤x.Exp)&&decide (x.Exp≤60))&&((x.Exp==0)||!AP x.Num)
theorem PY {n:Int}:Bu n=true↔-1000000000≤n∧n≤1000000000:=by simp [Bu]
theorem Ba {x:Ac}:rOk x=true↔((-1000000000≤x.A∧x.A≤1000000000)∧(-1000000000≤x.B∧x.B≤1000000000))∧((-1000000000≤x.C∧x.C≤1000000000)∧(-1000000000≤x.D∧x.D≤1000000000)):=by
 simp only [rOk,Bool.and_eq_true,PY]
 constructor
 ·rintro ⟨⟨⟨a,b⟩,c⟩,d⟩; exact ⟨⟨a,b⟩,c,d⟩
 ·rintro ⟨⟨a,b⟩,c,d⟩; exact ⟨⟨⟨a,b⟩,c⟩,d⟩
theorem SQ (x:Ac):J5 x=some (rOk x):=by
 unfold J5 Mu
 rw [chk_t (by simp)]
 rcases forX_any (f:=Jg [x.A,x.B,x.C,x.D] (-1000000000) 1000000000) (l:=[x.A,x.B,x.C,x.D]) (p:=fun n=>!Bu n) (q:=fun _=>false) (fun i y H=>by
  have e:AG y (-1000000000) 1000000000=some (Bu y):=rfl
  unfold Jg; simp only [getI_nat,H,Option.bind_some,e]; cases Bu y <;> rfl) with ⟨o,u⟩ | ⟨o,i,_,u⟩
 ·rw [u]; simp at o; simp [orR,rOk,o]
 ·rw [u]; simp only [Option.bind_some,orR]; congr 1; symm
  cases h:rOk x with
  | false=>rfl
  | true=>simp only [rOk,Bool.and_eq_true] at h; simp [h] at o
theorem QL (n:Int):Dm n=some (Bu n):=rfl
theorem D6 (x:Ac):Cc x=some (rOk x):=by
 unfold Cc rOk
 simp only [QL,Option.bind_some,gb]
 cases Bu x.A <;> cases Bu x.B <;> cases Bu x.C <;> cases Bu x.D <;> rfl
theorem RU (x:Ac):LO x=some (AP x):=rfl
theorem Gz (x:Ac):DI x=some (AP x):=rfl
theorem DK (x:Ad):BU x=some (dOk x):=by
 unfold BU A0 dOk
 simp only [D6,Gz,Option.bind_some,gb]
 cases rOk x.Num <;> cases decide (0≤x.Exp)&&decide (x.Exp≤60) <;> cases x.Exp==0 <;> cases AP x.Num <;> rfl
def Am:Ac:=Ac.mk 0 0 0 0
def Ak:Ad:=Ad.mk Am 0
theorem HD (out:Ac) (o:List Ac) (P:o.length≤10):BF out o=some (if o.all rOk&&rOk out then (out,true) else (Am,false)):=by
 unfold BF
 rw [chk_t (by omega),chk_t (by simp; omega)]
 rcases forX_any (f:=Gr o out) (l:=o++[out]) (p:=fun x=>!rOk x) (q:=fun _=>(Ac.mk 0 0 0 0,false)) (fun i y J=>by
  unfold Gr; simp only [getI_nat,J,Option.bind_some,D6]; cases rOk y <;> rfl) with ⟨u,D⟩ | ⟨u,i,_,D⟩
 ·rw [D]
  have:(o.all rOk&&rOk out)=true:=by
   simp only [List.any_append,List.any_cons,List.any_nil,Bool.or_false,Bool.or_eq_false_iff] at u
   simp only [Bool.and_eq_true,List.all_eq_true]
   exact ⟨fun x H=>by have:=List.any_eq_false.1 u.1 x H; simpa using this,by simpa using u.2⟩
  rw [this]; rfl
 ·rw [D]
  have:(o.all rOk&&rOk out)=false:=by
   simp only [List.any_append,List.any_cons,List.any_nil,Bool.or_false,Bool.or_eq_true] at u
   rcases u with h | h
   ·obtain ⟨x,H,O⟩:=List.any_eq_true.1 h
    have:o.all rOk=false:=by rw [List.all_eq_false]; exact ⟨x,H,by simpa using O⟩
    rw [this]; rfl
   ·simp at h; rw [h]; simp
  rw [this]; rfl

def CG (x:Ac):Ac:=Ac.mk (Int.tdiv (x.B-x.D) 2) (Int.tdiv (x.A+x.C) 2) (Int.tdiv (x.B+x.D) 2) (Int.tdiv (x.C-x.A) 2)
def Ao (x:Ac):Ac:=Ac.mk (x.B-x.D) (x.A+x.C) (x.B+x.D) (x.C-x.A)
theorem wr {a:Int} (h : -9000000000000000000≤a∧a≤9000000000000000000):IntKind.i64.wrap a=a:=wrap_i64 ⟨by omega,by omega⟩
theorem HP {a:Int} (h : -2000000000≤a∧a≤2000000000) : -1000000000≤Int.tdiv a 2∧Int.tdiv a 2≤1000000000:=by
 rcases Int.le_total 0 a with o | o
 ·rw [Int.tdiv_eq_ediv_of_nonneg o]; omega
 ·have e:a = -(-a):=by omega
  rw [e,Int.neg_tdiv,Int.tdiv_eq_ediv_of_nonneg (by omega)]; omega
theorem HE {x:Ac} (h:rOk x=true):rOk (CG x)=true:=by
 rw [Ba] at h ⊢
 exact ⟨⟨HP (by omega),HP (by omega)⟩,HP (by omega),HP (by omega)⟩
theorem IM {x:Ac} (h:rOk x=true):Gx x=some (Ao x):=by
 rw [Ba] at h
 unfold Gx Ao
 rw [wr (a:=x.B-x.D) (by omega),wr (a:=x.A+x.C) (by omega),wr (a:=x.B+x.D) (by omega),wr (a:=x.C-x.A) (by omega)]
theorem Nj {x:Ac} (h:rOk x=true):J9 x=some (CG x):=by
 unfold J9
 rw [IM h]
 have o:=h
 rw [Ba] at h
 have t:=HE o
 rw [Ba] at t
 simp only [Option.bind_some,Ao]
 unfold CG at t ⊢
 simp only at t
 rw [wr (a:=Int.tdiv (x.B-x.D) 2) (by omega),wr (a:=Int.tdiv (x.A+x.C) 2) (by omega),wr (a:=Int.tdiv (x.B+x.D) 2) (by omega),wr (a:=Int.tdiv (x.C-x.A) 2) (by omega)]
theorem KN {x:Ac} (h:rOk x=true) (H:AP x=true):Fd x=some (CG x,true):=by
 unfold Fd
 have o:=h
 have t:=HE o
 have u:=t
 rw [Ba] at h t
 simp only [D6,Gz,o,H,Option.bind_some,gb,Bool.not_true,Bool.not_false,cond_true,Bool.or_self,cond_false]
 rw [wr (a:=x.B-x.D) (by omega),wr (a:=x.A+x.C) (by omega),wr (a:=x.B+x.D) (by omega),wr (a:=x.C-x.A) (by omega)]
 unfold CG at t u ⊢
 simp only at t
 rw [wr (a:=Int.tdiv (x.B-x.D) 2) (by omega),wr (a:=Int.tdiv (x.A+x.C) 2) (by omega),wr (a:=Int.tdiv (x.B+x.D) 2) (by omega),wr (a:=Int.tdiv (x.C-x.A) 2) (by omega)]
 rw [HD _ _ (by simp)]
 simp [o,u]
/-- Both bring a number to its lowest terms, and alike. -/
theorem C5 {x:Ac} {e:Int} (P:rOk x=true) (J:0≤e∧e≤60):∃ z,EY x e=some z∧AK x e=some (z,true)∧dOk z=true:=by
 obtain ⟨⟨W,A,B,C,D⟩,Z,h2,Q,S,U,V⟩:=Jk (f:=Id) (g:=Cy) (fun s=>rOk (Ac.mk s.2.1 s.2.2.1 s.2.2.2.1 s.2.2.2.2)=true∧0≤s.1∧s.1≤60)
  (fun s=>rOk (Ac.mk s.2.1 s.2.2.1 s.2.2.2.1 s.2.2.2.2)=true∧0≤s.1∧s.1≤60∧((s.1==0)||!AP (Ac.mk s.2.1 s.2.2.1 s.2.2.2.1 s.2.2.2.2))=true) (fun s=>s.1.toNat)
  (fun s ⟨u,O,o⟩=>by
   obtain ⟨e,A,B,C,D⟩:=s
   simp only at u O o
   unfold Id Cy
   simp only [RU,Gz,Option.bind_some,gb]
   by_cases hpos:0<e
   ·rw [decide_eq_true hpos]
    cases H:AP (Ac.mk A B C D) with
    | true =>
     simp only [cond_true,Bool.and_self,Nj u,KN u H,Option.bind_some]
     refine .inl ⟨_,rfl,rfl,⟨HE u,?_⟩,?_⟩
     ·show 0≤IntKind.i64.wrap (e-1)∧IntKind.i64.wrap (e-1)≤60
      rw [wr (by omega)]; omega
     ·show (IntKind.i64.wrap (e-1)).toNat<e.toNat
      rw [wr (by omega)]; omega
    | false =>
     simp only [cond_true,Bool.and_false,cond_false]
     exact .inr ⟨_,rfl,rfl,u,O,o,by simp [H]⟩
   ·rw [decide_eq_false hpos]
    simp only [cond_false,Bool.false_and]
    have:e=0:=by omega
    exact .inr ⟨_,rfl,rfl,u,O,o,by simp [this]⟩)
  fuel (e,x.A,x.B,x.C,x.D) ⟨P,J.1,J.2⟩ (CT (by omega))
 refine ⟨Ad.mk (Ac.mk A B C D) W,?_,?_,?_⟩
 ·unfold EY; rw [Z]; rfl
 ·unfold AK A0
  simp only [D6,P,Option.bind_some,gb,Bool.not_true,Bool.not_false,cond_true,Bool.false_or]
  rw [decide_eq_true J.1,decide_eq_true J.2]
  simp only [Bool.and_self,Bool.not_true,cond_false]
  rw [h2]; rfl
 ·simp only at Q S U V
  unfold dOk
  simp only [Q,decide_eq_true S,decide_eq_true U,Bool.true_and,Bool.and_self]
  exact V

theorem A9 {x:Ad} (h:dOk x=true):rOk x.Num=true∧0≤x.Exp∧x.Exp≤60:=by
 unfold dOk at h
 simp only [Bool.and_eq_true,decide_eq_true_eq] at h
 exact ⟨h.1.1,h.1.2.1,h.1.2.2⟩
theorem Bf:dOk Ak=true:=by decide
theorem BH:rOk Am=true:=by decide
def cB (b:Bool):Az:=Az.mk b
theorem Ep (b:Bool) (x:Ac):Dt (cB b) x=some (if rOk x then (x,cB b) else (Am,cB true)):=by
 unfold Dt
 rw [SQ]
 simp only [Option.bind_some]
 cases rOk x <;> rfl
def AN (x y:Ac):Ac:=(Hj x y).getD Am
theorem Ej {x y:Ac} (o:rOk x=true) (u:rOk y=true):Dv x y=some (if rOk (AN x y) then (AN x y,true) else (Am,false)):=by
 have e:=HD (AN x y) [x,y] (by simp)
 simp only [List.all_cons,List.all_nil,o,u,Bool.true_and] at e
 have e2:Dv x y=(BF (AN x y) [x,y]).bind fun p=>some (p.1,p.2):=rfl
 rw [e2,e]
 cases rOk (AN x y) <;> rfl
theorem Iu {x y:Ad} (P:dOk x=true) (Q:dOk y=true) :
  (∃ z,dOk z=true∧(∀ b,Cn (cB b) x y=some (z,cB b))∧AT x y=some (z,true)) ∨
   ((∀ b,∃ z,dOk z=true∧Cn (cB b) x y=some (z,cB true))∧AT x y=some (Ak,false)):=by
 obtain ⟨u,W,Z⟩:=A9 P
 obtain ⟨D,y2,y3⟩:=A9 Q
 have H:IntKind.i64.wrap (x.Exp+y.Exp)=x.Exp+y.Exp:=wr (by omega)
 have hi:∀ q:Ac×Bool,Dv x.Num y.Num=some q→AT x y=(bif !q.2 then some (Ak,false) else (AK q.1 (x.Exp+y.Exp)).bind fun p=>some (p.1,p.2)):=fun q V=>by
  unfold AT
  rw [V]
  simp only [Option.bind_some,DK,P,Q,gb,Bool.not_true,Bool.not_false,cond_true,Bool.false_or,H]
  rfl
 by_cases he:x.Exp+y.Exp≤60
 ·have S:∀ b,Cn (cB b) x y=(Dt (cB b) (AN x.Num y.Num)).bind fun p=>(EY p.1 (x.Exp+y.Exp)).bind fun r=>some (r,p.2):=fun b=>by
   unfold Cn
   rw [H,decide_eq_false (show ¬ (60:Int)<x.Exp+y.Exp by omega)]
   rfl
  cases o:rOk (AN x.Num y.Num) with
  | true =>
   obtain ⟨z,J,U,O⟩:=C5 o (e:=x.Exp+y.Exp) ⟨by omega,he⟩
   refine .inl ⟨z,O,fun b=>?_,?_⟩
   ·rw [S,Ep,o]; simp only [if_true,Option.bind_some,J]
   ·rw [hi _ (Ej u D),o]; simp only [if_true,Bool.not_true,cond_false,U,Option.bind_some]
  | false =>
   refine .inr ⟨fun b=>?_,?_⟩
   ·obtain ⟨z,J,U,O⟩:=C5 BH (e:=x.Exp+y.Exp) ⟨by omega,he⟩
    exact ⟨z,O,by rw [S,Ep,o]; simp only [Bool.false_eq_true,if_false,Option.bind_some,J]⟩
   ·rw [hi _ (Ej u D),o]; rfl
 ·refine .inr ⟨fun b=>⟨Ak,Bf,?_⟩,?_⟩
  ·unfold Cn
   rw [H,decide_eq_true (show (60:Int)<x.Exp+y.Exp by omega)]
   rfl
  ·rw [hi _ (Ej u D)]
   cases o:rOk (AN x.Num y.Num) with
   | false=>rfl
   | true =>
    simp only [if_true,Bool.not_true,cond_false]
    unfold AK A0
    simp only [D6,o,Option.bind_some,gb,Bool.not_true,Bool.not_false,cond_true,Bool.false_or]
    rw [decide_eq_false (show ¬ x.Exp+y.Exp≤60 by omega)]
    simp only [Bool.and_false,Bool.not_false,cond_true]
    rfl

theorem Tg {x:Ac} (h:rOk x=true):EQ x=some (if rOk (Ao x) then (Ao x,true) else (Am,false)):=by
 unfold EQ
 have o:=h
 rw [Ba] at h
 rw [wr (a:=x.B-x.D) (by omega),wr (a:=x.A+x.C) (by omega),wr (a:=x.B+x.D) (by omega),wr (a:=x.C-x.A) (by omega)]
 have e:=HD (Ao x) [x] (by simp)
 simp only [List.all_cons,List.all_nil,o,Bool.true_and] at e
 show (BF (Ao x) [x]).bind _=_
 rw [e]
 cases rOk (Ao x) <;> rfl
def A5 (b:Bool) (x:Ac) (e:Int):Bool×Int×Int×Int×Int×Int:=(b,x.A,x.B,x.C,x.D,e)
def AS (x:Ac) (ok:Bool) (e:Int):Int×Int×Int×Int×Bool×Int:=(x.A,x.B,x.C,x.D,ok,e)
/-- A number's numerator for a greater exponent, in the specification's loop. -/
theorem JI {f:Bool×Int×Int×Int×Int×Int→Option (Ex (Bool×Int×Int×Int×Int×Int) (Ad×Az))} {E:Int} (J:E≤60)
  (D:∀ b x e,rOk x=true→0≤e→e≤60→f (A5 b x e)=some (bif decide (e<E) then .nx (if rOk (Ao x) then A5 b (Ao x) (e+1) else A5 true Am (e+1)) else .br (A5 b x e))) :
  ∀ (k:Nat) (b:Bool) (x:Ac) (e:Int),rOk x=true→0≤e→e≤E→(E-e).toNat<k→∃ o u,whX f k (A5 b x e)=some (.inl (A5 o u E))∧rOk u=true∧(b=true→o=true)
 | 0,_,_,_,_,_,_,hk=>absurd hk (Nat.not_lt_zero _)
 | k+1,b,x,e,hx,h0,h1,hk=>by
  have h:=D b x e hx h0 (by omega)
  by_cases hlt:e<E
  ·rw [decide_eq_true hlt,cond_true] at h
   cases H:rOk (Ao x) with
   | true =>
    rw [H] at h; simp only [if_true] at h
    obtain ⟨o,u,e1,e2,e3⟩:=JI J D k b (Ao x) (e+1) H (by omega) (by omega) (by omega)
    exact ⟨o,u,by simp only [whX,h,Option.bind_some]; exact e1,e2,e3⟩
   | false =>
    rw [H] at h; simp only [Bool.false_eq_true,if_false] at h
    obtain ⟨o,u,e1,e2,e3⟩:=JI J D k true Am (e+1) BH (by omega) (by omega) (by omega)
    exact ⟨o,u,by simp only [whX,h,Option.bind_some]; exact e1,e2,fun _=>e3 rfl⟩
  ·rw [decide_eq_false hlt,cond_false] at h
   have:e=E:=by omega
   subst this
   exact ⟨b,x,by simp only [whX,h,Option.bind_some],hx,id⟩
theorem Dg {E:Int} {x:Ac} {e:Int} (o:rOk x=true) (u:0≤e) (D:e≤60) (ok:Bool) :
  Cw E (AS x ok e)=some (bif decide (e<E)&&ok then .nx (if rOk (Ao x) then AS (Ao x) true (e+1) else AS Am false (e+1)) else .br (AS x ok e)):=by
 unfold Cw AS
 simp only [Tg o]
 rw [wr (a:=e+1) (by omega)]
 cases decide (e<E)&&ok <;> cases rOk (Ao x) <;> rfl
theorem Jp {f:Bool×Int×Int×Int×Int×Int→Option (Ex (Bool×Int×Int×Int×Int×Int) (Ad×Az))} {E:Int} (Q:E≤60)
  (J:∀ b x e,rOk x=true→0≤e→e≤60→f (A5 b x e)=some (bif decide (e<E) then .nx (if rOk (Ao x) then A5 b (Ao x) (e+1) else A5 true Am (e+1)) else .br (A5 b x e))) :
  ∀ (k:Nat) (x:Ac) (e:Int),rOk x=true→0≤e→e≤E→(E-e).toNat<k →
   (∃ o,rOk o=true∧(∀ b,whX f k (A5 b x e)=some (.inl (A5 b o E)))∧whX (Cw E) k (AS x true e)=some (.inl (AS o true E))) ∨
    ((∀ b,∃ o,rOk o=true∧whX f k (A5 b x e)=some (.inl (A5 true o E)))∧∃ u O,rOk u=true∧whX (Cw E) k (AS x true e)=some (.inl (AS u false O)))
 | 0,_,_,_,_,_,hk=>absurd hk (Nat.not_lt_zero _)
 | k+1,x,e,hx,h0,h1,hk=>by
  have h:=fun b=>J b x e hx h0 (by omega)
  have D:=Dg (E:=E) hx h0 (by omega) true
  by_cases hlt:e<E
  ·simp only [decide_eq_true hlt,cond_true,Bool.true_and] at h D
   cases P:rOk (Ao x) with
   | true =>
    simp only [P,if_true] at h D
    rcases Jp Q J k (Ao x) (e+1) P (by omega) (by omega) (by omega) with ⟨o,e1,e2,e3⟩ | ⟨e1,u,O,e2,e3⟩
    ·exact .inl ⟨o,e1,fun b=>by simp only [whX,h,Option.bind_some]; exact e2 b,by simp only [whX,D,Option.bind_some]; exact e3⟩
    ·refine .inr ⟨fun b=>?_,u,O,e2,by simp only [whX,D,Option.bind_some]; exact e3⟩
     obtain ⟨o,S,U⟩:=e1 b
     exact ⟨o,S,by simp only [whX,h,Option.bind_some]; exact U⟩
   | false =>
    simp only [P,Bool.false_eq_true,if_false] at h D
    refine .inr ⟨fun b=>?_,Am,e+1,BH,?_⟩
    ·obtain ⟨V,o,e1,e2,e3⟩:=JI Q J k true Am (e+1) BH (by omega) (by omega) (by omega)
     have:V=true:=e3 rfl
     subst this
     exact ⟨o,e2,by simp only [whX,h,Option.bind_some]; exact e1⟩
    ·cases k with
     | zero=>omega
     | succ k =>
      have H:=Dg (E:=E) BH (show 0≤e+1 by omega) (by omega) false
      simp only [Bool.and_false,cond_false] at H
      simp only [whX,D,Option.bind_some,H]
  ·simp only [decide_eq_false hlt,cond_false,Bool.false_and] at h D
   have:e=E:=by omega
   subst this
   exact .inl ⟨x,hx,fun b=>by simp only [whX,h,Option.bind_some],by simp only [whX,D,Option.bind_some]⟩
def AE (x y:Ac):Ac:=(Hr x y).getD Am
theorem Qf {x y:Ac} (o:rOk x=true) (u:rOk y=true):Ey x y=some (if rOk (AE x y) then (AE x y,true) else (Am,false)):=by
 have e:=HD (AE x y) [x,y] (by simp)
 simp only [List.all_cons,List.all_nil,o,u,Bool.true_and] at e
 have e2:Ey x y=(BF (AE x y) [x,y]).bind fun p=>some (p.1,p.2):=rfl
 rw [e2,e]
 cases rOk (AE x y) <;> rfl
theorem M3 (y:Ad) (b:Bool) (x:Ac) (e:Int) (u:rOk x=true) (D:0≤e) (H:e≤60) :
  DS y (A5 b x e)=some (bif decide (e<y.Exp) then .nx (if rOk (Ao x) then A5 b (Ao x) (e+1) else A5 true Am (e+1)) else .br (A5 b x e)):=by
 have o:=Ep b (Ao x)
 unfold cB at o
 unfold DS A5
 simp only [IM u,o,Option.bind_some]
 rw [wr (a:=e+1) (by omega)]
 cases decide (e<y.Exp) <;> cases rOk (Ao x) <;> rfl
theorem KR (E:Int) (u:Bool) (A C D:Int) (b:Bool) (x:Ac) (e:Int) (H:rOk x=true) (J:0≤e) (O:e≤60) :
  Fy E u A C D (A5 b x e)=some (bif decide (e<E) then .nx (if rOk (Ao x) then A5 b (Ao x) (e+1) else A5 true Am (e+1)) else .br (A5 b x e)):=by
 have o:=Ep b (Ao x)
 unfold cB at o
 unfold Fy A5
 simp only [IM H,o,Option.bind_some]
 rw [wr (a:=e+1) (by omega)]
 cases decide (e<E) <;> cases rOk (Ao x) <;> rfl
/-- The end of a sum in the specification. -/
def fin (b:Bool) (a c:Ac) (E:Int):Option (Ad×Az) :=
 (Dt (cB b) (AE a c)).bind fun p=>(EY p.1 E).bind fun r=>some (r,p.2)
theorem M5 (a c:Ac) {E:Int} (D:0≤E∧E≤60):∃ z,dOk z=true∧fin true a c E=some (z,cB true):=by
 unfold fin
 rw [Ep]
 cases H:rOk (AE a c) with
 | true =>
  obtain ⟨z,o,_,u⟩:=C5 H D
  exact ⟨z,u,by simp only [if_true,Option.bind_some,o]⟩
 | false =>
  obtain ⟨z,o,_,u⟩:=C5 BH D
  exact ⟨z,u,by simp only [Bool.false_eq_true,if_false,Option.bind_some,o]⟩
theorem LZ {a c:Ac} {E:Int} (H:0≤E∧E≤60) :
  (rOk (AE a c)=true∧∃ z,dOk z=true∧(∀ b,fin b a c E=some (z,cB b))∧AK (AE a c) E=some (z,true))∨(rOk (AE a c)=false∧∀ b,∃ z,dOk z=true∧fin b a c E=some (z,cB true)):=by
 cases o:rOk (AE a c) with
 | true =>
  obtain ⟨z,u,J,D⟩:=C5 o H
  exact .inl ⟨rfl,z,D,fun b=>by unfold fin; rw [Ep,o]; simp only [if_true,Option.bind_some,u],J⟩
 | false =>
  obtain ⟨z,u,_,D⟩:=C5 BH H
  exact .inr ⟨rfl,fun b=>⟨z,D,by unfold fin; rw [Ep,o]; simp only [Bool.false_eq_true,if_false,Option.bind_some,u]⟩⟩
/-- The specification's sum: its two loops, then its end. -/
theorem FR (b:Bool) (x y:Ad) {o u:Bool} {a c:Ac} {e1 e2:Int} (H:whX (DS y) fuel (A5 b x.Num x.Exp)=some (.inl (A5 o a e1)))
  (J:whX (Fy e1 o a.A a.C a.D) fuel (A5 o y.Num y.Exp)=some (.inl (A5 u c e2))):Cj (cB b) x y=fin u a c e1:=by
 unfold Cj
 unfold A5 at H J
 show (whX (DS y) fuel (b,x.Num.A,x.Num.B,x.Num.C,x.Num.D,x.Exp)).bind _=_
 rw [H]
 simp only [Option.bind_some,orR]
 rw [J]
 rfl
theorem Cv {x:Ad} {E:Int} {a:Ac} {ok:Bool} {e:Int} (h:whX (Cw E) fuel (AS x.Num true x.Exp)=some (.inl (AS a ok e))):Bg x E=some (a,ok):=by
 unfold Bg
 unfold AS at h
 rw [h]
 rfl
theorem EF {x y:Ad} (D:dOk x=true) (H:dOk y=true) {E:Int} (J:(if x.Exp<y.Exp then y.Exp else x.Exp)=E) {a c:Ac} {o u:Bool} (O:Bg x E=some (a,o)) (P:Bg y E=some (c,u))
  (ha:rOk a=true) (hc:rOk c=true):BS x y=(bif o&&u&&rOk (AE a c) then AK (AE a c) E else some (Ak,false)):=by
 unfold BS Gv
 rw [J]
 simp only [DK,D,H,Option.bind_some,gb,Bool.not_true,Bool.not_false,cond_true,Bool.or_self,cond_false,O,P,Qf ha hc]
 cases o <;> cases u <;> cases Q:rOk (AE a c) <;> simp only [Bool.not_true,Bool.not_false,Bool.or_self,Bool.or_true,Bool.true_or,Bool.false_or,Bool.or_false,Bool.and_self,Bool.and_true,Bool.and_false,Bool.true_and,Bool.false_and,if_true,Bool.false_eq_true,if_false,Option.bind_some,cond_true,cond_false]
 all_goals first | rfl | (cases AK (AE a c) E <;> rfl)
theorem J7 {x y:Ad} (hx:dOk x=true) (hy:dOk y=true) :
  (∃ z,dOk z=true∧(∀ b,Cj (cB b) x y=some (z,cB b))∧BS x y=some (z,true)) ∨
   ((∀ b,∃ z,dOk z=true∧Cj (cB b) x y=some (z,cB true))∧BS x y=some (Ak,false)):=by
 obtain ⟨x1,x2,x3⟩:=A9 hx
 obtain ⟨S,U,V⟩:=A9 hy
 have P:∀ {f:Bool×Int×Int×Int×Int×Int→Option (Ex (Bool×Int×Int×Int×Int×Int) (Ad×Az))} {t:Bool×Int×Int×Int×Int×Int},f t=some (.br t)→whX f fuel t=some (.inl t):=fun h=>by
  rw [show fuel=(fuel-1)+1 from rfl]; simp only [whX,h,Option.bind_some]
 have o:∀ {E:Int} {z:Ad},rOk z.Num=true→0≤z.Exp→z.Exp≤60→¬ z.Exp<E→Bg z E=some (z.Num,true):=fun {E z} h h0 h1 hn=>by
  refine Cv (e:=z.Exp) ?_
  have:=Dg (E:=E) h h0 h1 true
  simp only [decide_eq_false hn,Bool.false_and,cond_false] at this
  rw [show fuel=(fuel-1)+1 from rfl]; simp only [whX,this,Option.bind_some]
 by_cases hlt:x.Exp<y.Exp
 ·have hE:(if x.Exp<y.Exp then y.Exp else x.Exp)=y.Exp:=if_pos hlt
  have u:∀ (b:Bool) (a:Ac),whX (Fy y.Exp b a.A a.C a.D) fuel (A5 b y.Num y.Exp)=some (.inl (A5 b y.Num y.Exp)):=fun b a=>P (by
   rw [KR _ _ _ _ _ _ _ _ S U V,decide_eq_false (by omega)]; rfl)
  rcases Jp (f:=DS y) (E:=y.Exp) V (M3 y) fuel x.Num x.Exp x1 x2 (by omega) (CT (by omega)) with ⟨a,a1,a2,a3⟩ | ⟨a1,a,e',a2,a3⟩
  ·have hc:=EF hx hy hE (Cv a3) (o S U V (by omega)) a1 S
   rcases LZ (a:=a) (c:=y.Num) (E:=y.Exp) ⟨U,V⟩ with ⟨r1,z,Q,J,O⟩ | ⟨r1,Q⟩
   ·exact .inl ⟨z,Q,fun b=>by rw [FR b x y (a2 b) (u b a)]; exact J b,by rw [hc,r1]; exact O⟩
   ·refine .inr ⟨fun b=>?_,by rw [hc,r1]; rfl⟩
    obtain ⟨z,J,O⟩:=Q b
    exact ⟨z,J,by rw [FR b x y (a2 b) (u b a)]; exact O⟩
  ·have hc:=EF hx hy hE (Cv a3) (o S U V (by omega)) a2 S
   refine .inr ⟨fun b=>?_,by rw [hc]; rfl⟩
   obtain ⟨a',_,a5⟩:=a1 b
   obtain ⟨z,J,O⟩:=M5 a' y.Num (E:=y.Exp) ⟨U,V⟩
   exact ⟨z,J,by rw [FR b x y a5 (u true a')]; exact O⟩
 ·have hE:(if x.Exp<y.Exp then y.Exp else x.Exp)=x.Exp:=if_neg hlt
  have u:∀ (b:Bool),whX (DS y) fuel (A5 b x.Num x.Exp)=some (.inl (A5 b x.Num x.Exp)):=fun b=>P (by
   rw [M3 y _ _ _ x1 x2 x3,decide_eq_false (by omega)]; rfl)
  have hr:=fun (b0:Bool)=>Jp (f:=Fy x.Exp b0 x.Num.A x.Num.C x.Num.D) (E:=x.Exp) x3 (KR _ _ _ _ _) fuel y.Num y.Exp S U (by omega) (CT (by omega))
  have ac:∀ {c:Ac} {oc:Bool},Bg y x.Exp=some (c,oc)→rOk c=true→BS x y=(bif true&&oc&&rOk (AE x.Num c) then AK (AE x.Num c) x.Exp else some (Ak,false)):=fun h hc =>
   EF hx hy hE (o x1 x2 x3 (by omega)) h x1 hc
  rcases hr true with ⟨c,c1,c2,W⟩ | ⟨c1,c,e',c2,W⟩
  ·have hc:=ac (Cv W) c1
   have hs:∀ b,Cj (cB b) x y=fin b x.Num c x.Exp:=fun b=>by
    rcases hr b with ⟨Z,d1,d2,H⟩ | ⟨_,Z,e',_,H⟩
    ·rw [W] at H
     have:c=Z:=by cases c; cases Z; simp only [AS,Option.some.injEq,Sum.inl.injEq,Prod.mk.injEq] at H; simp only [Ac.mk.injEq]; exact ⟨H.1,H.2.1,H.2.2.1,H.2.2.2.1⟩
     subst this
     exact FR b x y (u b) (d2 b)
    ·rw [W] at H
     simp [AS] at H
   rcases LZ (a:=x.Num) (c:=c) (E:=x.Exp) ⟨x2,x3⟩ with ⟨r1,z,Q,J,O⟩ | ⟨r1,Q⟩
   ·exact .inl ⟨z,Q,fun b=>by rw [hs]; exact J b,by rw [hc,r1]; exact O⟩
   ·refine .inr ⟨fun b=>?_,by rw [hc,r1]; rfl⟩
    obtain ⟨z,J,O⟩:=Q b
    exact ⟨z,J,by rw [hs]; exact O⟩
  ·have hc:=ac (Cv W) c2
   refine .inr ⟨fun b=>?_,by rw [hc]; rfl⟩
   rcases hr b with ⟨Z,d1,d2,H⟩ | ⟨d1,_⟩
   ·rw [W] at H; simp [AS] at H
   ·obtain ⟨Z,_,d5⟩:=d1 b
    obtain ⟨z,J,O⟩:=M5 x.Num Z (E:=x.Exp) ⟨x2,x3⟩
    exact ⟨z,J,by rw [FR b x y (u b) d5]; exact O⟩

def DM (x y:Ad):Option Ad:=(AT x y).bind fun p=>if p.2 then some p.1 else none
def DA (x y:Ad):Option Ad:=(BS x y).bind fun p=>if p.2 then some p.1 else none
/-- An answer of the program: the number, or zero and false. -/
def dR (o:Option Ad):Ad×Bool:=match o with | some z=>(z,true) | none=>(Ak,false)
/-- The specification's step f, from whatever flag, ends in the number o, the flag as it was; or, if there is none, in some number and the flag set. -/
def SP {α:Type} (f:Az→Option (α×Az)) (G:α→Prop) (o:Option α):Prop :=
 ∀ b,∃ z b',f (cB b)=some (z,cB b')∧G z∧((o=some z∧b'=b)∨(o=none∧b'=true))
theorem SP.bind {α β:Type} {f:Az→Option (α×Az)} {G:α→Prop} {o:Option α} (H:SP f G o) {h:α→Az→Option (β×Az)} {G':β→Prop} {o':α→Option β}
  (J:∀ z,G z→SP (h z) G' (o' z)):SP (fun c=>(f c).bind fun p=>h p.1 p.2) G' (o.bind o'):=fun b=>by
 obtain ⟨z,O,P,Q,S⟩:=H b
 obtain ⟨U,D,V,W,u⟩:=J z Q O
 refine ⟨U,D,by simp only [P,Option.bind_some]; exact V,W,?_⟩
 rcases S with ⟨rfl,rfl⟩ | ⟨rfl,rfl⟩
 ·simpa using u
 ·rcases u with ⟨_,u⟩ | ⟨_,u⟩
  ·exact .inr ⟨rfl,u⟩
  ·exact .inr ⟨rfl,u⟩
theorem SP.pure {α:Type} {G:α→Prop} {z:α} (h:G z):SP (fun c=>some (z,c)) G (some z):=fun b=>⟨z,b,rfl,h,.inl ⟨rfl,rfl⟩⟩
theorem SP.map {α β:Type} {f:Az→Option (α×Az)} {G:α→Prop} {o:Option α} (u:SP f G o) {g:α→β} {G':β→Prop} (D:∀ z,G z→G' (g z)):SP (fun c=>(f c).bind fun p=>some (g p.1,p.2)) G' (o.map g):=by
 have:=u.bind (h:=fun z c=>some (g z,c)) (o':=fun z=>some (g z)) (fun z H=>SP.pure (D z H))
 rwa [Option.map_eq_bind]
theorem spM {x y:Ad} (H:dOk x=true) (J:dOk y=true):SP (fun c=>Cn c x y) (fun z=>dOk z=true) (DM x y):=fun b=>by
 unfold DM
 rcases Iu H J with ⟨z,o,u,D⟩ | ⟨o,u⟩
 ·exact ⟨z,b,u b,o,.inl ⟨by rw [D]; rfl,rfl⟩⟩
 ·obtain ⟨z,D,O⟩:=o b
  exact ⟨z,true,O,D,.inr ⟨by rw [u]; rfl,rfl⟩⟩
theorem spA {x y:Ad} (H:dOk x=true) (J:dOk y=true):SP (fun c=>Cj c x y) (fun z=>dOk z=true) (DA x y):=fun b=>by
 unfold DA
 rcases J7 H J with ⟨z,o,u,D⟩ | ⟨o,u⟩
 ·exact ⟨z,b,u b,o,.inl ⟨by rw [D]; rfl,rfl⟩⟩
 ·obtain ⟨z,D,O⟩:=o b
  exact ⟨z,true,O,D,.inr ⟨by rw [u]; rfl,rfl⟩⟩
theorem imM {x y:Ad} (u:dOk x=true) (D:dOk y=true):AT x y=some (dR (DM x y)):=by
 unfold DM
 rcases Iu u D with ⟨z,H,o,J⟩ | ⟨H,o⟩
 ·rw [J]; rfl
 ·rw [o]; rfl
theorem imA {x y:Ad} (u:dOk x=true) (D:dOk y=true):BS x y=some (dR (DA x y)):=by
 unfold DA
 rcases J7 u D with ⟨z,H,o,J⟩ | ⟨H,o⟩
 ·rw [J]; rfl
 ·rw [o]; rfl
theorem M8 {x y z:Ad} (D:dOk x=true) (H:dOk y=true) (h:DM x y=some z):dOk z=true:=by
 unfold DM at h
 rcases Iu D H with ⟨O,o,u,J⟩ | ⟨o,u⟩
 ·rw [J] at h; simp at h; rw [← h]; exact o
 ·rw [u] at h; simp at h
theorem Mc {x y z:Ad} (D:dOk x=true) (H:dOk y=true) (h:DA x y=some z):dOk z=true:=by
 unfold DA at h
 rcases J7 D H with ⟨O,o,u,J⟩ | ⟨o,u⟩
 ·rw [J] at h; simp at h; rw [← h]; exact o
 ·rw [u] at h; simp at h
theorem NU {o:Option Ad} (h:∀ z,o=some z→dOk z=true):dOk (dR o).1=true:=by
 cases o with
 | none=>exact Bf
 | some z=>exact h z rfl

/-- What the specification holds (z, and its flag b') beside the number o (or none): the flag before is b; once it is set, it stays. -/
def SR {α:Type} (G:α→Prop) (o:Option α) (b:Bool) (z:α) (b':Bool):Prop:=G z∧(b=true→b'=true)∧(b=false→(o=some z∧b'=false)∨(o=none∧b'=true))
theorem SR.bind {α β:Type} {G:α→Prop} {G':β→Prop} {o:Option α} {o':α→Option β} {b H u:Bool} {z:α} {J:β} (O:SR G o b z H) (D:SR G' (o' z) H J u):SR G' (o.bind o') b J u:=by
 refine ⟨D.1,fun h=>D.2.1 (O.2.1 h),fun h=>?_⟩
 rcases O.2.2 h with ⟨rfl,rfl⟩ | ⟨rfl,rfl⟩
 ·exact D.2.2 rfl
 ·exact .inr ⟨rfl,D.2.1 rfl⟩
theorem SR.bad {α:Type} {G:α→Prop} {o:Option α} {z:α} {u:Bool} (h:SR G o true z u):u=true:=h.2.1 rfl
theorem SR.good {α:Type} {G:α→Prop} {o:Option α} {z:α} {u:Bool} (h:SR G o false z u):(o=some z∧u=false)∨(o=none∧u=true):=h.2.2 rfl
theorem SR.pure {α:Type} {G:α→Prop} {z:α} {b:Bool} (h:G z):SR G (some z) b z b:=⟨h,id,fun hb=>.inl ⟨rfl,hb⟩⟩
theorem SR.mono {α:Type} {G G':α→Prop} {o:Option α} {b u:Bool} {z:α} (h:SR G o b z u) (D:G z→G' z):SR G' o b z u:=⟨D h.1,h.2⟩
theorem SR.map {α β:Type} {G:α→Prop} {G':β→Prop} {o:Option α} {b D:Bool} {z:α} (h:SR G o b z D) (g:α→β) (H:G z→G' (g z)):SR G' (o.map g) b (g z) D:=by
 refine ⟨H h.1,h.2.1,fun hb=>?_⟩
 rcases h.2.2 hb with ⟨rfl,u⟩ | ⟨rfl,u⟩
 ·exact .inl ⟨rfl,u⟩
 ·exact .inr ⟨rfl,u⟩
theorem ME {α:Type} {f:Az→Option (α×Az)} {G:α→Prop} {o:Option α} (h:SP f G o) (b:Bool):∃ z D,f (cB b)=some (z,cB D)∧SR G o b z D:=by
 obtain ⟨z,D,J,O,u⟩:=h b
 refine ⟨z,D,J,O,fun hb=>?_,fun hb=>?_⟩
 ·rcases u with ⟨_,u⟩ | ⟨_,u⟩
  ·exact u.trans hb
  ·exact u
 ·rcases u with ⟨u,H⟩ | ⟨u,H⟩
  ·exact .inl ⟨u,H.trans hb⟩
  ·exact .inr ⟨u,H⟩
theorem srM {x y:Ad} (u:dOk x=true) (D:dOk y=true) (b:Bool):∃ z o,Cn (cB b) x y=some (z,cB o)∧SR (fun z=>dOk z=true) (DM x y) b z o:=ME (spM u D) b
theorem srA {x y:Ad} (u:dOk x=true) (D:dOk y=true) (b:Bool):∃ z o,Cj (cB b) x y=some (z,cB o)∧SR (fun z=>dOk z=true) (DA x y) b z o:=ME (spA u D) b
theorem HL {β τ:Type} {f:Nat→τ→Option τ} {enc:Bool→β→τ} {G:Nat→β→Prop} {st:Nat→β→Option β} {n:Nat}
  (D:∀ k b s,k<n→G k s→∃ z o,f k (enc b s)=some (enc o z)∧SR (G (k+1)) (st k s) b z o) :
  ∀ (m i:Nat) (s:β) (b:Bool),i+m≤n→G i s→∃ z o,forN f m i (enc b s)=some (enc o z)∧SR (G (i+m)) (forN st m i s) b z o
 | 0,i,s,b,_,hG=>⟨s,b,rfl,SR.pure hG⟩
 | m+1,i,s,b,hm,hG=>by
  obtain ⟨z,o,O,H⟩:=D i b s (by omega) hG
  obtain ⟨P,u,Q,J⟩:=HL D m (i+1) z o (by omega) H.1
  rw [show i+1+m=i+(m+1) by omega] at J
  exact ⟨P,u,by simp only [forN,O,Option.bind_some]; exact Q,H.bind J⟩
/-- A loop of the specification that stops at its flag. -/
theorem LD {β τ ρ:Type} {f:τ→Option (Ex τ ρ)} {enc:Bool→β→Nat→τ} {G:β→Prop} {st:Nat→β→Option β} {n:Nat}
  (hb:∀ k s,f (enc true s k)=some (.br (enc true s k))) (D:∀ s,f (enc false s n)=some (.br (enc false s n)))
  (H:∀ k s,k<n→G s→∃ z o,f (enc false s k)=some (.nx (enc o z (k+1)))∧SR G (st k s) false z o) :
  ∀ (q m i:Nat) (s:β) (b:Bool),i+m=n→m<q→G s→∃ z o k',whX f q (enc b s i)=some (.inl (enc o z k'))∧SR G (forN st m i s) b z o
 | 0,_,_,_,_,_,hq,_=>absurd hq (Nat.not_lt_zero _)
 | q+1,m,i,s,true,_,_,hG=>⟨s,true,i,by simp only [whX,hb,Option.bind_some],hG,fun h=>h,fun h=>by cases h⟩
 | q+1,0,i,s,false,hm,_,hG=>by
  have:i=n:=by omega
  subst this
  exact ⟨s,false,i,by simp only [whX,D,Option.bind_some],SR.pure hG⟩
 | q+1,m+1,i,s,false,hm,hq,hG=>by
  obtain ⟨z,o,O,J⟩:=H i s (by omega) hG
  obtain ⟨P,u,k',Q,S⟩:=LD hb D H q m (i+1) z o (by omega) (by omega) J.1
  exact ⟨P,u,k',by simp only [whX,O,Option.bind_some]; exact Q,J.bind S⟩
/-- What a loop that may leave the function ends in. -/
def exO {β τ ρ:Type} (enc:β→τ) (R:ρ) (o:Option β):τ ⊕ ρ:=match o with | some z=>.inl (enc z) | none=>.inr R
def nxO {β τ ρ:Type} (enc:β→τ) (R:ρ) (o:Option β):Ex τ ρ:=match o with | some z=>.nx (enc z) | none=>.rt R
theorem HQ {β τ ρ:Type} {g:Nat→τ→Option (Ex τ ρ)} {enc:β→τ} {G:Nat→β→Prop} {st:Nat→β→Option β} {R:ρ} {n:Nat}
  (H:∀ k s,k<n→G k s→g k (enc s)=some (nxO enc R (st k s))∧∀ z,st k s=some z→G (k+1) z) :
  ∀ (m i:Nat) (s:β),i+m≤n→G i s→forX g m i (enc s)=some (exO enc R (forN st m i s))∧∀ z,forN st m i s=some z→G (i+m) z
 | 0,i,s,_,hG=>⟨rfl,fun z h=>by cases h; exact hG⟩
 | m+1,i,s,hm,hG=>by
  obtain ⟨u,O⟩:=H i s (by omega) hG
  cases o:st i s with
  | none =>
   rw [o] at u
   refine ⟨by simp only [forX,u,nxO,Option.bind_some,forN,o,Option.bind_none,exO],fun z D=>?_⟩
   simp only [forN,o,Option.bind_none] at D; cases D
  | some z =>
   rw [o] at u
   obtain ⟨P,J⟩:=HQ H m (i+1) z (by omega) (O z o)
   rw [show i+1+m=i+(m+1) by omega] at J
   exact ⟨by simp only [forX,u,nxO,Option.bind_some,forN,o]; exact P,fun Q D=>J Q (by simpa only [forN,o,Option.bind_some] using D)⟩
theorem gI {l:List Ad} {x:Int} {n:Nat} (u:x=(n:Int)) (o:n<l.length):getI l x=some (l.getD n Ak):=by
 subst u; rw [getI_nat,List.getElem?_eq_getElem o]; simp [o]
theorem Ca {l:List Ad} (h:∀ z∈l,dOk z=true) (n:Nat):dOk (l.getD n Ak)=true:=by
 rw [List.getD_eq_getElem?_getD]
 cases o:l[n]? with
 | none=>exact Bf
 | some x=>exact h x (List.mem_of_getElem? o)
def sT (b:Bool) (s:Ad):Bool×Int×Int×Int×Int×Int:=(b,s.Num.A,s.Num.B,s.Num.C,s.Num.D,s.Exp)
def iT (s:Ad):Int×Int×Int×Int×Int:=(s.Num.A,s.Num.B,s.Num.C,s.Num.D,s.Exp)
/-- One more product onto a sum. -/
def Be (X Y:Nat→Ad) (k:Nat) (s:Ad):Option Ad:=(DM (X k) (Y k)).bind fun p=>DA s p
theorem NY {X Y:Nat→Ad} (H:∀ k,dOk (X k)=true) (J:∀ k,dOk (Y k)=true) (k:Nat) (b:Bool) (s:Ad) (O:dOk s=true) :
  ∃ z o,((Cn (cB b) (X k) (Y k)).bind fun p=>(Cj p.2 s p.1).bind fun q=>some (sT q.2.bad q.1))=some (sT o z)∧SR (fun z=>dOk z=true) (Be X Y k s) b z o:=by
 obtain ⟨z,o,P,D⟩:=srM (H k) (J k) b
 obtain ⟨Q,u,S,U⟩:=srA O D.1 o
 exact ⟨Q,u,by simp only [P,Option.bind_some,S]; rfl,D.bind U⟩
theorem Qo {ρ:Type} {X Y:Nat→Ad} (D:∀ k,dOk (X k)=true) (H:∀ k,dOk (Y k)=true) (R:ρ) (k:Nat) (s:Ad) (J:dOk s=true) :
  ((AT (X k) (Y k)).bind fun p=>(BS s p.1).bind fun q=>bif (!p.2)||(!q.2) then some (.rt R) else some (.nx (iT q.1)))=some (nxO iT R (Be X Y k s))∧∀ z,Be X Y k s=some z→dOk z=true:=by
 unfold Be
 rw [imM (D k) (H k)]
 have u:dOk (dR (DM (X k) (Y k))).1=true:=NU (fun z o=>M8 (D k) (H k) o)
 simp only [Option.bind_some]
 rw [imA J u]
 simp only [Option.bind_some]
 cases O:DM (X k) (Y k) with
 | none=>exact ⟨rfl,fun z o=>by cases o⟩
 | some p =>
  rw [O] at u
  simp only [dR,Option.bind_some] at u ⊢
  cases ha:DA s p with
  | none=>exact ⟨rfl,fun z o=>by cases o⟩
  | some q=>exact ⟨rfl,fun z o=>by cases o; exact Mc J u ha⟩
theorem LL:Ao Am=Am:=by decide
theorem Jt {E:Int} (o:E≤60):∀ (k:Nat) (e:Int),0≤e→e≤E→(E-e).toNat<k→whX (Cw E) k (AS Am true e)=some (.inl (AS Am true E))
 | 0,_,_,_,hk=>absurd hk (Nat.not_lt_zero _)
 | k+1,e,h0,h1,hk=>by
  have h:=Dg (E:=E) BH h0 (by omega) true
  by_cases hlt:e<E
  ·rw [decide_eq_true hlt,LL,BH] at h
   simp only [Bool.and_self,cond_true,if_true] at h
   simp only [whX,h,Option.bind_some]
   exact Jt o k (e+1) (by omega) (by omega) (by omega)
  ·rw [decide_eq_false hlt] at h
   simp only [Bool.false_and,cond_false] at h
   have:e=E:=by omega
   subst this
   simp only [whX,h,Option.bind_some]
theorem J0 {x:Ad} (h:dOk x=true):AK x.Num x.Exp=some (x,true):=by
 obtain ⟨o,u,H⟩:=A9 h
 have J:Cy (x.Exp,x.Num.A,x.Num.B,x.Num.C,x.Num.D)=some (.br (x.Exp,x.Num.A,x.Num.B,x.Num.C,x.Num.D)):=by
  unfold Cy
  simp only [Gz,Option.bind_some,gb]
  unfold dOk at h
  simp only [Bool.and_eq_true,Bool.or_eq_true,beq_iff_eq,Bool.not_eq_true'] at h
  rcases h.2 with h | h
  ·rw [decide_eq_false (show ¬ 0<x.Exp by omega)]; rfl
  ·have e:AP (Ac.mk x.Num.A x.Num.B x.Num.C x.Num.D)=false:=h
   rw [e]; cases decide (0<x.Exp) <;> rfl
 unfold AK A0
 simp only [D6,o,Option.bind_some,gb,Bool.not_true,Bool.not_false,cond_true,Bool.false_or]
 rw [decide_eq_true u,decide_eq_true H]
 simp only [Bool.and_self,Bool.not_true,cond_false]
 rw [show fuel=(fuel-1)+1 from rfl]
 simp only [whX,J,Option.bind_some,orR]
theorem Ld {x:Ad} (h:dOk x=true):DA Ak x=some x:=by
 obtain ⟨o,H,J⟩:=A9 h
 have O:=o
 rw [Ba] at O
 have e:AE Am x.Num=x.Num:=by
  unfold AE Hr Am
  simp only [Int.zero_add,Option.getD_some]
  rw [wr (a:=x.Num.A) (by omega),wr (a:=x.Num.B) (by omega),wr (a:=x.Num.C) (by omega),wr (a:=x.Num.D) (by omega)]
 have P:(if Ak.Exp<x.Exp then x.Exp else Ak.Exp)=x.Exp:=by
  show (if (0:Int)<x.Exp then x.Exp else 0)=x.Exp
  split <;> omega
 have u:Bg x x.Exp=some (x.Num,true):=by
  refine Cv (e:=x.Exp) ?_
  have:=Dg (E:=x.Exp) o H J true
  simp only [Int.lt_irrefl,decide_false,Bool.false_and,cond_false] at this
  rw [show fuel=(fuel-1)+1 from rfl]; simp only [whX,this,Option.bind_some]
 have Q:Bg Ak x.Exp=some (Am,true):=Cv (x:=Ak) (Jt J fuel 0 (by omega) H (CT (by omega)))
 have hc:=EF Bf h P Q u BH o
 rw [e,o] at hc
 simp only [Bool.and_self,cond_true,J0 h] at hc
 unfold DA
 rw [hc]; rfl

def okD (l:List Ad):Prop:=∀ z∈l,dOk z=true
theorem IF {l:List Ad} {z:Ad} (o:okD l) (u:dOk z=true):okD (l++[z]):=fun x D=>by
 rcases List.mem_append.1 D with h | h
 ·exact o x h
 ·simp only [List.mem_singleton] at h; subst h; exact u
theorem Nx (x y:Ad):(((x.Num.A==y.Num.A)&&((x.Num.B==y.Num.B)&&((x.Num.C==y.Num.C)&&((x.Num.D==y.Num.D)&&true))))&&((x.Exp==y.Exp)&&true))=decide (x=y):=by
 obtain ⟨⟨A,B,C,D⟩,e⟩:=x
 obtain ⟨⟨A',B',C',D'⟩,o⟩:=y
 rw [Bool.eq_iff_iff]
 simp only [Bool.and_true,Bool.and_eq_true,beq_iff_eq,decide_eq_true_eq,Ad.mk.injEq,Ac.mk.injEq]
theorem bs {α:Type} {b:Bool} {x y:α}:(bif b then some x else some y)=some (bif b then x else y):=by cases b <;> rfl
theorem GL {α ρ:Type} [DecidableEq α] {f:Nat→Unit→Option (Ex Unit ρ)} {l l':List α} {q:ρ} (P:l.length=l'.length)
  (H:∀ i x y,l[i]?=some x→l'[i]?=some y→f i ()=some (bif !decide (x=y) then .rt q else .nx ())):forX f l.length 0 ()=some (if l=l' then .inl () else .inr q):=by
 rcases forX_inv (f:=f) (fun j _=>∀ i,i<j→l[i]?=l'[i]?) (fun r=>r=q∧l≠l') l.length 0 () (fun i hi=>absurd hi (Nat.not_lt_zero _)) (fun j s _ o J=>by
  have o:j<l.length:=by omega
  have h:=H j _ _ (List.getElem?_eq_getElem o) (List.getElem?_eq_getElem (show j<l'.length by omega))
  by_cases he:l[j]=l'[j]'(by omega)
  ·rw [decide_eq_true he] at h
   refine .inl ⟨(),h,fun i hi=>?_⟩
   rcases Nat.lt_succ_iff_lt_or_eq.1 hi with O | rfl
   ·exact J i O
   ·rw [List.getElem?_eq_getElem o,List.getElem?_eq_getElem (show i<l'.length by omega),he]
  ·rw [decide_eq_false he] at h
   exact .inr ⟨q,h,rfl,fun e=>he (by subst e; rfl)⟩) with ⟨⟨⟩,u,D⟩ | ⟨r,u,rfl,D⟩
 ·rw [u,if_pos]
  apply List.ext_getElem?
  intro i
  by_cases hi:i<l.length
  ·exact D i (by omega)
  ·rw [List.getElem?_eq_none (by omega),List.getElem?_eq_none (by omega)]
 ·rw [u,if_neg D]
def Ei:Ad:=Ad.mk (Ac.mk 1 0 0 0) 0
theorem ON {l:List Ad} {f:Ad→Option Bool} {p:Ad→Bool} (D:l.length≤9223372036854775807) (H:∀ x,f x=some (p x)) :
  ∃ i,FG l f=some i∧decide (0≤i)=l.any p:=by
 unfold FG
 rw [chk_t D]
 rcases forX_any (f:=Gf l f) (l:=l) (p:=p) (q:=fun i=>(i:Int)) (fun i x J=>by
  unfold Gf
  simp only [getI_nat,J,Option.bind_some,H,bs]) with ⟨o,u⟩ | ⟨o,i,_,u⟩
 ·rw [u,o]; exact ⟨-1,rfl,by decide⟩
 ·rw [u,o]; exact ⟨i,rfl,by simp⟩
theorem RN {l:List Ad} {f:Ad→Option Bool} {p:Ad→Bool} (o:l.length≤9223372036854775807) (u:∀ x,f x=some (p x)) :
  F8 l f=some (l.any p):=by
 unfold F8
 obtain ⟨i,D,H⟩:=ON o u
 rw [D]; simp only [Option.bind_some,H]
theorem OC {l:List Ad} {p:Ad→Bool}:(l.any fun x=>!p x)=!l.all p:=by
 induction l with
 | nil=>rfl
 | cons x l ih=>simp only [List.any_cons,List.all_cons,ih,Bool.not_and]

def AJ (n:Int):Bool:=[1,2,4,8,16,32].any fun x=>x==n
theorem Gy {n:Int} (h:AJ n=true):1≤n∧n≤32:=by
 unfold AJ at h
 simp only [List.any_cons,List.any_nil,Bool.or_false,Bool.or_eq_true,beq_iff_eq] at h
 omega
theorem Qm:∀ k:Fin 33,1≤k.val→(((decide ((1:Int)≤(k.val:Int)))&&(decide ((k.val:Int)≤32)))&&((bits .and .i64 (k.val:Int) (IntKind.i64.wrap ((k.val:Int)-1)))==0))=AJ (k.val:Int):=by decide +kernel
theorem Hh (n:Int):C9 n=some (AJ n):=by
 unfold C9 A0
 simp only [Option.bind_some]
 by_cases h:1≤n∧n≤32
 ·obtain ⟨k,rfl⟩:∃ k:Nat,n=k:=⟨n.toNat,by omega⟩
  exact congrArg some (Qm ⟨k,by omega⟩ (by simp only; omega))
 ·have:AJ n=false:=by
   cases hd:AJ n with
   | false=>rfl
   | true=>exact absurd (Gy hd) h
  rw [this]
  by_cases h1:1≤n
  ·rw [decide_eq_false (show ¬ n≤32 by omega)]; simp
  ·rw [decide_eq_false h1]; simp
/-- A matrix that is taken. -/
def mOk (m:Ag):Bool:=AJ m.Rows&&AJ m.Cols&&((m.Cells.length:Int)==m.Rows*m.Cols)&&m.Cells.all dOk
theorem Rx {a b:Int} (ha:1≤a∧a≤32) (hb:1≤b∧b≤32):0≤a*b∧a*b≤1024:=by
 refine ⟨Int.mul_nonneg (by omega) (by omega),?_⟩
 have:=Int.mul_le_mul ha.2 hb.2 (by omega) (by decide:(0:Int)≤32)
 omega
theorem Ga (m:Ag) (o:m.Cells.length≤9223372036854775807):BW m=some (mOk m):=by
 unfold BW mOk
 rw [Hh,Hh]
 cases u:AJ m.Rows with
 | false=>rfl
 | true =>
  cases D:AJ m.Cols with
  | false=>rfl
  | true =>
   have:=Rx (Gy u) (Gy D)
   simp only [Option.bind_some,gb,cond_true,Bool.and_self,Bool.true_and]
   rw [wr (a:=m.Rows*m.Cols) (by omega)]
   cases H:(m.Cells.length:Int)==m.Rows*m.Cols with
   | false=>rfl
   | true =>
    simp only [cond_true]
    rw [RN (p:=fun x=>!dOk x) o (fun x=>by unfold Fj; simp only [DK,Option.bind_some]),OC]
    simp only [Option.bind_some,Bool.not_not,Bool.true_and]
theorem Ht {m:Ag} (h:mOk m=true):∃ (R C:Nat) (l:List Ad),m=Ag.mk R C l∧AJ R=true∧AJ C=true∧(1≤R∧R≤32)∧(1≤C∧C≤32)∧l.length=R*C∧okD l:=by
 obtain ⟨r,c,l⟩:=m
 unfold mOk at h
 simp only [Bool.and_eq_true,beq_iff_eq] at h
 obtain ⟨⟨⟨o,u⟩,D⟩,H⟩:=h
 have O:=Gy o
 have P:=Gy u
 obtain ⟨R,rfl⟩:∃ k:Nat,r=k:=⟨r.toNat,by omega⟩
 obtain ⟨C,rfl⟩:∃ k:Nat,c=k:=⟨c.toNat,by omega⟩
 exact ⟨R,C,l,rfl,o,u,by omega,by omega,by exact_mod_cast D,fun z J=>List.all_eq_true.1 H z J⟩
theorem Im {R C:Nat} {l:List Ad} (o:AJ R=true) (u:AJ C=true) (D:l.length=R*C) (H:okD l):mOk (Ag.mk R C l)=true:=by
 unfold mOk
 simp only [o,u,Bool.and_self,Bool.true_and,Bool.and_eq_true,beq_iff_eq]
 exact ⟨by rw [D]; push_cast; rfl,List.all_eq_true.2 H⟩
theorem Dy {R C i j:Nat} (hi:i<R) (o:j<C):i*C+j<R*C:=by
 have:(i+1)*C≤R*C:=Nat.mul_le_mul_right _ hi
 rw [Nat.add_mul] at this; omega
theorem ix {R C i j:Nat} (hi:i<R) (o:j<C) (u:R≤32) (D:C≤32):IntKind.i64.wrap (IntKind.i64.wrap ((i:Int)*(C:Int))+(j:Int))=((i*C+j:Nat):Int):=by
 have H:=Dy hi o
 have J:R*C≤32*32:=Nat.mul_le_mul u D
 have e:(i:Int)*(C:Int)=((i*C:Nat):Int):=by push_cast; rfl
 rw [e,wr (a:=((i*C:Nat):Int)) (by omega),wr (by omega)]
 omega
def BM (cell:Nat→Nat→Option Ad) (R C:Nat):Option (List Ad):=forN (fun i l=>forN (fun j l=>(cell i j).bind fun z=>some (l++[z])) C 0 l) R 0 []
def BN (a b:List Ad) (K C i j:Nat):Option Ad:=forN (Be (fun k=>a.getD (i*K+k) Ak) (fun k=>b.getD (k*C+j) Ak)) K 0 Ak
def mmO (a b:List Ad) (R K C:Nat):Option (List Ad):=BM (BN a b K C) R C
def wT (b:Bool) (s:Ad) (k:Nat):Bool×Int×Int×Int×Int×Int×Int:=(b,s.Num.A,s.Num.B,s.Num.C,s.Num.D,s.Exp,(k:Int))
theorem IZ {R C i j:Nat} (hi:i<R) (o:j<C) (u:R≤32) (D:C≤32):i*C+j+1≤1024:=by
 have H:=Dy hi o
 have J:R*C≤32*32:=Nat.mul_le_mul u D
 omega
theorem Ph {R K C:Nat} {o u:List Ad} (ha:okD o) (hb:okD u) (na:o.length=R*K) (nb:u.length=K*C) (V:R≤32) (W:K≤32) (Z:C≤32) (c:Bool) :
  ∃ l c',HI (cB c) (Ag.mk R K o) (Ag.mk K C u)=some (Ag.mk R C l,cB c')∧SR (fun l=>okD l∧l.length=R*C) (mmO o u R K C) c l c':=by
 have l3:∀ (i j:Nat) (Cells:List Ad) (bad O:Bool),i<R→j<C→∃ z H k',whX (EI (Ag.mk R K o) Cells i (Ag.mk K C u) j bad) fuel (wT O Ak 0)=some (.inl (wT H z k'))∧SR (fun z=>dOk z=true) (BN o u K C i j) O z H:=fun i j Cells bad O hi S=>by
  refine LD (enc:=wT) (G:=fun z=>dOk z=true) (n:=K) (fun k s=>?_) (fun s=>?_) (fun k s hk Q=>?_) fuel K 0 Ak O (by omega) (CT (by omega)) Bf
  ·unfold EI wT
   simp only [Bool.not_true,Bool.and_false,cond_false]
  ·unfold EI wT
   simp only [Int.lt_irrefl,decide_false,Bool.false_and,cond_false]
  ·obtain ⟨z,H,J,P⟩:=NY (X:=fun k=>o.getD (i*K+k) Ak) (Y:=fun k=>u.getD (k*C+j) Ak) (fun _=>Ca ha _) (fun _=>Ca hb _) k false s Q
   obtain ⟨p,hp,J⟩:=Option.bind_eq_some_iff.1 J
   obtain ⟨q,hq,J⟩:=Option.bind_eq_some_iff.1 J
   refine ⟨z,H,?_,P⟩
   unfold EI wT
   simp only
   rw [decide_eq_true (show (k:Int)<(K:Int) by omega),ix hi hk V W,ix hk S W Z,gI (n:=i*K+k) rfl (by rw [na]; exact Dy hi hk),gI (n:=k*C+j) rfl (by rw [nb]; exact Dy hk S)]
   simp only [Bool.not_false,Bool.and_self,cond_true,Option.bind_some]
   rw [show Cn (Az.mk false) (o.getD (i*K+k) Ak) (u.getD (k*C+j) Ak)=some p from hp]
   simp only [Option.bind_some]
   rw [show Cj p.2 (Ad.mk (Ac.mk s.Num.A s.Num.B s.Num.C s.Num.D) s.Exp) p.1=some q from hq]
   simp only [Option.bind_some]
   have:=Option.some.inj J
   simp only [sT,Prod.mk.injEq] at this
   obtain ⟨t0,t1,t2,t3,t4,t5⟩:=this
   rw [t0,t1,t2,t3,t4,t5,wr (a:=(k:Int)+1) (by omega)]
   rfl
 have l2:∀ (i:Nat) (Cells:List Ad) (bad O:Bool) (l:List Ad),i<R→okD l→l.length=i*C→∃ z H,forN (He (Ag.mk R K o) Cells i (Ag.mk K C u) bad) C 0 (O,l)=some (H,z)∧SR (fun z=>okD z∧z.length=i*C+C) (forN (fun j l=>(BN o u K C i j).bind fun z=>some (l++[z])) C 0 l) O z H:=fun i Cells bad O l hi hl ao=>by
  have:=HL (f:=He (Ag.mk R K o) Cells i (Ag.mk K C u) bad) (enc:=fun b (l:List Ad)=>(b,l)) (G:=fun j z=>okD z∧z.length=i*C+j) (st:=fun j l=>(BN o u K C i j).bind fun z=>some (l++[z])) (n:=C) (fun j U s S Q=>?_) C 0 l O (by omega) ⟨hl,by omega⟩
  ·rw [Nat.zero_add] at this; exact this
  ·obtain ⟨z,H,k',J,P⟩:=l3 i j Cells bad U hi S
   refine ⟨s++[z],H,?_,P.bind (SR.pure ⟨IF Q.1 P.1,by simp; omega⟩)⟩
   unfold He
   simp only
   rw [show whX (EI (Ag.mk R K o) Cells i (Ag.mk K C u) j bad) fuel (U,0,0,0,0,0,0)=_ from J]
   simp only [wT,Option.bind_some,orR]
   have:=IZ hi S V Z
   rw [chk_t (by omega)]
 obtain ⟨z,H,J,P⟩:=HL (f:=Hf (Ag.mk K C u) (Ag.mk R K o)) (enc:=fun b (l:List Ad)=>(b,l)) (G:=fun i z=>okD z∧z.length=i*C) (st:=fun i l=>forN (fun j l=>(BN o u K C i j).bind fun z=>some (l++[z])) C 0 l) (n:=R) (fun i U s hi Q=>by
  obtain ⟨z,H,J,P⟩:=l2 i s U U s hi Q.1 Q.2
  refine ⟨z,H,?_,P.mono (fun h=>⟨h.1,by rw [Nat.add_mul]; omega⟩)⟩
  unfold Hf
  simp only [Int.toNat_natCast]
  rw [chk_t (by omega),J]; rfl) R 0 [] c (by omega) ⟨fun _ h=>(by cases h),by simp⟩
 refine ⟨z,H,?_,P.mono (fun h=>⟨h.1,by simpa using h.2⟩)⟩
 unfold HI
 simp only [Int.toNat_natCast]
 rw [chk_t (by omega),show forN (Hf (Ag.mk K C u) (Ag.mk R K o)) R 0 ((cB c).bad,[])=_ from J]
 rfl
def mR (R C:Nat) (o:Option (List Ad)):Ag×Bool:=match o with | some l=>(Ag.mk R C l,true) | none=>(Ag.mk 0 0 [],false)
theorem Ho {R C:Nat} {cell:Int→Int→Option (Ad×Bool)} {cellO:Nat→Nat→Option Ad} (O:AJ R=true) (S:AJ C=true) (U:R≤32) (V:C≤32)
  (o:∀ i j:Nat,i<R→j<C→cell i j=some (dR (cellO i j))∧∀ z,cellO i j=some z→dOk z=true) :
  Ck R C cell=some (mR R C (BM cellO R C))∧∀ l,BM cellO R C=some l→okD l∧l.length=R*C:=by
 have W:∀ (i:Nat) (l:List Ad),i<R→okD l→l.length=i*C→forX (EW cell i) C 0 l=some (exO id (.rt (Ag.mk 0 0 [],false)) (forN (fun j l=>(cellO i j).bind fun z=>some (l++[z])) C 0 l)) ∧
   ∀ z,forN (fun j l=>(cellO i j).bind fun z=>some (l++[z])) C 0 l=some z→okD z∧z.length=i*C+C:=fun i l hi P Z=>by
  have:=HQ (g:=EW cell i) (enc:=id) (G:=fun j z=>okD z∧z.length=i*C+j) (st:=fun j l=>(cellO i j).bind fun z=>some (l++[z])) (R:=Ex.rt (Ag.mk 0 0 [],false)) (n:=C) (fun j s Q J=>?_) C 0 l (by omega) ⟨P,by omega⟩
  ·rw [Nat.zero_add] at this; exact this
  ·obtain ⟨D,H⟩:=o i j hi Q
   unfold EW
   simp only [id,D,Option.bind_some]
   cases hc:cellO i j with
   | none=>exact ⟨rfl,fun z u=>by cases u⟩
   | some z =>
    simp only [dR,Bool.not_true,cond_false,Option.bind_some]
    have:=IZ hi Q U V
    rw [chk_t (by omega)]
    exact ⟨rfl,fun z' u=>by cases u; exact ⟨IF J.1 (H z hc),by simp; omega⟩⟩
 obtain ⟨D,H⟩:=HQ (g:=ET C cell) (enc:=id) (G:=fun i z=>okD z∧z.length=i*C) (st:=fun i l=>forN (fun j l=>(cellO i j).bind fun z=>some (l++[z])) C 0 l) (R:=(Ag.mk 0 0 [],false)) (n:=R) (fun i s hi J=>by
  obtain ⟨D,H⟩:=W i s hi J.1 J.2
  unfold ET
  simp only [id,Int.toNat_natCast]
  rw [chk_t (by omega),D]
  cases hc:forN (fun j l=>(cellO i j).bind fun z=>some (l++[z])) C 0 s with
  | none=>exact ⟨rfl,fun z u=>by cases u⟩
  | some z=>exact ⟨rfl,fun z' u=>by cases u; obtain ⟨q1,q2⟩:=H z hc; exact ⟨q1,by rw [Nat.add_mul]; omega⟩⟩) R 0 [] (by omega) ⟨fun _ h=>(by cases h),by simp⟩
 refine ⟨?_,fun l P=>by have:=H l P; simpa using this⟩
 unfold Ck
 rw [Hh,Hh,O,S]
 simp only [Option.bind_some,gb,Bool.not_true,Bool.not_false,cond_true,Bool.or_self,cond_false,Int.toNat_natCast]
 rw [chk_t (by omega),show forX (ET C cell) R 0 []=_ from D]
 unfold BM
 cases forN (fun i l=>forN (fun j l=>(cellO i j).bind fun z=>some (l++[z])) C 0 l) R 0 [] <;> rfl
theorem Jl {R C:Nat} {l:List Ad} {i j:Nat} (hi:i<R) (o:j<C) (u:R≤32) (D:C≤32) (H:l.length=R*C):Du (Ag.mk R C l) i j=some (l.getD (i*C+j) Ak):=by
 unfold Du
 simp only
 rw [ix hi o u D,gI (n:=i*C+j) rfl (by rw [H]; exact Dy hi o)]
 rfl
theorem Ra {R K C:Nat} {o u:List Ad} (Q:mOk (Ag.mk R K o)=true) (S:mOk (Ag.mk K C u)=true) :
  Fr (Ag.mk R K o) (Ag.mk K C u)=some (mR R C (mmO o u R K C))∧∀ l,mmO o u R K C=some l→okD l∧l.length=R*C:=by
 obtain ⟨R',K',Z,e,a1,a2,D,a4,U,a6⟩:=Ht Q
 obtain ⟨h,h',rfl⟩:=Ag.mk.inj e
 obtain rfl:R=R':=by omega
 obtain rfl:K=K':=by omega
 obtain ⟨K',C',ae,e,b1,b2,V,b4,W,b6⟩:=Ht S
 obtain ⟨h,h',rfl⟩:=Ag.mk.inj e
 obtain rfl:K=K':=by omega
 obtain rfl:C=C':=by omega
 have l5:o.length≤1024:=by rw [U]; exact Nat.mul_le_mul D.2 a4.2
 have l6:u.length≤1024:=by rw [W]; exact Nat.mul_le_mul V.2 b4.2
 have hc:∀ i j:Nat,i<R→j<C→Dk i j (Ag.mk R K o) (Ag.mk K C u)=some (dR (BN o u K C i j))∧∀ z,BN o u K C i j=some z→dOk z=true:=fun i j hi hj=>by
  obtain ⟨H,J⟩:=HQ (g:=EM (Ag.mk R K o) i (Ag.mk K C u) j) (enc:=iT) (G:=fun _ z=>dOk z=true) (st:=Be (fun k=>o.getD (i*K+k) Ak) (fun k=>u.getD (k*C+j) Ak)) (R:=(Ak,false)) (n:=K) (fun k s hk hs=>by
   have:=Qo (X:=fun k=>o.getD (i*K+k) Ak) (Y:=fun k=>u.getD (k*C+j) Ak) (fun _=>Ca a6 _) (fun _=>Ca b6 _) (Ak,false) k s hs
   refine ⟨?_,this.2⟩
   rw [← this.1]
   unfold EM iT
   simp only
   rw [Jl hi hk D.2 a4.2 U,Jl hk hj V.2 b4.2 W]
   rfl) K 0 Ak (by omega) Bf
  refine ⟨?_,J⟩
  unfold Dk
  simp only [Int.toNat_natCast]
  rw [chk_t (by omega),show forX (EM (Ag.mk R K o) i (Ag.mk K C u) j) K 0 (0,0,0,0,0)=_ from H]
  unfold BN
  cases forN (Be (fun k=>o.getD (i*K+k) Ak) (fun k=>u.getD (k*C+j) Ak)) K 0 Ak <;> rfl
 obtain ⟨H,J⟩:=Ho (cell:=fun O P=>Dk O P (Ag.mk R K o) (Ag.mk K C u)) (cellO:=BN o u K C) a1 b2 D.2 b4.2 hc
 refine ⟨?_,J⟩
 unfold Fr
 rw [Ga _ (by simp only; omega),Ga _ (by simp only; omega),Q,S]
 simp only [Option.bind_some,gb,Bool.not_true,Bool.not_false,cond_true,Bool.or_self,Bool.false_or,bne_self_eq_false,cond_false]
 rw [H]; rfl

theorem tm2 (a:Int):(Int.tmod a 2==0)=decide ((2:Int) ∣ a):=by
 rw [Bool.eq_iff_iff,beq_iff_eq,decide_eq_true_eq,Int.dvd_iff_tmod_eq_zero]
theorem Jj {σ:Type} {f g:Nat→σ→Option σ} {G:Nat→σ→Prop} {n:Nat} (h:∀ k s,k<n→G k s→f k s=g k s∧∀ z,g k s=some z→G (k+1) z) :
  ∀ (m i:Nat) (s:σ),i+m≤n→G i s→forN f m i s=forN g m i s
 | 0,_,_,_,_=>rfl
 | m+1,i,s,hm,hG=>by
  obtain ⟨o,u⟩:=h i s (by omega) hG
  simp only [forN,o]
  cases D:g i s with
  | none=>rfl
  | some z=>simp only [Option.bind_some]; exact Jj h m (i+1) z (by omega) (u z D)
/-- A row of cells that are all there. -/
theorem KT {f:Nat→Nat→Ad} (R C:Nat) (J:∀ i j,i<R→j<C→dOk (f i j)=true):∃ l,BM (fun i j=>some (f i j)) R C=some l∧okD l∧l.length=R*C:=by
 obtain ⟨l,u,D,H⟩:=forN_inv (f:=fun i l=>forN (fun j l=>(some (f i j)).bind fun z=>some (l++[z])) C 0 l) (fun i z=>okD z∧z.length=i*C) R 0 [] ⟨fun _ h=>(by cases h),by simp⟩ (fun i s _ hi o=>by
  obtain ⟨l,u,D,H⟩:=forN_inv (f:=fun j l=>(some (f i j)).bind fun z=>some (l++[z])) (fun j z=>okD z∧z.length=i*C+j) C 0 s ⟨o.1,by rw [o.2]; rfl⟩ (fun j s _ O o=>⟨_,rfl,IF o.1 (J i j (by omega) (by omega)),by simp [o.2]; omega⟩)
  exact ⟨l,u,D,by rw [H,Nat.add_mul]; omega⟩)
 exact ⟨l,u,D,by simpa using H⟩
def BE (n:Nat):List Ad:=(List.range (n*n)).map fun p=>if p / n=p % n then Ei else Ak
theorem QR:∀ n∈[1,2,4,8,16,32],Mx ((n:Nat):Int)=some (Ag.mk (n:Nat) (n:Nat) (BE n)):=by decide +kernel
theorem TI:∀ n∈[1,2,4,8,16,32],F6 ((n:Nat):Int)=some (Ag.mk (n:Nat) (n:Nat) (BE n),true):=by decide +kernel
theorem Ko {n:Nat} (h:AJ (n:Int)=true):n∈[1,2,4,8,16,32]:=by
 unfold AJ at h
 simp only [List.any_cons,List.any_nil,Bool.or_false,Bool.or_eq_true,beq_iff_eq] at h
 simp only [List.mem_cons,List.not_mem_nil,or_false]
 omega
theorem H1 (n:Nat):(BE n).length=n*n:=by simp [BE]
theorem Io (n:Nat):okD (BE n):=fun z o=>by
 simp only [BE,List.mem_map] at o
 obtain ⟨p,_,rfl⟩:=o
 split
 ·decide
 ·decide
theorem On {l l':List Ad} (o:l.length≤9223372036854775807):Fi l l'=some (decide (l=l')):=by
 unfold Fi
 by_cases hn:l.length=l'.length
 ·have e:((l.length:Int) != (l'.length:Int))=false:=by simp [hn]
  rw [e,cond_false,chk_t o,GL (f:=FI l l') (l:=l) (l':=l') (q:=false) hn (fun i x y u D=>by
   unfold FI
   simp only [getI_nat,u,D,Option.bind_some,Nx,bs])]
  by_cases h:l=l'
  ·rw [if_pos h,decide_eq_true h]; rfl
  ·rw [if_neg h,decide_eq_false h]; rfl
 ·have e:((l.length:Int) != (l'.length:Int))=true:=by simp; omega
  rw [e,decide_eq_false (fun h=>hn (by rw [h]))]; rfl
theorem OJ {R C:Nat} {l l':List Ad} (o:l.length≤9223372036854775807):EJ (Ag.mk R C l) (Ag.mk R C l')=some (decide (l=l')):=by
 unfold EJ
 simp only [beq_self_eq_true,Bool.and_self,gb,cond_true,On o,Option.bind_some,Bool.true_and]

def rIt:Nat→Ac→Ac
 | 0,x=>x
 | k+1,x=>rIt k (Ao x)
def Al (x y:Ac):Ac:=Ac.mk (x.A+y.A) (x.B+y.B) (x.C+y.C) (x.D+y.D)
theorem Ti (x y:Ac):Ao (Al x y)=Al (Ao x) (Ao y):=by
 unfold Ao Al
 simp only [Ac.mk.injEq]
 omega
theorem EV:∀ (k:Nat) (x y:Ac),rIt k (Al x y)=Al (rIt k x) (rIt k y)
 | 0,_,_=>rfl
 | k+1,x,y=>by
  show rIt k (Ao (Al x y))=_
  rw [Ti,EV k]; rfl
theorem AH (m:Nat):∀ (n:Nat) (x:Ac),rIt (m+n) x=rIt m (rIt n x)
 | 0,_=>rfl
 | n+1,x=>AH m n (Ao x)
theorem RB {x:Ac} (h:rOk x=true) (o:AP x=true):Ao (CG x)=x:=by
 rw [Ba] at h
 unfold AP at o
 rw [wr (by omega),wr (by omega),Bool.and_eq_true,beq_iff_eq,beq_iff_eq] at o
 obtain ⟨m,u⟩:=Int.dvd_of_tmod_eq_zero o.1
 obtain ⟨n,H⟩:=Int.dvd_of_tmod_eq_zero o.2
 have t:∀ {a b:Int},a=2*b→Int.tdiv a 2=b:=fun h=>by rw [h]; exact Int.mul_tdiv_cancel_left _ (by decide)
 unfold CG Ao
 rw [t (show x.B-x.D=2*(n-x.D) by omega),t u,t H,t (show x.C-x.A=2*(m-x.A) by omega)]
 obtain ⟨A,B,C,D⟩:=x
 simp only [Ac.mk.injEq] at *
 omega
theorem G3 {x:Ac} {e:Int} (P:rOk x=true) (J:0≤e∧e≤60) {z:Ad} {ok:Bool} (h:AK x e=some (z,ok)):0≤z.Exp∧z.Exp≤e∧rIt (e-z.Exp).toNat z.Num=x:=by
 obtain ⟨⟨W,A,B,C,D⟩,Q,Z,h3,S,U,V⟩:=Jk (f:=Cy) (g:=Cy) (fun s=>rOk (Ac.mk s.2.1 s.2.2.1 s.2.2.2.1 s.2.2.2.2)=true∧0≤s.1∧s.1≤e∧rIt (e-s.1).toNat (Ac.mk s.2.1 s.2.2.1 s.2.2.2.1 s.2.2.2.2)=x)
  (fun s=>rOk (Ac.mk s.2.1 s.2.2.1 s.2.2.2.1 s.2.2.2.2)=true∧0≤s.1∧s.1≤e∧rIt (e-s.1).toNat (Ac.mk s.2.1 s.2.2.1 s.2.2.2.1 s.2.2.2.2)=x) (fun s=>s.1.toNat)
  (fun s ⟨u,O,o,hv⟩=>by
   obtain ⟨e1,A,B,C,D⟩:=s
   simp only at u O o hv
   unfold Cy
   simp only [Gz,Option.bind_some,gb]
   by_cases hpos:0<e1
   ·rw [decide_eq_true hpos]
    cases H:AP (Ac.mk A B C D) with
    | true =>
     simp only [cond_true,Bool.and_self,KN u H,Option.bind_some]
     refine .inl ⟨_,rfl,rfl,⟨HE u,?_⟩,?_⟩
     ·show 0≤IntKind.i64.wrap (e1-1)∧IntKind.i64.wrap (e1-1)≤e∧rIt (e-IntKind.i64.wrap (e1-1)).toNat (CG (Ac.mk A B C D))=x
      rw [wr (by omega)]
      refine ⟨by omega,by omega,?_⟩
      rw [show (e-(e1-1)).toNat=(e-e1).toNat+1 by omega]
      show rIt (e-e1).toNat (Ao (CG (Ac.mk A B C D)))=x
      rw [RB u H]; exact hv
     ·show (IntKind.i64.wrap (e1-1)).toNat<e1.toNat
      rw [wr (by omega)]; omega
    | false =>
     simp only [cond_true,Bool.and_false,cond_false]
     exact .inr ⟨_,rfl,rfl,u,O,o,hv⟩
   ·rw [decide_eq_false hpos]
    simp only [cond_false,Bool.false_and]
    exact .inr ⟨_,rfl,rfl,u,O,o,hv⟩)
  fuel (e,x.A,x.B,x.C,x.D) ⟨P,J.1,Int.le_refl e,by simp only [Int.sub_self]; rfl⟩ (CT (by simp only; omega))
 unfold AK A0 at h
 simp only [D6,P,Option.bind_some,gb,Bool.not_true,Bool.not_false,cond_true,Bool.false_or] at h
 rw [decide_eq_true J.1,decide_eq_true J.2] at h
 simp only [Bool.and_self,Bool.not_true,cond_false] at h
 rw [Q] at h
 simp only [Option.bind_some,orR,Option.some.injEq,Prod.mk.injEq] at h
 obtain ⟨rfl,_⟩:=h
 exact ⟨S,U,V⟩
theorem JQ {E:Int} (O:E≤60):∀ (k:Nat) (x:Ac) (e:Int),rOk x=true→0≤e→e≤E→(E-e).toNat<k →
  ∃ a u J,whX (Cw E) k (AS x true e)=some (.inl (AS a u J))∧rOk a=true∧(u=true→a=rIt (E-e).toNat x)∧((∀ j,j≤(E-e).toNat→rOk (rIt j x)=true)→u=true)
 | 0,_,_,_,_,_,hk=>absurd hk (Nat.not_lt_zero _)
 | k+1,x,e,hx,h0,h1,hk=>by
  have o:=Dg (E:=E) hx h0 (by omega) true
  by_cases hlt:e<E
  ·have P:(E-e).toNat=(E-(e+1)).toNat+1:=by omega
   simp only [decide_eq_true hlt,cond_true,Bool.true_and] at o
   cases H:rOk (Ao x) with
   | true =>
    simp only [H,if_true] at o
    obtain ⟨a,u,J,e1,e2,e3,Q⟩:=JQ O k (Ao x) (e+1) H (by omega) (by omega) (by omega)
    refine ⟨a,u,J,by simp only [whX,o,Option.bind_some]; exact e1,e2,fun h=>by rw [P]; exact e3 h,fun h=>Q (fun j U=>?_)⟩
    have:=h (j+1) (by omega)
    exact this
   | false =>
    simp only [H,Bool.false_eq_true,if_false] at o
    refine ⟨Am,false,e+1,?_,BH,(fun h=>nomatch h),fun h=>?_⟩
    ·cases k with
     | zero=>omega
     | succ k =>
      have D:=Dg (E:=E) BH (show 0≤e+1 by omega) (by omega) false
      simp only [Bool.and_false,cond_false] at D
      simp only [whX,o,Option.bind_some,D]
    ·have:=h 1 (by omega)
     have S:rOk (Ao x)=true:=this
     exact absurd (H.symm.trans S) (by decide)
  ·simp only [decide_eq_false hlt,cond_false,Bool.false_and] at o
   have:e=E:=by omega
   subst this
   exact ⟨x,true,e,by simp only [whX,o,Option.bind_some],hx,fun _=>by simp only [Int.sub_self]; rfl,fun _=>rfl⟩
theorem Hg {x:Ad} (u:dOk x=true) {E:Int} (D:x.Exp≤E) (H:E≤60):∃ a o,Bg x E=some (a,o)∧rOk a=true∧(o=true→a=rIt (E-x.Exp).toNat x.Num)∧((∀ j,j≤(E-x.Exp).toNat→rOk (rIt j x.Num)=true)→o=true):=by
 obtain ⟨J,O,Q⟩:=A9 u
 obtain ⟨a,o,S,e1,e2,e3,P⟩:=JQ H fuel x.Num x.Exp J O D (CT (by omega))
 exact ⟨a,o,Cv e1,e2,e3,P⟩
def vOf (x:Ad):Ac:=rIt (60-x.Exp).toNat x.Num
theorem KK {x y z:Ad} (J:dOk x=true) (O:dOk y=true) (h:DA x y=some z):vOf z=Al (vOf x) (vOf y):=by
 obtain ⟨x1,x2,x3⟩:=A9 J
 obtain ⟨y1,y2,y3⟩:=A9 O
 generalize H:(if x.Exp<y.Exp then y.Exp else x.Exp)=E
 have W:x.Exp≤E:=by rw [← H]; split <;> omega
 have Z:y.Exp≤E:=by rw [← H]; split <;> omega
 have P:E≤60:=by rw [← H]; split <;> omega
 obtain ⟨a,oa,a1,S,a3,_⟩:=Hg J W P
 obtain ⟨c,oc,c1,U,c3,_⟩:=Hg O Z P
 have hc:=EF J O H a1 c1 S U
 unfold DA at h
 rw [hc] at h
 cases o:oa&&oc&&rOk (AE a c) with
 | false=>rw [o] at h; simp at h
 | true =>
  rw [o] at h
  simp only [Bool.and_eq_true] at o
  obtain ⟨⟨rfl,rfl⟩,hr⟩:=o
  simp only [cond_true] at h
  obtain ⟨p,hp,Q⟩:=Option.bind_eq_some_iff.1 h
  obtain ⟨V,ok⟩:=p
  cases ok with
  | false=>simp at Q
  | true =>
   simp only [if_true,Option.some.injEq] at Q
   subst Q
   obtain ⟨l1,l2,l3⟩:=G3 hr (e:=E) ⟨by omega,P⟩ hp
   have u:AE a c=Al a c:=by
    rw [Ba] at S U
    show Ac.mk (IntKind.i64.wrap (a.A+c.A)) (IntKind.i64.wrap (a.B+c.B)) (IntKind.i64.wrap (a.C+c.C)) (IntKind.i64.wrap (a.D+c.D))=_
    rw [wr (a:=a.A+c.A) (by omega),wr (a:=a.B+c.B) (by omega),wr (a:=a.C+c.C) (by omega),wr (a:=a.D+c.D) (by omega)]
    rfl
   unfold vOf
   rw [show (60-V.Exp).toNat=(60-E).toNat+(E-V.Exp).toNat by omega,AH,l3,u,EV,a3 rfl,c3 rfl,← AH,← AH,
    show (60-E).toNat+(E-x.Exp).toNat=(60-x.Exp).toNat by omega,show (60-E).toNat+(E-y.Exp).toNat=(60-y.Exp).toNat by omega]
theorem MU {x y z:Ad} (J:dOk x=true) (O:dOk y=true) (h:DM x y=some z):x.Exp+y.Exp≤60∧vOf z=rIt (60-(x.Exp+y.Exp)).toNat (AN x.Num y.Num):=by
 obtain ⟨Q,x2,x3⟩:=A9 J
 obtain ⟨S,y2,y3⟩:=A9 O
 have U:IntKind.i64.wrap (x.Exp+y.Exp)=x.Exp+y.Exp:=wr (by omega)
 have hi:∀ q:Ac×Bool,Dv x.Num y.Num=some q→AT x y=(bif !q.2 then some (Ak,false) else (AK q.1 (x.Exp+y.Exp)).bind fun p=>some (p.1,p.2)):=fun q o=>by
  unfold AT
  rw [o]
  simp only [Option.bind_some,DK,J,O,gb,Bool.not_true,Bool.not_false,cond_true,Bool.false_or,U]
  rfl
 unfold DM at h
 rw [hi _ (Ej Q S)] at h
 cases u:rOk (AN x.Num y.Num) with
 | false=>rw [u] at h; simp at h
 | true =>
  rw [u] at h
  simp only [if_true,Bool.not_true,cond_false] at h
  by_cases he:x.Exp+y.Exp≤60
  ·refine ⟨he,?_⟩
   obtain ⟨p,V,o⟩:=Option.bind_eq_some_iff.1 h
   obtain ⟨W,D,H⟩:=Option.bind_eq_some_iff.1 V
   obtain ⟨P,ok⟩:=W
   cases H
   cases ok with
   | false=>simp at o
   | true =>
    simp only [if_true,Option.some.injEq] at o
    subst o
    obtain ⟨l1,l2,Z⟩:=G3 u (e:=x.Exp+y.Exp) ⟨by omega,he⟩ D
    unfold vOf
    rw [show (60-P.Exp).toNat=(60-(x.Exp+y.Exp)).toNat+(x.Exp+y.Exp-P.Exp).toNat by omega,AH,Z]
  ·unfold AK A0 at h
   simp only [D6,u,Option.bind_some,gb,Bool.not_true,Bool.not_false,cond_true,Bool.false_or] at h
   rw [decide_eq_false he] at h
   simp at h
theorem FQ {a N M:Int} (u:0≤M) (h:a*a≤N) (D:N<M*M) : -M≤a∧a≤M:=by
 constructor
 ·rcases Int.lt_or_le a (-M) with o | o
  ·have:=Int.mul_le_mul (a:=M) (b:=M) (c:=-a) (d:=-a) (by omega) (by omega) u (by omega)
   rw [Int.neg_mul_neg] at this
   omega
  ·exact o
 ·rcases Int.lt_or_le M a with o | o
  ·have:=Int.mul_le_mul (a:=M) (b:=M) (c:=a) (d:=a) (by omega) (by omega) u (by omega)
   omega
  ·exact o
theorem AC (a:Int):0≤a*a:=by
 rcases Int.le_total 0 a with h | h
 ·exact Int.mul_nonneg h h
 ·have:=Int.mul_nonneg (show 0≤-a by omega) (show 0≤-a by omega)
  rwa [Int.neg_mul_neg] at this
/-- The two tables of sums say the same: B as it runs, S taken by eight, with a bound. -/
def Iv (N:Nat) (z:Int) (B S:List Int):Prop :=
 B.length=N∧S.length=32∧N≤32∧(∀ (j:Nat) (x:Int),B[j]?=some x→-z≤x∧x≤z∧S[j]?=some (x % 8))∧∀ j,N≤j→j<32→S[j]?=some 0
theorem Iv.mono {N:Nat} {z u:Int} {B S:List Int} (h:Iv N z B S) (D:z≤u):Iv N u B S :=
 ⟨h.1,h.2.1,h.2.2.1,fun j x o=>⟨by have:=(h.2.2.2.1 j x o).1; omega,Int.le_trans (h.2.2.2.1 j x o).2.1 D,(h.2.2.2.1 j x o).2.2⟩,h.2.2.2.2⟩
/-- The rows of a map over n wires, each a number below N. -/
def I6 (n N:Nat) (R:List Int):Prop:=R.length=n∧∀ x∈R,0≤x∧x<N
theorem I6.set {n N:Nat} {R:List Int} (h:I6 n N R) (i:Nat) {x:Nat} (u:x<N):I6 n N (R.set i (x:Int)) :=
 ⟨by rw [List.length_set]; exact h.1,fun y o=>by
  rcases List.mem_or_eq_of_mem_set o with o | rfl
  ·exact h.2 y o
  ·omega⟩
theorem Ch {n:Nat} (h:n<18446744073709551616):n<fuel:=h
theorem xx (a b:Nat):a ^^^ b ^^^ b=a:=by rw [Nat.xor_assoc,Nat.xor_self,Nat.xor_zero]
theorem T6:∀ (x:Fin 32) (b:Fin 10),((bits .and .i64 (shrK .i64 (x.val:Int) (b.val:Int)) 1)==1)=x.val.testBit b.val:=by decide +kernel
theorem tb {x b:Nat} (o:x<32) (hb:b<10):((bits .and .i64 (shrK .i64 (x:Int) (b:Int)) 1)==1)=x.testBit b:=T6 ⟨x,o⟩ ⟨b,hb⟩
theorem Ci {a:Nat} (h:a<18446744073709551616):IntKind.u64.wrap (a:Int)=(a:Int):=by
 simp [IntKind.wrap,IntKind.signed,IntKind.bits]
 omega
theorem N2 (x k:Nat) (hk:k≤64):shrK .u64 (x:Int) (k:Int)=((x / 2 ^ k:Nat):Int):=by
 unfold shrK
 rw [Int.toNat_natCast,Nat.min_eq_left (show k≤IntKind.bits .u64 from hk),Int.ofNat_fdiv]
 simp
theorem I1 (x k:Nat) (hk:k≤64):shrK .i64 (x:Int) (k:Int)=((x / 2 ^ k:Nat):Int):=by
 unfold shrK
 rw [Int.toNat_natCast,Nat.min_eq_left (show k≤IntKind.bits .i64 from hk),Int.ofNat_fdiv]
 simp
theorem RM {a b:Nat} (ha:a<18446744073709551616) (hb:b<18446744073709551616):bits .and .u64 (a:Int) (b:Int)=((a &&& b:Nat):Int):=by
 have o:a &&& b≤a:=Nat.and_le_left
 show IntKind.u64.wrap ((BitVec.ofInt 64 (a:Int) &&& BitVec.ofInt 64 (b:Int)).toNat:Int)=_
 have e1:BitVec.ofInt 64 (a:Int)=BitVec.ofNat 64 a:=rfl
 have e2:BitVec.ofInt 64 (b:Int)=BitVec.ofNat 64 b:=rfl
 rw [e1,e2,BitVec.toNat_and,BitVec.toNat_ofNat,BitVec.toNat_ofNat,Nat.mod_eq_of_lt (by omega),Nat.mod_eq_of_lt (by omega)]
 exact Ci (by omega)
theorem BP {a b:Nat} (ha:a<9223372036854775808) (hb:b<9223372036854775808):bits .and .i64 (a:Int) (b:Int)=((a &&& b:Nat):Int):=by
 have o:a &&& b≤a:=Nat.and_le_left
 show IntKind.i64.wrap ((BitVec.ofInt 64 (a:Int) &&& BitVec.ofInt 64 (b:Int)).toNat:Int)=_
 have e1:BitVec.ofInt 64 (a:Int)=BitVec.ofNat 64 a:=rfl
 have e2:BitVec.ofInt 64 (b:Int)=BitVec.ofNat 64 b:=rfl
 rw [e1,e2,BitVec.toNat_and,BitVec.toNat_ofNat,BitVec.toNat_ofNat,Nat.mod_eq_of_lt (by omega),Nat.mod_eq_of_lt (by omega)]
 exact wrap_i64 ⟨by omega,by omega⟩
def val:List Nat→Nat
 | []=>0
 | d::t=>d+16*val t
def a4 (d:Nat):Nat:=(d / 2 &&& 5)+(d &&& 5)
def b4 (d:Nat):Nat:=(d / 4 &&& 3)+(d &&& 3)
def c4 (d:Nat):Nat:=b4 (a4 d)
theorem Hw {a b:Nat} (ha:a<9223372036854775808) (hb:b<9223372036854775808):bits .xor .i64 (a:Int) (b:Int)=((a ^^^ b:Nat):Int):=by
 have o:a ^^^ b<2 ^ 63:=Nat.xor_lt_two_pow ha hb
 show IntKind.i64.wrap ((BitVec.ofInt 64 (a:Int) ^^^ BitVec.ofInt 64 (b:Int)).toNat:Int)=_
 have e1:BitVec.ofInt 64 (a:Int)=BitVec.ofNat 64 a:=rfl
 have e2:BitVec.ofInt 64 (b:Int)=BitVec.ofNat 64 b:=rfl
 rw [e1,e2,BitVec.toNat_xor,BitVec.toNat_ofNat,BitVec.toNat_ofNat,Nat.mod_eq_of_lt (by omega),Nat.mod_eq_of_lt (by omega)]
 exact wrap_i64 ⟨by omega,by omega⟩
theorem IP {x k:Nat} (hk:k≤60) (h:x*2 ^ k<9223372036854775808):shlK .i64 (x:Int) (k:Int)=((x*2 ^ k:Nat):Int):=by
 unfold shlK
 rw [Int.toNat_natCast,Nat.min_eq_left (show k≤IntKind.bits .i64 from by show k≤64; omega)]
 have:(x:Int)*2 ^ k=((x*2 ^ k:Nat):Int):=by push_cast; rfl
 rw [this]
 exact wrap_i64 ⟨by omega,by omega⟩
def Av (x q:Nat):Int:=if x.testBit q then 1 else 0
def pc5 (x:Nat):Int:=Av x 0+Av x 1+Av x 2+Av x 3+Av x 4
theorem G6:∀ x:Fin 32,Bo (x.val:Int)=some (pc5 x.val):=by decide +kernel
theorem DD (x:Nat):0≤pc5 x∧pc5 x≤5:=by
 unfold pc5 Av
 refine ⟨?_,?_⟩ <;> (split <;> split <;> split <;> split <;> split <;> decide)
/-- A Pauli operator over five wires. -/
structure As (p:Aa) (x z:Nat):Prop where
 ex:p.X=(x:Int)
 ez:p.Z=(z:Int)
 hx:x<32
 hz:z<32
 ph:0≤p.Phase∧p.Phase≤3
theorem x32 {a b:Nat} (ha:a<32) (hb:b<32):a ^^^ b<32:=Nat.xor_lt_two_pow (n:=5) ha hb
theorem n32 {a b:Nat} (ha:a<32):a &&& b<32:=Nat.lt_of_le_of_lt Nat.and_le_left ha
def ltr (x z q:Nat):Int:=Av x q+2*Av z q
def sgT:List (List Int):=[[0,0,0,0],[0,0,3,1],[0,1,0,3],[0,3,1,0]]
def sgB (a b c d:Bool):Int:=((sgT.getD ((if a then 1 else 0)+2*(if b then 1 else 0)) []).getD ((if c then 1 else 0)+2*(if d then 1 else 0)) 0)
def sg (ax az bx bz q:Nat):Int:=sgB (ax.testBit q) (az.testBit q) (bx.testBit q) (bz.testBit q)
theorem Pk:∀ a b c d:Bool,0≤sgB a b c d∧sgB a b c d≤3:=by decide
theorem Oo:∀ a b c d:Bool,((if a&&b then 1 else 0)+(if c&&d then 1 else 0)+2*(if b&&c then 1 else 0)-(if (a ^^ c)&&(b ^^ d) then 1 else 0)-sgB a b c d:Int) % 4=0:=by decide
theorem GH {x z:Nat} (u:x<32) (D:z<32) (p:Aa) (H:p.X=(x:Int)) (J:p.Z=(z:Int)) {q:Nat} (O:q≤40):AO p (q:Int)=some (ltr x z q):=by
 have o:∀ w:Nat,w<32→bits .and .i64 (shrK .i64 (w:Int) (q:Int)) 1=Av w q:=fun w P=>by
  have hd:w / 2 ^ q<9223372036854775808:=Nat.lt_of_le_of_lt (Nat.div_le_self _ _) (by omega)
  rw [I1 w q (by omega),show (1:Int)=((1:Nat):Int) from rfl,BP hd (by decide),Nat.and_one_is_mod]
  unfold Av
  rw [Nat.testBit_eq_decide_div_mod_eq]
  rcases Nat.mod_two_eq_zero_or_one (w / 2 ^ q) with h | h <;> simp [h]
 unfold AO
 rw [Ci (by omega),chk_t (by omega),chk_t (by omega),H,J,o x u,o z D]
 have Q:0≤Av x q∧Av x q≤1:=by unfold Av; split <;> decide
 have S:0≤Av z q∧Av z q≤1:=by unfold Av; split <;> decide
 rw [wrap_i64 (a:=2*Av z q) ⟨by omega,by omega⟩,wrap_i64 ⟨by omega,by omega⟩]
 rfl
theorem SY:∀ a b c d:Bool,Gg ((if a then 1 else 0)+2*(if b then 1 else 0)) ((if c then 1 else 0)+2*(if d then 1 else 0))=some (sgB a b c d):=by decide +kernel
def sgS (ax az bx bz:Nat):Int:=sg ax az bx bz 0+sg ax az bx bz 1+sg ax az bx bz 2+sg ax az bx bz 3+sg ax az bx bz 4
theorem EU (ax az bx bz q:Nat):0≤sg ax az bx bz q∧sg ax az bx bz q≤3:=Pk _ _ _ _
theorem GR {a b:Aa} {ax az bx bz:Nat} (ha:As a ax az) (hb:As b bx bz):AM a b=some (Aa.mk ((a.Phase+b.Phase+sgS ax az bx bz) % 4) ((ax ^^^ bx:Nat):Int) ((az ^^^ bz:Nat):Int)):=by
 have u:=ha.ph; have D:=hb.ph
 have st:∀ (q:Nat) (ph:Int),q<5→(0≤ph∧ph≤100)→FT a b q ph=some (ph+sg ax az bx bz q):=fun q ph J H=>by
  have o:=EU ax az bx bz q
  unfold FT
  rw [GH ha.hx ha.hz a ha.ex ha.ez (by omega),Option.bind_some,GH hb.hx hb.hz b hb.ex hb.ez (by omega),Option.bind_some]
  unfold ltr Av
  rw [SY,Option.bind_some]
  exact congrArg some (wrap_i64 ⟨by unfold sg at o; omega,by unfold sg at o; omega⟩)
 have s0:=EU ax az bx bz 0; have O:=EU ax az bx bz 1; have s2:=EU ax az bx bz 2; have P:=EU ax az bx bz 3; have Q:=EU ax az bx bz 4
 unfold AM
 rw [wrap_i64 (a:=a.Phase+b.Phase) ⟨by omega,by omega⟩]
 simp only [forN,Nat.zero_add,Nat.reduceAdd]
 rw [st 0 _ (by decide) (by omega),Option.bind_some,st 1 _ (by decide) (by omega),Option.bind_some,st 2 _ (by decide) (by omega),Option.bind_some,st 3 _ (by decide) (by omega),Option.bind_some,st 4 _ (by decide) (by omega),Option.bind_some,Option.bind_some,ha.ex,ha.ez,hb.ex,hb.ez,
  Hw (by have:=ha.hx; omega) (by have:=hb.hx; omega),Hw (by have:=ha.hz; omega) (by have:=hb.hz; omega),Int.tmod_eq_emod_of_nonneg (by omega)]
 unfold sgS
 congr 3
 omega
theorem Gp (ax az bx bz q:Nat):(Av (ax &&& az) q+Av (bx &&& bz) q+2*Av (az &&& bx) q-Av ((ax ^^^ bx) &&& (az ^^^ bz)) q-sg ax az bx bz q) % 4=0:=by
 have h:=Oo (ax.testBit q) (az.testBit q) (bx.testBit q) (bz.testBit q)
 unfold Av sg
 simp only [Nat.testBit_and,Nat.testBit_xor]
 exact h
theorem J6 {a b:Aa} {ax az bx bz:Nat} (ha:As a ax az) (hb:As b bx bz):Bl a b=some (Aa.mk ((a.Phase+b.Phase+sgS ax az bx bz) % 4) ((ax ^^^ bx:Nat):Int) ((az ^^^ bz:Nat):Int)):=by
 have P:=ha.ph; have Q:=hb.ph
 have o:=ha.hx; have u:=ha.hz; have D:=hb.hx; have J:=hb.hz
 have S:=x32 o D; have V:=x32 u J
 have H:∀ w:Nat,w<32→Bo (IntKind.u64.wrap (w:Int))=some (pc5 w):=fun w U=>by
  rw [Ci (by omega)]; exact G6 ⟨w,U⟩
 unfold Bl
 rw [ha.ex,ha.ez,hb.ex,hb.ez,BP (by omega) (by omega),BP (by omega) (by omega),BP (by omega) (by omega),Hw (by omega) (by omega),Hw (by omega) (by omega),BP (by omega) (by omega),
  H _ (n32 o),Option.bind_some,H _ (n32 D),Option.bind_some,H _ (n32 u),Option.bind_some,H _ (n32 S),Option.bind_some]
 have W:=DD (ax &&& az); have Z:=DD (bx &&& bz); have p3:=DD (az &&& bx); have p4:=DD ((ax ^^^ bx) &&& (az ^^^ bz))
 have q0:=Gp ax az bx bz 0; have q1:=Gp ax az bx bz 1; have q2:=Gp ax az bx bz 2; have q3:=Gp ax az bx bz 3; have q4:=Gp ax az bx bz 4
 rw [wrap_i64 (a:=a.Phase+b.Phase) ⟨by omega,by omega⟩,wrap_i64 (a:=a.Phase+b.Phase+pc5 (ax &&& az)) ⟨by omega,by omega⟩,wrap_i64 (a:=a.Phase+b.Phase+pc5 (ax &&& az)+pc5 (bx &&& bz)) ⟨by omega,by omega⟩,wrap_i64 (a:=2*pc5 (az &&& bx)) ⟨by omega,by omega⟩,
  wrap_i64 (a:=a.Phase+b.Phase+pc5 (ax &&& az)+pc5 (bx &&& bz)+2*pc5 (az &&& bx)) ⟨by omega,by omega⟩,wrap_i64 (a:=a.Phase+b.Phase+pc5 (ax &&& az)+pc5 (bx &&& bz)+2*pc5 (az &&& bx)-pc5 ((ax ^^^ bx) &&& (az ^^^ bz))) ⟨by omega,by omega⟩]
 have O:(a.Phase+b.Phase+pc5 (ax &&& az)+pc5 (bx &&& bz)+2*pc5 (az &&& bx)-pc5 ((ax ^^^ bx) &&& (az ^^^ bz))-(a.Phase+b.Phase+sgS ax az bx bz)) % 4=0:=by
  unfold pc5 sgS
  omega
 generalize a.Phase+b.Phase+pc5 (ax &&& az)+pc5 (bx &&& bz)+2*pc5 (az &&& bx)-pc5 ((ax ^^^ bx) &&& (az ^^^ bz))=v at O ⊢
 have h1 : -4<Int.tmod v 4∧Int.tmod v 4<4:=⟨by have:=Int.lt_tmod_of_pos v (show (0:Int)<4 by decide); omega,Int.tmod_lt_of_pos v (by decide)⟩
 have h2:=Int.tmod_add_mul_tdiv v 4
 rw [wrap_i64 ⟨by omega,by omega⟩,Int.tmod_eq_emod_of_nonneg (by omega)]
 congr 2
 omega
/-- Both multiplications are one. -/
theorem KY {a b:Aa} {ax az bx bz:Nat} (ha:As a ax az) (hb:As b bx bz):∃ r,AM a b=some r∧Bl a b=some r∧As r (ax ^^^ bx) (az ^^^ bz)∧r.Phase=(a.Phase+b.Phase+sgS ax az bx bz) % 4 :=
 ⟨_,GR ha hb,J6 ha hb,⟨rfl,rfl,x32 ha.hx hb.hx,x32 ha.hz hb.hz,by simp only; omega⟩,rfl⟩

def yr (w i:Nat):Int:=(if i≤0 then Av w 0 else 0)+(if i≤1 then Av w 1 else 0)+(if i≤2 then Av w 2 else 0)+(if i≤3 then Av w 3 else 0)+(if i≤4 then Av w 4 else 0)
theorem MZ (w:Nat):yr w 0=pc5 w:=by unfold yr pc5; simp
theorem JY (w:Nat) {i:Nat} (hi:i<5):yr w i=Av w i+yr w (i+1):=by
 have:i=0∨i=1∨i=2∨i=3∨i=4:=by omega
 unfold yr
 rcases this with rfl | rfl | rfl | rfl | rfl <;> simp <;> omega
theorem KB {w n:Nat} (u:w<2 ^ n):yr w n=0:=by
 have h:∀ j,n≤j→Av w j=0:=fun j o=>by
  unfold Av
  rw [Nat.testBit_lt_two_pow (Nat.lt_of_lt_of_le u (Nat.pow_le_pow_right (by decide) o))]
  rfl
 have g:∀ j,(if n≤j then Av w j else 0)=0:=fun j=>by
  by_cases o:n≤j
  ·rw [if_pos o,h j o]
  ·rw [if_neg o]
 unfold yr
 rw [g,g,g,g,g]; rfl
def paD:Aa:=Aa.mk 0 0 0
def xB (l:List Aa) (q:Nat):Nat:=(l.getD q paD).X.toNat
def zB (l:List Aa) (q:Nat):Nat:=(l.getD q paD).Z.toNat
/-- A tableau over n wires, as far as its bits. -/
structure A8 (t:Ae) (n:Nat):Prop where
 hn:1≤n∧n≤5
 qb:t.Qubits=(n:Int)
 lx:t.XImages.length=n
 lz:t.ZImages.length=n
 px:∀ q,q<n→∃ p,t.XImages[q]?=some p∧As p (xB t.XImages q) (zB t.XImages q)
 pz:∀ q,q<n→∃ p,t.ZImages[q]?=some p∧As p (xB t.ZImages q) (zB t.ZImages q)
 lt:∀ q,q<n→(xB t.XImages q<2 ^ n∧zB t.XImages q<2 ^ n)∧xB t.ZImages q<2 ^ n∧zB t.ZImages q<2 ^ n
/-- The bits of an image, wire by wire. -/
def ixz (XI ZI:List Aa) (px pz:Nat):Nat→Nat×Nat
 | 0=>(0,0)
 | i+1 =>
  let s:=ixz XI ZI px pz i
  let s1:=if px.testBit i then (s.1 ^^^ xB XI i,s.2 ^^^ zB XI i) else s
  if pz.testBit i then (s1.1 ^^^ xB ZI i,s1.2 ^^^ zB ZI i) else s1
theorem MW:∀ a b:Bool,(bits .and .i64 ((if a then 1 else 0)+2*(if b then 1 else 0)) 1==1)=a∧(bits .and .i64 ((if a then 1 else 0)+2*(if b then 1 else 0)) 2==2)=b∧(((if a then 1 else 0)+2*(if b then 1 else 0):Int)==3)=(a&&b):=by decide +kernel
theorem Fo {w m:Nat} (o:w<9223372036854775808) (u:m≤64):(bits .and .i64 (shrK .i64 (w:Int) (m:Int)) 1==1)=w.testBit m:=by
 have hd:w / 2 ^ m<9223372036854775808:=Nat.lt_of_le_of_lt (Nat.div_le_self _ _) o
 rw [I1 w m u,show (1:Int)=((1:Nat):Int) from rfl,BP hd (by decide),Nat.and_one_is_mod,Nat.testBit_eq_decide_div_mod_eq,Bool.eq_iff_iff]
 simp only [beq_iff_eq,decide_eq_true_eq]
 omega
/-- Multiplied where the bit says so, with phases that differ. -/
theorem JN {u o:Int} {x z ix J:Nat} {D:Aa} (P:x<32) (Q:z<32) (S:0≤u∧u≤3) (O:0≤o∧o≤3) (hi:As D ix J) :
  ∃ r H,AM (Aa.mk u (x:Int) (z:Int)) D=some r∧Bl (Aa.mk o (x:Int) (z:Int)) D=some H∧As r (x ^^^ ix) (z ^^^ J)∧As H (x ^^^ ix) (z ^^^ J)∧(H.Phase-r.Phase-(o-u)) % 4=0:=by
 obtain ⟨r,r1,_,U,V⟩:=KY (a:=Aa.mk u (x:Int) (z:Int)) (b:=D) ⟨rfl,rfl,P,Q,S⟩ hi
 obtain ⟨H,_,W,Z,g4⟩:=KY (a:=Aa.mk o (x:Int) (z:Int)) (b:=D) ⟨rfl,rfl,P,Q,O⟩ hi
 refine ⟨r,H,r1,W,U,Z,?_⟩
 rw [V,g4]
 simp only
 omega
theorem Fa {t:Ae} {n:Nat} (ht:A8 t n) {p:Aa} {px pz:Nat} (Q:As p px pz) (av:px<2 ^ n) :
  ∃ r,Bk t p=some r∧BY t p=some r∧As r (ixz t.XImages t.ZImages px pz n).1 (ixz t.XImages t.ZImages px pz n).2:=by
 have hn:=ht.hn
 have aw:=Q.ph
 have ay:∀ (d i:Nat) (ph u:Int) (x z:Nat),i+d=n→x<32→z<32→(0≤ph∧ph≤3)→(0≤u∧u≤3)→(u-ph-yr (px &&& pz) i) % 4=0→(x,z)=ixz t.XImages t.ZImages px pz i →
   ∃ J x1 z1,forN (CA p t) d i (ph,(x:Int),(z:Int))=some (J,((x1:Nat):Int),((z1:Nat):Int))∧forN (BI p t) d i (u,(x:Int),(z:Int))=some (J,(x1:Int),(z1:Int))∧x1<32∧z1<32∧(0≤J∧J≤3)∧(x1,z1)=ixz t.XImages t.ZImages px pz n:=by
  intro d
  induction d with
  | zero =>
   intro i ph u x z hi hx hz h1 h2 W h4
   have:i=n:=by omega
   subst this
   rw [KB (Nat.lt_of_le_of_lt Nat.and_le_left av)] at W
   have:u=ph:=by omega
   subst this
   exact ⟨u,x,z,rfl,rfl,hx,hz,h1,h4⟩
  | succ d ih =>
   intro i ph u x z hi hx hz h1 h2 W h4
   have ai:i<n:=by omega
   obtain ⟨xi,gx,ox⟩:=ht.px i ai
   obtain ⟨zi,gz,oz⟩:=ht.pz i ai
   have S:=Q.hx; have aj:=Q.hz
   obtain ⟨l1,l2,l3⟩:=MW (px.testBit i) (pz.testBit i)
   rw [JY _ (show i<5 by omega)] at W
   have hy:Av (px &&& pz) i=if px.testBit i&&pz.testBit i then 1 else 0:=by unfold Av; rw [Nat.testBit_and]
   -- the first half
   have ab:∃ a U O P,(((bif px.testBit i then ((getI t.XImages (i:Int)).bind fun y=>(AM (Aa.mk ph (x:Int) (z:Int)) y).bind fun o=>some (o.Phase,o.X,o.Z)) else (some (ph,(x:Int),(z:Int)))):Option (Int×Int×Int))=some (a,((O:Nat):Int),((P:Nat):Int))) ∧
     (((bif px.testBit i then ((getI t.XImages (i:Int)).bind fun y=>(Bl (Aa.mk u (x:Int) (z:Int)) y).bind fun o=>some (o.Phase,o.X,o.Z)) else (some (u,(x:Int),(z:Int)))):Option (Int×Int×Int))=some (U,(O:Int),(P:Int)))∧O<32∧P<32∧(0≤a∧a≤3)∧(0≤U∧U≤3)∧(U-a-(u-ph)) % 4=0∧(O,P)=if px.testBit i then (x ^^^ xB t.XImages i,z ^^^ zB t.XImages i) else (x,z):=by
    cases px.testBit i with
    | false=>exact ⟨ph,u,x,z,rfl,rfl,hx,hz,h1,h2,by omega,rfl⟩
    | true =>
     obtain ⟨r,r',e1,e2,e3,e4,e5⟩:=JN hx hz h1 h2 ox
     refine ⟨r.Phase,r'.Phase,_,_,?_,?_,e3.hx,e3.hz,e3.ph,e4.ph,e5,rfl⟩
     ·rw [cond_true,getI_nat,gx,Option.bind_some,e1,Option.bind_some,e3.ex,e3.ez]
     ·rw [cond_true,getI_nat,gx,Option.bind_some,e2,Option.bind_some,e4.ex,e4.ez]
   obtain ⟨a,U,O,P,s1,s2,ak,al,ha,am,a6,V⟩:=ab
   have ae:∃ b b' D H,(((bif pz.testBit i then ((getI t.ZImages (i:Int)).bind fun y=>(AM (Aa.mk a (O:Int) (P:Int)) y).bind fun o=>some (o.Phase,o.X,o.Z)) else (some (a,(O:Int),(P:Int)))):Option (Int×Int×Int))=some (b,((D:Nat):Int),((H:Nat):Int))) ∧
     (((bif pz.testBit i then ((getI t.ZImages (i:Int)).bind fun y=>(Bl (Aa.mk U (O:Int) (P:Int)) y).bind fun o=>some (o.Phase,o.X,o.Z)) else (some (U,(O:Int),(P:Int)))):Option (Int×Int×Int))=some (b',(D:Int),(H:Int)))∧D<32∧H<32∧(0≤b∧b≤3)∧(0≤b'∧b'≤3)∧(b'-b-(U-a)) % 4=0∧(D,H)=if pz.testBit i then (O ^^^ xB t.ZImages i,P ^^^ zB t.ZImages i) else (O,P):=by
    cases pz.testBit i with
    | false=>exact ⟨a,U,O,P,rfl,rfl,ak,al,ha,am,by omega,rfl⟩
    | true =>
     obtain ⟨r,r',e1,e2,e3,e4,e5⟩:=JN ak al ha am oz
     refine ⟨r.Phase,r'.Phase,_,_,?_,?_,e3.hx,e3.hz,e3.ph,e4.ph,e5,rfl⟩
     ·rw [cond_true,getI_nat,gz,Option.bind_some,e1,Option.bind_some,e3.ex,e3.ez]
     ·rw [cond_true,getI_nat,gz,Option.bind_some,e2,Option.bind_some,e4.ex,e4.ez]
   obtain ⟨b,b',D,H,s3,s4,an,ao,hb,aG,a9,ap⟩:=ae
   have aq:(D,H)=ixz t.XImages t.ZImages px pz (i+1):=by
    rw [ap]
    simp only [ixz,← h4]
    cases hq:px.testBit i with
    | false=>rw [hq] at V; cases V; rfl
    | true=>rw [hq] at V; cases V; rfl
   -- the reference's round
   have hS:∃ c,CA p t i (ph,(x:Int),(z:Int))=some (c,(D:Int),(H:Int))∧(0≤c∧c≤3)∧(b'-c-yr (px &&& pz) (i+1)) % 4=0:=by
    unfold CA
    simp only
    rw [GH S aj p Q.ex Q.ez (by omega)]
    unfold ltr Av
    simp only [Option.bind_some]
    rw [l1,l2,l3,s1]
    simp only [Option.bind_some]
    rw [s3]
    simp only [Option.bind_some]
    rw [hy] at W
    cases hq:(px.testBit i&&pz.testBit i) with
    | false =>
     rw [hq] at W
     exact ⟨b,rfl,hb,by simp only [Bool.false_eq_true,if_false] at W; omega⟩
    | true =>
     rw [hq] at W
     refine ⟨(b+1) % 4,?_,by omega,by simp only [if_true] at W; omega⟩
     rw [cond_true,wrap_i64 ⟨by omega,by omega⟩,Int.tmod_eq_emod_of_nonneg (by omega)]
     rfl
   have hI:BI p t i (u,(x:Int),(z:Int))=some (b',(D:Int),(H:Int)):=by
    unfold BI
    simp only
    rw [chk_t (by omega),Q.ex,Q.ez,Fo (by omega) (by omega),Fo (by omega) (by omega),s2]
    simp only [Option.bind_some]
    rw [chk_t (by omega),s4]
    rfl
   obtain ⟨c,aI,aJ,aK⟩:=hS
   simp only [forN,aI,hI,Option.bind_some]
   exact ih (i+1) c b' D H (by omega) an ao aJ aG aK aq
 have bc:=DD (px &&& pz)
 have aL:Int.tmod (IntKind.i64.wrap (p.Phase+pc5 (px &&& pz))) 4=(p.Phase+pc5 (px &&& pz)) % 4:=by
  rw [wrap_i64 ⟨by omega,by omega⟩,Int.tmod_eq_emod_of_nonneg (by omega)]
 obtain ⟨J,x1,z1,e1,e2,aM,aO,aQ,aR⟩:=ay n 0 p.Phase ((p.Phase+pc5 (px &&& pz)) % 4) 0 0 (by omega) (by decide) (by decide) aw (by omega) (by rw [MZ]; omega) rfl
 refine ⟨Aa.mk J (x1:Int) (z1:Int),?_,?_,?_⟩
 ·unfold Bk
  rw [ht.qb,Int.toNat_natCast,chk_t (by omega),show (0:Int)=((0:Nat):Int) from rfl,e1]; rfl
 ·have S:=Q.hx; have aj:=Q.hz
  unfold BY
  rw [Q.ex,Q.ez,BP (by omega) (by omega),Ci (by have:=n32 (b:=pz) S; omega),G6 ⟨px &&& pz,n32 S⟩,Option.bind_some,ht.qb,Int.toNat_natCast,chk_t (by omega),aL,show (0:Int)=((0:Nat):Int) from rfl,e2]; rfl
 ·rw [← aR]
  exact ⟨rfl,rfl,aM,aO,aQ⟩

theorem KC {t:Ae} {n:Nat} (J:A8 t n) (D H:Nat):∀ i,i≤n→(ixz t.XImages t.ZImages D H i).1<2 ^ n∧(ixz t.XImages t.ZImages D H i).2<2 ^ n
 | 0,_=>⟨Nat.two_pow_pos n,Nat.two_pow_pos n⟩
 | i+1,hi=>by
  obtain ⟨o,u⟩:=KC J D H i (by omega)
  obtain ⟨⟨O,P⟩,Q,S⟩:=J.lt i (by omega)
  simp only [ixz]
  split <;> split <;> refine ⟨?_,?_⟩ <;> first | exact o | exact u | skip
  all_goals first
   | exact Nat.xor_lt_two_pow (Nat.xor_lt_two_pow o O) Q
   | exact Nat.xor_lt_two_pow (Nat.xor_lt_two_pow u P) S
   | exact Nat.xor_lt_two_pow o O
   | exact Nat.xor_lt_two_pow u P
   | exact Nat.xor_lt_two_pow o Q
   | exact Nat.xor_lt_two_pow u S
theorem JM {l:List Aa} {q:Nat} {p:Aa} (h:l[q]?=some p):xB l q=p.X.toNat∧zB l q=p.Z.toNat:=by
 unfold xB zB
 rw [List.getD_eq_getElem?_getD,h]; exact ⟨rfl,rfl⟩
/-- Both compositions. -/
theorem JF {s t:Ae} {n:Nat} (O:A8 s n) (V:A8 t n):∃ r,BO s t=some r∧Bb s t=some r∧A8 r n ∧
  ∀ q,q<n→((xB r.XImages q,zB r.XImages q)=ixz t.XImages t.ZImages (xB s.XImages q) (zB s.XImages q) n)∧(xB r.ZImages q,zB r.ZImages q)=ixz t.XImages t.ZImages (xB s.ZImages q) (zB s.ZImages q) n:=by
 have hn:=O.hn
 let Good:List Aa→List Aa→Nat→Prop:=fun L S i=>L.length=i∧∀ q,q<i→∃ p,L[q]?=some p∧As p (ixz t.XImages t.ZImages (xB S q) (zB S q) n).1 (ixz t.XImages t.ZImages (xB S q) (zB S q) n).2
 have H:∀ (L S:List Aa) (i:Nat) (p:Aa),Good L S i→As p (ixz t.XImages t.ZImages (xB S i) (zB S i) n).1 (ixz t.XImages t.ZImages (xB S i) (zB S i) n).2→Good (L++[p]) S (i+1):=fun L S i p h P=>by
  refine ⟨by rw [List.length_append,h.1]; rfl,fun q o=>?_⟩
  by_cases hqi:q<i
  ·obtain ⟨p',D,u⟩:=h.2 q hqi
   exact ⟨p',by rw [List.getElem?_append_left (by rw [h.1]; exact hqi)]; exact D,u⟩
  ·have:q=i:=by omega
   subst this
   exact ⟨p,by rw [List.getElem?_append_right (by rw [h.1]; exact Nat.le_refl q),h.1]; simp,P⟩
 have W:∀ (d i:Nat) (L M:List Aa),i+d=n→Good L s.XImages i→Good M s.ZImages i →
   ∃ L' M',forN (CQ s t) d i (L,M)=some (L',M')∧forN (Fv s t) d i (L,M)=some (L',M')∧Good L' s.XImages n∧Good M' s.ZImages n:=by
  intro d
  induction d with
  | zero =>
   intro i L M hi D u
   have:i=n:=by omega
   subst this
   exact ⟨L,M,rfl,rfl,D,u⟩
  | succ d ih =>
   intro i L M hi D u
   have J:i<n:=by omega
   obtain ⟨px,gx,ox⟩:=O.px i J
   obtain ⟨pz,gz,oz⟩:=O.pz i J
   obtain ⟨⟨b1,b2⟩,b3,b4⟩:=O.lt i J
   obtain ⟨r1,e1,e2,e3⟩:=Fa V ox b1
   obtain ⟨Z,f1,f2,f3⟩:=Fa V oz b3
   have am:=D.1; have an:=u.1
   have hS:CQ s t i (L,M)=some (L++[r1],M++[Z]):=by
    unfold CQ
    simp only
    rw [getI_nat,gx,Option.bind_some,e1,Option.bind_some,chk_t (by omega),getI_nat,gz,Option.bind_some,f1,Option.bind_some,chk_t (by omega)]
   have hI:Fv s t i (L,M)=some (L++[r1],M++[Z]):=by
    unfold Fv
    simp only
    rw [getI_nat,gx,Option.bind_some,e2,Option.bind_some,chk_t (by omega),getI_nat,gz,Option.bind_some,f2,Option.bind_some,chk_t (by omega)]
   simp only [forN,hS,hI,Option.bind_some]
   exact ih (i+1) _ _ (by omega) (H L _ i r1 D e3) (H M _ i Z u f3)
 obtain ⟨L,M,k1,k2,Q,U⟩:=W n 0 [] [] (by omega) ⟨rfl,fun q o=>absurd o (Nat.not_lt_zero q)⟩ ⟨rfl,fun q o=>absurd o (Nat.not_lt_zero q)⟩
 have hb:∀ (L S:List Aa),Good L S n→∀ q,q<n→(xB L q,zB L q)=ixz t.XImages t.ZImages (xB S q) (zB S q) n:=fun L S h q o=>by
  obtain ⟨p,D,u⟩:=h.2 q o
  obtain ⟨a1,a2⟩:=JM D
  rw [a1,a2,u.ex,u.ez,Int.toNat_natCast,Int.toNat_natCast]
 have P:∀ (L S:List Aa),Good L S n→∀ q,q<n→∃ p,L[q]?=some p∧As p (xB L q) (zB L q):=fun L S h q o=>by
  obtain ⟨p,D,u⟩:=h.2 q o
  have:=hb L S h q o
  have e1:=congrArg Prod.fst this
  have e2:=congrArg Prod.snd this
  simp only at e1 e2
  rw [e1,e2]
  exact ⟨p,D,u⟩
 have hl:∀ (L S:List Aa),Good L S n→∀ q,q<n→xB L q<2 ^ n∧zB L q<2 ^ n:=fun L S h q o=>by
  have:=hb L S h q o
  have e1:=congrArg Prod.fst this
  have e2:=congrArg Prod.snd this
  simp only at e1 e2
  rw [e1,e2]
  exact KC V _ _ n (Nat.le_refl n)
 refine ⟨Ae.mk (n:Int) L M,?_,?_,⟨hn,rfl,Q.1,U.1,P L _ Q,P M _ U,fun q o=>⟨hl L _ Q q o,hl M _ U q o⟩⟩,fun q o=>⟨hb L _ Q q o,hb M _ U q o⟩⟩
 ·unfold BO
  rw [O.qb,Int.toNat_natCast,chk_t (by omega),k1]; rfl
 ·unfold Bb
  rw [O.qb,Int.toNat_natCast,chk_t (by omega),k2]; rfl
def paB (n:Nat) (p:Aa):Bool:=decide (0≤p.X)&&decide (p.X<((2 ^ n:Nat):Int))&&decide (0≤p.Z)&&decide (p.Z<((2 ^ n:Nat):Int))&&decide (0≤p.Phase)&&decide (p.Phase≤3)
def tbB (n:Nat) (t:Ae):Bool:=decide (1≤n)&&decide (n≤5)&&decide (t.Qubits=(n:Int))&&decide (t.XImages.length=n)&&decide (t.ZImages.length=n)&&t.XImages.all (paB n)&&t.ZImages.all (paB n)
theorem Ny {n:Nat} {t:Ae} (h:tbB n t=true):A8 t n:=by
 unfold tbB at h
 simp only [Bool.and_eq_true,decide_eq_true_eq] at h
 obtain ⟨⟨⟨⟨⟨⟨S,O⟩,U⟩,D⟩,H⟩,P⟩,Q⟩:=h
 have V:2 ^ n≤32:=Nat.pow_le_pow_right (n:=2) (by decide) O
 have go:∀ L:List Aa,L.all (paB n)=true→L.length=n→∀ q,q<n→(∃ p,L[q]?=some p∧As p (xB L q) (zB L q))∧xB L q<2 ^ n∧zB L q<2 ^ n:=fun L W hl q o=>by
  have J:=List.getElem?_eq_getElem (show q<L.length by omega)
  have u:=List.all_eq_true.1 W _ (List.getElem_mem (show q<L.length by omega))
  generalize L[q]'(by omega)=p at J u
  unfold paB at u
  simp only [Bool.and_eq_true,decide_eq_true_eq] at u
  obtain ⟨⟨⟨⟨⟨p1,p2⟩,p3⟩,p4⟩,Z⟩,p6⟩:=u
  obtain ⟨a1,a2⟩:=JM J
  rw [a1,a2]
  exact ⟨⟨p,J,⟨by omega,by omega,by omega,by omega,⟨Z,p6⟩⟩⟩,by omega,by omega⟩
 exact ⟨⟨S,O⟩,U,D,H,fun q o=>(go _ P D q o).1,fun q o=>(go _ Q H q o).1,fun q o=>⟨(go _ P D q o).2,(go _ Q H q o).2⟩⟩

def aH (a:Nat) (p:Nat×Nat):Nat×Nat:=(p.1 ^^^ (if p.1.testBit a != p.2.testBit a then 2 ^ a else 0),p.2 ^^^ (if p.1.testBit a != p.2.testBit a then 2 ^ a else 0))
def aS (a:Nat) (p:Nat×Nat):Nat×Nat:=(p.1,p.2 ^^^ (if p.1.testBit a then 2 ^ a else 0))
def aC (a b:Nat) (p:Nat×Nat):Nat×Nat:=(p.1 ^^^ (if p.1.testBit a then 2 ^ b else 0),p.2 ^^^ (if p.2.testBit b then 2 ^ a else 0))
def C7 (k a b:Nat) (p:Nat×Nat):Nat×Nat:=if k=1 then aH a p else if k=5 then aS a p else if k=9 then aC a b p else p
/-- A gate of the reduction. -/
def gK (n k a b:Nat):Prop:=a<n∧(((k=1∨k=2∨k=4∨k=5)∧b=0)∨(k=9∧b<n∧a≠b))
def omT (j:Nat) (p p':Nat×Nat):Bool:=(p.1.testBit j&&p'.2.testBit j) ^^ (p.2.testBit j&&p'.1.testBit j)
def om (p p':Nat×Nat):Bool:=omT 0 p p' ^^ (omT 1 p p' ^^ (omT 2 p p' ^^ (omT 3 p p' ^^ omT 4 p p')))
theorem CH (b:Bool) (a j:Nat):(if b=true then 2 ^ a else 0:Nat).testBit j=(b&&decide (a=j)):=by
 cases b with
 | false=>simp
 | true=>simp [Nat.testBit_two_pow]
theorem HC (a j:Nat) (p:Nat×Nat):(aH a p).1.testBit j=(if a=j then p.2.testBit j else p.1.testBit j)∧(aH a p).2.testBit j=if a=j then p.1.testBit j else p.2.testBit j:=by
 unfold aH
 simp only [Nat.testBit_xor,CH]
 by_cases h:a=j
 ·subst h
  cases p.1.testBit a <;> cases p.2.testBit a <;> simp
 ·simp [h]
theorem EX (a j:Nat) (p:Nat×Nat):(aS a p).1.testBit j=p.1.testBit j∧(aS a p).2.testBit j=if a=j then (p.2.testBit j ^^ p.1.testBit j) else p.2.testBit j:=by
 unfold aS
 simp only [Nat.testBit_xor,CH]
 by_cases h:a=j
 ·subst h; simp
 ·simp [h]
theorem CC (a b j:Nat) (p:Nat×Nat):(aC a b p).1.testBit j=(if b=j then (p.1.testBit j ^^ p.1.testBit a) else p.1.testBit j)∧(aC a b p).2.testBit j=if a=j then (p.2.testBit j ^^ p.2.testBit b) else p.2.testBit j:=by
 unfold aC
 simp only [Nat.testBit_xor,CH]
 constructor
 ·by_cases h:b=j
  ·subst h; simp
  ·simp [h]
 ·by_cases h:a=j
  ·subst h; simp
  ·simp [h]
theorem Pp {ax az bx bz:Nat}:(pc5 (ax &&& bz)+pc5 (az &&& bx)) % 2=(if om (ax,az) (bx,bz) then 1 else 0):=by
 have t:∀ j,(Av (ax &&& bz) j+Av (az &&& bx) j) % 2=if omT j (ax,az) (bx,bz) then 1 else 0:=fun j=>by
  unfold Av omT
  simp only [Nat.testBit_and]
  cases ax.testBit j <;> cases az.testBit j <;> cases bx.testBit j <;> cases bz.testBit j <;> rfl
 have o:=t 0; have u:=t 1; have D:=t 2; have H:=t 3; have J:=t 4
 unfold pc5 om
 generalize omT 0 (ax,az) (bx,bz)=o0 at *; generalize omT 1 (ax,az) (bx,bz)=o1 at *; generalize omT 2 (ax,az) (bx,bz)=o2 at *; generalize omT 3 (ax,az) (bx,bz)=o3 at *; generalize omT 4 (ax,az) (bx,bz)=o4 at *
 cases o0 <;> cases o1 <;> cases o2 <;> cases o3 <;> cases o4 <;> simp at*<;> omega
theorem Rj {ax az bx bz:Nat}:(sgS ax az bx bz-sgS bx bz ax az) % 4=(if om (ax,az) (bx,bz) then 2 else 0):=by
 have d:∀ a b c d:Bool,(sgB a b c d-sgB c d a b) % 4=if ((a&&d) ^^ (b&&c)) then 2 else 0:=by decide
 have t:∀ j,(sg ax az bx bz j-sg bx bz ax az j) % 4=if omT j (ax,az) (bx,bz) then 2 else 0:=fun j=>d _ _ _ _
 have o:=t 0; have u:=t 1; have D:=t 2; have H:=t 3; have J:=t 4
 unfold sgS om
 generalize omT 0 (ax,az) (bx,bz)=o0 at *; generalize omT 1 (ax,az) (bx,bz)=o1 at *; generalize omT 2 (ax,az) (bx,bz)=o2 at *; generalize omT 3 (ax,az) (bx,bz)=o3 at *; generalize omT 4 (ax,az) (bx,bz)=o4 at *
 cases o0 <;> cases o1 <;> cases o2 <;> cases o3 <;> cases o4 <;> simp at*<;> omega
theorem KF {a b:Aa} {ax az bx bz:Nat} (ha:As a ax az) (hb:As b bx bz):Fw a b=some (!om (ax,az) (bx,bz)):=by
 have o:=ha.hx; have u:=ha.hz; have H:=hb.hx; have J:=hb.hz
 have D:∀ w:Nat,w<32→Bo (IntKind.u64.wrap (w:Int))=some (pc5 w):=fun w O=>by
  rw [Ci (by omega)]; exact G6 ⟨w,O⟩
 have P:=DD (ax &&& bz); have Q:=DD (az &&& bx)
 unfold Fw
 rw [ha.ex,ha.ez,hb.ex,hb.ez,BP (by omega) (by omega),BP (by omega) (by omega),D _ (n32 o),Option.bind_some,D _ (n32 u),Option.bind_some,wrap_i64 ⟨by omega,by omega⟩,Int.tmod_eq_emod_of_nonneg (by omega),Pp]
 cases om (ax,az) (bx,bz) <;> rfl
theorem QV {a b:Aa} {ax az bx bz:Nat} (ha:As a ax az) (hb:As b bx bz):EN a b=some (!om (ax,az) (bx,bz)):=by
 have u:=ha.ph; have D:=hb.ph
 have h:=Rj (ax:=ax) (az:=az) (bx:=bx) (bz:=bz)
 unfold EN
 rw [GR ha hb,Option.bind_some,GR hb ha,Option.bind_some]
 simp only
 rw [Nat.xor_comm bx ax,Nat.xor_comm bz az,beq_self_eq_true,beq_self_eq_true]
 simp only [Bool.and_true]
 congr 1
 rw [Bool.eq_iff_iff]
 simp only [beq_iff_eq,Bool.not_eq_true']
 cases o:om (ax,az) (bx,bz) with
 | false =>
  rw [o] at h
  simp only [Bool.false_eq_true,if_false] at h
  constructor
  ·intro _; rfl
  ·intro _; omega
 | true =>
  rw [o] at h
  simp only [if_true] at h
  constructor
  ·intro e; omega
  ·intro e; cases e
/-- An image that is taken. -/
def imB (n:Nat) (p:Aa):Bool:=decide ((0≤p.Phase∧p.Phase≤3)∧(0≤p.X∧p.X≤((2 ^ n:Nat):Int)-1)∧(0≤p.Z∧p.Z≤((2 ^ n:Nat):Int)-1))&&(Int.tmod p.Phase 2==0)
theorem J2 {n:Nat} (u:1≤n∧n≤5) (p:Aa):Di (n:Int) p=some (decide ((0≤p.Phase∧p.Phase≤3)∧(0≤p.X∧p.X≤((2 ^ n:Nat):Int)-1)∧(0≤p.Z∧p.Z≤((2 ^ n:Nat):Int)-1))):=by
 have D:2 ^ n≤32:=Nat.pow_le_pow_right (n:=2) (by decide) u.2
 have J:=Nat.two_pow_pos n
 have H:shlK .i64 1 (n:Int)=((2 ^ n:Nat):Int):=by rw [show (1:Int)=((1:Nat):Int) from rfl,IP (by omega) (by omega),Nat.one_mul]
 have o:∀ {α:Type} {q:Prop} [Decidable q] (x:Option α),chk (q→(0:Int)≤(n:Int)) x=x:=fun {α q} _ x=>chk_t (fun _=>by omega)
 unfold Di A0
 simp only [o]
 rw [H,wrap_i64 ⟨by omega,by omega⟩,show (decide (1≤(n:Int))&&decide ((n:Int)≤5))=true by simp; omega]
 simp only [Option.bind_some,gb,cond_true,Bool.true_and]
 by_cases h1:0≤p.Phase∧p.Phase≤3
 ·rw [show (decide (0≤p.Phase)&&decide (p.Phase≤3))=true by simpa using h1]
  simp only [cond_true,Option.bind_some,Bool.true_and]
  by_cases h2:0≤p.X∧p.X≤((2 ^ n:Nat):Int)-1
  ·rw [show (decide (0≤p.X)&&decide (p.X≤((2 ^ n:Nat):Int)-1))=true by simpa using h2]
   simp only [cond_true,Option.bind_some,Bool.true_and]
   congr 1
   rw [Bool.eq_iff_iff]
   simp only [Bool.and_eq_true,decide_eq_true_eq]
   exact ⟨fun h=>⟨h1,h2,h⟩,fun h=>h.2.2⟩
  ·rw [show (decide (0≤p.X)&&decide (p.X≤((2 ^ n:Nat):Int)-1))=false by rw [← Bool.not_eq_true]; simpa using h2,decide_eq_false (show ¬ ((0≤p.Phase∧p.Phase≤3)∧(0≤p.X∧p.X≤((2 ^ n:Nat):Int)-1)∧(0≤p.Z∧p.Z≤((2 ^ n:Nat):Int)-1)) from fun h=>h2 h.2.1)]
   rfl
 ·rw [show (decide (0≤p.Phase)&&decide (p.Phase≤3))=false by rw [← Bool.not_eq_true]; simpa using h1,decide_eq_false (show ¬ ((0≤p.Phase∧p.Phase≤3)∧(0≤p.X∧p.X≤((2 ^ n:Nat):Int)-1)∧(0≤p.Z∧p.Z≤((2 ^ n:Nat):Int)-1)) from fun h=>h1 h.1)]
  rfl
theorem T7 {n:Nat} (o:1≤n∧n≤5) (p:Aa):D8 (n:Int) p=Di (n:Int) p:=by
 unfold D8 Di
 rw [Ci (by omega)]
 rfl

def BB (t:Ae) (q:Nat):Nat×Nat:=(xB (t.XImages++t.ZImages) q,zB (t.XImages++t.ZImages) q)
/-- A tableau whose images commute as they should. -/
structure Sy (t:Ae) (n:Nat):Prop where
 ok:A8 t n
 om:∀ i j,j<i→i<2*n→om (BB t i) (BB t j)=decide (i=j+n)
theorem Da {n:Nat} (o:n≤5) {L:List Aa} {q:Nat} {p:Aa} (u:L[q]?=some p) (h:imB n p=true):As p (xB L q) (zB L q)∧xB L q<2 ^ n∧zB L q<2 ^ n:=by
 have D:2 ^ n≤32:=Nat.pow_le_pow_right (n:=2) (by decide) o
 unfold imB at h
 simp only [Bool.and_eq_true,decide_eq_true_eq] at h
 obtain ⟨⟨H,P,Q⟩,_⟩:=h
 obtain ⟨J,O⟩:=JM u
 rw [J,O]
 exact ⟨⟨by omega,by omega,by omega,by omega,H⟩,by omega,by omega⟩
theorem Ib {A B:List Aa} (h:A.length+B.length≤1000000):DH [A,B]=some (A++B):=by
 unfold DH
 have o:DT [A,B] 0 0=some (A.length:Int):=by
  unfold DT
  rw [getI_nat]
  simp only [List.getElem?_cons_zero,Option.bind_some]
  rw [wrap_i64 ⟨by omega,by omega⟩,decide_eq_false (by omega),cond_false,Int.zero_add]
 have s2:DT [A,B] 1 (A.length:Int)=some ((A.length+B.length:Nat):Int):=by
  unfold DT
  rw [getI_nat]
  simp only [List.getElem?_cons_succ,List.getElem?_cons_zero,Option.bind_some]
  rw [wrap_i64 ⟨by omega,by omega⟩,decide_eq_false (by omega),cond_false]
  congr 1
 have u:EE [A,B] 0 []=some A:=by
  unfold EE
  rw [getI_nat]
  simp only [List.getElem?_cons_zero,Option.bind_some,List.length_nil,List.nil_append]
  rw [chk_t (by omega)]
 have D:EE [A,B] 1 A=some (A++B):=by
  unfold EE
  rw [getI_nat]
  simp only [List.getElem?_cons_succ,List.getElem?_cons_zero,Option.bind_some]
  rw [chk_t (by omega)]
 rw [show ([A,B]:List (List Aa)).length=2 from rfl,chk_t (by decide)]
 simp only [forN,Nat.zero_add,o,s2,u,D,Option.bind_some]
 rw [chk_t ⟨by omega,by omega⟩,chk_t (by decide)]
theorem TG {n:Nat} {p:Aa} (h:imB n p=true):p.Phase % 2=0:=by
 unfold imB at h
 simp only [Bool.and_eq_true,decide_eq_true_eq,beq_iff_eq] at h
 obtain ⟨⟨o,_⟩,u⟩:=h
 rwa [Int.tmod_eq_emod_of_nonneg o.1] at u
def Bj (n:Nat) (B:Nat→Nat×Nat) (i j:Nat):Bool:=(!om (B i) (B j))==decide (i=j+n)
theorem Tj {t:Ae} (h1:t.XImages.length≤2000000) (h2:t.ZImages.length≤2000000):∃ b,Es t=some b∧AU t=some b∧(b=true→∃ n,Sy t n∧∀ q,q<2*n→∀ p,(t.XImages++t.ZImages)[q]?=some p→p.Phase % 2=0):=by
 unfold Es AU
 rw [show AG t.Qubits 1 5=some (decide (1≤t.Qubits)&&decide (t.Qubits≤5)) from rfl,show A0 t.Qubits 1 5=some (decide (1≤t.Qubits)&&decide (t.Qubits≤5)) from rfl]
 simp only [Option.bind_some]
 by_cases hc:((!(decide (1≤t.Qubits)&&decide (t.Qubits≤5))||(t.XImages.length:Int) != t.Qubits)||(t.ZImages.length:Int) != t.Qubits)=true
 ·rw [hc]
  exact ⟨false,rfl,rfl,fun h=>by cases h⟩
 ·have ab:((!(decide (1≤t.Qubits)&&decide (t.Qubits≤5))||(t.XImages.length:Int) != t.Qubits)||(t.ZImages.length:Int) != t.Qubits)=false:=by simpa using hc
  rw [ab]
  simp only [Bool.or_eq_false_iff,Bool.not_eq_false',Bool.and_eq_true,decide_eq_true_eq,bne_eq_false_iff_eq] at ab
  obtain ⟨⟨hq,aO⟩,aQ⟩:=ab
  obtain ⟨n,Q⟩:∃ n:Nat,t.Qubits=(n:Int):=⟨t.Qubits.toNat,by omega⟩
  have P:1≤n∧n≤5:=by omega
  have hx:t.XImages.length=n:=by omega
  have hz:t.ZImages.length=n:=by omega
  have ai:(t.XImages++t.ZImages).length=2*n:=by rw [List.length_append]; omega
  have H:∀ i,i<2*n→∃ p,(t.XImages++t.ZImages)[i]?=some p:=fun i hi=>⟨_,List.getElem?_eq_getElem (by omega)⟩
  -- the specification's word on an image
  have ao:∀ p:Aa,(D8 t.Qubits p).bind (fun r=>some ((!r)||(Int.tmod p.Phase 2==1)))=some (!imB n p):=fun p=>by
   rw [Q,T7 P,J2 P]
   simp only [Option.bind_some]
   unfold imB
   by_cases hv:(0≤p.Phase∧p.Phase≤3)∧(0≤p.X∧p.X≤((2 ^ n:Nat):Int)-1)∧(0≤p.Z∧p.Z≤((2 ^ n:Nat):Int)-1)
   ·rw [decide_eq_true hv]
    have:p.Phase=0∨p.Phase=1∨p.Phase=2∨p.Phase=3:=by omega
    rcases this with h | h | h | h <;> rw [h] <;> rfl
   ·rw [decide_eq_false hv]; rfl
  have ap:∀ p:Aa,Dh t.Qubits p=some (imB n p):=fun p=>by
   unfold Dh imB
   rw [Q,J2 P]; rfl
  -- pairs
  have aq:∀ i x,i<2*n→(t.XImages++t.ZImages)[i]?=some x→(∀ j,j≤i→∀ p,(t.XImages++t.ZImages)[j]?=some p→imB n p=true) →
    forX (FD i t x) i 0 ()=some (if (List.range i).any (Bj n (BB t) i)=true then .inr (.rt false) else .inl ()):=fun i x hi u o=>by
   have hf:∀ j y,(List.range i)[j]?=some y→FD i t x j ()=some (bif Bj n (BB t) i y then .rt ((fun _=>Ex.rt false) j) else .nx ()):=fun j y J=>by
    have hji:j<i:=by have:=(List.getElem?_eq_some_iff.1 J).1; simpa using this
    have ac:y=j:=by rw [List.getElem?_range hji] at J; exact (Option.some.inj J).symm
    subst ac
    obtain ⟨z,O⟩:=H y (by omega)
    have o1:=(Da P.2 u (o i (Nat.le_refl i) x u)).1
    have o2:=(Da P.2 O (o y (by omega) z O)).1
    unfold FD
    rw [getI_nat,List.getElem?_take_of_lt hji,O,Option.bind_some,QV o1 o2,Option.bind_some,Q,wrap_i64 ⟨by omega,by omega⟩]
    have e:((i:Int)==(y:Int)+(n:Int))=decide (i=y+n):=by rw [Bool.eq_iff_iff]; simp only [beq_iff_eq,decide_eq_true_eq]; omega
    rw [e]
    show (bif Bj n (BB t) i y then _ else _)=_
    cases Bj n (BB t) i y <;> rfl
   have:=forX_any hf
   rw [List.length_range] at this
   rcases this with ⟨S,U⟩ | ⟨S,k,_,U⟩
   ·rw [U,S]; rfl
   ·rw [U,S]; rfl
  have av:∀ i,i<2*n→(∀ j,j<2*n→∀ p,(t.XImages++t.ZImages)[j]?=some p→imB n p=true) →
    forX (CI (t.XImages++t.ZImages) i t) i 0 ()=some (if (List.range i).any (Bj n (BB t) i)=true then .inr (.rt false) else .inl ()):=fun i hi o=>by
   have hf:∀ j y,(List.range i)[j]?=some y→CI (t.XImages++t.ZImages) i t j ()=some (bif Bj n (BB t) i y then .rt ((fun _=>Ex.rt false) j) else .nx ()):=fun j y J=>by
    have hji:j<i:=by have:=(List.getElem?_eq_some_iff.1 J).1; simpa using this
    have ac:y=j:=by rw [List.getElem?_range hji] at J; exact (Option.some.inj J).symm
    subst ac
    obtain ⟨x,u⟩:=H i hi
    obtain ⟨z,O⟩:=H y (by omega)
    have o1:=(Da P.2 u (o i hi x u)).1
    have o2:=(Da P.2 O (o y (by omega) z O)).1
    unfold CI
    rw [getI_nat,u,Option.bind_some,getI_nat,O,Option.bind_some,KF o1 o2,Option.bind_some,Q,wrap_i64 ⟨by omega,by omega⟩]
    have e:((i:Int)-(y:Int)==(n:Int))=decide (i=y+n):=by rw [Bool.eq_iff_iff]; simp only [beq_iff_eq,decide_eq_true_eq]; omega
    rw [e]
    show (bif Bj n (BB t) i y then _ else _)=_
    cases Bj n (BB t) i y <;> rfl
   have:=forX_any hf
   rw [List.length_range] at this
   rcases this with ⟨S,U⟩ | ⟨S,k,_,U⟩
   ·rw [U,S]; rfl
   ·rw [U,S]; rfl
  -- one round of the reference
  have hr:∀ i x,i<2*n→(t.XImages++t.ZImages)[i]?=some x→(∀ j,j<i→∀ p,(t.XImages++t.ZImages)[j]?=some p→imB n p=true) →
    Em t i ()=some (bif !imB n x||(List.range i).any (Bj n (BB t) i) then .rt false else .nx ()):=fun i x hi u o=>by
   have h:=ao x
   unfold Em
   rw [getI_nat,u,Option.bind_some]
   cases W:D8 t.Qubits x with
   | none=>rw [W] at h; cases h
   | some r =>
    rw [W] at h
    simp only [Option.bind_some] at h ⊢
    rw [Option.some.inj h]
    cases V:imB n x with
    | false=>rfl
    | true =>
     simp only [Bool.not_true,cond_false,Bool.false_or]
     rw [chk_t ⟨by omega,by omega⟩,chk_t (by omega),aq i x hi u (fun j hj p D=>by
      rcases Nat.lt_or_ge j i with hji | hji
      ·exact o j hji p D
      ·have:j=i:=by omega
       subst this
       rw [u] at D
       rw [← Option.some.inj D]; exact V)]
     cases (List.range i).any (Bj n (BB t) i) <;> rfl
  rw [cond_false,cond_false,chk_t (by omega),chk_t (by omega),chk_t (by omega),ai,Ib (by omega)]
  simp only [Option.bind_some]
  -- the program's look at the images
  have ay:D9 (t.XImages++t.ZImages) (fun ae=>Cg ae t.Qubits)=some ((t.XImages++t.ZImages).any fun p=>!imB n p):=by
   have hf:∀ i x,(t.XImages++t.ZImages)[i]?=some x→DQ (t.XImages++t.ZImages) (fun ae=>Cg ae t.Qubits) i ()=some (bif !imB n x then .rt (i:Int) else .nx ()):=fun i x hx=>by
    unfold DQ Cg
    simp only
    rw [getI_nat,hx,Option.bind_some,ap,Option.bind_some,Option.bind_some]
    cases imB n x <;> rfl
   unfold D9 F7
   rw [chk_t (by omega)]
   rcases forX_any hf with ⟨S,U⟩ | ⟨S,i,_,U⟩
   ·rw [U,S]; rfl
   ·rw [U,S]; simp [orR]
  rw [ay]
  simp only [Option.bind_some]
  cases aa:(t.XImages++t.ZImages).any fun p=>!imB n p with
  | true =>
   obtain ⟨p0,aA,ak⟩:=List.any_eq_true.1 aa
   obtain ⟨i0,aE,rfl⟩:=List.getElem_of_mem aA
   have aF:∀ (d i:Nat),i+d=2*n→i≤i0→(∀ j,j<i→∀ p,(t.XImages++t.ZImages)[j]?=some p→imB n p=true)→forX (Em t) d i ()=some (.inr false):=by
    intro d
    induction d with
    | zero=>intro i hi aG _; omega
    | succ d ih =>
     intro i hi aG o
     obtain ⟨x,u⟩:=H i (by omega)
     have h:=hr i x (by omega) u o
     simp only [forX,h,Option.bind_some]
     cases V:imB n x with
     | false=>rfl
     | true =>
      cases (List.range i).any (Bj n (BB t) i) with
      | true=>rfl
      | false =>
       simp only [Bool.not_true,Bool.or_false,cond_false]
       refine ih (i+1) (by omega) ?_ (fun j hj p D=>?_)
       ·rcases Nat.lt_or_ge i i0 with h | h
        ·omega
        ·have:i=i0:=by omega
         subst this
         rw [List.getElem?_eq_getElem aE] at u
         rw [Option.some.inj u,V] at ak
         cases ak
       ·rcases Nat.lt_or_ge j i with hji | hji
        ·exact o j hji p D
        ·have:j=i:=by omega
         subst this
         rw [u] at D
         rw [← Option.some.inj D]; exact V
   rw [aF (2*n) 0 (by omega) (by omega) (fun j hj=>absurd hj (Nat.not_lt_zero j))]
   exact ⟨false,rfl,rfl,fun h=>by cases h⟩
  | false =>
   have o:∀ j,∀ p,(t.XImages++t.ZImages)[j]?=some p→imB n p=true:=fun j p D=>by
    have:=List.any_eq_false.1 aa p (List.mem_of_getElem? D)
    simpa using this
   have fS:∀ i y,(List.range (2*n))[i]?=some y→Em t i ()=some (bif (List.range y).any (Bj n (BB t) y) then .rt ((fun _=>false) i) else .nx ()):=fun i y J=>by
    have hi:i<2*n:=by have:=(List.getElem?_eq_some_iff.1 J).1; simpa using this
    have af:y=i:=by rw [List.getElem?_range hi] at J; exact (Option.some.inj J).symm
    subst af
    obtain ⟨x,u⟩:=H y hi
    have h:=hr y x hi u (fun j _ p D=>o j p D)
    rw [o y x u] at h
    exact h
   have fI:∀ i y,(List.range (2*n))[i]?=some y→DU (t.XImages++t.ZImages) t i ()=some (bif (List.range y).any (Bj n (BB t) y) then .rt ((fun _=>false) i) else .nx ()):=fun i y J=>by
    have hi:i<2*n:=by have:=(List.getElem?_eq_some_iff.1 J).1; simpa using this
    have af:y=i:=by rw [List.getElem?_range hi] at J; exact (Option.some.inj J).symm
    subst af
    unfold DU
    rw [chk_t (by omega),av y hi (fun j _ p D=>o j p D)]
    cases (List.range y).any (Bj n (BB t) y) <;> rfl
   rw [cond_false,chk_t (by omega),ai]
   have gS:=forX_any fS; have gJ:=forX_any fI
   rw [List.length_range] at gS gJ
   rcases gS with ⟨s1,s2⟩ | ⟨s1,k,_,s2⟩
   ·rcases gJ with ⟨i1,i2⟩ | ⟨i1,k,_,i2⟩
    ·rw [s2,i2]
     refine ⟨true,rfl,rfl,fun _=>⟨n,⟨⟨P,Q,hx,hz,fun q hq=>?_,fun q hq=>?_,fun q hq=>?_⟩,fun i j hji hi=>?_⟩,fun q _ p D=>TG (o q p D)⟩⟩
     ·obtain ⟨p,D⟩:∃ p,t.XImages[q]?=some p:=⟨_,List.getElem?_eq_getElem (by omega)⟩
      exact ⟨p,D,(Da P.2 D (o q p (by rw [List.getElem?_append_left (by omega)]; exact D))).1⟩
     ·obtain ⟨p,D⟩:∃ p,t.ZImages[q]?=some p:=⟨_,List.getElem?_eq_getElem (by omega)⟩
      exact ⟨p,D,(Da P.2 D (o (n+q) p (by rw [List.getElem?_append_right (by omega),hx,Nat.add_sub_cancel_left]; exact D))).1⟩
     ·obtain ⟨p,D⟩:∃ p,t.XImages[q]?=some p:=⟨_,List.getElem?_eq_getElem (by omega)⟩
      obtain ⟨p',al⟩:∃ p,t.ZImages[q]?=some p:=⟨_,List.getElem?_eq_getElem (by omega)⟩
      exact ⟨(Da P.2 D (o q p (by rw [List.getElem?_append_left (by omega)]; exact D))).2,(Da P.2 al (o (n+q) p' (by rw [List.getElem?_append_right (by omega),hx,Nat.add_sub_cancel_left]; exact al))).2⟩
     ·have:=List.any_eq_false.1 s1 i (List.mem_range.2 hi)
      have h2:(List.range i).any (Bj n (BB t) i)=false:=by simpa using this
      have h3:=List.any_eq_false.1 h2 j (List.mem_range.2 hji)
      unfold Bj at h3
      cases ho:om (BB t i) (BB t j) <;> cases hd:decide (i=j+n) <;> rw [ho,hd] at h3 <;> simp at h3 ⊢
    ·rw [s1] at i1; cases i1
   ·rcases gJ with ⟨i1,i2⟩ | ⟨i1,k',_,i2⟩
    ·rw [s1] at i1; cases i1
    ·rw [s2,i2]
     exact ⟨false,rfl,rfl,fun h=>by cases h⟩

/-- A gate that is taken, over n wires. -/
def gOk (n:Int) (g:Ab):Bool :=
 bif decide (1≤g.Kind)&&decide (g.Kind≤8) then decide (0≤g.A)&&decide (g.A≤n-1)&&(g.B==0)
 else bif decide (9≤g.Kind)&&decide (g.Kind≤11) then decide (0≤g.A)&&decide (g.A≤n-1)&&(decide (0≤g.B)&&decide (g.B≤n-1))&&(g.A != g.B)
 else (g.Kind==12)&&(g.A==0)&&(g.B==0)
theorem Sb {n:Int} (o:1≤n∧n≤5) (g:Ab):Fc n g=some (gOk n g):=by
 unfold Fc AG gOk
 rw [wrap_i64 (a:=n-1) ⟨by omega,by omega⟩]
 simp only [Option.bind_some,gb]
 cases decide (1≤g.Kind)&&decide (g.Kind≤8) <;> cases decide (9≤g.Kind)&&decide (g.Kind≤11) <;> simp only [cond_true,cond_false,Option.bind_some]
 all_goals cases decide (0≤g.A)&&decide (g.A≤n-1) <;> simp
theorem I2 {n:Int} (H:1≤n∧n≤5) (g:Ab):Cq n g=some (gOk n g):=by
 unfold Cq Cd A0 gOk
 rw [wrap_i64 (a:=n-1) ⟨by omega,by omega⟩]
 have J:decide (1≤n)=true:=decide_eq_true H.1
 have O:decide (n≤5)=true:=decide_eq_true H.2
 simp only [Option.bind_some,gb,J,O,Bool.and_self,Bool.not_true,Bool.not_false,cond_true,Bool.false_or]
 by_cases hk:1≤g.Kind∧g.Kind≤12
 ·have e1:(decide (1≤g.Kind)&&decide (g.Kind≤12))=true:=by simp [hk]
  simp only [e1,Bool.not_true,cond_false]
  by_cases h12:g.Kind=12
  ·simp [h12]
  ·have D:(g.Kind==12)=false:=by simp [h12]
   simp only [D,cond_false]
   by_cases h9:9≤g.Kind
   ·have o:(decide (9≤g.Kind)&&decide (g.Kind≤11))=true:=by simp; omega
    have u:(decide (1≤g.Kind)&&decide (g.Kind≤8))=false:=by simp; omega
    simp only [o,u,cond_true,cond_false]
    cases decide (0≤g.A)&&decide (g.A≤n-1) <;> simp
   ·have o:(decide (9≤g.Kind)&&decide (g.Kind≤11))=false:=by simp; omega
    have u:(decide (1≤g.Kind)&&decide (g.Kind≤8))=true:=by simp; omega
    simp only [o,u,cond_true,cond_false]
 ·have e1:(decide (1≤g.Kind)&&decide (g.Kind≤12))=false:=by simp; omega
  have o:(decide (9≤g.Kind)&&decide (g.Kind≤11))=false:=by simp; omega
  have u:(decide (1≤g.Kind)&&decide (g.Kind≤8))=false:=by simp; omega
  have P:(g.Kind==12)=false:=by simp; omega
  simp [e1,o,u,P]
/-- A circuit that is taken. -/
def cOk (c:Aj):Bool:=decide (1≤c.Qubits)&&decide (c.Qubits≤5)&&decide (c.Gates.length≤400)&&c.Gates.all (gOk c.Qubits)
theorem LV (c:Aj):Ef c=some (cOk c):=by
 unfold Ef AG cOk
 simp only [Option.bind_some]
 by_cases hn:1≤c.Qubits∧c.Qubits≤5
 ·by_cases hl:c.Gates.length≤400
  ·have e:(!(decide (1≤c.Qubits)&&decide (c.Qubits≤5))||decide ((400:Int)<(c.Gates.length:Int)))=false:=by simp [hn]; omega
   rw [e,cond_false,chk_t (by omega)]
   rcases forX_any (f:=GG c) (l:=c.Gates) (p:=fun g=>!gOk c.Qubits g) (q:=fun _=>false) (fun i x o=>by
    unfold GG; simp only [getI_nat,o,Option.bind_some,Sb hn]; cases gOk c.Qubits x <;> rfl) with ⟨u,D⟩ | ⟨u,i,_,D⟩
   ·rw [D]
    have:c.Gates.all (gOk c.Qubits)=true:=by rw [List.all_eq_true]; intro x o; have:=List.any_eq_false.1 u x o; simpa using this
    simp [orR,hn,hl,this]
   ·rw [D]
    have:c.Gates.all (gOk c.Qubits)=false:=by
     obtain ⟨x,o,H⟩:=List.any_eq_true.1 u
     rw [List.all_eq_false]; exact ⟨x,o,by simpa using H⟩
    simp [orR,this]
  ·have e:(!(decide (1≤c.Qubits)&&decide (c.Qubits≤5))||decide ((400:Int)<(c.Gates.length:Int)))=true:=by simp; omega
   rw [e,cond_true]
   simp [hl]
 ·have e:(!(decide (1≤c.Qubits)&&decide (c.Qubits≤5))||decide ((400:Int)<(c.Gates.length:Int)))=true:=by simp; omega
  rw [e,cond_true]
  have:(decide (1≤c.Qubits)&&decide (c.Qubits≤5))=false:=by simp; omega
  simp [this]
theorem Hv (c:Aj) (J:c.Gates.length≤1048576):C0 c=some (cOk c):=by
 unfold C0 A0 cOk
 simp only [Option.bind_some]
 by_cases hn:1≤c.Qubits∧c.Qubits≤5
 ·by_cases hl:c.Gates.length≤400
  ·have e:(decide (1≤c.Qubits)&&decide (c.Qubits≤5)&&decide ((c.Gates.length:Int)≤400))=true:=by simp [hn]; omega
   rw [e]
   have O:∀ i x,c.Gates[i]?=some x→GB c.Gates (fun u=>DR u c) i ()=some (bif !gOk c.Qubits x then .rt (i:Int) else .nx ()):=fun i x o=>by
    unfold GB DR
    simp only [getI_nat,o,Option.bind_some,I2 hn]
    cases gOk c.Qubits x <;> rfl
   unfold Gs Gi
   rw [chk_t (by omega)]
   rcases forX_any O with ⟨D,H⟩ | ⟨D,i,_,H⟩
   ·rw [H]
    have:c.Gates.all (gOk c.Qubits)=true:=by rw [List.all_eq_true]; intro x o; have:=List.any_eq_false.1 D x o; simpa using this
    simp [orR,hn,hl,this,gb]
   ·rw [H]
    have:c.Gates.all (gOk c.Qubits)=false:=by
     obtain ⟨x,o,P⟩:=List.any_eq_true.1 D
     rw [List.all_eq_false]; exact ⟨x,o,by simpa using P⟩
    simp [orR,this,gb]
  ·have e:(decide (1≤c.Qubits)&&decide (c.Qubits≤5)&&decide ((c.Gates.length:Int)≤400))=false:=by simp; omega
   rw [e]
   simp [gb,hl]
 ·have this:(decide (1≤c.Qubits)&&decide (c.Qubits≤5))=false:=by simp; omega
  simp [gb,this]
theorem Ct {n:Int} {g:Ab} (h:gOk n g=true):(1≤g.Kind∧g.Kind≤8∧0≤g.A∧g.A≤n-1)∨(9≤g.Kind∧g.Kind≤11∧0≤g.A∧g.A≤n-1∧0≤g.B∧g.B≤n-1∧g.A≠g.B)∨g.Kind=12:=by
 unfold gOk at h
 by_cases h1:1≤g.Kind∧g.Kind≤8
 ·have e:(decide (1≤g.Kind)&&decide (g.Kind≤8))=true:=by simp [h1]
  rw [e,cond_true] at h
  simp at h
  exact .inl ⟨h1.1,h1.2,h.1.1,h.1.2⟩
 ·have e:(decide (1≤g.Kind)&&decide (g.Kind≤8))=false:=by simp; omega
  rw [e,cond_false] at h
  by_cases h2:9≤g.Kind∧g.Kind≤11
  ·have e:(decide (9≤g.Kind)&&decide (g.Kind≤11))=true:=by simp [h2]
   rw [e,cond_true] at h
   simp at h
   exact .inr (.inl ⟨h2.1,h2.2,h.1.1.1,h.1.1.2,h.1.2.1,h.1.2.2,h.2⟩)
  ·have e:(decide (9≤g.Kind)&&decide (g.Kind≤11))=false:=by simp; omega
   rw [e,cond_false] at h
   simp at h
   exact .inr (.inr h.1.1)
theorem ID (p:Nat×Nat):om p (0,0)=false:=by
 unfold om omT
 simp only [Nat.zero_testBit,Bool.and_false,Bool.xor_false]
theorem BC {t:Ae} {n:Nat} (h:A8 t n) {q:Nat} (o:q<n):BB t q=(xB t.XImages q,zB t.XImages q):=by
 unfold BB xB zB
 rw [List.getD_eq_getElem?_getD,List.getD_eq_getElem?_getD,List.getElem?_append_left (by rw [h.lx]; exact o)]
theorem Bw {t:Ae} {n:Nat} (h:A8 t n) {q:Nat}:BB t (n+q)=(xB t.ZImages q,zB t.ZImages q):=by
 unfold BB xB zB
 rw [List.getD_eq_getElem?_getD,List.getD_eq_getElem?_getD,List.getElem?_append_right (by rw [h.lx]; omega),h.lx,Nat.add_sub_cancel_left]
theorem Tn {k a b:Nat} {p:Nat×Nat} (o:p.1.testBit a=false) (u:p.2.testBit a=false) (D:k=9→p.2.testBit b=false):C7 k a b p=p:=by
 unfold C7
 split
 ·unfold aH; rw [o,u]; simp
 ·split
  ·unfold aS; rw [o]; simp
  ·split
   ·rename_i H
    unfold aC; rw [o,D H]; simp
   ·rfl
theorem Cp {j a:Nat} (h:j≠a):(2 ^ j).testBit a=false:=by rw [Nat.testBit_two_pow]; exact decide_eq_false h
theorem N7 {j i:Nat} (h:j≠i) (p:Nat×Nat):omT i p (2 ^ j,0)=false∧omT i p (0,2 ^ j)=false:=by
 unfold omT
 simp only [Cp h,Nat.zero_testBit,Bool.and_false,Bool.xor_false]
 exact ⟨trivial,trivial⟩
theorem Ji {j:Nat} (u:j<5) (p:Nat×Nat):om p (2 ^ j,0)=p.2.testBit j∧om p (0,2 ^ j)=p.1.testBit j:=by
 have o:omT j p (2 ^ j,0)=p.2.testBit j∧omT j p (0,2 ^ j)=p.1.testBit j:=by
  unfold omT
  simp [Nat.testBit_two_pow]
 have h:∀ i,i≠j→omT i p (2 ^ j,0)=false∧omT i p (0,2 ^ j)=false:=fun i hi=>N7 (Ne.symm hi) p
 have:j=0∨j=1∨j=2∨j=3∨j=4:=by omega
 unfold om
 rcases this with rfl | rfl | rfl | rfl | rfl
 ·rw [o.1,o.2,(h 1 (by decide)).1,(h 1 (by decide)).2,(h 2 (by decide)).1,(h 2 (by decide)).2,(h 3 (by decide)).1,(h 3 (by decide)).2,(h 4 (by decide)).1,(h 4 (by decide)).2]; simp
 ·rw [o.1,o.2,(h 0 (by decide)).1,(h 0 (by decide)).2,(h 2 (by decide)).1,(h 2 (by decide)).2,(h 3 (by decide)).1,(h 3 (by decide)).2,(h 4 (by decide)).1,(h 4 (by decide)).2]; simp
 ·rw [o.1,o.2,(h 0 (by decide)).1,(h 0 (by decide)).2,(h 1 (by decide)).1,(h 1 (by decide)).2,(h 3 (by decide)).1,(h 3 (by decide)).2,(h 4 (by decide)).1,(h 4 (by decide)).2]; simp
 ·rw [o.1,o.2,(h 0 (by decide)).1,(h 0 (by decide)).2,(h 1 (by decide)).1,(h 1 (by decide)).2,(h 2 (by decide)).1,(h 2 (by decide)).2,(h 4 (by decide)).1,(h 4 (by decide)).2]; simp
 ·rw [o.1,o.2,(h 0 (by decide)).1,(h 0 (by decide)).2,(h 1 (by decide)).1,(h 1 (by decide)).2,(h 2 (by decide)).1,(h 2 (by decide)).2,(h 3 (by decide)).1,(h 3 (by decide)).2]; simp

def xp (p r:Nat×Nat):Nat×Nat:=(p.1 ^^^ r.1,p.2 ^^^ r.2)
theorem GO (j:Nat) (p r s:Nat×Nat):omT j (xp p r) s=(omT j p s ^^ omT j r s):=by
 unfold omT xp
 simp only [Nat.testBit_xor]
 cases p.1.testBit j <;> cases p.2.testBit j <;> cases r.1.testBit j <;> cases r.2.testBit j <;> cases s.1.testBit j <;> cases s.2.testBit j <;> rfl
theorem Er (p r s:Nat×Nat):om (xp p r) s=(om p s ^^ om r s):=by
 unfold om
 rw [GO,GO,GO,GO,GO]
 cases omT 0 p s <;> cases omT 1 p s <;> cases omT 2 p s <;> cases omT 3 p s <;> cases omT 4 p s <;> cases omT 0 r s <;> cases omT 1 r s <;> cases omT 2 r s <;> cases omT 3 r s <;> cases omT 4 r s <;> rfl
theorem CL (p r:Nat×Nat):om p r=om r p:=by
 have e:∀ i,omT i p r=omT i r p:=fun i=>by
  unfold omT
  cases p.1.testBit i <;> cases p.2.testBit i <;> cases r.1.testBit i <;> cases r.2.testBit i <;> rfl
 unfold om
 rw [e,e,e,e,e]
theorem KQ (p:Nat×Nat):om p p=false:=by
 have e:∀ i,omT i p p=false:=fun i=>by
  unfold omT
  cases p.1.testBit i <;> cases p.2.testBit i <;> rfl
 unfold om
 rw [e,e,e,e,e]; rfl
theorem Ic (p:Nat×Nat):om (0,0) p=false:=by rw [CL]; exact ID p
/-- The image, as products of the images of the wires. -/
theorem Kg (XI ZI:List Aa) (o u i:Nat):ixz XI ZI o u (i+1)=xp (xp (ixz XI ZI o u i) (if o.testBit i then (xB XI i,zB XI i) else (0,0))) (if u.testBit i then (xB ZI i,zB ZI i) else (0,0)):=by
 simp only [ixz,xp]
 cases o.testBit i <;> cases u.testBit i <;> simp
/-- With an image of the tableau itself. -/
theorem JL {G:Ae} {n:Nat} (h:Sy G n) (o u:Nat):∀ i,i≤n→∀ j,j<n→om (ixz G.XImages G.ZImages o u i) (BB G j)=(decide (j<i)&&u.testBit j)∧om (ixz G.XImages G.ZImages o u i) (BB G (n+j))=(decide (j<i)&&o.testBit j)
 | 0,_,j,_=>by
  simp only [ixz,Ic]
  simp
 | i+1,hi,j,hj=>by
  obtain ⟨O,P⟩:=JL h o u i (by omega) j hj
  have H:BB G i=(xB G.XImages i,zB G.XImages i):=BC h.ok (by omega)
  have J:BB G (n+i)=(xB G.ZImages i,zB G.ZImages i):=Bw h.ok
  have xx:om (BB G i) (BB G j)=false:=by
   rcases Nat.lt_trichotomy i j with hij | hij | hij
   ·rw [CL,h.om j i hij (by omega)]; exact decide_eq_false (by omega)
   ·subst hij; exact KQ _
   ·rw [h.om i j hij (by omega)]; exact decide_eq_false (by omega)
  have Q:om (BB G (n+i)) (BB G (n+j))=false:=by
   rcases Nat.lt_trichotomy i j with hij | hij | hij
   ·rw [CL,h.om (n+j) (n+i) (by omega) (by omega)]; exact decide_eq_false (by omega)
   ·subst hij; exact KQ _
   ·rw [h.om (n+i) (n+j) (by omega) (by omega)]; exact decide_eq_false (by omega)
  have S:om (BB G (n+i)) (BB G j)=decide (i=j):=by
   rw [h.om (n+i) j (by omega) (by omega)]
   rw [Bool.eq_iff_iff]; simp only [decide_eq_true_eq]; omega
  have U:om (BB G i) (BB G (n+j))=decide (i=j):=by
   rw [CL,h.om (n+j) i (by omega) (by omega)]
   rw [Bool.eq_iff_iff]; simp only [decide_eq_true_eq]; omega
  rw [Kg,Er,Er,Er,Er,O,P,← H,← J]
  have D:∀ (b:Bool) (p r:Nat×Nat),om (if b=true then p else (0,0)) r=(b&&om p r):=fun b p r=>by
   cases b with
   | false=>exact Ic r
   | true=>rfl
  rw [D,D,D,D,xx,S,U,Q]
  have hd:decide (j<i+1)=(decide (j<i)||decide (i=j)):=by
   rw [Bool.eq_iff_iff]; simp only [decide_eq_true_eq,Bool.or_eq_true]; omega
  rw [hd]
  by_cases hij:i=j
  ·subst hij
   simp
  ·rw [decide_eq_false hij]
   simp

def omn (p r:Nat×Nat):Nat→Bool
 | 0=>false
 | i+1=>omn p r i ^^ omT i p r
theorem Sc (p r:Nat×Nat):omn p r 5=om p r:=by
 unfold om
 simp only [omn]
 cases omT 0 p r <;> cases omT 1 p r <;> cases omT 2 p r <;> cases omT 3 p r <;> cases omT 4 p r <;> rfl
theorem Lm {n:Nat} {p r:Nat×Nat} (o:p.1<2 ^ n) (u:p.2<2 ^ n):∀ d,omn p r (n+d)=omn p r n
 | 0=>rfl
 | d+1=>by
  have D:p.1.testBit (n+d)=false:=Nat.testBit_lt_two_pow (Nat.lt_of_lt_of_le o (Nat.pow_le_pow_right (by decide) (by omega)))
  have H:p.2.testBit (n+d)=false:=Nat.testBit_lt_two_pow (Nat.lt_of_lt_of_le u (Nat.pow_le_pow_right (by decide) (by omega)))
  rw [show n+(d+1)=n+d+1 by omega]
  simp only [omn]
  rw [Lm o u d]
  unfold omT
  rw [D,H]; simp
/-- Images commute as what they are images of. -/
theorem PA {G:Ae} {n:Nat} (h:Sy G n) {o u D H:Nat} (Q:o<2 ^ n) (S:u<2 ^ n):om (ixz G.XImages G.ZImages o u n) (ixz G.XImages G.ZImages D H n)=om (o,u) (D,H):=by
 have hn:=h.ok.hn
 have J:∀ i,i≤n→om (ixz G.XImages G.ZImages o u n) (ixz G.XImages G.ZImages D H i)=omn (o,u) (D,H) i:=by
  intro i
  induction i with
  | zero=>intro _; exact ID _
  | succ i ih =>
   intro hi
   have U:BB G i=(xB G.XImages i,zB G.XImages i):=BC h.ok (by omega)
   have V:BB G (n+i)=(xB G.ZImages i,zB G.ZImages i):=Bw h.ok
   obtain ⟨r1,O⟩:=JL h o u n (Nat.le_refl n) i (by omega)
   rw [decide_eq_true (show i<n by omega),Bool.true_and] at r1 O
   have P:∀ (b:Bool) (p r:Nat×Nat),om (if b=true then p else (0,0)) r=(b&&om p r):=fun b p r=>by
    cases b with
    | false=>exact Ic r
    | true=>rfl
   rw [CL,Kg,Er,Er,P,P,← U,← V,CL _ (ixz G.XImages G.ZImages o u n),CL (BB G i),CL (BB G (n+i)),ih (by omega),r1,O]
   simp only [omn,omT]
   cases omn (o,u) (D,H) i <;> cases o.testBit i <;> cases u.testBit i <;> cases D.testBit i <;> cases H.testBit i <;> rfl
 rw [J n (Nat.le_refl n),← Sc]
 have:=Lm (p:=(o,u)) (r:=(D,H)) Q S (5-n)
 rw [show n+(5-n)=5 by omega] at this
 exact this.symm
/-- A composition of such tableaus is one. -/
theorem Lg {s G r:Ae} {n:Nat} (o:Sy s n) (J:Sy G n) (H:A8 r n) (hb:∀ q,q<n→((xB r.XImages q,zB r.XImages q)=ixz G.XImages G.ZImages (xB s.XImages q) (zB s.XImages q) n)∧(xB r.ZImages q,zB r.ZImages q)=ixz G.XImages G.ZImages (xB s.ZImages q) (zB s.ZImages q) n):Sy r n:=by
 have u:∀ q,q<2*n→BB r q=ixz G.XImages G.ZImages (BB s q).1 (BB s q).2 n∧(BB s q).1<2 ^ n∧(BB s q).2<2 ^ n:=fun q U=>by
  rcases Nat.lt_or_ge q n with D | D
  ·rw [BC H D,BC o.ok D]
   exact ⟨(hb q D).1,(o.ok.lt q D).1⟩
  ·obtain ⟨k,rfl⟩:∃ k,q=n+k:=⟨q-n,by omega⟩
   rw [Bw H,Bw o.ok]
   exact ⟨(hb k (by omega)).2,(o.ok.lt k (by omega)).2⟩
 refine ⟨H,fun i j hji hi=>?_⟩
 obtain ⟨O,P,Q⟩:=u i hi
 obtain ⟨S,_,_⟩:=u j (by omega)
 rw [O,S,PA J P Q]
 exact o.om i j hji hi
theorem Nb {ax az bx bz:Nat}:sgS ax az bx bz % 2=(if om (ax,az) (bx,bz) then 1 else 0):=by
 have d:∀ a b c d:Bool,sgB a b c d % 2=if ((a&&d) ^^ (b&&c)) then 1 else 0:=by decide
 have t:∀ j,sg ax az bx bz j % 2=if omT j (ax,az) (bx,bz) then 1 else 0:=fun j=>d _ _ _ _
 have o:=t 0; have u:=t 1; have D:=t 2; have H:=t 3; have J:=t 4
 unfold sgS om
 generalize omT 0 (ax,az) (bx,bz)=o0 at *; generalize omT 1 (ax,az) (bx,bz)=o1 at *; generalize omT 2 (ax,az) (bx,bz)=o2 at *; generalize omT 3 (ax,az) (bx,bz)=o3 at *; generalize omT 4 (ax,az) (bx,bz)=o4 at *
 cases o0 <;> cases o1 <;> cases o2 <;> cases o3 <;> cases o4 <;> simp at*<;> omega

def Ev (t:Ae) (n:Nat):Prop:=∀ q,q<2*n→∀ p,(t.XImages++t.ZImages)[q]?=some p→p.Phase % 2=0
theorem Mz {a b:Aa} {ax az bx bz:Nat} (ha:As a ax az) (hb:As b bx bz) (u:a.Phase % 2=0) (D:b.Phase % 2=0):∃ r,AM a b=some r∧As r (ax ^^^ bx) (az ^^^ bz)∧r.Phase % 2=if om (ax,az) (bx,bz) then 1 else 0:=by
 refine ⟨_,GR ha hb,⟨rfl,rfl,x32 ha.hx hb.hx,x32 ha.hz hb.hz,by simp only; omega⟩,?_⟩
 have o:=Nb (ax:=ax) (az:=az) (bx:=bx) (bz:=bz)
 simp only
 rw [← o]
 omega
theorem L8 {G:Ae} {n:Nat} (h:Sy G n) (he:Ev G n) {p:Aa} {px pz:Nat} (W:As p px pz) (an:p.Phase % 2=0) {r:Aa} (hr:Bk G p=some r):r.Phase % 2=0:=by
 have hn:=h.ok.hn
 have ao:=W.ph
 have ap:∀ (d i:Nat) (ph:Int) (x z:Nat),i+d=n→x<32→z<32→(0≤ph∧ph≤3)→ph % 2=0→(x,z)=ixz G.XImages G.ZImages px pz i →
   ∃ (S:Int) (x1 z1:Nat),forN (CA p G) d i (ph,(x:Int),(z:Int))=some (S,(x1:Int),(z1:Int))∧S % 2=0:=by
  intro d
  induction d with
  | zero =>
   intro i ph x z _ _ _ _ h2 _
   exact ⟨ph,x,z,rfl,h2⟩
  | succ d ih =>
   intro i ph x z hi hx hz h1 h2 h4
   have H:i<n:=by omega
   obtain ⟨xi,gx,ox⟩:=h.ok.px i H
   obtain ⟨zi,gz,oz⟩:=h.ok.pz i H
   have hX:BB G i=(xB G.XImages i,zB G.XImages i):=BC h.ok H
   have hZ:BB G (n+i)=(xB G.ZImages i,zB G.ZImages i):=Bw h.ok
   have ex:xi.Phase % 2=0:=he i (by omega) xi (by rw [List.getElem?_append_left (by rw [h.ok.lx]; exact H)]; exact gx)
   have ez:zi.Phase % 2=0:=he (n+i) (by omega) zi (by rw [List.getElem?_append_right (by rw [h.ok.lx]; omega),h.ok.lx,Nat.add_sub_cancel_left]; exact gz)
   have av:=W.hx; have aw:=W.hz
   obtain ⟨l1,l2,l3⟩:=MW (px.testBit i) (pz.testBit i)
   obtain ⟨r1,r2⟩:=JL h px pz i (by omega) i H
   rw [decide_eq_false (Nat.lt_irrefl i),Bool.false_and] at r1 r2
   rw [← h4,hX] at r1
   rw [← h4,hZ] at r2
   have xz:om (xB G.XImages i,zB G.XImages i) (xB G.ZImages i,zB G.ZImages i)=true:=by
    rw [← hX,← hZ,CL,h.om (n+i) i (by omega) (by omega)]
    exact decide_eq_true (by omega)
   have U:∃ (a:Int) (J O:Nat),(((bif px.testBit i then ((getI G.XImages (i:Int)).bind fun y=>(AM (Aa.mk ph (x:Int) (z:Int)) y).bind fun o=>some (o.Phase,o.X,o.Z)) else (some (ph,(x:Int),(z:Int)))):Option (Int×Int×Int))=some (a,(J:Int),(O:Int)))∧J<32∧O<32∧(0≤a∧a≤3)∧a % 2=0∧om (J,O) (xB G.ZImages i,zB G.ZImages i)=px.testBit i∧(J,O)=if px.testBit i then (x ^^^ xB G.XImages i,z ^^^ zB G.XImages i) else (x,z):=by
    cases px.testBit i with
    | false=>exact ⟨ph,x,z,rfl,hx,hz,h1,h2,r2,rfl⟩
    | true =>
     obtain ⟨r,e1,e3,e4⟩:=Mz (a:=Aa.mk ph (x:Int) (z:Int)) (b:=xi) ⟨rfl,rfl,hx,hz,h1⟩ ox h2 ex
     rw [r1] at e4
     refine ⟨r.Phase,_,_,?_,e3.hx,e3.hz,e3.ph,e4,?_,rfl⟩
     ·rw [cond_true,getI_nat,gx,Option.bind_some,e1,Option.bind_some,e3.ex,e3.ez]
     ·have:=Er (x,z) (xB G.XImages i,zB G.XImages i) (xB G.ZImages i,zB G.ZImages i)
      rw [r2,xz] at this
      exact this
   obtain ⟨a,J,O,s1,ab,ac,ha,ae,ay,P⟩:=U
   have V:∃ (b:Int) (u D:Nat),(((bif pz.testBit i then ((getI G.ZImages (i:Int)).bind fun y=>(AM (Aa.mk a (J:Int) (O:Int)) y).bind fun o=>some (o.Phase,o.X,o.Z)) else (some (a,(J:Int),(O:Int)))):Option (Int×Int×Int))=some (b,(u:Int),(D:Int)))∧u<32∧D<32∧(0≤b∧b≤3)∧(b % 2=if px.testBit i&&pz.testBit i then 1 else 0)∧(u,D)=if pz.testBit i then (J ^^^ xB G.ZImages i,O ^^^ zB G.ZImages i) else (J,O):=by
    cases pz.testBit i with
    | false=>exact ⟨a,J,O,rfl,ab,ac,ha,by rw [Bool.and_false]; exact ae,rfl⟩
    | true =>
     obtain ⟨r,e1,e3,e4⟩:=Mz (a:=Aa.mk a (J:Int) (O:Int)) (b:=zi) ⟨rfl,rfl,ab,ac,ha⟩ oz ae ez
     rw [ay] at e4
     refine ⟨r.Phase,_,_,?_,e3.hx,e3.hz,e3.ph,by rw [Bool.and_true]; exact e4,rfl⟩
     rw [cond_true,getI_nat,gz,Option.bind_some,e1,Option.bind_some,e3.ex,e3.ez]
   obtain ⟨b,u,D,s3,af,ag,hb,Q,ah⟩:=V
   have ai:(u,D)=ixz G.XImages G.ZImages px pz (i+1):=by
    rw [ah]
    simp only [ixz,← h4]
    cases hq:px.testBit i with
    | false=>rw [hq] at P; cases P; rfl
    | true=>rw [hq] at P; cases P; rfl
   have hS:∃ c,CA p G i (ph,(x:Int),(z:Int))=some (c,(u:Int),(D:Int))∧(0≤c∧c≤3)∧c % 2=0:=by
    unfold CA
    simp only
    rw [GH av aw p W.ex W.ez (by omega)]
    unfold ltr Av
    simp only [Option.bind_some]
    rw [l1,l2,l3,s1]
    simp only [Option.bind_some]
    rw [s3]
    simp only [Option.bind_some]
    cases hq:(px.testBit i&&pz.testBit i) with
    | false =>
     rw [hq] at Q
     exact ⟨b,rfl,hb,Q⟩
    | true =>
     rw [hq] at Q
     refine ⟨(b+1) % 4,?_,by omega,by simp only [if_true] at Q; omega⟩
     rw [cond_true,wrap_i64 ⟨by omega,by omega⟩,Int.tmod_eq_emod_of_nonneg (by omega)]
     rfl
   obtain ⟨c,aA,aB,aE⟩:=hS
   simp only [forN,aA,Option.bind_some]
   exact ih (i+1) c u D (by omega) af ag aB aE ai
 obtain ⟨S,x1,z1,e1,e2⟩:=ap n 0 p.Phase 0 0 (by omega) (by decide) (by decide) ao an rfl
 unfold Bk at hr
 rw [h.ok.qb,Int.toNat_natCast,chk_t (by omega),show (0:Int)=((0:Nat):Int) from rfl,e1] at hr
 simp only [Option.bind_some] at hr
 rw [← Option.some.inj hr]
 exact e2

theorem Jc {s t r:Ae} {n:Nat} (O:A8 s n) (Q:A8 t n) (h:BO s t=some r):∀ q,q<n→(∃ a p,s.XImages[q]?=some a∧r.XImages[q]?=some p∧Bk t a=some p)∧∃ a p,s.ZImages[q]?=some a∧r.ZImages[q]?=some p∧Bk t a=some p:=by
 have hn:=O.hn
 let Good:List Aa→List Aa→Nat→Prop:=fun L S i=>L.length=i∧∀ q,q<i→∃ a p,S[q]?=some a∧L[q]?=some p∧Bk t a=some p
 have o:∀ (L S:List Aa) (i:Nat) (a p:Aa),Good L S i→S[i]?=some a→Bk t a=some p→Good (L++[p]) S (i+1):=fun L S i a p h ha hp=>by
  refine ⟨by rw [List.length_append,h.1]; rfl,fun q u=>?_⟩
  by_cases hqi:q<i
  ·obtain ⟨a',p',h0,H,J⟩:=h.2 q hqi
   exact ⟨a',p',h0,by rw [List.getElem?_append_left (by rw [h.1]; exact hqi)]; exact H,J⟩
  ·have:q=i:=by omega
   subst this
   exact ⟨a,p,ha,by rw [List.getElem?_append_right (by rw [h.1]; exact Nat.le_refl q),h.1]; simp,hp⟩
 have P:∀ (d i:Nat) (L M:List Aa),i+d=n→Good L s.XImages i→Good M s.ZImages i →
   ∃ L' M',forN (CQ s t) d i (L,M)=some (L',M')∧Good L' s.XImages n∧Good M' s.ZImages n:=by
  intro d
  induction d with
  | zero =>
   intro i L M hi H J
   have:i=n:=by omega
   subst this
   exact ⟨L,M,rfl,H,J⟩
  | succ d ih =>
   intro i L M hi H J
   have D:i<n:=by omega
   obtain ⟨px,U,ox⟩:=O.px i D
   obtain ⟨pz,V,oz⟩:=O.pz i D
   obtain ⟨⟨b1,b2⟩,b3,b4⟩:=O.lt i D
   obtain ⟨r1,e1,e2,e3⟩:=Fa Q ox b1
   obtain ⟨W,Z,f2,f3⟩:=Fa Q oz b3
   have aj:=H.1; have ak:=J.1
   have hS:CQ s t i (L,M)=some (L++[r1],M++[W]):=by
    unfold CQ
    simp only
    rw [getI_nat,U,Option.bind_some,e1,Option.bind_some,chk_t (by omega),getI_nat,V,Option.bind_some,Z,Option.bind_some,chk_t (by omega)]
   simp only [forN,hS,Option.bind_some]
   exact ih (i+1) _ _ (by omega) (o L _ i px r1 H U e1) (o M _ i pz W J V Z)
 obtain ⟨L,M,k1,k3,k4⟩:=P n 0 [] [] (by omega) ⟨rfl,fun q u=>absurd u (Nat.not_lt_zero q)⟩ ⟨rfl,fun q u=>absurd u (Nat.not_lt_zero q)⟩
 unfold BO at h
 rw [O.qb,Int.toNat_natCast,chk_t (by omega),k1] at h
 simp only [Option.bind_some] at h
 rw [← Option.some.inj h]
 exact fun q u=>⟨k3.2 q u,k4.2 q u⟩
theorem Lu {s G r:Ae} {n:Nat} (o:Sy s n) (V:Ev s n) (P:Sy G n) (W:Ev G n) (Q:A8 r n) (h:BO s G=some r):Ev r n:=fun q Z p u=>by
 have hi:=Jc o.ok P.ok h
 rcases Nat.lt_or_ge q n with D | D
 ·obtain ⟨a,p',H,S,U⟩:=(hi q D).1
  rw [List.getElem?_append_left (by rw [Q.lx]; exact D)] at u
  rw [S] at u
  rw [← Option.some.inj u]
  obtain ⟨a',J,O⟩:=o.ok.px q D
  rw [H] at J
  rw [← Option.some.inj J] at O
  exact L8 P W O (V q Z a (by rw [List.getElem?_append_left (by rw [o.ok.lx]; exact D)]; exact H)) U
 ·obtain ⟨k,rfl⟩:∃ k,q=n+k:=⟨q-n,by omega⟩
  obtain ⟨a,p',H,S,U⟩:=(hi k (by omega)).2
  rw [List.getElem?_append_right (by rw [Q.lx]; omega),Q.lx,Nat.add_sub_cancel_left] at u
  rw [S] at u
  rw [← Option.some.inj u]
  obtain ⟨a',J,O⟩:=o.ok.pz k (by omega)
  rw [H] at J
  rw [← Option.some.inj J] at O
  exact L8 P W O (V (n+k) Z a (by rw [List.getElem?_append_right (by rw [o.ok.lx]; omega),o.ok.lx,Nat.add_sub_cancel_left]; exact H)) U

theorem JJ {t:Ae} {n:Nat} (h:Sy t n) (he:Ev t n):AU t=some true:=by
 have hn:=h.ok.hn
 have J:=h.ok.lx; have hz:=h.ok.lz; have hq:=h.ok.qb
 have ab:(t.XImages++t.ZImages).length=2*n:=by rw [List.length_append]; omega
 have u:∀ q p,(t.XImages++t.ZImages)[q]?=some p→As p (BB t q).1 (BB t q).2∧imB n p=true:=fun q p Q=>by
  have ac:q<2*n:=by have:=(List.getElem?_eq_some_iff.1 Q).1; omega
  have ao:=he q ac p Q
  have D:∀ {x z:Nat},As p x z→x<2 ^ n→z<2 ^ n→imB n p=true:=fun {x z} o O h2=>by
   have:=o.ph; have:=o.ex; have:=o.ez
   unfold imB
   have ae:p.Phase=0∨p.Phase=2:=by omega
   rw [decide_eq_true (show (0≤p.Phase∧p.Phase≤3)∧(0≤p.X∧p.X≤((2 ^ n:Nat):Int)-1)∧(0≤p.Z∧p.Z≤((2 ^ n:Nat):Int)-1) by omega)]
   rcases ae with e | e <;> rw [e] <;> rfl
  rcases Nat.lt_or_ge q n with O | O
  ·obtain ⟨a,g,o⟩:=h.ok.px q O
   rw [List.getElem?_append_left (by rw [J]; exact O),g] at Q
   rw [Option.some.inj Q] at o
   rw [BC h.ok O]
   exact ⟨o,D o (h.ok.lt q O).1.1 (h.ok.lt q O).1.2⟩
  ·obtain ⟨k,rfl⟩:∃ k,q=n+k:=⟨q-n,by omega⟩
   obtain ⟨a,g,o⟩:=h.ok.pz k (by omega)
   rw [List.getElem?_append_right (by rw [J]; omega),J,Nat.add_sub_cancel_left,g] at Q
   rw [Option.some.inj Q] at o
   rw [Bw h.ok]
   exact ⟨o,D o (h.ok.lt k (by omega)).2.1 (h.ok.lt k (by omega)).2.2⟩
 have af:∀ p:Aa,Dh t.Qubits p=some (imB n p):=fun p=>by
  unfold Dh imB
  rw [hq,J2 hn]; rfl
 have H:∀ i,i<2*n→∃ p,(t.XImages++t.ZImages)[i]?=some p:=fun i hi=>⟨_,List.getElem?_eq_getElem (by omega)⟩
 have ag:D9 (t.XImages++t.ZImages) (fun P=>Cg P t.Qubits)=some false:=by
  have hf:∀ i x,(t.XImages++t.ZImages)[i]?=some x→DQ (t.XImages++t.ZImages) (fun P=>Cg P t.Qubits) i ()=some (bif (fun _=>false) x then .rt (i:Int) else .nx ()):=fun i x J=>by
   unfold DQ Cg
   simp only
   rw [getI_nat,J,Option.bind_some,af,Option.bind_some,Option.bind_some,(u i x J).2]
   rfl
  unfold D9 F7
  rw [chk_t (by omega)]
  rcases forX_any hf with ⟨S,U⟩ | ⟨S,i,_,U⟩
  ·rw [U]; rfl
  ·simp at S
 have ai:∀ i,i<2*n→forX (CI (t.XImages++t.ZImages) i t) i 0 ()=some (.inl ()):=fun i hi=>by
  have hf:∀ j y,(List.range i)[j]?=some y→CI (t.XImages++t.ZImages) i t j ()=some (bif (fun _=>false) y then .rt ((fun _=>Ex.rt false) j) else .nx ()):=fun j y hy=>by
   have hji:j<i:=by have:=(List.getElem?_eq_some_iff.1 hy).1; simpa using this
   obtain ⟨x,V⟩:=H i hi
   obtain ⟨z,W⟩:=H j (by omega)
   have o1:=(u i x V).1
   have o2:=(u j z W).1
   unfold CI
   rw [getI_nat,V,Option.bind_some,getI_nat,W,Option.bind_some,KF o1 o2,Option.bind_some,hq,wrap_i64 ⟨by omega,by omega⟩]
   have e:((i:Int)-(j:Int)==(n:Int))=decide (i=j+n):=by rw [Bool.eq_iff_iff]; simp only [beq_iff_eq,decide_eq_true_eq]; omega
   have ho:om ((BB t i).1,(BB t i).2) ((BB t j).1,(BB t j).2)=decide (i=j+n):=h.om i j hji hi
   rw [e,ho]
   cases decide (i=j+n) <;> rfl
  have:=forX_any hf
  rw [List.length_range] at this
  rcases this with ⟨S,U⟩ | ⟨S,k,_,U⟩
  ·exact U
  ·simp at S
 unfold AU
 rw [show A0 t.Qubits 1 5=some (decide (1≤t.Qubits)&&decide (t.Qubits≤5)) from rfl,hq,J,hz]
 simp only [Option.bind_some]
 rw [show ((!(decide (1≤(n:Int))&&decide ((n:Int)≤5))||(n:Int) != (n:Int))||(n:Int) != (n:Int))=false by simp; omega,cond_false,Ib (by omega)]
 simp only [Option.bind_some]
 rw [← hq,ag]
 simp only [Option.bind_some,cond_false]
 rw [chk_t (by omega),ab]
 have fI:∀ i y,(List.range (2*n))[i]?=some y→DU (t.XImages++t.ZImages) t i ()=some (bif (fun _=>false) y then .rt ((fun _=>false) i) else .nx ()):=fun i y hy=>by
  have hi:i<2*n:=by have:=(List.getElem?_eq_some_iff.1 hy).1; simpa using this
  unfold DU
  rw [chk_t (by omega),ai i hi]
  rfl
 have gJ:=forX_any fI
 rw [List.length_range] at gJ
 rcases gJ with ⟨i1,i2⟩ | ⟨i1,k,_,i2⟩
 ·rw [i2]; rfl
 ·simp at i1

def syB (n:Nat) (t:Ae):Bool:=(List.range (2*n)).all fun i=>(List.range i).all fun j=>om (BB t i) (BB t j)==decide (i=j+n)
def evB (t:Ae):Bool:=(t.XImages++t.ZImages).all fun p=>decide (p.Phase % 2=0)
def tgB (n:Nat) (o o':Option Ae):Bool:=match o with | some t=>decide (o'=some t)&&tbB n t&&syB n t&&evB t | none=>false
theorem GS {n:Nat} {o o':Option Ae} (h:tgB n o o'=true):∃ t,o=some t∧o'=some t∧Sy t n∧Ev t n:=by
 cases o with
 | none=>cases h
 | some t =>
  unfold tgB at h
  simp only [Bool.and_eq_true,decide_eq_true_eq] at h
  obtain ⟨⟨⟨H,J⟩,u⟩,D⟩:=h
  refine ⟨t,rfl,H,⟨Ny J,fun i j hji hi=>?_⟩,fun q P p O=>?_⟩
  ·unfold syB at u
   have:=List.all_eq_true.1 (List.all_eq_true.1 u i (List.mem_range.2 hi)) j (List.mem_range.2 hji)
   exact eq_of_beq this
  ·unfold evB at D
   have:=List.all_eq_true.1 D p (List.mem_of_getElem? O)
   simpa using this
theorem tg_1:∀ n:Fin 6,1≤n.val→∀ a:Fin 5,a.val<n.val→∀ k:Fin 7,1≤k.val→tgB n.val (BT (n.val:Int) (Ab.mk (k.val:Int) (a.val:Int) 0)) (AX (n.val:Int) (Ab.mk (k.val:Int) (a.val:Int) 0))=true:=by decide +kernel
theorem tg_2:∀ n:Fin 6,1≤n.val→∀ a:Fin 5,a.val<n.val→∀ b:Fin 5,b.val<n.val→a≠b→∀ k:Fin 12,9≤k.val→tgB n.val (BT (n.val:Int) (Ab.mk (k.val:Int) (a.val:Int) (b.val:Int))) (AX (n.val:Int) (Ab.mk (k.val:Int) (a.val:Int) (b.val:Int)))=true:=by decide +kernel
theorem NK:∀ n:Fin 6,1≤n.val→tgB n.val (BT (n.val:Int) (Ab.mk 12 0 0)) (AX (n.val:Int) (Ab.mk 12 0 0))=true:=by decide +kernel
theorem Rg:∀ n:Fin 6,1≤n.val→tgB n.val (Dz (n.val:Int)) (Bh (n.val:Int))=true:=by decide +kernel
/-- A gate that is no T gate. -/
theorem NB {n:Nat} (o:1≤n∧n≤5) {g:Ab} (h:gOk (n:Int) g=true) (D:g.Kind≠7) (H:g.Kind≠8):∃ t,BT (n:Int) g=some t∧AX (n:Int) g=some t∧Sy t n∧Ev t n:=by
 obtain ⟨k,A,B⟩:=g
 simp only at D H
 unfold gOk at h
 simp only at h
 by_cases h1:1≤k∧k≤8
 ·have e:(decide (1≤k)&&decide (k≤8))=true:=by simp [h1]
  rw [e,cond_true] at h
  simp at h
  obtain ⟨⟨J,O⟩,rfl⟩:=h
  obtain ⟨a,rfl⟩:∃ a:Nat,A=(a:Int):=⟨A.toNat,by omega⟩
  obtain ⟨k',rfl⟩:∃ k':Nat,k=(k':Int):=⟨k.toNat,by omega⟩
  exact GS (tg_1 ⟨n,by omega⟩ o.1 ⟨a,by omega⟩ (show a<n by omega) ⟨k',by omega⟩ (show 1≤k' by omega))
 ·have e:(decide (1≤k)&&decide (k≤8))=false:=by simp; omega
  rw [e,cond_false] at h
  by_cases h2:9≤k∧k≤11
  ·have e:(decide (9≤k)&&decide (k≤11))=true:=by simp [h2]
   rw [e,cond_true] at h
   simp at h
   obtain ⟨⟨⟨J,O⟩,P,Q⟩,u⟩:=h
   obtain ⟨a,rfl⟩:∃ a:Nat,A=(a:Int):=⟨A.toNat,by omega⟩
   obtain ⟨b,rfl⟩:∃ b:Nat,B=(b:Int):=⟨B.toNat,by omega⟩
   obtain ⟨k',rfl⟩:∃ k':Nat,k=(k':Int):=⟨k.toNat,by omega⟩
   exact GS (tg_2 ⟨n,by omega⟩ o.1 ⟨a,by omega⟩ (show a<n by omega) ⟨b,by omega⟩ (show b<n by omega) (fun e=>u (by have:=congrArg Fin.val e; simp only at this; omega)) ⟨k',by omega⟩ (show 9≤k' by omega))
  ·have e:(decide (9≤k)&&decide (k≤11))=false:=by simp; omega
   rw [e,cond_false] at h
   simp at h
   obtain ⟨⟨rfl,rfl⟩,rfl⟩:=h
   exact GS (NK ⟨n,by omega⟩ o.1)

def aZ (a b:Nat) (p:Nat×Nat):Nat×Nat:=(p.1,(p.2 ^^^ (if p.1.testBit b then 2 ^ a else 0)) ^^^ (if p.1.testBit a then 2 ^ b else 0))
def aW (a b:Nat) (p:Nat×Nat):Nat×Nat:=((p.1 ^^^ (if p.1.testBit a != p.1.testBit b then 2 ^ a else 0)) ^^^ (if p.1.testBit a != p.1.testBit b then 2 ^ b else 0),(p.2 ^^^ (if p.2.testBit a != p.2.testBit b then 2 ^ a else 0)) ^^^ (if p.2.testBit a != p.2.testBit b then 2 ^ b else 0))
def At (k a b:Nat) (p:Nat×Nat):Nat×Nat:=if k=6 then aS a p else if k=10 then aZ a b p else if k=11 then aW a b p else C7 k a b p
/-- Does a gate turn the sign? -/
def dB (k a b:Nat) (p:Nat×Nat):Bool :=
 if k=1 then p.1.testBit a&&p.2.testBit a else if k=2 then p.2.testBit a else if k=3 then p.1.testBit a ^^ p.2.testBit a else if k=4 then p.1.testBit a
 else if k=5 then p.1.testBit a&&p.2.testBit a else if k=6 then p.1.testBit a&&!p.2.testBit a
 else if k=9 then p.1.testBit a&&p.2.testBit b&&(p.1.testBit b==p.2.testBit a) else if k=10 then p.1.testBit a&&p.1.testBit b&&(p.2.testBit a != p.2.testBit b) else false
def dph (k a b:Nat) (p:Nat×Nat):Int:=if dB k a b p then 2 else 0
def An (k a b:Nat) (p:Aa):Aa:=Aa.mk ((p.Phase+dph k a b (p.X.toNat,p.Z.toNat)) % 4) (((At k a b (p.X.toNat,p.Z.toNat)).1:Nat):Int) (((At k a b (p.X.toNat,p.Z.toNat)).2:Nat):Int)
/-- The same on the bits of the gate's wires. -/
def bG (k:Nat) (x z u v:Bool):Bool×Bool×Bool×Bool :=
 if k=1 then (z,x,u,v) else if k=5∨k=6 then (x,z ^^ x,u,v) else if k=9 then (x,z ^^ v,u ^^ x,v) else if k=10 then (x,z ^^ u,u,v ^^ x) else if k=11 then (u,v,x,z) else (x,z,u,v)
def dG (k:Nat) (x z u v:Bool):Bool :=
 if k=1 then x&&z else if k=2 then z else if k=3 then x ^^ z else if k=4 then x else if k=5 then x&&z else if k=6 then x&&!z else if k=9 then x&&v&&(u==z) else if k=10 then x&&u&&(z != v) else false
def i2 (b:Bool):Int:=if b then 2 else 0
theorem bG_1:∀ k:Fin 7,∀ x z o u:Bool,(i2 (dG k.val x z false false)+i2 (dG k.val o u false false)+sgB (bG k.val x z false false).1 (bG k.val x z false false).2.1 (bG k.val o u false false).1 (bG k.val o u false false).2.1-sgB x z o u-i2 (dG k.val (x ^^ o) (z ^^ u) false false)) % 4=0:=by decide +kernel
theorem bG_2:∀ k:Fin 12,9≤k.val→∀ x z u v o D H J:Bool,(i2 (dG k.val x z u v)+i2 (dG k.val o D H J)+(sgB (bG k.val x z u v).1 (bG k.val x z u v).2.1 (bG k.val o D H J).1 (bG k.val o D H J).2.1-sgB x z o D)+(sgB (bG k.val x z u v).2.2.1 (bG k.val x z u v).2.2.2 (bG k.val o D H J).2.2.1 (bG k.val o D H J).2.2.2-sgB u v H J)-i2 (dG k.val (x ^^ o) (z ^^ D) (u ^^ H) (v ^^ J))) % 4=0:=by decide +kernel
theorem RG:∀ k:Fin 13,∀ x z u v o D H J:Bool,bG k.val (x ^^ o) (z ^^ D) (u ^^ H) (v ^^ J)=((bG k.val x z u v).1 ^^ (bG k.val o D H J).1,(bG k.val x z u v).2.1 ^^ (bG k.val o D H J).2.1,(bG k.val x z u v).2.2.1 ^^ (bG k.val o D H J).2.2.1,(bG k.val x z u v).2.2.2 ^^ (bG k.val o D H J).2.2.2):=by decide +kernel
theorem bG_0:∀ k:Fin 13,(9≤k.val→k.val=12)→∀ x z u v:Bool,bG k.val x z u v=((bG k.val x z false false).1,(bG k.val x z false false).2.1,u,v)∧dG k.val x z u v=dG k.val x z false false:=by decide +kernel
/-- What a gate does to each bit. -/
theorem AD {k a b:Nat} (D:9≤k→k≤11→a≠b) (p:Nat×Nat) (j:Nat) :
  let r:=bG k (p.1.testBit a) (p.2.testBit a) (p.1.testBit b) (p.2.testBit b)
  (At k a b p).1.testBit j=(if j=a then r.1 else if j=b∧9≤k∧k≤11 then r.2.2.1 else p.1.testBit j)∧(At k a b p).2.testBit j=(if j=a then r.2.1 else if j=b∧9≤k∧k≤11 then r.2.2.2 else p.2.testBit j):=by
 intro r
 have u:r=bG k (p.1.testBit a) (p.2.testBit a) (p.1.testBit b) (p.2.testBit b):=rfl
 clear_value r
 unfold bG at u
 unfold At C7 aZ aW aH aS aC
 by_cases h1:k=1
 ·subst h1; simp only [if_true,Nat.reduceEqDiff,if_false,false_or,Nat.reduceLeDiff,false_and,and_false] at u ⊢
  subst u
  simp only [Nat.testBit_xor,CH]
  by_cases hj:j=a
  ·subst hj
   simp only [if_true,decide_true,Bool.and_true]
   constructor <;> cases p.1.testBit j <;> cases p.2.testBit j <;> rfl
  ·simp [hj,Ne.symm hj]
 by_cases h6:k=6
 ·subst h6; simp only [if_true,Nat.reduceEqDiff,if_false,or_true,false_or,Nat.reduceLeDiff,false_and,and_false] at u ⊢
  subst u
  simp only [Nat.testBit_xor,CH]
  by_cases hj:j=a
  ·subst hj; simp
  ·simp [hj,Ne.symm hj]
 by_cases h5:k=5
 ·subst h5; simp only [if_true,Nat.reduceEqDiff,if_false,true_or,false_or,Nat.reduceLeDiff,false_and,and_false] at u ⊢
  subst u
  simp only [Nat.testBit_xor,CH]
  by_cases hj:j=a
  ·subst hj; simp
  ·simp [hj,Ne.symm hj]
 by_cases h9:k=9
 ·subst h9
  have o:=D (by decide) (by decide)
  simp only [if_true,Nat.reduceEqDiff,if_false,false_or,Nat.reduceLeDiff,and_true] at u ⊢
  subst u
  simp only [Nat.testBit_xor,CH]
  by_cases hj:j=a
  ·subst hj; simp [Ne.symm o]
  ·by_cases hj2:j=b
   ·subst hj2; simp [o,Ne.symm o]
   ·simp [hj,hj2,Ne.symm hj,Ne.symm hj2]
 by_cases h10:k=10
 ·subst h10
  have o:=D (by decide) (by decide)
  simp only [if_true,Nat.reduceEqDiff,if_false,false_or,Nat.reduceLeDiff,and_true] at u ⊢
  subst u
  simp only [Nat.testBit_xor,CH]
  by_cases hj:j=a
  ·subst hj; simp [Ne.symm o]
  ·by_cases hj2:j=b
   ·subst hj2; simp [o,Ne.symm o]
   ·simp [hj,hj2,Ne.symm hj,Ne.symm hj2]
 by_cases h11:k=11
 ·subst h11
  have o:=D (by decide) (by decide)
  simp only [if_true,Nat.reduceEqDiff,if_false,false_or,Nat.reduceLeDiff,and_true] at u ⊢
  subst u
  simp only [Nat.testBit_xor,CH]
  by_cases hj:j=a
  ·subst hj
   simp only [if_true,decide_true,Bool.and_true,Ne.symm o,decide_false,Bool.and_false,Bool.xor_false]
   constructor <;> cases p.1.testBit j <;> cases p.1.testBit b <;> cases p.2.testBit j <;> cases p.2.testBit b <;> rfl
  ·by_cases hj2:j=b
   ·subst hj2
    simp only [if_true,decide_true,Bool.and_true,Ne.symm hj,hj,if_false,decide_false,Bool.and_false,Bool.xor_false]
    constructor <;> cases p.1.testBit j <;> cases p.1.testBit a <;> cases p.2.testBit j <;> cases p.2.testBit a <;> rfl
   ·simp [hj,hj2,Ne.symm hj,Ne.symm hj2]
 simp only [h1,h5,h6,h9,h10,h11,if_false,or_self] at u ⊢
 subst u
 have:¬ (9≤k∧k≤11):=by omega
 by_cases hj:j=a
 ·subst hj; simp
 ·simp [hj,this]
theorem QS (k a b:Nat) (p:Nat×Nat):dB k a b p=dG k (p.1.testBit a) (p.2.testBit a) (p.1.testBit b) (p.2.testBit b):=rfl
theorem sum1 {f g:Nat→Int} {a:Nat} (ha:a<5) (h:∀ j,j<5→j≠a→f j=g j):f 0+f 1+f 2+f 3+f 4-(g 0+g 1+g 2+g 3+g 4)=f a-g a:=by
 have o:=h 0 (by decide); have u:=h 1 (by decide); have D:=h 2 (by decide); have H:=h 3 (by decide); have J:=h 4 (by decide)
 have:a=0∨a=1∨a=2∨a=3∨a=4:=by omega
 rcases this with rfl | rfl | rfl | rfl | rfl <;> omega
theorem sum2 {f g:Nat→Int} {a b:Nat} (ha:a<5) (hb:b<5) (o:a≠b) (h:∀ j,j<5→j≠a→j≠b→f j=g j):f 0+f 1+f 2+f 3+f 4-(g 0+g 1+g 2+g 3+g 4)=(f a-g a)+(f b-g b):=by
 have u:=h 0 (by decide); have D:=h 1 (by decide); have H:=h 2 (by decide); have J:=h 3 (by decide); have O:=h 4 (by decide)
 have:a=0∨a=1∨a=2∨a=3∨a=4:=by omega
 have:b=0∨b=1∨b=2∨b=3∨b=4:=by omega
 rcases ‹a=0∨_› with rfl | rfl | rfl | rfl | rfl <;> rcases ‹b=0∨_› with rfl | rfl | rfl | rfl | rfl <;> omega
/-- A Clifford gate on n wires. -/
def cK (n k a b:Nat):Prop:=(1≤k∧k≤6∧a<n∧b=0)∨(9≤k∧k≤11∧a<n∧b<n∧a≠b)∨(k=12∧a=0∧b=0)
theorem No {n k a b:Nat} (D:1≤n∧n≤5) (hk:cK n k a b) (p q:Nat×Nat):At k a b (p.1 ^^^ q.1,p.2 ^^^ q.2)=((At k a b p).1 ^^^ (At k a b q).1,(At k a b p).2 ^^^ (At k a b q).2):=by
 have o:9≤k→k≤11→a≠b:=fun H J=>by rcases hk with h | h | h <;> omega
 have u:=RG ⟨k,by rcases hk with h | h | h <;> omega⟩ (p.1.testBit a) (p.2.testBit a) (p.1.testBit b) (p.2.testBit b) (q.1.testBit a) (q.2.testBit a) (q.1.testBit b) (q.2.testBit b)
 simp only at u
 refine Prod.ext (Nat.eq_of_testBit_eq fun j=>?_) (Nat.eq_of_testBit_eq fun j=>?_)
 ·simp only [Nat.testBit_xor]
  rw [(AD o _ j).1,(AD o p j).1,(AD o q j).1]
  simp only [Nat.testBit_xor,u]
  repeat' split
  all_goals rfl
 ·simp only [Nat.testBit_xor]
  rw [(AD o _ j).2,(AD o p j).2,(AD o q j).2]
  simp only [Nat.testBit_xor,u]
  repeat' split
  all_goals rfl
/-- Signs go along with products. -/
theorem RK {n k a b:Nat} (hn:1≤n∧n≤5) (hk:cK n k a b) (p q:Nat×Nat):(dph k a b p+dph k a b q+sgS (At k a b p).1 (At k a b p).2 (At k a b q).1 (At k a b q).2-sgS p.1 p.2 q.1 q.2-dph k a b (p.1 ^^^ q.1,p.2 ^^^ q.2)) % 4=0:=by
 have o:9≤k→k≤11→a≠b:=fun h1 D=>by rcases hk with h | h | h <;> omega
 have e:∀ r,dph k a b r=i2 (dG k (r.1.testBit a) (r.2.testBit a) (r.1.testBit b) (r.2.testBit b)):=fun r=>by unfold dph i2; rw [QS]
 rw [e,e,e]
 simp only [Nat.testBit_xor]
 have e2:∀ p q:Nat×Nat,sgS p.1 p.2 q.1 q.2=sg p.1 p.2 q.1 q.2 0+sg p.1 p.2 q.1 q.2 1+sg p.1 p.2 q.1 q.2 2+sg p.1 p.2 q.1 q.2 3+sg p.1 p.2 q.1 q.2 4:=fun _ _=>rfl
 rw [e2 (At k a b p) (At k a b q),e2 p q]
 by_cases D:9≤k∧k≤11
 ·have J:=o D.1 D.2
  have O:=sum2 (f:=sg (At k a b p).1 (At k a b p).2 (At k a b q).1 (At k a b q).2) (g:=sg p.1 p.2 q.1 q.2) (a:=a) (b:=b) (by rcases hk with h | h | h <;> omega) (by rcases hk with h | h | h <;> omega) J (fun j _ P U=>by
   unfold sg
   rw [(AD o p j).1,(AD o p j).2,(AD o q j).1,(AD o q j).2]
   simp [P,U])
  have hb:=bG_2 ⟨k,by omega⟩ D.1 (p.1.testBit a) (p.2.testBit a) (p.1.testBit b) (p.2.testBit b) (q.1.testBit a) (q.2.testBit a) (q.1.testBit b) (q.2.testBit b)
  simp only at hb
  have Q:sg (At k a b p).1 (At k a b p).2 (At k a b q).1 (At k a b q).2 a=sgB (bG k (p.1.testBit a) (p.2.testBit a) (p.1.testBit b) (p.2.testBit b)).1 (bG k (p.1.testBit a) (p.2.testBit a) (p.1.testBit b) (p.2.testBit b)).2.1 (bG k (q.1.testBit a) (q.2.testBit a) (q.1.testBit b) (q.2.testBit b)).1 (bG k (q.1.testBit a) (q.2.testBit a) (q.1.testBit b) (q.2.testBit b)).2.1:=by
   unfold sg
   rw [(AD o p a).1,(AD o p a).2,(AD o q a).1,(AD o q a).2]
   simp
  have V:sg (At k a b p).1 (At k a b p).2 (At k a b q).1 (At k a b q).2 b=sgB (bG k (p.1.testBit a) (p.2.testBit a) (p.1.testBit b) (p.2.testBit b)).2.2.1 (bG k (p.1.testBit a) (p.2.testBit a) (p.1.testBit b) (p.2.testBit b)).2.2.2 (bG k (q.1.testBit a) (q.2.testBit a) (q.1.testBit b) (q.2.testBit b)).2.2.1 (bG k (q.1.testBit a) (q.2.testBit a) (q.1.testBit b) (q.2.testBit b)).2.2.2:=by
   unfold sg
   rw [(AD o p b).1,(AD o p b).2,(AD o q b).1,(AD o q b).2]
   simp [Ne.symm J,D]
  have S:sg p.1 p.2 q.1 q.2 a=sgB (p.1.testBit a) (p.2.testBit a) (q.1.testBit a) (q.2.testBit a):=rfl
  have gb:sg p.1 p.2 q.1 q.2 b=sgB (p.1.testBit b) (p.2.testBit b) (q.1.testBit b) (q.2.testBit b):=rfl
  rw [Q,V,S,gb] at O
  omega
 ·have H:=fun x z u v=>(bG_0 ⟨k,by rcases hk with h | h | h <;> omega⟩ (fun h=>by simp only at h ⊢; rcases hk with h | h | h <;> omega) x z u v)
  simp only at H
  rw [(H _ _ _ _).2,(H (q.1.testBit a) _ _ _).2,(H (p.1.testBit a ^^ q.1.testBit a) _ _ _).2]
  have ha:a<5:=by rcases hk with h | h | h <;> omega
  have O:=sum1 (f:=sg (At k a b p).1 (At k a b p).2 (At k a b q).1 (At k a b q).2) (g:=sg p.1 p.2 q.1 q.2) (a:=a) ha (fun j _ P=>by
   unfold sg
   rw [(AD o p j).1,(AD o p j).2,(AD o q j).1,(AD o q j).2]
   simp [P,D])
  have Q:sg (At k a b p).1 (At k a b p).2 (At k a b q).1 (At k a b q).2 a=sgB (bG k (p.1.testBit a) (p.2.testBit a) false false).1 (bG k (p.1.testBit a) (p.2.testBit a) false false).2.1 (bG k (q.1.testBit a) (q.2.testBit a) false false).1 (bG k (q.1.testBit a) (q.2.testBit a) false false).2.1:=by
   unfold sg
   rw [(AD o p a).1,(AD o p a).2,(AD o q a).1,(AD o q a).2]
   simp only [if_true]
   rw [(H (p.1.testBit a) (p.2.testBit a) _ _).1,(H (q.1.testBit a) (q.2.testBit a) _ _).1]
  have S:sg p.1 p.2 q.1 q.2 a=sgB (p.1.testBit a) (p.2.testBit a) (q.1.testBit a) (q.2.testBit a):=rfl
  rw [Q,S] at O
  by_cases h12:k=12
  ·subst h12
   have W:∀ x z,dG 12 x z false false=false:=by decide
   have Z:∀ x z,bG 12 x z false false=(x,z,false,false):=by decide
   simp only [W,Z,i2] at O ⊢
   simp only [Bool.false_eq_true,if_false]
   omega
  ·have hb:=bG_1 ⟨k,by rcases hk with h | h | h <;> omega⟩ (p.1.testBit a) (p.2.testBit a) (q.1.testBit a) (q.2.testBit a)
   simp only at hb
   omega
theorem BL {c:Prop} [Decidable c] {a n:Nat} (h:a<n):(if c then 2 ^ a else 0:Nat)<2 ^ n:=by
 split
 ·exact Nat.pow_lt_pow_right (by decide) h
 ·exact Nat.two_pow_pos n
theorem HS {k a b n:Nat} (ha:a<n) (hb:b<n) {p:Nat×Nat} (u:p.1<2 ^ n) (D:p.2<2 ^ n):(At k a b p).1<2 ^ n∧(At k a b p).2<2 ^ n:=by
 have o:=fun (x y:Nat) (H:x<2 ^ n) (J:y<2 ^ n)=>Nat.xor_lt_two_pow H J
 unfold At C7
 split
 ·exact ⟨u,o _ _ D (BL ha)⟩
 split
 ·exact ⟨u,o _ _ (o _ _ D (BL ha)) (BL hb)⟩
 split
 ·exact ⟨o _ _ (o _ _ u (BL ha)) (BL hb),o _ _ (o _ _ D (BL ha)) (BL hb)⟩
 split
 ·exact ⟨o _ _ u (BL ha),o _ _ D (BL ha)⟩
 split
 ·exact ⟨u,o _ _ D (BL ha)⟩
 split
 ·exact ⟨o _ _ u (BL hb),o _ _ D (BL ha)⟩
 ·exact ⟨u,D⟩
/-- A gate's image of a product is the product of its images. -/
theorem JW {n k a b:Nat} (P:1≤n∧n≤5) (hk:cK n k a b) {p q:Aa} {o u D H:Nat} (J:As p o u) (O:As q D H):Bl (An k a b p) (An k a b q)=some (An k a b (Aa.mk ((p.Phase+q.Phase+sgS o u D H) % 4) ((o ^^^ D:Nat):Int) ((u ^^^ H:Nat):Int))):=by
 have ha:a<5:=by rcases hk with h | h | h <;> omega
 have hb:b<5:=by rcases hk with h | h | h <;> omega
 have h1:=J.ph; have h2:=O.ph
 obtain ⟨Q,S⟩:=HS (k:=k) (n:=5) ha hb (p:=(o,u)) J.hx J.hz
 obtain ⟨U,V⟩:=HS (k:=k) (n:=5) ha hb (p:=(D,H)) O.hx O.hz
 have W:(p.X.toNat,p.Z.toNat)=(o,u):=by rw [J.ex,J.ez]; rfl
 have eq:(q.X.toNat,q.Z.toNat)=(D,H):=by rw [O.ex,O.ez]; rfl
 have hd:=RK P hk (o,u) (D,H)
 have hx:=No P hk (o,u) (D,H)
 unfold An
 rw [W,eq,J6 ⟨rfl,rfl,Q,S,by simp only; omega⟩ ⟨rfl,rfl,U,V,by simp only; omega⟩]
 simp only [Int.toNat_natCast] at hd hx ⊢
 rw [hx]
 congr 2
 omega
theorem sgx0:∀ i:Fin 5,∀ x z:Fin 32,sgS (x.val % 2 ^ i.val) (z.val % 2 ^ i.val) (2 ^ i.val) 0=0:=by decide +kernel
theorem sgz0:∀ i:Fin 5,∀ x z:Fin 32,sgS (x.val % 2 ^ i.val) (z.val % 2 ^ i.val) 0 (2 ^ i.val)=0∧sgS ((x.val % 2 ^ i.val) ^^^ 2 ^ i.val) (z.val % 2 ^ i.val) 0 (2 ^ i.val)=3:=by decide +kernel
theorem Lk:∀ i:Fin 5,∀ x:Fin 32,x.val % 2 ^ (i.val+1)=if x.val.testBit i.val then (x.val % 2 ^ i.val) ^^^ 2 ^ i.val else x.val % 2 ^ i.val:=by decide +kernel
def cmP (p:Aa):Int×Int×Int:=(p.Phase,p.X,p.Z)
theorem Of (k a b:Nat) (o:Int):An k a b (Aa.mk (o % 4) 0 0)=Aa.mk (o % 4) 0 0:=by
 have u:At k a b (0,0)=(0,0):=by
  unfold At C7 aZ aW aH aS aC
  simp
 have D:dph k a b (0,0)=0:=by
  unfold dph dB
  simp
 unfold An
 simp only [Int.toNat_zero]
 rw [u,D]
 simp
/-- What the program's image under a gate's tableau is. -/
theorem N6 {t:Ae} {n k a b:Nat} (ht:A8 t n) (hk:cK n k a b) (hr:∀ q,q<n→t.XImages[q]?=some (An k a b (Aa.mk 0 ((2 ^ q:Nat):Int) 0))∧t.ZImages[q]?=some (An k a b (Aa.mk 0 0 ((2 ^ q:Nat):Int)))) {p:Aa} {o u:Nat} (P:As p o u) (hx:o<2 ^ n) (hz:u<2 ^ n):BY t p=some (An k a b p):=by
 have hn:=ht.hn
 have ap:=P.ph
 have D:=P.hx; have Q:=P.hz
 generalize hT:(fun i:Nat=>Aa.mk ((p.Phase+yr (o &&& u) i) % 4) ((o % 2 ^ i:Nat):Int) ((u % 2 ^ i:Nat):Int))=T
 have H:∀ i,T i=Aa.mk ((p.Phase+yr (o &&& u) i) % 4) ((o % 2 ^ i:Nat):Int) ((u % 2 ^ i:Nat):Int):=fun i=>by rw [← hT]
 have pw:∀ i,i<n→2 ^ i<32:=fun i hi=>Nat.lt_of_lt_of_le (Nat.pow_lt_pow_right (by decide) hi) (Nat.pow_le_pow_right (n:=2) (by decide) hn.2)
 have W:∀ i,i<n→BI p t i (cmP (An k a b (T i)))=some (cmP (An k a b (T (i+1)))):=fun i hi=>by
  have O:i<5:=by omega
  have aa:=pw i hi
  obtain ⟨rx,rz⟩:=hr i hi
  have S:=Lk ⟨i,O⟩ ⟨o,D⟩
  have mz:=Lk ⟨i,O⟩ ⟨u,Q⟩
  have sx:=sgx0 ⟨i,O⟩ ⟨o,D⟩ ⟨u,Q⟩
  have sz:=sgz0 ⟨i,O⟩ ⟨o,D⟩ ⟨u,Q⟩
  simp only at S mz sx sz
  have lx:o % 2 ^ i<32:=Nat.lt_of_le_of_lt (Nat.mod_le _ _) D
  have lz:u % 2 ^ i<32:=Nat.lt_of_le_of_lt (Nat.mod_le _ _) Q
  have hy:yr (o &&& u) i=(if o.testBit i&&u.testBit i then 1 else 0)+yr (o &&& u) (i+1):=by
   rw [JY _ O]; unfold Av; rw [Nat.testBit_and]
  have oX:As (Aa.mk 0 ((2 ^ i:Nat):Int) 0) (2 ^ i) 0:=⟨rfl,rfl,aa,by decide,show (0:Int)≤0∧(0:Int)≤3 by decide⟩
  have oZ:As (Aa.mk 0 0 ((2 ^ i:Nat):Int)) 0 (2 ^ i):=⟨rfl,rfl,by decide,aa,show (0:Int)≤0∧(0:Int)≤3 by decide⟩
  have V:As (T i) (o % 2 ^ i) (u % 2 ^ i):=by rw [H]; exact ⟨rfl,rfl,lx,lz,by simp only; omega⟩
  -- the first half
  obtain ⟨U,s1,oU,eU,eP⟩:∃ U,(((bif o.testBit i then ((getI t.XImages (i:Int)).bind fun y=>(Bl (Aa.mk (An k a b (T i)).Phase (An k a b (T i)).X (An k a b (T i)).Z) y).bind fun J=>some (J.Phase,J.X,J.Z)) else (some ((An k a b (T i)).Phase,(An k a b (T i)).X,(An k a b (T i)).Z))):Option (Int×Int×Int))=some (cmP (An k a b U)))∧As U (o % 2 ^ (i+1)) (u % 2 ^ i)∧U=Aa.mk (T i).Phase ((o % 2 ^ (i+1):Nat):Int) ((u % 2 ^ i:Nat):Int)∧0≤(T i).Phase∧(T i).Phase≤3:=by
   cases hb:o.testBit i with
   | false =>
    rw [hb] at S
    refine ⟨T i,rfl,?_,?_,V.ph⟩
    ·rw [S]; exact V
    ·rw [S,H]; rfl
   | true =>
    rw [hb] at S
    refine ⟨_,?_,?_,rfl,V.ph⟩
    ·rw [cond_true,getI_nat,rx,Option.bind_some,show Aa.mk (An k a b (T i)).Phase (An k a b (T i)).X (An k a b (T i)).Z=An k a b (T i) from rfl,JW hn hk V oX,Option.bind_some,sx]
     rw [show ((T i).Phase+(Aa.mk 0 ((2 ^ i:Nat):Int) 0).Phase+0) % 4=(T i).Phase by have:=V.ph; simp only; omega,show u % 2 ^ i ^^^ 0=u % 2 ^ i from Nat.xor_zero _,S]
     rfl
    ·have:=V.ph
     exact ⟨rfl,rfl,Nat.lt_of_le_of_lt (Nat.mod_le _ _) D,lz,this⟩
  have s2:((bif u.testBit i then ((getI t.ZImages (i:Int)).bind fun y=>(Bl (Aa.mk (An k a b U).Phase (An k a b U).X (An k a b U).Z) y).bind fun J=>some (J.Phase,J.X,J.Z)) else (some ((An k a b U).Phase,(An k a b U).X,(An k a b U).Z))):Option (Int×Int×Int))=some (cmP (An k a b (T (i+1)))):=by
   have am:=V.ph
   have eT:(T i).Phase=(p.Phase+yr (o &&& u) i) % 4:=by rw [H]
   cases hb:u.testBit i with
   | false =>
    rw [hb] at mz hy
    rw [show T (i+1)=U by
     rw [eU,H,eT,mz,hy]
     simp]
    rfl
   | true =>
    rw [hb] at mz hy
    rw [cond_true,getI_nat,rz,Option.bind_some,show Aa.mk (An k a b U).Phase (An k a b U).X (An k a b U).Z=An k a b U from rfl,JW hn hk oU oZ,Option.bind_some]
    have hs:sgS (o % 2 ^ (i+1)) (u % 2 ^ i) 0 (2 ^ i)=if o.testBit i then 3 else 0:=by
     rw [S]
     cases o.testBit i with
     | false=>exact sz.1
     | true=>exact sz.2
    rw [hs,show o % 2 ^ (i+1) ^^^ 0=o % 2 ^ (i+1) from Nat.xor_zero _]
    have hU:U.Phase=(p.Phase+yr (o &&& u) i) % 4:=by rw [eU,← eT]
    rw [show Aa.mk ((U.Phase+(Aa.mk 0 0 ((2 ^ i:Nat):Int)).Phase+if o.testBit i then 3 else 0) % 4) ((o % 2 ^ (i+1):Nat):Int) ((u % 2 ^ i ^^^ 2 ^ i:Nat):Int)=T (i+1) by
     rw [H,mz,hU,hy]
     congr 1
     simp only [Bool.and_true]
     cases o.testBit i <;> simp <;> omega]
    rfl
  unfold BI cmP
  simp only
  rw [chk_t (by omega),P.ex,P.ez,Fo (by omega) (by omega),Fo (by omega) (by omega),s1]
  simp only [Option.bind_some]
  rw [chk_t (by omega)]
  unfold cmP at s2 ⊢
  simp only
  rw [s2]
  rfl
 have ag:∀ (d i:Nat),i+d=n→forN (BI p t) d i (cmP (An k a b (T i)))=some (cmP (An k a b (T n))):=by
  intro d
  induction d with
  | zero =>
   intro i hi
   rw [show i=n by omega]; rfl
  | succ d ih =>
   intro i hi
   simp only [forN,W i (by omega),Option.bind_some]
   exact ih (i+1) (by omega)
 have aI:=DD (o &&& u)
 have ah:Int.tmod (IntKind.i64.wrap (p.Phase+pc5 (o &&& u))) 4=(p.Phase+pc5 (o &&& u)) % 4:=by
  rw [wrap_i64 ⟨by omega,by omega⟩,Int.tmod_eq_emod_of_nonneg (by omega)]
 have h0:cmP (An k a b (T 0))=((p.Phase+pc5 (o &&& u)) % 4,(0:Int),(0:Int)):=by
  rw [H,MZ,show o % 2 ^ 0=0 from Nat.mod_one _,show u % 2 ^ 0=0 from Nat.mod_one _]
  rw [show ((0:Nat):Int)=0 from rfl,Of]; rfl
 have hN:T n=p:=by
  rw [H,KB (Nat.lt_of_le_of_lt Nat.and_le_left hx),Nat.mod_eq_of_lt hx,Nat.mod_eq_of_lt hz,← P.ex,← P.ez,show (p.Phase+0) % 4=p.Phase by omega]
 have ac:=ag n 0 (by omega)
 rw [h0,hN] at ac
 unfold BY
 rw [P.ex,P.ez,BP (by omega) (by omega),Ci (by have:=n32 (b:=u) D; omega),G6 ⟨o &&& u,n32 D⟩,Option.bind_some,ht.qb,Int.toNat_natCast,chk_t (by omega),ah,ac]; rfl

def rwT (t:Ae) (r:Nat):Aa:=(t.XImages++t.ZImages).getD r paD
def bbP (p:Aa):Nat×Nat:=(p.X.toNat,p.Z.toNat)
theorem ES (t:Ae) (r:Nat):BB t r=bbP (rwT t r):=rfl
def grB (n k a b:Nat) (o:Option Ae):Bool:=match o with
 | some t=>(List.range n).all fun q=>decide (t.XImages[q]?=some (An k a b (Aa.mk 0 ((2 ^ q:Nat):Int) 0)))&&decide (t.ZImages[q]?=some (An k a b (Aa.mk 0 0 ((2 ^ q:Nat):Int))))
 | none=>false
theorem gr_1:∀ n:Fin 6,1≤n.val→∀ a:Fin 5,a.val<n.val→∀ k:Fin 7,1≤k.val→grB n.val k.val a.val 0 (AX (n.val:Int) (Ab.mk (k.val:Int) (a.val:Int) 0))=true:=by decide +kernel
theorem gr_2:∀ n:Fin 6,1≤n.val→∀ a:Fin 5,a.val<n.val→∀ b:Fin 5,b.val<n.val→a≠b→∀ k:Fin 12,9≤k.val→grB n.val k.val a.val b.val (AX (n.val:Int) (Ab.mk (k.val:Int) (a.val:Int) (b.val:Int)))=true:=by decide +kernel
theorem QY:∀ n:Fin 6,1≤n.val→grB n.val 12 0 0 (AX (n.val:Int) (Ab.mk 12 0 0))=true:=by decide +kernel
theorem Nm:∀ n:Fin 6,1≤n.val→grB n.val 12 0 0 (Bh (n.val:Int))=true:=by decide +kernel
theorem I7 {n k a b:Nat} {t:Ae} (h:grB n k a b (some t)=true) {q:Nat} (o:q<n):t.XImages[q]?=some (An k a b (Aa.mk 0 ((2 ^ q:Nat):Int) 0))∧t.ZImages[q]?=some (An k a b (Aa.mk 0 0 ((2 ^ q:Nat):Int))):=by
 have:=List.all_eq_true.1 h q (List.mem_range.2 o)
 simpa only [Bool.and_eq_true,decide_eq_true_eq] using this
theorem HF {n k a b:Nat} (h:cK n k a b):gOk (n:Int) (Ab.mk (k:Int) (a:Int) (b:Int))=true:=by
 unfold gOk
 simp only
 rcases h with ⟨o,u,D,rfl⟩ | ⟨o,u,D,H,J⟩ | ⟨rfl,rfl,rfl⟩
 ·rw [show (decide (1≤(k:Int))&&decide ((k:Int)≤8))=true by simp; omega,cond_true]
  simp; omega
 ·rw [show (decide (1≤(k:Int))&&decide ((k:Int)≤8))=false by simp; omega,show (decide (9≤(k:Int))&&decide ((k:Int)≤11))=true by simp; omega,cond_true,cond_false]
  simp; omega
 ·rfl
theorem NH {n k a b:Nat} (o:1≤n∧n≤5) (hk:cK n k a b):∃ G,BT (n:Int) (Ab.mk (k:Int) (a:Int) (b:Int))=some G∧AX (n:Int) (Ab.mk (k:Int) (a:Int) (b:Int))=some G∧Sy G n∧Ev G n ∧
  ∀ q,q<n→G.XImages[q]?=some (An k a b (Aa.mk 0 ((2 ^ q:Nat):Int) 0))∧G.ZImages[q]?=some (An k a b (Aa.mk 0 0 ((2 ^ q:Nat):Int))):=by
 obtain ⟨G,J,H,O,P⟩:=NB o (HF hk) (by simp only; rcases hk with h | h | h <;> omega) (by simp only; rcases hk with h | h | h <;> omega)
 refine ⟨G,J,H,O,P,fun q Q=>?_⟩
 have S:grB n k a b (some G)=true:=by
  rw [← H]
  rcases hk with ⟨u,U,D,rfl⟩ | ⟨u,U,D,V,W⟩ | ⟨rfl,rfl,rfl⟩
  ·exact gr_1 ⟨n,by omega⟩ o.1 ⟨a,by omega⟩ D ⟨k,by omega⟩ u
  ·exact gr_2 ⟨n,by omega⟩ o.1 ⟨a,by omega⟩ D ⟨b,by omega⟩ V (fun e=>W (by simpa using e)) ⟨k,by omega⟩ u
  ·exact QY ⟨n,by omega⟩ o.1
 exact I7 S Q
theorem row_x {t:Ae} {n:Nat} (h:A8 t n) {q:Nat} (o:q<n) {p:Aa} (u:t.XImages[q]?=some p):rwT t q=p:=by
 unfold rwT
 rw [List.getD_eq_getElem?_getD,List.getElem?_append_left (by rw [h.lx]; exact o),u]; rfl
theorem row_z {t:Ae} {n:Nat} (h:A8 t n) {q:Nat} {p:Aa} (o:t.ZImages[q]?=some p):rwT t (n+q)=p:=by
 unfold rwT
 rw [List.getD_eq_getElem?_getD,List.getElem?_append_right (by rw [h.lx]; omega),h.lx,Nat.add_sub_cancel_left,o]; rfl
theorem row_ok {t:Ae} {n:Nat} (h:A8 t n) {r:Nat} (H:r<2*n):As (rwT t r) (BB t r).1 (BB t r).2∧(BB t r).1<2 ^ n∧(BB t r).2<2 ^ n:=by
 rcases Nat.lt_or_ge r n with o | o
 ·obtain ⟨p,u,D⟩:=h.px r o
  rw [row_x h o u,BC h o]; exact ⟨D,(h.lt r o).1⟩
 ·obtain ⟨q,rfl⟩:∃ q,r=n+q:=⟨r-n,by omega⟩
  obtain ⟨p,u,D⟩:=h.pz q (by omega)
  rw [row_z h u,Bw h]; exact ⟨D,(h.lt q (by omega)).2⟩
/-- A gate laid on: every image is turned. -/
theorem JK {s:Ae} {n k a b:Nat} (o:Sy s n) (hk:cK n k a b):∃ G r,BT (n:Int) (Ab.mk (k:Int) (a:Int) (b:Int))=some G∧AX (n:Int) (Ab.mk (k:Int) (a:Int) (b:Int))=some G∧BO s G=some r∧Bb s G=some r∧Sy r n∧(Ev s n→Ev r n)∧∀ q,q<2*n→rwT r q=An k a b (rwT s q):=by
 have hn:=o.ok.hn
 obtain ⟨G,Z,g2,u,g4,g5⟩:=NH hn hk
 obtain ⟨r,P,c2,H,c4⟩:=JF o.ok u.ok
 have hi:=Jc o.ok u.ok P
 refine ⟨G,r,Z,g2,P,c2,Lg o u H c4,fun he=>Lu o he u g4 H P,fun q hq=>?_⟩
 have Q:∀ {p D:Aa} {x z:Nat},As p x z→x<2 ^ n→z<2 ^ n→Bk G p=some D→D=An k a b p:=fun {p D x z} S U hz h=>by
  obtain ⟨r',e1,e2,_⟩:=Fa u.ok S U
  rw [e1] at h
  rw [← Option.some.inj h]
  rw [N6 u.ok hk g5 S U hz] at e2
  exact (Option.some.inj e2).symm
 obtain ⟨J,V,W⟩:=row_ok o.ok hq
 rcases Nat.lt_or_ge q n with O | O
 ·obtain ⟨p,D,e1,e2,e3⟩:=(hi q O).1
  rw [row_x H O e2]
  have e:=row_x o.ok O e1
  rw [e] at J ⊢
  exact Q J V W e3
 ·obtain ⟨j,rfl⟩:∃ j,q=n+j:=⟨q-n,by omega⟩
  obtain ⟨p,D,e1,e2,e3⟩:=(hi j (by omega)).2
  rw [row_z H e2]
  have e:=row_z o.ok e1
  rw [e] at J ⊢
  exact Q J V W e3
/-- A gate leaves alone what has nothing on its wires. -/
theorem FC {n k a b:Nat} (hk:gK n k a b) {p:Aa} {x z:Nat} (o:As p x z) (D:x.testBit a=false) (H:z.testBit a=false) (J:k=9→z.testBit b=false):An k a b p=p:=by
 have O:=o.ph
 have e:(p.X.toNat,p.Z.toNat)=(x,z):=by rw [o.ex,o.ez]; rfl
 have u:k≠6∧k≠10∧k≠11:=by
  obtain ⟨_,h | h⟩:=hk <;> omega
 have ha:At k a b (x,z)=(x,z):=by
  unfold At
  rw [if_neg u.1,if_neg u.2.1,if_neg u.2.2]
  exact Tn D H J
 have hd:dph k a b (x,z)=0:=by
  unfold dph dB
  simp only [D,H,Bool.false_and,Bool.and_false,Bool.xor_false]
  simp
 unfold An
 rw [e,ha,hd,← o.ex,← o.ez,show (p.Phase+0) % 4=p.Phase by omega]
theorem Mk {a b:Nat} {p:Aa} {x z:Nat} (o:As p x z) (u:x.testBit a=false) (D:z.testBit b=false):An 9 a b p=p:=by
 have H:=o.ph
 have e:(p.X.toNat,p.Z.toNat)=(x,z):=by rw [o.ex,o.ez]; rfl
 have ha:At 9 a b (x,z)=(x,z):=by
  show aC a b (x,z)=(x,z)
  unfold aC
  simp [u,D]
 have hd:dph 9 a b (x,z)=0:=by
  unfold dph dB
  simp [u]
 unfold An
 rw [e,ha,hd,← o.ex,← o.ez,show (p.Phase+0) % 4=p.Phase by omega]
theorem Jb {n k a b:Nat} (h:gK n k a b):cK n k a b:=by
 obtain ⟨ha,⟨h | h | h | h,rfl⟩ | ⟨rfl,hb,o⟩⟩:=h
 ·exact .inl ⟨by omega,by omega,ha,rfl⟩
 ·exact .inl ⟨by omega,by omega,ha,rfl⟩
 ·exact .inl ⟨by omega,by omega,ha,rfl⟩
 ·exact .inl ⟨by omega,by omega,ha,rfl⟩
 ·exact .inr (.inl ⟨by omega,by omega,ha,hb,o⟩)
theorem Oj {n k a b:Nat} (hk:gK n k a b) (p:Nat×Nat):At k a b p=C7 k a b p:=by
 have o:k≠6∧k≠10∧k≠11:=by
  obtain ⟨_,h | h⟩:=hk <;> omega
 unfold At
 rw [if_neg o.1,if_neg o.2.1,if_neg o.2.2]
def A3:List Ab→Aa→Aa
 | [],p=>p
 | g::gs,p=>A3 gs (An g.Kind.toNat g.A.toNat g.B.toNat p)
theorem DC:∀ (s t:List Ab) (p:Aa),A3 (s++t) p=A3 t (A3 s p)
 | [],_,_=>rfl
 | g::s,t,p=>DC s t _

def cst (g:Ab):Nat:=if g.Kind=5 then 3 else 1
/-- Gates that may be laid out, at a cost, and what they make of the start. -/
def hct (g:Ab):Nat:=if g.Kind=1 then 1 else 0
structure Gd (n:Nat) (T0 t:Ae) (gs:List Ab) (m e:Nat):Prop where
 ok:∀ g∈gs,gOk (n:Int) g=true
 kd:∀ g∈gs,∃ k a b:Nat,g=Ab.mk (k:Int) (a:Int) (b:Int)∧gK n k a b
 co:(gs.map cst).sum≤m
 hh:(gs.map hct).sum≤e
 rc:∀ r,r<2*n→rwT t r=A3 gs (rwT T0 r)
 ev:∀ r,r<2*n→(rwT t r).Phase % 2=0
theorem IH:∀ o:List Ab,o.length≤(o.map cst).sum
 | []=>Nat.le_refl 0
 | g::o=>by
  have:=IH o
  have u:1≤cst g:=by unfold cst; split <;> decide
  simp only [List.map_cons,List.sum_cons,List.length_cons]
  omega
theorem QO {n k a b:Nat} (h:gK n k a b):gOk (n:Int) (Ab.mk (k:Int) (a:Int) (b:Int))=true:=by
 obtain ⟨ha,hk⟩:=h
 unfold gOk
 simp only
 rcases hk with ⟨hk,rfl⟩ | ⟨rfl,hb,o⟩
 ·rw [show (decide (1≤(k:Int))&&decide ((k:Int)≤8))=true by simp; omega,cond_true]
  simp; omega
 ·rw [show (decide (1≤((9:Nat):Int))&&decide (((9:Nat):Int)≤8))=false by decide,cond_false,show (decide (9≤((9:Nat):Int))&&decide (((9:Nat):Int)≤11))=true by decide,cond_true]
  simp; omega
/-- A gate laid on. -/
theorem Eu {T0 t:Ae} {n:Nat} (h:Sy t n) {k a b:Nat} (P:gK n k a b) {O:List Ab} {m e:Nat} (hd:Gd n T0 t O m e) (hm:m≤10000) :
  ∃ J u,Ax (Aq.mk t O) (k:Int) (a:Int) (b:Int)=some (Aq.mk J u)∧Ay (Ap.mk t O) (k:Int) (a:Int) (b:Int)=some (Ap.mk J u)∧Sy J n∧Gd n T0 J u (m+(if k=5 then 3 else 1)) (e+(if k=1 then 1 else 0))∧(∀ q,q<2*n→BB J q=C7 k a b (BB t q))∧∀ q,q<2*n→rwT J q=An k a b (rwT t q):=by
 have hl:=IH O
 have S:=hd.co
 obtain ⟨G,r,U,V,W,Z,c3,_,Q⟩:=JK h (Jb P)
 refine ⟨r,O++[Ab.mk (k:Int) (a:Int) (b:Int)],?_,?_,c3,⟨fun g D=>?_,fun g D=>?_,?_,?_,fun q H=>?_,fun q H=>?_⟩,fun q H=>?_,Q⟩
 ·unfold Ax
  simp only
  rw [h.ok.qb,U,Option.bind_some,W,Option.bind_some,chk_t (by omega)]
 ·unfold Ay
  simp only
  rw [h.ok.qb,V,Option.bind_some,Z,Option.bind_some,chk_t (by omega)]
 ·rcases List.mem_append.1 D with o | o
  ·exact hd.ok g o
  ·rw [List.mem_singleton.1 o]; exact QO P
 ·rcases List.mem_append.1 D with o | o
  ·exact hd.kd g o
  ·exact ⟨k,a,b,List.mem_singleton.1 o,P⟩
 ·rw [List.map_append,List.sum_append]
  simp only [List.map_cons,List.map_nil,List.sum_cons,List.sum_nil]
  have:cst (Ab.mk (k:Int) (a:Int) (b:Int))=if k=5 then 3 else 1:=by
   unfold cst
   simp only
   by_cases h5:k=5
   ·subst h5; rfl
   ·rw [if_neg (by omega),if_neg h5]
  omega
 ·rw [List.map_append,List.sum_append]
  simp only [List.map_cons,List.map_nil,List.sum_cons,List.sum_nil]
  have ab:=hd.hh
  have:hct (Ab.mk (k:Int) (a:Int) (b:Int))=if k=1 then 1 else 0:=by
   unfold hct
   simp only
   by_cases h5:k=1
   ·subst h5; rfl
   ·rw [if_neg (by omega),if_neg h5]
  omega
 ·rw [DC,← hd.rc q H,Q q H]; rfl
 ·rw [Q q H]
  have o:=hd.ev q H
  unfold An dph
  simp only
  split <;> omega
 ·rw [ES,Q q H,← Oj P,ES]; rfl
/-- The images of the wires before q are the wires' own. -/
def Fx (n q:Nat) (t:Ae):Prop:=∀ j,j<q→rwT t j=Aa.mk 0 ((2 ^ j:Nat):Int) 0∧rwT t (n+j)=Aa.mk 0 0 ((2 ^ j:Nat):Int)
theorem HU {n q:Nat} {t:Ae} (h:Fx n q t) {j:Nat} (o:j<q):BB t j=(2 ^ j,0)∧BB t (n+j)=(0,2 ^ j):=by
 rw [ES,ES,(h j o).1,(h j o).2]; exact ⟨rfl,rfl⟩
theorem Tp {n q k a b:Nat} {t D:Ae} (H:A8 t n) (J:gK n k a b) (hq:q≤n) (h:Fx n q t) (ha:q≤a) (hb:k=9→q≤b) (o:∀ r,r<2*n→rwT D r=An k a b (rwT t r)):Fx n q D:=fun j O=>by
 obtain ⟨S,U⟩:=h j O
 obtain ⟨V,W⟩:=HU h O
 have u:j≠a:=by omega
 have P:=(row_ok H (show j<2*n by omega)).1
 have Q:=(row_ok H (show n+j<2*n by omega)).1
 rw [V] at P
 rw [W] at Q
 constructor
 ·rw [o j (by omega),FC J P (Cp u) (Nat.zero_testBit a) (fun _=>Nat.zero_testBit b)]; exact S
 ·rw [o (n+j) (by omega),FC J Q (Nat.zero_testBit a) (Cp u) (fun Z=>Cp (by have:=hb Z; omega))]; exact U
/-- An image of a wire from q on has nothing on the wires before. -/
theorem GA {n q r:Nat} {t:Ae} (h:Sy t n) (D:Fx n q t) (P:q≤n) (Q:(q≤r∧r<n)∨(n+q≤r∧r<2*n)) {j:Nat} (H:j<q):(BB t r).1.testBit j=false∧(BB t r).2.testBit j=false:=by
 obtain ⟨J,O⟩:=HU D H
 have hn:=h.ok.hn
 have symm:∀ p o:Nat×Nat,om p o=om o p:=fun p o=>by
  have e:∀ i,omT i p o=omT i o p:=fun i=>by
   unfold omT
   cases p.1.testBit i <;> cases p.2.testBit i <;> cases o.1.testBit i <;> cases o.2.testBit i <;> rfl
  unfold om
  rw [e,e,e,e,e]
 constructor
 ·rw [← (Ji (show j<5 by omega) (BB t r)).2,← O]
  rcases Nat.lt_or_ge r (n+j) with u | u
  ·rw [symm,h.om (n+j) r u (by omega)]; exact decide_eq_false (by omega)
  ·rw [h.om r (n+j) (by omega) (by omega)]; exact decide_eq_false (by omega)
 ·rw [← (Ji (show j<5 by omega) (BB t r)).1,← J,h.om r j (by omega) (by omega)]
  exact decide_eq_false (by omega)

def lc (a b:Bool):Int:=if a then (if b then 89 else 88) else (if b then 90 else 73)
theorem PB:∀ a b:Bool,getI ([73,88,90,89]:List UInt8) ((if a then 1 else 0)+2*(if b then 1 else 0))=some (UInt8.ofNat (lc a b).toNat):=by decide +kernel
theorem QF:∀ a b:Bool,(((UInt8.ofNat (lc a b).toNat).toNat:Nat):Int)=lc a b:=by decide +kernel
theorem Ea:∀ a b:Bool,(lc a b==90)=(!a&&b)∧(lc a b==89)=(a&&b)∧(lc a b==88)=(a&&!b)∧((((if a then 1 else 0)+2*(if b then 1 else 0):Int))==2)=(!a&&b)∧((((if a then 1 else 0)+2*(if b then 1 else 0):Int))==3)=(a&&b)∧((((if a then 1 else 0)+2*(if b then 1 else 0):Int))==1)=(a&&!b):=by decide
theorem F2 {p:Aa} {x z:Nat} (h:As p x z) {q:Nat} (u:q≤40):Bs p (q:Int)=some (lc (x.testBit q) (z.testBit q)):=by
 have o:∀ w:Nat,w<32→bits .and .i64 (shrK .i64 (w:Int) (q:Int)) 1=Av w q:=fun w D=>by
  have hd:w / 2 ^ q<9223372036854775808:=Nat.lt_of_le_of_lt (Nat.div_le_self _ _) (by omega)
  rw [I1 w q (by omega),show (1:Int)=((1:Nat):Int) from rfl,BP hd (by decide),Nat.and_one_is_mod]
  unfold Av
  rw [Nat.testBit_eq_decide_div_mod_eq]
  rcases Nat.mod_two_eq_zero_or_one (w / 2 ^ q) with h | h <;> simp [h]
 have H:0≤Av x q∧Av x q≤1:=by unfold Av; split <;> decide
 have J:0≤Av z q∧Av z q≤1:=by unfold Av; split <;> decide
 unfold Bs
 rw [chk_t (by omega),chk_t (by omega),h.ex,h.ez,o x h.hx,o z h.hz,wrap_i64 (a:=2*Av z q) ⟨by omega,by omega⟩,wrap_i64 ⟨by omega,by omega⟩]
 unfold Av
 rw [PB,Option.bind_some,QF]
theorem Db {p:Aa} {x z:Nat} (h:As p x z) {q:Nat} (o:q≤40):AO p (q:Int)=some ((if x.testBit q then 1 else 0)+2*(if z.testBit q then 1 else 0)):=by
 rw [GH h.hx h.hz p h.ex h.ez o]; rfl
theorem AA {n:Nat} {T0 t:Ae} {o:List Ab} {m u e D:Nat} (h:Gd n T0 t o m e) (H:m≤u) (J:e≤D:=by first | omega | ((repeat' split) <;> omega)):Gd n T0 t o u D:=⟨h.ok,h.kd,Nat.le_trans h.co H,Nat.le_trans h.hh J,h.rc,h.ev⟩
/-- What a step on wire s comes to. -/
structure Stp (n s:Nat) (T0 t:Ae) (t':Ae) (gs':List Ab) (m e:Nat):Prop where
 sy:Sy t' n
 gd:Gd n T0 t' gs' m e
 off:∀ r,r<2*n→(BB t r).1.testBit s=false→(BB t r).2.testBit s=false→rwT t' r=rwT t r
theorem cl_x {T0 t:Ae} {n q s:Nat} (h:Sy t n) (hq:q<n) (hs:s<n) {H:List Ab} {m e:Nat} (hd:Gd n T0 t H m e) (hm:m≤9000) :
  ∃ o u,E5 (q:Int) (t.Qubits,t.XImages,t.ZImages,H,(s:Int))=some (.nx (o.Qubits,o.XImages,o.ZImages,u,((s+1:Nat):Int))) ∧
   Et (q:Int) (t.Qubits,t.XImages,t.ZImages,H,(s:Int))=some (.nx (o.Qubits,o.XImages,o.ZImages,u,((s+1:Nat):Int)))∧Stp n s T0 t o u (m+3) (e+1) ∧
   (BB o q).2.testBit s=false∧∀ j,j≠s→(BB o q).1.testBit j=(BB t q).1.testBit j∧(BB o q).2.testBit j=(BB t q).2.testBit j:=by
 have hn:=h.ok.hn
 obtain ⟨p,gp,op⟩:=h.ok.px q hq
 have U:BB t q=(xB t.XImages q,zB t.XImages q):=BC h.ok hq
 have hl:=Db op (q:=s) (by omega)
 have hi:=F2 op (q:=s) (by omega)
 obtain ⟨am,an,_,c2,c3,_⟩:=Ea ((xB t.XImages q).testBit s) ((zB t.XImages q).testBit s)
 have hw:IntKind.i64.wrap ((s:Int)+1)=((s+1:Nat):Int):=wrap_i64 ⟨by omega,by omega⟩
 have hT:Ae.mk t.Qubits t.XImages t.ZImages=t:=rfl
 have hP:Aa.mk p.Phase p.X p.Z=p:=rfl
 have aq:decide ((s:Int)<t.Qubits)=true:=by rw [h.ok.qb]; exact decide_eq_true (by omega)
 rw [U]
 unfold E5 Et
 simp only
 rw [aq,getI_nat,gp]
 simp only [cond_true,Option.bind_some,hP,hl,hi,hT,am,an,c2]
 cases S:(zB t.XImages q).testBit s with
 | false =>
  rw [S] at c3
  simp only [Bool.and_false,cond_false,Option.bind_some]
  rw [getI_nat,gp]
  simp only [Option.bind_some,hP,hl,S,c3,Bool.and_false,cond_false,hw]
  exact ⟨t,H,rfl,rfl,⟨h,AA hd (by omega),fun _ _ _ _=>rfl⟩,by rw [U]; exact S,fun j _=>by rw [U]; exact ⟨rfl,rfl⟩⟩
 | true =>
  cases hx:(xB t.XImages q).testBit s with
  | false =>
   obtain ⟨o,u,e1,e2,e3,e4,e5,J⟩:=Eu h (k:=1) (a:=s) (b:=0) ⟨hs,.inl ⟨.inl rfl,rfl⟩⟩ hd (by omega)
   obtain ⟨p',av,aw⟩:=e3.ok.px q hq
   have V:BB o q=(xB o.XImages q,zB o.XImages q):=BC e3.ok hq
   have D:=e5 q (by omega)
   rw [U] at D
   have W:=HC s s (xB t.XImages q,zB t.XImages q)
   have O:(zB o.XImages q).testBit s=false:=by
    have:=W.2
    rw [if_pos rfl] at this
    have h2:(BB o q).2=zB o.XImages q:=by rw [V]
    rw [← h2,D]
    exact this.trans hx
   have aa:=Db aw (q:=s) (by omega)
   have ay:Aa.mk p'.Phase p'.X p'.Z=p':=rfl
   have ab:=(Ea ((xB o.XImages q).testBit s) ((zB o.XImages q).testBit s)).2.2.2.2.1
   rw [O,Bool.and_false] at ab
   rw [O] at aa
   simp only [Bool.not_false,Bool.true_and,cond_true]
   have P:Ax (Aq.mk t H) 1 (s:Int) 0=some (Aq.mk o u):=e1
   have Q:Ay (Ap.mk t H) 1 (s:Int) 0=some (Ap.mk o u):=e2
   rw [P,Q]
   simp only [Option.bind_some]
   rw [getI_nat,av]
   simp only [Option.bind_some,ay,aa,ab,cond_false,hw]
   refine ⟨o,u,rfl,rfl,⟨e3,AA e4 (by simp),fun r hr f1 f2=>?_⟩,?_,fun j hj=>?_⟩
   ·rw [J r hr]; exact FC (n:=n) (k:=1) (a:=s) (b:=0) (show gK n 1 s 0 from ⟨hs,.inl ⟨.inl rfl,rfl⟩⟩) (row_ok h.ok hr).1 f1 f2 (fun h9=>by cases h9)
   ·rw [V]; exact O
   ·rw [D]
    have:=HC s j (xB t.XImages q,zB t.XImages q)
    rw [if_neg (Ne.symm hj),if_neg (Ne.symm hj)] at this
    exact this
  | true =>
   obtain ⟨o,u,e1,e2,e3,e4,e5,J⟩:=Eu h (k:=5) (a:=s) (b:=0) ⟨hs,.inl ⟨.inr (.inr (.inr rfl)),rfl⟩⟩ hd (by omega)
   have D:=e5 q (by omega)
   rw [U] at D
   rw [S,hx] at c3
   simp only [Bool.not_true,Bool.false_and,Bool.and_self,cond_true,cond_false,Option.bind_some]
   rw [getI_nat,gp]
   have P:Ax (Aq.mk t H) 5 (s:Int) 0=some (Aq.mk o u):=e1
   have Q:Ay (Ap.mk t H) 5 (s:Int) 0=some (Ap.mk o u):=e2
   rw [hx,S] at hl
   simp only [Option.bind_some,hP,hl,c3,Bool.and_self,cond_true,P,Q,hw]
   refine ⟨o,u,rfl,rfl,⟨e3,AA e4 (by simp),fun r hr f1 f2=>?_⟩,?_,fun j hj=>?_⟩
   ·rw [J r hr]; exact FC (n:=n) (k:=5) (a:=s) (b:=0) (show gK n 5 s 0 from ⟨hs,.inl ⟨.inr (.inr (.inr rfl)),rfl⟩⟩) (row_ok h.ok hr).1 f1 f2 (fun h9=>by cases h9)
   ·rw [D]
    have:=(EX s s (xB t.XImages q,zB t.XImages q)).2
    rw [if_pos rfl] at this
    exact this.trans (by simp only; rw [S,hx]; rfl)
   ·rw [D]
    have:=EX s j (xB t.XImages q,zB t.XImages q)
    rw [if_neg (Ne.symm hj)] at this
    exact this
theorem cl_z {T0 t:Ae} {n q s:Nat} (h:Sy t n) (hq:q<n) (hs:s<n) {H:List Ab} {m e:Nat} (hd:Gd n T0 t H m e) (hm:m≤9000) :
  ∃ o u,Dq (q:Int) (t.Qubits,t.XImages,t.ZImages,H,(s:Int))=some (.nx (o.Qubits,o.XImages,o.ZImages,u,((s+1:Nat):Int))) ∧
   Dw (q:Int) (t.Qubits,t.XImages,t.ZImages,H,(s:Int))=some (.nx (o.Qubits,o.XImages,o.ZImages,u,((s+1:Nat):Int)))∧Stp n s T0 t o u (m+3) (e+1) ∧
   (BB o (n+q)).2.testBit s=false∧∀ j,j≠s→(BB o (n+q)).1.testBit j=(BB t (n+q)).1.testBit j∧(BB o (n+q)).2.testBit j=(BB t (n+q)).2.testBit j:=by
 have hn:=h.ok.hn
 obtain ⟨p,gp,op⟩:=h.ok.pz q hq
 have U:BB t (n+q)=(xB t.ZImages q,zB t.ZImages q):=Bw h.ok
 have hl:=Db op (q:=s) (by omega)
 have hi:=F2 op (q:=s) (by omega)
 obtain ⟨al,am,_,c2,c3,_⟩:=Ea ((xB t.ZImages q).testBit s) ((zB t.ZImages q).testBit s)
 have hw:IntKind.i64.wrap ((s:Int)+1)=((s+1:Nat):Int):=wrap_i64 ⟨by omega,by omega⟩
 have hT:Ae.mk t.Qubits t.XImages t.ZImages=t:=rfl
 have hP:Aa.mk p.Phase p.X p.Z=p:=rfl
 have ap:decide ((s:Int)<t.Qubits)=true:=by rw [h.ok.qb]; exact decide_eq_true (by omega)
 rw [U]
 unfold Dq Dw
 simp only
 rw [ap,getI_nat,gp]
 simp only [cond_true,Option.bind_some,hP,hl,hi,hT,al,am,c2]
 cases S:(zB t.ZImages q).testBit s with
 | false =>
  rw [S] at c3
  simp only [Bool.and_false,cond_false,Option.bind_some]
  rw [getI_nat,gp]
  simp only [Option.bind_some,hP,hl,S,c3,Bool.and_false,cond_false,hw]
  exact ⟨t,H,rfl,rfl,⟨h,AA hd (by omega),fun _ _ _ _=>rfl⟩,by rw [U]; exact S,fun j _=>by rw [U]; exact ⟨rfl,rfl⟩⟩
 | true =>
  cases hx:(xB t.ZImages q).testBit s with
  | false =>
   obtain ⟨o,u,e1,e2,e3,e4,e5,J⟩:=Eu h (k:=1) (a:=s) (b:=0) ⟨hs,.inl ⟨.inl rfl,rfl⟩⟩ hd (by omega)
   obtain ⟨p',au,av⟩:=e3.ok.pz q hq
   have V:BB o (n+q)=(xB o.ZImages q,zB o.ZImages q):=Bw e3.ok
   have D:=e5 (n+q) (by omega)
   rw [U] at D
   have W:=HC s s (xB t.ZImages q,zB t.ZImages q)
   have O:(zB o.ZImages q).testBit s=false:=by
    have:=W.2
    rw [if_pos rfl] at this
    have h2:(BB o (n+q)).2=zB o.ZImages q:=by rw [V]
    rw [← h2,D]
    exact this.trans hx
   have aa:=Db av (q:=s) (by omega)
   have aw:Aa.mk p'.Phase p'.X p'.Z=p':=rfl
   have ab:=(Ea ((xB o.ZImages q).testBit s) ((zB o.ZImages q).testBit s)).2.2.2.2.1
   rw [O,Bool.and_false] at ab
   rw [O] at aa
   simp only [Bool.not_false,Bool.true_and,cond_true]
   have P:Ax (Aq.mk t H) 1 (s:Int) 0=some (Aq.mk o u):=e1
   have Q:Ay (Ap.mk t H) 1 (s:Int) 0=some (Ap.mk o u):=e2
   rw [P,Q]
   simp only [Option.bind_some]
   rw [getI_nat,au]
   simp only [Option.bind_some,aw,aa,ab,cond_false,hw]
   refine ⟨o,u,rfl,rfl,⟨e3,AA e4 (by simp),fun r hr f1 f2=>?_⟩,?_,fun j hj=>?_⟩
   ·rw [J r hr]; exact FC (n:=n) (k:=1) (a:=s) (b:=0) (show gK n 1 s 0 from ⟨hs,.inl ⟨.inl rfl,rfl⟩⟩) (row_ok h.ok hr).1 f1 f2 (fun h9=>by cases h9)
   ·rw [V]; exact O
   ·rw [D]
    have:=HC s j (xB t.ZImages q,zB t.ZImages q)
    rw [if_neg (Ne.symm hj),if_neg (Ne.symm hj)] at this
    exact this
  | true =>
   obtain ⟨o,u,e1,e2,e3,e4,e5,J⟩:=Eu h (k:=5) (a:=s) (b:=0) ⟨hs,.inl ⟨.inr (.inr (.inr rfl)),rfl⟩⟩ hd (by omega)
   have D:=e5 (n+q) (by omega)
   rw [U] at D
   rw [S,hx] at c3
   simp only [Bool.not_true,Bool.false_and,Bool.and_self,cond_true,cond_false,Option.bind_some]
   rw [getI_nat,gp]
   have P:Ax (Aq.mk t H) 5 (s:Int) 0=some (Aq.mk o u):=e1
   have Q:Ay (Ap.mk t H) 5 (s:Int) 0=some (Ap.mk o u):=e2
   rw [hx,S] at hl
   simp only [Option.bind_some,hP,hl,c3,Bool.and_self,cond_true,P,Q,hw]
   refine ⟨o,u,rfl,rfl,⟨e3,AA e4 (by simp),fun r hr f1 f2=>?_⟩,?_,fun j hj=>?_⟩
   ·rw [J r hr]; exact FC (n:=n) (k:=5) (a:=s) (b:=0) (show gK n 5 s 0 from ⟨hs,.inl ⟨.inr (.inr (.inr rfl)),rfl⟩⟩) (row_ok h.ok hr).1 f1 f2 (fun h9=>by cases h9)
   ·rw [D]
    have:=(EX s s (xB t.ZImages q,zB t.ZImages q)).2
    rw [if_pos rfl] at this
    exact this.trans (by simp only; rw [S,hx]; rfl)
   ·rw [D]
    have:=EX s j (xB t.ZImages q,zB t.ZImages q)
    rw [if_neg (Ne.symm hj)] at this
    exact this

theorem cn_x {T0 t:Ae} {n q s:Nat} (h:Sy t n) (U:q<n) (hs:s<n) (aj:q<s) {O:List Ab} {m e:Nat} (hd:Gd n T0 t O m e) (hm:m≤9000) (J:(BB t q).1.testBit q=true) (H:(BB t q).2=0) :
  ∃ o u,Eg (q:Int) (t.Qubits,t.XImages,t.ZImages,O,(s:Int))=some (.nx (o.Qubits,o.XImages,o.ZImages,u,((s+1:Nat):Int))) ∧
   Ee (q:Int) (t.Qubits,t.XImages,t.ZImages,O,(s:Int))=some (.nx (o.Qubits,o.XImages,o.ZImages,u,((s+1:Nat):Int)))∧Sy o n∧Gd n T0 o u (m+3) (e+1) ∧
   (∀ r,r<2*n→(BB t r).1.testBit q=false→(BB t r).2.testBit s=false→rwT o r=rwT t r) ∧
   (BB o q).1.testBit s=false∧(BB o q).2=0∧∀ j,j≠s→(BB o q).1.testBit j=(BB t q).1.testBit j:=by
 have hn:=h.ok.hn
 obtain ⟨p,gp,op⟩:=h.ok.px q U
 have P:BB t q=(xB t.XImages q,zB t.XImages q):=BC h.ok U
 have hl:=Db op (q:=s) (by omega)
 have hi:=F2 op (q:=s) (by omega)
 obtain ⟨_,_,Q,_,_,c1⟩:=Ea ((xB t.XImages q).testBit s) ((zB t.XImages q).testBit s)
 have hw:IntKind.i64.wrap ((s:Int)+1)=((s+1:Nat):Int):=wrap_i64 ⟨by omega,by omega⟩
 have hT:Ae.mk t.Qubits t.XImages t.ZImages=t:=rfl
 have hP:Aa.mk p.Phase p.X p.Z=p:=rfl
 have V:decide ((s:Int)<t.Qubits)=true:=by rw [h.ok.qb]; exact decide_eq_true (by omega)
 rw [P] at J H ⊢
 simp only at J H
 have S:(zB t.XImages q).testBit s=false:=by rw [H]; exact Nat.zero_testBit s
 rw [S] at Q c1
 unfold Eg Ee
 simp only
 rw [V,getI_nat,gp]
 simp only [cond_true,Option.bind_some,hP,hl,hi,hT,S,Q,c1,Bool.not_false,Bool.and_true]
 cases hx:(xB t.XImages q).testBit s with
 | false =>
  simp only [cond_false,Option.bind_some,hw]
  exact ⟨t,O,rfl,rfl,h,AA hd (by omega),fun _ _ _ _=>rfl,by rw [P]; exact hx,by rw [P]; exact H,fun j _=>by rw [P]⟩
 | true =>
  obtain ⟨o,u,e1,e2,e3,e4,e5,W⟩:=Eu h (k:=9) (a:=q) (b:=s) ⟨U,.inr ⟨rfl,hs,by omega⟩⟩ hd (by omega)
  have D:=e5 q (by omega)
  rw [P] at D
  have aa:Ax (Aq.mk t O) 9 (q:Int) (s:Int)=some (Aq.mk o u):=e1
  have ab:Ay (Ap.mk t O) 9 (q:Int) (s:Int)=some (Ap.mk o u):=e2
  simp only [cond_true,aa,ab,Option.bind_some,hw]
  refine ⟨o,u,rfl,rfl,e3,AA e4 (by simp),fun r hr f1 f2=>?_,?_,?_,fun j hj=>?_⟩
  ·rw [W r hr]; exact Mk (row_ok h.ok hr).1 f1 f2
  ·rw [D]
   have:=(CC q s s (xB t.XImages q,zB t.XImages q)).1
   rw [if_pos rfl] at this
   exact this.trans (by simp only; rw [hx,J]; rfl)
  ·rw [D]
   show (aC q s (xB t.XImages q,zB t.XImages q)).2=0
   unfold aC
   simp only [H,Nat.zero_testBit,Bool.false_eq_true,if_false,Nat.xor_zero]
  ·rw [D]
   have:=(CC q s j (xB t.XImages q,zB t.XImages q)).1
   rw [if_neg (Ne.symm hj)] at this
   exact this
theorem cn_z {T0 t:Ae} {n q s:Nat} (h:Sy t n) (hq:q<n) (hs:s<n) (aj:q<s) {O:List Ab} {m e:Nat} (hd:Gd n T0 t O m e) (hm:m≤9000) (J:(BB t (n+q)).1.testBit q=true) (H:(BB t (n+q)).2=0) :
  ∃ o u,DG (q:Int) (t.Qubits,t.XImages,t.ZImages,O,(s:Int))=some (.nx (o.Qubits,o.XImages,o.ZImages,u,((s+1:Nat):Int))) ∧
   D0 (q:Int) (t.Qubits,t.XImages,t.ZImages,O,(s:Int))=some (.nx (o.Qubits,o.XImages,o.ZImages,u,((s+1:Nat):Int)))∧Sy o n∧Gd n T0 o u (m+3) (e+1) ∧
   (∀ r,r<2*n→(BB t r).1.testBit q=false→(BB t r).2.testBit s=false→rwT o r=rwT t r) ∧
   (BB o (n+q)).1.testBit s=false∧(BB o (n+q)).2=0∧∀ j,j≠s→(BB o (n+q)).1.testBit j=(BB t (n+q)).1.testBit j:=by
 have hn:=h.ok.hn
 obtain ⟨p,gp,op⟩:=h.ok.pz q hq
 have P:BB t (n+q)=(xB t.ZImages q,zB t.ZImages q):=Bw h.ok
 have hl:=Db op (q:=s) (by omega)
 have hi:=F2 op (q:=s) (by omega)
 obtain ⟨_,_,Q,_,_,c1⟩:=Ea ((xB t.ZImages q).testBit s) ((zB t.ZImages q).testBit s)
 have hw:IntKind.i64.wrap ((s:Int)+1)=((s+1:Nat):Int):=wrap_i64 ⟨by omega,by omega⟩
 have hT:Ae.mk t.Qubits t.XImages t.ZImages=t:=rfl
 have hP:Aa.mk p.Phase p.X p.Z=p:=rfl
 have U:decide ((s:Int)<t.Qubits)=true:=by rw [h.ok.qb]; exact decide_eq_true (by omega)
 rw [P] at J H ⊢
 simp only at J H
 have S:(zB t.ZImages q).testBit s=false:=by rw [H]; exact Nat.zero_testBit s
 rw [S] at Q c1
 unfold DG D0
 simp only
 rw [U,getI_nat,gp]
 simp only [cond_true,Option.bind_some,hP,hl,hi,hT,S,Q,c1,Bool.not_false,Bool.and_true]
 cases hx:(xB t.ZImages q).testBit s with
 | false =>
  simp only [cond_false,Option.bind_some,hw]
  exact ⟨t,O,rfl,rfl,h,AA hd (by omega),fun _ _ _ _=>rfl,by rw [P]; exact hx,by rw [P]; exact H,fun j _=>by rw [P]⟩
 | true =>
  obtain ⟨o,u,e1,e2,e3,e4,e5,V⟩:=Eu h (k:=9) (a:=q) (b:=s) ⟨hq,.inr ⟨rfl,hs,by omega⟩⟩ hd (by omega)
  have D:=e5 (n+q) (by omega)
  rw [P] at D
  have W:Ax (Aq.mk t O) 9 (q:Int) (s:Int)=some (Aq.mk o u):=e1
  have aa:Ay (Ap.mk t O) 9 (q:Int) (s:Int)=some (Ap.mk o u):=e2
  simp only [cond_true,W,aa,Option.bind_some,hw]
  refine ⟨o,u,rfl,rfl,e3,AA e4 (by simp),fun r hr f1 f2=>?_,?_,?_,fun j hj=>?_⟩
  ·rw [V r hr]; exact Mk (row_ok h.ok hr).1 f1 f2
  ·rw [D]
   have:=(CC q s s (xB t.ZImages q,zB t.ZImages q)).1
   rw [if_pos rfl] at this
   exact this.trans (by simp only; rw [hx,J]; rfl)
  ·rw [D]
   show (aC q s (xB t.ZImages q,zB t.ZImages q)).2=0
   unfold aC
   simp only [H,Nat.zero_testBit,Bool.false_eq_true,if_false,Nat.xor_zero]
  ·rw [D]
   have:=(CC q s j (xB t.ZImages q,zB t.ZImages q)).1
   rw [if_neg (Ne.symm hj)] at this
   exact this
/-- A loop over the wires, by both. -/
theorem Hn {ρ τ:Type} {F:(Int×List Aa×List Aa×List Ab×Int)→Option (Ex (Int×List Aa×List Aa×List Ab×Int) ρ)} {G:(Int×List Aa×List Aa×List Ab×Int)→Option (Ex (Int×List Aa×List Aa×List Ab×Int) τ)} {n lo:Nat} {T0:Ae} (I:Nat→Ae→Prop)
  (H:∀ s t u m e,lo≤s→s<n→I s t→Sy t n→Gd n T0 t u m e→m≤9000→∃ o D,F (t.Qubits,t.XImages,t.ZImages,u,(s:Int))=some (.nx (o.Qubits,o.XImages,o.ZImages,D,((s+1:Nat):Int)))∧G (t.Qubits,t.XImages,t.ZImages,u,(s:Int))=some (.nx (o.Qubits,o.XImages,o.ZImages,D,((s+1:Nat):Int)))∧Sy o n∧Gd n T0 o D (m+3) (e+1)∧I (s+1) o)
  (J:∀ t u,Sy t n→F (t.Qubits,t.XImages,t.ZImages,u,(n:Int))=some (.br (t.Qubits,t.XImages,t.ZImages,u,(n:Int)))∧G (t.Qubits,t.XImages,t.ZImages,u,(n:Int))=some (.br (t.Qubits,t.XImages,t.ZImages,u,(n:Int)))) :
  ∀ (d s k:Nat) (t:Ae) (u:List Ab) (m e:Nat),s+d=n→lo≤s→d<k→I s t→Sy t n→Gd n T0 t u m e→m+3*d≤9000 →
   ∃ o D,whX F k (t.Qubits,t.XImages,t.ZImages,u,(s:Int))=some (.inl (o.Qubits,o.XImages,o.ZImages,D,(n:Int)))∧whX G k (t.Qubits,t.XImages,t.ZImages,u,(s:Int))=some (.inl (o.Qubits,o.XImages,o.ZImages,D,(n:Int)))∧Sy o n∧Gd n T0 o D (m+3*d) (e+d)∧I n o:=by
 intro d
 induction d with
 | zero =>
  intro s k t u m e V _ hk P O hd _
  obtain ⟨k,rfl⟩:∃ k',k=k'+1:=⟨k-1,by omega⟩
  have:s=n:=by omega
  subst this
  obtain ⟨e1,e2⟩:=J t u O
  exact ⟨t,u,by simp only [whX,e1,Option.bind_some],by simp only [whX,e2,Option.bind_some],O,hd,P⟩
 | succ d ih =>
  intro s k t u m e V Q hk P O hd hm
  obtain ⟨k,rfl⟩:∃ k',k=k'+1:=⟨k-1,by omega⟩
  obtain ⟨W,S,e1,e2,e3,Z,e5⟩:=H s t u m e Q (by omega) P O hd (by omega)
  obtain ⟨t2,U,f1,f2,f3,f4,f5⟩:=ih (s+1) k W S (m+3) (e+1) (by omega) (by omega) (by omega) e5 e3 Z (by omega)
  refine ⟨t2,U,?_,?_,f3,AA f4 (by omega),f5⟩
  ·simp only [whX,e1,Option.bind_some]; exact f1
  ·simp only [whX,e2,Option.bind_some]; exact f2
theorem Ok {q:Nat} {p:Nat×Nat} (h:p=(0,2 ^ q)) {s:Nat} (o:q≠s):p.1.testBit s=false∧p.2.testBit s=false:=by
 subst h; exact ⟨Nat.zero_testBit s,Cp o⟩
theorem MQ {n q s:Nat} {t o:Ae} (J:q≤n) (O:q≤s) (h:Fx n q t) (off:∀ r,r<2*n→(BB t r).1.testBit s=false→(BB t r).2.testBit s=false→rwT o r=rwT t r):Fx n q o:=fun j u=>by
 obtain ⟨D,H⟩:=HU h u
 rw [off j (by omega) (by rw [D]; exact Cp (by omega)) (by rw [D]; exact Nat.zero_testBit s),off (n+j) (by omega) (by rw [H]; exact Nat.zero_testBit s) (by rw [H]; exact Cp (by omega))]; exact h j u
theorem LN {n q s:Nat} {t o:Ae} (J:q≤n) (O:q≤s) (h:Fx n q t) (off:∀ r,r<2*n→(BB t r).1.testBit q=false→(BB t r).2.testBit s=false→rwT o r=rwT t r):Fx n q o:=fun j u=>by
 obtain ⟨D,H⟩:=HU h u
 rw [off j (by omega) (by rw [D]; exact Cp (by omega)) (by rw [D]; exact Nat.zero_testBit s),off (n+j) (by omega) (by rw [H]; exact Nat.zero_testBit q) (by rw [H]; exact Cp (by omega))]; exact h j u
/-- The first loop: the image of X has no Z part. -/
theorem S9 {T0 t:Ae} {n q:Nat} (h:Sy t n) (P:q<n) (hf:Fx n q t) {D:List Ab} {m e:Nat} (hd:Gd n T0 t D m e) (W:m≤8000) :
  ∃ o u,whX (E5 (q:Int)) fuel (t.Qubits,t.XImages,t.ZImages,D,(q:Int))=some (.inl (o.Qubits,o.XImages,o.ZImages,u,(n:Int)))∧whX (Et (q:Int)) fuel (t.Qubits,t.XImages,t.ZImages,D,(q:Int))=some (.inl (o.Qubits,o.XImages,o.ZImages,u,(n:Int)))∧Sy o n∧Gd n T0 o u (m+15) (e+n)∧Fx n q o∧(BB o q).2=0:=by
 have hn:=h.ok.hn
 obtain ⟨o,u,e1,e2,e3,e4,Z,e6⟩:=Hn (lo:=q) (fun s t=>Fx n q t∧∀ j,q≤j→j<s→(BB t q).2.testBit j=false) (fun s t D m e Q hs hI S hd W=>by
  obtain ⟨t1,U,a1,a2,V,a4,a5⟩:=cl_x S P hs hd W
  refine ⟨t1,U,a1,a2,V.sy,V.gd,MQ (by omega) Q hI.1 V.off,fun j H J=>?_⟩
  by_cases hj:j=s
  ·subst hj; exact a4
  ·rw [(a5 j hj).2]; exact hI.2 j H (by omega)) (fun t D S=>by
  have O:decide ((n:Int)<t.Qubits)=false:=by rw [S.ok.qb]; exact decide_eq_false (by omega)
  constructor
  ·unfold E5; simp only; rw [O,cond_false]
  ·unfold Et; simp only; rw [O,cond_false]) (n-q) q fuel t D m e (by omega) (Nat.le_refl q) (Ch (by omega)) ⟨hf,fun j H J=>by omega⟩ h hd (by omega)
 refine ⟨o,u,e1,e2,e3,AA e4 (by omega),Z,?_⟩
 apply Nat.eq_of_testBit_eq
 intro j
 rw [Nat.zero_testBit]
 rcases Nat.lt_or_ge j q with H | H
 ·exact (GA e3 Z (by omega) (.inl ⟨Nat.le_refl q,P⟩) H).2
 ·rcases Nat.lt_or_ge j n with J | J
  ·exact e6 j H J
  ·have:=(e3.ok.lt q P).1.2
   rw [BC e3.ok P]
   exact Nat.testBit_lt_two_pow (Nat.lt_of_lt_of_le this (Nat.pow_le_pow_right (by decide) J))
/-- The second loop: nothing but X on the wire. -/
theorem PR {T0 t:Ae} {n q:Nat} (h:Sy t n) (P:q<n) (hf:Fx n q t) (hz:(BB t q).2=0) (hx:(BB t q).1.testBit q=true) {H:List Ab} {m e:Nat} (hd:Gd n T0 t H m e) (U:m≤8000) :
  ∃ o u,whX (Eg (q:Int)) fuel (t.Qubits,t.XImages,t.ZImages,H,((q+1:Nat):Int))=some (.inl (o.Qubits,o.XImages,o.ZImages,u,(n:Int)))∧whX (Ee (q:Int)) fuel (t.Qubits,t.XImages,t.ZImages,H,((q+1:Nat):Int))=some (.inl (o.Qubits,o.XImages,o.ZImages,u,(n:Int)))∧Sy o n∧Gd n T0 o u (m+12) (e+n)∧Fx n q o∧BB o q=(2 ^ q,0):=by
 have hn:=h.ok.hn
 obtain ⟨o,u,e1,e2,e3,e4,V,e6,e7,e8⟩:=Hn (lo:=q+1) (fun s t=>Fx n q t∧(BB t q).2=0∧(BB t q).1.testBit q=true∧∀ j,q<j→j<s→(BB t q).1.testBit j=false) (fun s t H m e ai hs hI Q hd U=>by
  obtain ⟨i1,i2,W,i4⟩:=hI
  obtain ⟨t1,S,a1,a2,a3,a4,a5,a6,a7,Z⟩:=cn_x Q P hs (by omega) hd U W i2
  refine ⟨t1,S,a1,a2,a3,a4,LN (by omega) (by omega) i1 a5,a7,by rw [Z q (by omega)]; exact W,fun j D J=>?_⟩
  by_cases hj:j=s
  ·subst hj; exact a6
  ·rw [Z j hj]; exact i4 j D (by omega)) (fun t H Q=>by
  have O:decide ((n:Int)<t.Qubits)=false:=by rw [Q.ok.qb]; exact decide_eq_false (by omega)
  constructor
  ·unfold Eg; simp only; rw [O,cond_false]
  ·unfold Ee; simp only; rw [O,cond_false]) (n-(q+1)) (q+1) fuel t H m e (by omega) (Nat.le_refl _) (Ch (by omega)) ⟨hf,hz,hx,fun j D J=>by omega⟩ h hd (by omega)
 refine ⟨o,u,e1,e2,e3,AA e4 (by omega),V,Prod.ext ?_ e6⟩
 apply Nat.eq_of_testBit_eq
 intro j
 rw [Nat.testBit_two_pow]
 rcases Nat.lt_trichotomy j q with D | D | D
 ·rw [(GA e3 V (by omega) (.inl ⟨Nat.le_refl q,P⟩) D).1,decide_eq_false (by omega)]
 ·subst D; rw [e7]; simp
 ·rw [decide_eq_false (by omega)]
  rcases Nat.lt_or_ge j n with J | J
  ·exact e8 j D J
  ·have:=(e3.ok.lt q P).1.1
   rw [BC e3.ok P]
   exact Nat.testBit_lt_two_pow (Nat.lt_of_lt_of_le this (Nat.pow_le_pow_right (by decide) J))
/-- The third loop: the image of Z has no Z part but on the wire. -/
theorem Tr {T0 t:Ae} {n q:Nat} (h:Sy t n) (V:q<n) (hf:Fx n q t) (hb:BB t q=(0,2 ^ q)) {D:List Ab} {m e:Nat} (hd:Gd n T0 t D m e) (W:m≤8000) :
  ∃ o u,whX (Dq (q:Int)) fuel (t.Qubits,t.XImages,t.ZImages,D,((q+1:Nat):Int))=some (.inl (o.Qubits,o.XImages,o.ZImages,u,(n:Int)))∧whX (Dw (q:Int)) fuel (t.Qubits,t.XImages,t.ZImages,D,((q+1:Nat):Int))=some (.inl (o.Qubits,o.XImages,o.ZImages,u,(n:Int)))∧Sy o n∧Gd n T0 o u (m+12) (e+n)∧Fx n q o∧BB o q=(0,2 ^ q)∧∀ j,j≠q→(BB o (n+q)).2.testBit j=false:=by
 have hn:=h.ok.hn
 obtain ⟨o,u,e1,e2,e3,e4,Z,e6,e7⟩:=Hn (lo:=q+1) (fun s t=>Fx n q t∧BB t q=(0,2 ^ q)∧∀ j,q<j→j<s→(BB t (n+q)).2.testBit j=false) (fun s t D m e af hs hI Q hd W=>by
  obtain ⟨i1,i2,i3⟩:=hI
  obtain ⟨t1,S,a1,a2,P,a4,a5⟩:=cl_z Q V hs hd W
  refine ⟨t1,S,a1,a2,P.sy,P.gd,MQ (by omega) (by omega) i1 P.off,?_,fun j H J=>?_⟩
  ·obtain ⟨u1,u2⟩:=Ok i2 (s:=s) (by omega)
   rw [ES,P.off q (by omega) u1 u2]; exact i2
  ·by_cases U:j=s
   ·subst U; exact a4
   ·rw [(a5 j U).2]; exact i3 j H (by omega)) (fun t D Q=>by
  have O:decide ((n:Int)<t.Qubits)=false:=by rw [Q.ok.qb]; exact decide_eq_false (by omega)
  constructor
  ·unfold Dq; simp only; rw [O,cond_false]
  ·unfold Dw; simp only; rw [O,cond_false]) (n-(q+1)) (q+1) fuel t D m e (by omega) (Nat.le_refl _) (Ch (by omega)) ⟨hf,hb,fun j H J=>by omega⟩ h hd (by omega)
 refine ⟨o,u,e1,e2,e3,AA e4 (by omega),Z,e6,fun j U=>?_⟩
 rcases Nat.lt_or_ge j q with H | H
 ·exact (GA e3 Z (by omega) (.inr ⟨Nat.le_refl _,by omega⟩) H).2
 ·rcases Nat.lt_or_ge j n with J | J
  ·exact e7 j (by omega) J
  ·have:=(e3.ok.lt q V).2.2
   rw [Bw e3.ok]
   exact Nat.testBit_lt_two_pow (Nat.lt_of_lt_of_le this (Nat.pow_le_pow_right (by decide) J))
/-- The fourth loop. -/
theorem Sr {T0 t:Ae} {n q:Nat} (h:Sy t n) (S:q<n) (hf:Fx n q t) (hb:BB t q=(0,2 ^ q)) (hz:(BB t (n+q)).2=0) (hx:(BB t (n+q)).1.testBit q=true) {H:List Ab} {m e:Nat} (hd:Gd n T0 t H m e) (U:m≤8000) :
  ∃ o u,whX (DG (q:Int)) fuel (t.Qubits,t.XImages,t.ZImages,H,((q+1:Nat):Int))=some (.inl (o.Qubits,o.XImages,o.ZImages,u,(n:Int)))∧whX (D0 (q:Int)) fuel (t.Qubits,t.XImages,t.ZImages,H,((q+1:Nat):Int))=some (.inl (o.Qubits,o.XImages,o.ZImages,u,(n:Int)))∧Sy o n∧Gd n T0 o u (m+12) (e+n)∧Fx n q o∧BB o q=(0,2 ^ q)∧BB o (n+q)=(2 ^ q,0):=by
 have hn:=h.ok.hn
 obtain ⟨o,u,e1,e2,e3,e4,V,e6,e7,e8,e9⟩:=Hn (lo:=q+1) (fun s t=>Fx n q t∧BB t q=(0,2 ^ q)∧(BB t (n+q)).2=0∧(BB t (n+q)).1.testBit q=true∧∀ j,q<j→j<s→(BB t (n+q)).1.testBit j=false) (fun s t H m e ak hs hI P hd U=>by
  obtain ⟨i1,i2,i3,W,i5⟩:=hI
  obtain ⟨t1,Q,a1,a2,a3,a4,Z,a6,a7,a8⟩:=cn_z P S hs (by omega) hd U W i3
  refine ⟨t1,Q,a1,a2,a3,a4,LN (by omega) (by omega) i1 Z,?_,a7,by rw [a8 q (by omega)]; exact W,fun j D J=>?_⟩
  ·rw [ES,Z q (by omega) (by rw [i2]; exact Nat.zero_testBit q) (by rw [i2]; exact Cp (by omega))]; exact i2
  ·by_cases hj:j=s
   ·subst hj; exact a6
   ·rw [a8 j hj]; exact i5 j D (by omega)) (fun t H P=>by
  have O:decide ((n:Int)<t.Qubits)=false:=by rw [P.ok.qb]; exact decide_eq_false (by omega)
  constructor
  ·unfold DG; simp only; rw [O,cond_false]
  ·unfold D0; simp only; rw [O,cond_false]) (n-(q+1)) (q+1) fuel t H m e (by omega) (Nat.le_refl _) (Ch (by omega)) ⟨hf,hb,hz,hx,fun j D J=>by omega⟩ h hd (by omega)
 refine ⟨o,u,e1,e2,e3,AA e4 (by omega),V,e6,Prod.ext ?_ e7⟩
 apply Nat.eq_of_testBit_eq
 intro j
 rw [Nat.testBit_two_pow]
 rcases Nat.lt_trichotomy j q with D | D | D
 ·rw [(GA e3 V (by omega) (.inr ⟨Nat.le_refl _,by omega⟩) D).1,decide_eq_false (by omega)]
 ·subst D; rw [e8]; simp
 ·rw [decide_eq_false (by omega)]
  rcases Nat.lt_or_ge j n with J | J
  ·exact e9 j D J
  ·have:=(e3.ok.lt q S).2.1
   rw [Bw e3.ok]
   exact Nat.testBit_lt_two_pow (Nat.lt_of_lt_of_le this (Nat.pow_le_pow_right (by decide) J))

theorem KD (x:Nat):∀ b,(∃ j,j<b∧x.testBit j=true)→∃ a,a<b∧x.testBit a=true∧∀ j,j<a→x.testBit j=false
 | 0,⟨j,h,_⟩=>absurd h (Nat.not_lt_zero j)
 | b+1,⟨j,hj,hx⟩=>by
  by_cases h:∃ j,j<b∧x.testBit j=true
  ·obtain ⟨a,H,o,u⟩:=KD x b h
   exact ⟨a,by omega,o,u⟩
  ·have D:∀ i,i<b→x.testBit i=false:=fun i hi=>by
    cases hb:x.testBit i with
    | false=>rfl
    | true=>exact absurd ⟨i,hi,hb⟩ h
   refine ⟨j,hj,hx,fun i hi=>D i (by omega)⟩
/-- The first X on the way. -/
theorem QG {t:Ae} {n q:Nat} (h:Sy t n) (P:q<n) (hf:Fx n q t) (Q:(BB t q).2=0) :
  ∃ a,q≤a∧a<n∧whX (CR t.XImages (q:Int)) fuel (q:Int)=some (.inl (a:Int))∧whX (CX t.Qubits t.XImages (q:Int)) fuel (q:Int)=some (.inl (a:Int))∧(BB t q).1.testBit a=true∧∀ j,j<a→(BB t q).1.testBit j=false:=by
 have hn:=h.ok.hn
 obtain ⟨p,S,op⟩:=h.ok.px q P
 have hB:BB t q=(xB t.XImages q,zB t.XImages q):=BC h.ok P
 have H:=fun j (hj:j<q)=>(GA h hf (by omega) (.inl ⟨Nat.le_refl q,P⟩) hj).1
 have U:(BB t q).1≠0:=fun e=>by
  have:=h.om (n+q) q (by omega) (by omega)
  rw [show BB t q=(0,0) from Prod.ext e Q,ID] at this
  simp at this
  omega
 have V:∃ j,j<n∧(BB t q).1.testBit j=true:=by
  refine Classical.byContradiction fun W=>U ?_
  apply Nat.eq_of_testBit_eq
  intro j
  rw [Nat.zero_testBit]
  rcases Nat.lt_or_ge j n with h2 | h2
  ·cases hb:(BB t q).1.testBit j with
   | false=>rfl
   | true=>exact absurd ⟨j,h2,hb⟩ W
  ·rw [hB]
   exact Nat.testBit_lt_two_pow (Nat.lt_of_lt_of_le (h.ok.lt q P).1.1 (Nat.pow_le_pow_right (by decide) h2))
 obtain ⟨a,ha,o,u⟩:=KD _ n V
 have ab:q≤a:=by
  rcases Nat.lt_or_ge a q with h1 | h1
  ·rw [H a h1] at o; cases o
  ·exact h1
 rw [hB] at Q o u ⊢
 simp only at Q o u
 have D:∀ i:Nat,i≤40→AO p (i:Int)=some (if (xB t.XImages q).testBit i then 1 else 0)∧Bs p (i:Int)=some (if (xB t.XImages q).testBit i then 88 else 73):=fun i hi=>by
  rw [Db op hi,F2 op hi,Q,Nat.zero_testBit]
  cases (xB t.XImages q).testBit i <;> exact ⟨rfl,rfl⟩
 have hP:Aa.mk p.Phase p.X p.Z=p:=rfl
 have hQ:IntKind.i64.wrap (t.Qubits-1)=(n:Int)-1:=by rw [h.ok.qb]; exact wrap_i64 ⟨by omega,by omega⟩
 have ae:∀ (d i k:Nat),i+d=a→d<k→q≤i→whX (CR t.XImages (q:Int)) k (i:Int)=some (.inl (a:Int))∧whX (CX t.Qubits t.XImages (q:Int)) k (i:Int)=some (.inl (a:Int)):=by
  intro d
  induction d with
  | zero =>
   intro i k hi hk _
   obtain ⟨k,rfl⟩:∃ k',k=k'+1:=⟨k-1,by omega⟩
   have:i=a:=by omega
   subst this
   obtain ⟨J,O⟩:=D i (by omega)
   rw [o] at J O
   have e1:CR t.XImages (q:Int) (i:Int)=some (.br (i:Int)):=by
    unfold CR
    rw [getI_nat,S,Option.bind_some,J]; rfl
   have e2:CX t.Qubits t.XImages (q:Int) (i:Int)=some (.br (i:Int)):=by
    unfold CX
    rw [hQ,getI_nat,S]
    simp only [Option.bind_some,hP,O,if_true]
    cases decide ((i:Int)<(n:Int)-1) <;> rfl
   simp only [whX,e1,e2,Option.bind_some]
   exact ⟨trivial,trivial⟩
  | succ d ih =>
   intro i k hi hk am
   obtain ⟨k,rfl⟩:∃ k',k=k'+1:=⟨k-1,by omega⟩
   obtain ⟨J,O⟩:=D i (by omega)
   rw [u i (by omega)] at J O
   have hw:IntKind.i64.wrap ((i:Int)+1)=((i+1:Nat):Int):=wrap_i64 ⟨by omega,by omega⟩
   have e1:CR t.XImages (q:Int) (i:Int)=some (.nx ((i+1:Nat):Int)):=by
    unfold CR
    rw [getI_nat,S,Option.bind_some,J,hw]; rfl
   have e2:CX t.Qubits t.XImages (q:Int) (i:Int)=some (.nx ((i+1:Nat):Int)):=by
    unfold CX
    rw [hQ,getI_nat,S,decide_eq_true (show (i:Int)<(n:Int)-1 by omega)]
    simp only [Option.bind_some,hP,O,cond_true]
    rw [hw]; rfl
   simp only [whX,e1,e2,Option.bind_some]
   exact ih (i+1) k (by omega) (by omega) (by omega)
 obtain ⟨k1,k2⟩:=ae (a-q) q fuel (by omega) (Ch (by omega)) (Nat.le_refl q)
 exact ⟨a,ab,ha,k1,k2,o,u⟩
/-- A gate on wires from q on, by both, with what it does. -/
theorem Dc {T0 t:Ae} {n q:Nat} (h:Sy t n) (O:q≤n) (P:Fx n q t) {k a b:Nat} (J:gK n k a b) (ha:q≤a) (hb:k=9→q≤b) {H:List Ab} {m e:Nat} (hd:Gd n T0 t H m e) (Q:m≤10000) :
  ∃ u o,Ax (Aq.mk t H) (k:Int) (a:Int) (b:Int)=some (Aq.mk u o)∧Ay (Ap.mk t H) (k:Int) (a:Int) (b:Int)=some (Ap.mk u o)∧Sy u n∧Gd n T0 u o (m+(if k=5 then 3 else 1)) (e+(if k=1 then 1 else 0))∧Fx n q u∧(∀ r,r<2*n→BB u r=C7 k a b (BB t r))∧∀ r,r<2*n→rwT u r=An k a b (rwT t r):=by
 obtain ⟨u,o,e1,e2,e3,S,U,D⟩:=Eu h J hd Q
 exact ⟨u,o,e1,e2,e3,S,Tp h.ok J O P ha hb D,U,D⟩
/-- The wire is brought to its place. -/
theorem Qs {T0 t:Ae} {n q a:Nat} (h:Sy t n) (Z:q<n) (hf:Fx n q t) (hz:(BB t q).2=0) (O:q≤a) (ha:a<n) (P:(BB t q).1.testBit a=true) (aa:∀ j,j<a→(BB t q).1.testBit j=false) {J:List Ab} {m e:Nat} (hd:Gd n T0 t J m e) (hm:m≤8000) :
  ∃ o Q,((bif ((a:Int) != (q:Int)) then ((Ax (Aq.mk t J) 9 (a:Int) (q:Int)).bind fun m2=>(Ax m2 9 (q:Int) (a:Int)).bind fun m3=>(Ax m3 9 (a:Int) (q:Int)).bind fun u=>some (u.t.Qubits,u.t.XImages,u.t.ZImages,u.out)) else (some (t.Qubits,t.XImages,t.ZImages,J))):Option (Int×List Aa×List Aa×List Ab))=some (o.Qubits,o.XImages,o.ZImages,Q) ∧
   ((bif ((a:Int) != (q:Int)) then ((Ay (Ap.mk t J) 9 (a:Int) (q:Int)).bind fun m2=>(Ay m2 9 (q:Int) (a:Int)).bind fun m3=>(Ay m3 9 (a:Int) (q:Int)).bind fun u=>some (u.t.Qubits,u.t.XImages,u.t.ZImages,u.gates)) else (some (t.Qubits,t.XImages,t.ZImages,J))):Option (Int×List Aa×List Aa×List Ab))=some (o.Qubits,o.XImages,o.ZImages,Q) ∧
   Sy o n∧Gd n T0 o Q (m+3) e∧Fx n q o∧(BB o q).2=0∧(BB o q).1.testBit q=true:=by
 by_cases he:a=q
 ·subst he
  rw [show ((a:Int) != (a:Int))=false by simp]
  exact ⟨t,J,rfl,rfl,h,AA hd (by omega),hf,hz,P⟩
 ·rw [show ((a:Int) != (q:Int))=true by simp; omega]
  obtain ⟨D,V,a1,a2,a3,a4,a5,a6,_⟩:=Dc h (by omega) hf (k:=9) (a:=a) (b:=q) ⟨ha,.inr ⟨rfl,Z,he⟩⟩ O (fun _=>Nat.le_refl q) hd (by omega)
  obtain ⟨H,W,b1,b2,b3,b4,b5,b6,_⟩:=Dc a3 (by omega) a5 (k:=9) (a:=q) (b:=a) ⟨Z,.inr ⟨rfl,ha,Ne.symm he⟩⟩ (Nat.le_refl q) (fun _=>O) a4 (by simp; omega)
  obtain ⟨S,g3,c1,c2,c3,c4,c5,c6,_⟩:=Dc b3 (by omega) b5 (k:=9) (a:=a) (b:=q) ⟨ha,.inr ⟨rfl,Z,he⟩⟩ O (fun _=>Nat.le_refl q) b4 (by simp; omega)
  have zz:∀ (a b:Nat) (p:Nat×Nat),p.2=0→(aC a b p).2=0:=fun a b p hp=>by
   unfold aC; rw [hp]; simp
  have d1:BB D q=aC a q (BB t q):=a6 q (by omega)
  have d2:BB H q=aC q a (BB D q):=b6 q (by omega)
  have d3:BB S q=aC a q (BB H q):=c6 q (by omega)
  have z1:(BB D q).2=0:=by rw [d1]; exact zz _ _ _ hz
  have z2:(BB H q).2=0:=by rw [d2]; exact zz _ _ _ z1
  have z3:(BB S q).2=0:=by rw [d3]; exact zz _ _ _ z2
  have U:(BB D q).1.testBit q=true:=by rw [d1,(CC a q q _).1,if_pos rfl,P,aa q (by omega)]; rfl
  have ai:(BB D q).1.testBit a=true:=by rw [d1,(CC a q a _).1,if_neg (Ne.symm he),P]
  have aj:(BB H q).1.testBit a=false:=by rw [d2,(CC q a a _).1,if_pos rfl,ai,U]; rfl
  have ak:(BB H q).1.testBit q=true:=by rw [d2,(CC q a q _).1,if_neg he,U]
  have al:(BB S q).1.testBit q=true:=by rw [d3,(CC a q q _).1,if_pos rfl,ak,aj]; rfl
  have am:Ax (Aq.mk t J) 9 (a:Int) (q:Int)=some (Aq.mk D V):=a1
  have an:Ay (Ap.mk t J) 9 (a:Int) (q:Int)=some (Ap.mk D V):=a2
  have ao:Ax (Aq.mk D V) 9 (q:Int) (a:Int)=some (Aq.mk H W):=b1
  have ap:Ay (Ap.mk D V) 9 (q:Int) (a:Int)=some (Ap.mk H W):=b2
  have aq:Ax (Aq.mk H W) 9 (a:Int) (q:Int)=some (Aq.mk S g3):=c1
  have ar:Ay (Ap.mk H W) 9 (a:Int) (q:Int)=some (Ap.mk S g3):=c2
  refine ⟨S,g3,?_,?_,c3,AA c4 (by simp),c5,z3,al⟩
  ·simp only [cond_true,am,ao,aq,Option.bind_some]
  ·simp only [cond_true,an,ap,ar,Option.bind_some]

/-- The image of Z on the wire, brought to its place. -/
theorem RD {T0 t:Ae} {n q:Nat} (h:Sy t n) (V:q<n) (hf:Fx n q t) (hb:BB t q=(2 ^ q,0)) {S:List Ab} {m e:Nat} (hd:Gd n T0 t S m e) (hm:m≤7000) :
  ∃ O W,(((getI t.ZImages (q:Int)).bind fun x4 =>
 chk ((!(x4.X != 0))=true→(0:Int)≤(IntKind.u64.wrap (q:Int))) <|
 bif ((x4.X != 0)||(x4.Z != (shlK .i64 1 (IntKind.u64.wrap (q:Int))))) then ((Ax (Aq.mk (Ae.mk t.Qubits t.XImages t.ZImages) S) 1 (q:Int) 0).bind fun Q =>
 (((whX (Dq (q:Int)) fuel (Q.t.Qubits,Q.t.XImages,Q.t.ZImages,Q.out,(IntKind.i64.wrap ((q:Int)+1)))).bind<|orR fun (Qubits12,XImages12,ZImages12,out12,s2) =>
 some ((Qubits12,XImages12,ZImages12,out12))):Option (Int×List Aa×List Aa×List Ab)).bind fun (Qubits11,XImages11,ZImages11,out11) =>
 (((getI ZImages11 (q:Int)).bind fun x7 =>
 (AO x7 (q:Int)).bind fun aa =>
 bif (aa==3) then ((Ax (Aq.mk (Ae.mk Qubits11 XImages11 ZImages11) out11) 5 (q:Int) 0).bind fun u =>
 some (u.t.Qubits,u.t.XImages,u.t.ZImages,u.out)) else (some (Qubits11,XImages11,ZImages11,out11))):Option (Int×List Aa×List Aa×List Ab)).bind fun (Qubits15,XImages15,ZImages15,out15) =>
 (((whX (DG (q:Int)) fuel (Qubits15,XImages15,ZImages15,out15,(IntKind.i64.wrap ((q:Int)+1)))).bind<|orR fun (Qubits17,XImages17,ZImages17,out17,s3) =>
 some ((Qubits17,XImages17,ZImages17,out17))):Option (Int×List Aa×List Aa×List Ab)).bind fun (Qubits16,XImages16,ZImages16,out16) =>
 (Ax (Aq.mk (Ae.mk Qubits16 XImages16 ZImages16) out16) 1 (q:Int) 0).bind fun D =>
 some (D.t.Qubits,D.t.XImages,D.t.ZImages,D.out)) else (some (t.Qubits,t.XImages,t.ZImages,S))):Option (Int×List Aa×List Aa×List Ab))=some (O.Qubits,O.XImages,O.ZImages,W) ∧
  ((((getI t.ZImages (q:Int)).bind fun x3 =>
 some ((x3.Phase,x3.X,x3.Z))):Option (Int×Int×Int)).bind fun (t11,t12,t13) =>
 chk ((!(t12 != 0))=true→(0:Int)≤(q:Int)) <|
 bif ((t12 != 0)||(t13 != (shlK .i64 1 (q:Int)))) then ((Ay (Ap.mk (Ae.mk t.Qubits t.XImages t.ZImages) S) 1 (q:Int) 0).bind fun Q =>
 (whX (Dw (q:Int)) fuel (Q.t.Qubits,Q.t.XImages,Q.t.ZImages,Q.gates,(IntKind.i64.wrap ((q:Int)+1)))).bind<|orR fun (Qubits9,XImages9,ZImages9,gates9,s2) =>
 (((((getI ZImages9 (q:Int)).bind fun x5 =>
 some ((x5.Phase,x5.X,x5.Z))):Option (Int×Int×Int)).bind fun (t17,t18,t19) =>
 (Bs (Aa.mk t17 t18 t19) (q:Int)).bind fun aa =>
 bif (aa==89) then ((Ay (Ap.mk (Ae.mk Qubits9 XImages9 ZImages9) gates9) 5 (q:Int) 0).bind fun u =>
 some (u.t.Qubits,u.t.XImages,u.t.ZImages,u.gates)) else (some (Qubits9,XImages9,ZImages9,gates9))):Option (Int×List Aa×List Aa×List Ab)).bind fun (Qubits11,XImages11,ZImages11,gates11) =>
 (((whX (D0 (q:Int)) fuel (Qubits11,XImages11,ZImages11,gates11,(IntKind.i64.wrap ((q:Int)+1)))).bind<|orR fun (Qubits13,XImages13,ZImages13,gates13,s3) =>
 some ((Qubits13,XImages13,ZImages13,gates13))):Option (Int×List Aa×List Aa×List Ab)).bind fun (Qubits12,XImages12,ZImages12,gates12) =>
 (Ay (Ap.mk (Ae.mk Qubits12 XImages12 ZImages12) gates12) 1 (q:Int) 0).bind fun D =>
 some (D.t.Qubits,D.t.XImages,D.t.ZImages,D.gates)) else (some (t.Qubits,t.XImages,t.ZImages,S)):Option (Int×List Aa×List Aa×List Ab))=some (O.Qubits,O.XImages,O.ZImages,W) ∧
  Sy O n∧Gd n T0 O W (m+30) (e+(2*n+2))∧Fx n q O∧BB O q=(2 ^ q,0)∧BB O (n+q)=(0,2 ^ q):=by
 have hn:=h.ok.hn
 obtain ⟨p,gp,op⟩:=h.ok.pz q V
 have ap:BB t (n+q)=(xB t.ZImages q,zB t.ZImages q):=Bw h.ok
 have hu:IntKind.u64.wrap (q:Int)=(q:Int):=Ci (by omega)
 have hw:IntKind.i64.wrap ((q:Int)+1)=((q+1:Nat):Int):=wrap_i64 ⟨by omega,by omega⟩
 have bb:2 ^ q≤32:=Nat.pow_le_pow_right (n:=2) (by decide) (show q≤5 by omega)
 have s1:shlK .i64 1 (q:Int)=((2 ^ q:Nat):Int):=by rw [show (1:Int)=((1:Nat):Int) from rfl,IP (by omega) (by omega),Nat.one_mul]
 have aq:∀ {α:Type} {c:Prop} [Decidable c] (x:Option α),chk (c→(0:Int)≤(q:Int)) x=x:=fun {α c} _ x=>chk_t (fun _=>by omega)
 have hT:∀ t:Ae,Ae.mk t.Qubits t.XImages t.ZImages=t:=fun t=>rfl
 have hP:∀ p:Aa,Aa.mk p.Phase p.X p.Z=p:=fun p=>rfl
 rw [getI_nat,gp]
 simp only [Option.bind_some,hu,s1,aq,hT,hw]
 rw [op.ex,op.ez]
 by_cases he:xB t.ZImages q=0∧zB t.ZImages q=2 ^ q
 ·rw [he.1,he.2,show ((((0:Nat):Int) != 0)||(((2 ^ q:Nat):Int) != ((2 ^ q:Nat):Int)))=false by simp]
  exact ⟨t,S,rfl,rfl,h,AA hd (by omega),hf,hb,by rw [ap,he.1,he.2]⟩
 ·rw [show ((((xB t.ZImages q:Nat):Int) != 0)||(((zB t.ZImages q:Nat):Int) != ((2 ^ q:Nat):Int)))=true by
   rw [Bool.or_eq_true,bne_iff_ne,bne_iff_ne]
   rcases Classical.em (xB t.ZImages q=0) with h0 | h0
   ·exact .inr (fun e=>he ⟨h0,Int.ofNat.inj e⟩)
   ·exact .inl (fun e=>h0 (Int.ofNat.inj e))]
  obtain ⟨t1,g1,a1,a2,a3,a4,a5,a6,_⟩:=Dc h (by omega) hf (k:=1) (a:=q) (b:=0) ⟨V,.inl ⟨.inl rfl,rfl⟩⟩ (Nat.le_refl q) (fun h9=>by cases h9) hd (by omega)
  have af:aH q (2 ^ q,0)=(0,2 ^ q):=by
   unfold aH
   simp [Nat.testBit_two_pow]
  have av:aH q (0,2 ^ q)=(2 ^ q,0):=by
   unfold aH
   simp [Nat.testBit_two_pow]
  have b1:BB t1 q=(0,2 ^ q):=by rw [a6 q (by omega),hb]; exact af
  obtain ⟨o,g2,c1,c2,c3,c4,c5,c6,c7⟩:=Tr a3 V a5 b1 a4 (by simp; omega)
  obtain ⟨p2,ah,ai⟩:=c3.ok.pz q V
  have P:BB o (n+q)=(xB o.ZImages q,zB o.ZImages q):=Bw c3.ok
  have J:(BB o (n+q)).1.testBit q=true:=by
   have:=c3.om (n+q) q (by omega) (by omega)
   rw [c6,(Ji (show q<5 by omega) _).2] at this
   rw [this]
   exact decide_eq_true (by omega)
  have l1:=Db ai (q:=q) (by omega)
  have l2:=F2 ai (q:=q) (by omega)
  rw [P] at J c7
  simp only at J c7
  obtain ⟨_,ay,_,_,k3,_⟩:=Ea ((xB o.ZImages q).testBit q) ((zB o.ZImages q).testBit q)
  -- the turn on the wire
  obtain ⟨H,U,aA,aB,s3,s4,s5,s6,s7,s8⟩:∃ H U,(((bif (zB o.ZImages q).testBit q then ((Ax (Aq.mk o g2) 5 (q:Int) 0).bind fun u=>some (u.t.Qubits,u.t.XImages,u.t.ZImages,u.out)) else (some (o.Qubits,o.XImages,o.ZImages,g2))):Option (Int×List Aa×List Aa×List Ab))=some (H.Qubits,H.XImages,H.ZImages,U)) ∧
    (((bif (zB o.ZImages q).testBit q then ((Ay (Ap.mk o g2) 5 (q:Int) 0).bind fun u=>some (u.t.Qubits,u.t.XImages,u.t.ZImages,u.gates)) else (some (o.Qubits,o.XImages,o.ZImages,g2))):Option (Int×List Aa×List Aa×List Ab))=some (H.Qubits,H.XImages,H.ZImages,U)) ∧
    Sy H n∧Gd n T0 H U (m+1+12+3) (e+1+n)∧Fx n q H∧BB H q=(0,2 ^ q)∧(BB H (n+q)).2=0∧(BB H (n+q)).1.testBit q=true:=by
   cases aj:(zB o.ZImages q).testBit q with
   | false =>
    refine ⟨o,g2,rfl,rfl,c3,AA c4 (by simp),c5,c6,?_,by rw [P]; exact J⟩
    rw [P]
    apply Nat.eq_of_testBit_eq
    intro j
    rw [Nat.zero_testBit]
    by_cases hj:j=q
    ·subst hj; exact aj
    ·exact c7 j hj
   | true =>
    obtain ⟨H,U,d1,d2,d3,d4,d5,d6,_⟩:=Dc c3 (by omega) c5 (k:=5) (a:=q) (b:=0) ⟨V,.inl ⟨.inr (.inr (.inr rfl)),rfl⟩⟩ (Nat.le_refl q) (fun h9=>by cases h9) c4 (by simp; omega)
    have aE:Ax (Aq.mk o g2) 5 (q:Int) 0=some (Aq.mk H U):=d1
    have aF:Ay (Ap.mk o g2) 5 (q:Int) 0=some (Ap.mk H U):=d2
    have e1:BB H q=aS q (BB o q):=d6 q (by omega)
    have e2:BB H (n+q)=aS q (BB o (n+q)):=d6 (n+q) (by omega)
    refine ⟨H,U,by rw [cond_true,aE]; rfl,by rw [cond_true,aF]; rfl,d3,AA d4 (by simp),d5,?_,?_,?_⟩
    ·rw [e1,c6]; unfold aS; simp
    ·rw [e2,P]
     apply Nat.eq_of_testBit_eq
     intro j
     rw [(EX q j _).2,Nat.zero_testBit]
     by_cases hj:q=j
     ·subst hj
      rw [if_pos rfl]
      simp only
      rw [aj,J]; rfl
     ·rw [if_neg hj]; exact c7 j (Ne.symm hj)
    ·rw [e2,P,(EX q q _).1]; exact J
  obtain ⟨t4,g4,f1,f2,f3,f4,f5,f6,f7⟩:=Sr s3 V s5 s6 s7 s8 s4 (by omega)
  obtain ⟨t5,g5,h1,h2,h3,h4,h5,h6,_⟩:=Dc f3 (by omega) f5 (k:=1) (a:=q) (b:=0) ⟨V,.inl ⟨.inl rfl,rfl⟩⟩ (Nat.le_refl q) (fun h9=>by cases h9) f4 (by omega)
  have aJ:Ax (Aq.mk t S) 1 (q:Int) 0=some (Aq.mk t1 g1):=a1
  have aK:Ay (Ap.mk t S) 1 (q:Int) 0=some (Ap.mk t1 g1):=a2
  have aL:Ax (Aq.mk t4 g4) 1 (q:Int) 0=some (Aq.mk t5 g5):=h1
  have aM:Ay (Ap.mk t4 g4) 1 (q:Int) 0=some (Ap.mk t5 g5):=h2
  refine ⟨t5,g5,?_,?_,h3,AA h4 (by simp),h5,?_,?_⟩
  ·simp only [cond_true,aJ,Option.bind_some,c1,orR]
   rw [getI_nat,ah,Option.bind_some,l1,Option.bind_some,k3,J,Bool.true_and,hT,aA]
   simp only [Option.bind_some,f1,orR,hT,aL]
  ·simp only [cond_true,aK,Option.bind_some,c2,orR]
   rw [getI_nat,ah,Option.bind_some]
   simp only [Option.bind_some,hP]
   rw [l2,Option.bind_some,ay,J,Bool.true_and,hT,aB]
   simp only [Option.bind_some,f2,orR,hT,aM]
  ·rw [h6 q (by omega),f6]; exact av
  ·rw [h6 (n+q) (by omega),f7]; exact af

/-- A row with no sign. -/
theorem Km {t:Ae} {n r x z:Nat} (h:A8 t n) (J:r<2*n) (hb:BB t r=(x,z)) (u:(rwT t r).Phase=0):rwT t r=Aa.mk 0 (x:Int) (z:Int):=by
 have o:=(row_ok h J).1
 rw [hb] at o
 have D:=o.ex; have H:=o.ez
 generalize rwT t r=p at *
 obtain ⟨a,b,c⟩:=p
 simp only at u D H
 rw [u,D,H]
theorem Il (k a b:Nat) (t:Ae) (r:Nat):(An k a b (rwT t r)).Phase=((rwT t r).Phase+dph k a b (BB t r)) % 4:=rfl
theorem Nz (q:Nat):dph 4 q 0 (2 ^ q,0)=2:=by unfold dph dB; simp [Nat.testBit_two_pow]
theorem LX (q:Nat):dph 2 q 0 (2 ^ q,0)=0∧dph 2 q 0 (0,2 ^ q)=2:=by unfold dph dB; simp [Nat.testBit_two_pow]
theorem TK {T0 t:Ae} {n q:Nat} (h:Sy t n) (P:q<n) (hf:Fx n q t) (Q:BB t q=(2 ^ q,0)) {J:List Ab} {m e:Nat} (hd:Gd n T0 t J m e) (hm:m≤9000) :
  ∃ u D,(((getI t.XImages (q:Int)).bind fun x9 =>
 bif (x9.Phase==2) then ((Ax (Aq.mk (Ae.mk t.Qubits t.XImages t.ZImages) J) 4 (q:Int) 0).bind fun o =>
 some (o.t.Qubits,o.t.XImages,o.t.ZImages,o.out)) else (some (t.Qubits,t.XImages,t.ZImages,J))):Option (Int×List Aa×List Aa×List Ab))=some (u.Qubits,u.XImages,u.ZImages,D) ∧
 ((((getI t.XImages (q:Int)).bind fun S =>
 some ((S.Phase,S.X,S.Z))):Option (Int×Int×Int)).bind fun (t23,t24,t25) =>
 bif (t23==2) then ((Ay (Ap.mk (Ae.mk t.Qubits t.XImages t.ZImages) J) 4 (q:Int) 0).bind fun o =>
 some (o.t.Qubits,o.t.XImages,o.t.ZImages,o.gates)) else (some (t.Qubits,t.XImages,t.ZImages,J)):Option (Int×List Aa×List Aa×List Ab))=some (u.Qubits,u.XImages,u.ZImages,D)∧Sy u n∧Gd n T0 u D (m+1) e∧Fx n q u∧(∀ r,r<2*n→BB u r=BB t r)∧(rwT u q).Phase=0:=by
 obtain ⟨p,gp,_⟩:=h.ok.px q P
 rw [getI_nat,gp]
 simp only [Option.bind_some]
 have H:=row_x h.ok P gp
 have U:=hd.ev q (by omega)
 have V:=(row_ok h.ok (show q<2*n by omega)).1.ph
 rw [H] at U V
 cases O:p.Phase==2 with
 | false=>exact ⟨t,J,rfl,rfl,h,AA hd (by omega),hf,fun _ _=>rfl,by rw [H]; simp only [beq_eq_false_iff_ne] at O; omega⟩
 | true =>
  obtain ⟨u,D,e1,e2,e3,e4,e5,e6,e7⟩:=Dc h (by omega) hf (k:=4) (a:=q) (b:=0) ⟨P,.inl ⟨.inr (.inr (.inl rfl)),rfl⟩⟩ (Nat.le_refl q) (fun h9=>by cases h9) hd (by omega)
  have W:Ax (Aq.mk t J) 4 (q:Int) 0=some (Aq.mk u D):=e1
  have aa:Ay (Ap.mk t J) 4 (q:Int) 0=some (Ap.mk u D):=e2
  refine ⟨u,D,?_,?_,e3,AA e4 (by simp),e5,fun r hr=>e6 r hr,by rw [e7 q (by omega),Il,Q,Nz,H,eq_of_beq O]; rfl⟩
  ·rw [cond_true,W]; rfl
  ·rw [cond_true,aa]; rfl
theorem NI {T0 t:Ae} {n q:Nat} (h:Sy t n) (hq:q<n) (hf:Fx n q t) (Q:BB t q=(2 ^ q,0)) (S:BB t (n+q)=(0,2 ^ q)) (O:(rwT t q).Phase=0) {J:List Ab} {m e:Nat} (hd:Gd n T0 t J m e) (hm:m≤9000) :
  ∃ u D,(((getI t.ZImages (q:Int)).bind fun x9 =>
 bif (x9.Phase==2) then ((Ax (Aq.mk (Ae.mk t.Qubits t.XImages t.ZImages) J) 2 (q:Int) 0).bind fun o =>
 some (o.t.Qubits,o.t.XImages,o.t.ZImages,o.out)) else (some (t.Qubits,t.XImages,t.ZImages,J))):Option (Int×List Aa×List Aa×List Ab))=some (u.Qubits,u.XImages,u.ZImages,D) ∧
 ((((getI t.ZImages (q:Int)).bind fun U =>
 some ((U.Phase,U.X,U.Z))):Option (Int×Int×Int)).bind fun (t23,t24,t25) =>
 bif (t23==2) then ((Ay (Ap.mk (Ae.mk t.Qubits t.XImages t.ZImages) J) 2 (q:Int) 0).bind fun o =>
 some (o.t.Qubits,o.t.XImages,o.t.ZImages,o.gates)) else (some (t.Qubits,t.XImages,t.ZImages,J)):Option (Int×List Aa×List Aa×List Ab))=some (u.Qubits,u.XImages,u.ZImages,D)∧Sy u n∧Gd n T0 u D (m+1) e∧Fx n q u∧(∀ r,r<2*n→BB u r=BB t r)∧(rwT u q).Phase=0∧(rwT u (n+q)).Phase=0:=by
 obtain ⟨p,gp,_⟩:=h.ok.pz q hq
 rw [getI_nat,gp]
 simp only [Option.bind_some]
 have H:=row_z h.ok gp
 have V:=hd.ev (n+q) (by omega)
 have W:=(row_ok h.ok (show n+q<2*n by omega)).1.ph
 rw [H] at V W
 cases P:p.Phase==2 with
 | false=>exact ⟨t,J,rfl,rfl,h,AA hd (by omega),hf,fun _ _=>rfl,O,by rw [H]; simp only [beq_eq_false_iff_ne] at P; omega⟩
 | true =>
  obtain ⟨u,D,e1,e2,e3,e4,e5,e6,e7⟩:=Dc h (by omega) hf (k:=2) (a:=q) (b:=0) ⟨hq,.inl ⟨.inr (.inl rfl),rfl⟩⟩ (Nat.le_refl q) (fun h9=>by cases h9) hd (by omega)
  have aa:Ax (Aq.mk t J) 2 (q:Int) 0=some (Aq.mk u D):=e1
  have ab:Ay (Ap.mk t J) 2 (q:Int) 0=some (Ap.mk u D):=e2
  refine ⟨u,D,?_,?_,e3,AA e4 (by simp),e5,fun r hr=>e6 r hr,by rw [e7 q (by omega),Il,Q,(LX q).1,O]; rfl,by rw [e7 (n+q) (by omega),Il,S,(LX q).2,H,eq_of_beq P]; rfl⟩
  ·rw [cond_true,aa]; rfl
  ·rw [cond_true,ab]; rfl
theorem N4 {T T0 t:Ae} {n q:Nat} (P:T.Qubits=(n:Int)) (h:Sy t n) (u:q<n) (hf:Fx n q t) {Q:List Ab} {m e:Nat} (hd:Gd n T0 t Q m e) (hm:m≤1000) :
  ∃ o D,Do T (t.Qubits,t.XImages,t.ZImages,Q,(q:Int))=some (.nx (o.Qubits,o.XImages,o.ZImages,D,((q+1:Nat):Int)))∧DJ T (t.Qubits,t.XImages,t.ZImages,Q,(q:Int))=some (.nx (o.Qubits,o.XImages,o.ZImages,D,((q+1:Nat):Int)))∧Sy o n∧Gd n T0 o D (m+62) (e+(4*n+2))∧Fx n (q+1) o:=by
 have hn:=h.ok.hn
 obtain ⟨t2,g2,a1,a2,V,a4,W,Z⟩:=S9 h u hf hd (by omega)
 obtain ⟨A,bq,bn,b1,b2,b3,b4⟩:=QG V u W Z
 obtain ⟨t3,g3,c1,c2,c3,c4,c5,c6,c7⟩:=Qs V u W Z bq bn b3 b4 a4 (by omega)
 obtain ⟨t4,g4,d1,d2,d3,d4,d5,d6⟩:=PR c3 u c5 c6 c7 c4 (by omega)
 obtain ⟨t5,g5,e1,e2,e3,e4,e5,S,e7⟩:=RD d3 u d5 d6 d4 (by omega)
 obtain ⟨t6,g6,f1,f2,f3,f4,f5,J,f7⟩:=TK e3 u e5 S e4 (by omega)
 obtain ⟨t7,g7,h1,h2,U,h4,h5,h6,h7,h8⟩:=NI f3 u f5 (by rw [J q (by omega)]; exact S) (by rw [J (n+q) (by omega)]; exact e7) f7 f4 (by omega)
 have H:decide ((q:Int)<T.Qubits)=true:=by rw [P]; exact decide_eq_true (by omega)
 have O:IntKind.i64.wrap ((q:Int)+1)=((q+1:Nat):Int):=wrap_i64 ⟨by omega,by omega⟩
 refine ⟨t7,g7,?_,?_,U,AA h4 (by omega),fun j hj=>?_⟩
 ·unfold Do
  simp only
  rw [H,cond_true,a1]
  simp only [orR,Option.bind_some]
  rw [b1]
  simp only [orR,Option.bind_some]
  rw [c1]
  simp only [orR,Option.bind_some]
  rw [O,d1]
  simp only [orR,Option.bind_some]
  rw [O] at e1
  rw [e1]
  simp only [orR,Option.bind_some]
  rw [f1]
  simp only [orR,Option.bind_some]
  rw [h1]
  simp only [Option.bind_some]
 ·unfold DJ
  simp only
  rw [H,cond_true,a2]
  simp only [orR,Option.bind_some]
  rw [b2]
  simp only [orR,Option.bind_some]
  rw [c2]
  simp only [orR,Option.bind_some]
  rw [O,d2]
  simp only [orR,Option.bind_some]
  rw [O] at e2
  rw [e2]
  simp only [orR,Option.bind_some]
  rw [f2]
  simp only [orR,Option.bind_some]
  rw [h2]
  simp only [Option.bind_some]
 ·rcases Nat.lt_or_ge j q with hjq | hjq
  ·exact h5 j hjq
  ·have:j=q:=by omega
   subst this
   exact ⟨Km U.ok (by omega) (by rw [h6 j (by omega),J j (by omega)]; exact S) h7,Km U.ok (by omega) (by rw [h6 (n+j) (by omega),J (n+j) (by omega)]; exact e7) h8⟩

end Go.VK
