/- The plain law of FnBestRoutes: what its Lean function answers, for all arguments. -/
import Derived.Test.YtboiaghjocmpiaaGreatLBestRoutesFn
import Derived.Test.YtboiaghjocmpiaaGreatLibI
set_option maxRecDepth 10000
set_option maxHeartbeats 1000000
set_option linter.unusedSimpArgs false
set_option linter.unusedVariables false
namespace Go.VK
theorem Fc {σ ρ:Type} {f:σ→Option (Ex σ ρ)} (I:σ→Prop) (Q:σ→Prop) (Qr:ρ→Prop) (m:σ→Nat)
  (h:∀ s,I s→(∃ s',f s=some (.nx s')∧I s'∧m s'<m s)∨(∃ s',f s=some (.br s')∧Q s')∨∃ r,f s=some (.rt r)∧Qr r) :
  ∀ (k:Nat) (s:σ),I s→m s<k→(∃ s',whX f k s=some (.inl s')∧Q s')∨∃ r,whX f k s=some (.inr r)∧Qr r
 | 0,_,_,hm=>absurd hm (Nat.not_lt_zero _)
 | k+1,s,hI,hm=>by
  rcases h s hI with ⟨s',h1,h2,h3⟩ | ⟨s',h1,h2⟩ | ⟨r,h1,h2⟩
  ·rcases Fc I Q Qr m h k s' h2 (by omega) with ⟨s'',h4,h5⟩ | ⟨r,h4,h5⟩
   ·exact .inl ⟨s'',by simp only [whX,h1,Option.bind_some]; exact h4,h5⟩
   ·exact .inr ⟨r,by simp only [whX,h1,Option.bind_some]; exact h4,h5⟩
  ·exact .inl ⟨s',by simp only [whX,h1,Option.bind_some],h2⟩
  ·exact .inr ⟨r,by simp only [whX,h1,Option.bind_some],h2⟩
/-- Two loops in step that both end by themselves. -/
theorem Kj {σ ρ ρ':Type} {f:σ→Option (Ex σ ρ)} {g:σ→Option (Ex σ ρ')} (I:σ→Prop) (Q:σ→Prop) (m:σ→Nat)
  (h:∀ s,I s→(∃ s',f s=some (.nx s')∧g s=some (.nx s')∧I s'∧m s'<m s)∨∃ s',f s=some (.br s')∧g s=some (.br s')∧Q s') :
  ∀ (k:Nat) (s:σ),I s→m s<k→∃ s',whX f k s=some (.inl s')∧whX g k s=some (.inl s')∧Q s'
 | 0,_,_,hm=>absurd hm (Nat.not_lt_zero _)
 | k+1,s,hI,hm=>by
  rcases h s hI with ⟨s',h1,h1',h2,h3⟩ | ⟨s',h1,h1',h2⟩
  ·obtain ⟨s'',h4,h4',h5⟩:=Kj I Q m h k s' h2 (by omega)
   exact ⟨s'',by simp only [whX,h1,Option.bind_some]; exact h4,by simp only [whX,h1',Option.bind_some]; exact h4',h5⟩
  ·exact ⟨s',by simp only [whX,h1,Option.bind_some],by simp only [whX,h1',Option.bind_some],h2⟩
theorem Ba {n:Nat} (h:n<18446744073709551616):n<fuel:=h

/-- A coefficient that is taken. -/
def BM (n:Int):Bool:=decide (-1000000000≤n)&&decide (n≤1000000000)
def rOk (x:Aa):Bool:=BM x.A&&BM x.B&&BM x.C&&BM x.D
def Bb (x:Aa):Bool:=(Int.tmod (IntKind.i64.wrap (x.A+x.C)) 2==0)&&(Int.tmod (IntKind.i64.wrap (x.B+x.D)) 2==0)
def dOk (x:Ab):Bool:=rOk x.Num&&(decide (0≤x.Exp)&&decide (x.Exp≤60))&&((x.Exp==0)||!Bb x.Num)
theorem SM {n:Int}:BM n=true↔-1000000000≤n∧n≤1000000000:=by simp [BM]
theorem By {x:Aa}:rOk x=true↔((-1000000000≤x.A∧x.A≤1000000000)∧(-1000000000≤x.B∧x.B≤1000000000))∧((-1000000000≤x.C∧x.C≤1000000000)∧(-1000000000≤x.D∧x.D≤1000000000)):=by
 simp only [rOk,Bool.and_eq_true,SM]
 constructor
 ·rintro ⟨⟨⟨a,b⟩,c⟩,d⟩; exact ⟨⟨a,b⟩,c,d⟩
 ·rintro ⟨⟨a,b⟩,c,d⟩; exact ⟨⟨⟨a,b⟩,c⟩,d⟩
theorem U2 (x:Aa):KC x=some (rOk x):=by
 unfold KC NF
 rw [chk_t (by simp)]
 rcases forX_any (f:=Ks [x.A,x.B,x.C,x.D] (-1000000000) 1000000000) (l:=[x.A,x.B,x.C,x.D]) (p:=fun n=>!BM n) (q:=fun _=>false) (fun i y hy=>by
  have e:AF y (-1000000000) 1000000000=some (BM y):=rfl
  unfold Ks; simp only [getI_nat,hy,Option.bind_some,e]; cases BM y <;> rfl) with ⟨h1,h2⟩ | ⟨h1,i,_,h2⟩
 ·rw [h2]; simp at h1; simp [orR,rOk,h1]
 ·rw [h2]; simp only [Option.bind_some,orR]; congr 1; symm
  cases h:rOk x with
  | false=>rfl
  | true=>simp only [rOk,Bool.and_eq_true] at h; simp [h] at h1
theorem RE (n:Int):DF n=some (BM n):=rfl
theorem DI (x:Aa):CD x=some (rOk x):=by
 unfold CD rOk
 simp only [RE,Option.bind_some,gb]
 cases BM x.A <;> cases BM x.B <;> cases BM x.C <;> cases BM x.D <;> rfl
theorem TU (x:Aa):Nt x=some (Bb x):=rfl
theorem Gy (x:Aa):EN x=some (Bb x):=rfl
theorem D0 (x:Ab):Cp x=some (dOk x):=by
 unfold Cp A2 dOk
 simp only [DI,Gy,Option.bind_some,gb]
 cases rOk x.Num <;> cases decide (0≤x.Exp)&&decide (x.Exp≤60) <;> cases x.Exp==0 <;> cases Bb x.Num <;> rfl
def An:Aa:=Aa.mk 0 0 0 0
def Aj:Ab:=Ab.mk An 0
theorem In (out:Aa) (args:List Aa) (hl:args.length≤10):Ca out args=some (if args.all rOk&&rOk out then (out,true) else (An,false)):=by
 unfold Ca
 rw [chk_t (by omega),chk_t (by simp; omega)]
 rcases forX_any (f:=GP args out) (l:=args++[out]) (p:=fun x=>!rOk x) (q:=fun _=>(Aa.mk 0 0 0 0,false)) (fun i y hy=>by
  unfold GP; simp only [getI_nat,hy,Option.bind_some,DI]; cases rOk y <;> rfl) with ⟨h1,h2⟩ | ⟨h1,i,_,h2⟩
 ·rw [h2]
  have:(args.all rOk&&rOk out)=true:=by
   simp only [List.any_append,List.any_cons,List.any_nil,Bool.or_false,Bool.or_eq_false_iff] at h1
   simp only [Bool.and_eq_true,List.all_eq_true]
   exact ⟨fun x hx=>by have:=List.any_eq_false.1 h1.1 x hx; simpa using this,by simpa using h1.2⟩
  rw [this]; rfl
 ·rw [h2]
  have:(args.all rOk&&rOk out)=false:=by
   simp only [List.any_append,List.any_cons,List.any_nil,Bool.or_false,Bool.or_eq_true] at h1
   rcases h1 with h | h
   ·obtain ⟨x,hx,hp⟩:=List.any_eq_true.1 h
    have:args.all rOk=false:=by rw [List.all_eq_false]; exact ⟨x,hx,by simpa using hp⟩
    rw [this]; rfl
   ·simp at h; rw [h]; simp
  rw [this]; rfl

def CH (x:Aa):Aa:=Aa.mk (Int.tdiv (x.B-x.D) 2) (Int.tdiv (x.A+x.C) 2) (Int.tdiv (x.B+x.D) 2) (Int.tdiv (x.C-x.A) 2)
def At (x:Aa):Aa:=Aa.mk (x.B-x.D) (x.A+x.C) (x.B+x.D) (x.C-x.A)
theorem wr {a:Int} (h : -9000000000000000000≤a∧a≤9000000000000000000):IntKind.i64.wrap a=a:=wrap_i64 ⟨by omega,by omega⟩
theorem Ih {a:Int} (h : -2000000000≤a∧a≤2000000000) : -1000000000≤Int.tdiv a 2∧Int.tdiv a 2≤1000000000:=by
 rcases Int.le_total 0 a with h0 | h0
 ·rw [Int.tdiv_eq_ediv_of_nonneg h0]; omega
 ·have e:a = -(-a):=by omega
  rw [e,Int.neg_tdiv,Int.tdiv_eq_ediv_of_nonneg (by omega)]; omega
theorem IS {x:Aa} (h:rOk x=true):rOk (CH x)=true:=by
 rw [By] at h ⊢
 exact ⟨⟨Ih (by omega),Ih (by omega)⟩,Ih (by omega),Ih (by omega)⟩
theorem J6 {x:Aa} (h:rOk x=true):HQ x=some (At x):=by
 rw [By] at h
 unfold HQ At
 rw [wr (a:=x.B-x.D) (by omega),wr (a:=x.A+x.C) (by omega),wr (a:=x.B+x.D) (by omega),wr (a:=x.C-x.A) (by omega)]
theorem Si {x:Aa} (h:rOk x=true):Jx x=some (CH x):=by
 unfold Jx
 rw [J6 h]
 have h':=h
 rw [By] at h
 have t:=IS h'
 rw [By] at t
 simp only [Option.bind_some,At]
 unfold CH at t ⊢
 simp only at t
 rw [wr (a:=Int.tdiv (x.B-x.D) 2) (by omega),wr (a:=Int.tdiv (x.A+x.C) 2) (by omega),wr (a:=Int.tdiv (x.B+x.D) 2) (by omega),wr (a:=Int.tdiv (x.C-x.A) 2) (by omega)]
theorem Od {x:Aa} (h:rOk x=true) (he:Bb x=true):Gb x=some (CH x,true):=by
 unfold Gb
 have h':=h
 have t:=IS h'
 have tt:=t
 rw [By] at h t
 simp only [DI,Gy,h',he,Option.bind_some,gb,Bool.not_true,Bool.not_false,cond_true,Bool.or_self,cond_false]
 rw [wr (a:=x.B-x.D) (by omega),wr (a:=x.A+x.C) (by omega),wr (a:=x.B+x.D) (by omega),wr (a:=x.C-x.A) (by omega)]
 unfold CH at t tt ⊢
 simp only at t
 rw [wr (a:=Int.tdiv (x.B-x.D) 2) (by omega),wr (a:=Int.tdiv (x.A+x.C) 2) (by omega),wr (a:=Int.tdiv (x.B+x.D) 2) (by omega),wr (a:=Int.tdiv (x.C-x.A) 2) (by omega)]
 rw [In _ _ (by simp)]
 simp [h',tt]
/-- Both bring a number to its lowest terms, and alike. -/
theorem CR {x:Aa} {e:Int} (hx:rOk x=true) (he:0≤e∧e≤60):∃ z,FA x e=some z∧AR x e=some (z,true)∧dOk z=true:=by
 obtain ⟨⟨e',A,B,C,D⟩,h1,h2,h3,h4,h5,h6⟩:=Kj (f:=KP) (g:=Cx) (fun s=>rOk (Aa.mk s.2.1 s.2.2.1 s.2.2.2.1 s.2.2.2.2)=true∧0≤s.1∧s.1≤60)
  (fun s=>rOk (Aa.mk s.2.1 s.2.2.1 s.2.2.2.1 s.2.2.2.2)=true∧0≤s.1∧s.1≤60∧((s.1==0)||!Bb (Aa.mk s.2.1 s.2.2.1 s.2.2.2.1 s.2.2.2.2))=true) (fun s=>s.1.toNat)
  (fun s ⟨hr,h0,h60⟩=>by
   obtain ⟨e,A,B,C,D⟩:=s
   simp only at hr h0 h60
   unfold KP Cx
   simp only [TU,Gy,Option.bind_some,gb]
   by_cases hpos:0<e
   ·rw [decide_eq_true hpos]
    cases hev:Bb (Aa.mk A B C D) with
    | true =>
     simp only [cond_true,Bool.and_self,Si hr,Od hr hev,Option.bind_some]
     refine .inl ⟨_,rfl,rfl,⟨IS hr,?_⟩,?_⟩
     ·show 0≤IntKind.i64.wrap (e-1)∧IntKind.i64.wrap (e-1)≤60
      rw [wr (by omega)]; omega
     ·show (IntKind.i64.wrap (e-1)).toNat<e.toNat
      rw [wr (by omega)]; omega
    | false =>
     simp only [cond_true,Bool.and_false,cond_false]
     exact .inr ⟨_,rfl,rfl,hr,h0,h60,by simp [hev]⟩
   ·rw [decide_eq_false hpos]
    simp only [cond_false,Bool.false_and]
    have:e=0:=by omega
    exact .inr ⟨_,rfl,rfl,hr,h0,h60,by simp [this]⟩)
  fuel (e,x.A,x.B,x.C,x.D) ⟨hx,he.1,he.2⟩ (Ba (by omega))
 refine ⟨Ab.mk (Aa.mk A B C D) e',?_,?_,?_⟩
 ·unfold FA; rw [h1]; rfl
 ·unfold AR A2
  simp only [DI,hx,Option.bind_some,gb,Bool.not_true,Bool.not_false,cond_true,Bool.false_or]
  rw [decide_eq_true he.1,decide_eq_true he.2]
  simp only [Bool.and_self,Bool.not_true,cond_false]
  rw [h2]; rfl
 ·simp only at h3 h4 h5 h6
  unfold dOk
  simp only [h3,decide_eq_true h4,decide_eq_true h5,Bool.true_and,Bool.and_self]
  exact h6

theorem AE {x:Ab} (h:dOk x=true):rOk x.Num=true∧0≤x.Exp∧x.Exp≤60:=by
 unfold dOk at h
 simp only [Bool.and_eq_true,decide_eq_true_eq] at h
 exact ⟨h.1.1,h.1.2.1,h.1.2.2⟩
theorem BC:dOk Aj=true:=by decide
theorem BU:rOk An=true:=by decide
def cB (b:Bool):A0:=A0.mk b
theorem DS (b:Bool) (x:Aa):DK (cB b) x=some (if rOk x then (x,cB b) else (An,cB true)):=by
 unfold DK
 rw [U2]
 simp only [Option.bind_some]
 cases rOk x <;> rfl
def AU (x y:Aa):Aa:=(I5 x y).getD An
theorem Em {x y:Aa} (hx:rOk x=true) (hy:rOk y=true):Dh x y=some (if rOk (AU x y) then (AU x y,true) else (An,false)):=by
 have e:=In (AU x y) [x,y] (by simp)
 simp only [List.all_cons,List.all_nil,hx,hy,Bool.true_and] at e
 have e2:Dh x y=(Ca (AU x y) [x,y]).bind fun p=>some (p.1,p.2):=rfl
 rw [e2,e]
 cases rOk (AU x y) <;> rfl
theorem JJ {x y:Ab} (hx:dOk x=true) (hy:dOk y=true) :
  (∃ z,dOk z=true∧(∀ b,CC (cB b) x y=some (z,cB b))∧Bf x y=some (z,true)) ∨
   ((∀ b,∃ z,dOk z=true∧CC (cB b) x y=some (z,cB true))∧Bf x y=some (Aj,false)):=by
 obtain ⟨x1,x2,x3⟩:=AE hx
 obtain ⟨y1,y2,y3⟩:=AE hy
 have hw:IntKind.i64.wrap (x.Exp+y.Exp)=x.Exp+y.Exp:=wr (by omega)
 have hi:∀ q:Aa×Bool,Dh x.Num y.Num=some q→Bf x y=(bif !q.2 then some (Aj,false) else (AR q.1 (x.Exp+y.Exp)).bind fun p=>some (p.1,p.2)):=fun q hq=>by
  unfold Bf
  rw [hq]
  simp only [Option.bind_some,D0,hx,hy,gb,Bool.not_true,Bool.not_false,cond_true,Bool.false_or,hw]
  rfl
 by_cases he:x.Exp+y.Exp≤60
 ·have hs:∀ b,CC (cB b) x y=(DK (cB b) (AU x.Num y.Num)).bind fun p=>(FA p.1 (x.Exp+y.Exp)).bind fun r=>some (r,p.2):=fun b=>by
   unfold CC
   rw [hw,decide_eq_false (show ¬ (60:Int)<x.Exp+y.Exp by omega)]
   rfl
  cases hr:rOk (AU x.Num y.Num) with
  | true =>
   obtain ⟨z,z1,z2,z3⟩:=CR hr (e:=x.Exp+y.Exp) ⟨by omega,he⟩
   refine .inl ⟨z,z3,fun b=>?_,?_⟩
   ·rw [hs,DS,hr]; simp only [if_true,Option.bind_some,z1]
   ·rw [hi _ (Em x1 y1),hr]; simp only [if_true,Bool.not_true,cond_false,z2,Option.bind_some]
  | false =>
   refine .inr ⟨fun b=>?_,?_⟩
   ·obtain ⟨z,z1,z2,z3⟩:=CR BU (e:=x.Exp+y.Exp) ⟨by omega,he⟩
    exact ⟨z,z3,by rw [hs,DS,hr]; simp only [Bool.false_eq_true,if_false,Option.bind_some,z1]⟩
   ·rw [hi _ (Em x1 y1),hr]; rfl
 ·refine .inr ⟨fun b=>⟨Aj,BC,?_⟩,?_⟩
  ·unfold CC
   rw [hw,decide_eq_true (show (60:Int)<x.Exp+y.Exp by omega)]
   rfl
  ·rw [hi _ (Em x1 y1)]
   cases hr:rOk (AU x.Num y.Num) with
   | false=>rfl
   | true =>
    simp only [if_true,Bool.not_true,cond_false]
    unfold AR A2
    simp only [DI,hr,Option.bind_some,gb,Bool.not_true,Bool.not_false,cond_true,Bool.false_or]
    rw [decide_eq_false (show ¬ x.Exp+y.Exp≤60 by omega)]
    simp only [Bool.and_false,Bool.not_false,cond_true]
    rfl

theorem Wo {x:Aa} (h:rOk x=true):Fr x=some (if rOk (At x) then (At x,true) else (An,false)):=by
 unfold Fr
 have h':=h
 rw [By] at h
 rw [wr (a:=x.B-x.D) (by omega),wr (a:=x.A+x.C) (by omega),wr (a:=x.B+x.D) (by omega),wr (a:=x.C-x.A) (by omega)]
 have e:=In (At x) [x] (by simp)
 simp only [List.all_cons,List.all_nil,h',Bool.true_and] at e
 show (Ca (At x) [x]).bind _=_
 rw [e]
 cases rOk (At x) <;> rfl
def A7 (b:Bool) (x:Aa) (e:Int):Bool×Int×Int×Int×Int×Int:=(b,x.A,x.B,x.C,x.D,e)
def Be (x:Aa) (ok:Bool) (e:Int):Int×Int×Int×Int×Bool×Int:=(x.A,x.B,x.C,x.D,ok,e)
/-- A number's numerator for a greater exponent, in the specification's loop. -/
theorem Jm {f:Bool×Int×Int×Int×Int×Int→Option (Ex (Bool×Int×Int×Int×Int×Int) (Ab×A0))} {E:Int} (hE:E≤60)
  (hf:∀ b x e,rOk x=true→0≤e→e≤60→f (A7 b x e)=some (bif decide (e<E) then .nx (if rOk (At x) then A7 b (At x) (e+1) else A7 true An (e+1)) else .br (A7 b x e))) :
  ∀ (k:Nat) (b:Bool) (x:Aa) (e:Int),rOk x=true→0≤e→e≤E→(E-e).toNat<k→∃ b' x',whX f k (A7 b x e)=some (.inl (A7 b' x' E))∧rOk x'=true∧(b=true→b'=true)
 | 0,_,_,_,_,_,_,hk=>absurd hk (Nat.not_lt_zero _)
 | k+1,b,x,e,hx,h0,h1,hk=>by
  have h:=hf b x e hx h0 (by omega)
  by_cases hlt:e<E
  ·rw [decide_eq_true hlt,cond_true] at h
   cases hr:rOk (At x) with
   | true =>
    rw [hr] at h; simp only [if_true] at h
    obtain ⟨b',x',e1,e2,e3⟩:=Jm hE hf k b (At x) (e+1) hr (by omega) (by omega) (by omega)
    exact ⟨b',x',by simp only [whX,h,Option.bind_some]; exact e1,e2,e3⟩
   | false =>
    rw [hr] at h; simp only [Bool.false_eq_true,if_false] at h
    obtain ⟨b',x',e1,e2,e3⟩:=Jm hE hf k true An (e+1) BU (by omega) (by omega) (by omega)
    exact ⟨b',x',by simp only [whX,h,Option.bind_some]; exact e1,e2,fun _=>e3 rfl⟩
  ·rw [decide_eq_false hlt,cond_false] at h
   have:e=E:=by omega
   subst this
   exact ⟨b,x,by simp only [whX,h,Option.bind_some],hx,id⟩
theorem DB {E:Int} {x:Aa} {e:Int} (hx:rOk x=true) (h0:0≤e) (h1:e≤60) (ok:Bool) :
  Cw E (Be x ok e)=some (bif decide (e<E)&&ok then .nx (if rOk (At x) then Be (At x) true (e+1) else Be An false (e+1)) else .br (Be x ok e)):=by
 unfold Cw Be
 simp only [Wo hx]
 rw [wr (a:=e+1) (by omega)]
 cases decide (e<E)&&ok <;> cases rOk (At x) <;> rfl
theorem KR {f:Bool×Int×Int×Int×Int×Int→Option (Ex (Bool×Int×Int×Int×Int×Int) (Ab×A0))} {E:Int} (hE:E≤60)
  (hf:∀ b x e,rOk x=true→0≤e→e≤60→f (A7 b x e)=some (bif decide (e<E) then .nx (if rOk (At x) then A7 b (At x) (e+1) else A7 true An (e+1)) else .br (A7 b x e))) :
  ∀ (k:Nat) (x:Aa) (e:Int),rOk x=true→0≤e→e≤E→(E-e).toNat<k →
   (∃ x',rOk x'=true∧(∀ b,whX f k (A7 b x e)=some (.inl (A7 b x' E)))∧whX (Cw E) k (Be x true e)=some (.inl (Be x' true E))) ∨
    ((∀ b,∃ x',rOk x'=true∧whX f k (A7 b x e)=some (.inl (A7 true x' E)))∧∃ x'' e',rOk x''=true∧whX (Cw E) k (Be x true e)=some (.inl (Be x'' false e')))
 | 0,_,_,_,_,_,hk=>absurd hk (Nat.not_lt_zero _)
 | k+1,x,e,hx,h0,h1,hk=>by
  have h:=fun b=>hf b x e hx h0 (by omega)
  have hg:=DB (E:=E) hx h0 (by omega) true
  by_cases hlt:e<E
  ·simp only [decide_eq_true hlt,cond_true,Bool.true_and] at h hg
   cases hr:rOk (At x) with
   | true =>
    simp only [hr,if_true] at h hg
    rcases KR hE hf k (At x) (e+1) hr (by omega) (by omega) (by omega) with ⟨x',e1,e2,e3⟩ | ⟨e1,x'',e',e2,e3⟩
    ·exact .inl ⟨x',e1,fun b=>by simp only [whX,h,Option.bind_some]; exact e2 b,by simp only [whX,hg,Option.bind_some]; exact e3⟩
    ·refine .inr ⟨fun b=>?_,x'',e',e2,by simp only [whX,hg,Option.bind_some]; exact e3⟩
     obtain ⟨x',e4,e5⟩:=e1 b
     exact ⟨x',e4,by simp only [whX,h,Option.bind_some]; exact e5⟩
   | false =>
    simp only [hr,Bool.false_eq_true,if_false] at h hg
    refine .inr ⟨fun b=>?_,An,e+1,BU,?_⟩
    ·obtain ⟨b',x',e1,e2,e3⟩:=Jm hE hf k true An (e+1) BU (by omega) (by omega) (by omega)
     have:b'=true:=e3 rfl
     subst this
     exact ⟨x',e2,by simp only [whX,h,Option.bind_some]; exact e1⟩
    ·cases k with
     | zero=>omega
     | succ k =>
      have hg2:=DB (E:=E) BU (show 0≤e+1 by omega) (by omega) false
      simp only [Bool.and_false,cond_false] at hg2
      simp only [whX,hg,Option.bind_some,hg2]
  ·simp only [decide_eq_false hlt,cond_false,Bool.false_and] at h hg
   have:e=E:=by omega
   subst this
   exact .inl ⟨x,hx,fun b=>by simp only [whX,h,Option.bind_some],by simp only [whX,hg,Option.bind_some]⟩
def AP (x y:Aa):Aa:=(Im x y).getD An
theorem UY {x y:Aa} (hx:rOk x=true) (hy:rOk y=true):Ev x y=some (if rOk (AP x y) then (AP x y,true) else (An,false)):=by
 have e:=In (AP x y) [x,y] (by simp)
 simp only [List.all_cons,List.all_nil,hx,hy,Bool.true_and] at e
 have e2:Ev x y=(Ca (AP x y) [x,y]).bind fun p=>some (p.1,p.2):=rfl
 rw [e2,e]
 cases rOk (AP x y) <;> rfl
theorem Lp (y:Ab) (b:Bool) (x:Aa) (e:Int) (hx:rOk x=true) (h0:0≤e) (h1:e≤60) :
  Eo y (A7 b x e)=some (bif decide (e<y.Exp) then .nx (if rOk (At x) then A7 b (At x) (e+1) else A7 true An (e+1)) else .br (A7 b x e)):=by
 have hr:=DS b (At x)
 unfold cB at hr
 unfold Eo A7
 simp only [J6 hx,hr,Option.bind_some]
 rw [wr (a:=e+1) (by omega)]
 cases decide (e<y.Exp) <;> cases rOk (At x) <;> rfl
theorem Oe (E:Int) (b0:Bool) (A C D:Int) (b:Bool) (x:Aa) (e:Int) (hx:rOk x=true) (h0:0≤e) (h1:e≤60) :
  Fd E b0 A C D (A7 b x e)=some (bif decide (e<E) then .nx (if rOk (At x) then A7 b (At x) (e+1) else A7 true An (e+1)) else .br (A7 b x e)):=by
 have hr:=DS b (At x)
 unfold cB at hr
 unfold Fd A7
 simp only [J6 hx,hr,Option.bind_some]
 rw [wr (a:=e+1) (by omega)]
 cases decide (e<E) <;> cases rOk (At x) <;> rfl
/-- The end of a sum in the specification. -/
def fin (b:Bool) (a c:Aa) (E:Int):Option (Ab×A0) :=
 (DK (cB b) (AP a c)).bind fun p=>(FA p.1 E).bind fun r=>some (r,p.2)
theorem OJ (a c:Aa) {E:Int} (hE:0≤E∧E≤60):∃ z,dOk z=true∧fin true a c E=some (z,cB true):=by
 unfold fin
 rw [DS]
 cases hr:rOk (AP a c) with
 | true =>
  obtain ⟨z,z1,_,z3⟩:=CR hr hE
  exact ⟨z,z3,by simp only [if_true,Option.bind_some,z1]⟩
 | false =>
  obtain ⟨z,z1,_,z3⟩:=CR BU hE
  exact ⟨z,z3,by simp only [Bool.false_eq_true,if_false,Option.bind_some,z1]⟩
theorem Nv {a c:Aa} {E:Int} (hE:0≤E∧E≤60) :
  (rOk (AP a c)=true∧∃ z,dOk z=true∧(∀ b,fin b a c E=some (z,cB b))∧AR (AP a c) E=some (z,true))∨(rOk (AP a c)=false∧∀ b,∃ z,dOk z=true∧fin b a c E=some (z,cB true)):=by
 cases hr:rOk (AP a c) with
 | true =>
  obtain ⟨z,z1,z2,z3⟩:=CR hr hE
  exact .inl ⟨rfl,z,z3,fun b=>by unfold fin; rw [DS,hr]; simp only [if_true,Option.bind_some,z1],z2⟩
 | false =>
  obtain ⟨z,z1,_,z3⟩:=CR BU hE
  exact .inr ⟨rfl,fun b=>⟨z,z3,by unfold fin; rw [DS,hr]; simp only [Bool.false_eq_true,if_false,Option.bind_some,z1]⟩⟩
/-- The specification's sum: its two loops, then its end. -/
theorem HI (b:Bool) (x y:Ab) {b1 b2:Bool} {a c:Aa} {e1 e2:Int} (h1:whX (Eo y) fuel (A7 b x.Num x.Exp)=some (.inl (A7 b1 a e1)))
  (h2:whX (Fd e1 b1 a.A a.C a.D) fuel (A7 b1 y.Num y.Exp)=some (.inl (A7 b2 c e2))):Cy (cB b) x y=fin b2 a c e1:=by
 unfold Cy
 unfold A7 at h1 h2
 show (whX (Eo y) fuel (b,x.Num.A,x.Num.B,x.Num.C,x.Num.D,x.Exp)).bind _=_
 rw [h1]
 simp only [Option.bind_some,orR]
 rw [h2]
 rfl
theorem C3 {x:Ab} {E:Int} {a:Aa} {ok:Bool} {e:Int} (h:whX (Cw E) fuel (Be x.Num true x.Exp)=some (.inl (Be a ok e))):BE x E=some (a,ok):=by
 unfold BE
 unfold Be at h
 rw [h]
 rfl
theorem ER {x y:Ab} (hx:dOk x=true) (hy:dOk y=true) {E:Int} (hE:(if x.Exp<y.Exp then y.Exp else x.Exp)=E) {a c:Aa} {oa oc:Bool} (h1:BE x E=some (a,oa)) (h2:BE y E=some (c,oc))
  (ha:rOk a=true) (hc:rOk c=true):Cc x y=(bif oa&&oc&&rOk (AP a c) then AR (AP a c) E else some (Aj,false)):=by
 unfold Cc GA
 rw [hE]
 simp only [D0,hx,hy,Option.bind_some,gb,Bool.not_true,Bool.not_false,cond_true,Bool.or_self,cond_false,h1,h2,UY ha hc]
 cases oa <;> cases oc <;> cases hr:rOk (AP a c) <;> simp only [Bool.not_true,Bool.not_false,Bool.or_self,Bool.or_true,Bool.true_or,Bool.false_or,Bool.or_false,Bool.and_self,Bool.and_true,Bool.and_false,Bool.true_and,Bool.false_and,if_true,Bool.false_eq_true,if_false,Option.bind_some,cond_true,cond_false]
 all_goals first | rfl | (cases AR (AP a c) E <;> rfl)
theorem KY {x y:Ab} (hx:dOk x=true) (hy:dOk y=true) :
  (∃ z,dOk z=true∧(∀ b,Cy (cB b) x y=some (z,cB b))∧Cc x y=some (z,true)) ∨
   ((∀ b,∃ z,dOk z=true∧Cy (cB b) x y=some (z,cB true))∧Cc x y=some (Aj,false)):=by
 obtain ⟨x1,x2,x3⟩:=AE hx
 obtain ⟨y1,y2,y3⟩:=AE hy
 have stay:∀ {f:Bool×Int×Int×Int×Int×Int→Option (Ex (Bool×Int×Int×Int×Int×Int) (Ab×A0))} {t:Bool×Int×Int×Int×Int×Int},f t=some (.br t)→whX f fuel t=some (.inl t):=fun h=>by
  rw [show fuel=(fuel-1)+1 from rfl]; simp only [whX,h,Option.bind_some]
 have stayI:∀ {E:Int} {z:Ab},rOk z.Num=true→0≤z.Exp→z.Exp≤60→¬ z.Exp<E→BE z E=some (z.Num,true):=fun {E z} h h0 h1 hn=>by
  refine C3 (e:=z.Exp) ?_
  have:=DB (E:=E) h h0 h1 true
  simp only [decide_eq_false hn,Bool.false_and,cond_false] at this
  rw [show fuel=(fuel-1)+1 from rfl]; simp only [whX,this,Option.bind_some]
 by_cases hlt:x.Exp<y.Exp
 ·have hE:(if x.Exp<y.Exp then y.Exp else x.Exp)=y.Exp:=if_pos hlt
  have hst:∀ (b:Bool) (a:Aa),whX (Fd y.Exp b a.A a.C a.D) fuel (A7 b y.Num y.Exp)=some (.inl (A7 b y.Num y.Exp)):=fun b a=>stay (by
   rw [Oe _ _ _ _ _ _ _ _ y1 y2 y3,decide_eq_false (by omega)]; rfl)
  rcases KR (f:=Eo y) (E:=y.Exp) y3 (Lp y) fuel x.Num x.Exp x1 x2 (by omega) (Ba (by omega)) with ⟨a,a1,a2,a3⟩ | ⟨a1,a,e',a2,a3⟩
  ·have hc:=ER hx hy hE (C3 a3) (stayI y1 y2 y3 (by omega)) a1 y1
   rcases Nv (a:=a) (c:=y.Num) (E:=y.Exp) ⟨y2,y3⟩ with ⟨r1,z,z1,z2,z3⟩ | ⟨r1,z1⟩
   ·exact .inl ⟨z,z1,fun b=>by rw [HI b x y (a2 b) (hst b a)]; exact z2 b,by rw [hc,r1]; exact z3⟩
   ·refine .inr ⟨fun b=>?_,by rw [hc,r1]; rfl⟩
    obtain ⟨z,z2,z3⟩:=z1 b
    exact ⟨z,z2,by rw [HI b x y (a2 b) (hst b a)]; exact z3⟩
  ·have hc:=ER hx hy hE (C3 a3) (stayI y1 y2 y3 (by omega)) a2 y1
   refine .inr ⟨fun b=>?_,by rw [hc]; rfl⟩
   obtain ⟨a',_,a5⟩:=a1 b
   obtain ⟨z,z2,z3⟩:=OJ a' y.Num (E:=y.Exp) ⟨y2,y3⟩
   exact ⟨z,z2,by rw [HI b x y a5 (hst true a')]; exact z3⟩
 ·have hE:(if x.Exp<y.Exp then y.Exp else x.Exp)=x.Exp:=if_neg hlt
  have hst:∀ (b:Bool),whX (Eo y) fuel (A7 b x.Num x.Exp)=some (.inl (A7 b x.Num x.Exp)):=fun b=>stay (by
   rw [Lp y _ _ _ x1 x2 x3,decide_eq_false (by omega)]; rfl)
  have hr:=fun (b0:Bool)=>KR (f:=Fd x.Exp b0 x.Num.A x.Num.C x.Num.D) (E:=x.Exp) x3 (Oe _ _ _ _ _) fuel y.Num y.Exp y1 y2 (by omega) (Ba (by omega))
  have hcm:∀ {c:Aa} {oc:Bool},BE y x.Exp=some (c,oc)→rOk c=true→Cc x y=(bif true&&oc&&rOk (AP x.Num c) then AR (AP x.Num c) x.Exp else some (Aj,false)):=fun h hc =>
   ER hx hy hE (stayI x1 x2 x3 (by omega)) h x1 hc
  rcases hr true with ⟨c,c1,c2,c3⟩ | ⟨c1,c,e',c2,c3⟩
  ·have hc:=hcm (C3 c3) c1
   have hs:∀ b,Cy (cB b) x y=fin b x.Num c x.Exp:=fun b=>by
    rcases hr b with ⟨c',d1,d2,d3⟩ | ⟨_,c',e',_,d3⟩
    ·rw [c3] at d3
     have:c=c':=by cases c; cases c'; simp only [Be,Option.some.injEq,Sum.inl.injEq,Prod.mk.injEq] at d3; simp only [Aa.mk.injEq]; exact ⟨d3.1,d3.2.1,d3.2.2.1,d3.2.2.2.1⟩
     subst this
     exact HI b x y (hst b) (d2 b)
    ·rw [c3] at d3
     simp [Be] at d3
   rcases Nv (a:=x.Num) (c:=c) (E:=x.Exp) ⟨x2,x3⟩ with ⟨r1,z,z1,z2,z3⟩ | ⟨r1,z1⟩
   ·exact .inl ⟨z,z1,fun b=>by rw [hs]; exact z2 b,by rw [hc,r1]; exact z3⟩
   ·refine .inr ⟨fun b=>?_,by rw [hc,r1]; rfl⟩
    obtain ⟨z,z2,z3⟩:=z1 b
    exact ⟨z,z2,by rw [hs]; exact z3⟩
  ·have hc:=hcm (C3 c3) c2
   refine .inr ⟨fun b=>?_,by rw [hc]; rfl⟩
   rcases hr b with ⟨c',d1,d2,d3⟩ | ⟨d1,_⟩
   ·rw [c3] at d3; simp [Be] at d3
   ·obtain ⟨c',_,d5⟩:=d1 b
    obtain ⟨z,z2,z3⟩:=OJ x.Num c' (E:=x.Exp) ⟨x2,x3⟩
    exact ⟨z,z2,by rw [HI b x y (hst b) d5]; exact z3⟩

def DM (x y:Ab):Option Ab:=(Bf x y).bind fun p=>if p.2 then some p.1 else none
def DA (x y:Ab):Option Ab:=(Cc x y).bind fun p=>if p.2 then some p.1 else none
/-- An answer of the program: the number, or zero and false. -/
def dR (o:Option Ab):Ab×Bool:=match o with | some z=>(z,true) | none=>(Aj,false)
/-- The specification's step f, from whatever flag, ends in the number o, the flag as it was; or, if there is none, in some number and the flag set. -/
def SP {α:Type} (f:A0→Option (α×A0)) (G:α→Prop) (o:Option α):Prop :=
 ∀ b,∃ z b',f (cB b)=some (z,cB b')∧G z∧((o=some z∧b'=b)∨(o=none∧b'=true))
theorem SP.bind {α β:Type} {f:A0→Option (α×A0)} {G:α→Prop} {o:Option α} (hf:SP f G o) {h:α→A0→Option (β×A0)} {G':β→Prop} {o':α→Option β}
  (hh:∀ z,G z→SP (h z) G' (o' z)):SP (fun c=>(f c).bind fun p=>h p.1 p.2) G' (o.bind o'):=fun b=>by
 obtain ⟨z,b',h1,h2,h3⟩:=hf b
 obtain ⟨z',b'',h4,h5,h6⟩:=hh z h2 b'
 refine ⟨z',b'',by simp only [h1,Option.bind_some]; exact h4,h5,?_⟩
 rcases h3 with ⟨rfl,rfl⟩ | ⟨rfl,rfl⟩
 ·simpa using h6
 ·rcases h6 with ⟨_,h6⟩ | ⟨_,h6⟩
  ·exact .inr ⟨rfl,h6⟩
  ·exact .inr ⟨rfl,h6⟩
theorem SP.pure {α:Type} {G:α→Prop} {z:α} (h:G z):SP (fun c=>some (z,c)) G (some z):=fun b=>⟨z,b,rfl,h,.inl ⟨rfl,rfl⟩⟩
theorem SP.map {α β:Type} {f:A0→Option (α×A0)} {G:α→Prop} {o:Option α} (hf:SP f G o) {g:α→β} {G':β→Prop} (hg:∀ z,G z→G' (g z)):SP (fun c=>(f c).bind fun p=>some (g p.1,p.2)) G' (o.map g):=by
 have:=hf.bind (h:=fun z c=>some (g z,c)) (o':=fun z=>some (g z)) (fun z hz=>SP.pure (hg z hz))
 rwa [Option.map_eq_bind]
theorem spM {x y:Ab} (hx:dOk x=true) (hy:dOk y=true):SP (fun c=>CC c x y) (fun z=>dOk z=true) (DM x y):=fun b=>by
 unfold DM
 rcases JJ hx hy with ⟨z,h1,h2,h3⟩ | ⟨h1,h2⟩
 ·exact ⟨z,b,h2 b,h1,.inl ⟨by rw [h3]; rfl,rfl⟩⟩
 ·obtain ⟨z,h3,h4⟩:=h1 b
  exact ⟨z,true,h4,h3,.inr ⟨by rw [h2]; rfl,rfl⟩⟩
theorem spA {x y:Ab} (hx:dOk x=true) (hy:dOk y=true):SP (fun c=>Cy c x y) (fun z=>dOk z=true) (DA x y):=fun b=>by
 unfold DA
 rcases KY hx hy with ⟨z,h1,h2,h3⟩ | ⟨h1,h2⟩
 ·exact ⟨z,b,h2 b,h1,.inl ⟨by rw [h3]; rfl,rfl⟩⟩
 ·obtain ⟨z,h3,h4⟩:=h1 b
  exact ⟨z,true,h4,h3,.inr ⟨by rw [h2]; rfl,rfl⟩⟩
theorem imM {x y:Ab} (hx:dOk x=true) (hy:dOk y=true):Bf x y=some (dR (DM x y)):=by
 unfold DM
 rcases JJ hx hy with ⟨z,h1,h2,h3⟩ | ⟨h1,h2⟩
 ·rw [h3]; rfl
 ·rw [h2]; rfl
theorem imA {x y:Ab} (hx:dOk x=true) (hy:dOk y=true):Cc x y=some (dR (DA x y)):=by
 unfold DA
 rcases KY hx hy with ⟨z,h1,h2,h3⟩ | ⟨h1,h2⟩
 ·rw [h3]; rfl
 ·rw [h2]; rfl
theorem M6 {x y z:Ab} (hx:dOk x=true) (hy:dOk y=true) (h:DM x y=some z):dOk z=true:=by
 unfold DM at h
 rcases JJ hx hy with ⟨z',h1,h2,h3⟩ | ⟨h1,h2⟩
 ·rw [h3] at h; simp at h; rw [← h]; exact h1
 ·rw [h2] at h; simp at h
theorem Pw {x y z:Ab} (hx:dOk x=true) (hy:dOk y=true) (h:DA x y=some z):dOk z=true:=by
 unfold DA at h
 rcases KY hx hy with ⟨z',h1,h2,h3⟩ | ⟨h1,h2⟩
 ·rw [h3] at h; simp at h; rw [← h]; exact h1
 ·rw [h2] at h; simp at h
theorem Ss {o:Option Ab} (h:∀ z,o=some z→dOk z=true):dOk (dR o).1=true:=by
 cases o with
 | none=>exact BC
 | some z=>exact h z rfl

/-- What the specification holds (z, and its flag b') beside the number o (or none): the flag before is b; once it is set, it stays. -/
def SR {α:Type} (G:α→Prop) (o:Option α) (b:Bool) (z:α) (b':Bool):Prop:=G z∧(b=true→b'=true)∧(b=false→(o=some z∧b'=false)∨(o=none∧b'=true))
theorem SR.bind {α β:Type} {G:α→Prop} {G':β→Prop} {o:Option α} {o':α→Option β} {b b' b'':Bool} {z:α} {z':β} (h1:SR G o b z b') (h2:SR G' (o' z) b' z' b''):SR G' (o.bind o') b z' b'':=by
 refine ⟨h2.1,fun h=>h2.2.1 (h1.2.1 h),fun h=>?_⟩
 rcases h1.2.2 h with ⟨rfl,rfl⟩ | ⟨rfl,rfl⟩
 ·exact h2.2.2 rfl
 ·exact .inr ⟨rfl,h2.2.1 rfl⟩
theorem SR.bad {α:Type} {G:α→Prop} {o:Option α} {z:α} {b':Bool} (h:SR G o true z b'):b'=true:=h.2.1 rfl
theorem SR.good {α:Type} {G:α→Prop} {o:Option α} {z:α} {b':Bool} (h:SR G o false z b'):(o=some z∧b'=false)∨(o=none∧b'=true):=h.2.2 rfl
theorem SR.pure {α:Type} {G:α→Prop} {z:α} {b:Bool} (h:G z):SR G (some z) b z b:=⟨h,id,fun hb=>.inl ⟨rfl,hb⟩⟩
theorem SR.mono {α:Type} {G G':α→Prop} {o:Option α} {b b':Bool} {z:α} (h:SR G o b z b') (hg:G z→G' z):SR G' o b z b':=⟨hg h.1,h.2⟩
theorem SR.map {α β:Type} {G:α→Prop} {G':β→Prop} {o:Option α} {b b':Bool} {z:α} (h:SR G o b z b') (g:α→β) (hg:G z→G' (g z)):SR G' (o.map g) b (g z) b':=by
 refine ⟨hg h.1,h.2.1,fun hb=>?_⟩
 rcases h.2.2 hb with ⟨rfl,h2⟩ | ⟨rfl,h2⟩
 ·exact .inl ⟨rfl,h2⟩
 ·exact .inr ⟨rfl,h2⟩
theorem Nq {α:Type} {f:A0→Option (α×A0)} {G:α→Prop} {o:Option α} (h:SP f G o) (b:Bool):∃ z b',f (cB b)=some (z,cB b')∧SR G o b z b':=by
 obtain ⟨z,b',h1,h2,h3⟩:=h b
 refine ⟨z,b',h1,h2,fun hb=>?_,fun hb=>?_⟩
 ·rcases h3 with ⟨_,h3⟩ | ⟨_,h3⟩
  ·exact h3.trans hb
  ·exact h3
 ·rcases h3 with ⟨h3,h4⟩ | ⟨h3,h4⟩
  ·exact .inl ⟨h3,h4.trans hb⟩
  ·exact .inr ⟨h3,h4⟩
theorem srM {x y:Ab} (hx:dOk x=true) (hy:dOk y=true) (b:Bool):∃ z b',CC (cB b) x y=some (z,cB b')∧SR (fun z=>dOk z=true) (DM x y) b z b':=Nq (spM hx hy) b
theorem srA {x y:Ab} (hx:dOk x=true) (hy:dOk y=true) (b:Bool):∃ z b',Cy (cB b) x y=some (z,cB b')∧SR (fun z=>dOk z=true) (DA x y) b z b':=Nq (spA hx hy) b
theorem Ja {β τ:Type} {f:Nat→τ→Option τ} {enc:Bool→β→τ} {G:Nat→β→Prop} {st:Nat→β→Option β} {n:Nat}
  (hf:∀ k b s,k<n→G k s→∃ z b',f k (enc b s)=some (enc b' z)∧SR (G (k+1)) (st k s) b z b') :
  ∀ (m i:Nat) (s:β) (b:Bool),i+m≤n→G i s→∃ z b',forN f m i (enc b s)=some (enc b' z)∧SR (G (i+m)) (forN st m i s) b z b'
 | 0,i,s,b,_,hG=>⟨s,b,rfl,SR.pure hG⟩
 | m+1,i,s,b,hm,hG=>by
  obtain ⟨z,b',h1,h2⟩:=hf i b s (by omega) hG
  obtain ⟨z',b'',h3,h4⟩:=Ja hf m (i+1) z b' (by omega) h2.1
  rw [show i+1+m=i+(m+1) by omega] at h4
  exact ⟨z',b'',by simp only [forN,h1,Option.bind_some]; exact h3,h2.bind h4⟩
/-- A loop of the specification that stops at its flag. -/
theorem PL {β τ ρ:Type} {f:τ→Option (Ex τ ρ)} {enc:Bool→β→Nat→τ} {G:β→Prop} {st:Nat→β→Option β} {n:Nat}
  (hb:∀ k s,f (enc true s k)=some (.br (enc true s k))) (hn:∀ s,f (enc false s n)=some (.br (enc false s n)))
  (hf:∀ k s,k<n→G s→∃ z b',f (enc false s k)=some (.nx (enc b' z (k+1)))∧SR G (st k s) false z b') :
  ∀ (q m i:Nat) (s:β) (b:Bool),i+m=n→m<q→G s→∃ z b' k',whX f q (enc b s i)=some (.inl (enc b' z k'))∧SR G (forN st m i s) b z b'
 | 0,_,_,_,_,_,hq,_=>absurd hq (Nat.not_lt_zero _)
 | q+1,m,i,s,true,_,_,hG=>⟨s,true,i,by simp only [whX,hb,Option.bind_some],hG,fun h=>h,fun h=>by cases h⟩
 | q+1,0,i,s,false,hm,_,hG=>by
  have:i=n:=by omega
  subst this
  exact ⟨s,false,i,by simp only [whX,hn,Option.bind_some],SR.pure hG⟩
 | q+1,m+1,i,s,false,hm,hq,hG=>by
  obtain ⟨z,b',h1,h2⟩:=hf i s (by omega) hG
  obtain ⟨z',b'',k',h3,h4⟩:=PL hb hn hf q m (i+1) z b' (by omega) (by omega) h2.1
  exact ⟨z',b'',k',by simp only [whX,h1,Option.bind_some]; exact h3,h2.bind h4⟩
/-- What a loop that may leave the function ends in. -/
def exO {β τ ρ:Type} (enc:β→τ) (R:ρ) (o:Option β):τ ⊕ ρ:=match o with | some z=>.inl (enc z) | none=>.inr R
def nxO {β τ ρ:Type} (enc:β→τ) (R:ρ) (o:Option β):Ex τ ρ:=match o with | some z=>.nx (enc z) | none=>.rt R
theorem Io {β τ ρ:Type} {g:Nat→τ→Option (Ex τ ρ)} {enc:β→τ} {G:Nat→β→Prop} {st:Nat→β→Option β} {R:ρ} {n:Nat}
  (hg:∀ k s,k<n→G k s→g k (enc s)=some (nxO enc R (st k s))∧∀ z,st k s=some z→G (k+1) z) :
  ∀ (m i:Nat) (s:β),i+m≤n→G i s→forX g m i (enc s)=some (exO enc R (forN st m i s))∧∀ z,forN st m i s=some z→G (i+m) z
 | 0,i,s,_,hG=>⟨rfl,fun z h=>by cases h; exact hG⟩
 | m+1,i,s,hm,hG=>by
  obtain ⟨h1,h2⟩:=hg i s (by omega) hG
  cases hs:st i s with
  | none =>
   rw [hs] at h1
   refine ⟨by simp only [forX,h1,nxO,Option.bind_some,forN,hs,Option.bind_none,exO],fun z hz=>?_⟩
   simp only [forN,hs,Option.bind_none] at hz; cases hz
  | some z =>
   rw [hs] at h1
   obtain ⟨h3,h4⟩:=Io hg m (i+1) z (by omega) (h2 z hs)
   rw [show i+1+m=i+(m+1) by omega] at h4
   exact ⟨by simp only [forX,h1,nxO,Option.bind_some,forN,hs]; exact h3,fun z' hz=>h4 z' (by simpa only [forN,hs,Option.bind_some] using hz)⟩
theorem gI {l:List Ab} {x:Int} {n:Nat} (hx:x=(n:Int)) (hn:n<l.length):getI l x=some (l.getD n Aj):=by
 subst hx; rw [getI_nat,List.getElem?_eq_getElem hn]; simp [hn]
theorem Ct {l:List Ab} (h:∀ z∈l,dOk z=true) (n:Nat):dOk (l.getD n Aj)=true:=by
 rw [List.getD_eq_getElem?_getD]
 cases hx:l[n]? with
 | none=>exact BC
 | some x=>exact h x (List.mem_of_getElem? hx)
def sT (b:Bool) (s:Ab):Bool×Int×Int×Int×Int×Int:=(b,s.Num.A,s.Num.B,s.Num.C,s.Num.D,s.Exp)
def iT (s:Ab):Int×Int×Int×Int×Int:=(s.Num.A,s.Num.B,s.Num.C,s.Num.D,s.Exp)
/-- One more product onto a sum. -/
def BD (X Y:Nat→Ab) (k:Nat) (s:Ab):Option Ab:=(DM (X k) (Y k)).bind fun p=>DA s p
theorem Ti {X Y:Nat→Ab} (hX:∀ k,dOk (X k)=true) (hY:∀ k,dOk (Y k)=true) (k:Nat) (b:Bool) (s:Ab) (hs:dOk s=true) :
  ∃ z b',((CC (cB b) (X k) (Y k)).bind fun p=>(Cy p.2 s p.1).bind fun q=>some (sT q.2.bad q.1))=some (sT b' z)∧SR (fun z=>dOk z=true) (BD X Y k s) b z b':=by
 obtain ⟨z,b',h1,h2⟩:=srM (hX k) (hY k) b
 obtain ⟨z',b'',h3,h4⟩:=srA hs h2.1 b'
 exact ⟨z',b'',by simp only [h1,Option.bind_some,h3]; rfl,h2.bind h4⟩
theorem Vn {ρ:Type} {X Y:Nat→Ab} (hX:∀ k,dOk (X k)=true) (hY:∀ k,dOk (Y k)=true) (R:ρ) (k:Nat) (s:Ab) (hs:dOk s=true) :
  ((Bf (X k) (Y k)).bind fun p=>(Cc s p.1).bind fun q=>bif (!p.2)||(!q.2) then some (.rt R) else some (.nx (iT q.1)))=some (nxO iT R (BD X Y k s))∧∀ z,BD X Y k s=some z→dOk z=true:=by
 unfold BD
 rw [imM (hX k) (hY k)]
 have ho:dOk (dR (DM (X k) (Y k))).1=true:=Ss (fun z hz=>M6 (hX k) (hY k) hz)
 simp only [Option.bind_some]
 rw [imA hs ho]
 simp only [Option.bind_some]
 cases hm:DM (X k) (Y k) with
 | none=>exact ⟨rfl,fun z hz=>by cases hz⟩
 | some p =>
  rw [hm] at ho
  simp only [dR,Option.bind_some] at ho ⊢
  cases ha:DA s p with
  | none=>exact ⟨rfl,fun z hz=>by cases hz⟩
  | some q=>exact ⟨rfl,fun z hz=>by cases hz; exact Pw hs ho ha⟩
theorem OG:At An=An:=by decide
theorem JB {E:Int} (hE:E≤60):∀ (k:Nat) (e:Int),0≤e→e≤E→(E-e).toNat<k→whX (Cw E) k (Be An true e)=some (.inl (Be An true E))
 | 0,_,_,_,hk=>absurd hk (Nat.not_lt_zero _)
 | k+1,e,h0,h1,hk=>by
  have h:=DB (E:=E) BU h0 (by omega) true
  by_cases hlt:e<E
  ·rw [decide_eq_true hlt,OG,BU] at h
   simp only [Bool.and_self,cond_true,if_true] at h
   simp only [whX,h,Option.bind_some]
   exact JB hE k (e+1) (by omega) (by omega) (by omega)
  ·rw [decide_eq_false hlt] at h
   simp only [Bool.false_and,cond_false] at h
   have:e=E:=by omega
   subst this
   simp only [whX,h,Option.bind_some]
theorem KE {x:Ab} (h:dOk x=true):AR x.Num x.Exp=some (x,true):=by
 obtain ⟨h1,h2,h3⟩:=AE h
 have hl:Cx (x.Exp,x.Num.A,x.Num.B,x.Num.C,x.Num.D)=some (.br (x.Exp,x.Num.A,x.Num.B,x.Num.C,x.Num.D)):=by
  unfold Cx
  simp only [Gy,Option.bind_some,gb]
  unfold dOk at h
  simp only [Bool.and_eq_true,Bool.or_eq_true,beq_iff_eq,Bool.not_eq_true'] at h
  rcases h.2 with h | h
  ·rw [decide_eq_false (show ¬ 0<x.Exp by omega)]; rfl
  ·have e:Bb (Aa.mk x.Num.A x.Num.B x.Num.C x.Num.D)=false:=h
   rw [e]; cases decide (0<x.Exp) <;> rfl
 unfold AR A2
 simp only [DI,h1,Option.bind_some,gb,Bool.not_true,Bool.not_false,cond_true,Bool.false_or]
 rw [decide_eq_true h2,decide_eq_true h3]
 simp only [Bool.and_self,Bool.not_true,cond_false]
 rw [show fuel=(fuel-1)+1 from rfl]
 simp only [whX,hl,Option.bind_some,orR]
theorem LE {x:Ab} (h:dOk x=true):DA Aj x=some x:=by
 obtain ⟨h1,h2,h3⟩:=AE h
 have hr:=h1
 rw [By] at hr
 have e:AP An x.Num=x.Num:=by
  unfold AP Im An
  simp only [Int.zero_add,Option.getD_some]
  rw [wr (a:=x.Num.A) (by omega),wr (a:=x.Num.B) (by omega),wr (a:=x.Num.C) (by omega),wr (a:=x.Num.D) (by omega)]
 have hE:(if Aj.Exp<x.Exp then x.Exp else Aj.Exp)=x.Exp:=by
  show (if (0:Int)<x.Exp then x.Exp else 0)=x.Exp
  split <;> omega
 have hst:BE x x.Exp=some (x.Num,true):=by
  refine C3 (e:=x.Exp) ?_
  have:=DB (E:=x.Exp) h1 h2 h3 true
  simp only [Int.lt_irrefl,decide_false,Bool.false_and,cond_false] at this
  rw [show fuel=(fuel-1)+1 from rfl]; simp only [whX,this,Option.bind_some]
 have hz:BE Aj x.Exp=some (An,true):=C3 (x:=Aj) (JB h3 fuel 0 (by omega) h2 (Ba (by omega)))
 have hc:=ER BC h hE hz hst BU h1
 rw [e,h1] at hc
 simp only [Bool.and_self,cond_true,KE h] at hc
 unfold DA
 rw [hc]; rfl

def okD (l:List Ab):Prop:=∀ z∈l,dOk z=true
theorem Jl {l:List Ab} {z:Ab} (hl:okD l) (hz:dOk z=true):okD (l++[z]):=fun x hx=>by
 rcases List.mem_append.1 hx with h | h
 ·exact hl x h
 ·simp only [List.mem_singleton] at h; subst h; exact hz
theorem TS (x y:Ab):(((x.Num.A==y.Num.A)&&((x.Num.B==y.Num.B)&&((x.Num.C==y.Num.C)&&((x.Num.D==y.Num.D)&&true))))&&((x.Exp==y.Exp)&&true))=decide (x=y):=by
 obtain ⟨⟨A,B,C,D⟩,e⟩:=x
 obtain ⟨⟨A',B',C',D'⟩,e'⟩:=y
 rw [Bool.eq_iff_iff]
 simp only [Bool.and_true,Bool.and_eq_true,beq_iff_eq,decide_eq_true_eq,Ab.mk.injEq,Aa.mk.injEq]
theorem bs {α:Type} {b:Bool} {x y:α}:(bif b then some x else some y)=some (bif b then x else y):=by cases b <;> rfl
theorem U4 {α ρ:Type} [DecidableEq α] {f:Nat→Unit→Option (Ex Unit ρ)} {l l':List α} {q:ρ} (hl:l.length=l'.length)
  (hf:∀ i x y,l[i]?=some x→l'[i]?=some y→f i ()=some (bif !decide (x=y) then .rt q else .nx ())):forX f l.length 0 ()=some (if l=l' then .inl () else .inr q):=by
 rcases forX_inv (f:=f) (fun j _=>∀ i,i<j→l[i]?=l'[i]?) (fun r=>r=q∧l≠l') l.length 0 () (fun i hi=>absurd hi (Nat.not_lt_zero _)) (fun j s _ hj hI=>by
  have hj:j<l.length:=by omega
  have h:=hf j _ _ (List.getElem?_eq_getElem hj) (List.getElem?_eq_getElem (show j<l'.length by omega))
  by_cases he:l[j]=l'[j]'(by omega)
  ·rw [decide_eq_true he] at h
   refine .inl ⟨(),h,fun i hi=>?_⟩
   rcases Nat.lt_succ_iff_lt_or_eq.1 hi with h' | rfl
   ·exact hI i h'
   ·rw [List.getElem?_eq_getElem hj,List.getElem?_eq_getElem (show i<l'.length by omega),he]
  ·rw [decide_eq_false he] at h
   exact .inr ⟨q,h,rfl,fun e=>he (by subst e; rfl)⟩) with ⟨⟨⟩,h1,h2⟩ | ⟨r,h1,rfl,h2⟩
 ·rw [h1,if_pos]
  apply List.ext_getElem?
  intro i
  by_cases hi:i<l.length
  ·exact h2 i (by omega)
  ·rw [List.getElem?_eq_none (by omega),List.getElem?_eq_none (by omega)]
 ·rw [h1,if_neg h2]
def Fz:Ab:=Ab.mk (Aa.mk 1 0 0 0) 0
theorem UU {l:List Ab} {f:Ab→Option Bool} {p:Ab→Bool} (hl:l.length≤9223372036854775807) (hf:∀ x,f x=some (p x)) :
  ∃ i,F8 l f=some i∧decide (0≤i)=l.any p:=by
 unfold F8
 rw [chk_t hl]
 rcases forX_any (f:=Hs l f) (l:=l) (p:=p) (q:=fun i=>(i:Int)) (fun i x hx=>by
  unfold Hs
  simp only [getI_nat,hx,Option.bind_some,hf,bs]) with ⟨h1,h2⟩ | ⟨h1,i,_,h2⟩
 ·rw [h2,h1]; exact ⟨-1,rfl,by decide⟩
 ·rw [h2,h1]; exact ⟨i,rfl,by simp⟩
theorem RD {l:List Ab} {f:Ab→Option Bool} {p:Ab→Bool} (hl:l.length≤9223372036854775807) (hf:∀ x,f x=some (p x)) :
  Gc l f=some (l.any p):=by
 unfold Gc
 obtain ⟨i,h1,h2⟩:=UU hl hf
 rw [h1]; simp only [Option.bind_some,h2]
theorem Us {l:List Ab} {p:Ab→Bool}:(l.any fun x=>!p x)=!l.all p:=by
 induction l with
 | nil=>rfl
 | cons x l ih=>simp only [List.any_cons,List.all_cons,ih,Bool.not_and]

def AQ (n:Int):Bool:=[1,2,4,8,16,32].any fun x=>x==n
theorem GD {n:Int} (h:AQ n=true):1≤n∧n≤32:=by
 unfold AQ at h
 simp only [List.any_cons,List.any_nil,Bool.or_false,Bool.or_eq_true,beq_iff_eq] at h
 omega
theorem Ua:∀ k:Fin 33,1≤k.val→(((decide ((1:Int)≤(k.val:Int)))&&(decide ((k.val:Int)≤32)))&&((bits .and .i64 (k.val:Int) (IntKind.i64.wrap ((k.val:Int)-1)))==0))=AQ (k.val:Int):=by decide +kernel
theorem Jg (n:Int):Cz n=some (AQ n):=by
 unfold Cz A2
 simp only [Option.bind_some]
 by_cases h:1≤n∧n≤32
 ·obtain ⟨k,rfl⟩:∃ k:Nat,n=k:=⟨n.toNat,by omega⟩
  exact congrArg some (Ua ⟨k,by omega⟩ (by simp only; omega))
 ·have:AQ n=false:=by
   cases hd:AQ n with
   | false=>rfl
   | true=>exact absurd (GD hd) h
  rw [this]
  by_cases h1:1≤n
  ·rw [decide_eq_false (show ¬ n≤32 by omega)]; simp
  ·rw [decide_eq_false h1]; simp
/-- A matrix that is taken. -/
def mOk (m:Af):Bool:=AQ m.Rows&&AQ m.Cols&&((m.Cells.length:Int)==m.Rows*m.Cols)&&m.Cells.all dOk
theorem Tk {a b:Int} (ha:1≤a∧a≤32) (hb:1≤b∧b≤32):0≤a*b∧a*b≤1024:=by
 refine ⟨Int.mul_nonneg (by omega) (by omega),?_⟩
 have:=Int.mul_le_mul ha.2 hb.2 (by omega) (by decide:(0:Int)≤32)
 omega
theorem IZ (m:Af) (hl:m.Cells.length≤9223372036854775807):C6 m=some (mOk m):=by
 unfold C6 mOk
 rw [Jg,Jg]
 cases h1:AQ m.Rows with
 | false=>rfl
 | true =>
  cases h2:AQ m.Cols with
  | false=>rfl
  | true =>
   have:=Tk (GD h1) (GD h2)
   simp only [Option.bind_some,gb,cond_true,Bool.and_self,Bool.true_and]
   rw [wr (a:=m.Rows*m.Cols) (by omega)]
   cases h3:(m.Cells.length:Int)==m.Rows*m.Cols with
   | false=>rfl
   | true =>
    simp only [cond_true]
    rw [RD (p:=fun x=>!dOk x) hl (fun x=>by unfold Fu; simp only [D0,Option.bind_some]),Us]
    simp only [Option.bind_some,Bool.not_not,Bool.true_and]
theorem IX {m:Af} (h:mOk m=true):∃ (R C:Nat) (l:List Ab),m=Af.mk R C l∧AQ R=true∧AQ C=true∧(1≤R∧R≤32)∧(1≤C∧C≤32)∧l.length=R*C∧okD l:=by
 obtain ⟨r,c,l⟩:=m
 unfold mOk at h
 simp only [Bool.and_eq_true,beq_iff_eq] at h
 obtain ⟨⟨⟨h1,h2⟩,h3⟩,h4⟩:=h
 have d1:=GD h1
 have d2:=GD h2
 obtain ⟨R,rfl⟩:∃ k:Nat,r=k:=⟨r.toNat,by omega⟩
 obtain ⟨C,rfl⟩:∃ k:Nat,c=k:=⟨c.toNat,by omega⟩
 exact ⟨R,C,l,rfl,h1,h2,by omega,by omega,by exact_mod_cast h3,fun z hz=>List.all_eq_true.1 h4 z hz⟩
theorem LK {R C:Nat} {l:List Ab} (h1:AQ R=true) (h2:AQ C=true) (h3:l.length=R*C) (h4:okD l):mOk (Af.mk R C l)=true:=by
 unfold mOk
 simp only [h1,h2,Bool.and_self,Bool.true_and,Bool.and_eq_true,beq_iff_eq]
 exact ⟨by rw [h3]; push_cast; rfl,List.all_eq_true.2 h4⟩
theorem Dx {R C i j:Nat} (hi:i<R) (hj:j<C):i*C+j<R*C:=by
 have:(i+1)*C≤R*C:=Nat.mul_le_mul_right _ hi
 rw [Nat.add_mul] at this; omega
theorem ix {R C i j:Nat} (hi:i<R) (hj:j<C) (hR:R≤32) (hC:C≤32):IntKind.i64.wrap (IntKind.i64.wrap ((i:Int)*(C:Int))+(j:Int))=((i*C+j:Nat):Int):=by
 have h1:=Dx hi hj
 have h2:R*C≤32*32:=Nat.mul_le_mul hR hC
 have e:(i:Int)*(C:Int)=((i*C:Nat):Int):=by push_cast; rfl
 rw [e,wr (a:=((i*C:Nat):Int)) (by omega),wr (by omega)]
 omega
def BW (cell:Nat→Nat→Option Ab) (R C:Nat):Option (List Ab):=forN (fun i l=>forN (fun j l=>(cell i j).bind fun z=>some (l++[z])) C 0 l) R 0 []
def BX (a b:List Ab) (K C i j:Nat):Option Ab:=forN (BD (fun k=>a.getD (i*K+k) Aj) (fun k=>b.getD (k*C+j) Aj)) K 0 Aj
def mmO (a b:List Ab) (R K C:Nat):Option (List Ab):=BW (BX a b K C) R C
def wT (b:Bool) (s:Ab) (k:Nat):Bool×Int×Int×Int×Int×Int×Int:=(b,s.Num.A,s.Num.B,s.Num.C,s.Num.D,s.Exp,(k:Int))
theorem KF {R C i j:Nat} (hi:i<R) (hj:j<C) (hR:R≤32) (hC:C≤32):i*C+j+1≤1024:=by
 have h1:=Dx hi hj
 have h2:R*C≤32*32:=Nat.mul_le_mul hR hC
 omega
theorem RQ {R K C:Nat} {la lb:List Ab} (ha:okD la) (hb:okD lb) (na:la.length=R*K) (nb:lb.length=K*C) (hR:R≤32) (hK:K≤32) (hC:C≤32) (c:Bool) :
  ∃ l c',Jc (cB c) (Af.mk R K la) (Af.mk K C lb)=some (Af.mk R C l,cB c')∧SR (fun l=>okD l∧l.length=R*C) (mmO la lb R K C) c l c':=by
 have l3:∀ (i j:Nat) (Cells:List Ab) (bad b0:Bool),i<R→j<C→∃ z b' k',whX (F9 (Af.mk R K la) Cells i (Af.mk K C lb) j bad) fuel (wT b0 Aj 0)=some (.inl (wT b' z k'))∧SR (fun z=>dOk z=true) (BX la lb K C i j) b0 z b':=fun i j Cells bad b0 hi hj=>by
  refine PL (enc:=wT) (G:=fun z=>dOk z=true) (n:=K) (fun k s=>?_) (fun s=>?_) (fun k s hk hs=>?_) fuel K 0 Aj b0 (by omega) (Ba (by omega)) BC
  ·unfold F9 wT
   simp only [Bool.not_true,Bool.and_false,cond_false]
  ·unfold F9 wT
   simp only [Int.lt_irrefl,decide_false,Bool.false_and,cond_false]
  ·obtain ⟨z,b',h1,h2⟩:=Ti (X:=fun k=>la.getD (i*K+k) Aj) (Y:=fun k=>lb.getD (k*C+j) Aj) (fun _=>Ct ha _) (fun _=>Ct hb _) k false s hs
   obtain ⟨p,hp,h1⟩:=Option.bind_eq_some_iff.1 h1
   obtain ⟨q,hq,h1⟩:=Option.bind_eq_some_iff.1 h1
   refine ⟨z,b',?_,h2⟩
   unfold F9 wT
   simp only
   rw [decide_eq_true (show (k:Int)<(K:Int) by omega),ix hi hk hR hK,ix hk hj hK hC,gI (n:=i*K+k) rfl (by rw [na]; exact Dx hi hk),gI (n:=k*C+j) rfl (by rw [nb]; exact Dx hk hj)]
   simp only [Bool.not_false,Bool.and_self,cond_true,Option.bind_some]
   rw [show CC (A0.mk false) (la.getD (i*K+k) Aj) (lb.getD (k*C+j) Aj)=some p from hp]
   simp only [Option.bind_some]
   rw [show Cy p.2 (Ab.mk (Aa.mk s.Num.A s.Num.B s.Num.C s.Num.D) s.Exp) p.1=some q from hq]
   simp only [Option.bind_some]
   have:=Option.some.inj h1
   simp only [sT,Prod.mk.injEq] at this
   obtain ⟨t0,t1,t2,t3,t4,t5⟩:=this
   rw [t0,t1,t2,t3,t4,t5,wr (a:=(k:Int)+1) (by omega)]
   rfl
 have l2:∀ (i:Nat) (Cells:List Ab) (bad b0:Bool) (l:List Ab),i<R→okD l→l.length=i*C→∃ z b',forN (Jb (Af.mk R K la) Cells i (Af.mk K C lb) bad) C 0 (b0,l)=some (b',z)∧SR (fun z=>okD z∧z.length=i*C+C) (forN (fun j l=>(BX la lb K C i j).bind fun z=>some (l++[z])) C 0 l) b0 z b':=fun i Cells bad b0 l hi hl hll=>by
  have:=Ja (f:=Jb (Af.mk R K la) Cells i (Af.mk K C lb) bad) (enc:=fun b (l:List Ab)=>(b,l)) (G:=fun j z=>okD z∧z.length=i*C+j) (st:=fun j l=>(BX la lb K C i j).bind fun z=>some (l++[z])) (n:=C) (fun j b1 s hj hs=>?_) C 0 l b0 (by omega) ⟨hl,by omega⟩
  ·rw [Nat.zero_add] at this; exact this
  ·obtain ⟨z,b',k',h1,h2⟩:=l3 i j Cells bad b1 hi hj
   refine ⟨s++[z],b',?_,h2.bind (SR.pure ⟨Jl hs.1 h2.1,by simp; omega⟩)⟩
   unfold Jb
   simp only
   rw [show whX (F9 (Af.mk R K la) Cells i (Af.mk K C lb) j bad) fuel (b1,0,0,0,0,0,0)=_ from h1]
   simp only [wT,Option.bind_some,orR]
   have:=KF hi hj hR hC
   rw [chk_t (by omega)]
 obtain ⟨z,b',h1,h2⟩:=Ja (f:=Id (Af.mk K C lb) (Af.mk R K la)) (enc:=fun b (l:List Ab)=>(b,l)) (G:=fun i z=>okD z∧z.length=i*C) (st:=fun i l=>forN (fun j l=>(BX la lb K C i j).bind fun z=>some (l++[z])) C 0 l) (n:=R) (fun i b1 s hi hs=>by
  obtain ⟨z,b',h1,h2⟩:=l2 i s b1 b1 s hi hs.1 hs.2
  refine ⟨z,b',?_,h2.mono (fun h=>⟨h.1,by rw [Nat.add_mul]; omega⟩)⟩
  unfold Id
  simp only [Int.toNat_natCast]
  rw [chk_t (by omega),h1]; rfl) R 0 [] c (by omega) ⟨fun _ h=>(by cases h),by simp⟩
 refine ⟨z,b',?_,h2.mono (fun h=>⟨h.1,by simpa using h.2⟩)⟩
 unfold Jc
 simp only [Int.toNat_natCast]
 rw [chk_t (by omega),show forN (Id (Af.mk K C lb) (Af.mk R K la)) R 0 ((cB c).bad,[])=_ from h1]
 rfl
def mR (R C:Nat) (o:Option (List Ab)):Af×Bool:=match o with | some l=>(Af.mk R C l,true) | none=>(Af.mk 0 0 [],false)
theorem IL {R C:Nat} {cell:Int→Int→Option (Ab×Bool)} {cellO:Nat→Nat→Option Ab} (dR':AQ R=true) (dC:AQ C=true) (hR:R≤32) (hC:C≤32)
  (hcell:∀ i j:Nat,i<R→j<C→cell i j=some (dR (cellO i j))∧∀ z,cellO i j=some z→dOk z=true) :
  CE R C cell=some (mR R C (BW cellO R C))∧∀ l,BW cellO R C=some l→okD l∧l.length=R*C:=by
 have l2:∀ (i:Nat) (l:List Ab),i<R→okD l→l.length=i*C→forX (Ga cell i) C 0 l=some (exO id (.rt (Af.mk 0 0 [],false)) (forN (fun j l=>(cellO i j).bind fun z=>some (l++[z])) C 0 l)) ∧
   ∀ z,forN (fun j l=>(cellO i j).bind fun z=>some (l++[z])) C 0 l=some z→okD z∧z.length=i*C+C:=fun i l hi hl hll=>by
  have:=Io (g:=Ga cell i) (enc:=id) (G:=fun j z=>okD z∧z.length=i*C+j) (st:=fun j l=>(cellO i j).bind fun z=>some (l++[z])) (R:=Ex.rt (Af.mk 0 0 [],false)) (n:=C) (fun j s hj hs=>?_) C 0 l (by omega) ⟨hl,by omega⟩
  ·rw [Nat.zero_add] at this; exact this
  ·obtain ⟨h1,h2⟩:=hcell i j hi hj
   unfold Ga
   simp only [id,h1,Option.bind_some]
   cases hc:cellO i j with
   | none=>exact ⟨rfl,fun z hz=>by cases hz⟩
   | some z =>
    simp only [dR,Bool.not_true,cond_false,Option.bind_some]
    have:=KF hi hj hR hC
    rw [chk_t (by omega)]
    exact ⟨rfl,fun z' hz=>by cases hz; exact ⟨Jl hs.1 (h2 z hc),by simp; omega⟩⟩
 obtain ⟨h1,h2⟩:=Io (g:=FT C cell) (enc:=id) (G:=fun i z=>okD z∧z.length=i*C) (st:=fun i l=>forN (fun j l=>(cellO i j).bind fun z=>some (l++[z])) C 0 l) (R:=(Af.mk 0 0 [],false)) (n:=R) (fun i s hi hs=>by
  obtain ⟨h1,h2⟩:=l2 i s hi hs.1 hs.2
  unfold FT
  simp only [id,Int.toNat_natCast]
  rw [chk_t (by omega),h1]
  cases hc:forN (fun j l=>(cellO i j).bind fun z=>some (l++[z])) C 0 s with
  | none=>exact ⟨rfl,fun z hz=>by cases hz⟩
  | some z=>exact ⟨rfl,fun z' hz=>by cases hz; obtain ⟨q1,q2⟩:=h2 z hc; exact ⟨q1,by rw [Nat.add_mul]; omega⟩⟩) R 0 [] (by omega) ⟨fun _ h=>(by cases h),by simp⟩
 refine ⟨?_,fun l hl=>by have:=h2 l hl; simpa using this⟩
 unfold CE
 rw [Jg,Jg,dR',dC]
 simp only [Option.bind_some,gb,Bool.not_true,Bool.not_false,cond_true,Bool.or_self,cond_false,Int.toNat_natCast]
 rw [chk_t (by omega),show forX (FT C cell) R 0 []=_ from h1]
 unfold BW
 cases forN (fun i l=>forN (fun j l=>(cellO i j).bind fun z=>some (l++[z])) C 0 l) R 0 [] <;> rfl
theorem Kz {R C:Nat} {l:List Ab} {i j:Nat} (hi:i<R) (hj:j<C) (hR:R≤32) (hC:C≤32) (hl:l.length=R*C):Dw (Af.mk R C l) i j=some (l.getD (i*C+j) Aj):=by
 unfold Dw
 simp only
 rw [ix hi hj hR hC,gI (n:=i*C+j) rfl (by rw [hl]; exact Dx hi hj)]
 rfl
theorem TX {R K C:Nat} {la lb:List Ab} (ma:mOk (Af.mk R K la)=true) (mb:mOk (Af.mk K C lb)=true) :
  Gh (Af.mk R K la) (Af.mk K C lb)=some (mR R C (mmO la lb R K C))∧∀ l,mmO la lb R K C=some l→okD l∧l.length=R*C:=by
 obtain ⟨R',K',la',e,a1,a2,a3,a4,a5,a6⟩:=IX ma
 obtain ⟨h,h',rfl⟩:=Af.mk.inj e
 obtain rfl:R=R':=by omega
 obtain rfl:K=K':=by omega
 obtain ⟨K',C',lb',e,b1,b2,b3,b4,b5,b6⟩:=IX mb
 obtain ⟨h,h',rfl⟩:=Af.mk.inj e
 obtain rfl:K=K':=by omega
 obtain rfl:C=C':=by omega
 have l5:la.length≤1024:=by rw [a5]; exact Nat.mul_le_mul a3.2 a4.2
 have l6:lb.length≤1024:=by rw [b5]; exact Nat.mul_le_mul b3.2 b4.2
 have hc:∀ i j:Nat,i<R→j<C→Dm i j (Af.mk R K la) (Af.mk K C lb)=some (dR (BX la lb K C i j))∧∀ z,BX la lb K C i j=some z→dOk z=true:=fun i j hi hj=>by
  obtain ⟨h1,h2⟩:=Io (g:=FS (Af.mk R K la) i (Af.mk K C lb) j) (enc:=iT) (G:=fun _ z=>dOk z=true) (st:=BD (fun k=>la.getD (i*K+k) Aj) (fun k=>lb.getD (k*C+j) Aj)) (R:=(Aj,false)) (n:=K) (fun k s hk hs=>by
   have:=Vn (X:=fun k=>la.getD (i*K+k) Aj) (Y:=fun k=>lb.getD (k*C+j) Aj) (fun _=>Ct a6 _) (fun _=>Ct b6 _) (Aj,false) k s hs
   refine ⟨?_,this.2⟩
   rw [← this.1]
   unfold FS iT
   simp only
   rw [Kz hi hk a3.2 a4.2 a5,Kz hk hj b3.2 b4.2 b5]
   rfl) K 0 Aj (by omega) BC
  refine ⟨?_,h2⟩
  unfold Dm
  simp only [Int.toNat_natCast]
  rw [chk_t (by omega),show forX (FS (Af.mk R K la) i (Af.mk K C lb) j) K 0 (0,0,0,0,0)=_ from h1]
  unfold BX
  cases forN (BD (fun k=>la.getD (i*K+k) Aj) (fun k=>lb.getD (k*C+j) Aj)) K 0 Aj <;> rfl
 obtain ⟨h1,h2⟩:=IL (cell:=fun x_0 x_1=>Dm x_0 x_1 (Af.mk R K la) (Af.mk K C lb)) (cellO:=BX la lb K C) a1 b2 a3.2 b4.2 hc
 refine ⟨?_,h2⟩
 unfold Gh
 rw [IZ _ (by simp only; omega),IZ _ (by simp only; omega),ma,mb]
 simp only [Option.bind_some,gb,Bool.not_true,Bool.not_false,cond_true,Bool.or_self,Bool.false_or,bne_self_eq_false,cond_false]
 rw [h1]; rfl

theorem tm2 (a:Int):(Int.tmod a 2==0)=decide ((2:Int) ∣ a):=by
 rw [Bool.eq_iff_iff,beq_iff_eq,decide_eq_true_eq,Int.dvd_iff_tmod_eq_zero]
theorem Jy {σ:Type} {f g:Nat→σ→Option σ} {G:Nat→σ→Prop} {n:Nat} (h:∀ k s,k<n→G k s→f k s=g k s∧∀ z,g k s=some z→G (k+1) z) :
  ∀ (m i:Nat) (s:σ),i+m≤n→G i s→forN f m i s=forN g m i s
 | 0,_,_,_,_=>rfl
 | m+1,i,s,hm,hG=>by
  obtain ⟨h1,h2⟩:=h i s (by omega) hG
  simp only [forN,h1]
  cases hs:g i s with
  | none=>rfl
  | some z=>simp only [Option.bind_some]; exact Jy h m (i+1) z (by omega) (h2 z hs)
/-- A row of cells that are all there. -/
theorem MN {f:Nat→Nat→Ab} (R C:Nat) (hf:∀ i j,i<R→j<C→dOk (f i j)=true):∃ l,BW (fun i j=>some (f i j)) R C=some l∧okD l∧l.length=R*C:=by
 obtain ⟨l,h1,h2,h3⟩:=forN_inv (f:=fun i l=>forN (fun j l=>(some (f i j)).bind fun z=>some (l++[z])) C 0 l) (fun i z=>okD z∧z.length=i*C) R 0 [] ⟨fun _ h=>(by cases h),by simp⟩ (fun i s _ hi hs=>by
  obtain ⟨l,h1,h2,h3⟩:=forN_inv (f:=fun j l=>(some (f i j)).bind fun z=>some (l++[z])) (fun j z=>okD z∧z.length=i*C+j) C 0 s ⟨hs.1,by rw [hs.2]; rfl⟩ (fun j s _ hj hs=>⟨_,rfl,Jl hs.1 (hf i j (by omega) (by omega)),by simp [hs.2]; omega⟩)
  exact ⟨l,h1,h2,by rw [h3,Nat.add_mul]; omega⟩)
 exact ⟨l,h1,h2,by simpa using h3⟩
def BR (n:Nat):List Ab:=(List.range (n*n)).map fun p=>if p / n=p % n then Fz else Aj
theorem UP:∀ n∈[1,2,4,8,16,32],Ou ((n:Nat):Int)=some (Af.mk (n:Nat) (n:Nat) (BR n)):=by decide +kernel
theorem TQ:∀ n∈[1,2,4,8,16,32],GW ((n:Nat):Int)=some (Af.mk (n:Nat) (n:Nat) (BR n),true):=by decide +kernel
theorem LZ {n:Nat} (h:AQ (n:Int)=true):n∈[1,2,4,8,16,32]:=by
 unfold AQ at h
 simp only [List.any_cons,List.any_nil,Bool.or_false,Bool.or_eq_true,beq_iff_eq] at h
 simp only [List.mem_cons,List.not_mem_nil,or_false]
 omega
theorem Gx (n:Nat):(BR n).length=n*n:=by simp [BR]
theorem KQ (n:Nat):okD (BR n):=fun z hz=>by
 simp only [BR,List.mem_map] at hz
 obtain ⟨p,_,rfl⟩:=hz
 split
 ·decide
 ·decide
theorem Qk {l l':List Ab} (hl:l.length≤9223372036854775807):FL l l'=some (decide (l=l')):=by
 unfold FL
 by_cases hn:l.length=l'.length
 ·have e:((l.length:Int) != (l'.length:Int))=false:=by simp [hn]
  rw [e,cond_false,chk_t hl,U4 (f:=Hu l l') (l:=l) (l':=l') (q:=false) hn (fun i x y hx hy=>by
   unfold Hu
   simp only [getI_nat,hx,hy,Option.bind_some,TS,bs])]
  by_cases h:l=l'
  ·rw [if_pos h,decide_eq_true h]; rfl
  ·rw [if_neg h,decide_eq_false h]; rfl
 ·have e:((l.length:Int) != (l'.length:Int))=true:=by simp; omega
  rw [e,decide_eq_false (fun h=>hn (by rw [h]))]; rfl
theorem VQ {R C:Nat} {l l':List Ab} (hl:l.length≤9223372036854775807):Fo (Af.mk R C l) (Af.mk R C l')=some (decide (l=l')):=by
 unfold Fo
 simp only [beq_self_eq_true,Bool.and_self,gb,cond_true,Qk hl,Option.bind_some,Bool.true_and]

def rIt:Nat→Aa→Aa
 | 0,x=>x
 | k+1,x=>rIt k (At x)
def Ao (x y:Aa):Aa:=Aa.mk (x.A+y.A) (x.B+y.B) (x.C+y.C) (x.D+y.D)
theorem W6 (x y:Aa):At (Ao x y)=Ao (At x) (At y):=by
 unfold At Ao
 simp only [Aa.mk.injEq]
 omega
theorem FX:∀ (k:Nat) (x y:Aa),rIt k (Ao x y)=Ao (rIt k x) (rIt k y)
 | 0,_,_=>rfl
 | k+1,x,y=>by
  show rIt k (At (Ao x y))=_
  rw [W6,FX k]; rfl
theorem Cu (m:Nat):∀ (n:Nat) (x:Aa),rIt (m+n) x=rIt m (rIt n x)
 | 0,_=>rfl
 | n+1,x=>Cu m n (At x)
theorem U3 {x:Aa} (h:rOk x=true) (he:Bb x=true):At (CH x)=x:=by
 rw [By] at h
 unfold Bb at he
 rw [wr (by omega),wr (by omega),Bool.and_eq_true,beq_iff_eq,beq_iff_eq] at he
 obtain ⟨m,hm⟩:=Int.dvd_of_tmod_eq_zero he.1
 obtain ⟨n,hn⟩:=Int.dvd_of_tmod_eq_zero he.2
 have t:∀ {a b:Int},a=2*b→Int.tdiv a 2=b:=fun h=>by rw [h]; exact Int.mul_tdiv_cancel_left _ (by decide)
 unfold CH At
 rw [t (show x.B-x.D=2*(n-x.D) by omega),t hm,t hn,t (show x.C-x.A=2*(m-x.A) by omega)]
 obtain ⟨A,B,C,D⟩:=x
 simp only [Aa.mk.injEq] at *
 omega
theorem Gv {x:Aa} {e:Int} (hx:rOk x=true) (he:0≤e∧e≤60) {z:Ab} {ok:Bool} (h:AR x e=some (z,ok)):0≤z.Exp∧z.Exp≤e∧rIt (e-z.Exp).toNat z.Num=x:=by
 obtain ⟨⟨e',A,B,C,D⟩,h1,h2,h3,h4,h5,h6⟩:=Kj (f:=Cx) (g:=Cx) (fun s=>rOk (Aa.mk s.2.1 s.2.2.1 s.2.2.2.1 s.2.2.2.2)=true∧0≤s.1∧s.1≤e∧rIt (e-s.1).toNat (Aa.mk s.2.1 s.2.2.1 s.2.2.2.1 s.2.2.2.2)=x)
  (fun s=>rOk (Aa.mk s.2.1 s.2.2.1 s.2.2.2.1 s.2.2.2.2)=true∧0≤s.1∧s.1≤e∧rIt (e-s.1).toNat (Aa.mk s.2.1 s.2.2.1 s.2.2.2.1 s.2.2.2.2)=x) (fun s=>s.1.toNat)
  (fun s ⟨hr,h0,h60,hv⟩=>by
   obtain ⟨e1,A,B,C,D⟩:=s
   simp only at hr h0 h60 hv
   unfold Cx
   simp only [Gy,Option.bind_some,gb]
   by_cases hpos:0<e1
   ·rw [decide_eq_true hpos]
    cases hev:Bb (Aa.mk A B C D) with
    | true =>
     simp only [cond_true,Bool.and_self,Od hr hev,Option.bind_some]
     refine .inl ⟨_,rfl,rfl,⟨IS hr,?_⟩,?_⟩
     ·show 0≤IntKind.i64.wrap (e1-1)∧IntKind.i64.wrap (e1-1)≤e∧rIt (e-IntKind.i64.wrap (e1-1)).toNat (CH (Aa.mk A B C D))=x
      rw [wr (by omega)]
      refine ⟨by omega,by omega,?_⟩
      rw [show (e-(e1-1)).toNat=(e-e1).toNat+1 by omega]
      show rIt (e-e1).toNat (At (CH (Aa.mk A B C D)))=x
      rw [U3 hr hev]; exact hv
     ·show (IntKind.i64.wrap (e1-1)).toNat<e1.toNat
      rw [wr (by omega)]; omega
    | false =>
     simp only [cond_true,Bool.and_false,cond_false]
     exact .inr ⟨_,rfl,rfl,hr,h0,h60,hv⟩
   ·rw [decide_eq_false hpos]
    simp only [cond_false,Bool.false_and]
    exact .inr ⟨_,rfl,rfl,hr,h0,h60,hv⟩)
  fuel (e,x.A,x.B,x.C,x.D) ⟨hx,he.1,Int.le_refl e,by simp only [Int.sub_self]; rfl⟩ (Ba (by simp only; omega))
 unfold AR A2 at h
 simp only [DI,hx,Option.bind_some,gb,Bool.not_true,Bool.not_false,cond_true,Bool.false_or] at h
 rw [decide_eq_true he.1,decide_eq_true he.2] at h
 simp only [Bool.and_self,Bool.not_true,cond_false] at h
 rw [h1] at h
 simp only [Option.bind_some,orR,Option.some.injEq,Prod.mk.injEq] at h
 obtain ⟨rfl,_⟩:=h
 exact ⟨h4,h5,h6⟩
theorem Na {E:Int} (hE:E≤60):∀ (k:Nat) (x:Aa) (e:Int),rOk x=true→0≤e→e≤E→(E-e).toNat<k →
  ∃ a oa e',whX (Cw E) k (Be x true e)=some (.inl (Be a oa e'))∧rOk a=true∧(oa=true→a=rIt (E-e).toNat x)∧((∀ j,j≤(E-e).toNat→rOk (rIt j x)=true)→oa=true)
 | 0,_,_,_,_,_,hk=>absurd hk (Nat.not_lt_zero _)
 | k+1,x,e,hx,h0,h1,hk=>by
  have hg:=DB (E:=E) hx h0 (by omega) true
  by_cases hlt:e<E
  ·have hn:(E-e).toNat=(E-(e+1)).toNat+1:=by omega
   simp only [decide_eq_true hlt,cond_true,Bool.true_and] at hg
   cases hr:rOk (At x) with
   | true =>
    simp only [hr,if_true] at hg
    obtain ⟨a,oa,e',e1,e2,e3,e4⟩:=Na hE k (At x) (e+1) hr (by omega) (by omega) (by omega)
    refine ⟨a,oa,e',by simp only [whX,hg,Option.bind_some]; exact e1,e2,fun h=>by rw [hn]; exact e3 h,fun h=>e4 (fun j hj=>?_)⟩
    have:=h (j+1) (by omega)
    exact this
   | false =>
    simp only [hr,Bool.false_eq_true,if_false] at hg
    refine ⟨An,false,e+1,?_,BU,(fun h=>nomatch h),fun h=>?_⟩
    ·cases k with
     | zero=>omega
     | succ k =>
      have hg2:=DB (E:=E) BU (show 0≤e+1 by omega) (by omega) false
      simp only [Bool.and_false,cond_false] at hg2
      simp only [whX,hg,Option.bind_some,hg2]
    ·have:=h 1 (by omega)
     have h2:rOk (At x)=true:=this
     exact absurd (hr.symm.trans h2) (by decide)
  ·simp only [decide_eq_false hlt,cond_false,Bool.false_and] at hg
   have:e=E:=by omega
   subst this
   exact ⟨x,true,e,by simp only [whX,hg,Option.bind_some],hx,fun _=>by simp only [Int.sub_self]; rfl,fun _=>rfl⟩
theorem IA {x:Ab} (hx:dOk x=true) {E:Int} (h1:x.Exp≤E) (h2:E≤60):∃ a oa,BE x E=some (a,oa)∧rOk a=true∧(oa=true→a=rIt (E-x.Exp).toNat x.Num)∧((∀ j,j≤(E-x.Exp).toNat→rOk (rIt j x.Num)=true)→oa=true):=by
 obtain ⟨x1,x2,x3⟩:=AE hx
 obtain ⟨a,oa,e',e1,e2,e3,e4⟩:=Na h2 fuel x.Num x.Exp x1 x2 h1 (Ba (by omega))
 exact ⟨a,oa,C3 e1,e2,e3,e4⟩
def vOf (x:Ab):Aa:=rIt (60-x.Exp).toNat x.Num
theorem LU {x y z:Ab} (hx:dOk x=true) (hy:dOk y=true) (h:DA x y=some z):vOf z=Ao (vOf x) (vOf y):=by
 obtain ⟨x1,x2,x3⟩:=AE hx
 obtain ⟨y1,y2,y3⟩:=AE hy
 generalize hE:(if x.Exp<y.Exp then y.Exp else x.Exp)=E
 have b1:x.Exp≤E:=by rw [← hE]; split <;> omega
 have b2:y.Exp≤E:=by rw [← hE]; split <;> omega
 have b3:E≤60:=by rw [← hE]; split <;> omega
 obtain ⟨a,oa,a1,a2,a3,_⟩:=IA hx b1 b3
 obtain ⟨c,oc,c1,c2,c3,_⟩:=IA hy b2 b3
 have hc:=ER hx hy hE a1 c1 a2 c2
 unfold DA at h
 rw [hc] at h
 cases hcond:oa&&oc&&rOk (AP a c) with
 | false=>rw [hcond] at h; simp at h
 | true =>
  rw [hcond] at h
  simp only [Bool.and_eq_true] at hcond
  obtain ⟨⟨rfl,rfl⟩,hr⟩:=hcond
  simp only [cond_true] at h
  obtain ⟨p,hp,hq⟩:=Option.bind_eq_some_iff.1 h
  obtain ⟨z',ok⟩:=p
  cases ok with
  | false=>simp at hq
  | true =>
   simp only [if_true,Option.some.injEq] at hq
   subst hq
   obtain ⟨l1,l2,l3⟩:=Gv hr (e:=E) ⟨by omega,b3⟩ hp
   have hadd:AP a c=Ao a c:=by
    rw [By] at a2 c2
    show Aa.mk (IntKind.i64.wrap (a.A+c.A)) (IntKind.i64.wrap (a.B+c.B)) (IntKind.i64.wrap (a.C+c.C)) (IntKind.i64.wrap (a.D+c.D))=_
    rw [wr (a:=a.A+c.A) (by omega),wr (a:=a.B+c.B) (by omega),wr (a:=a.C+c.C) (by omega),wr (a:=a.D+c.D) (by omega)]
    rfl
   unfold vOf
   rw [show (60-z'.Exp).toNat=(60-E).toNat+(E-z'.Exp).toNat by omega,Cu,l3,hadd,FX,a3 rfl,c3 rfl,← Cu,← Cu,
    show (60-E).toNat+(E-x.Exp).toNat=(60-x.Exp).toNat by omega,show (60-E).toNat+(E-y.Exp).toNat=(60-y.Exp).toNat by omega]
theorem Mt {x y z:Ab} (hx:dOk x=true) (hy:dOk y=true) (h:DM x y=some z):x.Exp+y.Exp≤60∧vOf z=rIt (60-(x.Exp+y.Exp)).toNat (AU x.Num y.Num):=by
 obtain ⟨x1,x2,x3⟩:=AE hx
 obtain ⟨y1,y2,y3⟩:=AE hy
 have hw:IntKind.i64.wrap (x.Exp+y.Exp)=x.Exp+y.Exp:=wr (by omega)
 have hi:∀ q:Aa×Bool,Dh x.Num y.Num=some q→Bf x y=(bif !q.2 then some (Aj,false) else (AR q.1 (x.Exp+y.Exp)).bind fun p=>some (p.1,p.2)):=fun q hq=>by
  unfold Bf
  rw [hq]
  simp only [Option.bind_some,D0,hx,hy,gb,Bool.not_true,Bool.not_false,cond_true,Bool.false_or,hw]
  rfl
 unfold DM at h
 rw [hi _ (Em x1 y1)] at h
 cases hr:rOk (AU x.Num y.Num) with
 | false=>rw [hr] at h; simp at h
 | true =>
  rw [hr] at h
  simp only [if_true,Bool.not_true,cond_false] at h
  by_cases he:x.Exp+y.Exp≤60
  ·refine ⟨he,?_⟩
   obtain ⟨p,hp,hq⟩:=Option.bind_eq_some_iff.1 h
   obtain ⟨p',hp',hp2⟩:=Option.bind_eq_some_iff.1 hp
   obtain ⟨z',ok⟩:=p'
   cases hp2
   cases ok with
   | false=>simp at hq
   | true =>
    simp only [if_true,Option.some.injEq] at hq
    subst hq
    obtain ⟨l1,l2,l3⟩:=Gv hr (e:=x.Exp+y.Exp) ⟨by omega,he⟩ hp'
    unfold vOf
    rw [show (60-z'.Exp).toNat=(60-(x.Exp+y.Exp)).toNat+(x.Exp+y.Exp-z'.Exp).toNat by omega,Cu,l3]
  ·unfold AR A2 at h
   simp only [DI,hr,Option.bind_some,gb,Bool.not_true,Bool.not_false,cond_true,Bool.false_or] at h
   rw [decide_eq_false he] at h
   simp at h
theorem GE {a N M:Int} (hM:0≤M) (h:a*a≤N) (hN:N<M*M) : -M≤a∧a≤M:=by
 constructor
 ·rcases Int.lt_or_le a (-M) with h1 | h1
  ·have:=Int.mul_le_mul (a:=M) (b:=M) (c:=-a) (d:=-a) (by omega) (by omega) hM (by omega)
   rw [Int.neg_mul_neg] at this
   omega
  ·exact h1
 ·rcases Int.lt_or_le M a with h1 | h1
  ·have:=Int.mul_le_mul (a:=M) (b:=M) (c:=a) (d:=a) (by omega) (by omega) hM (by omega)
   omega
  ·exact h1
theorem AL (a:Int):0≤a*a:=by
 rcases Int.le_total 0 a with h | h
 ·exact Int.mul_nonneg h h
 ·have:=Int.mul_nonneg (show 0≤-a by omega) (show 0≤-a by omega)
  rwa [Int.neg_mul_neg] at this
/-- What a sum is, taken by eight. -/
def m8 (x:Int):Int:=Int.tmod (IntKind.i64.wrap ((Int.tmod x 8)+8)) 8
/-- The two tables of sums say the same: B as it runs, S taken by eight, with a bound. -/
def J9 (N:Nat) (z:Int) (B S:List Int):Prop :=
 B.length=N∧S.length=32∧N≤32∧(∀ (j:Nat) (x:Int),B[j]?=some x→-z≤x∧x≤z∧S[j]?=some (x % 8))∧∀ j,N≤j→j<32→S[j]?=some 0
theorem J9.mono {N:Nat} {z z':Int} {B S:List Int} (h:J9 N z B S) (hz:z≤z'):J9 N z' B S :=
 ⟨h.1,h.2.1,h.2.2.1,fun j x hx=>⟨by have:=(h.2.2.2.1 j x hx).1; omega,Int.le_trans (h.2.2.2.1 j x hx).2.1 hz,(h.2.2.2.1 j x hx).2.2⟩,h.2.2.2.2⟩
/-- The rows of a map over n wires, each a number below N. -/
def JE (n N:Nat) (R:List Int):Prop:=R.length=n∧∀ x∈R,0≤x∧x<N
theorem JE.set {n N:Nat} {R:List Int} (h:JE n N R) (i:Nat) {x:Nat} (hx:x<N):JE n N (R.set i (x:Int)) :=
 ⟨by rw [List.length_set]; exact h.1,fun y hy=>by
  rcases List.mem_or_eq_of_mem_set hy with hy | rfl
  ·exact h.2 y hy
  ·omega⟩
/-- A gate that is taken, over n wires. -/
def gOk (n:Int) (g:Ac):Bool :=
 bif decide (1≤g.Kind)&&decide (g.Kind≤8) then decide (0≤g.A)&&decide (g.A≤n-1)&&(g.B==0)
 else bif decide (9≤g.Kind)&&decide (g.Kind≤11) then decide (0≤g.A)&&decide (g.A≤n-1)&&(decide (0≤g.B)&&decide (g.B≤n-1))&&(g.A != g.B)
 else (g.Kind==12)&&(g.A==0)&&(g.B==0)
theorem Sf {n:Int} (hn:1≤n∧n≤5) (g:Ac):FR n g=some (gOk n g):=by
 unfold FR AF gOk
 rw [wrap_i64 (a:=n-1) ⟨by omega,by omega⟩]
 simp only [Option.bind_some,gb]
 cases decide (1≤g.Kind)&&decide (g.Kind≤8) <;> cases decide (9≤g.Kind)&&decide (g.Kind≤11) <;> simp only [cond_true,cond_false,Option.bind_some]
 all_goals cases decide (0≤g.A)&&decide (g.A≤n-1) <;> simp
theorem Jn {n:Int} (hn:1≤n∧n≤5) (g:Ac):C7 n g=some (gOk n g):=by
 unfold C7 AX A2 gOk
 rw [wrap_i64 (a:=n-1) ⟨by omega,by omega⟩]
 have h1:decide (1≤n)=true:=decide_eq_true hn.1
 have h5:decide (n≤5)=true:=decide_eq_true hn.2
 simp only [Option.bind_some,gb,h1,h5,Bool.and_self,Bool.not_true,Bool.not_false,cond_true,Bool.false_or]
 by_cases hk:1≤g.Kind∧g.Kind≤12
 ·have e1:(decide (1≤g.Kind)&&decide (g.Kind≤12))=true:=by simp [hk]
  simp only [e1,Bool.not_true,cond_false]
  by_cases h12:g.Kind=12
  ·simp [h12]
  ·have e12:(g.Kind==12)=false:=by simp [h12]
   simp only [e12,cond_false]
   by_cases h9:9≤g.Kind
   ·have a1:(decide (9≤g.Kind)&&decide (g.Kind≤11))=true:=by simp; omega
    have a2:(decide (1≤g.Kind)&&decide (g.Kind≤8))=false:=by simp; omega
    simp only [a1,a2,cond_true,cond_false]
    cases decide (0≤g.A)&&decide (g.A≤n-1) <;> simp
   ·have a1:(decide (9≤g.Kind)&&decide (g.Kind≤11))=false:=by simp; omega
    have a2:(decide (1≤g.Kind)&&decide (g.Kind≤8))=true:=by simp; omega
    simp only [a1,a2,cond_true,cond_false]
 ·have e1:(decide (1≤g.Kind)&&decide (g.Kind≤12))=false:=by simp; omega
  have a1:(decide (9≤g.Kind)&&decide (g.Kind≤11))=false:=by simp; omega
  have a2:(decide (1≤g.Kind)&&decide (g.Kind≤8))=false:=by simp; omega
  have a3:(g.Kind==12)=false:=by simp; omega
  simp [e1,a1,a2,a3]
/-- A circuit that is taken. -/
def cOk (c:Ad):Bool:=decide (1≤c.Qubits)&&decide (c.Qubits≤5)&&decide (c.Gates.length≤400)&&c.Gates.all (gOk c.Qubits)
theorem Mn (c:Ad):ES c=some (cOk c):=by
 unfold ES AF cOk
 simp only [Option.bind_some]
 by_cases hn:1≤c.Qubits∧c.Qubits≤5
 ·by_cases hl:c.Gates.length≤400
  ·have e:(!(decide (1≤c.Qubits)&&decide (c.Qubits≤5))||decide ((400:Int)<(c.Gates.length:Int)))=false:=by simp [hn]; omega
   rw [e,cond_false,chk_t (by omega)]
   rcases forX_any (f:=GI c) (l:=c.Gates) (p:=fun g=>!gOk c.Qubits g) (q:=fun _=>false) (fun i x hx=>by
    unfold GI; simp only [getI_nat,hx,Option.bind_some,Sf hn]; cases gOk c.Qubits x <;> rfl) with ⟨h1,h2⟩ | ⟨h1,i,_,h2⟩
   ·rw [h2]
    have:c.Gates.all (gOk c.Qubits)=true:=by rw [List.all_eq_true]; intro x hx; have:=List.any_eq_false.1 h1 x hx; simpa using this
    simp [orR,hn,hl,this]
   ·rw [h2]
    have:c.Gates.all (gOk c.Qubits)=false:=by
     obtain ⟨x,hx,hp⟩:=List.any_eq_true.1 h1
     rw [List.all_eq_false]; exact ⟨x,hx,by simpa using hp⟩
    simp [orR,this]
  ·have e:(!(decide (1≤c.Qubits)&&decide (c.Qubits≤5))||decide ((400:Int)<(c.Gates.length:Int)))=true:=by simp; omega
   rw [e,cond_true]
   simp [hl]
 ·have e:(!(decide (1≤c.Qubits)&&decide (c.Qubits≤5))||decide ((400:Int)<(c.Gates.length:Int)))=true:=by simp; omega
  rw [e,cond_true]
  have:(decide (1≤c.Qubits)&&decide (c.Qubits≤5))=false:=by simp; omega
  simp [this]
theorem CP (c:Ad) (hlen:c.Gates.length≤1048576):BI c=some (cOk c):=by
 unfold BI A2 cOk
 simp only [Option.bind_some]
 by_cases hn:1≤c.Qubits∧c.Qubits≤5
 ·by_cases hl:c.Gates.length≤400
  ·have e:(decide (1≤c.Qubits)&&decide (c.Qubits≤5)&&decide ((c.Gates.length:Int)≤400))=true:=by simp [hn]; omega
   rw [e]
   have hf:∀ i x,c.Gates[i]?=some x→Ed c.Gates (fun x_0=>EF x_0 c) i ()=some (bif !gOk c.Qubits x then .rt (i:Int) else .nx ()):=fun i x hx=>by
    unfold Ed EF
    simp only [getI_nat,hx,Option.bind_some,Jn hn]
    cases gOk c.Qubits x <;> rfl
   unfold Du Fq
   rw [chk_t (by omega)]
   rcases forX_any hf with ⟨h1,h2⟩ | ⟨h1,i,_,h2⟩
   ·rw [h2]
    have:c.Gates.all (gOk c.Qubits)=true:=by rw [List.all_eq_true]; intro x hx; have:=List.any_eq_false.1 h1 x hx; simpa using this
    simp [orR,hn,hl,this,gb]
   ·rw [h2]
    have:c.Gates.all (gOk c.Qubits)=false:=by
     obtain ⟨x,hx,hp⟩:=List.any_eq_true.1 h1
     rw [List.all_eq_false]; exact ⟨x,hx,by simpa using hp⟩
    simp [orR,this,gb]
  ·have e:(decide (1≤c.Qubits)&&decide (c.Qubits≤5)&&decide ((c.Gates.length:Int)≤400))=false:=by simp; omega
   rw [e]
   simp [gb,hl]
 ·have this:(decide (1≤c.Qubits)&&decide (c.Qubits≤5))=false:=by simp; omega
  simp [gb,this]
theorem Bj {n:Int} {g:Ac} (h:gOk n g=true):(1≤g.Kind∧g.Kind≤8∧0≤g.A∧g.A≤n-1)∨(9≤g.Kind∧g.Kind≤11∧0≤g.A∧g.A≤n-1∧0≤g.B∧g.B≤n-1∧g.A≠g.B)∨g.Kind=12:=by
 unfold gOk at h
 by_cases h1:1≤g.Kind∧g.Kind≤8
 ·have e:(decide (1≤g.Kind)&&decide (g.Kind≤8))=true:=by simp [h1]
  rw [e,cond_true] at h
  simp at h
  exact .inl ⟨h1.1,h1.2,h.1.1,h.1.2⟩
 ·have e:(decide (1≤g.Kind)&&decide (g.Kind≤8))=false:=by simp; omega
  rw [e,cond_false] at h
  by_cases h2:9≤g.Kind∧g.Kind≤11
  ·have e:(decide (9≤g.Kind)&&decide (g.Kind≤11))=true:=by simp [h2]
   rw [e,cond_true] at h
   simp at h
   exact .inr (.inl ⟨h2.1,h2.2,h.1.1.1,h.1.1.2,h.1.2.1,h.1.2.2,h.2⟩)
  ·have e:(decide (9≤g.Kind)&&decide (g.Kind≤11))=false:=by simp; omega
   rw [e,cond_false] at h
   simp at h
   exact .inr (.inr h.1.1)
def eOk (n:Int) (x:Ah):Bool:=decide (0≤x.A)&&decide (x.A<x.B)&&decide (x.B<n)
def EB:Ah:=Ah.mk 0 0
def Gk (E:List Ah) (i:Nat) (x:Ah):Bool:=decide (x.A<(E.getD (i-1) EB).A)||(((E.getD (i-1) EB).A==x.A)&&decide (x.B≤(E.getD (i-1) EB).B))
theorem bsR {ρ:Type} {b:Bool} {x y:Ex Unit ρ}:(bif b then some x else some y)=some (bif b then x else y):=by cases b <;> rfl
theorem NP {α:Type} {l:List α} {i:Nat} (d:α) (h0:0<i) (hi:i<l.length) (hl:l.length≤1048576):getI l (IntKind.i64.wrap ((i:Int)-1))=some (l.getD (i-1) d):=by
 rw [wrap_i64 ⟨by omega,by omega⟩,show (i:Int)-1=((i-1:Nat):Int) by omega,getI_nat,List.getElem?_eq_getElem (by omega)]
 simp [List.getD,show i-1<l.length by omega]
theorem Bn {α:Type} {l:List α} {k:Int} (d:α) (h0:0≤k) (h1:k<l.length):getI l k=some (l.getD k.toNat d):=by
 obtain ⟨x,e1,e2⟩:=getI_at h0 h1
 rw [e1]; simp [List.getD,e2]
theorem PU {g:Ae} {i:Nat} {x:Ah} (hx:g.Edges[i]?=some x) (hl:g.Edges.length≤1048576):DU g i ()=some (bif (!((decide (0≤x.A)&&decide (x.A≤IntKind.i64.wrap (x.B-1)))&&(decide (0≤x.B)&&decide (x.B≤IntKind.i64.wrap (g.Nodes-1)))))||(decide (0<(i:Int))&&Gk g.Edges i x) then .rt false else .nx ()):=by
 have hi:i<g.Edges.length:=(List.getElem?_eq_some_iff.1 hx).1
 unfold DU AF
 simp only [getI_nat,hx,Option.bind_some]
 cases h1:decide (0≤x.A)&&decide (x.A≤IntKind.i64.wrap (x.B-1)) with
 | false=>simp only [Bool.not_false,Bool.not_true,gb,cond_false,Option.bind_some,Bool.true_or,cond_true,Bool.false_and]
 | true =>
  simp only [Bool.not_true,Bool.not_false,gb,cond_true,Option.bind_some,Bool.false_or,Bool.true_and]
  cases h2:decide (0≤x.B)&&decide (x.B≤IntKind.i64.wrap (g.Nodes-1)) with
  | false=>simp only [Bool.not_false,Bool.true_or,cond_true]
  | true =>
   simp only [Bool.not_true,Bool.false_or,cond_false]
   by_cases h0:0<i
   ·have e0:decide (0<(i:Int))=true:=decide_eq_true (by omega)
    rw [e0,NP EB h0 hi hl]
    unfold Gk
    generalize g.Edges.getD (i-1) EB=y
    simp only [cond_true,Option.bind_some,Bool.true_and]
    cases hA:decide (x.A<y.A) with
    | true=>simp only [Bool.not_true,cond_false,Option.bind_some,Bool.false_and,Bool.true_or,cond_true]
    | false =>
     simp only [Bool.not_false,cond_true,Option.bind_some,Bool.false_or]
     cases hB:y.A==x.A with
     | true=>simp only [cond_true,Option.bind_some,Bool.true_and]; exact bsR
     | false=>simp only [cond_false,Option.bind_some,Bool.false_and,Bool.and_false]
   ·have e0:decide (0<(i:Int))=false:=decide_eq_false (by omega)
    rw [e0]
    simp only [cond_false,Option.bind_some,Bool.false_and]
theorem RH {E:List Ah} {n:Int} {i:Nat} {x:Ah} (hx:E[i]?=some x) (hl:E.length≤1048576):Fb E n i ()=some (bif (!eOk n x)||(decide (0<(i:Int))&&Gk E i x) then .rt false else .nx ()):=by
 have hi:i<E.length:=(List.getElem?_eq_some_iff.1 hx).1
 have hb:(((decide (x.A<0))||(decide (x.B≤x.A)))||(decide (n≤x.B)))=!eOk n x:=by
  unfold eOk
  rw [Bool.eq_iff_iff]
  simp only [Bool.or_eq_true,decide_eq_true_eq,Bool.not_eq_true',Bool.and_eq_false_iff,decide_eq_false_iff_not]
  omega
 unfold Fb
 simp only [getI_nat,hx,Option.bind_some,hb]
 cases eOk n x with
 | false=>simp only [Bool.not_false,Bool.not_true,gb,cond_false,Option.bind_some,Bool.true_or,cond_true,Bool.false_and]
 | true =>
  simp only [Bool.not_true,Bool.not_false,Bool.true_and,Bool.false_or]
  by_cases h0:0<i
  ·have e0:decide (0<(i:Int))=true:=decide_eq_true (by omega)
   rw [e0,NP EB h0 hi hl]
   unfold Gk
   generalize E.getD (i-1) EB=y
   simp only [gb,cond_true,Option.bind_some,Bool.true_and]
   cases hA:decide (x.A<y.A) with
   | true=>simp only [Bool.not_true,cond_false,Option.bind_some,Bool.false_and,Bool.true_or,cond_true]
   | false =>
    simp only [Bool.not_false,cond_true,Option.bind_some,Bool.false_or]
    cases hB:y.A==x.A with
    | true=>simp only [cond_true,Option.bind_some,Bool.true_and]; exact bsR
    | false=>simp only [cond_false,Option.bind_some,Bool.false_and,Bool.and_false]
  ·have e0:decide (0<(i:Int))=false:=decide_eq_false (by omega)
   rw [e0]
   simp only [gb,cond_false,Option.bind_some,Bool.false_and]
theorem Ku (g:Ae) (hl:g.Edges.length≤1048576):∃ b,Dd g=some b∧Ck g=some b∧(b=true→(1≤g.Nodes∧g.Nodes≤8)∧∀ x∈g.Edges,eOk g.Nodes x=true):=by
 unfold Dd Ck G1 AF A2
 rw [chk_t (by omega),chk_t (by omega)]
 simp only [Option.bind_some]
 by_cases hn:1≤g.Nodes∧g.Nodes≤8
 ·have en:(decide (1≤g.Nodes)&&decide (g.Nodes≤8))=true:=by simp [hn]
  rw [en]
  simp only [gb,cond_true,Bool.true_and]
  rcases forX2_inv (f:=DU g) (g:=Fb g.Edges g.Nodes) (fun j _ _=>∀ i,i<j→∀ x,g.Edges[i]?=some x→eOk g.Nodes x=true) (fun r r'=>r=false∧r'=false) g.Edges.length 0 () () (fun i hi=>absurd hi (Nat.not_lt_zero _)) (fun i s t _ hi hI=>by
   have hx:=List.getElem?_eq_getElem (show i<g.Edges.length by omega)
   generalize g.Edges[i]=x at hx
   have h1:=PU hx hl
   have h2:=RH (n:=g.Nodes) hx hl
   have he:(!((decide (0≤x.A)&&decide (x.A≤IntKind.i64.wrap (x.B-1)))&&(decide (0≤x.B)&&decide (x.B≤IntKind.i64.wrap (g.Nodes-1)))))=!eOk g.Nodes x:=by
    rw [wrap_i64 (a:=g.Nodes-1) ⟨by omega,by omega⟩]
    congr 1
    unfold eOk
    by_cases hB:0≤x.B∧x.B≤g.Nodes-1
    ·rw [wrap_i64 (a:=x.B-1) ⟨by omega,by omega⟩,Bool.eq_iff_iff]
     simp only [Bool.and_eq_true,decide_eq_true_eq]
     omega
    ·rw [Bool.eq_iff_iff]
     simp only [Bool.and_eq_true,decide_eq_true_eq]
     omega
   rw [he] at h1
   cases hr:(!eOk g.Nodes x)||(decide (0<(i:Int))&&Gk g.Edges i x) with
   | true =>
    rw [hr] at h1 h2
    exact .inr ⟨false,false,h1,h2,rfl,rfl⟩
   | false =>
    rw [hr] at h1 h2
    refine .inl ⟨(),(),h1,h2,fun j hj y hy=>?_⟩
    rcases Nat.lt_succ_iff_lt_or_eq.1 hj with h | rfl
    ·exact hI j h y hy
    ·rw [hx] at hy; cases hy
     simp only [Bool.or_eq_false_iff,Bool.not_eq_false'] at hr
     exact hr.1) with ⟨_,_,h1,h2,h3⟩ | ⟨r,r',h1,h2,rfl,rfl⟩
  ·rw [h1,h2]
   refine ⟨true,rfl,rfl,fun _=>⟨hn,fun x hx=>?_⟩⟩
   obtain ⟨i,hi⟩:=List.mem_iff_getElem?.1 hx
   exact h3 i (by have:=(List.getElem?_eq_some_iff.1 hi).1; omega) x hi
  ·rw [h1,h2]
   exact ⟨false,rfl,rfl,fun h=>by cases h⟩
 ·have en:(decide (1≤g.Nodes)&&decide (g.Nodes≤8))=false:=by rw [Bool.and_eq_false_iff,decide_eq_false_iff_not,decide_eq_false_iff_not]; omega
  rw [en]
  simp only [gb,cond_false,Option.bind_some,Bool.false_and]
  refine ⟨false,?_,rfl,fun h=>by cases h⟩
  rcases forX_inv (f:=DU g) (fun _ _=>True) (fun r=>r=false) g.Edges.length 0 () trivial (fun i s _ hi _=>by
   have hx:=List.getElem?_eq_getElem (show i<g.Edges.length by omega)
   generalize g.Edges[i]=x at hx
   have h1:=PU hx hl
   cases hr:(!((decide (0≤x.A)&&decide (x.A≤IntKind.i64.wrap (x.B-1)))&&(decide (0≤x.B)&&decide (x.B≤IntKind.i64.wrap (g.Nodes-1)))))||(decide (0<(i:Int))&&Gk g.Edges i x) with
   | true=>rw [hr] at h1; exact .inr ⟨false,h1,rfl⟩
   | false=>rw [hr] at h1; exact .inl ⟨(),h1,trivial⟩) with ⟨_,h1,_⟩ | ⟨r,h1,rfl⟩
  ·rw [h1]; rfl
  ·rw [h1]; rfl
def Bc (E:List Ah) (a b:Int):Bool:=E.any fun x=>((x.A==a)&&(x.B==b))||((x.A==b)&&(x.B==a))
theorem RL {g:Ae} (hl:g.Edges.length≤1048576) (a b:Int):Gl g a b=some (Bc g.Edges a b):=by
 unfold Gl Bc
 rw [chk_t (by omega)]
 rcases forX_any (f:=Hf g a b) (l:=g.Edges) (p:=fun x=>((x.A==a)&&(x.B==b))||((x.A==b)&&(x.B==a))) (q:=fun _=>true) (fun i x hx=>by
  unfold Hf
  simp only [getI_nat,hx,Option.bind_some,bsR]) with ⟨h1,h2⟩ | ⟨h1,i,_,h2⟩
 ·rw [h2,h1]; rfl
 ·rw [h2,h1]; rfl
theorem KI {g:Ae} (hl:g.Edges.length≤1048576) (he:∀ x∈g.Edges,eOk g.Nodes x=true) (a b:Int):C2 g a b=some (Bc g.Edges a b):=by
 unfold C2 HH Gz
 rw [chk_t (by omega)]
 have hj:Bc g.Edges a b=g.Edges.any fun x=>(((if b<a then b else a)==x.A)&&(((if a<b then b else a)==x.B)&&true)):=by
  unfold Bc
  rw [Bool.eq_iff_iff,List.any_eq_true,List.any_eq_true]
  constructor
  ·rintro ⟨x,hx,hp⟩
   refine ⟨x,hx,?_⟩
   have:=he x hx
   unfold eOk at this
   simp only [Bool.and_eq_true,decide_eq_true_eq,Bool.or_eq_true,beq_iff_eq,Bool.and_true] at *
   split <;> split <;> omega
  ·rintro ⟨x,hx,hp⟩
   refine ⟨x,hx,?_⟩
   have:=he x hx
   unfold eOk at this
   simp only [Bool.and_eq_true,decide_eq_true_eq,Bool.or_eq_true,beq_iff_eq,Bool.and_true] at *
   obtain ⟨p1,p2⟩:=hp
   split at p1 <;> split at p2 <;> omega
 rcases forX_any (f:=GV g.Edges (Ah.mk (if b<a then b else a) (if a<b then b else a))) (l:=g.Edges) (p:=fun x=>(((if b<a then b else a)==x.A)&&(((if a<b then b else a)==x.B)&&true))) (q:=fun i=>(i:Int)) (fun i x hx=>by
  unfold GV
  simp only [getI_nat,hx,Option.bind_some,bsR]) with ⟨h1,h2⟩ | ⟨h1,i,_,h2⟩
 ·rw [h2,hj,h1]; rfl
 ·rw [h2,hj,h1]; simp [orR]
theorem KG {E:List Ah} {n:Int} (he:∀ x∈E,eOk n x=true) {a b:Int} (h:Bc E a b=true):0≤a∧a<n∧0≤b∧b<n∧a≠b:=by
 obtain ⟨x,hx,hp⟩:=List.any_eq_true.1 h
 have:=he x hx
 unfold eOk at this
 simp only [Bool.and_eq_true,decide_eq_true_eq,Bool.or_eq_true,beq_iff_eq] at *
 omega
theorem Ht {l:List Int} (hl:l.length≤9223372036854775807) (w:Int):Ce l w=some (l.any fun x=>x==w):=by
 unfold Ce
 rw [chk_t hl]
 rcases forX_any (f:=HU l w) (l:=l) (p:=fun x=>x==w) (q:=fun _=>true) (fun i x hx=>by
  unfold HU
  simp only [getI_nat,hx,Option.bind_some,bsR]) with ⟨h1,h2⟩ | ⟨h1,i,_,h2⟩
 ·rw [h2,h1]; rfl
 ·rw [h2,h1]; rfl
theorem Fi {l:List Int} (hl:l.length≤9223372036854775807) (w:Int):BT l w=some (l.any fun x=>x==w):=by
 unfold BT C4
 rw [chk_t hl]
 rcases forX_any (f:=Et l w) (l:=l) (p:=fun x=>x==w) (q:=fun i=>(i:Int)) (fun i x hx=>by
  unfold Et
  have e:(w==x)=(x==w):=by rw [Bool.eq_iff_iff]; simp only [beq_iff_eq]; exact eq_comm
  simp only [getI_nat,hx,Option.bind_some,e,bsR]) with ⟨h1,h2⟩ | ⟨h1,i,_,h2⟩
 ·rw [h2,h1]; rfl
 ·rw [h2,h1]; simp [orR]
def AO (N:Int) (l:List Int):Prop:=(∀ x∈l,0≤x∧x<N)∧l.Pairwise (·≠·)
def swp (a b x:Int):Int:=bif x==a then b else bif x==b then a else x
theorem Kl {a b x y:Int} (h:swp a b x=swp a b y):x=y:=by
 have e:∀ z,swp a b z=if z=a then b else if z=b then a else z:=fun z=>by
  unfold swp
  by_cases h1:z=a
  ·simp [h1]
  ·by_cases h2:z=b
   ·simp [h2]
   ·have e1:(z==a)=false:=by simpa using h1
    have e2:(z==b)=false:=by simpa using h2
    rw [e1,e2,if_neg h1,if_neg h2]; rfl
 rw [e,e] at h
 repeat' split at h
 all_goals omega
def Au (l:List Int) (a b:Int):List Int:=l.map (swp a b)
theorem Km {p:List Int} (hp:p.length≤1048576) (a b:Int):Cg p a b=some (Au p a b):=by
 unfold Cg BJ
 rw [chk_t (by omega)]
 simp only [Option.bind_some]
 rw [chk_t (by omega)]
 obtain ⟨s,h1,h2,h3⟩:=forN_inv (f:=GF p a b) (fun j s=>s.length=p.length∧∀ i,s[i]?=if i<j then (p[i]?).map (swp a b) else p[i]?) p.length 0 p ⟨rfl,fun i=>by simp⟩ (fun j s _ hj ⟨hs,hI⟩=>by
  have hx:=List.getElem?_eq_getElem (show j<p.length by omega)
  have hsj:=List.getElem?_eq_getElem (show j<s.length by omega)
  generalize p[j]=x at hx
  unfold GF
  simp only [getI_nat,hx,hsj,Option.bind_some]
  have hnew:∀ y,y=swp a b x→(s.set j y).length=p.length∧∀ i,(s.set j y)[i]?=if i<j+1 then (p[i]?).map (swp a b) else p[i]?:=fun y hy=>by
   refine ⟨by simpa using hs,fun i=>?_⟩
   rw [List.getElem?_set]
   by_cases hij:j=i
   ·subst hij
    rw [if_pos rfl,if_pos (by omega),if_pos (by omega),hx,hy]; rfl
   ·rw [if_neg hij,hI i]
    by_cases h:i<j
    ·rw [if_pos h,if_pos (by omega)]
    ·rw [if_neg h,if_neg (by omega)]
  cases h1:x==a with
  | true=>exact ⟨_,rfl,hnew b (by unfold swp; rw [h1]; rfl)⟩
  | false =>
   cases h2:x==b with
   | true=>exact ⟨_,rfl,hnew a (by unfold swp; rw [h1,h2]; rfl)⟩
   | false =>
    refine ⟨s,rfl,hs,fun i=>?_⟩
    rw [hI i]
    by_cases hij:i=j
    ·subst hij
     rw [if_neg (by omega),if_pos (by omega),hx]
     simp [swp,h1,h2]
    ·by_cases h:i<j
     ·rw [if_pos h,if_pos (by omega)]
     ·rw [if_neg h,if_neg (by omega)])
 rw [h1]
 simp only [Option.bind_some,Option.some.injEq]
 apply List.ext_getElem?
 intro i
 rw [h3 i]
 unfold Au
 rw [List.getElem?_map]
 by_cases h:i<0+p.length
 ·rw [if_pos h]
 ·rw [if_neg h,List.getElem?_eq_none (by omega)]; rfl
theorem Om {p:List Int} (hp:p.length≤1048576) (g:Ae) (c:Ad) (dn:List Bool) (a b:Int):CX (Ap.mk g c p dn) a b=some (Au p a b):=by
 unfold CX
 simp only
 rw [chk_t (by omega)]
 obtain ⟨s,h1,h2,h3⟩:=forN_inv (f:=Hl a b) (fun j s=>s.length=p.length∧∀ i,s[i]?=if i<j then (p[i]?).map (swp a b) else p[i]?) p.length 0 p ⟨rfl,fun i=>by simp⟩ (fun j s _ hj ⟨hs,hI⟩=>by
  have hx:=List.getElem?_eq_getElem (show j<p.length by omega)
  have hsj:s[j]?=p[j]?:=by rw [hI j,if_neg (by omega)]
  rw [hx] at hsj
  generalize p[j]=x at hx hsj
  unfold Hl
  simp only [getI_nat,hsj,Option.bind_some]
  have hnew:∀ y,y=swp a b x→(s.set j y).length=p.length∧∀ i,(s.set j y)[i]?=if i<j+1 then (p[i]?).map (swp a b) else p[i]?:=fun y hy=>by
   refine ⟨by simpa using hs,fun i=>?_⟩
   rw [List.getElem?_set]
   by_cases hij:j=i
   ·subst hij
    rw [if_pos rfl,if_pos (by omega),if_pos (by omega),hx,hy]; rfl
   ·rw [if_neg hij,hI i]
    by_cases h:i<j
    ·rw [if_pos h,if_pos (by omega)]
    ·rw [if_neg h,if_neg (by omega)]
  cases h1:x==a with
  | true=>exact ⟨_,rfl,hnew b (by unfold swp; rw [h1]; rfl)⟩
  | false =>
   cases h2:x==b with
   | true=>exact ⟨_,rfl,hnew a (by unfold swp; rw [h1,h2]; rfl)⟩
   | false =>
    refine ⟨s,rfl,hs,fun i=>?_⟩
    rw [hI i]
    by_cases hij:i=j
    ·subst hij
     rw [if_neg (by omega),if_pos (by omega),hx]
     simp [swp,h1,h2]
    ·by_cases h:i<j
     ·rw [if_pos h,if_pos (by omega)]
     ·rw [if_neg h,if_neg (by omega)])
 rw [h1]
 simp only [Option.bind_some,Option.some.injEq]
 apply List.ext_getElem?
 intro i
 rw [h3 i]
 unfold Au
 rw [List.getElem?_map]
 by_cases h:i<0+p.length
 ·rw [if_pos h]
 ·rw [if_neg h,List.getElem?_eq_none (by omega)]; rfl
theorem AO.swap {N:Int} {l:List Int} (h:AO N l) {a b:Int} (ha:0≤a∧a<N) (hb:0≤b∧b<N):AO N (Au l a b):=by
 refine ⟨fun x hx=>?_,?_⟩
 ·obtain ⟨y,hy,rfl⟩:=List.mem_map.1 hx
  have:=h.1 y hy
  unfold swp
  cases y==a with
  | true=>exact hb
  | false=>cases y==b with
   | true=>exact ha
   | false=>exact this
 ·unfold Au
  rw [List.pairwise_map]
  exact h.2.imp (fun hne he=>hne (Kl he))
def A4 (x:Ac):Bool:=decide (9≤x.Kind)&&decide (x.Kind≤11)
def AV (x:Ac):List Int:=bif x.Kind==12 then [] else bif A4 x then [x.A,x.B] else [x.A]
theorem JW (x:Ac):DJ x=some (A4 x):=by
 unfold DJ A4
 congr 1
 rw [Bool.eq_iff_iff]
 simp only [Bool.or_eq_true,beq_iff_eq,Bool.and_eq_true,decide_eq_true_eq]
 omega
theorem H9 (x:Ac):AX x.Kind=some (A4 x):=rfl
theorem OI (x:Ac):Eu x=some (AV x):=by
 unfold Eu AV
 rw [JW]
 cases x.Kind==12 <;> cases A4 x <;> rfl
theorem Mf (x:Ac):EU x=some (AV x):=by
 unfold EU AV
 rw [H9]
 cases x.Kind==12 <;> cases A4 x <;> rfl
theorem Iv (x:Ac):(AV x).length≤2:=by
 unfold AV
 cases x.Kind==12 <;> cases A4 x <;> simp
def Bk (g h:Ac):Bool:=(AV g).any fun q=>(AV h).any fun r=>r==q
theorem QT (g h:Ac):FV g h=some (Bk g h):=by
 unfold FV Hm Ho Bk
 have hl:=Iv g
 have hl2:=Iv h
 rw [Mf]
 simp only [Option.bind_some]
 rw [chk_t (by omega)]
 rcases forX_any (f:=Hx (AV g) (fun x_0=>EP x_0 h)) (l:=AV g) (p:=fun q=>(AV h).any fun r=>r==q) (q:=fun i=>(i:Int)) (fun i x hx=>by
  unfold Hx EP
  simp only [getI_nat,hx,Option.bind_some,Mf,Fi (l:=AV h) (by omega),bsR]) with ⟨h1,h2⟩ | ⟨h1,i,_,h2⟩
 ·rw [h2,h1]; rfl
 ·rw [h2,h1]; simp [orR]
def Aq:Ac:=Ac.mk 0 0 0
def rdB (c:Ad) (dn:List Bool) (k:Int):Bool :=
 (decide (0≤k)&&decide (k<(c.Gates.length:Int)))&&(!(dn.getD k.toNat false)&&!((List.range k.toNat).any fun i=>!(dn.getD i false)&&Bk (c.Gates.getD i Aq) (c.Gates.getD k.toNat Aq)))
theorem Oy {n:Nat} {ρ:Type} {f:Nat→Unit→Option (Ex Unit ρ)} {p:Nat→Bool} {q:ρ} (hf:∀ i,i<n→f i ()=some (bif p i then .rt q else .nx ())):forX f n 0 ()=some (bif (List.range n).any p then .inr q else .inl ()):=by
 rcases forX_any (f:=f) (l:=List.range n) (p:=p) (q:=fun _=>q) (fun i x hx=>by
  have hi:i<n:=by have:=(List.getElem?_eq_some_iff.1 hx).1; simpa using this
  have:x=i:=by
   rw [List.getElem?_range hi] at hx; exact (Option.some.inj hx).symm
  subst this
  exact hf x hi) with ⟨h1,h2⟩ | ⟨h1,i,_,h2⟩
 ·rw [List.length_range] at h2; rw [h2,h1]; rfl
 ·rw [List.length_range] at h2; rw [h2,h1]; rfl
theorem Vi {c:Ad} {dn:List Bool} (hl:c.Gates.length≤400) (hd:dn.length=c.Gates.length) (k:Int):F6 c dn k=some (rdB c dn k):=by
 unfold F6 AF rdB
 rw [wrap_i64 (a:=(c.Gates.length:Int)-1) ⟨by omega,by omega⟩]
 simp only [Option.bind_some]
 have er:(decide (0≤k)&&decide (k≤(c.Gates.length:Int)-1))=(decide (0≤k)&&decide (k<(c.Gates.length:Int))):=by
  rw [Bool.eq_iff_iff]; simp only [Bool.and_eq_true,decide_eq_true_eq]; omega
 rw [er]
 cases hr:decide (0≤k)&&decide (k<(c.Gates.length:Int)) with
 | false=>simp only [Bool.not_false,Bool.not_true,gb,cond_false,Option.bind_some,Bool.true_or,cond_true,Bool.false_and]
 | true =>
  simp only [Bool.and_eq_true,decide_eq_true_eq] at hr
  simp only [Bool.not_true,Bool.not_false,gb,cond_true,Bool.false_or,Bool.true_and]
  rw [Bn false hr.1 (by omega),Bn Aq hr.1 (by omega)]
  simp only [Option.bind_some]
  cases hdk:dn.getD k.toNat false with
  | true=>simp only [cond_true,Bool.not_true,Bool.false_and]
  | false =>
   simp only [cond_false,Bool.not_false,Bool.true_and,OI,Option.bind_some]
   rw [chk_t (by omega),Oy (p:=fun i=>!(dn.getD i false)&&Bk (c.Gates.getD i Aq) (c.Gates.getD k.toNat Aq)) (q:=false) (fun i hi=>by
    unfold I1
    have h1:=Bn (l:=c.Gates) Aq (k:=(i:Int)) (by omega) (by omega)
    have h2:=Bn (l:=dn) false (k:=(i:Int)) (by omega) (by omega)
    rw [Int.toNat_natCast] at h1 h2
    rw [h1]
    simp only [Option.bind_some,OI]
    have hq:=Iv (c.Gates.getD i Aq)
    have hq2:=Iv (c.Gates.getD k.toNat Aq)
    rw [chk_t (by omega)]
    rcases forX_any (f:=G0 (AV (c.Gates.getD i Aq)) dn i (AV (c.Gates.getD k.toNat Aq))) (l:=AV (c.Gates.getD i Aq)) (p:=fun q=>!(dn.getD i false)&&(AV (c.Gates.getD k.toNat Aq)).any fun r=>r==q) (q:=fun _=>(Ex.rt false:Ex Unit Bool)) (fun j x hx=>by
     unfold G0
     simp only [getI_nat (l:=AV _),hx,Option.bind_some,h2,Ht (l:=AV (c.Gates.getD k.toNat Aq)) (by omega),gb]
     cases dn.getD i false
     ·simp only [Bool.not_false,cond_true,Option.bind_some,Bool.true_and,bsR]
     ·simp only [Bool.not_true,cond_false,Option.bind_some,Bool.false_and]) with ⟨g1,g2⟩ | ⟨g1,j,_,g2⟩
    ·rw [g2]
     have:(!(dn.getD i false)&&Bk (c.Gates.getD i Aq) (c.Gates.getD k.toNat Aq))=false:=by
      unfold Bk
      cases hdi:dn.getD i false with
      | true=>rfl
      | false =>
       rw [hdi] at g1
       simp only [Bool.not_false,Bool.true_and] at g1 ⊢
       exact g1
     rw [this]; rfl
    ·rw [g2]
     have:(!(dn.getD i false)&&Bk (c.Gates.getD i Aq) (c.Gates.getD k.toNat Aq))=true:=by
      unfold Bk
      cases hdi:dn.getD i false with
      | true=>rw [hdi] at g1; simp at g1
      | false =>
       rw [hdi] at g1
       simp only [Bool.not_false,Bool.true_and] at g1 ⊢
       exact g1
     rw [this]; rfl)]
   cases (List.range k.toNat).any fun i=>!(dn.getD i false)&&Bk (c.Gates.getD i Aq) (c.Gates.getD k.toNat Aq) <;> rfl
theorem PM {c:Ad} {dn:List Bool} (hl:c.Gates.length≤400) (hd:dn.length=c.Gates.length) (g:Ae) (p:List Int) (k:Int):DC (Ap.mk g c p dn) k=some (rdB c dn k):=by
 unfold DC A2 rdB
 simp only
 rw [wrap_i64 (a:=(c.Gates.length:Int)-1) ⟨by omega,by omega⟩]
 simp only [Option.bind_some]
 have er:(decide (0≤k)&&decide (k≤(c.Gates.length:Int)-1))=(decide (0≤k)&&decide (k<(c.Gates.length:Int))):=by
  rw [Bool.eq_iff_iff]; simp only [Bool.and_eq_true,decide_eq_true_eq]; omega
 rw [er]
 cases hr:decide (0≤k)&&decide (k<(c.Gates.length:Int)) with
 | false=>simp only [Bool.not_false,Bool.not_true,gb,cond_false,Option.bind_some,Bool.true_or,cond_true,Bool.false_and]
 | true =>
  simp only [Bool.and_eq_true,decide_eq_true_eq] at hr
  simp only [Bool.not_true,Bool.not_false,gb,cond_true,Bool.false_or,Bool.true_and]
  rw [Bn false hr.1 (by omega)]
  simp only [Option.bind_some]
  cases hdk:dn.getD k.toNat false with
  | true=>simp only [cond_true,Bool.not_true,Bool.false_and]
  | false =>
   simp only [cond_false,Bool.not_false,Bool.true_and]
   rw [chk_t ⟨by omega,by omega⟩,chk_t (by omega),Oy (p:=fun i=>!(dn.getD i false)&&Bk (c.Gates.getD i Aq) (c.Gates.getD k.toNat Aq)) (q:=false) (fun i hi=>by
    unfold IQ
    simp only
    have h0:getI (List.take k.toNat c.Gates) (i:Int)=some (c.Gates.getD i Aq):=by
     rw [getI_nat,List.getElem?_take_of_lt hi,List.getElem?_eq_getElem (by omega)]
     simp [List.getD,show i<c.Gates.length by omega]
    have h2:=Bn (l:=dn) false (k:=(i:Int)) (by omega) (by omega)
    rw [Int.toNat_natCast] at h2
    rw [h0,h2,Bn Aq hr.1 (by omega)]
    simp only [Option.bind_some,gb]
    cases hdi:dn.getD i false with
    | true=>simp only [Bool.not_true,cond_false,Option.bind_some,Bool.false_and]
    | false=>simp only [Bool.not_false,cond_true,Option.bind_some,QT,Bool.true_and,bsR])]
   cases (List.range k.toNat).any fun i=>!(dn.getD i false)&&Bk (c.Gates.getD i Aq) (c.Gates.getD k.toNat Aq) <;> rfl
def Bu (E:List Ah) (p:List Int) (x:Ac):Bool:=!A4 x||Bc E (p.getD x.A.toNat 0) (p.getD x.B.toNat 0)
def InP (p:List Int) (x:Ac):Prop:=A4 x=true→(0≤x.A∧x.A<p.length)∧0≤x.B∧x.B<p.length
theorem Wb {g:Ae} (hl:g.Edges.length≤1048576) {p:List Int} {x:Ac} (h:InP p x):F0 g p x=some (Bu g.Edges p x):=by
 unfold F0 Bu
 rw [JW]
 simp only [Option.bind_some]
 cases ht:A4 x with
 | false=>rfl
 | true =>
  obtain ⟨h1,h2⟩:=h ht
  simp only [Bool.not_true,Bool.not_false,gb,cond_true,Bool.false_or]
  rw [Bn 0 h1.1 h1.2,Bn 0 h2.1 h2.2]
  simp only [Option.bind_some,RL hl]
theorem MF {g:Ae} (hl:g.Edges.length≤1048576) (he:∀ x∈g.Edges,eOk g.Nodes x=true) {c:Ad} {p:List Int} {dn:List Bool} {k:Int} (h0:0≤k) (h1:k<c.Gates.length) (h:InP p (c.Gates.getD k.toNat Aq)):Dz (Ap.mk g c p dn) k=some (Bu g.Edges p (c.Gates.getD k.toNat Aq)):=by
 unfold Dz Bu
 simp only
 rw [Bn Aq h0 h1]
 generalize c.Gates.getD k.toNat Aq=x at h
 simp only [Option.bind_some,H9]
 cases ht:A4 x with
 | false=>rfl
 | true =>
  obtain ⟨h1,h2⟩:=h ht
  simp only [Bool.not_true,Bool.not_false,gb,cond_true,Bool.false_or]
  rw [Bn 0 h1.1 h1.2,Bn 0 h2.1 h2.2]
  simp only [Option.bind_some,KI hl he]
def stp (E:List Ah) (c:Ad) (s:List Int×List Bool) (x:Ak):Int×(List Int×List Bool) :=
 bif x.Gate==-1 then (bif Bc E x.A x.B then (0,(Au s.1 x.A x.B,s.2)) else (2,s))
 else bif ((x.A != 0)||(x.B != 0))||!(rdB c s.2 x.Gate) then (3,s)
 else bif Bu E s.1 (c.Gates.getD x.Gate.toNat Aq) then (0,(s.1,s.2.set x.Gate.toNat true)) else (4,s)
structure Ay (g:Ae) (c:Ad) (s:List Int×List Bool):Prop where
 len:(s.1.length:Int)=c.Qubits
 dn:s.2.length=c.Gates.length
 pl:AO g.Nodes s.1
structure ROk (g:Ae) (c:Ad):Prop where
 edges:g.Edges.length≤1048576
 nodes:1≤g.Nodes∧g.Nodes≤8
 eok:∀ x∈g.Edges,eOk g.Nodes x=true
 qs:1≤c.Qubits∧c.Qubits≤5
 gl:c.Gates.length≤400
 gok:∀ x∈c.Gates,gOk c.Qubits x=true
theorem Gp {c:Ad} {dn:List Bool} {k:Int} (h:rdB c dn k=true):0≤k∧k<c.Gates.length∧dn.getD k.toNat false=false:=by
 unfold rdB at h
 simp only [Bool.and_eq_true,decide_eq_true_eq,Bool.not_eq_true'] at h
 exact ⟨h.1.1,h.1.2,h.2.1⟩
theorem ROk.at {g:Ae} {c:Ad} (h:ROk g c) {k:Int} (h0:0≤k) (h1:k<c.Gates.length):gOk c.Qubits (c.Gates.getD k.toNat Aq)=true:=by
 refine h.gok _ ?_
 have:k.toNat<c.Gates.length:=by omega
 simp only [List.getD,List.getElem?_eq_getElem this,Option.getD_some]
 exact List.getElem_mem this
theorem JS {g:Ae} {c:Ad} (h:ROk g c) {s:List Int×List Bool} (hs:Ay g c s) {k:Int} (h0:0≤k) (h1:k<c.Gates.length):InP s.1 (c.Gates.getD k.toNat Aq):=by
 intro ht
 have hg:=Bj (h.at h0 h1)
 have:=hs.len
 unfold A4 at ht
 simp only [Bool.and_eq_true,decide_eq_true_eq] at ht
 omega
theorem Py {g:Ae} {c:Ad} (h:ROk g c) {s:List Int×List Bool} (hs:Ay g c s) (x:Ak):DR (Ap.mk g c s.1 s.2) x=some ((stp g.Edges c s x).1,(stp g.Edges c s x).2.1,(stp g.Edges c s x).2.2):=by
 have hp:s.1.length≤1048576:=by have:=hs.len; have:=h.qs; omega
 unfold DR stp
 simp only
 cases hg:x.Gate==-1 with
 | true =>
  simp only [cond_true]
  rw [KI h.edges h.eok]
  simp only [Option.bind_some]
  cases Bc g.Edges x.A x.B with
  | false=>rfl
  | true=>simp only [Bool.not_true,cond_false,Om hp,Option.bind_some,cond_true]
 | false =>
  simp only [cond_false]
  rw [PM h.gl hs.dn]
  cases hz:(x.A != 0)||(x.B != 0) with
  | true=>rfl
  | false =>
   simp only [Bool.not_false,gb,cond_true,Option.bind_some,Bool.false_or]
   cases hr:rdB c s.2 x.Gate with
   | false=>rfl
   | true =>
    obtain ⟨r0,r1,r2⟩:=Gp hr
    simp only [Bool.not_true,cond_false]
    rw [MF h.edges h.eok r0 r1 (JS h hs r0 r1)]
    simp only [Option.bind_some]
    cases Bu g.Edges s.1 (c.Gates.getD x.Gate.toNat Aq) with
    | false=>rfl
    | true =>
     simp only [Bool.not_true,cond_false,cond_true]
     rw [Bn (l:=s.2) false r0 (by rw [hs.dn]; exact r1)]
     rfl
theorem NC {g:Ae} {c:Ad} (h:ROk g c) {s:List Int×List Bool} (hs:Ay g c s) (x:Ak):Ay g c (stp g.Edges c s x).2:=by
 unfold stp
 cases x.Gate==-1 with
 | true =>
  simp only [cond_true]
  cases hj:Bc g.Edges x.A x.B with
  | false=>exact hs
  | true =>
   obtain ⟨a,b,c',d,_⟩:=KG h.eok hj
   exact ⟨by simp only [cond_true,Au,List.length_map]; exact hs.len,hs.dn,hs.pl.swap ⟨a,b⟩ ⟨c',d⟩⟩
 | false =>
  simp only [cond_false]
  cases ((x.A != 0)||(x.B != 0))||!(rdB c s.2 x.Gate) with
  | true=>exact hs
  | false =>
   simp only [cond_false]
   cases Bu g.Edges s.1 (c.Gates.getD x.Gate.toNat Aq) with
   | false=>exact hs
   | true=>exact ⟨hs.len,by simp only [cond_true,List.length_set]; exact hs.dn,hs.pl⟩
/-- How many gates are left. -/
def Ar:List Bool→Nat
 | []=>0
 | b::l=>(bif b then 0 else 1)+Ar l
theorem JU:∀ (l:List Bool) (k:Nat),k<l.length→l.getD k false=false→Ar (l.set k true)+1=Ar l
 | [],_,h,_=>absurd h (Nat.not_lt_zero _)
 | b::l,0,_,h=>by
  simp only [List.getD_cons_zero] at h
  subst h
  simp only [List.set_cons_zero,Ar,cond_true,cond_false]; omega
 | b::l,k+1,hk,h=>by
  have:=JU l k (by simpa using hk) (by simpa using h)
  simp only [List.set_cons_succ,Ar]; omega
theorem H8:∀ l:List Bool,Ar l≤l.length
 | []=>Nat.le_refl _
 | b::l=>by
  have:=H8 l
  simp only [Ar,List.length_cons]
  cases b <;> simp <;> omega
theorem Kh:∀ l:List Bool,(l.any fun x=>x==false)=decide (0<Ar l)
 | []=>rfl
 | b::l=>by
  have:=Kh l
  cases b
  ·have h0:0<Ar (false::l):=by simp only [Ar,cond_false]; omega
   rw [decide_eq_true h0]; rfl
  ·simp only [List.any_cons,Ar,cond_true,Nat.zero_add]; rw [this]; rfl
theorem MY (n:Nat):Ar (List.replicate n false)=n:=by
 induction n with
 | zero=>rfl
 | succ n ih=>rw [List.replicate_succ]; simp only [Ar,ih,cond_false]; omega
theorem KW {l:List Bool} (hl:l.length≤9223372036854775807):Co l false=some (decide (0<Ar l)):=by
 unfold Co Hz
 rw [chk_t hl]
 rcases forX_any (f:=HE l false) (l:=l) (p:=fun x=>x==false) (q:=fun i=>(i:Int)) (fun i x hx=>by
  unfold HE
  simp only [getI_nat,hx,Option.bind_some]
  cases x <;> rfl) with ⟨h1,h2⟩ | ⟨h1,i,_,h2⟩
 ·rw [h2,← Kh,h1]; rfl
 ·rw [h2,← Kh,h1]; simp [orR]
theorem Rp {g:Ae} {c:Ad} (h:ROk g c) {r:Am} {i:Nat} {x:Ak} (hx:r.Steps[i]?=some x) {s:List Int×List Bool} (hs:Ay g c s) (p0:List Int) (d0:List Bool) :
  EQ r (Ap.mk g c p0 d0) g i s=some (bif (stp g.Edges c s x).1 != 0 then .rt ((stp g.Edges c s x).1,(i:Int),Ap.mk g c (stp g.Edges c s x).2.1 (stp g.Edges c s x).2.2) else .nx (stp g.Edges c s x).2):=by
 unfold EQ
 obtain ⟨s1,s2⟩:=s
 simp only [getI_nat,hx,Option.bind_some]
 rw [Py h hs x]
 simp only [Option.bind_some]
 cases (stp g.Edges c (s1,s2) x).1 != 0 <;> rfl
theorem Nr (g:Ae) (c:Ad) (h1:g.Edges.length≤1048576) (h2:c.Gates.length≤1048576):∃ b,Fe g c=some b∧BZ g c=some b∧(b=true→ROk g c∧c.Qubits≤g.Nodes):=by
 obtain ⟨b,b1,b2,b3⟩:=Ku g h1
 unfold Fe BZ
 rw [b1,b2]
 simp only [Option.bind_some]
 cases b with
 | false=>exact ⟨false,rfl,rfl,fun h=>by cases h⟩
 | true =>
  simp only [gb,cond_true,Bool.true_and]
  rw [Mn,CP c h2]
  simp only [Option.bind_some]
  refine ⟨_,rfl,rfl,fun h=>?_⟩
  simp only [Bool.and_eq_true,decide_eq_true_eq] at h
  have hc:=h.1
  unfold cOk at hc
  simp only [Bool.and_eq_true,decide_eq_true_eq] at hc
  obtain ⟨n1,n2⟩:=b3 rfl
  exact ⟨⟨h1,n1,n2,⟨hc.1.1.1,hc.1.1.2⟩,hc.1.2,List.all_eq_true.1 hc.2⟩,h.2⟩

def exB (E:List Ah) (c:Ad) (p:List Int) (dn:List Bool) (k:Nat):Bool:=rdB c dn (k:Int)&&Bu E p (c.Gates.getD k Aq)
def Bx (E:List Ah) (c:Ad) (p:List Int):Nat→List Bool→Nat→List Bool×List Ak
 | 0,dn,_=>(dn,[])
 | f+1,dn,k=>if k<c.Gates.length then (if exB E c p dn k=true then ((Bx E c p f (dn.set k true) 0).1,Ak.mk (k:Int) 0 0::(Bx E c p f (dn.set k true) 0).2) else Bx E c p f dn (k+1)) else (dn,[])
theorem NK {E:List Ah} {c:Ad} {p:List Int} {dn:List Bool} {k:Nat} (hd:dn.length=c.Gates.length) (h:exB E c p dn k=true):k<c.Gates.length∧Ar (dn.set k true)+1=Ar dn:=by
 unfold exB at h
 rw [Bool.and_eq_true] at h
 obtain ⟨h1,h2,h3⟩:=Gp h.1
 have hk:k<c.Gates.length:=by omega
 rw [Int.toNat_natCast] at h3
 exact ⟨hk,JU dn k (by omega) h3⟩
theorem NY {ρ:Type} {E:List Ah} {c:Ad} {p:List Int} {h:(List Bool×List Ak×Int)→Option (Ex (List Bool×List Ak×Int) ρ)}
  (hs:∀ (dn:List Bool) (st:List Ak) (k:Nat),dn.length=c.Gates.length→st.length≤2000000000→k≤c.Gates.length→h (dn,st,(k:Int))=if k<c.Gates.length then (if exB E c p dn k=true then some (.nx (dn.set k true,st++[Ak.mk (k:Int) 0 0],0)) else some (.nx (dn,st,((k+1:Nat):Int)))) else some (.br (dn,st,(k:Int)))) :
  ∀ (f F:Nat) (dn:List Bool) (st:List Ak) (k:Nat),dn.length=c.Gates.length→st.length+Ar dn≤2000000000→k≤c.Gates.length→Ar dn*(c.Gates.length+1)+(c.Gates.length-k)<f→f≤F →
   whX h F (dn,st,(k:Int))=some (.inl ((Bx E c p f dn k).1,st++(Bx E c p f dn k).2,(c.Gates.length:Int))):=fun f=>by
 induction f with
 | zero=>intro F dn st k _ _ _ h _; exact absurd h (Nat.not_lt_zero _)
 | succ f ih =>
  intro F dn st k hd hb hk hm hF
  obtain ⟨F',rfl⟩:∃ F',F=F'+1:=⟨F-1,by omega⟩
  simp only [whX]
  rw [hs dn st k hd (by omega) hk]
  unfold Bx
  by_cases h1:k<c.Gates.length
  ·rw [if_pos h1,if_pos h1]
   by_cases h2:exB E c p dn k=true
   ·rw [if_pos h2,if_pos h2]
    obtain ⟨_,h3⟩:=NK hd h2
    have hmul:Ar dn*(c.Gates.length+1)=Ar (dn.set k true)*(c.Gates.length+1)+(c.Gates.length+1):=by rw [← h3,Nat.add_mul,Nat.one_mul]
    have:=ih F' (dn.set k true) (st++[Ak.mk (k:Int) 0 0]) 0 (by rw [List.length_set]; exact hd) (by simp only [List.length_append,List.length_cons,List.length_nil]; omega) (Nat.zero_le _) (by omega) (by omega)
    refine Eq.trans (show _=whX h F' (dn.set k true,st++[Ak.mk (k:Int) 0 0],((0:Nat):Int)) from rfl) ?_
    rw [this,List.append_assoc]
    rfl
   ·rw [if_neg h2,if_neg h2]
    exact ih F' dn st (k+1) hd hb (by omega) (by omega) (by omega)
  ·have:k=c.Gates.length:=by omega
   subst this
   rw [if_neg h1,if_neg h1,List.append_nil]
   rfl
/-- A list of steps that goes through. -/
def Rep (E:List Ah) (c:Ad):(List Int×List Bool)→List Ak→(List Int×List Bool)→Prop
 | s,[],t=>t=s
 | s,x::r,t=>(stp E c s x).1=0∧Rep E c (stp E c s x).2 r t
theorem Nn {E:List Ah} {c:Ad}:∀ {l l':List Ak} {s t u:List Int×List Bool},Rep E c s l t→Rep E c t l' u→Rep E c s (l++l') u:=fun {l}=>by
 induction l with
 | nil =>
  intro l' s t u h h'
  have h:t=s:=h
  subst h
  exact h'
 | cons x r ih =>
  intro l' s t u h h'
  exact ⟨h.1,ih h.2 h'⟩
theorem QP {E:List Ah} {c:Ad} {p:List Int} {dn:List Bool} {k:Nat} (h:exB E c p dn k=true):stp E c (p,dn) (Ak.mk (k:Int) 0 0)=(0,(p,dn.set k true)):=by
 unfold exB at h
 rw [Bool.and_eq_true] at h
 unfold stp
 simp only
 rw [show (((k:Nat):Int)==-1)=false from by rw [beq_eq_false_iff_ne]; omega,h.1,Int.toNat_natCast,h.2]
 rfl
theorem Wl {E:List Ah} {c:Ad} {p:List Int}:∀ (f:Nat) (dn:List Bool) (k:Nat),dn.length=c.Gates.length→k≤c.Gates.length→Ar dn*(c.Gates.length+1)+(c.Gates.length-k)<f→(∀ j,j<k→exB E c p dn j=false) →
  (Bx E c p f dn k).1.length=c.Gates.length∧Rep E c (p,dn) (Bx E c p f dn k).2 (p,(Bx E c p f dn k).1)∧(∀ j,j<c.Gates.length→exB E c p (Bx E c p f dn k).1 j=false)∧(Bx E c p f dn k).2.length+Ar (Bx E c p f dn k).1=Ar dn∧(∀ x∈(Bx E c p f dn k).2,0≤x.Gate):=fun f=>by
 induction f with
 | zero=>intro dn k _ _ h; exact absurd h (Nat.not_lt_zero _)
 | succ f ih =>
  intro dn k hd hk hm hc
  unfold Bx
  by_cases h1:k<c.Gates.length
  ·rw [if_pos h1]
   by_cases h2:exB E c p dn k=true
   ·rw [if_pos h2]
    obtain ⟨_,h3⟩:=NK hd h2
    have hmul:Ar dn*(c.Gates.length+1)=Ar (dn.set k true)*(c.Gates.length+1)+(c.Gates.length+1):=by rw [← h3,Nat.add_mul,Nat.one_mul]
    obtain ⟨a1,a2,a3,a4,a5⟩:=ih (dn.set k true) 0 (by rw [List.length_set]; exact hd) (Nat.zero_le _) (by omega) (fun j hj=>absurd hj (Nat.not_lt_zero _))
    have hst:=QP (E:=E) (c:=c) (p:=p) h2
    refine ⟨a1,⟨by rw [hst],by rw [hst]; exact a2⟩,a3,by simp only [List.length_cons]; omega,fun x hx=>?_⟩
    rcases List.mem_cons.1 hx with rfl | hx
    ·exact Int.natCast_nonneg _
    ·exact a5 x hx
   ·rw [if_neg h2]
    refine ih dn (k+1) hd (by omega) (by omega) (fun j hj=>?_)
    by_cases e:j=k
    ·subst e; exact Bool.eq_false_iff.2 h2
    ·exact hc j (by omega)
  ·have:k=c.Gates.length:=by omega
   subst this
   rw [if_neg h1]
   exact ⟨hd,rfl,hc,by simp,fun x hx=>by cases hx⟩
/-- All gates that can be executed are. -/
def Ax (E:List Ah) (c:Ad) (p:List Int) (dn:List Bool):List Bool×List Ak:=Bx E c p (Ar dn*(c.Gates.length+1)+c.Gates.length+1) dn 0
theorem CT {E:List Ah} {c:Ad} (p:List Int) {dn:List Bool} (hd:dn.length=c.Gates.length):(Ax E c p dn).1.length=c.Gates.length∧Rep E c (p,dn) (Ax E c p dn).2 (p,(Ax E c p dn).1)∧(∀ j,j<c.Gates.length→exB E c p (Ax E c p dn).1 j=false)∧(Ax E c p dn).2.length+Ar (Ax E c p dn).1=Ar dn∧(∀ x∈(Ax E c p dn).2,0≤x.Gate) :=
 Wl _ dn 0 hd (Nat.zero_le _) (by omega) (fun j hj=>absurd hj (Nat.not_lt_zero _))
theorem L0 {dn:List Bool} {c:Ad} (hd:dn.length=c.Gates.length) (hg:c.Gates.length≤400):Ar dn*(c.Gates.length+1)+c.Gates.length+1≤fuel:=by
 have h1:=H8 dn
 have h2:Ar dn*(c.Gates.length+1)≤400*401:=Nat.mul_le_mul (by omega) (by omega)
 have:Ar dn*(c.Gates.length+1)+c.Gates.length+1<fuel:=Ba (by omega)
 omega
theorem L1 {g:Ae} {c:Ad} (h:ROk g c) {p:List Int} {dn:List Bool} (hs:Ay g c (p,dn)) {st:List Ak} (hl:st.length≤1000000000) :
  DP (Al.mk (Ap.mk g c p dn) st)=some (Al.mk (Ap.mk g c p (Ax g.Edges c p dn).1) (st++(Ax g.Edges c p dn).2),(Ax g.Edges c p dn).1):=by
 have hgl:=h.gl
 have hd:dn.length=c.Gates.length:=hs.dn
 unfold DP
 have:=NY (E:=g.Edges) (c:=c) (p:=p) (h:=E6 (Al.mk (Ap.mk g c p dn) st)) (fun dn' st' k hd' hl' hk=>by
  have hr':Ay g c (p,dn'):=⟨hs.len,hd',hs.pl⟩
  unfold E6
  simp only
  by_cases h1:k<c.Gates.length
  ·rw [if_pos h1,decide_eq_true (show (k:Int)<(c.Gates.length:Int) by omega),PM h.gl hd' g p (k:Int)]
   simp only [cond_true,Option.bind_some]
   cases hrd:rdB c dn' (k:Int) with
   | false =>
    have hex:¬ exB g.Edges c p dn' k=true:=by unfold exB; rw [hrd]; simp
    rw [if_neg hex]
    simp only [gb,cond_false,Option.bind_some,Bool.false_and]
    rw [wr (a:=(k:Int)+1) (by omega)]
    rfl
   | true =>
    rw [MF h.edges h.eok (c:=c) (p:=p) (dn:=dn') (k:=(k:Int)) (by omega) (by omega) (JS h hr' (by omega) (by omega))]
    simp only [gb,cond_true,Option.bind_some,Bool.true_and,Int.toNat_natCast]
    cases hf:Bu g.Edges p (c.Gates.getD k Aq) with
    | false =>
     have hex:¬ exB g.Edges c p dn' k=true:=by unfold exB; rw [hf]; simp
     rw [if_neg hex]
     simp only [cond_false,Option.bind_some]
     rw [wr (a:=(k:Int)+1) (by omega)]
     rfl
    | true =>
     have hex:exB g.Edges c p dn' k=true:=by unfold exB; rw [hrd,hf]; rfl
     rw [if_pos hex]
     simp only [cond_true]
     rw [getI_nat,List.getElem?_eq_getElem (show k<dn'.length by omega)]
     simp only [Option.bind_some]
     rw [chk_t (by omega)]
     rfl
  ·have:k=c.Gates.length:=by omega
   subst this
   rw [if_neg h1,decide_eq_false (by omega)]
   rfl) (Ar dn*(c.Gates.length+1)+c.Gates.length+1) fuel dn st 0 hd (by have:=H8 dn; omega) (Nat.zero_le _) (by omega) (L0 hd hgl)
 have e0:whX (E6 (Al.mk (Ap.mk g c p dn) st)) fuel (dn,st,(0:Int))=_:=this
 show (whX (E6 (Al.mk (Ap.mk g c p dn) st)) fuel (dn,st,(0:Int))).bind _=_
 rw [e0]
 rfl
theorem ON {g:Ae} {c:Ad} (h:ROk g c) {p:List Int} {dn:List Bool} (hs:Ay g c (p,dn)) {st:List Ak} (hl:st.length≤1000000000) (from_:Int) :
  CA g c (Ai.mk p dn from_ st)=some (Ai.mk p (Ax g.Edges c p dn).1 from_ (st++(Ax g.Edges c p dn).2)):=by
 have hgl:=h.gl
 have hd:dn.length=c.Gates.length:=hs.dn
 unfold CA
 have:=NY (E:=g.Edges) (c:=c) (p:=p) (h:=DW c g (Ai.mk p dn from_ st)) (fun dn' st' k hd' hl' hk=>by
  have hr':Ay g c (p,dn'):=⟨hs.len,hd',hs.pl⟩
  unfold DW
  simp only
  by_cases h1:k<c.Gates.length
  ·rw [if_pos h1,decide_eq_true (show (k:Int)<(c.Gates.length:Int) by omega),Vi h.gl hd' (k:Int)]
   simp only [cond_true,Option.bind_some]
   cases hrd:rdB c dn' (k:Int) with
   | false =>
    have hex:¬ exB g.Edges c p dn' k=true:=by unfold exB; rw [hrd]; simp
    rw [if_neg hex]
    simp only [gb,cond_false,Option.bind_some,Bool.false_and]
    rw [wr (a:=(k:Int)+1) (by omega)]
    rfl
   | true =>
    simp only [gb,cond_true]
    rw [Bn Aq (by omega) (by omega),Int.toNat_natCast]
    simp only [Option.bind_some]
    have hin:=JS h hr' (k:=(k:Int)) (by omega) (by omega)
    rw [Int.toNat_natCast] at hin
    rw [Wb h.edges hin]
    simp only [Option.bind_some,Bool.true_and]
    cases hf:Bu g.Edges p (c.Gates.getD k Aq) with
    | false =>
     have hex:¬ exB g.Edges c p dn' k=true:=by unfold exB; rw [hf]; simp
     rw [if_neg hex]
     simp only [cond_false,Option.bind_some]
     rw [wr (a:=(k:Int)+1) (by omega)]
     rfl
    | true =>
     have hex:exB g.Edges c p dn' k=true:=by unfold exB; rw [hrd,hf]; rfl
     rw [if_pos hex]
     simp only [cond_true]
     rw [getI_nat,List.getElem?_eq_getElem (show k<dn'.length by omega)]
     simp only [Option.bind_some]
     rw [chk_t (by omega)]
     rfl
  ·have:k=c.Gates.length:=by omega
   subst this
   rw [if_neg h1,decide_eq_false (by omega)]
   rfl) (Ar dn*(c.Gates.length+1)+c.Gates.length+1) fuel dn st 0 hd (by have:=H8 dn; omega) (Nat.zero_le _) (by omega) (L0 hd hgl)
 rw [chk_t (by simp only; omega)]
 have e0:whX (DW c g (Ai.mk p dn from_ st)) fuel (dn,st,(0:Int))=_:=this
 show (whX (DW c g (Ai.mk p dn from_ st)) fuel (dn,st,(0:Int))).bind _=_
 rw [e0]
 rfl
def swN:List Ak→Nat
 | []=>0
 | x::r=>(bif x.Gate==-1 then 1 else 0)+swN r
theorem IK:∀ (l:List Ak) (x:Ak),swN (l++[x])=swN l+(bif x.Gate==-1 then 1 else 0)
 | [],x=>by show (bif x.Gate==-1 then 1 else 0)+0=0+_; omega
 | y::t,x=>by
  show (bif y.Gate==-1 then 1 else 0)+swN (t++[x])=(bif y.Gate==-1 then 1 else 0)+swN t+_
  rw [IK t x]; omega
theorem JO:∀ (l:List Ak),swN l≤l.length
 | []=>Nat.le_refl _
 | y::t=>by
  have:=JO t
  show (bif y.Gate==-1 then 1 else 0)+swN t≤t.length+1
  cases (y.Gate==-1) <;> simp only [cond_true,cond_false] <;> omega
theorem MW:∀ (l l':List Ak),swN (l++l')=swN l+swN l'
 | [],l'=>by show swN l'=0+swN l'; omega
 | y::t,l'=>by
  show (bif y.Gate==-1 then 1 else 0)+swN (t++l')=(bif y.Gate==-1 then 1 else 0)+swN t+swN l'
  rw [MW t l']; omega
theorem Jt:∀ {l:List Ak},(∀ x∈l,0≤x.Gate)→swN l=0
 | [],_=>rfl
 | y::t,h=>by
  have h1:=h y (.head _)
  show (bif y.Gate==-1 then 1 else 0)+swN t=0
  rw [show (y.Gate==-1)=false from by rw [beq_eq_false_iff_ne]; omega,Jt (fun x hx=>h x (.tail _ hx))]
  rfl

def A3:List Bool→Nat
 | []=>0
 | b::t=>(bif b then 1 else 0)+2*A3 t
theorem GT:∀ (l:List Bool),A3 l<2 ^ l.length
 | []=>by decide
 | b::t=>by
  have:=GT t
  show (bif b then 1 else 0)+2*A3 t<2 ^ (t.length+1)
  rw [Nat.pow_succ]
  cases b <;> simp only [cond_true,cond_false] <;> omega
theorem Je:∀ {l l':List Bool},l.length=l'.length→A3 l=A3 l'→l=l'
 | [],[],_,_=>rfl
 | [],_::_,h,_=>by simp at h
 | _::_,[],h,_=>by simp at h
 | b::t,b'::t',h,e=>by
  have e:(bif b then 1 else 0)+2*A3 t=(bif b' then 1 else 0)+2*A3 t':=e
  have h2:t.length=t'.length:=by simpa using h
  have h3:b=b'∧A3 t=A3 t':=by
   cases b <;> cases b' <;> simp only [cond_true,cond_false] at e <;> refine ⟨?_,by omega⟩ <;> first | rfl | omega
  rw [h3.1,Je h2 h3.2]
theorem PT:∀ (l:List Bool) (b:Bool),A3 (l++[b])=A3 l+(bif b then 2 ^ l.length else 0)
 | [],b=>by cases b <;> rfl
 | c::t,b=>by
  show (bif c then 1 else 0)+2*A3 (t++[b])=(bif c then 1 else 0)+2*A3 t+_
  rw [PT t b,List.length_cons,Nat.pow_succ]
  cases b <;> simp only [cond_true,cond_false] <;> omega
theorem JC:∀ (n:Nat),A3 (List.replicate n true)=2 ^ n-1
 | 0=>rfl
 | n+1=>by
  rw [List.replicate_succ]
  show 1+2*A3 (List.replicate n true)=_
  rw [JC n,Nat.pow_succ]
  have:=Nat.two_pow_pos n
  omega
theorem Ll:∀ {l:List Bool},Ar l=0→l=List.replicate l.length true
 | [],_=>rfl
 | b::t,h=>by
  have h:(bif b then 0 else 1)+Ar t=0:=h
  cases b
  ·simp only [cond_false] at h; omega
  ·simp only [cond_true,Nat.zero_add] at h
   rw [List.length_cons,List.replicate_succ,← Ll h]
theorem Mw {l:List Bool} {n:Nat} (hl:l.length=n):A3 l=2 ^ n-1↔Ar l=0:=by
 constructor
 ·intro h
  have h2:l=List.replicate n true:=Je (by rw [hl,List.length_replicate]) (by rw [h,JC])
  rw [h2]
  clear h h2 hl
  induction n with
  | zero=>rfl
  | succ n ih=>rw [List.replicate_succ]; show 0+Ar (List.replicate n true)=0; omega
 ·intro h
  rw [Ll h,hl,JC]
theorem Ps {m i:Nat} (hm:m<2 ^ i):m ||| 2 ^ i=m+2 ^ i:=by
 rw [Nat.or_comm,← Nat.one_shiftLeft,Nat.shiftLeft_eq,Nat.one_mul,Nat.add_comm]
 have:=Nat.two_pow_add_eq_or_of_lt hm 1
 rw [Nat.mul_one] at this
 exact this.symm
theorem Hy {a:Nat} (h:a<9223372036854775808):IntKind.u64.wrap (a:Int)=(a:Int):=by
 simp [IntKind.wrap,IntKind.signed,IntKind.bits]
 omega
theorem VD {a b:Nat} (ha:a<9223372036854775808) (hb:b<9223372036854775808):bits .or .i64 (a:Int) (b:Int)=((a ||| b:Nat):Int):=by
 have h1:a ||| b<2 ^ 63:=Nat.or_lt_two_pow ha hb
 show IntKind.i64.wrap ((BitVec.ofInt 64 (a:Int) ||| BitVec.ofInt 64 (b:Int)).toNat:Int)=_
 have e1:BitVec.ofInt 64 (a:Int)=BitVec.ofNat 64 a:=rfl
 have e2:BitVec.ofInt 64 (b:Int)=BitVec.ofNat 64 b:=rfl
 rw [e1,e2,BitVec.toNat_or,BitVec.toNat_ofNat,BitVec.toNat_ofNat,Nat.mod_eq_of_lt (by omega),Nat.mod_eq_of_lt (by omega)]
 exact wrap_i64 ⟨by omega,by omega⟩
theorem St {a b:Nat} (ha:a<9223372036854775808) (hb:b<9223372036854775808):bits .or .u64 (a:Int) (b:Int)=((a ||| b:Nat):Int):=by
 have h1:a ||| b<2 ^ 63:=Nat.or_lt_two_pow ha hb
 show IntKind.u64.wrap ((BitVec.ofInt 64 (a:Int) ||| BitVec.ofInt 64 (b:Int)).toNat:Int)=_
 have e1:BitVec.ofInt 64 (a:Int)=BitVec.ofNat 64 a:=rfl
 have e2:BitVec.ofInt 64 (b:Int)=BitVec.ofNat 64 b:=rfl
 rw [e1,e2,BitVec.toNat_or,BitVec.toNat_ofNat,BitVec.toNat_ofNat,Nat.mod_eq_of_lt (by omega),Nat.mod_eq_of_lt (by omega)]
 exact Hy h1
theorem HG {i:Nat} (h:i≤40):2 ^ i≤1099511627776:=by
 have:2 ^ i≤2 ^ 40:=Nat.pow_le_pow_right (by decide) h
 exact this
theorem Lt {i:Nat} (h:i≤40):shlK .i64 1 (i:Int)=((2 ^ i:Nat):Int):=by
 have hp:=HG h
 unfold shlK
 rw [Int.toNat_natCast,Nat.min_eq_left (show i≤IntKind.bits .i64 from by show i≤64; omega)]
 have:(1:Int)*2 ^ i=((2 ^ i:Nat):Int):=by push_cast; omega
 rw [this]
 generalize 2 ^ i=q at hp
 exact wrap_i64 ⟨by omega,by omega⟩
theorem Wu {i:Nat} (h:i≤40):shlK .u64 1 (i:Int)=((2 ^ i:Nat):Int):=by
 have hp:=HG h
 unfold shlK
 rw [Int.toNat_natCast,Nat.min_eq_left (show i≤IntKind.bits .u64 from by show i≤64; omega)]
 have:(1:Int)*2 ^ i=((2 ^ i:Nat):Int):=by push_cast; omega
 rw [this]
 generalize 2 ^ i=q at hp
 exact Hy (by omega)
theorem L8 {dn:List Bool} {i:Nat} {b:Bool} (hb:dn[i]?=some b):A3 (dn.take (i+1))=A3 (dn.take i)+(bif b then 2 ^ i else 0)∧A3 (dn.take i)<2 ^ i:=by
 have hi:=(List.getElem?_eq_some_iff.1 hb).1
 have hl:(dn.take i).length=i:=by rw [List.length_take]; omega
 have h1:=GT (dn.take i)
 rw [hl] at h1
 refine ⟨?_,h1⟩
 rw [List.take_add_one,hb,Option.toList_some,PT,hl]
theorem Is {dn:List Bool} (h:dn.length≤40):Cm dn=some ((A3 dn:Nat):Int):=by
 unfold Cm
 rw [chk_t (by omega)]
 obtain ⟨z,h1,h2⟩:=forN_inv (f:=G8 dn) (fun i z=>z=((A3 (dn.take i):Nat):Int)) dn.length 0 0 rfl (fun i z _ hi hz=>by
  have hb:=List.getElem?_eq_getElem (show i<dn.length by omega)
  generalize dn[i]=b at hb
  obtain ⟨h3,h4⟩:=L8 hb
  have hp:=HG (i:=i) (by omega)
  refine ⟨_,?_,by rw [h3]⟩
  unfold G8
  rw [getI_nat,hb,hz]
  simp only [Option.bind_some]
  cases b
  ·simp only [cond_false,Option.bind_some,Nat.add_zero]
  ·simp only [cond_true]
   rw [Hy (by omega),chk_t (by omega),Lt (by omega),VD (by omega) (by omega),Ps h4]
   rfl)
 rw [h1,h2,Nat.zero_add,List.take_length]
 rfl
def AZ (p:List Int) (dn:List Bool):AB:=AB.mk (p.getD 0 0,p.getD 1 0,p.getD 2 0,p.getD 3 0,p.getD 4 0) ((A3 dn:Nat):Int)
theorem P7 {g:Ae} {c:Ad} {p:List Int} {dn:List Bool} {st:List Ak} (h:dn.length≤40):CU (Al.mk (Ap.mk g c p dn) st)=some (AZ p dn):=by
 unfold CU
 have hs:=Fc (f:=HN (Al.mk (Ap.mk g c p dn) st)) (fun s=>∃ i:Nat,i≤dn.length∧s=(((A3 (dn.take i):Nat):Int),(i:Int))) (fun s=>s.1=((A3 dn:Nat):Int)) (fun _:AB=>False) (fun s=>dn.length+1-s.2.toNat) (fun s hI=>by
  obtain ⟨i,hi,rfl⟩:=hI
  unfold HN
  simp only
  by_cases hlt:i<dn.length
  ·have hb:=List.getElem?_eq_getElem hlt
   generalize dn[i]=b at hb
   obtain ⟨h3,h4⟩:=L8 hb
   have hp:=HG (i:=i) (by omega)
   rw [decide_eq_true (show (i:Int)<(dn.length:Int) by omega),getI_nat,hb]
   simp only [cond_true,Option.bind_some]
   refine .inl ⟨(((A3 (dn.take (i+1)):Nat):Int),((i+1:Nat):Int)),?_,⟨i+1,by omega,rfl⟩,by simp only; omega⟩
   rw [h3]
   cases b
   ·simp only [cond_false,Option.bind_some,Nat.add_zero]
    rw [wr (a:=(i:Int)+1) (by omega)]
    rfl
   ·simp only [cond_true]
    rw [chk_t (by omega),Wu (by omega),St (by omega) (by omega),Ps h4]
    simp only [Option.bind_some]
    rw [wr (a:=(i:Int)+1) (by omega)]
    rfl
  ·have:i=dn.length:=by omega
   subst this
   rw [decide_eq_false (by omega)]
   exact .inr (.inl ⟨_,rfl,by rw [List.take_length]⟩)) fuel (0,0) ⟨0,Nat.zero_le _,rfl⟩ (Ba (by simp only; omega))
 rcases hs with ⟨⟨a,b⟩,h1,h2⟩ | ⟨r,_,h⟩
 ·simp only at h2
  rw [h1]
  subst h2
  rfl
 ·exact h.elim
/-- A placement as a number. -/
def AH (p:List Int):Nat:=p.foldl (fun n k=>n*5+k.toNat) 0
theorem IY (l:List Int) (x:Int):AH (l++[x])=AH l*5+x.toNat:=by
 unfold AH
 rw [List.foldl_append]; rfl
theorem Ir:∀ (k:Nat) (l:List Int),l.length=k→(∀ x∈l,0≤x∧x<5)→AH l<5 ^ k:=fun k=>by
 induction k with
 | zero=>intro l hl _; rw [List.eq_nil_of_length_eq_zero hl]; decide
 | succ k ih =>
  intro l hl h
  have hne:l≠[]:=fun e=>by rw [e] at hl; cases hl
  rw [← List.dropLast_concat_getLast hne,IY,Nat.pow_succ]
  have h1:=ih l.dropLast (by rw [List.length_dropLast,hl]; rfl) (fun x hx=>h x (List.dropLast_subset l hx))
  have h2:=h _ (List.getLast_mem hne)
  omega
theorem J1:∀ (k:Nat) (l l':List Int),l.length=k→l'.length=k→(∀ x∈l,0≤x∧x<5)→(∀ x∈l',0≤x∧x<5)→AH l=AH l'→l=l':=fun k=>by
 induction k with
 | zero=>intro l l' h h' _ _ _; rw [List.eq_nil_of_length_eq_zero h,List.eq_nil_of_length_eq_zero h']
 | succ k ih =>
  intro l l' hl hl' h h' e
  have hne:l≠[]:=fun e=>by rw [e] at hl; cases hl
  have hne':l'≠[]:=fun e=>by rw [e] at hl'; cases hl'
  rw [← List.dropLast_concat_getLast hne,← List.dropLast_concat_getLast hne',IY,IY] at e
  have h2:=h _ (List.getLast_mem hne)
  have h2':=h' _ (List.getLast_mem hne')
  have e1:AH l.dropLast=AH l'.dropLast:=by omega
  have e2:l.getLast hne=l'.getLast hne':=by omega
  have:=ih l.dropLast l'.dropLast (by rw [List.length_dropLast,hl]; rfl) (by rw [List.length_dropLast,hl']; rfl) (fun x hx=>h x (List.dropLast_subset l hx)) (fun x hx=>h' x (List.dropLast_subset l' hx)) e1
  rw [← List.dropLast_concat_getLast hne,← List.dropLast_concat_getLast hne',this,e2]
theorem LF {p:List Int} (hl:p.length≤5) (h:∀ x∈p,0≤x∧x<5):DL p=some ((AH p:Nat):Int):=by
 unfold DL
 rw [chk_t (by omega)]
 obtain ⟨z,h1,h2⟩:=forN_inv (f:=HP p) (fun i z=>z=((AH (p.take i):Nat):Int)) p.length 0 0 rfl (fun i z _ hi hz=>by
  have hx:=List.getElem?_eq_getElem (show i<p.length by omega)
  generalize p[i]=x at hx
  have hxb:=h x (List.mem_of_getElem? hx)
  have hlt:=Ir i (p.take i) (by rw [List.length_take]; omega) (fun y hy=>h y (List.take_subset i p hy))
  have h5:5 ^ i≤5 ^ 5:=Nat.pow_le_pow_right (by decide) (by omega)
  have h5':5 ^ 5=3125:=by decide
  refine ⟨_,?_,rfl⟩
  unfold HP
  rw [getI_nat,hx,hz]
  simp only [Option.bind_some]
  rw [wr (a:=((AH (p.take i):Nat):Int)*5) (by omega),wr (by omega),List.take_add_one,hx,Option.toList_some,IY]
  congr 1
  omega)
 rw [h1,h2,Nat.zero_add,List.take_length]
 rfl

/-- What is executed has all before it executed. -/
def Cf (c:Ad) (dn:List Bool):Prop:=∀ k,k<c.Gates.length→dn.getD k false=true→∀ i,i<k→Bk (c.Gates.getD i Aq) (c.Gates.getD k Aq)=true→dn.getD i false=true
def I7 (E:List Ah) (c:Ad) (p:List Int) (dn:List Bool):Prop:=∀ j,j<c.Gates.length→exB E c p dn j=false
theorem M8 (c:Ad) (n:Nat):Cf c (List.replicate n false):=fun k _ h=>by
 exfalso
 rw [List.getD_eq_getElem?_getD,List.getElem?_replicate] at h
 split at h <;> cases h
theorem PP {c:Ad} {dn:List Bool} {k:Nat} (hk:k<c.Gates.length):rdB c dn (k:Int)=true↔dn.getD k false=false∧∀ i,i<k→Bk (c.Gates.getD i Aq) (c.Gates.getD k Aq)=true→dn.getD i false=true:=by
 unfold rdB
 rw [decide_eq_true (show (0:Int)≤(k:Int) by omega),decide_eq_true (show (k:Int)<(c.Gates.length:Int) by omega),Int.toNat_natCast]
 simp only [Bool.and_self,Bool.true_and,Bool.and_eq_true,Bool.not_eq_true',List.any_eq_false,List.mem_range,Bool.and_eq_true,Bool.not_eq_true',not_and]
 refine and_congr Iff.rfl ⟨fun h i hi hc=>?_,fun h i hi hn hc=>?_⟩
 ·cases hd:dn.getD i false
  ·exact absurd hc (h i hi hd)
  ·rfl
 ·have:=h i hi hc
  rw [hn] at this; cases this
theorem Pk {dn:List Bool} {k i:Nat} (hk:k<dn.length):(dn.set k true).getD i false=if i=k then true else dn.getD i false:=by
 rw [List.getD_eq_getElem?_getD,List.getElem?_set]
 by_cases h:i=k
 ·subst h; rw [if_pos rfl,if_pos hk,if_pos rfl]; rfl
 ·rw [if_neg (fun e=>h e.symm),if_neg h,List.getD_eq_getElem?_getD]
theorem W8 {c:Ad} {dn:List Bool} {k:Nat} (hd:dn.length=c.Gates.length) (hk:k<c.Gates.length) (hv:Cf c dn) (hr:rdB c dn (k:Int)=true):Cf c (dn.set k true):=fun j hj hdj i hi hc=>by
 obtain ⟨h1,h2⟩:=(PP hk).1 hr
 rw [Pk (by omega)] at hdj ⊢
 by_cases e:i=k
 ·rw [if_pos e]
 ·rw [if_neg e]
  by_cases e2:j=k
  ·subst e2; exact h2 i hi hc
  ·rw [if_neg e2] at hdj
   exact hv j hj hdj i hi hc
theorem PR {E:List Ah} {c:Ad} {s:List Int×List Bool} (hd:s.2.length=c.Gates.length) (hv:Cf c s.2) (x:Ak):Cf c (stp E c s x).2.2∧(stp E c s x).2.2.length=c.Gates.length:=by
 unfold stp
 cases h1:(x.Gate==-1) with
 | true =>
  simp only [cond_true]
  cases Bc E x.A x.B <;> exact ⟨hv,hd⟩
 | false =>
  simp only [cond_false]
  cases h2:(((x.A != 0)||(x.B != 0))||!(rdB c s.2 x.Gate)) with
  | true=>exact ⟨hv,hd⟩
  | false =>
   simp only [cond_false]
   cases Bu E s.1 (c.Gates.getD x.Gate.toNat Aq) with
   | false=>exact ⟨hv,hd⟩
   | true =>
    simp only [Bool.or_eq_false_iff,Bool.not_eq_false'] at h2
    obtain ⟨r1,r2,_⟩:=Gp h2.2
    have he:x.Gate=((x.Gate.toNat:Nat):Int):=by omega
    have hr:=h2.2
    rw [he] at hr
    exact ⟨W8 hd (by omega) hv hr,by simp only [cond_true,List.length_set]; exact hd⟩
theorem MR {E:List Ah} {c:Ad}:∀ {l:List Ak} {s t:List Int×List Bool},s.2.length=c.Gates.length→Cf c s.2→Rep E c s l t→Cf c t.2:=fun {l}=>by
 induction l with
 | nil =>
  intro s t _ hv h
  have h:t=s:=h
  rw [h]; exact hv
 | cons x r ih =>
  intro s t hd hv h
  obtain ⟨v1,v2⟩:=PR (E:=E) hd hv x
  exact ih v2 v1 h.2
/-- Of closed states the gates on two qubits tell all. -/
theorem NE {E:List Ah} {c:Ad} {p:List Int} {dn dn':List Bool} (hd:dn.length=c.Gates.length) (hd':dn'.length=c.Gates.length) (hv:Cf c dn) (hv':Cf c dn') (hc:I7 E c p dn) (hc':I7 E c p dn')
  (h2:∀ k,k<c.Gates.length→A4 (c.Gates.getD k Aq)=true→dn.getD k false=dn'.getD k false):dn=dn':=by
 have key:∀ k,k<c.Gates.length→dn.getD k false=dn'.getD k false:=fun k=>by
  induction k using Nat.strongRecOn with
  | _ k ih =>
   intro hk
   cases ht:A4 (c.Gates.getD k Aq) with
   | true=>exact h2 k hk ht
   | false =>
    have hf:∀ q:List Int,Bu E q (c.Gates.getD k Aq)=true:=fun q=>by unfold Bu; rw [ht]; rfl
    have one:∀ (d d':List Bool),Cf c d→I7 E c p d'→(∀ i,i<k→d.getD i false=d'.getD i false)→d.getD k false=true→d'.getD k false=true:=fun d d' v cl hi hdk=>by
     cases hdk':d'.getD k false with
     | true=>rfl
     | false =>
      have hr:rdB c d' (k:Int)=true:=(PP hk).2 ⟨hdk',fun i hik hcm=>by
       rw [← hi i hik]; exact v k hk hdk i hik hcm⟩
      have:=cl k hk
      unfold exB at this
      rw [hr,hf] at this
      cases this
    cases ha:dn.getD k false with
    | true=>exact (one dn dn' hv hc' (fun i hi=>ih i hi (by omega)) ha).symm
    | false =>
     cases hb:dn'.getD k false with
     | true =>
      have:=one dn' dn hv' hc (fun i hi=>(ih i hi (by omega)).symm) hb
      rw [ha] at this; cases this
     | false=>rfl
 apply List.ext_getElem?
 intro k
 by_cases hk:k<c.Gates.length
 ·have:=key k hk
  rw [List.getD_eq_getElem?_getD,List.getD_eq_getElem?_getD,List.getElem?_eq_getElem (show k<dn.length by omega),List.getElem?_eq_getElem (show k<dn'.length by omega)] at this
  rw [List.getElem?_eq_getElem (show k<dn.length by omega),List.getElem?_eq_getElem (show k<dn'.length by omega)]
  exact congrArg some this
 ·rw [List.getElem?_eq_none (by omega),List.getElem?_eq_none (by omega)]
/-- The bits of the gates on two qubits. -/
def AA:List Ac→List Bool→List Bool
 | [],_=>[]
 | g::t,dn=>bif A4 g then dn.headD false::AA t dn.tail else AA t dn.tail
def Bq:List Ac→Nat
 | []=>0
 | g::t=>(bif A4 g then 1 else 0)+Bq t
theorem EJ:∀ (gs:List Ac) (dn:List Bool),(AA gs dn).length=Bq gs
 | [],_=>rfl
 | g::t,dn=>by
  unfold AA Bq
  cases A4 g
  ·simp only [cond_false,Nat.zero_add]; exact EJ t _
  ·simp only [cond_true,List.length_cons]; rw [EJ t]; omega
theorem Jw:∀ (gs:List Ac) (dn dn':List Bool),dn.length=gs.length→dn'.length=gs.length→AA gs dn=AA gs dn'→∀ k,k<gs.length→A4 (gs.getD k Aq)=true→dn.getD k false=dn'.getD k false
 | [],_,_,_,_,_,k,hk,_=>absurd hk (Nat.not_lt_zero _)
 | g::t,[],_,h,_,_,_,_,_=>by simp at h
 | g::t,_::_,[],_,h,_,_,_,_=>by simp at h
 | g::t,b::d,b'::d',h,h',e,k,hk,ht=>by
  have hl:d.length=t.length:=by simpa using h
  have hl':d'.length=t.length:=by simpa using h'
  unfold AA at e
  simp only [List.headD_cons,List.tail_cons] at e
  cases k with
  | zero =>
   have ht:A4 g=true:=ht
   rw [ht] at e
   simp only [cond_true,List.cons.injEq] at e
   simpa using e.1
  | succ k =>
   have e2:AA t d=AA t d':=by
    cases hg:A4 g
    ·rw [hg] at e; simpa using e
    ·rw [hg] at e; simp only [cond_true,List.cons.injEq] at e; exact e.2
   have:=Jw t d d' hl hl' e2 k (by simpa using hk) (by simpa using ht)
   simpa using this
theorem HJ:∀ (N:Nat) (l:List Nat),l.Nodup→(∀ x∈l,x<N)→l.length≤N
 | 0,l,_,h=>by
  cases l with
  | nil=>exact Nat.le_refl _
  | cons x r=>exact absurd (h x (.head _)) (Nat.not_lt_zero _)
 | N+1,l,hn,h=>by
  by_cases hm:N∈l
  ·have h1:(l.erase N).length≤N:=HJ N (l.erase N) (hn.erase N) (fun x hx=>by
    have hx2:=(hn.mem_erase_iff).1 hx
    have:=h x hx2.2
    have:=hx2.1
    omega)
   have h2:=List.length_erase_of_mem hm
   omega
  ·have:=HJ N l hn (fun x hx=>by
    have:=h x hx
    have:x≠N:=fun e=>hm (e ▸ hx)
    omega)
   omega

/-- What every state of the search keeps. -/
structure NdK (g:Ae) (c:Ad) (start:List Int) (p:List Int) (dn:List Bool) (st:List Ak):Prop where
 inv:Ay g c (p,dn)
 rep:Rep g.Edges c (start,List.replicate c.Gates.length false) st (p,dn)
 cl:I7 g.Edges c p dn
 vd:Cf c dn
theorem LS {g:Ae} {c:Ad} (h:ROk g c) {e:Ah} (he:e∈g.Edges):Bc g.Edges e.A e.B=true:=by
 unfold Bc
 rw [List.any_eq_true]
 exact ⟨e,he,by simp⟩
theorem Uy {g:Ae} {c:Ad} (h:ROk g c) {e:Ah} (he:e∈g.Edges):(0≤e.A∧e.A<g.Nodes)∧0≤e.B∧e.B<g.Nodes:=by
 have:=KG h.eok (LS h he)
 exact ⟨⟨this.1,this.2.1⟩,this.2.2.1,this.2.2.2.1⟩
theorem KJ {g:Ae} {c:Ad} (h:ROk g c) {e:Ah} (he:e∈g.Edges) {p:List Int} {dn:List Bool} (hs:Ay g c (p,dn)):Ay g c (Au p e.A e.B,dn):=by
 obtain ⟨h1,h2⟩:=Uy h he
 exact ⟨by show ((Au p e.A e.B).length:Int)=_; unfold Au; rw [List.length_map]; exact hs.len,hs.dn,hs.pl.swap h1 h2⟩
theorem Mg {g:Ae} {c:Ad} {p:List Int} {dn:List Bool} (hs:Ay g c (p,dn)):Ay g c (p,(Ax g.Edges c p dn).1):=⟨hs.len,(CT p hs.dn).1,hs.pl⟩
theorem Cr {g:Ae} {c:Ad} (h:ROk g c) {p:List Int} {dn:List Bool} (hs:Ay g c (p,dn)):p.length≤5:=by
 have:=hs.len
 have:=h.qs
 simp only at *
 omega
theorem Vl {g:Ae} {c:Ad} (h:ROk g c) {e:Ah} (he:e∈g.Edges) {p:List Int} {dn:List Bool} (hs:Ay g c (p,dn)) {st:List Ak} (hl:st.length≤900000000) :
  Ez (Al.mk (Ap.mk g c p dn) st) e=some (Al.mk (Ap.mk g c (Au p e.A e.B) (Ax g.Edges c (Au p e.A e.B) dn).1) ((st++[Ak.mk (-1) e.A e.B])++(Ax g.Edges c (Au p e.A e.B) dn).2)):=by
 have hp:=Cr h hs
 have hgl:=h.gl
 have hd:dn.length=c.Gates.length:=hs.dn
 unfold Ez Bv F5 G3
 simp only
 rw [chk_t (by omega)]
 simp only [Option.bind_some]
 rw [chk_t (by omega)]
 simp only [Option.bind_some]
 rw [Om (by omega) g c dn e.A e.B]
 simp only [Option.bind_some]
 rw [chk_t (by omega)]
 simp only [Option.bind_some]
 rw [chk_t (by omega),L1 h (KJ h he hs) (by simp only [List.length_append,List.length_cons,List.length_nil]; omega)]
 rfl
theorem VO {g:Ae} {c:Ad} (h:ROk g c) {e:Ah} (he:e∈g.Edges) {p:List Int} {dn:List Bool} (hs:Ay g c (p,dn)) (i:Int) :
  (Cg p e.A e.B).bind (fun r_9=>CA g c (Ai.mk r_9 dn i [Ak.mk (-1) e.A e.B]))=some (Ai.mk (Au p e.A e.B) (Ax g.Edges c (Au p e.A e.B) dn).1 i ([Ak.mk (-1) e.A e.B]++(Ax g.Edges c (Au p e.A e.B) dn).2)):=by
 have hp:=Cr h hs
 rw [Km (by omega)]
 simp only [Option.bind_some]
 exact ON h (KJ h he hs) (by simp) i
theorem Q8 {g:Ae} {c:Ad} (h:ROk g c) {e:Ah} (he:e∈g.Edges) (s:List Int×List Bool):stp g.Edges c s (Ak.mk (-1) e.A e.B)=(0,(Au s.1 e.A e.B,s.2)):=by
 unfold stp
 simp only [LS h he,beq_self_eq_true,cond_true]
/-- The state behind an edge. -/
theorem Ml {g:Ae} {c:Ad} (h:ROk g c) {start:List Int} {e:Ah} (he:e∈g.Edges) {p:List Int} {dn:List Bool} {st:List Ak} (hn:NdK g c start p dn st) :
  NdK g c start (Au p e.A e.B) (Ax g.Edges c (Au p e.A e.B) dn).1 ((st++[Ak.mk (-1) e.A e.B])++(Ax g.Edges c (Au p e.A e.B) dn).2):=by
 have hi:=KJ h he hn.inv
 obtain ⟨a1,a2,a3,_,_⟩:=CT (E:=g.Edges) (c:=c) (Au p e.A e.B) hi.dn
 have hst:=Q8 h he (p,dn)
 have r1:Rep g.Edges c (start,List.replicate c.Gates.length false) (st++[Ak.mk (-1) e.A e.B]) (Au p e.A e.B,dn):=Nn hn.rep ⟨by rw [hst],by rw [hst]; rfl⟩
 exact ⟨Mg hi,Nn r1 a2,a3,MR (E:=g.Edges) hi.dn hn.vd a2⟩
theorem Mq {g:Ae} {c:Ad} {start:List Int} (hi:Ay g c (start,List.replicate c.Gates.length false)):NdK g c start start (Ax g.Edges c start (List.replicate c.Gates.length false)).1 (Ax g.Edges c start (List.replicate c.Gates.length false)).2:=by
 obtain ⟨a1,a2,a3,_,_⟩:=CT (E:=g.Edges) (c:=c) start hi.dn
 exact ⟨Mg hi,a2,a3,MR (E:=g.Edges) hi.dn (M8 c _) a2⟩
theorem Pp {g:Ae} {c:Ad} (h:ROk g c) {p p':List Int} {dn dn':List Bool} (hs:Ay g c (p,dn)) (hs':Ay g c (p',dn')) (hk:AZ p dn=AZ p' dn'):p=p'∧dn=dn':=by
 unfold AZ at hk
 simp only [AB.mk.injEq,Prod.mk.injEq] at hk
 obtain ⟨⟨k0,k1,k2,k3,k4⟩,k5⟩:=hk
 have hl:=Cr h hs
 have hl':p'.length=p.length:=by
  have a:=hs.len
  have b:=hs'.len
  simp only at a b
  omega
 refine ⟨?_,Je (by have a:=hs.dn; have b:=hs'.dn; simp only at a b; omega) (by omega)⟩
 apply List.ext_getElem?
 intro i
 by_cases hi:i<p.length
 ·have gd:∀ (q:List Int),i<q.length→q[i]?=some (q.getD i 0):=fun q hq=>by
   rw [List.getD_eq_getElem?_getD,List.getElem?_eq_getElem hq]; rfl
  rw [gd p hi,gd p' (by omega)]
  have:i=0∨i=1∨i=2∨i=3∨i=4:=by omega
  rcases this with rfl | rfl | rfl | rfl | rfl
  ·rw [k0]
  ·rw [k1]
  ·rw [k2]
  ·rw [k3]
  ·rw [k4]
 ·rw [List.getElem?_eq_none (by omega),List.getElem?_eq_none (by omega)]

/-- Of two-qubit gates there are few. -/
structure SmK (g:Ae) (c:Ad):Prop where
 ok:ROk g c
 nodes:g.Nodes≤5
 gates:c.Gates.length≤40
 two:Bq c.Gates≤12
theorem Hb {α β:Type} {f:α→β}:∀ {l:List α},l.Nodup→(∀ x∈l,∀ y∈l,f x=f y→x=y)→(l.map f).Nodup
 | [],_,_=>List.nodup_nil
 | x::r,h,hi=>by
  rw [List.nodup_cons] at h
  rw [List.map_cons,List.nodup_cons]
  refine ⟨fun hx=>?_,Hb h.2 (fun a ha b hb=>hi a (.tail _ ha) b (.tail _ hb))⟩
  obtain ⟨y,hy,e⟩:=List.mem_map.1 hx
  have:=hi y (.tail _ hy) x (.head _) e
  exact h.1 (this ▸ hy)
theorem pl5 {g:Ae} {c:Ad} (hm:SmK g c) {p:List Int} {dn:List Bool} (hs:Ay g c (p,dn)):∀ x∈p,0≤x∧x<5:=fun x hx=>by
 have:=hs.pl.1 x hx
 have:=hm.nodes
 omega
theorem JY {α β:Type} [DecidableEq α]:∀ (w:List (α×β)) (k a:α) (v d:β),mgt (mput w k v) a d=if k=a then v else mgt w a d
 | [],k,a,v,d=>by
  unfold mgt mput mfd
  by_cases e:k=a
  ·rw [if_pos e,if_pos e]; rfl
  ·rw [if_neg e,if_neg e]; rfl
 | (x,y)::r,k,a,v,d=>by
  have ih:=JY r k a v d
  unfold mgt at ih ⊢
  unfold mput
  by_cases e:x=k
  ·rw [if_pos e]
   subst e
   unfold mfd
   by_cases e2:x=a
   ·simp only [if_pos e2]; rfl
   ·simp only [if_neg e2]
  ·rw [if_neg e]
   unfold mfd
   by_cases e2:x=a
   ·have:k≠a:=fun h=>e (e2.trans h.symm)
    simp only [if_pos e2,if_neg this]
   ·simp only [if_neg e2]
    exact ih
theorem Gn {row:List Int} {m:Int}:(row.any fun x=>x==m)=decide (m∈row):=by
 rw [Bool.eq_iff_iff,List.any_eq_true,decide_eq_true_eq]
 exact ⟨fun ⟨x,h1,h2⟩=>by rw [← (by simpa using h2:x=m)]; exact h1,fun h=>⟨m,h,by simp⟩⟩
def CN:List Nat→List Nat→Prop
 | [],[]=>False
 | [],_::_=>True
 | _::_,[]=>False
 | x::a,y::b=>x<y∨(x=y∧CN a b)
theorem N1:∀ (a:List Nat),¬ CN a a
 | [],h=>h
 | x::a,h=>by
  rcases h with h | ⟨_,h⟩
  ·exact absurd h (Nat.lt_irrefl _)
  ·exact N1 a h
theorem MC:∀ {a b c:List Nat},CN a b→CN b c→CN a c
 | [],[],_,h,_=>h.elim
 | [],_::_,[],_,h=>h.elim
 | [],_::_,_::_,_,_=>trivial
 | _::_,[],_,h,_=>h.elim
 | _::_,_::_,[],_,h=>h.elim
 | x::a,y::b,z::c,h,h'=>by
  rcases h with h | ⟨rfl,h⟩
  ·rcases h' with h' | ⟨rfl,h'⟩
   ·exact .inl (Nat.lt_trans h h')
   ·exact .inl h
  ·rcases h' with h' | ⟨rfl,h'⟩
   ·exact .inl h'
   ·exact .inr ⟨rfl,MC h h'⟩
theorem MK:∀ {a b:List Nat} (e f:Nat),a.length=b.length→CN a b→CN (a++[e]) (b++[f])
 | [],[],_,_,_,h=>h.elim
 | [],_::_,_,_,h,_=>by cases h
 | _::_,[],_,_,h,_=>by cases h
 | x::a,y::b,e,f,hl,h=>by
  rcases h with h | ⟨rfl,h⟩
  ·exact .inl h
  ·exact .inr ⟨rfl,MK e f (Nat.succ.inj hl) h⟩
theorem MS:∀ (a:List Nat) {e f:Nat},e<f→CN (a++[e]) (a++[f])
 | [],_,_,h=>.inl h
 | _::a,_,_,h=>.inr ⟨rfl,MS a h⟩
def ltC (a b:List Nat):Prop:=a.length<b.length∨(a.length=b.length∧CN a b)
def leC (a b:List Nat):Prop:=ltC a b∨a=b
theorem VA (a:List Nat):¬ ltC a a:=fun h=>by
 rcases h with h | ⟨_,h⟩
 ·exact absurd h (Nat.lt_irrefl _)
 ·exact N1 a h
theorem JF {a b c:List Nat} (h:ltC a b) (h':ltC b c):ltC a c:=by
 rcases h with h | ⟨e,h⟩
 ·rcases h' with h' | ⟨e',_⟩
  ·exact .inl (Nat.lt_trans h h')
  ·exact .inl (by omega)
 ·rcases h' with h' | ⟨e',h'⟩
  ·exact .inl (by omega)
  ·exact .inr ⟨e.trans e',MC h h'⟩
theorem IJ (a:List Nat):leC a a:=.inr rfl
theorem Pj {a b c:List Nat} (h:leC a b) (h':ltC b c):ltC a c:=by
 rcases h with h | rfl
 ·exact JF h h'
 ·exact h'
theorem HM {a b c:List Nat} (h:leC a b) (h':leC b c):leC a c:=by
 rcases h' with h' | rfl
 ·exact .inl (Pj h h')
 ·exact h
theorem TM {a b:List Nat} (h:leC a b) (h':leC b a):a=b:=by
 rcases h with h | h
 ·exact absurd (Pj h' h) (VA _)
 ·exact h
theorem If {a b:List Nat} (h:leC a b):a.length≤b.length:=by
 rcases h with (h | ⟨h,_⟩) | rfl
 ·omega
 ·omega
 ·exact Nat.le_refl _
theorem Mr {a b:List Nat} (e f:Nat) (h:ltC a b):ltC (a++[e]) (b++[f]):=by
 rcases h with h | ⟨hl,h⟩
 ·exact .inl (by simp only [List.length_append,List.length_singleton]; omega)
 ·exact .inr ⟨by simp only [List.length_append,List.length_singleton]; omega,MK e f hl h⟩
theorem UL {a b:List Nat} (e:Nat) (h:leC a b):leC (a++[e]) (b++[e]):=by
 rcases h with h | rfl
 ·exact .inl (Mr e e h)
 ·exact .inr rfl
theorem Ns (a:List Nat) {e f:Nat} (h:e<f):ltC (a++[e]) (a++[f]):=.inr ⟨by simp,MS a h⟩
theorem P5 (a:List Nat) (e:Nat):ltC a (a++[e]):=.inl (by simp)

structure AC where
 p:List Int
 dn:List Bool
 full:List Ak
 fr:Int
 dl:List Ak
 st:List Int
 cd:List Nat
def toJ (g:Ae) (c:Ad) (x:AC):Al:=Al.mk (Ap.mk g c x.p x.dn) x.full
def toT (x:AC):Ai:=Ai.mk x.p x.dn x.fr x.dl
def goS (g:Ae) (c:Ad) (s:List Int×List Bool×List Ak) (j:Nat):List Int×List Bool×List Ak :=
 (Au s.1 (g.Edges.getD j (Ah.mk 0 0)).A (g.Edges.getD j (Ah.mk 0 0)).B,(Ax g.Edges c (Au s.1 (g.Edges.getD j (Ah.mk 0 0)).A (g.Edges.getD j (Ah.mk 0 0)).B) s.2.1).1,
  (s.2.2++[Ak.mk (-1) (g.Edges.getD j (Ah.mk 0 0)).A (g.Edges.getD j (Ah.mk 0 0)).B])++(Ax g.Edges c (Au s.1 (g.Edges.getD j (Ah.mk 0 0)).A (g.Edges.getD j (Ah.mk 0 0)).B) s.2.1).2)
/-- The state behind a way. -/
def goC (g:Ae) (c:Ad) (st:List Int) (es:List Nat):List Int×List Bool×List Ak :=
 es.foldl (goS g c) (st,(Ax g.Edges c st (List.replicate c.Gates.length false)).1,(Ax g.Edges c st (List.replicate c.Gates.length false)).2)
theorem Fk (g:Ae) (c:Ad) (st:List Int) (es:List Nat) (j:Nat):goC g c st (es++[j])=goS g c (goC g c st es) j:=by
 unfold goC
 rw [List.foldl_append]
 rfl
def CdK (g:Ae) (c:Ad) (starts:List (List Int)) (x:AC):Prop:=∃ rt es,x.cd=rt::es∧starts[rt]?=some x.st∧(∀ j∈es,j<g.Edges.length)∧goC g c x.st es=(x.p,x.dn,x.full)
/-- What the search from many starts knows. -/
structure SrB (g:Ae) (c:Ad) (starts:List (List Int)) (ns:List AC) (met:List (List Int)):Prop where
 nd:∀ x∈ns,NdK g c x.st x.p x.dn x.full
 mlen:met.length=3125
 mt:∀ (p:List Int) (row:List Int),met[AH p]?=some row→(p.length:Int)=c.Qubits→(∀ x∈p,0≤x∧x<5)→∀ m:Nat,(m:Int)∈row↔∃ x∈ns,x.p=p∧A3 x.dn=m
 rows:∀ row∈met,row.length≤ns.length
 nodup:(ns.map fun x=>(x.p,x.dn)).Nodup
 stl:∀ i x,ns[i]?=some x→x.full.length+Ar x.dn≤c.Gates.length+i
 path:∀ i x,ns[i]?=some x→(x.fr = -1∧x.p=x.st∧x.full=x.dl)∨∃ (j:Nat) (y:AC),j<i∧x.fr=(j:Int)∧ns[j]?=some y∧x.full=y.full++x.dl∧x.st=y.st
 cod:∀ x∈ns,CdK g c starts x
 srt:∀ (a b:Nat) (x y:AC),a<b→ns[a]?=some x→ns[b]?=some y→ltC x.cd y.cd
def CK (seen:List (AB×Bool)) (ns:List AC):Prop:=∀ k,mgt seen k false=true↔∃ x∈ns,AZ x.p x.dn=k
theorem It {g:Ae} {c:Ad} (hm:SmK g c) {starts:List (List Int)} {ns:List AC} {met:List (List Int)} (h:SrB g c starts ns met):ns.length≤12800000:=by
 have hinj:((ns.map fun x=>(x.p,x.dn)).map fun q=>AH q.1*4096+A3 (AA c.Gates q.2)).Nodup:=by
  refine Hb h.nodup (fun a ha b hb e=>?_)
  obtain ⟨x,hx,rfl⟩:=List.mem_map.1 ha
  obtain ⟨y,hy,rfl⟩:=List.mem_map.1 hb
  simp only at e
  have nx:=h.nd x hx
  have ny:=h.nd y hy
  have b1:=GT (AA c.Gates x.dn)
  have b2:=GT (AA c.Gates y.dn)
  rw [EJ] at b1 b2
  have h12:2 ^ Bq c.Gates≤2 ^ 12:=Nat.pow_le_pow_right (by decide) hm.two
  have h12':2 ^ 12=4096:=by decide
  have e1:AH x.p=AH y.p:=by omega
  have e2:A3 (AA c.Gates x.dn)=A3 (AA c.Gates y.dn):=by omega
  have l1:=nx.inv.len
  have l2:=ny.inv.len
  simp only at l1 l2
  have ep:x.p=y.p:=J1 x.p.length x.p y.p rfl (by omega) (pl5 hm nx.inv) (pl5 hm ny.inv) e1
  have d1:=nx.inv.dn
  have d2:=ny.inv.dn
  simp only at d1 d2
  have eb:=Je (by rw [EJ,EJ]) e2
  have cy:=ny.cl
  rw [← ep] at cy
  have ed:x.dn=y.dn:=NE d1 d2 nx.vd ny.vd nx.cl cy (Jw c.Gates x.dn y.dn d1 d2 eb)
  rw [ep,ed]
 have:=HJ 12800000 _ hinj (fun z hz=>by
  obtain ⟨q,hq,rfl⟩:=List.mem_map.1 hz
  obtain ⟨x,hx,rfl⟩:=List.mem_map.1 hq
  simp only
  have nx:=h.nd x hx
  have b1:=GT (AA c.Gates x.dn)
  rw [EJ] at b1
  have h12:2 ^ Bq c.Gates≤2 ^ 12:=Nat.pow_le_pow_right (by decide) hm.two
  have h12':2 ^ 12=4096:=by decide
  have hl:=Cr hm.ok nx.inv
  have b2:=Ir x.p.length x.p rfl (pl5 hm nx.inv)
  have h5:5 ^ x.p.length≤5 ^ 5:=Nat.pow_le_pow_right (by decide) hl
  have h5':5 ^ 5=3125:=by decide
  omega)
 simpa using this
theorem Jf {g:Ae} {j:Nat} {e:Ah} (he:g.Edges[j]?=some e):g.Edges.getD j (Ah.mk 0 0)=e:=by
 rw [List.getD_eq_getElem?_getD,he]; rfl
theorem Rj {g:Ae} {c:Ad} {j:Nat} {e:Ah} (he:g.Edges[j]?=some e) (p:List Int) (dn:List Bool) (f:List Ak):goS g c (p,dn,f) j=(Au p e.A e.B,(Ax g.Edges c (Au p e.A e.B) dn).1,(f++[Ak.mk (-1) e.A e.B])++(Ax g.Edges c (Au p e.A e.B) dn).2):=by
 unfold goS
 rw [Jf he]
theorem SG {g:Ae} {c:Ad} (hm:SmK g c) {starts:List (List Int)} {ns:List AC} {met:List (List Int)} (h:SrB g c starts ns met) {i j:Nat} {x:AC} (hx:ns[i]?=some x) {e:Ah} (he:g.Edges[j]?=some e) (htop:∀ y∈ns,ltC y.cd (x.cd++[j])) :
  ∃ ns' met',DO g (i:Int) c j (met,ns.map toT)=some (met',ns'.map toT) ∧
   (∀ seen,CK seen ns→∃ seen',Do g (toJ g c x) j (seen,ns.map (toJ g c))=some (seen',ns'.map (toJ g c))∧CK seen' ns')∧SrB g c starts ns' met' ∧
   (∃ t,ns'=ns++t∧(∀ y∈t,y.cd=x.cd++[j]∧y.st=x.st)∧∃ y∈ns',y.p=Au x.p e.A e.B∧y.dn=(Ax g.Edges c (Au x.p e.A e.B) x.dn).1∧leC y.cd (x.cd++[j])):=by
 have hlen:=It hm h
 have hxm:=List.mem_of_getElem? hx
 have hem:=List.mem_of_getElem? he
 have hjl:=(List.getElem?_eq_some_iff.1 he).1
 have nx:=h.nd x hxm
 have hil:=(List.getElem?_eq_some_iff.1 hx).1
 have hst:=h.stl i x hx
 have hgl:=hm.gates
 have ny:=Ml hm.ok hem nx
 have hdl:=(CT (E:=g.Edges) (c:=c) (Au x.p e.A e.B) (dn:=x.dn) nx.inv.dn).2.2.2.1
 obtain ⟨rt,es,cd1,cd2,cd3,cd4⟩:=h.cod x hxm
 have hgo:goC g c x.st (es++[j])=(Au x.p e.A e.B,(Ax g.Edges c (Au x.p e.A e.B) x.dn).1,(x.full++[Ak.mk (-1) e.A e.B])++(Ax g.Edges c (Au x.p e.A e.B) x.dn).2):=by
  rw [Fk,cd4,Rj he]
 generalize hp':Au x.p e.A e.B=p' at ny hdl hgo ⊢
 generalize hdn':(Ax g.Edges c p' x.dn).1=dn' at ny hdl hgo ⊢
 generalize hdl':(Ax g.Edges c p' x.dn).2=dl' at ny hdl hgo
 have eI:=Vl hm.ok hem nx.inv (st:=x.full) (by omega)
 have eS:=VO hm.ok hem nx.inv (i:Int)
 rw [hp',hdn',hdl'] at eI eS
 have dlen:dn'.length=c.Gates.length:=ny.inv.dn
 have p5:=pl5 hm ny.inv
 have pl:=Cr hm.ok ny.inv
 have hcode:=Ir p'.length p' rfl p5
 have h5:5 ^ p'.length≤5 ^ 5:=Nat.pow_le_pow_right (by decide) pl
 have h5':5 ^ 5=3125:=by decide
 obtain ⟨row,hrow⟩:∃ row,met[AH p']?=some row:=⟨_,List.getElem?_eq_getElem (show AH p'<met.length by rw [h.mlen]; omega)⟩
 have hrl:=h.rows row (List.mem_of_getElem? hrow)
 have hplen:(p'.length:Int)=c.Qubits:=ny.inv.len
 have hiff:=h.mt p' row hrow hplen p5 (A3 dn')
 have hboth:(∃ z∈ns,z.p=p'∧A3 z.dn=A3 dn')↔∃ z∈ns,AZ z.p z.dn=AZ p' dn':=by
  constructor
  ·rintro ⟨z,hz,e1,e2⟩
   exact ⟨z,hz,by rw [e1]; unfold AZ; rw [e2]⟩
  ·rintro ⟨z,hz,e1⟩
   obtain ⟨a,b⟩:=Pp hm.ok (h.nd z hz).inv ny.inv e1
   exact ⟨z,hz,a,by rw [b]⟩
 have sEval:DO g (i:Int) c j (met,ns.map toT)=(if ((A3 dn':Nat):Int)∈row then some (met,ns.map toT) else some (met.set (AH p') (row++[((A3 dn':Nat):Int)]),ns.map toT++[Ai.mk p' dn' (i:Int) ([Ak.mk (-1) e.A e.B]++dl')])):=by
  unfold DO
  simp only
  rw [getI_nat,he,getI_nat,List.getElem?_map,hx]
  simp only [Option.bind_some,Option.map_some]
  have e1:(Cg (toT x).place e.A e.B)=some p':=by
   rw [← hp']; exact Km (by have:=Cr hm.ok nx.inv; show x.p.length≤_; omega) e.A e.B
  rw [e1]
  simp only [Option.bind_some]
  have e2:CA g c (Ai.mk p' (toT x).done (i:Int) [Ak.mk (-1) e.A e.B])=some (Ai.mk p' dn' (i:Int) ([Ak.mk (-1) e.A e.B]++dl')):=by
   have e3:(Cg x.p e.A e.B)=some p':=e1
   rw [e3] at eS
   exact eS
  rw [e2]
  simp only [Option.bind_some]
  rw [LF pl p5]
  simp only [Option.bind_some]
  rw [Is (by omega)]
  simp only [Option.bind_some]
  rw [getI_nat,hrow]
  simp only [Option.bind_some]
  rw [Ht (by omega),Gn]
  simp only [Option.bind_some]
  by_cases hin:((A3 dn':Nat):Int)∈row
  ·rw [decide_eq_true hin,if_pos hin]; rfl
  ·rw [decide_eq_false hin,if_neg hin]
   simp only [Bool.not_false,cond_true]
   rw [chk_t (by omega),chk_t (by rw [List.length_map]; omega),Int.toNat_natCast]
   rfl
 have iEval:∀ seen,Do g (toJ g c x) j (seen,ns.map (toJ g c))=(if mgt seen (AZ p' dn') false=true then some (seen,ns.map (toJ g c)) else some (mput seen (AZ p' dn') true,ns.map (toJ g c)++[Al.mk (Ap.mk g c p' dn') ((x.full++[Ak.mk (-1) e.A e.B])++dl')])):=fun seen=>by
  unfold Do
  simp only
  rw [getI_nat,he]
  simp only [Option.bind_some]
  rw [show Ez (toJ g c x) e=_ from eI]
  simp only [Option.bind_some]
  rw [P7 (by omega)]
  simp only [Option.bind_some]
  cases hg:mgt seen (AZ p' dn') false with
  | true=>rfl
  | false =>
   simp only [Bool.not_false,cond_true]
   rw [chk_t (by rw [List.length_map]; omega)]
   rfl
 by_cases hin:((A3 dn':Nat):Int)∈row
 ·rw [if_pos hin] at sEval
  refine ⟨ns,met,sEval,fun seen hkey=>⟨seen,?_,hkey⟩,h,[],by rw [List.append_nil],(fun y hy=>(by cases hy)),?_⟩
  ·rw [iEval seen,if_pos ((hkey _).2 (hboth.1 (hiff.1 hin)))]
  ·obtain ⟨z,hz,e1⟩:=hboth.1 (hiff.1 hin)
   obtain ⟨a,b⟩:=Pp hm.ok (h.nd z hz).inv ny.inv e1
   exact ⟨z,hz,a,b,.inl (htop z hz)⟩
 ·rw [if_neg hin] at sEval
  have hno:¬ ∃ z∈ns,AZ z.p z.dn=AZ p' dn':=fun hz=>hin (hiff.2 (hboth.2 hz))
  refine ⟨ns++[AC.mk p' dn' ((x.full++[Ak.mk (-1) e.A e.B])++dl') (i:Int) ([Ak.mk (-1) e.A e.B]++dl') x.st (x.cd++[j])],_,by rw [sEval,List.map_append]; rfl,fun seen hkey=>⟨_,by rw [iEval seen,if_neg (fun hk=>hno ((hkey _).1 hk)),List.map_append]; rfl,?_⟩,?_,_,rfl,?_,_,List.mem_append_right _ (List.mem_singleton.2 rfl),rfl,rfl,IJ _⟩
  rotate_left 2
  ·intro y hy
   rw [List.mem_singleton.1 hy]
   exact ⟨rfl,rfl⟩
  ·intro k
   rw [JY]
   by_cases ek:AZ p' dn'=k
   ·rw [if_pos ek]
    exact ⟨fun _=>⟨_,List.mem_append_right _ (List.mem_singleton.2 rfl),ek⟩,fun _=>rfl⟩
   ·rw [if_neg ek,hkey k]
    refine ⟨fun ⟨z,hz,e1⟩=>⟨z,List.mem_append_left _ hz,e1⟩,fun ⟨z,hz,e1⟩=>?_⟩
    rcases List.mem_append.1 hz with hz | hz
    ·exact ⟨z,hz,e1⟩
    ·rw [List.mem_singleton.1 hz] at e1; exact absurd e1 ek
  have lastI:∀ {k:Nat} {z w:AC},¬ k<ns.length→(ns++[w])[k]?=some z→k=ns.length∧z=w:=fun {k z w} hk2 hz=>by
   rw [List.getElem?_append_right (by omega)] at hz
   have e1:k=ns.length:=by
    have:=(List.getElem?_eq_some_iff.1 hz).1
    simp only [List.length_cons,List.length_nil] at this
    omega
   subst e1
   rw [Nat.sub_self] at hz
   exact ⟨rfl,(Option.some.inj hz).symm⟩
  refine ⟨?_,?_,?_,?_,?_,?_,?_,?_,?_⟩
  ·intro z hz
   rcases List.mem_append.1 hz with hz | hz
   ·exact h.nd z hz
   ·rw [List.mem_singleton.1 hz]; exact ny
  ·rw [List.length_set]; exact h.mlen
  ·intro q rw_ hq hql hq5 m
   rw [List.getElem?_set] at hq
   by_cases ec:AH p'=AH q
   ·rw [if_pos ec,if_pos (by rw [h.mlen]; omega)] at hq
    have eqp:p'=q:=J1 p'.length p' q rfl (by omega) p5 hq5 ec
    rw [← Option.some.inj hq,List.mem_append,← eqp,h.mt p' row hrow hplen p5 m,List.mem_singleton]
    constructor
    ·rintro (⟨z,hz,e1⟩ | e1)
     ·exact ⟨z,List.mem_append_left _ hz,e1⟩
     ·exact ⟨_,List.mem_append_right _ (List.mem_singleton.2 rfl),rfl,by simp only; omega⟩
    ·rintro ⟨z,hz,e1,e2⟩
     rcases List.mem_append.1 hz with hz | hz
     ·exact .inl ⟨z,hz,e1,e2⟩
     ·rw [List.mem_singleton.1 hz] at e2
      simp only at e2
      exact .inr (by omega)
   ·rw [if_neg ec] at hq
    rw [h.mt q rw_ hq hql hq5 m]
    refine ⟨fun ⟨z,hz,e1⟩=>⟨z,List.mem_append_left _ hz,e1⟩,fun ⟨z,hz,e1,e2⟩=>?_⟩
    rcases List.mem_append.1 hz with hz | hz
    ·exact ⟨z,hz,e1,e2⟩
    ·rw [List.mem_singleton.1 hz] at e1
     exact absurd (congrArg AH e1) ec
  ·intro r hr
   rw [List.length_append,List.length_cons,List.length_nil]
   rcases List.mem_or_eq_of_mem_set hr with hr | hr
   ·have:=h.rows r hr; omega
   ·rw [hr,List.length_append,List.length_cons,List.length_nil]; omega
  ·rw [List.map_append,List.nodup_append]
   refine ⟨h.nodup,by simp,fun a ha b hb e1=>?_⟩
   obtain ⟨z,hz,rfl⟩:=List.mem_map.1 ha
   simp only [List.map_cons,List.map_nil,List.mem_singleton] at hb
   rw [hb] at e1
   obtain ⟨e2,e3⟩:=Prod.mk.inj e1
   exact hno ⟨z,hz,by rw [e2,e3]⟩
  ·intro k z hz
   by_cases hk2:k<ns.length
   ·rw [List.getElem?_append_left hk2] at hz
    exact h.stl k z hz
   ·obtain ⟨rfl,rfl⟩:=lastI hk2 hz
    simp only [List.length_append,List.length_cons,List.length_nil]
    omega
  ·intro k z hz
   by_cases hk2:k<ns.length
   ·rw [List.getElem?_append_left hk2] at hz
    rcases h.path k z hz with h1 | ⟨j',y,h1,h2,h3,h4,h6⟩
    ·exact .inl h1
    ·exact .inr ⟨j',y,h1,h2,by rw [List.getElem?_append_left (by omega)]; exact h3,h4,h6⟩
   ·obtain ⟨rfl,rfl⟩:=lastI hk2 hz
    exact .inr ⟨i,x,hil,rfl,by rw [List.getElem?_append_left hil]; exact hx,by rw [List.append_assoc],rfl⟩
  ·intro z hz
   rcases List.mem_append.1 hz with hz | hz
   ·exact h.cod z hz
   ·rw [List.mem_singleton.1 hz]
    refine ⟨rt,es++[j],by rw [cd1]; rfl,cd2,fun q hq=>?_,hgo⟩
    rcases List.mem_append.1 hq with hq | hq
    ·exact cd3 q hq
    ·rw [List.mem_singleton.1 hq]; exact hjl
  ·intro a b u v hab hu hv
   by_cases hb2:b<ns.length
   ·rw [List.getElem?_append_left hb2] at hv
    rw [List.getElem?_append_left (by omega)] at hu
    exact h.srt a b u v hab hu hv
   ·obtain ⟨rfl,rfl⟩:=lastI hb2 hv
    rw [List.getElem?_append_left hab] at hu
    exact htop u (List.mem_of_getElem? hu)

theorem SS {g:Ae} {c:Ad} (hm:SmK g c) {starts:List (List Int)} {i:Nat} {x:AC}:∀ (k j:Nat) (ns:List AC) (met:List (List Int)),j+k=g.Edges.length→SrB g c starts ns met→ns[i]?=some x→(∀ y∈ns,ltC y.cd (x.cd++[j])) →
  (∀ a e,a<j→g.Edges[a]?=some e→∃ y∈ns,y.p=Au x.p e.A e.B∧y.dn=(Ax g.Edges c (Au x.p e.A e.B) x.dn).1∧leC y.cd (x.cd++[a])) →
  ∃ ns' met',forN (DO g (i:Int) c) k j (met,ns.map toT)=some (met',ns'.map toT) ∧
   (∀ seen,CK seen ns→∃ seen',forN (Do g (toJ g c x)) k j (seen,ns.map (toJ g c))=some (seen',ns'.map (toJ g c))∧CK seen' ns')∧SrB g c starts ns' met' ∧
   (∃ t,ns'=ns++t∧∀ y∈t,y.st=x.st)∧(∀ y∈ns',ltC y.cd (x.cd++[g.Edges.length])) ∧
   (∀ a e,g.Edges[a]?=some e→∃ y∈ns',y.p=Au x.p e.A e.B∧y.dn=(Ax g.Edges c (Au x.p e.A e.B) x.dn).1∧leC y.cd (x.cd++[a])):=fun k=>by
 induction k with
 | zero =>
  intro j ns met hj h hx htop hpr
  have ej:j=g.Edges.length:=by omega
  refine ⟨ns,met,rfl,fun seen hk=>⟨seen,rfl,hk⟩,h,⟨[],by rw [List.append_nil],fun y hy=>by cases hy⟩,by rw [← ej]; exact htop,fun a e ha=>hpr a e (by have:=(List.getElem?_eq_some_iff.1 ha).1; omega) ha⟩
 | succ k ih =>
  intro j ns met hj h hx htop hpr
  have he:=List.getElem?_eq_getElem (show j<g.Edges.length by omega)
  generalize g.Edges[j]=e at he
  obtain ⟨n2,m2,a1,a2,a3,t,a4,a5,y0,b1,b2,b3,b4⟩:=SG hm h hx he htop
  have hx':n2[i]?=some x:=by
   rw [a4,List.getElem?_append_left (List.getElem?_eq_some_iff.1 hx).1]; exact hx
  obtain ⟨n3,m3,c1,c2,c3,⟨t3,c4,c5⟩,c6,c7⟩:=ih (j+1) n2 m2 (by omega) a3 hx' (fun y hy=>by
   rw [a4] at hy
   rcases List.mem_append.1 hy with hy | hy
   ·exact JF (htop y hy) (Ns _ (Nat.lt_succ_self j))
   ·rw [(a5 y hy).1]; exact Ns _ (Nat.lt_succ_self j)) (fun a e' ha he'=>by
   by_cases ea:a=j
   ·subst ea
    rw [he] at he'
    rw [← Option.some.inj he']
    exact ⟨y0,b1,b2,b3,b4⟩
   ·obtain ⟨y,d1,d2⟩:=hpr a e' (by omega) he'
    exact ⟨y,by rw [a4]; exact List.mem_append_left _ d1,d2⟩)
  refine ⟨n3,m3,?_,fun seen hk=>?_,c3,⟨t++t3,by rw [c4,a4,List.append_assoc],fun y hy=>?_⟩,c6,c7⟩
  ·show (DO g (i:Int) c j (met,ns.map toT)).bind _=_
   rw [a1]
   exact c1
  ·obtain ⟨s2,d1,d2⟩:=a2 seen hk
   obtain ⟨s3,d3,d4⟩:=c2 s2 d2
   refine ⟨s3,?_,d4⟩
   show (Do g (toJ g c x) j (seen,ns.map (toJ g c))).bind _=_
   rw [d1]
   exact d3
  ·rcases List.mem_append.1 hy with hy | hy
   ·exact (a5 y hy).2
   ·exact c5 y hy
theorem Se {g:Ae} {c:Ad} (hm:SmK g c) {starts:List (List Int)} {ns:List AC} {met:List (List Int)} (h:SrB g c starts ns met):∀ (i F:Nat) (x:AC) (S:List Int) (acc:List Ak),ns[i]?=some x→i+2≤F→acc.length+x.full.length≤1000000000 →
  whX (Dk (ns.map toT)) F (S,acc,(i:Int))=some (.inl (x.st,x.full++acc,-1)):=fun i=>by
 induction i using Nat.strongRecOn with
 | _ i ih =>
  intro F x S acc hx hF hb
  obtain ⟨F',rfl⟩:∃ F',F=F'+1:=⟨F-1,by omega⟩
  have nx:=h.nd x (List.mem_of_getElem? hx)
  have hpl:=Cr hm.ok nx.inv
  have hget:getI (ns.map toT) (i:Int)=some (toT x):=by rw [getI_nat,List.getElem?_map,hx]; rfl
  have step:x.dl.length≤1000000000→x.dl.length+acc.length≤1000000000→Dk (ns.map toT) (S,acc,(i:Int))=some (.nx (x.p,x.dl++acc,x.fr)):=fun h1 h2=>by
   unfold Dk BJ
   simp only
   rw [decide_eq_true (show (0:Int)≤(i:Int) by omega),hget]
   simp only [cond_true,Option.bind_some]
   rw [chk_t (by show 0+x.p.length≤_; omega)]
   simp only [Option.bind_some]
   rw [chk_t (by show 0+x.dl.length≤_; omega),chk_t (by show x.dl.length+acc.length≤_; omega)]
   rfl
  simp only [whX]
  rcases h.path i x hx with ⟨h1,h2,h3⟩ | ⟨j,y,h1,h2,h3,h4,h6⟩
  ·rw [h3] at hb
   rw [step (by omega) (by omega),h1,h2,h3]
   obtain ⟨F2,rfl⟩:∃ F2,F'=F2+1:=⟨F'-1,by omega⟩
   show whX (Dk (ns.map toT)) (F2+1) (x.st,x.dl++acc,-1)=_
   simp only [whX]
   unfold Dk
   rfl
  ·rw [h4,List.length_append] at hb
   rw [step (by omega) (by omega),h2]
   refine Eq.trans (ih j h1 F' y x.p (x.dl++acc) h3 (by omega) (by rw [List.length_append]; omega)) ?_
   rw [h4,h6,List.append_assoc]
/-- What the search has behind it. -/
structure PrB (g:Ae) (c:Ad) (starts:List (List Int)) (ns:List AC) (i:Nat):Prop where
 pr:∀ (a:Nat) (x:AC),a<i→ns[a]?=some x→Ar x.dn≠0∧∀ j e,g.Edges[j]?=some e→∃ y∈ns,y.p=Au x.p e.A e.B∧y.dn=(Ax g.Edges c (Au x.p e.A e.B) x.dn).1∧leC y.cd (x.cd++[j])
 top:∀ x,ns[i]?=some x→∀ y∈ns,ltC y.cd (x.cd++[0])
 rts:∀ r s,starts[r]?=some s→∃ y∈ns,y.p=s∧y.dn=(Ax g.Edges c s (List.replicate c.Gates.length false)).1∧y.cd=[r]
theorem go2 {g:Ae} {c:Ad} (hm:SmK g c) {starts:List (List Int)}:∀ (f F i:Nat) (ns:List AC) (met:List (List Int)),SrB g c starts ns met→PrB g c starts ns i→12800001-i<f→f≤F→i≤ns.length →
  (∃ ns' met' a,whX (BY c g) F (met,ns.map toT,(i:Int))=some (.inl a)∧(∀ seen start,CK seen ns→start.length≤5→(∀ y∈ns,y.st=start)→∃ b,whX (Cd start g) F (seen,ns.map (toJ g c),(i:Int))=some (.inl b))∧SrB g c starts ns' met'∧PrB g c starts ns' ns'.length) ∨
   ∃ (ns':List AC) (met':List (List Int)) (k:Nat) (x:AC),whX (BY c g) F (met,ns.map toT,(i:Int))=some (.inr (Am.mk x.st x.full,true))∧(∀ seen start,CK seen ns→start.length≤5→(∀ y∈ns,y.st=start)→whX (Cd start g) F (seen,ns.map (toJ g c),(i:Int))=some (.inr (Am.mk start x.full,true))∧x.st=start)∧SrB g c starts ns' met'∧PrB g c starts ns' k∧ns'[k]?=some x∧Ar x.dn=0:=fun f=>by
 have hgl:=hm.gates
 have hel:=hm.ok.edges
 induction f with
 | zero=>intro F i ns met _ _ h; exact absurd h (Nat.not_lt_zero _)
 | succ f ih =>
  intro F i ns met h hpr hf hF hi
  obtain ⟨F',rfl⟩:∃ F',F=F'+1:=⟨F-1,by omega⟩
  have hlen:=It hm h
  have hp:=HG (i:=c.Gates.length) (by omega)
  have hp2:=Nat.two_pow_pos c.Gates.length
  simp only [whX]
  by_cases hlt:i<ns.length
  ·have hx:=List.getElem?_eq_getElem hlt
   generalize ns[i]=x at hx
   have nx:=h.nd x (List.mem_of_getElem? hx)
   have hdn:x.dn.length=c.Gates.length:=nx.inv.dn
   have hst:=h.stl i x hx
   have hgetS:getI (ns.map toT) (i:Int)=some (toT x):=by rw [getI_nat,List.getElem?_map,hx]; rfl
   have hgetI:getI (ns.map (toJ g c)) (i:Int)=some (toJ g c x):=by rw [getI_nat,List.getElem?_map,hx]; rfl
   have hall:IntKind.i64.wrap ((shlK .i64 1 (IntKind.u64.wrap (c.Gates.length:Int)))-1)=((2 ^ c.Gates.length-1:Nat):Int):=by
    rw [Hy (by omega),Lt hgl]
    generalize 2 ^ c.Gates.length=q at hp hp2
    rw [wr (by omega)]
    omega
   by_cases hz:Ar x.dn=0
   ·have hmask:A3 x.dn=2 ^ c.Gates.length-1:=(Mw hdn).2 hz
    refine .inr ⟨ns,met,i,x,?_,fun seen start _ hsl hall=>⟨?_,hall x (List.mem_of_getElem? hx)⟩,h,hpr,hx,hz⟩
    ·unfold BY
     simp only
     rw [decide_eq_true (show (i:Int)<((ns.map toT).length:Int) by rw [List.length_map]; omega),hgetS]
     simp only [cond_true,Option.bind_some]
     rw [show Cm (toT x).done=_ from Is (dn:=x.dn) (by omega)]
     simp only [Option.bind_some]
     rw [hall,hmask,beq_self_eq_true]
     simp only [cond_true]
     rw [Se hm h i fuel x [] [] hx (by have:i+2<fuel:=Ba (by omega); omega) (by simp only [List.length_nil]; omega)]
     simp only [Option.bind_some,orR,List.append_nil]
    ·unfold Cd
     simp only
     rw [decide_eq_true (show (i:Int)<((ns.map (toJ g c)).length:Int) by rw [List.length_map]; omega),hgetI]
     simp only [cond_true,Option.bind_some]
     rw [show Co (toJ g c x).work.done false=_ from KW (l:=x.dn) (by omega),hz]
     simp only [Option.bind_some,Nat.lt_irrefl,decide_false,Bool.not_false,cond_true]
     unfold Bv
     rw [chk_t (by omega)]
     rfl
   ·obtain ⟨ns',met',e1,e2,h3,⟨q,h4,h4s⟩,h5,h6⟩:=SS hm (starts:=starts) (i:=i) (x:=x) g.Edges.length 0 ns met (by omega) h hx (hpr.top x hx) (fun a e ha=>absurd ha (Nat.not_lt_zero _))
    have hmask:¬ A3 x.dn=2 ^ c.Gates.length-1:=fun e=>hz ((Mw hdn).1 e)
    have i1:BY c g (met,ns.map toT,(i:Int))=some (.nx (met',ns'.map toT,((i+1:Nat):Int))):=by
     unfold BY
     simp only
     rw [decide_eq_true (show (i:Int)<((ns.map toT).length:Int) by rw [List.length_map]; omega),hgetS]
     simp only [cond_true,Option.bind_some]
     rw [show Cm (toT x).done=_ from Is (dn:=x.dn) (by omega)]
     simp only [Option.bind_some]
     rw [hall,show (((A3 x.dn:Nat):Int)==((2 ^ c.Gates.length-1:Nat):Int))=false from by
      rw [beq_eq_false_iff_ne]; intro e; exact hmask (Int.ofNat_inj.1 e)]
     simp only [cond_false]
     rw [chk_t (by omega),e1]
     simp only [Option.bind_some]
     rw [wr (a:=(i:Int)+1) (by omega)]
     rfl
    have i2:∀ seen start,CK seen ns→∃ seen',Cd start g (seen,ns.map (toJ g c),(i:Int))=some (.nx (seen',ns'.map (toJ g c),((i+1:Nat):Int)))∧CK seen' ns':=fun seen start hk=>by
     obtain ⟨seen',e3,e4⟩:=e2 seen hk
     refine ⟨seen',?_,e4⟩
     unfold Cd
     simp only
     rw [decide_eq_true (show (i:Int)<((ns.map (toJ g c)).length:Int) by rw [List.length_map]; omega),hgetI]
     simp only [cond_true,Option.bind_some]
     rw [show Co (toJ g c x).work.done false=_ from KW (l:=x.dn) (by omega),decide_eq_true (show 0<Ar x.dn by omega)]
     simp only [Option.bind_some,Bool.not_true,cond_false]
     rw [chk_t (by omega),e3]
     simp only [Option.bind_some]
     rw [wr (a:=(i:Int)+1) (by omega)]
     rfl
    have hst':∀ start,(∀ y∈ns,y.st=start)→∀ y∈ns',y.st=start:=fun start hs y hy=>by
     rw [h4] at hy
     rcases List.mem_append.1 hy with hy | hy
     ·exact hs y hy
     ·rw [h4s y hy]; exact hs x (List.mem_of_getElem? hx)
    have hxi:ns'[i]?=some x:=by rw [h4,List.getElem?_append_left hlt]; exact hx
    have hpr':PrB g c starts ns' (i+1):=by
     refine ⟨fun a u ha hu=>?_,fun u hu y hy=>?_,fun r s hr=>?_⟩
     ·by_cases ea:a=i
      ·subst ea
       rw [hxi] at hu
       rw [← Option.some.inj hu]
       exact ⟨hz,fun j e he=>h6 j e he⟩
      ·rw [h4,List.getElem?_append_left (by omega)] at hu
       obtain ⟨p1,p2⟩:=hpr.pr a u (by omega) hu
       refine ⟨p1,fun j e he=>?_⟩
       obtain ⟨y,y1,y2⟩:=p2 j e he
       exact ⟨y,by rw [h4]; exact List.mem_append_left _ y1,y2⟩
     ·exact JF (h5 y hy) (Mr _ _ (h3.srt i (i+1) x u (Nat.lt_succ_self i) hxi hu))
     ·obtain ⟨y,y1,y2⟩:=hpr.rts r s hr
      exact ⟨y,by rw [h4]; exact List.mem_append_left _ y1,y2⟩
    rw [i1]
    rcases ih F' (i+1) ns' met' h3 hpr' (by omega) (by omega) (by rw [h4,List.length_append]; omega) with ⟨n4,m4,a4,f1,f2,f3⟩ | ⟨n4,m4,k,z,f1,f2,f3⟩
    ·refine .inl ⟨n4,m4,a4,f1,fun seen start hk hsl hs=>?_,f3⟩
     obtain ⟨seen',j1,j2⟩:=i2 seen start hk
     rw [j1]
     exact f2 seen' start j2 hsl (hst' start hs)
    ·refine .inr ⟨n4,m4,k,z,f1,fun seen start hk hsl hs=>?_,f3⟩
     obtain ⟨seen',j1,j2⟩:=i2 seen start hk
     rw [j1]
     exact f2 seen' start j2 hsl (hst' start hs)
  ·have ei:i=ns.length:=by omega
   subst ei
   refine .inl ⟨ns,met,(met,ns.map toT,(ns.length:Int)),?_,fun seen start _ _ _=>⟨(seen,ns.map (toJ g c),(ns.length:Int)),?_⟩,h,hpr⟩
   ·unfold BY
    simp only
    rw [decide_eq_false (by rw [List.length_map]; omega)]
    rfl
   ·unfold Cd
    simp only
    rw [decide_eq_false (by rw [List.length_map]; omega)]
    rfl
/-- Ways that lead to an end. -/
def IH (g:Ae) (c:Ad) (starts:List (List Int)) (cd:List Nat):Prop:=∃ rt es st,cd=rt::es∧starts[rt]?=some st∧(∀ j∈es,j<g.Edges.length)∧Ar (goC g c st es).2.1=0
theorem PJ {g:Ae} {c:Ad} {starts:List (List Int)} {ns:List AC} {met:List (List Int)} {k:Nat} (h:SrB g c starts ns met) (hp:PrB g c starts ns k) {rt:Nat} {st:List Int} (hr:starts[rt]?=some st):∀ (l:List Nat),(∀ j∈l,j<g.Edges.length) →
  (∃ y∈ns,y.p=(goC g c st l.reverse).1∧y.dn=(goC g c st l.reverse).2.1∧leC y.cd (rt::l.reverse))∨∃ x,ns[k]?=some x∧leC x.cd (rt::l.reverse)
 | [],_=>by
  obtain ⟨y,y1,y2,y3,y4⟩:=hp.rts rt st hr
  exact .inl ⟨y,y1,y2,y3,by rw [y4]; exact IJ _⟩
 | j::l,hl=>by
  rw [List.reverse_cons]
  have hcons:rt::(l.reverse++[j])=(rt::l.reverse)++[j]:=rfl
  rcases PJ h hp hr l (fun q hq=>hl q (.tail _ hq)) with ⟨y,y1,y2,y3,y4⟩ | ⟨x,x1,x2⟩
  ·obtain ⟨a,ha,hae⟩:=List.mem_iff_getElem.1 y1
   have hya:ns[a]?=some y:=by rw [List.getElem?_eq_getElem ha,hae]
   by_cases hak:a<k
   ·have he:=List.getElem?_eq_getElem (hl j (.head _))
    generalize g.Edges[j]'(hl j (.head _))=e at he
    obtain ⟨z,z1,z2,z3,z4⟩:=(hp.pr a y hak hya).2 j e he
    refine .inl ⟨z,z1,?_,?_,?_⟩
    ·rw [Fk]
     unfold goS
     rw [Jf he,z2,y2]
    ·rw [Fk]
     unfold goS
     rw [Jf he,z3,y2,y3]
    ·rw [hcons]
     exact HM z4 (UL j y4)
   ·have hk:k<ns.length:=by omega
    refine .inr ⟨ns[k],List.getElem?_eq_getElem hk,?_⟩
    rw [hcons]
    have h1:leC ns[k].cd y.cd:=by
     by_cases e:k=a
     ·subst e; rw [hae]; exact IJ _
     ·exact .inl (h.srt k a _ y (by omega) (List.getElem?_eq_getElem hk) hya)
    exact HM h1 (HM y4 (.inl (P5 _ j)))
  ·refine .inr ⟨x,x1,?_⟩
   rw [hcons]
   exact HM x2 (.inl (P5 _ j))
theorem OP {g:Ae} {c:Ad} {starts:List (List Int)} {ns:List AC} {met:List (List Int)} {k:Nat} (h:SrB g c starts ns met) (hp:PrB g c starts ns k) {cd:List Nat} (hc:IH g c starts cd):∃ x,ns[k]?=some x∧leC x.cd cd:=by
 obtain ⟨rt,es,st,rfl,hr,hes,hz⟩:=hc
 have:=PJ h hp hr es.reverse (fun j hj=>hes j (List.mem_reverse.1 hj))
 rw [List.reverse_reverse] at this
 rcases this with ⟨y,y1,y2,y3,y4⟩ | this
 ·obtain ⟨a,ha,hae⟩:=List.mem_iff_getElem.1 y1
  have hya:ns[a]?=some y:=by rw [List.getElem?_eq_getElem ha,hae]
  by_cases hak:a<k
  ·exact absurd (by rw [y3]; exact hz) (hp.pr a y hak hya).1
  ·have hk:k<ns.length:=by omega
   refine ⟨ns[k],List.getElem?_eq_getElem hk,?_⟩
   by_cases e:k=a
   ·subst e; rw [hae]; exact y4
   ·exact HM (.inl (h.srt k a _ y (by omega) (List.getElem?_eq_getElem hk) hya)) y4
 ·exact this

/-- The first r starts are laid in. -/
structure InB (g:Ae) (c:Ad) (starts:List (List Int)) (r:Nat) (ns:List AC) (met:List (List Int)):Prop where
 sb:SrB g c starts ns met
 len:ns.length=r
 each:∀ (a:Nat) (x:AC),ns[a]?=some x→x.cd=[a]∧starts[a]?=some x.p∧x.st=x.p∧x.dn=(Ax g.Edges c x.p (List.replicate c.Gates.length false)).1∧x.full=(Ax g.Edges c x.p (List.replicate c.Gates.length false)).2
theorem Rd {g:Ae} {c:Ad} (hm:SmK g c) {starts:List (List Int)} (hst:∀ s∈starts,Ay g c (s,List.replicate c.Gates.length false)) (hnd:starts.Nodup) {r:Nat} {ns:List AC} {met:List (List Int)} (h:InB g c starts r ns met) (hr:r<starts.length) :
  ∃ ns' met',Dl starts c g r (met,ns.map toT)=some (met',ns'.map toT)∧InB g c starts (r+1) ns' met':=by
 have hs:=List.getElem?_eq_getElem hr
 generalize starts[r]=s at hs
 have hi:=hst s (List.mem_of_getElem? hs)
 have hgl:=hm.gates
 have hlen:=It hm h.sb
 have pl:=Cr hm.ok hi
 have p5:=pl5 hm hi
 have hn:=Mq (g:=g) (c:=c) hi
 have hdl:=(CT (E:=g.Edges) (c:=c) s hi.dn).2.2.2.1
 have hdn:=(CT (E:=g.Edges) (c:=c) s hi.dn).1
 have hgo:goC g c s []=(s,(Ax g.Edges c s (List.replicate c.Gates.length false)).1,(Ax g.Edges c s (List.replicate c.Gates.length false)).2):=rfl
 have hsp:=ON hm.ok hi (st:=[]) (by simp) (-1)
 generalize hd1:(Ax g.Edges c s (List.replicate c.Gates.length false)).1=dn at hn hdl hdn hgo hsp
 generalize hd2:(Ax g.Edges c s (List.replicate c.Gates.length false)).2=dl at hn hdl hgo hsp
 rw [List.nil_append] at hsp
 have hcode:=Ir s.length s rfl p5
 have h5:5 ^ s.length≤5 ^ 5:=Nat.pow_le_pow_right (by decide) pl
 have h5':5 ^ 5=3125:=by decide
 obtain ⟨row,hrow⟩:∃ row,met[AH s]?=some row:=⟨_,List.getElem?_eq_getElem (show AH s<met.length by rw [h.sb.mlen]; omega)⟩
 have hrl:=h.sb.rows row (List.mem_of_getElem? hrow)
 have hplen:(s.length:Int)=c.Qubits:=hi.len
 have ev:Dl starts c g r (met,ns.map toT)=some (met.set (AH s) (row++[((A3 dn:Nat):Int)]),ns.map toT++[Ai.mk s dn (-1) dl]):=by
  unfold Dl BJ
  simp only
  rw [getI_nat,hs]
  simp only [Option.bind_some]
  rw [chk_t (by omega)]
  simp only [Option.bind_some]
  rw [chk_t (by omega),hsp]
  simp only [Option.bind_some]
  rw [LF pl p5]
  simp only [Option.bind_some]
  rw [getI_nat,hrow]
  simp only [Option.bind_some]
  rw [Is (by omega)]
  simp only [Option.bind_some]
  rw [chk_t (by omega),chk_t (by rw [List.length_map]; omega),Int.toNat_natCast]
 have hnew:∀ z∈ns,z.p≠s:=fun z hz e=>by
  obtain ⟨a,ha,hae⟩:=List.mem_iff_getElem.1 hz
  have hza:ns[a]?=some z:=by rw [List.getElem?_eq_getElem ha,hae]
  obtain ⟨_,e2,_⟩:=h.each a z hza
  rw [e] at e2
  have:=(List.getElem?_inj (l:=starts) (i:=a) (j:=r) (by have:=h.len; omega) hnd).1 (by rw [e2,hs])
  have:=h.len
  omega
 have lastI:∀ {k:Nat} {z w:AC},¬ k<ns.length→(ns++[w])[k]?=some z→k=ns.length∧z=w:=fun {k z w} hk2 hz=>by
  rw [List.getElem?_append_right (by omega)] at hz
  have e1:k=ns.length:=by
   have:=(List.getElem?_eq_some_iff.1 hz).1
   simp only [List.length_cons,List.length_nil] at this
   omega
  subst e1
  rw [Nat.sub_self] at hz
  exact ⟨rfl,(Option.some.inj hz).symm⟩
 refine ⟨ns++[AC.mk s dn dl (-1) dl s [r]],_,by rw [ev,List.map_append]; rfl,⟨?_,?_,?_,?_,?_,?_,?_,?_,?_⟩,by simp [h.len],?_⟩
 ·intro z hz
  rcases List.mem_append.1 hz with hz | hz
  ·exact h.sb.nd z hz
  ·rw [List.mem_singleton.1 hz]; exact hn
 ·rw [List.length_set]; exact h.sb.mlen
 ·intro q rw_ hq hql hq5 m
  rw [List.getElem?_set] at hq
  by_cases ec:AH s=AH q
  ·rw [if_pos ec,if_pos (by rw [h.sb.mlen]; omega)] at hq
   have eqp:s=q:=J1 s.length s q rfl (by omega) p5 hq5 ec
   rw [← Option.some.inj hq,List.mem_append,← eqp,h.sb.mt s row hrow hplen p5 m,List.mem_singleton]
   constructor
   ·rintro (⟨z,hz,e1⟩ | e1)
    ·exact ⟨z,List.mem_append_left _ hz,e1⟩
    ·exact ⟨_,List.mem_append_right _ (List.mem_singleton.2 rfl),rfl,by simp only; omega⟩
   ·rintro ⟨z,hz,e1,e2⟩
    rcases List.mem_append.1 hz with hz | hz
    ·exact .inl ⟨z,hz,e1,e2⟩
    ·rw [List.mem_singleton.1 hz] at e2
     simp only at e2
     exact .inr (by omega)
  ·rw [if_neg ec] at hq
   rw [h.sb.mt q rw_ hq hql hq5 m]
   refine ⟨fun ⟨z,hz,e1⟩=>⟨z,List.mem_append_left _ hz,e1⟩,fun ⟨z,hz,e1,e2⟩=>?_⟩
   rcases List.mem_append.1 hz with hz | hz
   ·exact ⟨z,hz,e1,e2⟩
   ·rw [List.mem_singleton.1 hz] at e1
    exact absurd (congrArg AH e1) ec
 ·intro q hq
  rw [List.length_append,List.length_cons,List.length_nil]
  rcases List.mem_or_eq_of_mem_set hq with hq | hq
  ·have:=h.sb.rows q hq; omega
  ·rw [hq,List.length_append,List.length_cons,List.length_nil]; omega
 ·rw [List.map_append,List.nodup_append]
  refine ⟨h.sb.nodup,by simp,fun a ha b hb e1=>?_⟩
  obtain ⟨z,hz,rfl⟩:=List.mem_map.1 ha
  simp only [List.map_cons,List.map_nil,List.mem_singleton] at hb
  rw [hb] at e1
  exact hnew z hz (Prod.mk.inj e1).1
 ·intro k z hz
  by_cases hk2:k<ns.length
  ·rw [List.getElem?_append_left hk2] at hz
   exact h.sb.stl k z hz
  ·obtain ⟨rfl,rfl⟩:=lastI hk2 hz
   rw [MY] at hdl
   simp only
   omega
 ·intro k z hz
  by_cases hk2:k<ns.length
  ·rw [List.getElem?_append_left hk2] at hz
   rcases h.sb.path k z hz with h1 | ⟨j',y,h1,h2,h3,h4,h6⟩
   ·exact .inl h1
   ·exact .inr ⟨j',y,h1,h2,by rw [List.getElem?_append_left (by omega)]; exact h3,h4,h6⟩
  ·obtain ⟨rfl,rfl⟩:=lastI hk2 hz
   exact .inl ⟨rfl,rfl,rfl⟩
 ·intro z hz
  rcases List.mem_append.1 hz with hz | hz
  ·exact h.sb.cod z hz
  ·rw [List.mem_singleton.1 hz]
   exact ⟨r,[],rfl,hs,(fun q hq=>by cases hq),hgo⟩
 ·intro a b u v hab hu hv
  by_cases hb2:b<ns.length
  ·rw [List.getElem?_append_left hb2] at hv
   rw [List.getElem?_append_left (by omega)] at hu
   exact h.sb.srt a b u v hab hu hv
  ·obtain ⟨rfl,rfl⟩:=lastI hb2 hv
   rw [List.getElem?_append_left hab] at hu
   rw [(h.each a u hu).1]
   exact .inr ⟨rfl,.inl (by have:=h.len; omega)⟩
 ·intro a x hx
  by_cases ha:a<ns.length
  ·rw [List.getElem?_append_left ha] at hx
   exact h.each a x hx
  ·obtain ⟨rfl,rfl⟩:=lastI ha hx
   refine ⟨by rw [h.len],by rw [h.len]; exact hs,rfl,hd1.symm,hd2.symm⟩
theorem UM {g:Ae} {c:Ad} (hm:SmK g c) {starts:List (List Int)} (hst:∀ s∈starts,Ay g c (s,List.replicate c.Gates.length false)) (hnd:starts.Nodup) :
  ∃ ns met,forN (Dl starts c g) starts.length 0 (List.replicate 3125 ([]:List Int),([]:List Ai))=some (met,ns.map toT)∧InB g c starts starts.length ns met:=by
 have h0:InB g c starts 0 [] (List.replicate 3125 ([]:List Int)):=by
  refine ⟨⟨fun x hx=>(by cases hx),List.length_replicate,fun p row hr _ _ m=>?_,fun row hr=>?_,List.nodup_nil,fun i x hx=>(by cases hx),fun i x hx=>(by cases hx),fun x hx=>(by cases hx),fun a b x y _ hx=>(by cases hx)⟩,rfl,fun a x hx=>(by cases hx)⟩
  ·rw [List.getElem?_replicate] at hr
   split at hr
   ·rw [← Option.some.inj hr]
    exact ⟨fun h=>(by cases h),fun ⟨x,hx,_⟩=>(by cases hx)⟩
   ·cases hr
  ·rw [(List.mem_replicate.1 hr).2]; exact Nat.zero_le _
 obtain ⟨s',h1,ns,met,h2,h3⟩:=forN_inv (f:=Dl starts c g) (fun i s=>∃ ns met,s=(met,ns.map toT)∧InB g c starts i ns met) starts.length 0 (List.replicate 3125 ([]:List Int),([]:List Ai)) ⟨[],_,rfl,h0⟩ (fun i s _ hi ⟨ns,met,e,h⟩=>by
  subst e
  obtain ⟨ns',met',e1,e2⟩:=Rd hm hst hnd h (by omega)
  exact ⟨_,e1,ns',met',rfl,e2⟩)
 rw [Nat.zero_add] at h3
 exact ⟨ns,met,by rw [h1,h2],h3⟩
theorem QS {g:Ae} {c:Ad} {starts:List (List Int)} {ns:List AC} {met:List (List Int)} (h:InB g c starts starts.length ns met):PrB g c starts ns 0:=by
 refine ⟨fun a _ ha=>absurd ha (Nat.not_lt_zero _),fun x hx y hy=>?_,fun r s hr=>?_⟩
 ·obtain ⟨a,ha,hae⟩:=List.mem_iff_getElem.1 hy
  rw [(h.each 0 x hx).1,(h.each a y (by rw [List.getElem?_eq_getElem ha,hae])).1]
  exact .inl (by simp)
 ·have hrl:=(List.getElem?_eq_some_iff.1 hr).1
  have hy:=List.getElem?_eq_getElem (show r<ns.length by rw [h.len]; exact hrl)
  generalize ns[r]'(by rw [h.len]; exact hrl)=y at hy
  obtain ⟨e1,e2,_,e4,_⟩:=h.each r y hy
  rw [hr] at e2
  have e5:=Option.some.inj e2
  exact ⟨y,List.mem_of_getElem? hy,e5.symm,by rw [e4,← e5],e1⟩
/-- What a search from many starts finds: the end of the least way. -/
def Iy (g:Ae) (c:Ad) (starts:List (List Int)) (r:Am) (ok:Bool):Prop :=
 (ok=false→r=Am.mk [] []∧∀ cd,¬ IH g c starts cd) ∧
 (ok=true→∃ rt es st,starts[rt]?=some st∧IH g c starts (rt::es)∧(∀ j∈es,j<g.Edges.length)∧r=Am.mk st (goC g c st es).2.2∧(∀ cd,IH g c starts cd→leC (rt::es) cd)∧NdK g c st (goC g c st es).1 (goC g c st es).2.1 (goC g c st es).2.2∧(goC g c st es).2.2.length≤900000000)
theorem NG {g:Ae} {c:Ad} (hm:SmK g c) {starts:List (List Int)} (hst:∀ s∈starts,Ay g c (s,List.replicate c.Gates.length false)) (hnd:starts.Nodup) (hl:starts.length≤12800000) :
  ∃ r ok,EK g c starts=some (r,ok)∧Iy g c starts r ok∧(∀ start,starts=[start]→∃ dn dl,Ax g.Edges c start (List.replicate c.Gates.length false)=(dn,dl) ∧
   (whX (Cd start g) fuel (mput [] (AZ start dn) true,[Al.mk (Ap.mk g c start dn) dl],0)).bind (orR fun (x:List (AB×Bool)×List Al×Int)=>some ((Am.mk [] []),false))=some (r,ok)):=by
 have hgl:=hm.gates
 obtain ⟨ns,met,e1,h⟩:=UM hm hst hnd
 have hp:=QS h
 have hsingle:∀ start,starts=[start]→∃ dn dl,Ax g.Edges c start (List.replicate c.Gates.length false)=(dn,dl)∧CK (mput [] (AZ start dn) true) ns∧start.length≤5∧(∀ y∈ns,y.st=start)∧ns.map (toJ g c)=[Al.mk (Ap.mk g c start dn) dl]:=fun start hs=>by
  have hl1:ns.length=1:=by rw [h.len,hs]; rfl
  obtain ⟨x,rfl⟩:=List.length_eq_one_iff.1 hl1
  obtain ⟨_,c2,c3,c4,c5⟩:=h.each 0 x rfl
  rw [hs] at c2
  have c6:start=x.p:=Option.some.inj c2
  refine ⟨x.dn,x.full,by rw [c4,c5,c6],fun k=>?_,?_,fun y hy=>by rw [List.mem_singleton.1 hy,c3,c6],by rw [c6]; rfl⟩
  ·rw [JY]
   by_cases e:AZ start x.dn=k
   ·rw [if_pos e]
    exact ⟨fun _=>⟨x,List.mem_singleton.2 rfl,by rw [← c6]; exact e⟩,fun _=>rfl⟩
   ·rw [if_neg e]
    refine ⟨fun h=>(by cases h),fun ⟨y,hy,h⟩=>?_⟩
    rw [List.mem_singleton.1 hy,← c6] at h
    exact absurd h e
  ·exact Cr hm.ok (hst start (by rw [hs]; exact List.mem_singleton.2 rfl))
 have hS:EK g c starts=(whX (BY c g) fuel (met,ns.map toT,0)).bind (orR fun (x:List (List Int)×List Ai×Int)=>some ((Am.mk [] []),false)):=by
  unfold EK
  rw [chk_t (by omega),e1]
  simp only [Option.bind_some]
  rw [Hy (by omega),chk_t (by omega)]
 rw [hS]
 have hgo:=go2 hm (starts:=starts) 12800002 fuel 0 ns met h.sb hp (by omega) (by have:12800002<fuel:=Ba (by omega); omega) (Nat.zero_le _)
 rcases hgo with ⟨ns',met',a,f1,f2,f3,f4⟩ | ⟨ns',met',k,x,f1,f2,f3,f4,f5,f6⟩
 ·refine ⟨Am.mk [] [],false,?_,⟨fun _=>⟨rfl,fun cd hc=>?_⟩,fun h=>by cases h⟩,fun start hs=>?_⟩
  ·rw [show whX (BY c g) fuel (met,ns.map toT,0)=_ from f1]
   rfl
  ·obtain ⟨x,hx,_⟩:=OP f3 f4 hc
   have:=(List.getElem?_eq_some_iff.1 hx).1
   omega
  ·obtain ⟨dn,dl,g1,g2,g3,g4,g5⟩:=hsingle start hs
   obtain ⟨b,hb⟩:=f2 _ start g2 g3 g4
   rw [g5] at hb
   refine ⟨dn,dl,g1,?_⟩
   rw [show whX (Cd start g) fuel (mput [] (AZ start dn) true,[Al.mk (Ap.mk g c start dn) dl],0)=_ from hb]
   rfl
 ·refine ⟨Am.mk x.st x.full,true,?_,⟨fun h=>(by cases h),fun _=>?_⟩,fun start hs=>?_⟩
  ·rw [show whX (BY c g) fuel (met,ns.map toT,0)=_ from f1]
   rfl
  ·obtain ⟨rt,es,d1,d2,d3,d4⟩:=f3.cod x (List.mem_of_getElem? f5)
   have hnx:=f3.nd x (List.mem_of_getElem? f5)
   refine ⟨rt,es,x.st,d2,⟨rt,es,x.st,rfl,d2,d3,by rw [d4]; exact f6⟩,d3,by rw [d4],fun cd hc=>?_,by rw [d4]; exact hnx,by rw [d4]; have hl1:=It hm f3; have hl2:=(List.getElem?_eq_some_iff.1 f5).1; have hl3:=f3.stl k x f5; show x.full.length≤_; omega⟩
   obtain ⟨y,y1,y2⟩:=OP f3 f4 hc
   rw [f5] at y1
   rw [← Option.some.inj y1,d1] at y2
   exact y2
  ·obtain ⟨dn,dl,g1,g2,g3,g4,g5⟩:=hsingle start hs
   obtain ⟨hb,hb2⟩:=f2 _ start g2 g3 g4
   rw [g5] at hb
   refine ⟨dn,dl,g1,?_⟩
   rw [show whX (Cd start g) fuel (mput [] (AZ start dn) true,[Al.mk (Ap.mk g c start dn) dl],0)=_ from hb,hb2]
   rfl

theorem PA:∀ (l:List Ac) (x:Ac),Bq (l++[x])=Bq l+(bif A4 x then 1 else 0)
 | [],x=>by show (bif A4 x then 1 else 0)+0=0+_; omega
 | g::t,x=>by
  show (bif A4 g then 1 else 0)+Bq (t++[x])=(bif A4 g then 1 else 0)+Bq t+_
  rw [PA t x]; omega
theorem PE:∀ (l:List Ac),Bq l≤l.length
 | []=>Nat.le_refl _
 | g::t=>by
  have:=PE t
  show (bif A4 g then 1 else 0)+Bq t≤t.length+1
  cases A4 g <;> simp only [cond_true,cond_false] <;> omega
theorem Qc {c:Ad} {f:Nat→Int→Option Int} (hl:c.Gates.length≤1048576) (hf:∀ (i:Nat) (x:Ac) (z:Nat),c.Gates[i]?=some x→z≤1048576→f i (z:Int)=some (((z+(bif A4 x then 1 else 0):Nat)):Int)):forN f c.Gates.length 0 0=some ((Bq c.Gates:Nat):Int):=by
 obtain ⟨z,h1,h2⟩:=forN_inv (f:=f) (fun i z=>z=((Bq (c.Gates.take i):Nat):Int)) c.Gates.length 0 0 rfl (fun i z _ hi hz=>by
  have hx:=List.getElem?_eq_getElem (show i<c.Gates.length by omega)
  generalize c.Gates[i]=x at hx
  have h3:=PE (c.Gates.take i)
  rw [List.length_take] at h3
  refine ⟨_,by rw [hz]; exact hf i x _ hx (by omega),?_⟩
  rw [List.take_add_one,hx,Option.toList_some,PA])
 rw [h1,h2,Nat.zero_add,List.take_length]
theorem ME {g:Ae} {c:Ad} (h:ROk g c):cOk c=true:=by
 unfold cOk
 simp only [Bool.and_eq_true,decide_eq_true_eq]
 exact ⟨⟨⟨h.qs.1,h.qs.2⟩,h.gl⟩,List.all_eq_true.2 h.gok⟩
theorem US (g:Ae) (c:Ad) (h1:g.Edges.length≤1048576) (h2:c.Gates.length≤1048576):∃ v,DH g c=some v∧BG g c=some v∧(v=true→SmK g c∧c.Qubits≤g.Nodes):=by
 obtain ⟨b,f1,f2,f3⟩:=Nr g c h1 h2
 have e1:forN (Hj c) c.Gates.length 0 0=some ((Bq c.Gates:Nat):Int):=Qc h2 (fun i x z hx hz=>by
  unfold Hj
  rw [getI_nat,hx]
  simp only [Option.bind_some]
  rw [JW]
  simp only [Option.bind_some]
  cases A4 x
  ·rfl
  ·simp only [cond_true,Option.bind_some]
   rw [wr (a:=(z:Int)+1) (by omega)]
   rfl)
 have e2:forN (H1 c AX) c.Gates.length 0 0=some ((Bq c.Gates:Nat):Int):=Qc h2 (fun i x z hx hz=>by
  unfold H1
  rw [getI_nat,hx]
  simp only [Option.bind_some]
  rw [H9]
  simp only [Option.bind_some]
  cases A4 x
  ·rfl
  ·simp only [cond_true,Option.bind_some]
   rw [wr (a:=(z:Int)+1) (by omega)]
   rfl)
 have hS:DH g c=some ((((b&&(decide (g.Nodes≤5)))&&(decide ((c.Gates.length:Int)≤40)))&&(decide (((Bq c.Gates:Nat):Int)≤12)))):=by
  unfold DH
  rw [chk_t (by omega),e1]
  simp only [Option.bind_some]
  rw [f1]
  rfl
 refine ⟨_,hS,?_,fun hv=>?_⟩
 ·unfold BG FE HD
  rw [CP c h2]
  simp only [Option.bind_some]
  cases hc:cOk c with
  | false =>
   have hb:b=false:=by
    cases hb:b
    ·rfl
    ·have:=ME (f3 hb).1
     rw [hc] at this; cases this
   rw [hb]
   rfl
  | true =>
   simp only [Bool.not_true,cond_false]
   rw [chk_t (by omega),e2]
   simp only [Option.bind_some,gb,cond_true,f2,Bool.true_and]
 ·simp only [Bool.and_eq_true,decide_eq_true_eq] at hv
  obtain ⟨⟨⟨hb,h5⟩,h40⟩,h12⟩:=hv
  obtain ⟨r1,r2⟩:=f3 hb
  exact ⟨⟨r1,h5,by omega,by omega⟩,r2⟩

def plD (N:Nat):Nat→List Int→List (List Int)
 | 0,l=>[l]
 | d+1,l=>(List.range N).flatMap fun (k:Nat)=>if (k:Int)∈l then [] else plD N d (l++[(k:Int)])
theorem EM {N:Nat}:∀ (d:Nat) (l x:List Int),x∈plD N d l↔∃ t:List Int,x=l++t∧t.length=d∧(∀ y∈t,0≤y∧y<(N:Int))∧t.Pairwise (·≠·)∧∀ y∈t,y∉l
 | 0,l,x=>by
  show x∈[l]↔_
  rw [List.mem_singleton]
  constructor
  ·rintro rfl
   exact ⟨[],by simp,rfl,(fun y hy=>by cases hy),.nil,(fun y hy=>by cases hy)⟩
  ·rintro ⟨t,rfl,ht,_⟩
   rw [List.length_eq_zero_iff.1 ht,List.append_nil]
 | d+1,l,x=>by
  show x∈(List.range N).flatMap _↔_
  rw [List.mem_flatMap]
  constructor
  ·rintro ⟨k,hk,hx⟩
   have hkN:=List.mem_range.1 hk
   by_cases hkl:(k:Int)∈l
   ·rw [if_pos hkl] at hx; cases hx
   ·rw [if_neg hkl] at hx
    obtain ⟨t,rfl,t1,t2,t3,t4⟩:=(EM d _ x).1 hx
    refine ⟨(k:Int)::t,by simp,by simp [t1],fun y hy=>?_,List.pairwise_cons.2 ⟨fun y hy e=>?_,t3⟩,fun y hy=>?_⟩
    ·rcases List.mem_cons.1 hy with rfl | hy
     ·exact ⟨Int.natCast_nonneg _,by omega⟩
     ·exact t2 y hy
    ·exact t4 y hy (by rw [← e]; simp)
    ·rcases List.mem_cons.1 hy with rfl | hy
     ·exact hkl
     ·exact fun h=>t4 y hy (List.mem_append_left _ h)
  ·rintro ⟨t,rfl,t1,t2,t3,t4⟩
   cases t with
   | nil=>cases t1
   | cons a t =>
    have ha:=t2 a (.head _)
    refine ⟨a.toNat,List.mem_range.2 (by omega),?_⟩
    have ea:((a.toNat:Nat):Int)=a:=by omega
    rw [ea,if_neg (t4 a (.head _))]
    obtain ⟨p1,p2⟩:=List.pairwise_cons.1 t3
    refine (EM d _ _).2 ⟨t,by simp,by simpa using t1,fun y hy=>t2 y (.tail _ hy),p2,fun y hy h=>?_⟩
    rcases List.mem_append.1 h with h | h
    ·exact t4 y (.tail _ hy) h
    ·rw [List.mem_singleton] at h
     exact p1 y hy h.symm
theorem Of {N:Nat}:∀ (d:Nat) (l:List Int),(plD N d l).Nodup
 | 0,l=>by show [l].Nodup; simp
 | d+1,l=>by
  show ((List.range N).flatMap _).Pairwise _
  rw [List.pairwise_flatMap]
  refine ⟨fun k _=>?_,?_⟩
  ·by_cases hkl:(k:Int)∈l
   ·rw [if_pos hkl]; exact .nil
   ·rw [if_neg hkl]; exact Of d _
  ·refine (List.nodup_range (n:=N)).imp (fun {a b} hab x hx y hy e=>?_)
   by_cases ha:(a:Int)∈l
   ·rw [if_pos ha] at hx; cases hx
   ·by_cases hb:(b:Int)∈l
    ·rw [if_pos hb] at hy; cases hy
    ·rw [if_neg ha] at hx
     rw [if_neg hb] at hy
     obtain ⟨t,e1,_⟩:=(EM d _ x).1 hx
     obtain ⟨u,e2,_⟩:=(EM d _ y).1 hy
     rw [e1,e2,List.append_assoc,List.append_assoc] at e
     have:=List.append_cancel_left e
     simp only [List.singleton_append,List.cons.injEq] at this
     exact hab (by omega)
theorem JK {N:Nat}:∀ (d:Nat) (l:List Int),(plD N d l).length≤N ^ d
 | 0,l=>by show [l].length≤_; simp
 | d+1,l=>by
  show ((List.range N).flatMap _).length≤_
  rw [List.length_flatMap]
  have h:∀ (ks:List Nat),((ks.map fun (k:Nat)=>(if (k:Int)∈l then [] else plD N d (l++[(k:Int)])).length)).sum≤ks.length*N ^ d:=fun ks=>by
   induction ks with
   | nil=>simp
   | cons k ks ih =>
    rw [List.map_cons,List.sum_cons,List.length_cons,Nat.add_mul,Nat.one_mul]
    have:(if (k:Int)∈l then [] else plD N d (l++[(k:Int)])).length≤N ^ d:=by
     by_cases hk:(k:Int)∈l
     ·rw [if_pos hk]; exact Nat.zero_le _
     ·rw [if_neg hk]; exact JK d _
    omega
  have:=h (List.range N)
  rw [List.length_range] at this
  rw [Nat.pow_succ,Nat.mul_comm]
  exact this
def BF {σ α:Type} (f:σ→α→Option σ):List α→σ→Option σ
 | [],s=>some s
 | x::r,s=>(f s x).bind (BF f r)
theorem Mi {σ α:Type} (f:σ→α→Option σ):∀ (a b:List α) (s:σ),BF f (a++b) s=(BF f a s).bind (BF f b)
 | [],b,s=>rfl
 | x::a,b,s=>by
  show (f s x).bind (BF f (a++b))=((f s x).bind (BF f a)).bind (BF f b)
  cases f s x with
  | none=>rfl
  | some t=>exact Mi f a b t
theorem M4 {σ α:Type} {f:σ→α→Option σ} {b:Nat→σ→Option σ} {L:Nat→List α}:∀ (k i:Nat) (s:σ),(∀ j s,i≤j→j<i+k→b j s=BF f (L j) s)→forN b k i s=BF f ((List.range' i k).flatMap L) s
 | 0,i,s,_=>rfl
 | k+1,i,s,h=>by
  rw [List.range'_succ,List.flatMap_cons,Mi]
  show (b i s).bind (fun s=>forN b k (i+1) s)=_
  rw [h i s (Nat.le_refl _) (by omega)]
  cases BF f (L i) s with
  | none=>rfl
  | some t=>exact M4 k (i+1) t (fun j s hj hk=>h j s (by omega) (by omega))
theorem Ty {σ α:Type} {f:σ→α→Option σ} {b:Nat→σ→Option σ} {L:Nat→List α} (k:Nat) (s:σ) (h:∀ j s,j<k→b j s=BF f (L j) s):forN b k 0 s=BF f ((List.range k).flatMap L) s:=by
 rw [M4 k 0 s (fun j s _ hk=>h j s (by omega)),List.range_eq_range']
theorem Oi {g:Ae} {c:Ad} {N:Nat} (hN:N≤8):∀ (d F:Nat) (l:List Int) (s:Am×Bool),d<F→l.length+d≤100→CZ g c (N:Int) ((l.length+d:Nat):Int) F l s=BF (fun s st=>Cq g c s st) (plD N d l) s
 | 0,F,l,s,hF,hl=>by
  obtain ⟨F',rfl⟩:∃ F',F=F'+1:=⟨F-1,by omega⟩
  unfold CZ Bv
  rw [Nat.add_zero,beq_self_eq_true]
  simp only [cond_true]
  rw [chk_t (by omega)]
  show Cq g c s l=(Cq g c s l).bind (BF _ [])
  cases Cq g c s l <;> rfl
 | d+1,F,l,s,hF,hl=>by
  obtain ⟨F',rfl⟩:∃ F',F=F'+1:=⟨F-1,by omega⟩
  unfold CZ
  rw [show (((l.length:Int))==((l.length+(d+1):Nat):Int))=false from by rw [beq_eq_false_iff_ne]; omega]
  simp only [cond_false]
  rw [chk_t (by omega),Int.toNat_natCast]
  refine Ty N s (fun j s1 hj=>?_)
  rw [Fi (by omega),Gn]
  simp only [Option.bind_some]
  by_cases hm:(j:Int)∈l
  ·rw [decide_eq_true hm,if_pos hm]; rfl
  ·rw [decide_eq_false hm,if_neg hm]
   simp only [Bool.not_false,cond_true]
   rw [chk_t (by omega)]
   have:=Oi (g:=g) (c:=c) hN d F' (l++[(j:Int)]) s1 (by omega) (by simp only [List.length_append,List.length_singleton]; omega)
   rw [show (l++[(j:Int)]).length+d=l.length+(d+1) by simp only [List.length_append,List.length_singleton]; omega] at this
   exact this
theorem Vd {x:List Int} {N:Nat} (hN:N≤8) (hx:x.length≤100) (next:List (List Int)) (hn:next.length≤100000):forN (DN x) N 0 next=some (next++(List.range N).flatMap fun (k:Nat)=>if (k:Int)∈x then [] else [x++[(k:Int)]]):=by
 have key:∀ (k i:Nat) (nx:List (List Int)),i+k≤8→nx.length≤100000+i→forN (DN x) k i nx=some (nx++(List.range' i k).flatMap fun (k:Nat)=>if (k:Int)∈x then [] else [x++[(k:Int)]]):=fun k=>by
  induction k with
  | zero=>intro i nx _ _; show some nx=_; simp
  | succ k ih =>
   intro i nx hk hn
   rw [List.range'_succ,List.flatMap_cons]
   have e:DN x i nx=some (nx++if (i:Int)∈x then [] else [x++[(i:Int)]]):=by
    unfold DN BJ
    rw [Ht (by omega),Gn]
    simp only [Option.bind_some]
    by_cases hm:(i:Int)∈x
    ·rw [decide_eq_true hm,if_pos hm]
     simp only [Bool.not_true,cond_false,Option.bind_some,List.append_nil]
    ·rw [decide_eq_false hm,if_neg hm]
     simp only [Bool.not_false,cond_true]
     rw [chk_t (by omega)]
     simp only [Option.bind_some]
     rw [chk_t (by omega),chk_t (by omega)]
     rfl
   show (DN x i nx).bind _=_
   rw [e]
   refine Eq.trans (ih (i+1) _ (by omega) (by
    rw [List.length_append]
    have:(if (i:Int)∈x then ([]:List (List Int)) else [x++[(i:Int)]]).length≤1:=by split <;> simp
    omega)) ?_
   rw [List.append_assoc]
 have:=key N 0 next (by omega) (by omega)
 rw [this,List.range_eq_range']

def BH (N:Nat) (x:List Int):List (List Int):=(List.range N).flatMap fun (k:Nat)=>if (k:Int)∈x then [] else [x++[(k:Int)]]
theorem No (N d:Nat) (x:List Int):plD N (d+1) x=(BH N x).flatMap (plD N d):=by
 unfold BH
 rw [List.flatMap_assoc]
 show (List.range N).flatMap _=_
 refine congrArg (fun f=>(List.range N).flatMap f) (funext fun k=>?_)
 by_cases hk:(k:Int)∈x
 ·rw [if_pos hk,if_pos hk]; rfl
 ·rw [if_neg hk,if_neg hk]; simp
theorem NT (N:Nat) (x:List Int):(BH N x).length≤N:=by
 have:=JK (N:=N) 1 x
 rw [No,Nat.pow_one] at this
 have e:(BH N x).flatMap (plD N 0)=BH N x:=by
  show (BH N x).flatMap (fun y=>[y])=_
  simp
 rwa [e] at this
theorem SV {g:Ae} {N:Nat} (hN:N≤8) (hg:g.Nodes=(N:Int)) {out:List (List Int)} (ho:out.length≤10000) (hx:∀ x∈out,x.length≤100):forN (FY out g) out.length 0 []=some (out.flatMap (BH N)):=by
 obtain ⟨s',h1,h2⟩:=forN_inv (f:=FY out g) (fun i s=>s=(out.take i).flatMap (BH N)∧s.length≤8*i) out.length 0 [] ⟨rfl,Nat.le_refl _⟩ (fun i s _ hi ⟨h,hl⟩=>by
  have hxi:=List.getElem?_eq_getElem (show i<out.length by omega)
  generalize out[i]=x at hxi
  have hxm:=hx x (List.mem_of_getElem? hxi)
  refine ⟨s++BH N x,?_,?_,?_⟩
  ·unfold FY
   rw [getI_nat,hxi]
   simp only [Option.bind_some]
   rw [hg,Int.toNat_natCast,chk_t (by omega),Vd hN hxm s (by omega)]
   rfl
  ·rw [List.take_add_one,hxi,List.flatMap_append,h]
   simp
  ·rw [List.length_append]
   have:=NT N x
   omega)
 rw [h1,h2.1,Nat.zero_add,List.take_length]
theorem Vq {g:Ae} {N:Nat} (hN:N≤5) (hg:g.Nodes=(N:Int)) {q:Nat} (hq:q≤5):EG g (q:Int)=some (plD N q []):=by
 have key:∀ (d:Nat) (F:Nat) (out:List (List Int)),d<F→d≤5→out.length≤5 ^ (5-d)→(∀ x∈out,x.length+d≤50)→whX (E7 g) F ((d:Int),out)=some (.inl (0,out.flatMap (plD N d))):=fun d=>by
  induction d with
  | zero =>
   intro F out hF _ _ _
   obtain ⟨F',rfl⟩:∃ F',F=F'+1:=⟨F-1,by omega⟩
   simp only [whX]
   unfold E7
   simp only
   rw [decide_eq_false (by omega)]
   show some (Sum.inl ((0:Int),out))=some (Sum.inl ((0:Int),out.flatMap (fun y=>[y])))
   simp
  | succ d ih =>
   intro F out hF hd ho hx
   obtain ⟨F',rfl⟩:∃ F',F=F'+1:=⟨F-1,by omega⟩
   have h5:5 ^ (5-(d+1))*5=5 ^ (5-d):=by rw [← Nat.pow_succ]; congr 1; omega
   have h6:5 ^ (5-d)≤5 ^ 5:=Nat.pow_le_pow_right (by decide) (by omega)
   have h7:5 ^ 5=3125:=by decide
   have hlen:(out.flatMap (BH N)).length≤out.length*5:=by
    rw [List.length_flatMap]
    have:∀ (l:List (List Int)),(l.map fun x=>(BH N x).length).sum≤l.length*5:=fun l=>by
     induction l with
     | nil=>simp
     | cons y l ih =>
      rw [List.map_cons,List.sum_cons,List.length_cons,Nat.add_mul,Nat.one_mul]
      have:=NT N y
      omega
    exact this out
   have hm:out.length*5≤5 ^ (5-(d+1))*5:=Nat.mul_le_mul_right 5 ho
   have e:E7 g (((d+1:Nat):Int),out)=some (.nx ((d:Int),out.flatMap (BH N))):=by
    unfold E7
    simp only
    rw [decide_eq_true (by omega)]
    simp only [cond_true]
    rw [chk_t (by omega),SV (by omega) hg (by omega) (fun x hx'=>by have:=hx x hx'; omega)]
    simp only [Option.bind_some]
    rw [wr (by omega),show ((d+1:Nat):Int)-1=(d:Int) by omega]
   simp only [whX]
   rw [e]
   refine Eq.trans (ih F' (out.flatMap (BH N)) (by omega) (by omega) (by omega) (fun x hx'=>?_)) ?_
   ·obtain ⟨y,hy,hxy⟩:=List.mem_flatMap.1 hx'
    have hyl:=hx y hy
    unfold BH at hxy
    obtain ⟨k,_,hk⟩:=List.mem_flatMap.1 hxy
    by_cases hky:(k:Int)∈y
    ·rw [if_pos hky] at hk; cases hk
    ·rw [if_neg hky,List.mem_singleton] at hk
     rw [hk,List.length_append,List.length_singleton]
     omega
   ·rw [List.flatMap_assoc,show plD N (d+1)=fun x=>(BH N x).flatMap (plD N d) from funext fun x=>No N d x]
 unfold EG
 rw [key q fuel [[]] (by have:q<fuel:=Ba (by omega); omega) (by omega) (Nat.pow_pos (by decide)) (fun x hx=>by rw [List.mem_singleton.1 hx]; simp; omega)]
 simp only [Option.bind_some,orR,List.flatMap_cons,List.flatMap_nil,List.append_nil]
theorem Qd {g:Ae} {c:Ad} {st:List Int} (hi:Ay g c (st,List.replicate c.Gates.length false)):∀ (l:List Nat),(goC g c st l.reverse).2.1.length=c.Gates.length∧swN (goC g c st l.reverse).2.2=l.length
 | []=>by
  have h:=CT (E:=g.Edges) (c:=c) st hi.dn
  exact ⟨h.1,Jt h.2.2.2.2⟩
 | j::l=>by
  obtain ⟨h1,h2⟩:=Qd hi l
  rw [List.reverse_cons,Fk]
  have h:=fun p=>CT (E:=g.Edges) (c:=c) p (dn:=(goC g c st l.reverse).2.1) h1
  unfold goS
  refine ⟨(h _).1,?_⟩
  simp only
  rw [MW,IK,h2,Jt (h _).2.2.2.2,List.length_cons]
  rfl
theorem Fa {g:Ae} {c:Ad} {st:List Int} (hi:Ay g c (st,List.replicate c.Gates.length false)) (es:List Nat):swN (goC g c st es).2.2=es.length:=by
 have:=(Qd hi es.reverse).2
 rwa [List.reverse_reverse,List.length_reverse] at this

theorem MU {g:Ae} {c:Ad} (hn:1≤g.Nodes∧g.Nodes≤8) {p:List Int} (hi:Ay g c (p,List.replicate c.Gates.length false)) (hp:p.length≤1048576):CI g c.Qubits p=some true:=by
 unfold CI
 rw [chk_t (by omega),forX_pass (f:=H5 p g) (n:=p.length) (s:=()) (fun i hx=>by
  have hxi:=List.getElem?_eq_getElem hx
  have hmem:=hi.pl.1 p[i] (List.getElem_mem hx)
  have hnot:p[i]∉p.take i:=fun h=>by
   obtain ⟨j,hj,e⟩:=List.mem_iff_getElem.1 h
   have hj2:j<i:=Nat.lt_of_lt_of_le (by rw [List.length_take] at hj; exact hj) (Nat.min_le_left _ _)
   rw [List.getElem_take] at e
   have:=List.pairwise_iff_getElem.1 hi.pl.2 j i (show j<p.length by omega) hx hj2
   exact this e
  generalize p[i]=x at hxi hmem hnot
  unfold H5 A2
  simp only [getI_nat,hxi,Option.bind_some]
  rw [wr (a:=g.Nodes-1) (by omega),decide_eq_true hmem.1,decide_eq_true (show x≤g.Nodes-1 by omega)]
  simp only [Bool.and_self,Bool.not_true,Bool.not_false,cond_true]
  rw [chk_t ⟨by omega,by omega⟩,Fi (by rw [List.length_take]; omega),Gn,decide_eq_false hnot]
  rfl)]
 have:=hi.len
 simp only at this
 simp only [Option.bind_some,orR]
 rw [this,beq_self_eq_true]
theorem LM {g:Ae} {c:Ad} (hm:SmK g c) (hcs:BG g c=some true) {st:List Int} (hi:Ay g c (st,List.replicate c.Gates.length false)):∃ r ok,Dq g c st=some (r,ok)∧Iy g c [st] r ok:=by
 obtain ⟨r,ok,_,h2,h3⟩:=NG hm (starts:=[st]) (fun s hs=>by rw [List.mem_singleton.1 hs]; exact hi) (by simp) (by simp)
 obtain ⟨dn,dl,e1,e2⟩:=h3 st rfl
 have pl:=Cr hm.ok hi
 have hgl:=hm.gates
 have hdl:dn.length=c.Gates.length:=by
  have:=(CT (E:=g.Edges) (c:=c) st hi.dn).1
  rw [e1] at this; exact this
 refine ⟨r,ok,?_,h2⟩
 unfold Dq
 rw [hcs]
 simp only [Option.bind_some,gb,Bool.not_true,Bool.not_false,cond_true]
 rw [MU hm.ok.nodes hi (by omega)]
 simp only [Option.bind_some,Bool.not_true,Bool.or_self,cond_false]
 unfold Cs Bv
 rw [chk_t (by omega)]
 simp only [Option.bind_some]
 rw [chk_t (by omega)]
 simp only [Option.bind_some]
 rw [L1 hm.ok hi (by simp),e1]
 simp only [Option.bind_some,List.nil_append]
 rw [P7 (by omega)]
 simp only [Option.bind_some]
 exact e2
/-- What the fold over the placements knows. -/
def Gd (g:Ae) (c:Ad) (starts:List (List Int)) (i:Nat) (s:Am×Bool):Prop :=
 (s.2=false→s.1=Am.mk [] []∧∀ rt es st,rt<i→starts[rt]?=some st→(∀ j∈es,j<g.Edges.length)→Ar (goC g c st es).2.1≠0) ∧
 (s.2=true→∃ rt es st,rt<i∧starts[rt]?=some st∧(∀ j∈es,j<g.Edges.length)∧Ar (goC g c st es).2.1=0∧s.1=Am.mk st (goC g c st es).2.2∧s.1.Steps.length≤900000000∧∀ rt' es' st',rt'<i→starts[rt']?=some st'→(∀ j∈es',j<g.Edges.length)→Ar (goC g c st' es').2.1=0→leC (rt::es) (rt'::es'))
theorem Uq {a b:Nat} {x y:List Nat} (h:leC (a::x) (a::y)):leC (b::x) (b::y):=by
 rcases h with (h | ⟨h,h'⟩) | h
 ·exact .inl (.inl h)
 ·rcases h' with h' | ⟨_,h'⟩
  ·exact absurd h' (Nat.lt_irrefl _)
  ·exact .inl (.inr ⟨h,.inr ⟨rfl,h'⟩⟩)
 ·rw [(List.cons.inj h).2]; exact IJ _
theorem PN {a b:Nat} {x y:List Nat} (h:x.length<y.length):leC (a::x) (b::y):=.inl (.inl (by simp only [List.length_cons]; omega))
theorem Sa {a b:Nat} {x y:List Nat} (h:a<b) (hl:x.length≤y.length):leC (a::x) (b::y):=by
 by_cases e:x.length=y.length
 ·exact .inl (.inr ⟨by simp only [List.length_cons]; omega,.inl h⟩)
 ·exact PN (by omega)
theorem KS {r:Am} (h:r.Steps.length≤1000000000):CJ r=some ((swN r.Steps:Nat):Int):=by
 unfold CJ
 rw [chk_t (by omega)]
 obtain ⟨z,h1,h2⟩:=forN_inv (f:=G5 r) (fun i z=>z=((swN (r.Steps.take i):Nat):Int)) r.Steps.length 0 0 rfl (fun i z _ hi hz=>by
  have hx:=List.getElem?_eq_getElem (show i<r.Steps.length by omega)
  generalize r.Steps[i]=x at hx
  have h3:=JO (r.Steps.take i)
  rw [List.length_take] at h3
  refine ⟨_,?_,rfl⟩
  unfold G5 BN
  rw [getI_nat,hx,hz,List.take_add_one,hx,Option.toList_some,IK]
  simp only [Option.bind_some]
  cases (x.Gate==-1)
  ·simp only [cond_false,Option.bind_some,Nat.add_zero]
   rw [wr (by omega)]
   exact congrArg some (Int.add_zero _)
  ·simp only [cond_true,Option.bind_some]
   rw [wr (by omega)]
   rfl)
 rw [h1,h2,Nat.zero_add,List.take_length]
 rfl
theorem Sb {g:Ae} {c:Ad} (hm:SmK g c) (hcs:BG g c=some true) {starts:List (List Int)} (hst:∀ s∈starts,Ay g c (s,List.replicate c.Gates.length false)) {i:Nat} {st:List Int} (hi:starts[i]?=some st) {s:Am×Bool} (h:Gd g c starts i s):∃ s',Cq g c s st=some s'∧Gd g c starts (i+1) s':=by
 have hI:=hst st (List.mem_of_getElem? hi)
 obtain ⟨r,ok,e1,l1,l2⟩:=LM hm hcs hI
 obtain ⟨best,found⟩:=s
 have hss:∀ (rt:Nat) (st':List Int),rt<i+1→starts[rt]?=some st'→¬ rt<i→rt=i∧st'=st:=fun rt st' h1 h2 h3=>by
  have e:rt=i:=by omega
  subst e
  rw [hi] at h2
  exact ⟨rfl,(Option.some.inj h2).symm⟩
 have stay:(∀ es,(∀ j∈es,j<g.Edges.length)→Ar (goC g c st es).2.1=0→found=true∧∀ rt' es' st',rt'<i→starts[rt']?=some st'→best=Am.mk st' (goC g c st' es').2.2→es'.length≤es.length)→Gd g c starts (i+1) (best,found):=fun hc=>by
  refine ⟨fun hf=>?_,fun hf=>?_⟩
  ·obtain ⟨f1,f2⟩:=h.1 hf
   refine ⟨f1,fun rt es st' hrt hs' hes hz=>?_⟩
   by_cases hlt:rt<i
   ·exact f2 rt es st' hlt hs' hes hz
   ·obtain ⟨rfl,rfl⟩:=hss rt st' hrt hs' hlt
    have:=(hc es hes hz).1
    simp only at hf
    rw [hf] at this
    cases this
  ·obtain ⟨rt,es,st1,f1,f2,f3,f4,f5,f6,f7⟩:=h.2 hf
   refine ⟨rt,es,st1,by omega,f2,f3,f4,f5,f6,fun rt' es' st' hrt hs' hes hz=>?_⟩
   by_cases hlt:rt'<i
   ·exact f7 rt' es' st' hlt hs' hes hz
   ·obtain ⟨rfl,rfl⟩:=hss rt' st' hrt hs' hlt
    exact Sa f1 ((hc es' hes hz).2 rt es st1 f1 f2 f5)
 unfold Cq
 rw [e1]
 simp only [Option.bind_some]
 cases ok with
 | false =>
  obtain ⟨_,n2⟩:=l1 rfl
  refine ⟨(best,found),rfl,stay (fun es hes hz=>absurd ⟨0,es,st,rfl,rfl,hes,hz⟩ (n2 (0::es)))⟩
 | true =>
  obtain ⟨rt0,es0,st0,k1,k2,k3,k4,k5,k6,k7⟩:=l2 rfl
  have hrt0:rt0=0:=by
   cases rt0 with
   | zero=>rfl
   | succ n=>cases k1
  subst hrt0
  have hst0:st0=st:=(Option.some.inj k1).symm
  subst hst0
  have hz0:Ar (goC g c st0 es0).2.1=0:=by
   obtain ⟨a,b,d,e1,e2,e3,e4⟩:=k2
   obtain ⟨e5,e6⟩:=List.cons.inj e1
   rw [← e5] at e2
   rw [← e6] at e4
   have:d=st0:=(Option.some.inj e2).symm
   rw [← this]; exact e4
  have hsw0:swN r.Steps=es0.length:=by rw [k4]; exact Fa hI es0
  have hrl:r.Steps.length≤900000000:=by rw [k4]; exact k7
  have fresh:(∀ rt' es' st',rt'<i→starts[rt']?=some st'→(∀ j∈es',j<g.Edges.length)→Ar (goC g c st' es').2.1=0→es0.length<es'.length)→Gd g c starts (i+1) (r,true):=fun hc=>by
   refine ⟨fun hf=>(by cases hf),fun _=>⟨i,es0,st0,by omega,hi,k3,hz0,k4,hrl,fun rt' es' st' hrt hs' hes hz=>?_⟩⟩
   by_cases hlt:rt'<i
   ·exact PN (hc rt' es' st' hlt hs' hes hz)
   ·obtain ⟨rfl,rfl⟩:=hss rt' st' hrt hs' hlt
    exact Uq (k5 _ ⟨0,es',st',rfl,rfl,hes,hz⟩)
  cases found with
  | false =>
   obtain ⟨_,n2⟩:=h.1 rfl
   refine ⟨(r,true),rfl,fresh (fun rt' es' st' h1 h2 h3 h4=>absurd h4 (n2 rt' es' st' h1 h2 h3))⟩
  | true =>
   obtain ⟨rt,es,st1,f1,f2,f3,f4,f5,f6,f7⟩:=h.2 rfl
   simp only at f5 f6
   have hsw1:swN best.Steps=es.length:=by rw [f5]; exact Fa (hst st1 (List.mem_of_getElem? f2)) es
   simp only [Bool.not_true,Bool.not_false,Bool.and_self,gb,cond_true]
   rw [KS (by omega),KS (by omega),hsw0,hsw1]
   simp only [Option.bind_some,Bool.false_or,Bool.true_and]
   by_cases hlt:es0.length<es.length
   ·rw [decide_eq_true (by omega)]
    refine ⟨(r,true),rfl,fresh (fun rt' es' st' h1 h2 h3 h4=>?_)⟩
    have:=If (f7 rt' es' st' h1 h2 h3 h4)
    simp only [List.length_cons] at this
    omega
   ·rw [decide_eq_false (by omega)]
    refine ⟨(best,true),rfl,stay (fun es2 hes hz=>⟨rfl,fun rt' es' st' h1 h2 h3=>?_⟩)⟩
    have hl:=If (k5 _ ⟨0,es2,st0,rfl,rfl,hes,hz⟩)
    simp only [List.length_cons] at hl
    have:swN best.Steps=es'.length:=by rw [h3]; exact Fa (hst st' (List.mem_of_getElem? h2)) es'
    omega
theorem PF {g:Ae} {c:Ad} (hm:SmK g c) (hcs:BG g c=some true) {starts:List (List Int)} (hst:∀ s∈starts,Ay g c (s,List.replicate c.Gates.length false)):∀ (k i:Nat) (s:Am×Bool),i+k=starts.length→Gd g c starts i s→∃ s',BF (fun s st=>Cq g c s st) (starts.drop i) s=some s'∧Gd g c starts starts.length s'
 | 0,i,s,hk,h=>by
  have e:i=starts.length:=by omega
  rw [e,List.drop_length]
  exact ⟨s,rfl,by rw [← e]; exact h⟩
 | k+1,i,s,hk,h=>by
  have hlt:i<starts.length:=by omega
  obtain ⟨s',e1,e2⟩:=Sb hm hcs hst (List.getElem?_eq_getElem hlt) h
  obtain ⟨s2,e3,e4⟩:=PF hm hcs hst k (i+1) s' (by omega) e2
  refine ⟨s2,?_,e4⟩
  rw [List.drop_eq_getElem_cons hlt]
  show (Cq g c s starts[i]).bind _=_
  rw [e1]
  exact e3
/-- What is known of a best route. -/
structure Ko (g:Ae) (c:Ad) (r:Am):Prop where
 sm:SmK g c
 can:BG g c=some true
 qn:c.Qubits≤g.Nodes
 inv:Ay g c (r.Start,List.replicate c.Gates.length false)
 way:∃ es,(∀ j∈es,j<g.Edges.length)∧Ar (goC g c r.Start es).2.1=0∧r.Steps=(goC g c r.Start es).2.2∧∀ st' es',Ay g c (st',List.replicate c.Gates.length false)→(∀ j∈es',j<g.Edges.length)→Ar (goC g c st' es').2.1=0→es.length≤es'.length
 nd:∃ p dn,NdK g c r.Start p dn r.Steps∧Ar dn=0
 len:r.Steps.length≤900000000
theorem TF (g:Ae) (c:Ad) (h1:g.Edges.length≤1048576) (h2:c.Gates.length≤1048576):∃ r ok,Ee g c=some (r,ok)∧Eh g c=some (r,ok)∧(ok=false→r=Am.mk [] [])∧(ok=true→Ko g c r):=by
 obtain ⟨v,s1,s2,s3⟩:=US g c h1 h2
 unfold Ee Eh
 rw [s1,s2]
 simp only [Option.bind_some]
 cases v with
 | false=>exact ⟨Am.mk [] [],false,rfl,rfl,fun _=>rfl,fun h=>by cases h⟩
 | true =>
  obtain ⟨hm,hq⟩:=s3 rfl
  have hn:=hm.ok.nodes
  have hqs:=hm.ok.qs
  have hno:=hm.nodes
  obtain ⟨N,hN⟩:∃ N:Nat,g.Nodes=(N:Int):=⟨g.Nodes.toNat,by omega⟩
  obtain ⟨q,hQ⟩:∃ q:Nat,c.Qubits=(q:Int):=⟨c.Qubits.toNat,by omega⟩
  have hst:∀ s∈plD N q [],Ay g c (s,List.replicate c.Gates.length false):=fun s hs=>by
   obtain ⟨t,e,t1,t2,t3,_⟩:=(EM q [] s).1 hs
   rw [List.nil_append] at e
   subst e
   exact ⟨by rw [hQ]; exact congrArg Int.ofNat t1,by simp,by rw [hN]; exact ⟨t2,t3⟩⟩
  have hin:∀ st,Ay g c (st,List.replicate c.Gates.length false)→st∈plD N q []:=fun st hi=>by
   have a:=hi.len
   have b:=hi.pl
   simp only at a b
   rw [hN] at b
   exact (EM q [] st).2 ⟨st,rfl,by omega,b.1,b.2,fun y _ h=>by cases h⟩
  have hlen:=JK (N:=N) q []
  have hp1:N ^ q≤5 ^ q:=Nat.pow_le_pow_left (by omega) q
  have hp2:5 ^ q≤5 ^ 5:=Nat.pow_le_pow_right (by decide) (by omega)
  have hp3:5 ^ 5=3125:=by decide
  obtain ⟨r,ok,e1,e2,_⟩:=NG hm hst (Of q []) (by omega)
  have hsp:EG g c.Qubits=some (plD N q []):=by rw [hQ]; exact Vq (by omega) hN (by omega)
  have hfold:=Oi (g:=g) (c:=c) (N:=N) (by omega) q fuel [] ((Am.mk [] []),false) (by have:q<fuel:=Ba (by omega); omega) (by simp; omega)
  rw [List.length_nil,Nat.zero_add,← hN,← hQ] at hfold
  obtain ⟨s',f1,f2,f3⟩:=PF hm s2 hst (plD N q []).length 0 ((Am.mk [] []),false) (by omega) ⟨fun _=>⟨rfl,fun rt es st h=>absurd h (Nat.not_lt_zero _)⟩,fun h=>by cases h⟩
  rw [List.drop_zero] at f1
  have hsame:s'=(r,ok):=by
   obtain ⟨best,found⟩:=s'
   cases ok with
   | false =>
    obtain ⟨n1,n2⟩:=e2.1 rfl
    cases found with
    | false=>rw [n1,show best=Am.mk [] [] from (f2 rfl).1]
    | true =>
     obtain ⟨rt,es,st,g1,g2,g3,g4,_⟩:=f3 rfl
     exact absurd ⟨rt,es,st,rfl,g2,g3,g4⟩ (n2 (rt::es))
   | true =>
    obtain ⟨rt0,es0,st0,k1,k2,k3,k4,k5,k6⟩:=e2.2 rfl
    have hz0:Ar (goC g c st0 es0).2.1=0:=by
     obtain ⟨a,b,d,e1,e2,e3,e4⟩:=k2
     obtain ⟨e5,e6⟩:=List.cons.inj e1
     rw [← e5,k1] at e2
     rw [← e6,← Option.some.inj e2] at e4
     exact e4
    have hlt:=(List.getElem?_eq_some_iff.1 k1).1
    cases found with
    | false=>exact absurd hz0 ((f2 rfl).2 rt0 es0 st0 hlt k1 k3)
    | true =>
     obtain ⟨rt,es,st,g1,g2,g3,g4,g5,g6,g7⟩:=f3 rfl
     have c1:=g7 rt0 es0 st0 hlt k1 k3 hz0
     have c2:=k5 (rt::es) ⟨rt,es,st,rfl,g2,g3,g4⟩
     obtain ⟨e5,e6⟩:=List.cons.inj (TM c1 c2)
     rw [← e5,g2] at k1
     have e7:=Option.some.inj k1
     simp only at g5
     rw [g5,k4,e6,e7]
  refine ⟨r,ok,?_,?_,fun h=>(e2.1 h).1,fun h=>?_⟩
  ·simp only [Bool.not_true,cond_false]
   rw [hsp]
   simp only [Option.bind_some]
   rw [e1]
   rfl
  ·simp only [Bool.not_true,cond_false]
   rw [hfold,f1,hsame]
  ·obtain ⟨rt0,es0,st0,k1,k2,k3,k4,k5,k6,k7⟩:=e2.2 h
   have hz0:Ar (goC g c st0 es0).2.1=0:=by
    obtain ⟨a,b,d,e1,e2,e3,e4⟩:=k2
    obtain ⟨e5,e6⟩:=List.cons.inj e1
    rw [← e5,k1] at e2
    rw [← e6,← Option.some.inj e2] at e4
    exact e4
   have hi0:=hst st0 (List.mem_of_getElem? k1)
   refine ⟨hm,s2,hq,by rw [k4]; exact hi0,⟨es0,k3,by rw [k4]; exact hz0,by rw [k4],fun st' es' hi' he hz=>?_⟩,⟨_,_,by rw [k4]; exact k6,hz0⟩,by rw [k4]; exact k7⟩
   obtain ⟨a,ha⟩:=List.mem_iff_getElem?.1 (hin st' hi')
   have hl:=If (k5 _ ⟨a,es',st',rfl,ha,he,hz⟩)
   simp only [List.length_cons] at hl
   omega

def rSq (x:Aa):Int:=x.A*x.A+x.B*x.B+x.C*x.C+x.D*x.D
theorem TC (x:Aa):rSq (At x)=2*rSq x:=by
 unfold rSq At; grind
theorem Nw:∀ (k:Nat) (x:Aa),rSq (rIt k x)=2 ^ k*rSq x
 | 0,x=>by show rSq x=_; rw [Int.pow_zero,Int.one_mul]
 | k+1,x=>by
  show rSq (rIt k (At x))=_
  rw [Nw k,TC,Int.pow_succ,Int.mul_assoc]
theorem Sc {x:Aa} {N M:Int} (hM:0≤M) (h:rSq x≤N) (hN:N<M*M):(-M≤x.A∧x.A≤M)∧(-M≤x.B∧x.B≤M)∧(-M≤x.C∧x.C≤M)∧(-M≤x.D∧x.D≤M):=by
 unfold rSq at h
 have h1:=AL x.A
 have h2:=AL x.B
 have h3:=AL x.C
 have h4:=AL x.D
 exact ⟨GE hM (by omega) hN,GE hM (by omega) hN,GE hM (by omega) hN,GE hM (by omega) hN⟩
theorem VT {x:Aa} (h:rSq x=0):x=An:=by
 obtain ⟨h1,h2,h3,h4⟩:=Sc (M:=1) (N:=0) (by decide) (Int.le_of_eq h) (by decide)
 unfold rSq at h
 have a1:=AL x.A
 have a2:=AL x.B
 have a3:=AL x.C
 have a4:=AL x.D
 have z:∀ {a:Int},a*a=0→a=0:=fun h=>(Int.mul_eq_zero.1 h).elim id id
 obtain ⟨A,B,C,D⟩:=x
 simp only at *
 unfold An
 rw [z (show A*A=0 by omega),z (show B*B=0 by omega),z (show C*C=0 by omega),z (show D*D=0 by omega)]
theorem TG {x y:Ab} (hx:dOk x=true) (hy:dOk y=true) (he:x.Exp+y.Exp≤60) (hr:rOk (AU x.Num y.Num)=true) :
  ∃ z,DM x y=some z∧dOk z=true∧z.Exp≤x.Exp+y.Exp∧AR (AU x.Num y.Num) (x.Exp+y.Exp)=some (z,true)∧vOf z=rIt (60-(x.Exp+y.Exp)).toNat (AU x.Num y.Num):=by
 obtain ⟨x1,x2,x3⟩:=AE hx
 obtain ⟨y1,y2,y3⟩:=AE hy
 have hw:IntKind.i64.wrap (x.Exp+y.Exp)=x.Exp+y.Exp:=wr (by omega)
 have hi:Bf x y=(AR (AU x.Num y.Num) (x.Exp+y.Exp)).bind fun p=>some (p.1,p.2):=by
  unfold Bf
  rw [Em x1 y1,hr]
  simp only [if_true,Option.bind_some,D0,hx,hy,gb,Bool.not_true,Bool.not_false,cond_true,Bool.false_or,hw,cond_false,Bool.or_self]
 obtain ⟨z,_,z2,z3⟩:=CR hr (e:=x.Exp+y.Exp) ⟨by omega,he⟩
 have hz:DM x y=some z:=by unfold DM; rw [hi,z2]; rfl
 exact ⟨z,hz,z3,(Gv hr ⟨by omega,he⟩ z2).2.1,z2,(Mt hx hy hz).2⟩
theorem MJ {y:Aa}:AU An y=An:=by
 unfold AU I5 An
 simp only [Option.getD_some,Int.zero_mul]
 decide
theorem M2:∀ k,rIt k An=An
 | 0=>rfl
 | k+1=>by show rIt k (At An)=_; rw [OG,M2 k]
theorem Rb {z:Ab} (hz:dOk z=true) (h:vOf z=An):z=Aj:=by
 have h1:rSq z.Num=0:=by
  have:=Nw (60-z.Exp).toNat z.Num
  rw [show rIt (60-z.Exp).toNat z.Num=An from h,show rSq An=0 from rfl] at this
  have p:(0:Int)<2 ^ (60-z.Exp).toNat:=Int.pow_pos (by decide)
  rcases Int.mul_eq_zero.1 this.symm with h | h
  ·omega
  ·exact h
 have h2:=VT h1
 obtain ⟨n,e⟩:=z
 simp only at h2
 subst h2
 unfold dOk at hz
 simp only [Bool.and_eq_true,Bool.or_eq_true,beq_iff_eq] at hz
 rcases hz.2 with h | h
 ·rw [show e=0 from h]; rfl
 ·exact absurd h (by decide)
theorem Lr {y:Ab} (hy:dOk y=true):DM Aj y=some Aj:=by
 obtain ⟨y1,y2,y3⟩:=AE hy
 obtain ⟨z,h1,h2,_,_,h5⟩:=TG BC hy (by show 0+y.Exp≤60; omega) (by show rOk (AU An y.Num)=true; rw [MJ]; rfl)
 rw [show Aj.Num=An from rfl,MJ,M2] at h5
 rw [h1,Rb h2 h5]
theorem Oj {x:Ab} (h:dOk x=true):DA x Aj=some x:=by
 obtain ⟨h1,h2,h3⟩:=AE h
 have hr:=h1
 rw [By] at hr
 have e:AP x.Num An=x.Num:=by
  unfold AP Im An
  simp only [Int.add_zero,Option.getD_some]
  rw [wr (a:=x.Num.A) (by omega),wr (a:=x.Num.B) (by omega),wr (a:=x.Num.C) (by omega),wr (a:=x.Num.D) (by omega)]
 have hE:(if x.Exp<Aj.Exp then Aj.Exp else x.Exp)=x.Exp:=by
  show (if x.Exp<(0:Int) then 0 else x.Exp)=x.Exp
  split <;> omega
 have hst:BE x x.Exp=some (x.Num,true):=by
  refine C3 (e:=x.Exp) ?_
  have:=DB (E:=x.Exp) h1 h2 h3 true
  simp only [Int.lt_irrefl,decide_false,Bool.false_and,cond_false] at this
  rw [show fuel=(fuel-1)+1 from rfl]; simp only [whX,this,Option.bind_some]
 have hz:BE Aj x.Exp=some (An,true):=C3 (x:=Aj) (JB h3 fuel 0 (by omega) h2 (Ba (by omega)))
 have hc:=ER h BC hE hst hz h1 BU
 rw [e,h1] at hc
 simp only [Bool.and_self,cond_true,KE h] at hc
 unfold DA
 rw [hc]; rfl

def As (x y:Aa):Aa:=Aa.mk (x.A*y.A-x.B*y.D-x.C*y.C-x.D*y.B) (x.A*y.B+x.B*y.A-x.C*y.D-x.D*y.C) (x.A*y.C+x.B*y.B+x.C*y.A-x.D*y.D) (x.A*y.D+x.B*y.C+x.C*y.B+x.D*y.A)
theorem BB {a b:Int} (h1 : -1000000000≤a∧a≤1000000000) (h3 : -1000000000≤b∧b≤1000000000) : -1000000000000000000≤a*b∧a*b≤1000000000000000000:=by
 have e2:=Int.mul_nonneg (show 0≤a+1000000000 by omega) (show 0≤b+1000000000 by omega)
 have e3:=Int.mul_nonneg (show 0≤a+1000000000 by omega) (show 0≤1000000000-b by omega)
 have e4:=Int.mul_nonneg (show 0≤1000000000-a by omega) (show 0≤b+1000000000 by omega)
 have e5:=Int.mul_nonneg (show 0≤1000000000-a by omega) (show 0≤1000000000-b by omega)
 simp only [Int.add_mul,Int.mul_add,Int.sub_mul,Int.mul_sub] at e2 e3 e4 e5
 omega
theorem N3 {x y:Aa} (hx:rOk x=true) (hy:rOk y=true):AU x y=As x y:=by
 rw [By] at hx hy
 obtain ⟨⟨a,b⟩,c,d⟩:=hx
 obtain ⟨⟨a',b'⟩,c',d'⟩:=hy
 have p1:=BB a a'; have p2:=BB a b'; have p3:=BB a c'; have p4:=BB a d'
 have q1:=BB b a'; have q2:=BB b b'; have q3:=BB b c'; have q4:=BB b d'
 have r1:=BB c a'; have r2:=BB c b'; have r3:=BB c c'; have r4:=BB c d'
 have s1:=BB d a'; have s2:=BB d b'; have s3:=BB d c'; have s4:=BB d d'
 clear a b c d a' b' c' d'
 unfold As
 show Aa.mk _ _ _ _=_
 generalize x.A*y.A=P1 at *; generalize x.A*y.B=P2 at *; generalize x.A*y.C=P3 at *; generalize x.A*y.D=P4 at *
 generalize x.B*y.A=Q1 at *; generalize x.B*y.B=Q2 at *; generalize x.B*y.C=Q3 at *; generalize x.B*y.D=Q4 at *
 generalize x.C*y.A=R1 at *; generalize x.C*y.B=R2 at *; generalize x.C*y.C=R3 at *; generalize x.C*y.D=R4 at *
 generalize x.D*y.A=S1 at *; generalize x.D*y.B=S2 at *; generalize x.D*y.C=S3 at *; generalize x.D*y.D=S4 at *
 simp (disch:=omega) only [wr]
end Go.VK
