/- The plain law of FnRoutes: what its Lean function answers, for all arguments. -/
import Derived.Test.YteafjgodcdlanaaLRoutesFn
import Derived.Test.YteafjgodcdlanaaLibI
set_option maxRecDepth 10000
set_option maxHeartbeats 1000000
set_option linter.unusedSimpArgs false
set_option linter.unusedVariables false
namespace Go.VK
theorem whX_inv {σ ρ:Type} {f:σ→Option (Ex σ ρ)} (I:σ→Prop) (Q:σ→Prop) (Qr:ρ→Prop) (m:σ→Nat)
  (h:∀ s,I s→(∃ s',f s=some (.nx s')∧I s'∧m s'<m s)∨(∃ s',f s=some (.br s')∧Q s')∨∃ r,f s=some (.rt r)∧Qr r) :
  ∀ (k:Nat) (s:σ),I s→m s<k→(∃ s',whX f k s=some (.inl s')∧Q s')∨∃ r,whX f k s=some (.inr r)∧Qr r
 | 0,_,_,hm=>absurd hm (Nat.not_lt_zero _)
 | k+1,s,hI,hm=>by
  rcases h s hI with ⟨s',h1,h2,h3⟩ | ⟨s',h1,h2⟩ | ⟨r,h1,h2⟩
  ·rcases whX_inv I Q Qr m h k s' h2 (by omega) with ⟨s'',h4,h5⟩ | ⟨r,h4,h5⟩
   ·exact .inl ⟨s'',by simp only [whX,h1,Option.bind_some]; exact h4,h5⟩
   ·exact .inr ⟨r,by simp only [whX,h1,Option.bind_some]; exact h4,h5⟩
  ·exact .inl ⟨s',by simp only [whX,h1,Option.bind_some],h2⟩
  ·exact .inr ⟨r,by simp only [whX,h1,Option.bind_some],h2⟩
theorem fuel_big {n:Nat} (h:n<18446744073709551616):n<fuel:=h

theorem wr {a:Int} (h : -9000000000000000000≤a∧a≤9000000000000000000):IntKind.i64.wrap a=a:=wrap_i64 ⟨by omega,by omega⟩
/-- What the specification holds (z, and its flag b') beside the number o (or none): the flag before is b; once it is set, it stays. -/
def SR {α:Type} (G:α→Prop) (o:Option α) (b:Bool) (z:α) (b':Bool):Prop:=G z∧(b=true→b'=true)∧(b=false→(o=some z∧b'=false)∨(o=none∧b'=true))
theorem SR.bind {α β:Type} {G:α→Prop} {G':β→Prop} {o:Option α} {o':α→Option β} {b b' b'':Bool} {z:α} {z':β} (h1:SR G o b z b') (h2:SR G' (o' z) b' z' b''):SR G' (o.bind o') b z' b'':=by
 refine ⟨h2.1,fun h=>h2.2.1 (h1.2.1 h),fun h=>?_⟩
 rcases h1.2.2 h with ⟨rfl,rfl⟩ | ⟨rfl,rfl⟩
 ·exact h2.2.2 rfl
 ·exact .inr ⟨rfl,h2.2.1 rfl⟩
theorem SR.mono {α:Type} {G G':α→Prop} {o:Option α} {b b':Bool} {z:α} (h:SR G o b z b') (hg:G z→G' z):SR G' o b z b':=⟨hg h.1,h.2⟩
theorem SR.map {α β:Type} {G:α→Prop} {G':β→Prop} {o:Option α} {b b':Bool} {z:α} (h:SR G o b z b') (g:α→β) (hg:G z→G' (g z)):SR G' (o.map g) b (g z) b':=by
 refine ⟨hg h.1,h.2.1,fun hb=>?_⟩
 rcases h.2.2 hb with ⟨rfl,h2⟩ | ⟨rfl,h2⟩
 ·exact .inl ⟨rfl,h2⟩
 ·exact .inr ⟨rfl,h2⟩
/-- What a sum is, taken by eight. -/
def m8 (x:Int):Int:=Int.tmod (IntKind.i64.wrap ((Int.tmod x 8)+8)) 8
/-- The two tables of sums say the same: B as it runs, S taken by eight, with a bound. -/
def Same (N:Nat) (z:Int) (B S:List Int):Prop :=
 B.length=N∧S.length=32∧N≤32∧(∀ (j:Nat) (x:Int),B[j]?=some x→-z≤x∧x≤z∧S[j]?=some (x % 8))∧∀ j,N≤j→j<32→S[j]?=some 0
theorem Same.mono {N:Nat} {z z':Int} {B S:List Int} (h:Same N z B S) (hz:z≤z'):Same N z' B S :=
 ⟨h.1,h.2.1,h.2.2.1,fun j x hx=>⟨by have:=(h.2.2.2.1 j x hx).1; omega,Int.le_trans (h.2.2.2.1 j x hx).2.1 hz,(h.2.2.2.1 j x hx).2.2⟩,h.2.2.2.2⟩
/-- The rows of a map over n wires, each a number below N. -/
def RowsOk (n N:Nat) (R:List Int):Prop:=R.length=n∧∀ x∈R,0≤x∧x<N
theorem RowsOk.set {n N:Nat} {R:List Int} (h:RowsOk n N R) (i:Nat) {x:Nat} (hx:x<N):RowsOk n N (R.set i (x:Int)) :=
 ⟨by rw [List.length_set]; exact h.1,fun y hy=>by
  rcases List.mem_or_eq_of_mem_set hy with hy | rfl
  ·exact h.2 y hy
  ·omega⟩
/-- A gate that is taken, over n wires. -/
def gOk (n:Int) (g:TGate):Bool :=
 bif decide (1≤g.Kind)&&decide (g.Kind≤8) then decide (0≤g.A)&&decide (g.A≤n-1)&&(g.B==0)
 else bif decide (9≤g.Kind)&&decide (g.Kind≤11) then decide (0≤g.A)&&decide (g.A≤n-1)&&(decide (0≤g.B)&&decide (g.B≤n-1))&&(g.A != g.B)
 else (g.Kind==12)&&(g.A==0)&&(g.B==0)
theorem spec_gate {n:Int} (hn:1≤n∧n≤5) (g:TGate):F_spec_l4Gate n g=some (gOk n g):=by
 unfold F_spec_l4Gate F_spec_l1In gOk
 rw [wrap_i64 (a:=n-1) ⟨by omega,by omega⟩]
 simp only [Option.bind_some,gb]
 cases decide (1≤g.Kind)&&decide (g.Kind≤8) <;> cases decide (9≤g.Kind)&&decide (g.Kind≤11) <;> simp only [cond_true,cond_false,Option.bind_some]
 all_goals cases decide (0≤g.A)&&decide (g.A≤n-1) <;> simp
theorem impl_gate {n:Int} (hn:1≤n∧n≤5) (g:TGate):F_impl_IsValidGate n g=some (gOk n g):=by
 unfold F_impl_IsValidGate F_impl_isTwo F_impl_within gOk
 rw [wrap_i64 (a:=n-1) ⟨by omega,by omega⟩]
 have h1:decide (1≤n)=true:=decide_eq_true hn.1
 have h5:decide (n≤5)=true:=decide_eq_true hn.2
 simp only [Option.bind_some,gb,h1,h5,Bool.and_self,Bool.not_true,Bool.not_false,cond_true,Bool.false_or]
 by_cases hk:1≤g.Kind∧g.Kind≤12
 ·have e1:(decide (1≤g.Kind)&&decide (g.Kind≤12))=true:=by simp [hk]
  simp only [e1,Bool.not_true,cond_false]
  by_cases h12:g.Kind=12
  ·simp [h12]
  ·have e12:(g.Kind==12)=false:=by simp [h12]
   simp only [e12,cond_false]
   by_cases h9:9≤g.Kind
   ·have a1:(decide (9≤g.Kind)&&decide (g.Kind≤11))=true:=by simp; omega
    have a2:(decide (1≤g.Kind)&&decide (g.Kind≤8))=false:=by simp; omega
    simp only [a1,a2,cond_true,cond_false]
    cases decide (0≤g.A)&&decide (g.A≤n-1) <;> simp
   ·have a1:(decide (9≤g.Kind)&&decide (g.Kind≤11))=false:=by simp; omega
    have a2:(decide (1≤g.Kind)&&decide (g.Kind≤8))=true:=by simp; omega
    simp only [a1,a2,cond_true,cond_false]
 ·have e1:(decide (1≤g.Kind)&&decide (g.Kind≤12))=false:=by simp; omega
  have a1:(decide (9≤g.Kind)&&decide (g.Kind≤11))=false:=by simp; omega
  have a2:(decide (1≤g.Kind)&&decide (g.Kind≤8))=false:=by simp; omega
  have a3:(g.Kind==12)=false:=by simp; omega
  simp [e1,a1,a2,a3]
/-- A circuit that is taken. -/
def cOk (c:TCircuit):Bool:=decide (1≤c.Qubits)&&decide (c.Qubits≤5)&&decide (c.Gates.length≤400)&&c.Gates.all (gOk c.Qubits)
theorem spec_good (c:TCircuit):F_spec_l4Good c=some (cOk c):=by
 unfold F_spec_l4Good F_spec_l1In cOk
 simp only [Option.bind_some]
 by_cases hn:1≤c.Qubits∧c.Qubits≤5
 ·by_cases hl:c.Gates.length≤400
  ·have e:(!(decide (1≤c.Qubits)&&decide (c.Qubits≤5))||decide ((400:Int)<(c.Gates.length:Int)))=false:=by simp [hn]; omega
   rw [e,cond_false,chk_t (by omega)]
   rcases forX_any (f:=F_spec_l4Good_l1 c) (l:=c.Gates) (p:=fun g=>!gOk c.Qubits g) (q:=fun _=>false) (fun i x hx=>by
    unfold F_spec_l4Good_l1; simp only [getI_nat,hx,Option.bind_some,spec_gate hn]; cases gOk c.Qubits x <;> rfl) with ⟨h1,h2⟩ | ⟨h1,i,_,h2⟩
   ·rw [h2]
    have:c.Gates.all (gOk c.Qubits)=true:=by rw [List.all_eq_true]; intro x hx; have:=List.any_eq_false.1 h1 x hx; simpa using this
    simp [orR,hn,hl,this]
   ·rw [h2]
    have:c.Gates.all (gOk c.Qubits)=false:=by
     obtain ⟨x,hx,hp⟩:=List.any_eq_true.1 h1
     rw [List.all_eq_false]; exact ⟨x,hx,by simpa using hp⟩
    simp [orR,this]
  ·have e:(!(decide (1≤c.Qubits)&&decide (c.Qubits≤5))||decide ((400:Int)<(c.Gates.length:Int)))=true:=by simp; omega
   rw [e,cond_true]
   simp [hl]
 ·have e:(!(decide (1≤c.Qubits)&&decide (c.Qubits≤5))||decide ((400:Int)<(c.Gates.length:Int)))=true:=by simp; omega
  rw [e,cond_true]
  have:(decide (1≤c.Qubits)&&decide (c.Qubits≤5))=false:=by simp; omega
  simp [this]
theorem impl_good (c:TCircuit) (hlen:c.Gates.length≤1048576):F_impl_IsValidCircuit c=some (cOk c):=by
 unfold F_impl_IsValidCircuit F_impl_within cOk
 simp only [Option.bind_some]
 by_cases hn:1≤c.Qubits∧c.Qubits≤5
 ·by_cases hl:c.Gates.length≤400
  ·have e:(decide (1≤c.Qubits)&&decide (c.Qubits≤5)&&decide ((c.Gates.length:Int)≤400))=true:=by simp [hn]; omega
   rw [e]
   have hf:∀ i x,c.Gates[i]?=some x→F_slices_IndexFunc_impl_Gate_impl_Gate_l1 c.Gates (fun x_0=>F_impl_IsValidCircuit_1 x_0 c) i ()=some (bif !gOk c.Qubits x then .rt (i:Int) else .nx ()):=fun i x hx=>by
    unfold F_slices_IndexFunc_impl_Gate_impl_Gate_l1 F_impl_IsValidCircuit_1
    simp only [getI_nat,hx,Option.bind_some,impl_gate hn]
    cases gOk c.Qubits x <;> rfl
   unfold F_slices_ContainsFunc_impl_Gate_impl_Gate F_slices_IndexFunc_impl_Gate_impl_Gate
   rw [chk_t (by omega)]
   rcases forX_any hf with ⟨h1,h2⟩ | ⟨h1,i,_,h2⟩
   ·rw [h2]
    have:c.Gates.all (gOk c.Qubits)=true:=by rw [List.all_eq_true]; intro x hx; have:=List.any_eq_false.1 h1 x hx; simpa using this
    simp [orR,hn,hl,this,gb]
   ·rw [h2]
    have:c.Gates.all (gOk c.Qubits)=false:=by
     obtain ⟨x,hx,hp⟩:=List.any_eq_true.1 h1
     rw [List.all_eq_false]; exact ⟨x,hx,by simpa using hp⟩
    simp [orR,this,gb]
  ·have e:(decide (1≤c.Qubits)&&decide (c.Qubits≤5)&&decide ((c.Gates.length:Int)≤400))=false:=by simp; omega
   rw [e]
   simp [gb,hl]
 ·have this:(decide (1≤c.Qubits)&&decide (c.Qubits≤5))=false:=by simp; omega
  simp [gb,this]
theorem gOk_cases {n:Int} {g:TGate} (h:gOk n g=true):(1≤g.Kind∧g.Kind≤8∧0≤g.A∧g.A≤n-1)∨(9≤g.Kind∧g.Kind≤11∧0≤g.A∧g.A≤n-1∧0≤g.B∧g.B≤n-1∧g.A≠g.B)∨g.Kind=12:=by
 unfold gOk at h
 by_cases h1:1≤g.Kind∧g.Kind≤8
 ·have e:(decide (1≤g.Kind)&&decide (g.Kind≤8))=true:=by simp [h1]
  rw [e,cond_true] at h
  simp at h
  exact .inl ⟨h1.1,h1.2,h.1.1,h.1.2⟩
 ·have e:(decide (1≤g.Kind)&&decide (g.Kind≤8))=false:=by simp; omega
  rw [e,cond_false] at h
  by_cases h2:9≤g.Kind∧g.Kind≤11
  ·have e:(decide (9≤g.Kind)&&decide (g.Kind≤11))=true:=by simp [h2]
   rw [e,cond_true] at h
   simp at h
   exact .inr (.inl ⟨h2.1,h2.2,h.1.1.1,h.1.1.2,h.1.2.1,h.1.2.2,h.2⟩)
  ·have e:(decide (9≤g.Kind)&&decide (g.Kind≤11))=false:=by simp; omega
   rw [e,cond_false] at h
   simp at h
   exact .inr (.inr h.1.1)
def eOk (n:Int) (x:TEdge):Bool:=decide (0≤x.A)&&decide (x.A<x.B)&&decide (x.B<n)
def dEdge:TEdge:=TEdge.mk 0 0
def ordB (E:List TEdge) (i:Nat) (x:TEdge):Bool:=decide (x.A<(E.getD (i-1) dEdge).A)||(((E.getD (i-1) dEdge).A==x.A)&&decide (x.B≤(E.getD (i-1) dEdge).B))
theorem bsR {ρ:Type} {b:Bool} {x y:Ex Unit ρ}:(bif b then some x else some y)=some (bif b then x else y):=by cases b <;> rfl
theorem getI_dec {α:Type} {l:List α} {i:Nat} (d:α) (h0:0<i) (hi:i<l.length) (hl:l.length≤1048576):getI l (IntKind.i64.wrap ((i:Int)-1))=some (l.getD (i-1) d):=by
 rw [wrap_i64 ⟨by omega,by omega⟩,show (i:Int)-1=((i-1:Nat):Int) by omega,getI_nat,List.getElem?_eq_getElem (by omega)]
 simp [List.getD,show i-1<l.length by omega]
theorem getI_gd {α:Type} {l:List α} {k:Int} (d:α) (h0:0≤k) (h1:k<l.length):getI l k=some (l.getD k.toNat d):=by
 obtain ⟨x,e1,e2⟩:=getI_at h0 h1
 rw [e1]; simp [List.getD,e2]
theorem edge_spec {g:TCouplingGraph} {i:Nat} {x:TEdge} (hx:g.Edges[i]?=some x) (hl:g.Edges.length≤1048576):F_spec_l22Valid_l1 g i ()=some (bif (!((decide (0≤x.A)&&decide (x.A≤IntKind.i64.wrap (x.B-1)))&&(decide (0≤x.B)&&decide (x.B≤IntKind.i64.wrap (g.Nodes-1)))))||(decide (0<(i:Int))&&ordB g.Edges i x) then .rt false else .nx ()):=by
 have hi:i<g.Edges.length:=(List.getElem?_eq_some_iff.1 hx).1
 unfold F_spec_l22Valid_l1 F_spec_l1In
 simp only [getI_nat,hx,Option.bind_some]
 cases h1:decide (0≤x.A)&&decide (x.A≤IntKind.i64.wrap (x.B-1)) with
 | false=>simp only [Bool.not_false,Bool.not_true,gb,cond_false,Option.bind_some,Bool.true_or,cond_true,Bool.false_and]
 | true =>
  simp only [Bool.not_true,Bool.not_false,gb,cond_true,Option.bind_some,Bool.false_or,Bool.true_and]
  cases h2:decide (0≤x.B)&&decide (x.B≤IntKind.i64.wrap (g.Nodes-1)) with
  | false=>simp only [Bool.not_false,Bool.true_or,cond_true]
  | true =>
   simp only [Bool.not_true,Bool.false_or,cond_false]
   by_cases h0:0<i
   ·have e0:decide (0<(i:Int))=true:=decide_eq_true (by omega)
    rw [e0,getI_dec dEdge h0 hi hl]
    unfold ordB
    generalize g.Edges.getD (i-1) dEdge=y
    simp only [cond_true,Option.bind_some,Bool.true_and]
    cases hA:decide (x.A<y.A) with
    | true=>simp only [Bool.not_true,cond_false,Option.bind_some,Bool.false_and,Bool.true_or,cond_true]
    | false =>
     simp only [Bool.not_false,cond_true,Option.bind_some,Bool.false_or]
     cases hB:y.A==x.A with
     | true=>simp only [cond_true,Option.bind_some,Bool.true_and]; exact bsR
     | false=>simp only [cond_false,Option.bind_some,Bool.false_and,Bool.and_false]
   ·have e0:decide (0<(i:Int))=false:=decide_eq_false (by omega)
    rw [e0]
    simp only [cond_false,Option.bind_some,Bool.false_and]
theorem edge_impl {E:List TEdge} {n:Int} {i:Nat} {x:TEdge} (hx:E[i]?=some x) (hl:E.length≤1048576):F_impl_areEdges_l1 E n i ()=some (bif (!eOk n x)||(decide (0<(i:Int))&&ordB E i x) then .rt false else .nx ()):=by
 have hi:i<E.length:=(List.getElem?_eq_some_iff.1 hx).1
 have hb:(((decide (x.A<0))||(decide (x.B≤x.A)))||(decide (n≤x.B)))=!eOk n x:=by
  unfold eOk
  rw [Bool.eq_iff_iff]
  simp only [Bool.or_eq_true,decide_eq_true_eq,Bool.not_eq_true',Bool.and_eq_false_iff,decide_eq_false_iff_not]
  omega
 unfold F_impl_areEdges_l1
 simp only [getI_nat,hx,Option.bind_some,hb]
 cases eOk n x with
 | false=>simp only [Bool.not_false,Bool.not_true,gb,cond_false,Option.bind_some,Bool.true_or,cond_true,Bool.false_and]
 | true =>
  simp only [Bool.not_true,Bool.not_false,Bool.true_and,Bool.false_or]
  by_cases h0:0<i
  ·have e0:decide (0<(i:Int))=true:=decide_eq_true (by omega)
   rw [e0,getI_dec dEdge h0 hi hl]
   unfold ordB
   generalize E.getD (i-1) dEdge=y
   simp only [gb,cond_true,Option.bind_some,Bool.true_and]
   cases hA:decide (x.A<y.A) with
   | true=>simp only [Bool.not_true,cond_false,Option.bind_some,Bool.false_and,Bool.true_or,cond_true]
   | false =>
    simp only [Bool.not_false,cond_true,Option.bind_some,Bool.false_or]
    cases hB:y.A==x.A with
    | true=>simp only [cond_true,Option.bind_some,Bool.true_and]; exact bsR
    | false=>simp only [cond_false,Option.bind_some,Bool.false_and,Bool.and_false]
  ·have e0:decide (0<(i:Int))=false:=decide_eq_false (by omega)
   rw [e0]
   simp only [gb,cond_false,Option.bind_some,Bool.false_and]
theorem graph_both (g:TCouplingGraph) (hl:g.Edges.length≤1048576):∃ b,F_spec_l22Valid g=some b∧F_impl_IsValidCouplingGraph g=some b∧(b=true→(1≤g.Nodes∧g.Nodes≤8)∧∀ x∈g.Edges,eOk g.Nodes x=true):=by
 unfold F_spec_l22Valid F_impl_IsValidCouplingGraph F_impl_areEdges F_spec_l1In F_impl_within
 rw [chk_t (by omega),chk_t (by omega)]
 simp only [Option.bind_some]
 by_cases hn:1≤g.Nodes∧g.Nodes≤8
 ·have en:(decide (1≤g.Nodes)&&decide (g.Nodes≤8))=true:=by simp [hn]
  rw [en]
  simp only [gb,cond_true,Bool.true_and]
  rcases forX2_inv (f:=F_spec_l22Valid_l1 g) (g:=F_impl_areEdges_l1 g.Edges g.Nodes) (fun j _ _=>∀ i,i<j→∀ x,g.Edges[i]?=some x→eOk g.Nodes x=true) (fun r r'=>r=false∧r'=false) g.Edges.length 0 () () (fun i hi=>absurd hi (Nat.not_lt_zero _)) (fun i s t _ hi hI=>by
   have hx:=List.getElem?_eq_getElem (show i<g.Edges.length by omega)
   generalize g.Edges[i]=x at hx
   have h1:=edge_spec hx hl
   have h2:=edge_impl (n:=g.Nodes) hx hl
   have he:(!((decide (0≤x.A)&&decide (x.A≤IntKind.i64.wrap (x.B-1)))&&(decide (0≤x.B)&&decide (x.B≤IntKind.i64.wrap (g.Nodes-1)))))=!eOk g.Nodes x:=by
    rw [wrap_i64 (a:=g.Nodes-1) ⟨by omega,by omega⟩]
    congr 1
    unfold eOk
    by_cases hB:0≤x.B∧x.B≤g.Nodes-1
    ·rw [wrap_i64 (a:=x.B-1) ⟨by omega,by omega⟩,Bool.eq_iff_iff]
     simp only [Bool.and_eq_true,decide_eq_true_eq]
     omega
    ·rw [Bool.eq_iff_iff]
     simp only [Bool.and_eq_true,decide_eq_true_eq]
     omega
   rw [he] at h1
   cases hr:(!eOk g.Nodes x)||(decide (0<(i:Int))&&ordB g.Edges i x) with
   | true =>
    rw [hr] at h1 h2
    exact .inr ⟨false,false,h1,h2,rfl,rfl⟩
   | false =>
    rw [hr] at h1 h2
    refine .inl ⟨(),(),h1,h2,fun j hj y hy=>?_⟩
    rcases Nat.lt_succ_iff_lt_or_eq.1 hj with h | rfl
    ·exact hI j h y hy
    ·rw [hx] at hy; cases hy
     simp only [Bool.or_eq_false_iff,Bool.not_eq_false'] at hr
     exact hr.1) with ⟨_,_,h1,h2,h3⟩ | ⟨r,r',h1,h2,rfl,rfl⟩
  ·rw [h1,h2]
   refine ⟨true,rfl,rfl,fun _=>⟨hn,fun x hx=>?_⟩⟩
   obtain ⟨i,hi⟩:=List.mem_iff_getElem?.1 hx
   exact h3 i (by have:=(List.getElem?_eq_some_iff.1 hi).1; omega) x hi
  ·rw [h1,h2]
   exact ⟨false,rfl,rfl,fun h=>by cases h⟩
 ·have en:(decide (1≤g.Nodes)&&decide (g.Nodes≤8))=false:=by rw [Bool.and_eq_false_iff,decide_eq_false_iff_not,decide_eq_false_iff_not]; omega
  rw [en]
  simp only [gb,cond_false,Option.bind_some,Bool.false_and]
  refine ⟨false,?_,rfl,fun h=>by cases h⟩
  rcases forX_inv (f:=F_spec_l22Valid_l1 g) (fun _ _=>True) (fun r=>r=false) g.Edges.length 0 () trivial (fun i s _ hi _=>by
   have hx:=List.getElem?_eq_getElem (show i<g.Edges.length by omega)
   generalize g.Edges[i]=x at hx
   have h1:=edge_spec hx hl
   cases hr:(!((decide (0≤x.A)&&decide (x.A≤IntKind.i64.wrap (x.B-1)))&&(decide (0≤x.B)&&decide (x.B≤IntKind.i64.wrap (g.Nodes-1)))))||(decide (0<(i:Int))&&ordB g.Edges i x) with
   | true=>rw [hr] at h1; exact .inr ⟨false,h1,rfl⟩
   | false=>rw [hr] at h1; exact .inl ⟨(),h1,trivial⟩) with ⟨_,h1,_⟩ | ⟨r,h1,rfl⟩
  ·rw [h1]; rfl
  ·rw [h1]; rfl
def joinsB (E:List TEdge) (a b:Int):Bool:=E.any fun x=>((x.A==a)&&(x.B==b))||((x.A==b)&&(x.B==a))
theorem spec_joins {g:TCouplingGraph} (hl:g.Edges.length≤1048576) (a b:Int):F_spec_l22Edge g a b=some (joinsB g.Edges a b):=by
 unfold F_spec_l22Edge joinsB
 rw [chk_t (by omega)]
 rcases forX_any (f:=F_spec_l22Edge_l1 g a b) (l:=g.Edges) (p:=fun x=>((x.A==a)&&(x.B==b))||((x.A==b)&&(x.B==a))) (q:=fun _=>true) (fun i x hx=>by
  unfold F_spec_l22Edge_l1
  simp only [getI_nat,hx,Option.bind_some,bsR]) with ⟨h1,h2⟩ | ⟨h1,i,_,h2⟩
 ·rw [h2,h1]; rfl
 ·rw [h2,h1]; rfl
theorem impl_joins {g:TCouplingGraph} (hl:g.Edges.length≤1048576) (he:∀ x∈g.Edges,eOk g.Nodes x=true) (a b:Int):F_impl_CouplingGraph_joins g a b=some (joinsB g.Edges a b):=by
 unfold F_impl_CouplingGraph_joins F_slices_Contains_impl_Edge_impl_Edge F_slices_Index_impl_Edge_impl_Edge
 rw [chk_t (by omega)]
 have hj:joinsB g.Edges a b=g.Edges.any fun x=>(((if b<a then b else a)==x.A)&&(((if a<b then b else a)==x.B)&&true)):=by
  unfold joinsB
  rw [Bool.eq_iff_iff,List.any_eq_true,List.any_eq_true]
  constructor
  ·rintro ⟨x,hx,hp⟩
   refine ⟨x,hx,?_⟩
   have:=he x hx
   unfold eOk at this
   simp only [Bool.and_eq_true,decide_eq_true_eq,Bool.or_eq_true,beq_iff_eq,Bool.and_true] at *
   split <;> split <;> omega
  ·rintro ⟨x,hx,hp⟩
   refine ⟨x,hx,?_⟩
   have:=he x hx
   unfold eOk at this
   simp only [Bool.and_eq_true,decide_eq_true_eq,Bool.or_eq_true,beq_iff_eq,Bool.and_true] at *
   obtain ⟨p1,p2⟩:=hp
   split at p1 <;> split at p2 <;> omega
 rcases forX_any (f:=F_slices_Index_impl_Edge_impl_Edge_l1 g.Edges (TEdge.mk (if b<a then b else a) (if a<b then b else a))) (l:=g.Edges) (p:=fun x=>(((if b<a then b else a)==x.A)&&(((if a<b then b else a)==x.B)&&true))) (q:=fun i=>(i:Int)) (fun i x hx=>by
  unfold F_slices_Index_impl_Edge_impl_Edge_l1
  simp only [getI_nat,hx,Option.bind_some,bsR]) with ⟨h1,h2⟩ | ⟨h1,i,_,h2⟩
 ·rw [h2,hj,h1]; rfl
 ·rw [h2,hj,h1]; simp [orR]
theorem joins_in {E:List TEdge} {n:Int} (he:∀ x∈E,eOk n x=true) {a b:Int} (h:joinsB E a b=true):0≤a∧a<n∧0≤b∧b<n∧a≠b:=by
 obtain ⟨x,hx,hp⟩:=List.any_eq_true.1 h
 have:=he x hx
 unfold eOk at this
 simp only [Bool.and_eq_true,decide_eq_true_eq,Bool.or_eq_true,beq_iff_eq] at *
 omega
theorem hasR {l:List Int} (hl:l.length≤9223372036854775807) (w:Int):F_spec_l1Has l w=some (l.any fun x=>x==w):=by
 unfold F_spec_l1Has
 rw [chk_t hl]
 rcases forX_any (f:=F_spec_l1Has_l1 l w) (l:=l) (p:=fun x=>x==w) (q:=fun _=>true) (fun i x hx=>by
  unfold F_spec_l1Has_l1
  simp only [getI_nat,hx,Option.bind_some,bsR]) with ⟨h1,h2⟩ | ⟨h1,i,_,h2⟩
 ·rw [h2,h1]; rfl
 ·rw [h2,h1]; rfl
theorem containsR {l:List Int} (hl:l.length≤9223372036854775807) (w:Int):F_slices_Contains_int_int l w=some (l.any fun x=>x==w):=by
 unfold F_slices_Contains_int_int F_slices_Index_int_int
 rw [chk_t hl]
 rcases forX_any (f:=F_slices_Index_int_int_l1 l w) (l:=l) (p:=fun x=>x==w) (q:=fun i=>(i:Int)) (fun i x hx=>by
  unfold F_slices_Index_int_int_l1
  have e:(w==x)=(x==w):=by rw [Bool.eq_iff_iff]; simp only [beq_iff_eq]; exact eq_comm
  simp only [getI_nat,hx,Option.bind_some,e,bsR]) with ⟨h1,h2⟩ | ⟨h1,i,_,h2⟩
 ·rw [h2,h1]; rfl
 ·rw [h2,h1]; simp [orR]
def PlOk (N:Int) (l:List Int):Prop:=(∀ x∈l,0≤x∧x<N)∧l.Pairwise (·≠·)
theorem place_both {g:TCouplingGraph} (hn:1≤g.Nodes∧g.Nodes≤8) (n:Int) (p:List Int) (hp:p.length≤1048576):∃ b,F_spec_l23Placement g n p=some b∧F_impl_CouplingGraph_isPlacement g n p=some b∧(b=true→(p.length:Int)=n∧PlOk g.Nodes p):=by
 unfold F_spec_l23Placement F_impl_CouplingGraph_isPlacement
 rw [chk_t (by omega),chk_t (by omega)]
 rcases forX2_inv (f:=F_spec_l23Placement_l1 p g) (g:=F_impl_CouplingGraph_isPlacement_l1 p g) (fun j _ _=>PlOk g.Nodes (p.take j)) (fun r r'=>r=false∧r'=false) p.length 0 () () ⟨fun x hx=>by simp at hx,by simp⟩ (fun i s t _ hi hI=>by
  have hx:=List.getElem?_eq_getElem (show i<p.length by omega)
  have htk:p.take (i+1)=p.take i++[p[i]]:=by rw [List.take_add_one,hx]; rfl
  generalize p[i]=x at hx htk
  unfold F_spec_l23Placement_l1 F_impl_CouplingGraph_isPlacement_l1 F_spec_l1In F_impl_within
  simp only [getI_nat,hx,Option.bind_some]
  rw [wrap_i64 (a:=g.Nodes-1) ⟨by omega,by omega⟩]
  cases hr:decide (0≤x)&&decide (x≤g.Nodes-1) with
  | false=>exact .inr ⟨false,false,rfl,rfl,rfl,rfl⟩
  | true =>
   simp only [Bool.not_true,Bool.not_false,cond_true]
   have hl:(p.take i).length≤9223372036854775807:=by rw [List.length_take]; omega
   rw [chk_t ⟨by omega,by omega⟩,chk_t ⟨by omega,by omega⟩,hasR hl,containsR hl]
   simp only [Option.bind_some]
   cases ha:(p.take i).any fun y=>y==x with
   | true=>exact .inr ⟨false,false,rfl,rfl,rfl,rfl⟩
   | false =>
    refine .inl ⟨(),(),rfl,rfl,?_⟩
    simp only [Bool.and_eq_true,decide_eq_true_eq] at hr
    rw [htk]
    refine ⟨fun y hy=>?_,?_⟩
    ·rcases List.mem_append.1 hy with hy | hy
     ·exact hI.1 y hy
     ·rw [List.mem_singleton] at hy; subst hy; omega
    ·rw [List.pairwise_append]
     refine ⟨hI.2,List.pairwise_singleton _ _,fun a haa b hb=>?_⟩
     rw [List.mem_singleton] at hb; subst hb
     have:=List.any_eq_false.1 ha a haa
     simpa using this) with ⟨_,_,h1,h2,h3⟩ | ⟨r,r',h1,h2,rfl,rfl⟩
 ·rw [h1,h2]
  refine ⟨_,rfl,rfl,fun h=>⟨by simpa using h,?_⟩⟩
  rw [Nat.zero_add,List.take_length] at h3
  exact h3
 ·rw [h1,h2]
  exact ⟨false,rfl,rfl,fun h=>by cases h⟩
def swp (a b x:Int):Int:=bif x==a then b else bif x==b then a else x
theorem swp_inj {a b x y:Int} (h:swp a b x=swp a b y):x=y:=by
 have e:∀ z,swp a b z=if z=a then b else if z=b then a else z:=fun z=>by
  unfold swp
  by_cases h1:z=a
  ·simp [h1]
  ·by_cases h2:z=b
   ·simp [h2]
   ·have e1:(z==a)=false:=by simpa using h1
    have e2:(z==b)=false:=by simpa using h2
    rw [e1,e2,if_neg h1,if_neg h2]; rfl
 rw [e,e] at h
 repeat' split at h
 all_goals omega
def swapL (l:List Int) (a b:Int):List Int:=l.map (swp a b)
theorem swap_spec {p:List Int} (hp:p.length≤1048576) (a b:Int):F_spec_l23Swap p a b=some (swapL p a b):=by
 unfold F_spec_l23Swap F_spec_l1Own
 rw [chk_t (by omega)]
 simp only [Option.bind_some]
 rw [chk_t (by omega)]
 obtain ⟨s,h1,h2,h3⟩:=forN_inv (f:=F_spec_l23Swap_l1 p a b) (fun j s=>s.length=p.length∧∀ i,s[i]?=if i<j then (p[i]?).map (swp a b) else p[i]?) p.length 0 p ⟨rfl,fun i=>by simp⟩ (fun j s _ hj ⟨hs,hI⟩=>by
  have hx:=List.getElem?_eq_getElem (show j<p.length by omega)
  have hsj:=List.getElem?_eq_getElem (show j<s.length by omega)
  generalize p[j]=x at hx
  unfold F_spec_l23Swap_l1
  simp only [getI_nat,hx,hsj,Option.bind_some]
  have hnew:∀ y,y=swp a b x→(s.set j y).length=p.length∧∀ i,(s.set j y)[i]?=if i<j+1 then (p[i]?).map (swp a b) else p[i]?:=fun y hy=>by
   refine ⟨by simpa using hs,fun i=>?_⟩
   rw [List.getElem?_set]
   by_cases hij:j=i
   ·subst hij
    rw [if_pos rfl,if_pos (by omega),if_pos (by omega),hx,hy]; rfl
   ·rw [if_neg hij,hI i]
    by_cases h:i<j
    ·rw [if_pos h,if_pos (by omega)]
    ·rw [if_neg h,if_neg (by omega)]
  cases h1:x==a with
  | true=>exact ⟨_,rfl,hnew b (by unfold swp; rw [h1]; rfl)⟩
  | false =>
   cases h2:x==b with
   | true=>exact ⟨_,rfl,hnew a (by unfold swp; rw [h1,h2]; rfl)⟩
   | false =>
    refine ⟨s,rfl,hs,fun i=>?_⟩
    rw [hI i]
    by_cases hij:i=j
    ·subst hij
     rw [if_neg (by omega),if_pos (by omega),hx]
     simp [swp,h1,h2]
    ·by_cases h:i<j
     ·rw [if_pos h,if_pos (by omega)]
     ·rw [if_neg h,if_neg (by omega)])
 rw [h1]
 simp only [Option.bind_some,Option.some.injEq]
 apply List.ext_getElem?
 intro i
 rw [h3 i]
 unfold swapL
 rw [List.getElem?_map]
 by_cases h:i<0+p.length
 ·rw [if_pos h]
 ·rw [if_neg h,List.getElem?_eq_none (by omega)]; rfl
theorem swap_impl {p:List Int} (hp:p.length≤1048576) (g:TCouplingGraph) (c:TCircuit) (dn:List Bool) (a b:Int):F_impl_routing_swap (Trouting.mk g c p dn) a b=some (swapL p a b):=by
 unfold F_impl_routing_swap
 simp only
 rw [chk_t (by omega)]
 obtain ⟨s,h1,h2,h3⟩:=forN_inv (f:=F_impl_routing_swap_l1 a b) (fun j s=>s.length=p.length∧∀ i,s[i]?=if i<j then (p[i]?).map (swp a b) else p[i]?) p.length 0 p ⟨rfl,fun i=>by simp⟩ (fun j s _ hj ⟨hs,hI⟩=>by
  have hx:=List.getElem?_eq_getElem (show j<p.length by omega)
  have hsj:s[j]?=p[j]?:=by rw [hI j,if_neg (by omega)]
  rw [hx] at hsj
  generalize p[j]=x at hx hsj
  unfold F_impl_routing_swap_l1
  simp only [getI_nat,hsj,Option.bind_some]
  have hnew:∀ y,y=swp a b x→(s.set j y).length=p.length∧∀ i,(s.set j y)[i]?=if i<j+1 then (p[i]?).map (swp a b) else p[i]?:=fun y hy=>by
   refine ⟨by simpa using hs,fun i=>?_⟩
   rw [List.getElem?_set]
   by_cases hij:j=i
   ·subst hij
    rw [if_pos rfl,if_pos (by omega),if_pos (by omega),hx,hy]; rfl
   ·rw [if_neg hij,hI i]
    by_cases h:i<j
    ·rw [if_pos h,if_pos (by omega)]
    ·rw [if_neg h,if_neg (by omega)]
  cases h1:x==a with
  | true=>exact ⟨_,rfl,hnew b (by unfold swp; rw [h1]; rfl)⟩
  | false =>
   cases h2:x==b with
   | true=>exact ⟨_,rfl,hnew a (by unfold swp; rw [h1,h2]; rfl)⟩
   | false =>
    refine ⟨s,rfl,hs,fun i=>?_⟩
    rw [hI i]
    by_cases hij:i=j
    ·subst hij
     rw [if_neg (by omega),if_pos (by omega),hx]
     simp [swp,h1,h2]
    ·by_cases h:i<j
     ·rw [if_pos h,if_pos (by omega)]
     ·rw [if_neg h,if_neg (by omega)])
 rw [h1]
 simp only [Option.bind_some,Option.some.injEq]
 apply List.ext_getElem?
 intro i
 rw [h3 i]
 unfold swapL
 rw [List.getElem?_map]
 by_cases h:i<0+p.length
 ·rw [if_pos h]
 ·rw [if_neg h,List.getElem?_eq_none (by omega)]; rfl
theorem PlOk.swap {N:Int} {l:List Int} (h:PlOk N l) {a b:Int} (ha:0≤a∧a<N) (hb:0≤b∧b<N):PlOk N (swapL l a b):=by
 refine ⟨fun x hx=>?_,?_⟩
 ·obtain ⟨y,hy,rfl⟩:=List.mem_map.1 hx
  have:=h.1 y hy
  unfold swp
  cases y==a with
  | true=>exact hb
  | false=>cases y==b with
   | true=>exact ha
   | false=>exact this
 ·unfold swapL
  rw [List.pairwise_map]
  exact h.2.imp (fun hne he=>hne (swp_inj he))
def twoB (x:TGate):Bool:=decide (9≤x.Kind)&&decide (x.Kind≤11)
def qsOf (x:TGate):List Int:=bif x.Kind==12 then [] else bif twoB x then [x.A,x.B] else [x.A]
theorem two_spec (x:TGate):F_spec_l22Two x=some (twoB x):=by
 unfold F_spec_l22Two twoB
 congr 1
 rw [Bool.eq_iff_iff]
 simp only [Bool.or_eq_true,beq_iff_eq,Bool.and_eq_true,decide_eq_true_eq]
 omega
theorem two_impl (x:TGate):F_impl_isTwo x.Kind=some (twoB x):=rfl
theorem qs_spec (x:TGate):F_spec_l23Qubits x=some (qsOf x):=by
 unfold F_spec_l23Qubits qsOf
 rw [two_spec]
 cases x.Kind==12 <;> cases twoB x <;> rfl
theorem qs_impl (x:TGate):F_impl_qubitsOf x=some (qsOf x):=by
 unfold F_impl_qubitsOf qsOf
 rw [two_impl]
 cases x.Kind==12 <;> cases twoB x <;> rfl
theorem qs_len (x:TGate):(qsOf x).length≤2:=by
 unfold qsOf
 cases x.Kind==12 <;> cases twoB x <;> simp
def commB (g h:TGate):Bool:=(qsOf g).any fun q=>(qsOf h).any fun r=>r==q
theorem meet_eq (g h:TGate):F_impl_meet g h=some (commB g h):=by
 unfold F_impl_meet F_slices_ContainsFunc_int_int F_slices_IndexFunc_int_int commB
 have hl:=qs_len g
 have hl2:=qs_len h
 rw [qs_impl]
 simp only [Option.bind_some]
 rw [chk_t (by omega)]
 rcases forX_any (f:=F_slices_IndexFunc_int_int_l1 (qsOf g) (fun x_0=>F_impl_meet_1 x_0 h)) (l:=qsOf g) (p:=fun q=>(qsOf h).any fun r=>r==q) (q:=fun i=>(i:Int)) (fun i x hx=>by
  unfold F_slices_IndexFunc_int_int_l1 F_impl_meet_1
  simp only [getI_nat,hx,Option.bind_some,qs_impl,containsR (l:=qsOf h) (by omega),bsR]) with ⟨h1,h2⟩ | ⟨h1,i,_,h2⟩
 ·rw [h2,h1]; rfl
 ·rw [h2,h1]; simp [orR]
def dGate:TGate:=TGate.mk 0 0 0
def rdB (c:TCircuit) (dn:List Bool) (k:Int):Bool :=
 (decide (0≤k)&&decide (k<(c.Gates.length:Int)))&&(!(dn.getD k.toNat false)&&!((List.range k.toNat).any fun i=>!(dn.getD i false)&&commB (c.Gates.getD i dGate) (c.Gates.getD k.toNat dGate)))
theorem range_any {n:Nat} {ρ:Type} {f:Nat→Unit→Option (Ex Unit ρ)} {p:Nat→Bool} {q:ρ} (hf:∀ i,i<n→f i ()=some (bif p i then .rt q else .nx ())):forX f n 0 ()=some (bif (List.range n).any p then .inr q else .inl ()):=by
 rcases forX_any (f:=f) (l:=List.range n) (p:=p) (q:=fun _=>q) (fun i x hx=>by
  have hi:i<n:=by have:=(List.getElem?_eq_some_iff.1 hx).1; simpa using this
  have:x=i:=by
   rw [List.getElem?_range hi] at hx; exact (Option.some.inj hx).symm
  subst this
  exact hf x hi) with ⟨h1,h2⟩ | ⟨h1,i,_,h2⟩
 ·rw [List.length_range] at h2; rw [h2,h1]; rfl
 ·rw [List.length_range] at h2; rw [h2,h1]; rfl
theorem ready_spec {c:TCircuit} {dn:List Bool} (hl:c.Gates.length≤400) (hd:dn.length=c.Gates.length) (k:Int):F_spec_l23Ready c dn k=some (rdB c dn k):=by
 unfold F_spec_l23Ready F_spec_l1In rdB
 rw [wrap_i64 (a:=(c.Gates.length:Int)-1) ⟨by omega,by omega⟩]
 simp only [Option.bind_some]
 have er:(decide (0≤k)&&decide (k≤(c.Gates.length:Int)-1))=(decide (0≤k)&&decide (k<(c.Gates.length:Int))):=by
  rw [Bool.eq_iff_iff]; simp only [Bool.and_eq_true,decide_eq_true_eq]; omega
 rw [er]
 cases hr:decide (0≤k)&&decide (k<(c.Gates.length:Int)) with
 | false=>simp only [Bool.not_false,Bool.not_true,gb,cond_false,Option.bind_some,Bool.true_or,cond_true,Bool.false_and]
 | true =>
  simp only [Bool.and_eq_true,decide_eq_true_eq] at hr
  simp only [Bool.not_true,Bool.not_false,gb,cond_true,Bool.false_or,Bool.true_and]
  rw [getI_gd false hr.1 (by omega),getI_gd dGate hr.1 (by omega)]
  simp only [Option.bind_some]
  cases hdk:dn.getD k.toNat false with
  | true=>simp only [cond_true,Bool.not_true,Bool.false_and]
  | false =>
   simp only [cond_false,Bool.not_false,Bool.true_and,qs_spec,Option.bind_some]
   rw [chk_t (by omega),range_any (p:=fun i=>!(dn.getD i false)&&commB (c.Gates.getD i dGate) (c.Gates.getD k.toNat dGate)) (q:=false) (fun i hi=>by
    unfold F_spec_l23Ready_l1
    have h1:=getI_gd (l:=c.Gates) dGate (k:=(i:Int)) (by omega) (by omega)
    have h2:=getI_gd (l:=dn) false (k:=(i:Int)) (by omega) (by omega)
    rw [Int.toNat_natCast] at h1 h2
    rw [h1]
    simp only [Option.bind_some,qs_spec]
    have hq:=qs_len (c.Gates.getD i dGate)
    have hq2:=qs_len (c.Gates.getD k.toNat dGate)
    rw [chk_t (by omega)]
    rcases forX_any (f:=F_spec_l23Ready_l2 (qsOf (c.Gates.getD i dGate)) dn i (qsOf (c.Gates.getD k.toNat dGate))) (l:=qsOf (c.Gates.getD i dGate)) (p:=fun q=>!(dn.getD i false)&&(qsOf (c.Gates.getD k.toNat dGate)).any fun r=>r==q) (q:=fun _=>(Ex.rt false:Ex Unit Bool)) (fun j x hx=>by
     unfold F_spec_l23Ready_l2
     simp only [getI_nat (l:=qsOf _),hx,Option.bind_some,h2,hasR (l:=qsOf (c.Gates.getD k.toNat dGate)) (by omega),gb]
     cases dn.getD i false
     ·simp only [Bool.not_false,cond_true,Option.bind_some,Bool.true_and,bsR]
     ·simp only [Bool.not_true,cond_false,Option.bind_some,Bool.false_and]) with ⟨g1,g2⟩ | ⟨g1,j,_,g2⟩
    ·rw [g2]
     have:(!(dn.getD i false)&&commB (c.Gates.getD i dGate) (c.Gates.getD k.toNat dGate))=false:=by
      unfold commB
      cases hdi:dn.getD i false with
      | true=>rfl
      | false =>
       rw [hdi] at g1
       simp only [Bool.not_false,Bool.true_and] at g1 ⊢
       exact g1
     rw [this]; rfl
    ·rw [g2]
     have:(!(dn.getD i false)&&commB (c.Gates.getD i dGate) (c.Gates.getD k.toNat dGate))=true:=by
      unfold commB
      cases hdi:dn.getD i false with
      | true=>rw [hdi] at g1; simp at g1
      | false =>
       rw [hdi] at g1
       simp only [Bool.not_false,Bool.true_and] at g1 ⊢
       exact g1
     rw [this]; rfl)]
   cases (List.range k.toNat).any fun i=>!(dn.getD i false)&&commB (c.Gates.getD i dGate) (c.Gates.getD k.toNat dGate) <;> rfl
theorem ready_impl {c:TCircuit} {dn:List Bool} (hl:c.Gates.length≤400) (hd:dn.length=c.Gates.length) (g:TCouplingGraph) (p:List Int) (k:Int):F_impl_routing_isReady (Trouting.mk g c p dn) k=some (rdB c dn k):=by
 unfold F_impl_routing_isReady F_impl_within rdB
 simp only
 rw [wrap_i64 (a:=(c.Gates.length:Int)-1) ⟨by omega,by omega⟩]
 simp only [Option.bind_some]
 have er:(decide (0≤k)&&decide (k≤(c.Gates.length:Int)-1))=(decide (0≤k)&&decide (k<(c.Gates.length:Int))):=by
  rw [Bool.eq_iff_iff]; simp only [Bool.and_eq_true,decide_eq_true_eq]; omega
 rw [er]
 cases hr:decide (0≤k)&&decide (k<(c.Gates.length:Int)) with
 | false=>simp only [Bool.not_false,Bool.not_true,gb,cond_false,Option.bind_some,Bool.true_or,cond_true,Bool.false_and]
 | true =>
  simp only [Bool.and_eq_true,decide_eq_true_eq] at hr
  simp only [Bool.not_true,Bool.not_false,gb,cond_true,Bool.false_or,Bool.true_and]
  rw [getI_gd false hr.1 (by omega)]
  simp only [Option.bind_some]
  cases hdk:dn.getD k.toNat false with
  | true=>simp only [cond_true,Bool.not_true,Bool.false_and]
  | false =>
   simp only [cond_false,Bool.not_false,Bool.true_and]
   rw [chk_t ⟨by omega,by omega⟩,chk_t (by omega),range_any (p:=fun i=>!(dn.getD i false)&&commB (c.Gates.getD i dGate) (c.Gates.getD k.toNat dGate)) (q:=false) (fun i hi=>by
    unfold F_impl_routing_isReady_l1
    simp only
    have h0:getI (List.take k.toNat c.Gates) (i:Int)=some (c.Gates.getD i dGate):=by
     rw [getI_nat,List.getElem?_take_of_lt hi,List.getElem?_eq_getElem (by omega)]
     simp [List.getD,show i<c.Gates.length by omega]
    have h2:=getI_gd (l:=dn) false (k:=(i:Int)) (by omega) (by omega)
    rw [Int.toNat_natCast] at h2
    rw [h0,h2,getI_gd dGate hr.1 (by omega)]
    simp only [Option.bind_some,gb]
    cases hdi:dn.getD i false with
    | true=>simp only [Bool.not_true,cond_false,Option.bind_some,Bool.false_and]
    | false=>simp only [Bool.not_false,cond_true,Option.bind_some,meet_eq,Bool.true_and,bsR])]
   cases (List.range k.toNat).any fun i=>!(dn.getD i false)&&commB (c.Gates.getD i dGate) (c.Gates.getD k.toNat dGate) <;> rfl
def fitB (E:List TEdge) (p:List Int) (x:TGate):Bool:=!twoB x||joinsB E (p.getD x.A.toNat 0) (p.getD x.B.toNat 0)
def InP (p:List Int) (x:TGate):Prop:=twoB x=true→(0≤x.A∧x.A<p.length)∧0≤x.B∧x.B<p.length
theorem near_spec {g:TCouplingGraph} (hl:g.Edges.length≤1048576) {p:List Int} {x:TGate} (h:InP p x):F_spec_l23Near g p x=some (fitB g.Edges p x):=by
 unfold F_spec_l23Near fitB
 rw [two_spec]
 simp only [Option.bind_some]
 cases ht:twoB x with
 | false=>rfl
 | true =>
  obtain ⟨h1,h2⟩:=h ht
  simp only [Bool.not_true,Bool.not_false,gb,cond_true,Bool.false_or]
  rw [getI_gd 0 h1.1 h1.2,getI_gd 0 h2.1 h2.2]
  simp only [Option.bind_some,spec_joins hl]
theorem fits_impl {g:TCouplingGraph} (hl:g.Edges.length≤1048576) (he:∀ x∈g.Edges,eOk g.Nodes x=true) {c:TCircuit} {p:List Int} {dn:List Bool} {k:Int} (h0:0≤k) (h1:k<c.Gates.length) (h:InP p (c.Gates.getD k.toNat dGate)):F_impl_routing_fits (Trouting.mk g c p dn) k=some (fitB g.Edges p (c.Gates.getD k.toNat dGate)):=by
 unfold F_impl_routing_fits fitB
 simp only
 rw [getI_gd dGate h0 h1]
 generalize c.Gates.getD k.toNat dGate=x at h
 simp only [Option.bind_some,two_impl]
 cases ht:twoB x with
 | false=>rfl
 | true =>
  obtain ⟨h1,h2⟩:=h ht
  simp only [Bool.not_true,Bool.not_false,gb,cond_true,Bool.false_or]
  rw [getI_gd 0 h1.1 h1.2,getI_gd 0 h2.1 h2.2]
  simp only [Option.bind_some,impl_joins hl he]
def stp (E:List TEdge) (c:TCircuit) (s:List Int×List Bool) (x:TRouteStep):Int×(List Int×List Bool) :=
 bif x.Gate==-1 then (bif joinsB E x.A x.B then (0,(swapL s.1 x.A x.B,s.2)) else (2,s))
 else bif ((x.A != 0)||(x.B != 0))||!(rdB c s.2 x.Gate) then (3,s)
 else bif fitB E s.1 (c.Gates.getD x.Gate.toNat dGate) then (0,(s.1,s.2.set x.Gate.toNat true)) else (4,s)
structure RInv (g:TCouplingGraph) (c:TCircuit) (s:List Int×List Bool):Prop where
 len:(s.1.length:Int)=c.Qubits
 dn:s.2.length=c.Gates.length
 pl:PlOk g.Nodes s.1
structure ROk (g:TCouplingGraph) (c:TCircuit):Prop where
 edges:g.Edges.length≤1048576
 nodes:1≤g.Nodes∧g.Nodes≤8
 eok:∀ x∈g.Edges,eOk g.Nodes x=true
 qs:1≤c.Qubits∧c.Qubits≤5
 gl:c.Gates.length≤400
 gok:∀ x∈c.Gates,gOk c.Qubits x=true
theorem rd_range {c:TCircuit} {dn:List Bool} {k:Int} (h:rdB c dn k=true):0≤k∧k<c.Gates.length∧dn.getD k.toNat false=false:=by
 unfold rdB at h
 simp only [Bool.and_eq_true,decide_eq_true_eq,Bool.not_eq_true'] at h
 exact ⟨h.1.1,h.1.2,h.2.1⟩
theorem ROk.at {g:TCouplingGraph} {c:TCircuit} (h:ROk g c) {k:Int} (h0:0≤k) (h1:k<c.Gates.length):gOk c.Qubits (c.Gates.getD k.toNat dGate)=true:=by
 refine h.gok _ ?_
 have:k.toNat<c.Gates.length:=by omega
 simp only [List.getD,List.getElem?_eq_getElem this,Option.getD_some]
 exact List.getElem_mem this
theorem inP_of {g:TCouplingGraph} {c:TCircuit} (h:ROk g c) {s:List Int×List Bool} (hs:RInv g c s) {k:Int} (h0:0≤k) (h1:k<c.Gates.length):InP s.1 (c.Gates.getD k.toNat dGate):=by
 intro ht
 have hg:=gOk_cases (h.at h0 h1)
 have:=hs.len
 unfold twoB at ht
 simp only [Bool.and_eq_true,decide_eq_true_eq] at ht
 omega
theorem step_impl {g:TCouplingGraph} {c:TCircuit} (h:ROk g c) {s:List Int×List Bool} (hs:RInv g c s) (x:TRouteStep):F_impl_routing_step (Trouting.mk g c s.1 s.2) x=some ((stp g.Edges c s x).1,(stp g.Edges c s x).2.1,(stp g.Edges c s x).2.2):=by
 have hp:s.1.length≤1048576:=by have:=hs.len; have:=h.qs; omega
 unfold F_impl_routing_step stp
 simp only
 cases hg:x.Gate==-1 with
 | true =>
  simp only [cond_true]
  rw [impl_joins h.edges h.eok]
  simp only [Option.bind_some]
  cases joinsB g.Edges x.A x.B with
  | false=>rfl
  | true=>simp only [Bool.not_true,cond_false,swap_impl hp,Option.bind_some,cond_true]
 | false =>
  simp only [cond_false]
  rw [ready_impl h.gl hs.dn]
  cases hz:(x.A != 0)||(x.B != 0) with
  | true=>rfl
  | false =>
   simp only [Bool.not_false,gb,cond_true,Option.bind_some,Bool.false_or]
   cases hr:rdB c s.2 x.Gate with
   | false=>rfl
   | true =>
    obtain ⟨r0,r1,r2⟩:=rd_range hr
    simp only [Bool.not_true,cond_false]
    rw [fits_impl h.edges h.eok r0 r1 (inP_of h hs r0 r1)]
    simp only [Option.bind_some]
    cases fitB g.Edges s.1 (c.Gates.getD x.Gate.toNat dGate) with
    | false=>rfl
    | true =>
     simp only [Bool.not_true,cond_false,cond_true]
     rw [getI_gd (l:=s.2) false r0 (by rw [hs.dn]; exact r1)]
     rfl
theorem step_inv {g:TCouplingGraph} {c:TCircuit} (h:ROk g c) {s:List Int×List Bool} (hs:RInv g c s) (x:TRouteStep):RInv g c (stp g.Edges c s x).2:=by
 unfold stp
 cases x.Gate==-1 with
 | true =>
  simp only [cond_true]
  cases hj:joinsB g.Edges x.A x.B with
  | false=>exact hs
  | true =>
   obtain ⟨a,b,c',d,_⟩:=joins_in h.eok hj
   exact ⟨by simp only [cond_true,swapL,List.length_map]; exact hs.len,hs.dn,hs.pl.swap ⟨a,b⟩ ⟨c',d⟩⟩
 | false =>
  simp only [cond_false]
  cases ((x.A != 0)||(x.B != 0))||!(rdB c s.2 x.Gate) with
  | true=>exact hs
  | false =>
   simp only [cond_false]
   cases fitB g.Edges s.1 (c.Gates.getD x.Gate.toNat dGate) with
   | false=>exact hs
   | true=>exact ⟨hs.len,by simp only [cond_true,List.length_set]; exact hs.dn,hs.pl⟩
/-- How many gates are left. -/
def leftN:List Bool→Nat
 | []=>0
 | b::l=>(bif b then 0 else 1)+leftN l
theorem left_set:∀ (l:List Bool) (k:Nat),k<l.length→l.getD k false=false→leftN (l.set k true)+1=leftN l
 | [],_,h,_=>absurd h (Nat.not_lt_zero _)
 | b::l,0,_,h=>by
  simp only [List.getD_cons_zero] at h
  subst h
  simp only [List.set_cons_zero,leftN,cond_true,cond_false]; omega
 | b::l,k+1,hk,h=>by
  have:=left_set l k (by simpa using hk) (by simpa using h)
  simp only [List.set_cons_succ,leftN]; omega
theorem left_le:∀ l:List Bool,leftN l≤l.length
 | []=>Nat.le_refl _
 | b::l=>by
  have:=left_le l
  simp only [leftN,List.length_cons]
  cases b <;> simp <;> omega
theorem left_all:∀ l:List Bool,(l.any fun x=>x==false)=decide (0<leftN l)
 | []=>rfl
 | b::l=>by
  have:=left_all l
  cases b
  ·have h0:0<leftN (false::l):=by simp only [leftN,cond_false]; omega
   rw [decide_eq_true h0]; rfl
  ·simp only [List.any_cons,leftN,cond_true,Nat.zero_add]; rw [this]; rfl
theorem left_rep (n:Nat):leftN (List.replicate n false)=n:=by
 induction n with
 | zero=>rfl
 | succ n ih=>rw [List.replicate_succ]; simp only [leftN,ih,cond_false]; omega
theorem contains_false {l:List Bool} (hl:l.length≤9223372036854775807):F_slices_Contains_bool_bool l false=some (decide (0<leftN l)):=by
 unfold F_slices_Contains_bool_bool F_slices_Index_bool_bool
 rw [chk_t hl]
 rcases forX_any (f:=F_slices_Index_bool_bool_l1 l false) (l:=l) (p:=fun x=>x==false) (q:=fun i=>(i:Int)) (fun i x hx=>by
  unfold F_slices_Index_bool_bool_l1
  simp only [getI_nat,hx,Option.bind_some]
  cases x <;> rfl) with ⟨h1,h2⟩ | ⟨h1,i,_,h2⟩
 ·rw [h2,← left_all,h1]; rfl
 ·rw [h2,← left_all,h1]; simp [orR]
theorem play_step {g:TCouplingGraph} {c:TCircuit} (h:ROk g c) {r:TRoute} {i:Nat} {x:TRouteStep} (hx:r.Steps[i]?=some x) {s:List Int×List Bool} (hs:RInv g c s) :
  F_spec_l23Play_l1 r g c i (s.1,s.2,((leftN s.2:Nat):Int))=some (bif (stp g.Edges c s x).1 != 0 then .rt ((stp g.Edges c s x).1,(i:Int),[]) else .nx ((stp g.Edges c s x).2.1,(stp g.Edges c s x).2.2,((leftN (stp g.Edges c s x).2.2:Nat):Int))):=by
 have hp:s.1.length≤1048576:=by have:=hs.len; have:=h.qs; omega
 unfold F_spec_l23Play_l1 stp
 simp only [getI_nat,hx,Option.bind_some]
 cases hg:x.Gate==-1 with
 | true =>
  simp only [cond_true]
  rw [spec_joins h.edges]
  simp only [Option.bind_some]
  cases joinsB g.Edges x.A x.B with
  | false=>rfl
  | true=>simp only [Bool.not_true,cond_false,swap_spec hp,Option.bind_some,cond_true,orR]; rfl
 | false =>
  simp only [cond_false]
  rw [ready_spec h.gl hs.dn]
  cases hz:(x.A != 0)||(x.B != 0) with
  | true=>rfl
  | false =>
   simp only [Bool.not_false,gb,cond_true,Option.bind_some,Bool.false_or]
   cases hr:rdB c s.2 x.Gate with
   | false=>rfl
   | true =>
    obtain ⟨r0,r1,r2⟩:=rd_range hr
    simp only [Bool.not_true,cond_false]
    rw [getI_gd dGate r0 r1]
    simp only [Option.bind_some]
    rw [near_spec h.edges (inP_of h hs r0 r1)]
    simp only [Option.bind_some]
    cases fitB g.Edges s.1 (c.Gates.getD x.Gate.toNat dGate) with
    | false=>rfl
    | true =>
     simp only [Bool.not_true,cond_false,cond_true]
     rw [getI_gd (l:=s.2) false r0 (by rw [hs.dn]; exact r1)]
     have hle:=left_le s.2
     have hd:=hs.dn
     have hgl:=h.gl
     have hset:=left_set s.2 x.Gate.toNat (by omega) r2
     simp only [Option.bind_some,orR]
     rw [wrap_i64 ⟨by omega,by omega⟩]
     have:((leftN s.2:Nat):Int)-1=((leftN (s.2.set x.Gate.toNat true):Nat):Int):=by omega
     rw [this]; rfl
theorem check_step {g:TCouplingGraph} {c:TCircuit} (h:ROk g c) {r:TRoute} {i:Nat} {x:TRouteStep} (hx:r.Steps[i]?=some x) {s:List Int×List Bool} (hs:RInv g c s) (p0:List Int) (d0:List Bool) :
  F_impl_check_l1 r (Trouting.mk g c p0 d0) g i s=some (bif (stp g.Edges c s x).1 != 0 then .rt ((stp g.Edges c s x).1,(i:Int),Trouting.mk g c (stp g.Edges c s x).2.1 (stp g.Edges c s x).2.2) else .nx (stp g.Edges c s x).2):=by
 unfold F_impl_check_l1
 obtain ⟨s1,s2⟩:=s
 simp only [getI_nat,hx,Option.bind_some]
 rw [step_impl h hs x]
 simp only [Option.bind_some]
 cases (stp g.Edges c (s1,s2) x).1 != 0 <;> rfl
theorem play_both {g:TCouplingGraph} {c:TCircuit} (h:ROk g c) {r:TRoute} (h1:r.Start.length≤1048576) (h2:r.Steps.length≤1048576) :
  ∃ code at_ p rt,F_spec_l23Play g c r=some (code,at_,p)∧F_impl_check g c r=some (code,at_,rt)∧p.length≤1048576∧(code=0→rt.place=p∧RInv g c (r.Start,List.replicate c.Gates.length false) ∧
   ∃ e,forX (F_impl_check_l1 r (Trouting.mk g c r.Start (List.replicate c.Gates.length false)) g) r.Steps.length 0 (r.Start,List.replicate c.Gates.length false)=some (.inl e)):=by
 obtain ⟨b,b1,b2,b3⟩:=place_both h.nodes c.Qubits r.Start h1
 unfold F_spec_l23Play F_impl_check
 rw [b1,b2]
 simp only [Option.bind_some]
 cases b with
 | false=>exact ⟨1,0,[],_,rfl,rfl,by simp,fun h=>absurd h (by decide)⟩
 | true =>
  obtain ⟨l1,l2⟩:=b3 rfl
  have hgl:=h.gl
  have hs0:RInv g c (r.Start,List.replicate c.Gates.length false):=⟨l1,by simp,l2⟩
  unfold F_spec_l1Own F_impl_newRouting F_slices_Clone_int_int
  simp only [Bool.not_true,cond_false]
  rw [chk_t (by omega)]
  simp only [Option.bind_some]
  rw [chk_t ⟨by omega,by omega⟩,chk_t (by omega),chk_t ⟨by omega,by omega⟩]
  simp only [Option.bind_some]
  rw [chk_t (by omega)]
  have e0:((c.Gates.length:Nat):Int)=((leftN (List.replicate c.Gates.length false):Nat):Int):=by rw [left_rep]
  rcases forX2_inv (f:=F_spec_l23Play_l1 r g c) (g:=F_impl_check_l1 r (Trouting.mk g c r.Start (List.replicate c.Gates.length false)) g) (fun _ s t=>s=(t.1,t.2,((leftN t.2:Nat):Int))∧RInv g c t) (fun q q'=>q.1=q'.1∧q.2.1=q'.2.1∧q.1≠0∧q.2.2=[]) r.Steps.length 0 (r.Start,List.replicate c.Gates.length false,(c.Gates.length:Int)) (r.Start,List.replicate c.Gates.length false) ⟨by rw [e0],hs0⟩ (fun i s t _ hi hI=>by
   obtain ⟨rfl,ht⟩:=hI
   have hx:=List.getElem?_eq_getElem (show i<r.Steps.length by omega)
   generalize r.Steps[i]=x at hx
   rw [play_step h hx ht,check_step h hx ht]
   cases hc:(stp g.Edges c t x).1 != 0 with
   | true=>exact .inr ⟨_,_,rfl,rfl,rfl,rfl,by simpa using hc,rfl⟩
   | false=>exact .inl ⟨_,_,rfl,rfl,rfl,step_inv h ht x⟩) with ⟨s,t,f1,f2,rfl,f4⟩ | ⟨q,q',f1,f2,f3,f4,f5,f6⟩
  ·rw [f1,f2]
   simp only [Option.bind_some,orR]
   rw [contains_false (by rw [f4.dn]; omega)]
   simp only [Option.bind_some]
   have ed:decide ((0:Int)<((leftN t.2:Nat):Int))=decide (0<leftN t.2):=by
    rw [Bool.eq_iff_iff,decide_eq_true_eq,decide_eq_true_eq]; omega
   rw [ed]
   have hl:=f4.len
   have hq:=h.qs
   cases decide (0<leftN t.2) with
   | true=>exact ⟨5,_,[],_,rfl,rfl,by simp,fun h=>absurd h (by decide)⟩
   | false=>exact ⟨0,0,t.1,_,rfl,rfl,by omega,fun _=>⟨rfl,hs0,t,rfl⟩⟩
  ·rw [f1,f2]
   simp only [Option.bind_some,orR]
   obtain ⟨c1,a1,p1⟩:=q
   obtain ⟨c2,a2,r2⟩:=q'
   simp only at f3 f4 f5 f6
   subst f3 f4 f6
   exact ⟨c1,a1,[],r2,rfl,rfl,by simp,fun h=>absurd h f5⟩
theorem fits_both (g:TCouplingGraph) (c:TCircuit) (h1:g.Edges.length≤1048576) (h2:c.Gates.length≤1048576):∃ b,F_spec_l23Fits g c=some b∧F_impl_canRoute g c=some b∧(b=true→ROk g c∧c.Qubits≤g.Nodes):=by
 obtain ⟨b,b1,b2,b3⟩:=graph_both g h1
 unfold F_spec_l23Fits F_impl_canRoute
 rw [b1,b2]
 simp only [Option.bind_some]
 cases b with
 | false=>exact ⟨false,rfl,rfl,fun h=>by cases h⟩
 | true =>
  simp only [gb,cond_true,Bool.true_and]
  rw [spec_good,impl_good c h2]
  simp only [Option.bind_some]
  refine ⟨_,rfl,rfl,fun h=>?_⟩
  simp only [Bool.and_eq_true,decide_eq_true_eq] at h
  have hc:=h.1
  unfold cOk at hc
  simp only [Bool.and_eq_true,decide_eq_true_eq] at hc
  obtain ⟨n1,n2⟩:=b3 rfl
  exact ⟨⟨h1,n1,n2,⟨hc.1.1.1,hc.1.1.2⟩,hc.1.2,List.all_eq_true.1 hc.2⟩,h.2⟩

def exB (E:List TEdge) (c:TCircuit) (p:List Int) (dn:List Bool) (k:Nat):Bool:=rdB c dn (k:Int)&&fitB E p (c.Gates.getD k dGate)
def advF (E:List TEdge) (c:TCircuit) (p:List Int):Nat→List Bool→Nat→List Bool×List TRouteStep
 | 0,dn,_=>(dn,[])
 | f+1,dn,k=>if k<c.Gates.length then (if exB E c p dn k=true then ((advF E c p f (dn.set k true) 0).1,TRouteStep.mk (k:Int) 0 0::(advF E c p f (dn.set k true) 0).2) else advF E c p f dn (k+1)) else (dn,[])
theorem ex_left {E:List TEdge} {c:TCircuit} {p:List Int} {dn:List Bool} {k:Nat} (hd:dn.length=c.Gates.length) (h:exB E c p dn k=true):k<c.Gates.length∧leftN (dn.set k true)+1=leftN dn:=by
 unfold exB at h
 rw [Bool.and_eq_true] at h
 obtain ⟨h1,h2,h3⟩:=rd_range h.1
 have hk:k<c.Gates.length:=by omega
 rw [Int.toNat_natCast] at h3
 exact ⟨hk,left_set dn k (by omega) h3⟩
theorem adv_loop {ρ:Type} {E:List TEdge} {c:TCircuit} {p:List Int} {h:(List Bool×List TRouteStep×Int)→Option (Ex (List Bool×List TRouteStep×Int) ρ)}
  (hs:∀ (dn:List Bool) (st:List TRouteStep) (k:Nat),dn.length=c.Gates.length→st.length≤2000000000→k≤c.Gates.length→h (dn,st,(k:Int))=if k<c.Gates.length then (if exB E c p dn k=true then some (.nx (dn.set k true,st++[TRouteStep.mk (k:Int) 0 0],0)) else some (.nx (dn,st,((k+1:Nat):Int)))) else some (.br (dn,st,(k:Int)))) :
  ∀ (f F:Nat) (dn:List Bool) (st:List TRouteStep) (k:Nat),dn.length=c.Gates.length→st.length+leftN dn≤2000000000→k≤c.Gates.length→leftN dn*(c.Gates.length+1)+(c.Gates.length-k)<f→f≤F →
   whX h F (dn,st,(k:Int))=some (.inl ((advF E c p f dn k).1,st++(advF E c p f dn k).2,(c.Gates.length:Int))):=fun f=>by
 induction f with
 | zero=>intro F dn st k _ _ _ h _; exact absurd h (Nat.not_lt_zero _)
 | succ f ih =>
  intro F dn st k hd hb hk hm hF
  obtain ⟨F',rfl⟩:∃ F',F=F'+1:=⟨F-1,by omega⟩
  simp only [whX]
  rw [hs dn st k hd (by omega) hk]
  unfold advF
  by_cases h1:k<c.Gates.length
  ·rw [if_pos h1,if_pos h1]
   by_cases h2:exB E c p dn k=true
   ·rw [if_pos h2,if_pos h2]
    obtain ⟨_,h3⟩:=ex_left hd h2
    have hmul:leftN dn*(c.Gates.length+1)=leftN (dn.set k true)*(c.Gates.length+1)+(c.Gates.length+1):=by rw [← h3,Nat.add_mul,Nat.one_mul]
    have:=ih F' (dn.set k true) (st++[TRouteStep.mk (k:Int) 0 0]) 0 (by rw [List.length_set]; exact hd) (by simp only [List.length_append,List.length_cons,List.length_nil]; omega) (Nat.zero_le _) (by omega) (by omega)
    refine Eq.trans (show _=whX h F' (dn.set k true,st++[TRouteStep.mk (k:Int) 0 0],((0:Nat):Int)) from rfl) ?_
    rw [this,List.append_assoc]
    rfl
   ·rw [if_neg h2,if_neg h2]
    exact ih F' dn st (k+1) hd hb (by omega) (by omega) (by omega)
  ·have:k=c.Gates.length:=by omega
   subst this
   rw [if_neg h1,if_neg h1,List.append_nil]
   rfl
/-- A list of steps that goes through. -/
def Rep (E:List TEdge) (c:TCircuit):(List Int×List Bool)→List TRouteStep→(List Int×List Bool)→Prop
 | s,[],t=>t=s
 | s,x::r,t=>(stp E c s x).1=0∧Rep E c (stp E c s x).2 r t
theorem rep_append {E:List TEdge} {c:TCircuit}:∀ {l l':List TRouteStep} {s t u:List Int×List Bool},Rep E c s l t→Rep E c t l' u→Rep E c s (l++l') u:=fun {l}=>by
 induction l with
 | nil =>
  intro l' s t u h h'
  have h:t=s:=h
  subst h
  exact h'
 | cons x r ih =>
  intro l' s t u h h'
  exact ⟨h.1,ih h.2 h'⟩
theorem stp_ex {E:List TEdge} {c:TCircuit} {p:List Int} {dn:List Bool} {k:Nat} (h:exB E c p dn k=true):stp E c (p,dn) (TRouteStep.mk (k:Int) 0 0)=(0,(p,dn.set k true)):=by
 unfold exB at h
 rw [Bool.and_eq_true] at h
 unfold stp
 simp only
 rw [show (((k:Nat):Int)==-1)=false from by rw [beq_eq_false_iff_ne]; omega,h.1,Int.toNat_natCast,h.2]
 rfl
theorem adv_props {E:List TEdge} {c:TCircuit} {p:List Int}:∀ (f:Nat) (dn:List Bool) (k:Nat),dn.length=c.Gates.length→k≤c.Gates.length→leftN dn*(c.Gates.length+1)+(c.Gates.length-k)<f→(∀ j,j<k→exB E c p dn j=false) →
  (advF E c p f dn k).1.length=c.Gates.length∧Rep E c (p,dn) (advF E c p f dn k).2 (p,(advF E c p f dn k).1)∧(∀ j,j<c.Gates.length→exB E c p (advF E c p f dn k).1 j=false)∧(advF E c p f dn k).2.length+leftN (advF E c p f dn k).1=leftN dn∧(∀ x∈(advF E c p f dn k).2,0≤x.Gate):=fun f=>by
 induction f with
 | zero=>intro dn k _ _ h; exact absurd h (Nat.not_lt_zero _)
 | succ f ih =>
  intro dn k hd hk hm hc
  unfold advF
  by_cases h1:k<c.Gates.length
  ·rw [if_pos h1]
   by_cases h2:exB E c p dn k=true
   ·rw [if_pos h2]
    obtain ⟨_,h3⟩:=ex_left hd h2
    have hmul:leftN dn*(c.Gates.length+1)=leftN (dn.set k true)*(c.Gates.length+1)+(c.Gates.length+1):=by rw [← h3,Nat.add_mul,Nat.one_mul]
    obtain ⟨a1,a2,a3,a4,a5⟩:=ih (dn.set k true) 0 (by rw [List.length_set]; exact hd) (Nat.zero_le _) (by omega) (fun j hj=>absurd hj (Nat.not_lt_zero _))
    have hst:=stp_ex (E:=E) (c:=c) (p:=p) h2
    refine ⟨a1,⟨by rw [hst],by rw [hst]; exact a2⟩,a3,by simp only [List.length_cons]; omega,fun x hx=>?_⟩
    rcases List.mem_cons.1 hx with rfl | hx
    ·exact Int.natCast_nonneg _
    ·exact a5 x hx
   ·rw [if_neg h2]
    refine ih dn (k+1) hd (by omega) (by omega) (fun j hj=>?_)
    by_cases e:j=k
    ·subst e; exact Bool.eq_false_iff.2 h2
    ·exact hc j (by omega)
  ·have:k=c.Gates.length:=by omega
   subst this
   rw [if_neg h1]
   exact ⟨hd,rfl,hc,by simp,fun x hx=>by cases hx⟩
/-- All gates that can be executed are. -/
def advD (E:List TEdge) (c:TCircuit) (p:List Int) (dn:List Bool):List Bool×List TRouteStep:=advF E c p (leftN dn*(c.Gates.length+1)+c.Gates.length+1) dn 0
theorem advD_props {E:List TEdge} {c:TCircuit} (p:List Int) {dn:List Bool} (hd:dn.length=c.Gates.length):(advD E c p dn).1.length=c.Gates.length∧Rep E c (p,dn) (advD E c p dn).2 (p,(advD E c p dn).1)∧(∀ j,j<c.Gates.length→exB E c p (advD E c p dn).1 j=false)∧(advD E c p dn).2.length+leftN (advD E c p dn).1=leftN dn∧(∀ x∈(advD E c p dn).2,0≤x.Gate) :=
 adv_props _ dn 0 hd (Nat.zero_le _) (by omega) (fun j hj=>absurd hj (Nat.not_lt_zero _))
theorem adv_fuel {dn:List Bool} {c:TCircuit} (hd:dn.length=c.Gates.length) (hg:c.Gates.length≤400):leftN dn*(c.Gates.length+1)+c.Gates.length+1≤fuel:=by
 have h1:=left_le dn
 have h2:leftN dn*(c.Gates.length+1)≤400*401:=Nat.mul_le_mul (by omega) (by omega)
 have:leftN dn*(c.Gates.length+1)+c.Gates.length+1<fuel:=fuel_big (by omega)
 omega
theorem adv_impl {g:TCouplingGraph} {c:TCircuit} (h:ROk g c) {p:List Int} {dn:List Bool} (hs:RInv g c (p,dn)) {st:List TRouteStep} (hl:st.length≤1000000000) :
  F_impl_routeNode_advance (TrouteNode.mk (Trouting.mk g c p dn) st)=some (TrouteNode.mk (Trouting.mk g c p (advD g.Edges c p dn).1) (st++(advD g.Edges c p dn).2),(advD g.Edges c p dn).1):=by
 have hgl:=h.gl
 have hd:dn.length=c.Gates.length:=hs.dn
 unfold F_impl_routeNode_advance
 have:=adv_loop (E:=g.Edges) (c:=c) (p:=p) (h:=F_impl_routeNode_advance_l1 (TrouteNode.mk (Trouting.mk g c p dn) st)) (fun dn' st' k hd' hl' hk=>by
  have hr':RInv g c (p,dn'):=⟨hs.len,hd',hs.pl⟩
  unfold F_impl_routeNode_advance_l1
  simp only
  by_cases h1:k<c.Gates.length
  ·rw [if_pos h1,decide_eq_true (show (k:Int)<(c.Gates.length:Int) by omega),ready_impl h.gl hd' g p (k:Int)]
   simp only [cond_true,Option.bind_some]
   cases hrd:rdB c dn' (k:Int) with
   | false =>
    have hex:¬ exB g.Edges c p dn' k=true:=by unfold exB; rw [hrd]; simp
    rw [if_neg hex]
    simp only [gb,cond_false,Option.bind_some,Bool.false_and]
    rw [wr (a:=(k:Int)+1) (by omega)]
    rfl
   | true =>
    rw [fits_impl h.edges h.eok (c:=c) (p:=p) (dn:=dn') (k:=(k:Int)) (by omega) (by omega) (inP_of h hr' (by omega) (by omega))]
    simp only [gb,cond_true,Option.bind_some,Bool.true_and,Int.toNat_natCast]
    cases hf:fitB g.Edges p (c.Gates.getD k dGate) with
    | false =>
     have hex:¬ exB g.Edges c p dn' k=true:=by unfold exB; rw [hf]; simp
     rw [if_neg hex]
     simp only [cond_false,Option.bind_some]
     rw [wr (a:=(k:Int)+1) (by omega)]
     rfl
    | true =>
     have hex:exB g.Edges c p dn' k=true:=by unfold exB; rw [hrd,hf]; rfl
     rw [if_pos hex]
     simp only [cond_true]
     rw [getI_nat,List.getElem?_eq_getElem (show k<dn'.length by omega)]
     simp only [Option.bind_some]
     rw [chk_t (by omega)]
     rfl
  ·have:k=c.Gates.length:=by omega
   subst this
   rw [if_neg h1,decide_eq_false (by omega)]
   rfl) (leftN dn*(c.Gates.length+1)+c.Gates.length+1) fuel dn st 0 hd (by have:=left_le dn; omega) (Nat.zero_le _) (by omega) (adv_fuel hd hgl)
 have e0:whX (F_impl_routeNode_advance_l1 (TrouteNode.mk (Trouting.mk g c p dn) st)) fuel (dn,st,(0:Int))=_:=this
 show (whX (F_impl_routeNode_advance_l1 (TrouteNode.mk (Trouting.mk g c p dn) st)) fuel (dn,st,(0:Int))).bind _=_
 rw [e0]
 rfl
theorem adv_spec {g:TCouplingGraph} {c:TCircuit} (h:ROk g c) {p:List Int} {dn:List Bool} (hs:RInv g c (p,dn)) {st:List TRouteStep} (hl:st.length≤1000000000) (from_:Int) :
  F_spec_l23Run g c (Tl23Node.mk p dn from_ st)=some (Tl23Node.mk p (advD g.Edges c p dn).1 from_ (st++(advD g.Edges c p dn).2)):=by
 have hgl:=h.gl
 have hd:dn.length=c.Gates.length:=hs.dn
 unfold F_spec_l23Run
 have:=adv_loop (E:=g.Edges) (c:=c) (p:=p) (h:=F_spec_l23Run_l1 c g (Tl23Node.mk p dn from_ st)) (fun dn' st' k hd' hl' hk=>by
  have hr':RInv g c (p,dn'):=⟨hs.len,hd',hs.pl⟩
  unfold F_spec_l23Run_l1
  simp only
  by_cases h1:k<c.Gates.length
  ·rw [if_pos h1,decide_eq_true (show (k:Int)<(c.Gates.length:Int) by omega),ready_spec h.gl hd' (k:Int)]
   simp only [cond_true,Option.bind_some]
   cases hrd:rdB c dn' (k:Int) with
   | false =>
    have hex:¬ exB g.Edges c p dn' k=true:=by unfold exB; rw [hrd]; simp
    rw [if_neg hex]
    simp only [gb,cond_false,Option.bind_some,Bool.false_and]
    rw [wr (a:=(k:Int)+1) (by omega)]
    rfl
   | true =>
    simp only [gb,cond_true]
    rw [getI_gd dGate (by omega) (by omega),Int.toNat_natCast]
    simp only [Option.bind_some]
    have hin:=inP_of h hr' (k:=(k:Int)) (by omega) (by omega)
    rw [Int.toNat_natCast] at hin
    rw [near_spec h.edges hin]
    simp only [Option.bind_some,Bool.true_and]
    cases hf:fitB g.Edges p (c.Gates.getD k dGate) with
    | false =>
     have hex:¬ exB g.Edges c p dn' k=true:=by unfold exB; rw [hf]; simp
     rw [if_neg hex]
     simp only [cond_false,Option.bind_some]
     rw [wr (a:=(k:Int)+1) (by omega)]
     rfl
    | true =>
     have hex:exB g.Edges c p dn' k=true:=by unfold exB; rw [hrd,hf]; rfl
     rw [if_pos hex]
     simp only [cond_true]
     rw [getI_nat,List.getElem?_eq_getElem (show k<dn'.length by omega)]
     simp only [Option.bind_some]
     rw [chk_t (by omega)]
     rfl
  ·have:k=c.Gates.length:=by omega
   subst this
   rw [if_neg h1,decide_eq_false (by omega)]
   rfl) (leftN dn*(c.Gates.length+1)+c.Gates.length+1) fuel dn st 0 hd (by have:=left_le dn; omega) (Nat.zero_le _) (by omega) (adv_fuel hd hgl)
 rw [chk_t (by simp only; omega)]
 have e0:whX (F_spec_l23Run_l1 c g (Tl23Node.mk p dn from_ st)) fuel (dn,st,(0:Int))=_:=this
 show (whX (F_spec_l23Run_l1 c g (Tl23Node.mk p dn from_ st)) fuel (dn,st,(0:Int))).bind _=_
 rw [e0]
 rfl
def swN:List TRouteStep→Nat
 | []=>0
 | x::r=>(bif x.Gate==-1 then 1 else 0)+swN r
theorem sw_app:∀ (l:List TRouteStep) (x:TRouteStep),swN (l++[x])=swN l+(bif x.Gate==-1 then 1 else 0)
 | [],x=>by show (bif x.Gate==-1 then 1 else 0)+0=0+_; omega
 | y::t,x=>by
  show (bif y.Gate==-1 then 1 else 0)+swN (t++[x])=(bif y.Gate==-1 then 1 else 0)+swN t+_
  rw [sw_app t x]; omega
theorem sw_le:∀ (l:List TRouteStep),swN l≤l.length
 | []=>Nat.le_refl _
 | y::t=>by
  have:=sw_le t
  show (bif y.Gate==-1 then 1 else 0)+swN t≤t.length+1
  cases (y.Gate==-1) <;> simp only [cond_true,cond_false] <;> omega
theorem sw_cat:∀ (l l':List TRouteStep),swN (l++l')=swN l+swN l'
 | [],l'=>by show swN l'=0+swN l'; omega
 | y::t,l'=>by
  show (bif y.Gate==-1 then 1 else 0)+swN (t++l')=(bif y.Gate==-1 then 1 else 0)+swN t+swN l'
  rw [sw_cat t l']; omega
theorem sw_none:∀ {l:List TRouteStep},(∀ x∈l,0≤x.Gate)→swN l=0
 | [],_=>rfl
 | y::t,h=>by
  have h1:=h y (.head _)
  show (bif y.Gate==-1 then 1 else 0)+swN t=0
  rw [show (y.Gate==-1)=false from by rw [beq_eq_false_iff_ne]; omega,sw_none (fun x hx=>h x (.tail _ hx))]
  rfl

def mskN:List Bool→Nat
 | []=>0
 | b::t=>(bif b then 1 else 0)+2*mskN t
theorem msk_lt:∀ (l:List Bool),mskN l<2 ^ l.length
 | []=>by decide
 | b::t=>by
  have:=msk_lt t
  show (bif b then 1 else 0)+2*mskN t<2 ^ (t.length+1)
  rw [Nat.pow_succ]
  cases b <;> simp only [cond_true,cond_false] <;> omega
theorem msk_inj:∀ {l l':List Bool},l.length=l'.length→mskN l=mskN l'→l=l'
 | [],[],_,_=>rfl
 | [],_::_,h,_=>by simp at h
 | _::_,[],h,_=>by simp at h
 | b::t,b'::t',h,e=>by
  have e:(bif b then 1 else 0)+2*mskN t=(bif b' then 1 else 0)+2*mskN t':=e
  have h2:t.length=t'.length:=by simpa using h
  have h3:b=b'∧mskN t=mskN t':=by
   cases b <;> cases b' <;> simp only [cond_true,cond_false] at e <;> refine ⟨?_,by omega⟩ <;> first | rfl | omega
  rw [h3.1,msk_inj h2 h3.2]
theorem msk_snoc:∀ (l:List Bool) (b:Bool),mskN (l++[b])=mskN l+(bif b then 2 ^ l.length else 0)
 | [],b=>by cases b <;> rfl
 | c::t,b=>by
  show (bif c then 1 else 0)+2*mskN (t++[b])=(bif c then 1 else 0)+2*mskN t+_
  rw [msk_snoc t b,List.length_cons,Nat.pow_succ]
  cases b <;> simp only [cond_true,cond_false] <;> omega
theorem msk_rep_true:∀ (n:Nat),mskN (List.replicate n true)=2 ^ n-1
 | 0=>rfl
 | n+1=>by
  rw [List.replicate_succ]
  show 1+2*mskN (List.replicate n true)=_
  rw [msk_rep_true n,Nat.pow_succ]
  have:=Nat.two_pow_pos n
  omega
theorem left_zero:∀ {l:List Bool},leftN l=0→l=List.replicate l.length true
 | [],_=>rfl
 | b::t,h=>by
  have h:(bif b then 0 else 1)+leftN t=0:=h
  cases b
  ·simp only [cond_false] at h; omega
  ·simp only [cond_true,Nat.zero_add] at h
   rw [List.length_cons,List.replicate_succ,← left_zero h]
theorem msk_all {l:List Bool} {n:Nat} (hl:l.length=n):mskN l=2 ^ n-1↔leftN l=0:=by
 constructor
 ·intro h
  have h2:l=List.replicate n true:=msk_inj (by rw [hl,List.length_replicate]) (by rw [h,msk_rep_true])
  rw [h2]
  clear h h2 hl
  induction n with
  | zero=>rfl
  | succ n ih=>rw [List.replicate_succ]; show 0+leftN (List.replicate n true)=0; omega
 ·intro h
  rw [left_zero h,hl,msk_rep_true]
theorem rt_or {m i:Nat} (hm:m<2 ^ i):m ||| 2 ^ i=m+2 ^ i:=by
 rw [Nat.or_comm,← Nat.one_shiftLeft,Nat.shiftLeft_eq,Nat.one_mul,Nat.add_comm]
 have:=Nat.two_pow_add_eq_or_of_lt hm 1
 rw [Nat.mul_one] at this
 exact this.symm
theorem rt_wu {a:Nat} (h:a<9223372036854775808):IntKind.u64.wrap (a:Int)=(a:Int):=by
 simp [IntKind.wrap,IntKind.signed,IntKind.bits]
 omega
theorem rt_ori {a b:Nat} (ha:a<9223372036854775808) (hb:b<9223372036854775808):bits .or .i64 (a:Int) (b:Int)=((a ||| b:Nat):Int):=by
 have h1:a ||| b<2 ^ 63:=Nat.or_lt_two_pow ha hb
 show IntKind.i64.wrap ((BitVec.ofInt 64 (a:Int) ||| BitVec.ofInt 64 (b:Int)).toNat:Int)=_
 have e1:BitVec.ofInt 64 (a:Int)=BitVec.ofNat 64 a:=rfl
 have e2:BitVec.ofInt 64 (b:Int)=BitVec.ofNat 64 b:=rfl
 rw [e1,e2,BitVec.toNat_or,BitVec.toNat_ofNat,BitVec.toNat_ofNat,Nat.mod_eq_of_lt (by omega),Nat.mod_eq_of_lt (by omega)]
 exact wrap_i64 ⟨by omega,by omega⟩
theorem rt_oru {a b:Nat} (ha:a<9223372036854775808) (hb:b<9223372036854775808):bits .or .u64 (a:Int) (b:Int)=((a ||| b:Nat):Int):=by
 have h1:a ||| b<2 ^ 63:=Nat.or_lt_two_pow ha hb
 show IntKind.u64.wrap ((BitVec.ofInt 64 (a:Int) ||| BitVec.ofInt 64 (b:Int)).toNat:Int)=_
 have e1:BitVec.ofInt 64 (a:Int)=BitVec.ofNat 64 a:=rfl
 have e2:BitVec.ofInt 64 (b:Int)=BitVec.ofNat 64 b:=rfl
 rw [e1,e2,BitVec.toNat_or,BitVec.toNat_ofNat,BitVec.toNat_ofNat,Nat.mod_eq_of_lt (by omega),Nat.mod_eq_of_lt (by omega)]
 exact rt_wu h1
theorem rt_pow {i:Nat} (h:i≤40):2 ^ i≤1099511627776:=by
 have:2 ^ i≤2 ^ 40:=Nat.pow_le_pow_right (by decide) h
 exact this
theorem rt_shli {i:Nat} (h:i≤40):shlK .i64 1 (i:Int)=((2 ^ i:Nat):Int):=by
 have hp:=rt_pow h
 unfold shlK
 rw [Int.toNat_natCast,Nat.min_eq_left (show i≤IntKind.bits .i64 from by show i≤64; omega)]
 have:(1:Int)*2 ^ i=((2 ^ i:Nat):Int):=by push_cast; omega
 rw [this]
 generalize 2 ^ i=q at hp
 exact wrap_i64 ⟨by omega,by omega⟩
theorem rt_shlu {i:Nat} (h:i≤40):shlK .u64 1 (i:Int)=((2 ^ i:Nat):Int):=by
 have hp:=rt_pow h
 unfold shlK
 rw [Int.toNat_natCast,Nat.min_eq_left (show i≤IntKind.bits .u64 from by show i≤64; omega)]
 have:(1:Int)*2 ^ i=((2 ^ i:Nat):Int):=by push_cast; omega
 rw [this]
 generalize 2 ^ i=q at hp
 exact rt_wu (by omega)
theorem msk_take {dn:List Bool} {i:Nat} {b:Bool} (hb:dn[i]?=some b):mskN (dn.take (i+1))=mskN (dn.take i)+(bif b then 2 ^ i else 0)∧mskN (dn.take i)<2 ^ i:=by
 have hi:=(List.getElem?_eq_some_iff.1 hb).1
 have hl:(dn.take i).length=i:=by rw [List.length_take]; omega
 have h1:=msk_lt (dn.take i)
 rw [hl] at h1
 refine ⟨?_,h1⟩
 rw [List.take_add_one,hb,Option.toList_some,msk_snoc,hl]
theorem mask_spec {dn:List Bool} (h:dn.length≤40):F_spec_l23Mask dn=some ((mskN dn:Nat):Int):=by
 unfold F_spec_l23Mask
 rw [chk_t (by omega)]
 obtain ⟨z,h1,h2⟩:=forN_inv (f:=F_spec_l23Mask_l1 dn) (fun i z=>z=((mskN (dn.take i):Nat):Int)) dn.length 0 0 rfl (fun i z _ hi hz=>by
  have hb:=List.getElem?_eq_getElem (show i<dn.length by omega)
  generalize dn[i]=b at hb
  obtain ⟨h3,h4⟩:=msk_take hb
  have hp:=rt_pow (i:=i) (by omega)
  refine ⟨_,?_,by rw [h3]⟩
  unfold F_spec_l23Mask_l1
  rw [getI_nat,hb,hz]
  simp only [Option.bind_some]
  cases b
  ·simp only [cond_false,Option.bind_some,Nat.add_zero]
  ·simp only [cond_true]
   rw [rt_wu (by omega),chk_t (by omega),rt_shli (by omega),rt_ori (by omega) (by omega),rt_or h4]
   rfl)
 rw [h1,h2,Nat.zero_add,List.take_length]
 rfl
def keyR (p:List Int) (dn:List Bool):TrouteKey:=TrouteKey.mk (p.getD 0 0,p.getD 1 0,p.getD 2 0,p.getD 3 0,p.getD 4 0) ((mskN dn:Nat):Int)
theorem key_impl {g:TCouplingGraph} {c:TCircuit} {p:List Int} {dn:List Bool} {st:List TRouteStep} (h:dn.length≤40):F_impl_routeNode_key (TrouteNode.mk (Trouting.mk g c p dn) st)=some (keyR p dn):=by
 unfold F_impl_routeNode_key
 have hs:=whX_inv (f:=F_impl_routeNode_key_l1 (TrouteNode.mk (Trouting.mk g c p dn) st)) (fun s=>∃ i:Nat,i≤dn.length∧s=(((mskN (dn.take i):Nat):Int),(i:Int))) (fun s=>s.1=((mskN dn:Nat):Int)) (fun _:TrouteKey=>False) (fun s=>dn.length+1-s.2.toNat) (fun s hI=>by
  obtain ⟨i,hi,rfl⟩:=hI
  unfold F_impl_routeNode_key_l1
  simp only
  by_cases hlt:i<dn.length
  ·have hb:=List.getElem?_eq_getElem hlt
   generalize dn[i]=b at hb
   obtain ⟨h3,h4⟩:=msk_take hb
   have hp:=rt_pow (i:=i) (by omega)
   rw [decide_eq_true (show (i:Int)<(dn.length:Int) by omega),getI_nat,hb]
   simp only [cond_true,Option.bind_some]
   refine .inl ⟨(((mskN (dn.take (i+1)):Nat):Int),((i+1:Nat):Int)),?_,⟨i+1,by omega,rfl⟩,by simp only; omega⟩
   rw [h3]
   cases b
   ·simp only [cond_false,Option.bind_some,Nat.add_zero]
    rw [wr (a:=(i:Int)+1) (by omega)]
    rfl
   ·simp only [cond_true]
    rw [chk_t (by omega),rt_shlu (by omega),rt_oru (by omega) (by omega),rt_or h4]
    simp only [Option.bind_some]
    rw [wr (a:=(i:Int)+1) (by omega)]
    rfl
  ·have:i=dn.length:=by omega
   subst this
   rw [decide_eq_false (by omega)]
   exact .inr (.inl ⟨_,rfl,by rw [List.take_length]⟩)) fuel (0,0) ⟨0,Nat.zero_le _,rfl⟩ (fuel_big (by simp only; omega))
 rcases hs with ⟨⟨a,b⟩,h1,h2⟩ | ⟨r,_,h⟩
 ·simp only at h2
  rw [h1]
  subst h2
  rfl
 ·exact h.elim
/-- A placement as a number. -/
def codeN (p:List Int):Nat:=p.foldl (fun n k=>n*5+k.toNat) 0
theorem code_app (l:List Int) (x:Int):codeN (l++[x])=codeN l*5+x.toNat:=by
 unfold codeN
 rw [List.foldl_append]; rfl
theorem code_lt:∀ (k:Nat) (l:List Int),l.length=k→(∀ x∈l,0≤x∧x<5)→codeN l<5 ^ k:=fun k=>by
 induction k with
 | zero=>intro l hl _; rw [List.eq_nil_of_length_eq_zero hl]; decide
 | succ k ih =>
  intro l hl h
  have hne:l≠[]:=fun e=>by rw [e] at hl; cases hl
  rw [← List.dropLast_concat_getLast hne,code_app,Nat.pow_succ]
  have h1:=ih l.dropLast (by rw [List.length_dropLast,hl]; rfl) (fun x hx=>h x (List.dropLast_subset l hx))
  have h2:=h _ (List.getLast_mem hne)
  omega
theorem code_inj:∀ (k:Nat) (l l':List Int),l.length=k→l'.length=k→(∀ x∈l,0≤x∧x<5)→(∀ x∈l',0≤x∧x<5)→codeN l=codeN l'→l=l':=fun k=>by
 induction k with
 | zero=>intro l l' h h' _ _ _; rw [List.eq_nil_of_length_eq_zero h,List.eq_nil_of_length_eq_zero h']
 | succ k ih =>
  intro l l' hl hl' h h' e
  have hne:l≠[]:=fun e=>by rw [e] at hl; cases hl
  have hne':l'≠[]:=fun e=>by rw [e] at hl'; cases hl'
  rw [← List.dropLast_concat_getLast hne,← List.dropLast_concat_getLast hne',code_app,code_app] at e
  have h2:=h _ (List.getLast_mem hne)
  have h2':=h' _ (List.getLast_mem hne')
  have e1:codeN l.dropLast=codeN l'.dropLast:=by omega
  have e2:l.getLast hne=l'.getLast hne':=by omega
  have:=ih l.dropLast l'.dropLast (by rw [List.length_dropLast,hl]; rfl) (by rw [List.length_dropLast,hl']; rfl) (fun x hx=>h x (List.dropLast_subset l hx)) (fun x hx=>h' x (List.dropLast_subset l' hx)) e1
  rw [← List.dropLast_concat_getLast hne,← List.dropLast_concat_getLast hne',this,e2]
theorem code_spec {p:List Int} (hl:p.length≤5) (h:∀ x∈p,0≤x∧x<5):F_spec_l23Code p=some ((codeN p:Nat):Int):=by
 unfold F_spec_l23Code
 rw [chk_t (by omega)]
 obtain ⟨z,h1,h2⟩:=forN_inv (f:=F_spec_l23Code_l1 p) (fun i z=>z=((codeN (p.take i):Nat):Int)) p.length 0 0 rfl (fun i z _ hi hz=>by
  have hx:=List.getElem?_eq_getElem (show i<p.length by omega)
  generalize p[i]=x at hx
  have hxb:=h x (List.mem_of_getElem? hx)
  have hlt:=code_lt i (p.take i) (by rw [List.length_take]; omega) (fun y hy=>h y (List.take_subset i p hy))
  have h5:5 ^ i≤5 ^ 5:=Nat.pow_le_pow_right (by decide) (by omega)
  have h5':5 ^ 5=3125:=by decide
  refine ⟨_,?_,rfl⟩
  unfold F_spec_l23Code_l1
  rw [getI_nat,hx,hz]
  simp only [Option.bind_some]
  rw [wr (a:=((codeN (p.take i):Nat):Int)*5) (by omega),wr (by omega),List.take_add_one,hx,Option.toList_some,code_app]
  congr 1
  omega)
 rw [h1,h2,Nat.zero_add,List.take_length]
 rfl

/-- What is executed has all before it executed. -/
def ValidD (c:TCircuit) (dn:List Bool):Prop:=∀ k,k<c.Gates.length→dn.getD k false=true→∀ i,i<k→commB (c.Gates.getD i dGate) (c.Gates.getD k dGate)=true→dn.getD i false=true
def ClosedD (E:List TEdge) (c:TCircuit) (p:List Int) (dn:List Bool):Prop:=∀ j,j<c.Gates.length→exB E c p dn j=false
theorem valid_rep (c:TCircuit) (n:Nat):ValidD c (List.replicate n false):=fun k _ h=>by
 exfalso
 rw [List.getD_eq_getElem?_getD,List.getElem?_replicate] at h
 split at h <;> cases h
theorem rd_iff {c:TCircuit} {dn:List Bool} {k:Nat} (hk:k<c.Gates.length):rdB c dn (k:Int)=true↔dn.getD k false=false∧∀ i,i<k→commB (c.Gates.getD i dGate) (c.Gates.getD k dGate)=true→dn.getD i false=true:=by
 unfold rdB
 rw [decide_eq_true (show (0:Int)≤(k:Int) by omega),decide_eq_true (show (k:Int)<(c.Gates.length:Int) by omega),Int.toNat_natCast]
 simp only [Bool.and_self,Bool.true_and,Bool.and_eq_true,Bool.not_eq_true',List.any_eq_false,List.mem_range,Bool.and_eq_true,Bool.not_eq_true',not_and]
 refine and_congr Iff.rfl ⟨fun h i hi hc=>?_,fun h i hi hn hc=>?_⟩
 ·cases hd:dn.getD i false
  ·exact absurd hc (h i hi hd)
  ·rfl
 ·have:=h i hi hc
  rw [hn] at this; cases this
theorem getD_set' {dn:List Bool} {k i:Nat} (hk:k<dn.length):(dn.set k true).getD i false=if i=k then true else dn.getD i false:=by
 rw [List.getD_eq_getElem?_getD,List.getElem?_set]
 by_cases h:i=k
 ·subst h; rw [if_pos rfl,if_pos hk,if_pos rfl]; rfl
 ·rw [if_neg (fun e=>h e.symm),if_neg h,List.getD_eq_getElem?_getD]
theorem valid_set {c:TCircuit} {dn:List Bool} {k:Nat} (hd:dn.length=c.Gates.length) (hk:k<c.Gates.length) (hv:ValidD c dn) (hr:rdB c dn (k:Int)=true):ValidD c (dn.set k true):=fun j hj hdj i hi hc=>by
 obtain ⟨h1,h2⟩:=(rd_iff hk).1 hr
 rw [getD_set' (by omega)] at hdj ⊢
 by_cases e:i=k
 ·rw [if_pos e]
 ·rw [if_neg e]
  by_cases e2:j=k
  ·subst e2; exact h2 i hi hc
  ·rw [if_neg e2] at hdj
   exact hv j hj hdj i hi hc
theorem valid_stp {E:List TEdge} {c:TCircuit} {s:List Int×List Bool} (hd:s.2.length=c.Gates.length) (hv:ValidD c s.2) (x:TRouteStep):ValidD c (stp E c s x).2.2∧(stp E c s x).2.2.length=c.Gates.length:=by
 unfold stp
 cases h1:(x.Gate==-1) with
 | true =>
  simp only [cond_true]
  cases joinsB E x.A x.B <;> exact ⟨hv,hd⟩
 | false =>
  simp only [cond_false]
  cases h2:(((x.A != 0)||(x.B != 0))||!(rdB c s.2 x.Gate)) with
  | true=>exact ⟨hv,hd⟩
  | false =>
   simp only [cond_false]
   cases fitB E s.1 (c.Gates.getD x.Gate.toNat dGate) with
   | false=>exact ⟨hv,hd⟩
   | true =>
    simp only [Bool.or_eq_false_iff,Bool.not_eq_false'] at h2
    obtain ⟨r1,r2,_⟩:=rd_range h2.2
    have he:x.Gate=((x.Gate.toNat:Nat):Int):=by omega
    have hr:=h2.2
    rw [he] at hr
    exact ⟨valid_set hd (by omega) hv hr,by simp only [cond_true,List.length_set]; exact hd⟩
theorem valid_of_rep {E:List TEdge} {c:TCircuit}:∀ {l:List TRouteStep} {s t:List Int×List Bool},s.2.length=c.Gates.length→ValidD c s.2→Rep E c s l t→ValidD c t.2:=fun {l}=>by
 induction l with
 | nil =>
  intro s t _ hv h
  have h:t=s:=h
  rw [h]; exact hv
 | cons x r ih =>
  intro s t hd hv h
  obtain ⟨v1,v2⟩:=valid_stp (E:=E) hd hv x
  exact ih v2 v1 h.2
/-- Of closed states the gates on two qubits tell all. -/
theorem closed_eq {E:List TEdge} {c:TCircuit} {p:List Int} {dn dn':List Bool} (hd:dn.length=c.Gates.length) (hd':dn'.length=c.Gates.length) (hv:ValidD c dn) (hv':ValidD c dn') (hc:ClosedD E c p dn) (hc':ClosedD E c p dn')
  (h2:∀ k,k<c.Gates.length→twoB (c.Gates.getD k dGate)=true→dn.getD k false=dn'.getD k false):dn=dn':=by
 have key:∀ k,k<c.Gates.length→dn.getD k false=dn'.getD k false:=fun k=>by
  induction k using Nat.strongRecOn with
  | _ k ih =>
   intro hk
   cases ht:twoB (c.Gates.getD k dGate) with
   | true=>exact h2 k hk ht
   | false =>
    have hf:∀ q:List Int,fitB E q (c.Gates.getD k dGate)=true:=fun q=>by unfold fitB; rw [ht]; rfl
    have one:∀ (d d':List Bool),ValidD c d→ClosedD E c p d'→(∀ i,i<k→d.getD i false=d'.getD i false)→d.getD k false=true→d'.getD k false=true:=fun d d' v cl hi hdk=>by
     cases hdk':d'.getD k false with
     | true=>rfl
     | false =>
      have hr:rdB c d' (k:Int)=true:=(rd_iff hk).2 ⟨hdk',fun i hik hcm=>by
       rw [← hi i hik]; exact v k hk hdk i hik hcm⟩
      have:=cl k hk
      unfold exB at this
      rw [hr,hf] at this
      cases this
    cases ha:dn.getD k false with
    | true=>exact (one dn dn' hv hc' (fun i hi=>ih i hi (by omega)) ha).symm
    | false =>
     cases hb:dn'.getD k false with
     | true =>
      have:=one dn' dn hv' hc (fun i hi=>(ih i hi (by omega)).symm) hb
      rw [ha] at this; cases this
     | false=>rfl
 apply List.ext_getElem?
 intro k
 by_cases hk:k<c.Gates.length
 ·have:=key k hk
  rw [List.getD_eq_getElem?_getD,List.getD_eq_getElem?_getD,List.getElem?_eq_getElem (show k<dn.length by omega),List.getElem?_eq_getElem (show k<dn'.length by omega)] at this
  rw [List.getElem?_eq_getElem (show k<dn.length by omega),List.getElem?_eq_getElem (show k<dn'.length by omega)]
  exact congrArg some this
 ·rw [List.getElem?_eq_none (by omega),List.getElem?_eq_none (by omega)]
/-- The bits of the gates on two qubits. -/
def twoBits:List TGate→List Bool→List Bool
 | [],_=>[]
 | g::t,dn=>bif twoB g then dn.headD false::twoBits t dn.tail else twoBits t dn.tail
def twoCnt:List TGate→Nat
 | []=>0
 | g::t=>(bif twoB g then 1 else 0)+twoCnt t
theorem two_len:∀ (gs:List TGate) (dn:List Bool),(twoBits gs dn).length=twoCnt gs
 | [],_=>rfl
 | g::t,dn=>by
  unfold twoBits twoCnt
  cases twoB g
  ·simp only [cond_false,Nat.zero_add]; exact two_len t _
  ·simp only [cond_true,List.length_cons]; rw [two_len t]; omega
theorem two_inj:∀ (gs:List TGate) (dn dn':List Bool),dn.length=gs.length→dn'.length=gs.length→twoBits gs dn=twoBits gs dn'→∀ k,k<gs.length→twoB (gs.getD k dGate)=true→dn.getD k false=dn'.getD k false
 | [],_,_,_,_,_,k,hk,_=>absurd hk (Nat.not_lt_zero _)
 | g::t,[],_,h,_,_,_,_,_=>by simp at h
 | g::t,_::_,[],_,h,_,_,_,_=>by simp at h
 | g::t,b::d,b'::d',h,h',e,k,hk,ht=>by
  have hl:d.length=t.length:=by simpa using h
  have hl':d'.length=t.length:=by simpa using h'
  unfold twoBits at e
  simp only [List.headD_cons,List.tail_cons] at e
  cases k with
  | zero =>
   have ht:twoB g=true:=ht
   rw [ht] at e
   simp only [cond_true,List.cons.injEq] at e
   simpa using e.1
  | succ k =>
   have e2:twoBits t d=twoBits t d':=by
    cases hg:twoB g
    ·rw [hg] at e; simpa using e
    ·rw [hg] at e; simp only [cond_true,List.cons.injEq] at e; exact e.2
   have:=two_inj t d d' hl hl' e2 k (by simpa using hk) (by simpa using ht)
   simpa using this
theorem pigeon:∀ (N:Nat) (l:List Nat),l.Nodup→(∀ x∈l,x<N)→l.length≤N
 | 0,l,_,h=>by
  cases l with
  | nil=>exact Nat.le_refl _
  | cons x r=>exact absurd (h x (.head _)) (Nat.not_lt_zero _)
 | N+1,l,hn,h=>by
  by_cases hm:N∈l
  ·have h1:(l.erase N).length≤N:=pigeon N (l.erase N) (hn.erase N) (fun x hx=>by
    have hx2:=(hn.mem_erase_iff).1 hx
    have:=h x hx2.2
    have:=hx2.1
    omega)
   have h2:=List.length_erase_of_mem hm
   omega
  ·have:=pigeon N l hn (fun x hx=>by
    have:=h x hx
    have:x≠N:=fun e=>hm (e ▸ hx)
    omega)
   omega

/-- What every state of the search keeps. -/
structure NdK (g:TCouplingGraph) (c:TCircuit) (start:List Int) (p:List Int) (dn:List Bool) (st:List TRouteStep):Prop where
 inv:RInv g c (p,dn)
 rep:Rep g.Edges c (start,List.replicate c.Gates.length false) st (p,dn)
 cl:ClosedD g.Edges c p dn
 vd:ValidD c dn
theorem joins_edge {g:TCouplingGraph} {c:TCircuit} (h:ROk g c) {e:TEdge} (he:e∈g.Edges):joinsB g.Edges e.A e.B=true:=by
 unfold joinsB
 rw [List.any_eq_true]
 exact ⟨e,he,by simp⟩
theorem edge_rng {g:TCouplingGraph} {c:TCircuit} (h:ROk g c) {e:TEdge} (he:e∈g.Edges):(0≤e.A∧e.A<g.Nodes)∧0≤e.B∧e.B<g.Nodes:=by
 have:=joins_in h.eok (joins_edge h he)
 exact ⟨⟨this.1,this.2.1⟩,this.2.2.1,this.2.2.2.1⟩
theorem swap_inv {g:TCouplingGraph} {c:TCircuit} (h:ROk g c) {e:TEdge} (he:e∈g.Edges) {p:List Int} {dn:List Bool} (hs:RInv g c (p,dn)):RInv g c (swapL p e.A e.B,dn):=by
 obtain ⟨h1,h2⟩:=edge_rng h he
 exact ⟨by show ((swapL p e.A e.B).length:Int)=_; unfold swapL; rw [List.length_map]; exact hs.len,hs.dn,hs.pl.swap h1 h2⟩
theorem adv_inv {g:TCouplingGraph} {c:TCircuit} {p:List Int} {dn:List Bool} (hs:RInv g c (p,dn)):RInv g c (p,(advD g.Edges c p dn).1):=⟨hs.len,(advD_props p hs.dn).1,hs.pl⟩
theorem pl_len {g:TCouplingGraph} {c:TCircuit} (h:ROk g c) {p:List Int} {dn:List Bool} (hs:RInv g c (p,dn)):p.length≤5:=by
 have:=hs.len
 have:=h.qs
 simp only at *
 omega
theorem swapped_impl {g:TCouplingGraph} {c:TCircuit} (h:ROk g c) {e:TEdge} (he:e∈g.Edges) {p:List Int} {dn:List Bool} (hs:RInv g c (p,dn)) {st:List TRouteStep} (hl:st.length≤900000000) :
  F_impl_routeNode_swapped (TrouteNode.mk (Trouting.mk g c p dn) st) e=some (TrouteNode.mk (Trouting.mk g c (swapL p e.A e.B) (advD g.Edges c (swapL p e.A e.B) dn).1) ((st++[TRouteStep.mk (-1) e.A e.B])++(advD g.Edges c (swapL p e.A e.B) dn).2)):=by
 have hp:=pl_len h hs
 have hgl:=h.gl
 have hd:dn.length=c.Gates.length:=hs.dn
 unfold F_impl_routeNode_swapped F_slices_Clone_int_int F_slices_Clone_bool_bool F_slices_Clone_impl_RouteStep_impl_RouteStep
 simp only
 rw [chk_t (by omega)]
 simp only [Option.bind_some]
 rw [chk_t (by omega)]
 simp only [Option.bind_some]
 rw [swap_impl (by omega) g c dn e.A e.B]
 simp only [Option.bind_some]
 rw [chk_t (by omega)]
 simp only [Option.bind_some]
 rw [chk_t (by omega),adv_impl h (swap_inv h he hs) (by simp only [List.length_append,List.length_cons,List.length_nil]; omega)]
 rfl
theorem swapped_spec {g:TCouplingGraph} {c:TCircuit} (h:ROk g c) {e:TEdge} (he:e∈g.Edges) {p:List Int} {dn:List Bool} (hs:RInv g c (p,dn)) (i:Int) :
  (F_spec_l23Swap p e.A e.B).bind (fun r_9=>F_spec_l23Run g c (Tl23Node.mk r_9 dn i [TRouteStep.mk (-1) e.A e.B]))=some (Tl23Node.mk (swapL p e.A e.B) (advD g.Edges c (swapL p e.A e.B) dn).1 i ([TRouteStep.mk (-1) e.A e.B]++(advD g.Edges c (swapL p e.A e.B) dn).2)):=by
 have hp:=pl_len h hs
 rw [swap_spec (by omega)]
 simp only [Option.bind_some]
 exact adv_spec h (swap_inv h he hs) (by simp) i
theorem stp_swap {g:TCouplingGraph} {c:TCircuit} (h:ROk g c) {e:TEdge} (he:e∈g.Edges) (s:List Int×List Bool):stp g.Edges c s (TRouteStep.mk (-1) e.A e.B)=(0,(swapL s.1 e.A e.B,s.2)):=by
 unfold stp
 simp only [joins_edge h he,beq_self_eq_true,cond_true]
/-- The state behind an edge. -/
theorem next_ndk {g:TCouplingGraph} {c:TCircuit} (h:ROk g c) {start:List Int} {e:TEdge} (he:e∈g.Edges) {p:List Int} {dn:List Bool} {st:List TRouteStep} (hn:NdK g c start p dn st) :
  NdK g c start (swapL p e.A e.B) (advD g.Edges c (swapL p e.A e.B) dn).1 ((st++[TRouteStep.mk (-1) e.A e.B])++(advD g.Edges c (swapL p e.A e.B) dn).2):=by
 have hi:=swap_inv h he hn.inv
 obtain ⟨a1,a2,a3,_,_⟩:=advD_props (E:=g.Edges) (c:=c) (swapL p e.A e.B) hi.dn
 have hst:=stp_swap h he (p,dn)
 have r1:Rep g.Edges c (start,List.replicate c.Gates.length false) (st++[TRouteStep.mk (-1) e.A e.B]) (swapL p e.A e.B,dn):=rep_append hn.rep ⟨by rw [hst],by rw [hst]; rfl⟩
 exact ⟨adv_inv hi,rep_append r1 a2,a3,valid_of_rep (E:=g.Edges) hi.dn hn.vd a2⟩
theorem first_ndk {g:TCouplingGraph} {c:TCircuit} {start:List Int} (hi:RInv g c (start,List.replicate c.Gates.length false)):NdK g c start start (advD g.Edges c start (List.replicate c.Gates.length false)).1 (advD g.Edges c start (List.replicate c.Gates.length false)).2:=by
 obtain ⟨a1,a2,a3,_,_⟩:=advD_props (E:=g.Edges) (c:=c) start hi.dn
 exact ⟨adv_inv hi,a2,a3,valid_of_rep (E:=g.Edges) hi.dn (valid_rep c _) a2⟩
theorem key_eq {g:TCouplingGraph} {c:TCircuit} (h:ROk g c) {p p':List Int} {dn dn':List Bool} (hs:RInv g c (p,dn)) (hs':RInv g c (p',dn')) (hk:keyR p dn=keyR p' dn'):p=p'∧dn=dn':=by
 unfold keyR at hk
 simp only [TrouteKey.mk.injEq,Prod.mk.injEq] at hk
 obtain ⟨⟨k0,k1,k2,k3,k4⟩,k5⟩:=hk
 have hl:=pl_len h hs
 have hl':p'.length=p.length:=by
  have a:=hs.len
  have b:=hs'.len
  simp only at a b
  omega
 refine ⟨?_,msk_inj (by have a:=hs.dn; have b:=hs'.dn; simp only at a b; omega) (by omega)⟩
 apply List.ext_getElem?
 intro i
 by_cases hi:i<p.length
 ·have gd:∀ (q:List Int),i<q.length→q[i]?=some (q.getD i 0):=fun q hq=>by
   rw [List.getD_eq_getElem?_getD,List.getElem?_eq_getElem hq]; rfl
  rw [gd p hi,gd p' (by omega)]
  have:i=0∨i=1∨i=2∨i=3∨i=4:=by omega
  rcases this with rfl | rfl | rfl | rfl | rfl
  ·rw [k0]
  ·rw [k1]
  ·rw [k2]
  ·rw [k3]
  ·rw [k4]
 ·rw [List.getElem?_eq_none (by omega),List.getElem?_eq_none (by omega)]

structure RNode where
 p:List Int
 dn:List Bool
 full:List TRouteStep
 fr:Int
 dl:List TRouteStep
def toI (g:TCouplingGraph) (c:TCircuit) (x:RNode):TrouteNode:=TrouteNode.mk (Trouting.mk g c x.p x.dn) x.full
def toS (x:RNode):Tl23Node:=Tl23Node.mk x.p x.dn x.fr x.dl
theorem forN_pair {σ τ:Type} {f:Nat→σ→Option σ} {g:Nat→τ→Option τ} (I:Nat→σ→τ→Prop):∀ (k i:Nat) (s:σ) (t:τ),I i s t→(∀ j s t,i≤j→j<i+k→I j s t→∃ s' t',f j s=some s'∧g j t=some t'∧I (j+1) s' t')→∃ s' t',forN f k i s=some s'∧forN g k i t=some t'∧I (i+k) s' t'
 | 0,i,s,t,h,_=>⟨s,t,rfl,rfl,h⟩
 | k+1,i,s,t,h,hs=>by
  obtain ⟨s',t',h1,h2,h3⟩:=hs i s t (Nat.le_refl _) (by omega) h
  obtain ⟨s2,t2,g1,g2,g3⟩:=forN_pair I k (i+1) s' t' h3 (fun j s t hj hk hI=>hs j s t (by omega) (by omega) hI)
  refine ⟨s2,t2,?_,?_,by rw [show i+(k+1)=i+1+k by omega]; exact g3⟩
  ·show (f i s).bind _=_
   rw [h1]; exact g1
  ·show (g i t).bind _=_
   rw [h2]; exact g2
/-- What both searches know. -/
structure SrK (g:TCouplingGraph) (c:TCircuit) (start:List Int) (ns:List RNode) (met:List (List Int)) (seen:List (TrouteKey×Bool)):Prop where
 nd:∀ x∈ns,NdK g c start x.p x.dn x.full
 key:∀ k,mgt seen k false=true↔∃ x∈ns,keyR x.p x.dn=k
 mlen:met.length=3125
 mt:∀ (p:List Int) (row:List Int),met[codeN p]?=some row→(p.length:Int)=c.Qubits→(∀ x∈p,0≤x∧x<5)→∀ m:Nat,(m:Int)∈row↔∃ x∈ns,x.p=p∧mskN x.dn=m
 rows:∀ row∈met,row.length≤ns.length
 nodup:(ns.map fun x=>(x.p,x.dn)).Nodup
 stl:∀ i x,ns[i]?=some x→x.full.length+leftN x.dn≤c.Gates.length+i
 path:∀ i x,ns[i]?=some x→(x.fr = -1∧x.p=start∧x.full=x.dl)∨∃ (j:Nat) (y:RNode),j<i∧x.fr=(j:Int)∧ns[j]?=some y∧x.full=y.full++x.dl
/-- Of two-qubit gates there are few. -/
structure SmK (g:TCouplingGraph) (c:TCircuit):Prop where
 ok:ROk g c
 nodes:g.Nodes≤5
 gates:c.Gates.length≤40
 two:twoCnt c.Gates≤12
theorem nodup_map_on {α β:Type} {f:α→β}:∀ {l:List α},l.Nodup→(∀ x∈l,∀ y∈l,f x=f y→x=y)→(l.map f).Nodup
 | [],_,_=>List.nodup_nil
 | x::r,h,hi=>by
  rw [List.nodup_cons] at h
  rw [List.map_cons,List.nodup_cons]
  refine ⟨fun hx=>?_,nodup_map_on h.2 (fun a ha b hb=>hi a (.tail _ ha) b (.tail _ hb))⟩
  obtain ⟨y,hy,e⟩:=List.mem_map.1 hx
  have:=hi y (.tail _ hy) x (.head _) e
  exact h.1 (this ▸ hy)
theorem pl5 {g:TCouplingGraph} {c:TCircuit} (hm:SmK g c) {p:List Int} {dn:List Bool} (hs:RInv g c (p,dn)):∀ x∈p,0≤x∧x<5:=fun x hx=>by
 have:=hs.pl.1 x hx
 have:=hm.nodes
 omega
theorem sr_len {g:TCouplingGraph} {c:TCircuit} (hm:SmK g c) {start:List Int} {ns:List RNode} {met:List (List Int)} {seen:List (TrouteKey×Bool)} (h:SrK g c start ns met seen):ns.length≤12800000:=by
 have hinj:((ns.map fun x=>(x.p,x.dn)).map fun q=>codeN q.1*4096+mskN (twoBits c.Gates q.2)).Nodup:=by
  refine nodup_map_on h.nodup (fun a ha b hb e=>?_)
  obtain ⟨x,hx,rfl⟩:=List.mem_map.1 ha
  obtain ⟨y,hy,rfl⟩:=List.mem_map.1 hb
  simp only at e
  have nx:=h.nd x hx
  have ny:=h.nd y hy
  have b1:=msk_lt (twoBits c.Gates x.dn)
  have b2:=msk_lt (twoBits c.Gates y.dn)
  rw [two_len] at b1 b2
  have h12:2 ^ twoCnt c.Gates≤2 ^ 12:=Nat.pow_le_pow_right (by decide) hm.two
  have h12':2 ^ 12=4096:=by decide
  have e1:codeN x.p=codeN y.p:=by omega
  have e2:mskN (twoBits c.Gates x.dn)=mskN (twoBits c.Gates y.dn):=by omega
  have l1:=nx.inv.len
  have l2:=ny.inv.len
  simp only at l1 l2
  have ep:x.p=y.p:=code_inj x.p.length x.p y.p rfl (by omega) (pl5 hm nx.inv) (pl5 hm ny.inv) e1
  have d1:=nx.inv.dn
  have d2:=ny.inv.dn
  simp only at d1 d2
  have eb:=msk_inj (by rw [two_len,two_len]) e2
  have cy:=ny.cl
  rw [← ep] at cy
  have ed:x.dn=y.dn:=closed_eq d1 d2 nx.vd ny.vd nx.cl cy (two_inj c.Gates x.dn y.dn d1 d2 eb)
  rw [ep,ed]
 have:=pigeon 12800000 _ hinj (fun z hz=>by
  obtain ⟨q,hq,rfl⟩:=List.mem_map.1 hz
  obtain ⟨x,hx,rfl⟩:=List.mem_map.1 hq
  simp only
  have nx:=h.nd x hx
  have b1:=msk_lt (twoBits c.Gates x.dn)
  rw [two_len] at b1
  have h12:2 ^ twoCnt c.Gates≤2 ^ 12:=Nat.pow_le_pow_right (by decide) hm.two
  have h12':2 ^ 12=4096:=by decide
  have hl:=pl_len hm.ok nx.inv
  have b2:=code_lt x.p.length x.p rfl (pl5 hm nx.inv)
  have h5:5 ^ x.p.length≤5 ^ 5:=Nat.pow_le_pow_right (by decide) hl
  have h5':5 ^ 5=3125:=by decide
  omega)
 simpa using this

theorem mgt_put {α β:Type} [DecidableEq α]:∀ (w:List (α×β)) (k a:α) (v d:β),mgt (mput w k v) a d=if k=a then v else mgt w a d
 | [],k,a,v,d=>by
  unfold mgt mput mfd
  by_cases e:k=a
  ·rw [if_pos e,if_pos e]; rfl
  ·rw [if_neg e,if_neg e]; rfl
 | (x,y)::r,k,a,v,d=>by
  have ih:=mgt_put r k a v d
  unfold mgt at ih ⊢
  unfold mput
  by_cases e:x=k
  ·rw [if_pos e]
   subst e
   unfold mfd
   by_cases e2:x=a
   ·simp only [if_pos e2]; rfl
   ·simp only [if_neg e2]
  ·rw [if_neg e]
   unfold mfd
   by_cases e2:x=a
   ·have:k≠a:=fun h=>e (e2.trans h.symm)
    simp only [if_pos e2,if_neg this]
   ·simp only [if_neg e2]
    exact ih
theorem any_mem {row:List Int} {m:Int}:(row.any fun x=>x==m)=decide (m∈row):=by
 rw [Bool.eq_iff_iff,List.any_eq_true,decide_eq_true_eq]
 exact ⟨fun ⟨x,h1,h2⟩=>by rw [← (by simpa using h2:x=m)]; exact h1,fun h=>⟨m,h,by simp⟩⟩
theorem both_edge {g:TCouplingGraph} {c:TCircuit} (hm:SmK g c) {start:List Int} {ns:List RNode} {met:List (List Int)} {seen:List (TrouteKey×Bool)} (h:SrK g c start ns met seen) {i j:Nat} {x:RNode} (hx:ns[i]?=some x) {e:TEdge} (he:g.Edges[j]?=some e) :
  ∃ ns' met' seen',F_spec_l23Search_l4 g (i:Int) c j (met,ns.map toS)=some (met',ns'.map toS)∧F_impl_leastRoute_l2 g (toI g c x) j (seen,ns.map (toI g c))=some (seen',ns'.map (toI g c))∧SrK g c start ns' met' seen'∧(∃ t,ns'=ns++t∧(∀ y∈t,swN y.full=swN x.full+1)∧∃ y∈ns',y.p=swapL x.p e.A e.B∧y.dn=(advD g.Edges c (swapL x.p e.A e.B) x.dn).1):=by
 have hlen:=sr_len hm h
 have hxm:=List.mem_of_getElem? hx
 have hem:=List.mem_of_getElem? he
 have nx:=h.nd x hxm
 have hil:=(List.getElem?_eq_some_iff.1 hx).1
 have hst:=h.stl i x hx
 have hgl:=hm.gates
 have ny:=next_ndk hm.ok hem nx
 have hdl:=(advD_props (E:=g.Edges) (c:=c) (swapL x.p e.A e.B) (dn:=x.dn) nx.inv.dn).2.2.2.1
 have hsw:=sw_none (advD_props (E:=g.Edges) (c:=c) (swapL x.p e.A e.B) (dn:=x.dn) nx.inv.dn).2.2.2.2
 generalize hp':swapL x.p e.A e.B=p' at ny hdl hsw ⊢
 generalize hdn':(advD g.Edges c p' x.dn).1=dn' at ny hdl ⊢
 generalize hdl':(advD g.Edges c p' x.dn).2=dl' at ny hdl hsw
 have eI:=swapped_impl hm.ok hem nx.inv (st:=x.full) (by omega)
 have eS:=swapped_spec hm.ok hem nx.inv (i:Int)
 rw [hp',hdn',hdl'] at eI eS
 have dlen:dn'.length=c.Gates.length:=ny.inv.dn
 have p5:=pl5 hm ny.inv
 have pl:=pl_len hm.ok ny.inv
 have hcode:=code_lt p'.length p' rfl p5
 have h5:5 ^ p'.length≤5 ^ 5:=Nat.pow_le_pow_right (by decide) pl
 have h5':5 ^ 5=3125:=by decide
 obtain ⟨row,hrow⟩:∃ row,met[codeN p']?=some row:=⟨_,List.getElem?_eq_getElem (show codeN p'<met.length by rw [h.mlen]; omega)⟩
 have hrl:=h.rows row (List.mem_of_getElem? hrow)
 have hplen:(p'.length:Int)=c.Qubits:=ny.inv.len
 have hiff:=h.mt p' row hrow hplen p5 (mskN dn')
 have hkey:=h.key (keyR p' dn')
 have hboth:(∃ z∈ns,z.p=p'∧mskN z.dn=mskN dn')↔∃ z∈ns,keyR z.p z.dn=keyR p' dn':=by
  constructor
  ·rintro ⟨z,hz,e1,e2⟩
   exact ⟨z,hz,by rw [e1]; unfold keyR; rw [e2]⟩
  ·rintro ⟨z,hz,e1⟩
   obtain ⟨a,b⟩:=key_eq hm.ok (h.nd z hz).inv ny.inv e1
   exact ⟨z,hz,a,by rw [b]⟩
 have sEval:F_spec_l23Search_l4 g (i:Int) c j (met,ns.map toS)=(if ((mskN dn':Nat):Int)∈row then some (met,ns.map toS) else some (met.set (codeN p') (row++[((mskN dn':Nat):Int)]),ns.map toS++[Tl23Node.mk p' dn' (i:Int) ([TRouteStep.mk (-1) e.A e.B]++dl')])):=by
  unfold F_spec_l23Search_l4
  simp only
  rw [getI_nat,he,getI_nat,List.getElem?_map,hx]
  simp only [Option.bind_some,Option.map_some]
  have e1:(F_spec_l23Swap (toS x).place e.A e.B)=some p':=by
   rw [← hp']; exact swap_spec (by have:=pl_len hm.ok nx.inv; show x.p.length≤_; omega) e.A e.B
  rw [e1]
  simp only [Option.bind_some]
  have e2:F_spec_l23Run g c (Tl23Node.mk p' (toS x).done (i:Int) [TRouteStep.mk (-1) e.A e.B])=some (Tl23Node.mk p' dn' (i:Int) ([TRouteStep.mk (-1) e.A e.B]++dl')):=by
   have e3:(F_spec_l23Swap x.p e.A e.B)=some p':=e1
   rw [e3] at eS
   exact eS
  rw [e2]
  simp only [Option.bind_some]
  rw [code_spec pl p5]
  simp only [Option.bind_some]
  rw [mask_spec (by omega)]
  simp only [Option.bind_some]
  rw [getI_nat,hrow]
  simp only [Option.bind_some]
  rw [hasR (by omega),any_mem]
  simp only [Option.bind_some]
  by_cases hin:((mskN dn':Nat):Int)∈row
  ·rw [decide_eq_true hin,if_pos hin]; rfl
  ·rw [decide_eq_false hin,if_neg hin]
   simp only [Bool.not_false,cond_true]
   rw [chk_t (by omega),chk_t (by rw [List.length_map]; omega),Int.toNat_natCast]
   rfl
 have iEval:F_impl_leastRoute_l2 g (toI g c x) j (seen,ns.map (toI g c))=(if mgt seen (keyR p' dn') false=true then some (seen,ns.map (toI g c)) else some (mput seen (keyR p' dn') true,ns.map (toI g c)++[TrouteNode.mk (Trouting.mk g c p' dn') ((x.full++[TRouteStep.mk (-1) e.A e.B])++dl')])):=by
  unfold F_impl_leastRoute_l2
  simp only
  rw [getI_nat,he]
  simp only [Option.bind_some]
  rw [show F_impl_routeNode_swapped (toI g c x) e=_ from eI]
  simp only [Option.bind_some]
  rw [key_impl (by omega)]
  simp only [Option.bind_some]
  cases hg:mgt seen (keyR p' dn') false with
  | true=>rfl
  | false =>
   simp only [Bool.not_false,cond_true]
   rw [chk_t (by rw [List.length_map]; omega)]
   rfl
 by_cases hin:((mskN dn':Nat):Int)∈row
 ·have hk:mgt seen (keyR p' dn') false=true:=hkey.2 (hboth.1 (hiff.1 hin))
  rw [if_pos hin] at sEval
  rw [if_pos hk] at iEval
  refine ⟨ns,met,seen,sEval,iEval,h,[],by rw [List.append_nil],(fun y hy=>(by cases hy)),?_⟩
  obtain ⟨z,hz,e1⟩:=hkey.1 hk
  obtain ⟨a,b⟩:=key_eq hm.ok (h.nd z hz).inv ny.inv e1
  exact ⟨z,hz,a,b⟩
 ·have hk:¬ mgt seen (keyR p' dn') false=true:=fun hk=>hin (hiff.2 (hboth.2 (hkey.1 hk)))
  rw [if_neg hin] at sEval
  rw [if_neg hk] at iEval
  have hno:¬ ∃ z∈ns,keyR z.p z.dn=keyR p' dn':=fun hz=>hk (hkey.2 hz)
  refine ⟨ns++[RNode.mk p' dn' ((x.full++[TRouteStep.mk (-1) e.A e.B])++dl') (i:Int) ([TRouteStep.mk (-1) e.A e.B]++dl')],_,_,by rw [sEval,List.map_append]; rfl,by rw [iEval,List.map_append]; rfl,?_,_,rfl,?_,_,List.mem_append_right _ (List.mem_singleton.2 rfl),rfl,rfl⟩
  rotate_left
  ·intro y hy
   rw [List.mem_singleton.1 hy]
   show swN ((x.full++[TRouteStep.mk (-1) e.A e.B])++dl')=_
   rw [sw_cat,sw_app,hsw]
   rfl
  refine ⟨?_,?_,?_,?_,?_,?_,?_,?_⟩
  ·intro z hz
   rcases List.mem_append.1 hz with hz | hz
   ·exact h.nd z hz
   ·rw [List.mem_singleton.1 hz]; exact ny
  ·intro k
   rw [mgt_put]
   by_cases ek:keyR p' dn'=k
   ·rw [if_pos ek]
    exact ⟨fun _=>⟨_,List.mem_append_right _ (List.mem_singleton.2 rfl),ek⟩,fun _=>rfl⟩
   ·rw [if_neg ek,h.key k]
    refine ⟨fun ⟨z,hz,e1⟩=>⟨z,List.mem_append_left _ hz,e1⟩,fun ⟨z,hz,e1⟩=>?_⟩
    rcases List.mem_append.1 hz with hz | hz
    ·exact ⟨z,hz,e1⟩
    ·rw [List.mem_singleton.1 hz] at e1; exact absurd e1 ek
  ·rw [List.length_set]; exact h.mlen
  ·intro q rw_ hq hql hq5 m
   rw [List.getElem?_set] at hq
   by_cases ec:codeN p'=codeN q
   ·rw [if_pos ec,if_pos (by rw [h.mlen]; omega)] at hq
    have eqp:p'=q:=code_inj p'.length p' q rfl (by omega) p5 hq5 ec
    rw [← Option.some.inj hq,List.mem_append,← eqp,h.mt p' row hrow hplen p5 m,List.mem_singleton]
    constructor
    ·rintro (⟨z,hz,e1⟩ | e1)
     ·exact ⟨z,List.mem_append_left _ hz,e1⟩
     ·exact ⟨_,List.mem_append_right _ (List.mem_singleton.2 rfl),rfl,by simp only; omega⟩
    ·rintro ⟨z,hz,e1,e2⟩
     rcases List.mem_append.1 hz with hz | hz
     ·exact .inl ⟨z,hz,e1,e2⟩
     ·rw [List.mem_singleton.1 hz] at e2
      simp only at e2
      exact .inr (by omega)
   ·rw [if_neg ec] at hq
    rw [h.mt q rw_ hq hql hq5 m]
    refine ⟨fun ⟨z,hz,e1⟩=>⟨z,List.mem_append_left _ hz,e1⟩,fun ⟨z,hz,e1,e2⟩=>?_⟩
    rcases List.mem_append.1 hz with hz | hz
    ·exact ⟨z,hz,e1,e2⟩
    ·rw [List.mem_singleton.1 hz] at e1
     exact absurd (congrArg codeN e1) ec
  ·intro r hr
   rw [List.length_append,List.length_cons,List.length_nil]
   rcases List.mem_or_eq_of_mem_set hr with hr | hr
   ·have:=h.rows r hr; omega
   ·rw [hr,List.length_append,List.length_cons,List.length_nil]; omega
  ·rw [List.map_append,List.nodup_append]
   refine ⟨h.nodup,by simp,fun a ha b hb e1=>?_⟩
   obtain ⟨z,hz,rfl⟩:=List.mem_map.1 ha
   simp only [List.map_cons,List.map_nil,List.mem_singleton] at hb
   rw [hb] at e1
   obtain ⟨e2,e3⟩:=Prod.mk.inj e1
   exact hno ⟨z,hz,by rw [e2,e3]⟩
  ·intro k z hz
   by_cases hk2:k<ns.length
   ·rw [List.getElem?_append_left hk2] at hz
    exact h.stl k z hz
   ·rw [List.getElem?_append_right (by omega)] at hz
    have:k=ns.length:=by
     have:=(List.getElem?_eq_some_iff.1 hz).1
     simp only [List.length_cons,List.length_nil] at this
     omega
    subst this
    rw [Nat.sub_self] at hz
    rw [← Option.some.inj hz]
    simp only [List.length_append,List.length_cons,List.length_nil]
    omega
  ·intro k z hz
   by_cases hk2:k<ns.length
   ·rw [List.getElem?_append_left hk2] at hz
    rcases h.path k z hz with h1 | ⟨j',y,h1,h2,h3,h4⟩
    ·exact .inl h1
    ·exact .inr ⟨j',y,h1,h2,by rw [List.getElem?_append_left (by omega)]; exact h3,h4⟩
   ·rw [List.getElem?_append_right (by omega)] at hz
    have:k=ns.length:=by
     have:=(List.getElem?_eq_some_iff.1 hz).1
     simp only [List.length_cons,List.length_nil] at this
     omega
    subst this
    rw [Nat.sub_self] at hz
    rw [← Option.some.inj hz]
    exact .inr ⟨i,x,hil,rfl,by rw [List.getElem?_append_left hil]; exact hx,by rw [List.append_assoc]⟩

theorem both_edges {g:TCouplingGraph} {c:TCircuit} (hm:SmK g c) {start:List Int} {ns:List RNode} {met:List (List Int)} {seen:List (TrouteKey×Bool)} (h:SrK g c start ns met seen) {i:Nat} {x:RNode} (hx:ns[i]?=some x) :
  ∃ ns' met' seen',forN (F_spec_l23Search_l4 g (i:Int) c) g.Edges.length 0 (met,ns.map toS)=some (met',ns'.map toS)∧forN (F_impl_leastRoute_l2 g (toI g c x)) g.Edges.length 0 (seen,ns.map (toI g c))=some (seen',ns'.map (toI g c))∧SrK g c start ns' met' seen'∧(∃ t,ns'=ns++t∧(∀ y∈t,swN y.full=swN x.full+1)∧∀ e∈g.Edges,∃ y∈ns',y.p=swapL x.p e.A e.B∧y.dn=(advD g.Edges c (swapL x.p e.A e.B) x.dn).1):=by
 obtain ⟨s',t',h1,h2,ns',met',seen',e1,e2,h3,q,h4,h5,h6⟩:=forN_pair (f:=F_spec_l23Search_l4 g (i:Int) c) (g:=F_impl_leastRoute_l2 g (toI g c x)) (fun j s t=>∃ ns' met' seen',s=(met',ns'.map toS)∧t=(seen',ns'.map (toI g c))∧SrK g c start ns' met' seen'∧(∃ q,ns'=ns++q∧(∀ y∈q,swN y.full=swN x.full+1)∧∀ a e,a<j→g.Edges[a]?=some e→∃ y∈ns',y.p=swapL x.p e.A e.B∧y.dn=(advD g.Edges c (swapL x.p e.A e.B) x.dn).1)) g.Edges.length 0 (met,ns.map toS) (seen,ns.map (toI g c)) ⟨ns,met,seen,rfl,rfl,h,[],by rw [List.append_nil],(fun y hy=>(by cases hy)),fun a e ha=>absurd ha (Nat.not_lt_zero _)⟩ (fun j s t _ hj ⟨ns',met',seen',e1,e2,h3,q,h4,h5,h6⟩=>by
  subst e1 e2
  have he:=List.getElem?_eq_getElem (show j<g.Edges.length by omega)
  generalize g.Edges[j]=e at he
  have hx':ns'[i]?=some x:=by
   rw [h4,List.getElem?_append_left (List.getElem?_eq_some_iff.1 hx).1]; exact hx
  obtain ⟨n2,m2,s2,a1,a2,a3,q2,a4,a5,a6⟩:=both_edge hm h3 hx' he
  refine ⟨_,_,a1,a2,n2,m2,s2,rfl,rfl,a3,q++q2,by rw [a4,h4,List.append_assoc],fun y hy=>?_,fun a e' ha he'=>?_⟩
  ·rcases List.mem_append.1 hy with hy | hy
   ·exact h5 y hy
   ·exact a5 y hy
  ·by_cases ea:a=j
   ·subst ea
    rw [he] at he'
    rw [← Option.some.inj he']; exact a6
   ·obtain ⟨y,y1,y2⟩:=h6 a e' (by omega) he'
    exact ⟨y,by rw [a4]; exact List.mem_append_left _ y1,y2⟩)
 subst e1 e2
 refine ⟨ns',met',seen',h1,h2,h3,q,h4,h5,fun e he=>?_⟩
 obtain ⟨a,ha,hae⟩:=List.mem_iff_getElem.1 he
 exact h6 a e (by omega) (by rw [List.getElem?_eq_getElem ha,hae])
/-- The reference's way back along the parents. -/
theorem back_spec {g:TCouplingGraph} {c:TCircuit} (hm:SmK g c) {start:List Int} {ns:List RNode} {met:List (List Int)} {seen:List (TrouteKey×Bool)} (h:SrK g c start ns met seen):∀ (i F:Nat) (x:RNode) (S:List Int) (acc:List TRouteStep),ns[i]?=some x→i+2≤F→acc.length+x.full.length≤1000000000 →
  whX (F_spec_l23Search_l3 (ns.map toS)) F (S,acc,(i:Int))=some (.inl (start,x.full++acc,-1)):=fun i=>by
 induction i using Nat.strongRecOn with
 | _ i ih =>
  intro F x S acc hx hF hb
  obtain ⟨F',rfl⟩:∃ F',F=F'+1:=⟨F-1,by omega⟩
  have nx:=h.nd x (List.mem_of_getElem? hx)
  have hpl:=pl_len hm.ok nx.inv
  have hget:getI (ns.map toS) (i:Int)=some (toS x):=by rw [getI_nat,List.getElem?_map,hx]; rfl
  have step:x.dl.length≤1000000000→x.dl.length+acc.length≤1000000000→F_spec_l23Search_l3 (ns.map toS) (S,acc,(i:Int))=some (.nx (x.p,x.dl++acc,x.fr)):=fun h1 h2=>by
   unfold F_spec_l23Search_l3 F_spec_l1Own
   simp only
   rw [decide_eq_true (show (0:Int)≤(i:Int) by omega),hget]
   simp only [cond_true,Option.bind_some]
   rw [chk_t (by show 0+x.p.length≤_; omega)]
   simp only [Option.bind_some]
   rw [chk_t (by show 0+x.dl.length≤_; omega),chk_t (by show x.dl.length+acc.length≤_; omega)]
   rfl
  simp only [whX]
  rcases h.path i x hx with ⟨h1,h2,h3⟩ | ⟨j,y,h1,h2,h3,h4⟩
  ·rw [h3] at hb
   rw [step (by omega) (by omega),h1,h2,h3]
   obtain ⟨F2,rfl⟩:∃ F2,F'=F2+1:=⟨F'-1,by omega⟩
   show whX (F_spec_l23Search_l3 (ns.map toS)) (F2+1) (start,x.dl++acc,-1)=_
   simp only [whX]
   unfold F_spec_l23Search_l3
   rfl
  ·rw [h4,List.length_append] at hb
   rw [step (by omega) (by omega),h2]
   refine Eq.trans (ih j h1 F' y x.p (x.dl++acc) h3 (by omega) (by rw [List.length_append]; omega)) ?_
   rw [h4,List.append_assoc]
/-- What the search has behind it: the states before number i are no ends and their edges are walked; the swaps grow along the list. -/
structure PrK (g:TCouplingGraph) (c:TCircuit) (ns:List RNode) (i:Nat):Prop where
 pr:∀ (a:Nat) (x:RNode),a<i→ns[a]?=some x→leftN x.dn≠0∧∀ e∈g.Edges,∃ y∈ns,(y.p=swapL x.p e.A e.B∧y.dn=(advD g.Edges c (swapL x.p e.A e.B) x.dn).1)∧swN y.full≤swN x.full+1
 ord:∀ (a b:Nat) (x y:RNode),a≤b→ns[a]?=some x→ns[b]?=some y→swN x.full≤swN y.full
 top:∀ (b:Nat) (x y:RNode),ns[i]?=some x→ns[b]?=some y→swN y.full≤swN x.full+1
theorem pr_next {g:TCouplingGraph} {c:TCircuit} {ns q:List RNode} {i:Nat} {x:RNode} (h:PrK g c ns i) (hx:ns[i]?=some x) (hz:leftN x.dn≠0) (h5:∀ y∈q,swN y.full=swN x.full+1)
  (h6:∀ e∈g.Edges,∃ y∈ns++q,y.p=swapL x.p e.A e.B∧y.dn=(advD g.Edges c (swapL x.p e.A e.B) x.dn).1):PrK g c (ns++q) (i+1):=by
 have hil:=(List.getElem?_eq_some_iff.1 hx).1
 have two:∀ (b:Nat) (y:RNode),(ns++q)[b]?=some y→(b<ns.length∧ns[b]?=some y)∨(ns.length≤b∧y∈q):=fun b y hy=>by
  by_cases hb:b<ns.length
  ·rw [List.getElem?_append_left hb] at hy; exact .inl ⟨hb,hy⟩
  ·rw [List.getElem?_append_right (by omega)] at hy; exact .inr ⟨by omega,List.mem_of_getElem? hy⟩
 have ord:∀ (a b:Nat) (u y:RNode),a≤b→(ns++q)[a]?=some u→(ns++q)[b]?=some y→swN u.full≤swN y.full:=fun a b u y hab hu hy=>by
  rcases two a u hu with ⟨a1,a2⟩ | ⟨a1,a2⟩ <;> rcases two b y hy with ⟨b1,b2⟩ | ⟨b1,b2⟩
  ·exact h.ord a b u y hab a2 b2
  ·rw [h5 y b2]; exact h.top a x u hx a2
  ·omega
  ·rw [h5 u a2,h5 y b2]; exact Nat.le_refl _
 refine ⟨fun a u ha hu=>?_,ord,fun b u y hu hy=>?_⟩
 ·rw [List.getElem?_append_left (by omega)] at hu
  by_cases e:a=i
  ·subst e
   rw [hx] at hu
   rw [← Option.some.inj hu]
   refine ⟨hz,fun e he=>?_⟩
   obtain ⟨y,y1,y2⟩:=h6 e he
   refine ⟨y,y1,y2,?_⟩
   rcases List.mem_append.1 y1 with y1 | y1
   ·obtain ⟨b,hb,hbe⟩:=List.mem_iff_getElem.1 y1
    exact h.top b x y hx (by rw [List.getElem?_eq_getElem hb,hbe])
   ·exact Nat.le_of_eq (h5 y y1)
  ·obtain ⟨p1,p2⟩:=h.pr a u (by omega) hu
   refine ⟨p1,fun e he=>?_⟩
   obtain ⟨y,y1,y2,y3⟩:=p2 e he
   exact ⟨y,List.mem_append_left _ y1,y2,y3⟩
 ·have hxu:swN x.full≤swN u.full:=ord i (i+1) x u (by omega) (by rw [List.getElem?_append_left hil]; exact hx) hu
  rcases two b y hy with ⟨b1,b2⟩ | ⟨b1,b2⟩
  ·have:=h.top b x y hx b2; omega
  ·rw [h5 y b2]; omega
/-- Both searches go the same way. -/
theorem search_go {g:TCouplingGraph} {c:TCircuit} (hm:SmK g c) {start:List Int} (hsl:start.length≤5):∀ (f F i:Nat) (ns:List RNode) (met:List (List Int)) (seen:List (TrouteKey×Bool)),SrK g c start ns met seen→PrK g c ns i→12800001-i<f→f≤F→i≤ns.length →
  (∃ a b,whX (F_spec_l23Search_l2 c g) F (met,ns.map toS,(i:Int))=some (.inl a)∧whX (F_impl_leastRoute_l1 start g) F (seen,ns.map (toI g c),(i:Int))=some (.inl b)) ∨
   ∃ (ns':List RNode) (met':List (List Int)) (seen':List (TrouteKey×Bool)) (k:Nat) (x:RNode),whX (F_spec_l23Search_l2 c g) F (met,ns.map toS,(i:Int))=some (.inr (TRoute.mk start x.full,true))∧whX (F_impl_leastRoute_l1 start g) F (seen,ns.map (toI g c),(i:Int))=some (.inr (TRoute.mk start x.full,true))∧SrK g c start ns' met' seen'∧PrK g c ns' k∧ns'[k]?=some x∧leftN x.dn=0:=fun f=>by
 have hgl:=hm.gates
 have hel:=hm.ok.edges
 induction f with
 | zero=>intro F i ns met seen _ _ h; exact absurd h (Nat.not_lt_zero _)
 | succ f ih =>
  intro F i ns met seen h hpr hf hF hi
  obtain ⟨F',rfl⟩:∃ F',F=F'+1:=⟨F-1,by omega⟩
  have hlen:=sr_len hm h
  have hp:=rt_pow (i:=c.Gates.length) (by omega)
  have hp2:=Nat.two_pow_pos c.Gates.length
  simp only [whX]
  by_cases hlt:i<ns.length
  ·have hx:=List.getElem?_eq_getElem hlt
   generalize ns[i]=x at hx
   have nx:=h.nd x (List.mem_of_getElem? hx)
   have hdn:x.dn.length=c.Gates.length:=nx.inv.dn
   have hst:=h.stl i x hx
   have hgetS:getI (ns.map toS) (i:Int)=some (toS x):=by rw [getI_nat,List.getElem?_map,hx]; rfl
   have hgetI:getI (ns.map (toI g c)) (i:Int)=some (toI g c x):=by rw [getI_nat,List.getElem?_map,hx]; rfl
   have hall:IntKind.i64.wrap ((shlK .i64 1 (IntKind.u64.wrap (c.Gates.length:Int)))-1)=((2 ^ c.Gates.length-1:Nat):Int):=by
    rw [rt_wu (by omega),rt_shli hgl]
    generalize 2 ^ c.Gates.length=q at hp hp2
    rw [wr (by omega)]
    omega
   by_cases hz:leftN x.dn=0
   ·-- found
    have hmask:mskN x.dn=2 ^ c.Gates.length-1:=(msk_all hdn).2 hz
    refine .inr ⟨ns,met,seen,i,x,?_,?_,h,hpr,hx,hz⟩
    ·unfold F_spec_l23Search_l2
     simp only
     rw [decide_eq_true (show (i:Int)<((ns.map toS).length:Int) by rw [List.length_map]; omega),hgetS]
     simp only [cond_true,Option.bind_some]
     rw [show F_spec_l23Mask (toS x).done=_ from mask_spec (dn:=x.dn) (by omega)]
     simp only [Option.bind_some]
     rw [hall,hmask,beq_self_eq_true]
     simp only [cond_true]
     rw [back_spec hm h i fuel x [] [] hx (by have:i+2<fuel:=fuel_big (by omega); omega) (by simp only [List.length_nil]; omega)]
     simp only [Option.bind_some,orR,List.append_nil]
    ·unfold F_impl_leastRoute_l1
     simp only
     rw [decide_eq_true (show (i:Int)<((ns.map (toI g c)).length:Int) by rw [List.length_map]; omega),hgetI]
     simp only [cond_true,Option.bind_some]
     rw [show F_slices_Contains_bool_bool (toI g c x).work.done false=_ from contains_false (l:=x.dn) (by omega),hz]
     simp only [Option.bind_some,Nat.lt_irrefl,decide_false,Bool.not_false,cond_true]
     unfold F_slices_Clone_int_int
     rw [chk_t (by omega)]
     rfl
   ·obtain ⟨ns',met',seen',e1,e2,h3,q,h4,h5,h6⟩:=both_edges hm h hx
    have hmask:¬ mskN x.dn=2 ^ c.Gates.length-1:=fun e=>hz ((msk_all hdn).1 e)
    have i1:F_spec_l23Search_l2 c g (met,ns.map toS,(i:Int))=some (.nx (met',ns'.map toS,((i+1:Nat):Int))):=by
     unfold F_spec_l23Search_l2
     simp only
     rw [decide_eq_true (show (i:Int)<((ns.map toS).length:Int) by rw [List.length_map]; omega),hgetS]
     simp only [cond_true,Option.bind_some]
     rw [show F_spec_l23Mask (toS x).done=_ from mask_spec (dn:=x.dn) (by omega)]
     simp only [Option.bind_some]
     rw [hall,show (((mskN x.dn:Nat):Int)==((2 ^ c.Gates.length-1:Nat):Int))=false from by
      rw [beq_eq_false_iff_ne]; intro e; exact hmask (Int.ofNat_inj.1 e)]
     simp only [cond_false]
     rw [chk_t (by omega),e1]
     simp only [Option.bind_some]
     rw [wr (a:=(i:Int)+1) (by omega)]
     rfl
    have i2:F_impl_leastRoute_l1 start g (seen,ns.map (toI g c),(i:Int))=some (.nx (seen',ns'.map (toI g c),((i+1:Nat):Int))):=by
     unfold F_impl_leastRoute_l1
     simp only
     rw [decide_eq_true (show (i:Int)<((ns.map (toI g c)).length:Int) by rw [List.length_map]; omega),hgetI]
     simp only [cond_true,Option.bind_some]
     rw [show F_slices_Contains_bool_bool (toI g c x).work.done false=_ from contains_false (l:=x.dn) (by omega),decide_eq_true (show 0<leftN x.dn by omega)]
     simp only [Option.bind_some,Bool.not_true,cond_false]
     rw [chk_t (by omega),e2]
     simp only [Option.bind_some]
     rw [wr (a:=(i:Int)+1) (by omega)]
     rfl
    rw [i1,i2]
    exact ih F' (i+1) ns' met' seen' h3 (by rw [h4]; exact pr_next hpr hx hz h5 (by rw [← h4]; exact h6)) (by omega) (by omega) (by rw [h4,List.length_append]; omega)
  ·refine .inl ⟨(met,ns.map toS,(i:Int)),(seen,ns.map (toI g c),(i:Int)),?_,?_⟩
   ·unfold F_spec_l23Search_l2
    simp only
    rw [decide_eq_false (by rw [List.length_map]; omega)]
    rfl
   ·unfold F_impl_leastRoute_l1
    simp only
    rw [decide_eq_false (by rw [List.length_map]; omega)]
    rfl

theorem first_sr {g:TCouplingGraph} {c:TCircuit} (hm:SmK g c) {start:List Int} (hi:RInv g c (start,List.replicate c.Gates.length false)) {dn:List Bool} {dl:List TRouteStep} (hd:advD g.Edges c start (List.replicate c.Gates.length false)=(dn,dl)) :
  SrK g c start [RNode.mk start dn dl (-1) dl] ((List.replicate 3125 ([]:List Int)).set (codeN start) [((mskN dn:Nat):Int)]) (mput [] (keyR start dn) true):=by
 have hn:=first_ndk (g:=g) (c:=c) hi
 have hdl:=(advD_props (E:=g.Edges) (c:=c) start hi.dn).2.2.2.1
 rw [hd] at hn hdl
 have hdl:dl.length+leftN dn=leftN (List.replicate c.Gates.length false):=hdl
 have p5:=pl5 hm hi
 have pl:=pl_len hm.ok hi
 have hcode:=code_lt start.length start rfl p5
 have h5:5 ^ start.length≤5 ^ 5:=Nat.pow_le_pow_right (by decide) pl
 have h5':5 ^ 5=3125:=by decide
 have hlt:codeN start<(List.replicate 3125 ([]:List Int)).length:=by rw [List.length_replicate]; omega
 refine ⟨?_,?_,?_,?_,?_,?_,?_,?_⟩
 ·intro x hx
  rw [List.mem_singleton.1 hx]; exact hn
 ·intro k
  rw [mgt_put]
  by_cases e:keyR start dn=k
  ·rw [if_pos e]
   exact ⟨fun _=>⟨_,List.mem_singleton.2 rfl,e⟩,fun _=>rfl⟩
  ·rw [if_neg e]
   refine ⟨fun h=>(by cases h),fun ⟨x,hx,h⟩=>?_⟩
   rw [List.mem_singleton.1 hx] at h
   exact absurd h e
 ·rw [List.length_set,List.length_replicate]
 ·intro q row hq hql hq5 m
  rw [List.getElem?_set] at hq
  by_cases ec:codeN start=codeN q
  ·rw [if_pos ec,if_pos hlt] at hq
   have hsl:=hi.len
   simp only at hsl
   have eq:start=q:=code_inj start.length start q rfl (by omega) p5 hq5 ec
   rw [← Option.some.inj hq,List.mem_singleton]
   constructor
   ·intro e
    exact ⟨_,List.mem_singleton.2 rfl,eq,by simp only; omega⟩
   ·rintro ⟨x,hx,_,e2⟩
    rw [List.mem_singleton.1 hx] at e2
    simp only at e2
    omega
  ·rw [if_neg ec,List.getElem?_replicate] at hq
   split at hq
   ·rw [← Option.some.inj hq]
    refine ⟨fun h=>(by cases h),fun ⟨x,hx,e1,_⟩=>?_⟩
    rw [List.mem_singleton.1 hx] at e1
    exact absurd (congrArg codeN e1) ec
   ·cases hq
 ·intro r hr
  rcases List.mem_or_eq_of_mem_set hr with hr | hr
  ·rw [(List.mem_replicate.1 hr).2]; exact Nat.zero_le _
  ·rw [hr]; exact Nat.le_refl _
 ·simp
 ·intro i x hx
  cases i with
  | zero =>
   rw [← Option.some.inj hx]
   simp only
   rw [left_rep] at hdl
   omega
  | succ i=>cases hx
 ·intro i x hx
  cases i with
  | zero =>
   rw [← Option.some.inj hx]
   exact .inl ⟨rfl,rfl,rfl⟩
  | succ i=>cases hx
/-- The search of the reference and of the program from one start. -/
theorem search_both {g:TCouplingGraph} {c:TCircuit} (hm:SmK g c) {start:List Int} (hi:RInv g c (start,List.replicate c.Gates.length false)) :
  ∃ r ok,F_spec_l23Search g c [start]=some (r,ok) ∧
   ((F_impl_newRouting g c start).bind fun r_4 =>
 (F_impl_routeNode_advance (TrouteNode.mk r_4 [])).bind fun (m,m1) =>
 (F_impl_routeNode_key (TrouteNode.mk (Trouting.mk (TCouplingGraph.mk m.work.g.Nodes r_4.g.Edges) (TCircuit.mk m.work.c.Qubits r_4.c.Gates) r_4.place m1) m.steps)).bind fun r_5 =>
 (whX (F_impl_leastRoute_l1 start g) fuel ((mput ([]:List (TrouteKey×Bool)) r_5 true),([(TrouteNode.mk (Trouting.mk (TCouplingGraph.mk m.work.g.Nodes r_4.g.Edges) (TCircuit.mk m.work.c.Qubits r_4.c.Gates) r_4.place m1) m.steps)]:List TrouteNode),0)).bind<|orR fun (seen,queue,at_1) =>
 some (((TRoute.mk [] []),false)))=some (r,ok) ∧
   (ok=false→r=TRoute.mk [] [])∧(ok=true→∃ (ns:List RNode) (met:List (List Int)) (seen:List (TrouteKey×Bool)) (k:Nat) (x:RNode),SrK g c start ns met seen∧PrK g c ns k∧ns[k]?=some x∧leftN x.dn=0∧r=TRoute.mk start x.full):=by
 have pl:=pl_len hm.ok hi
 have hgl:=hm.gates
 have p5:=pl5 hm hi
 obtain ⟨dn,dl,hd⟩:∃ dn dl,advD g.Edges c start (List.replicate c.Gates.length false)=(dn,dl):=⟨_,_,rfl⟩
 have h0:=first_sr hm hi hd
 have hdl:dn.length=c.Gates.length:=by
  have:=(advD_props (E:=g.Edges) (c:=c) start hi.dn).1
  rw [hd] at this; exact this
 have hcode:=code_lt start.length start rfl p5
 have h5:5 ^ start.length≤5 ^ 5:=Nat.pow_le_pow_right (by decide) pl
 have h5':5 ^ 5=3125:=by decide
 have hpr:PrK g c [RNode.mk start dn dl (-1) dl] 0:=⟨fun a _ ha=>absurd ha (Nat.not_lt_zero _),(fun a b x y _ hx hy=>by
  have one:∀ (a:Nat) (x:RNode),[RNode.mk start dn dl (-1) dl][a]?=some x→x=RNode.mk start dn dl (-1) dl:=fun a x hx=>List.mem_singleton.1 (List.mem_of_getElem? hx)
  rw [one a x hx,one b y hy]
  exact Nat.le_refl _),fun b x y hx hy=>by
  have one:∀ (a:Nat) (x:RNode),[RNode.mk start dn dl (-1) dl][a]?=some x→x=RNode.mk start dn dl (-1) dl:=fun a x hx=>List.mem_singleton.1 (List.mem_of_getElem? hx)
  rw [one 0 x hx,one b y hy]
  exact Nat.le_succ _⟩
 have hgo:=search_go hm pl 12800002 fuel 0 _ _ _ h0 hpr (by omega) (by have:12800002<fuel:=fuel_big (by omega); omega) (Nat.zero_le _)
 have hS:F_spec_l23Search g c [start]=(whX (F_spec_l23Search_l2 c g) fuel ((List.replicate 3125 ([]:List Int)).set (codeN start) [((mskN dn:Nat):Int)],[Tl23Node.mk start dn (-1) dl],0)).bind (orR fun (x:List (List Int)×List Tl23Node×Int)=>some ((TRoute.mk [] []),false)):=by
  unfold F_spec_l23Search
  rw [chk_t (by simp)]
  show ((F_spec_l23Search_l1 [start] c g 0 (List.replicate 3125 ([]:List Int),[])).bind fun s'=>some s').bind _=_
  unfold F_spec_l23Search_l1 F_spec_l1Own
  simp only
  rw [show getI [start] ((0:Nat):Int)=some start from rfl]
  simp only [Option.bind_some]
  rw [chk_t (by omega)]
  simp only [Option.bind_some]
  rw [chk_t (by omega),adv_spec hm.ok hi (by simp) (-1),hd]
  simp only [Option.bind_some,List.nil_append]
  rw [code_spec pl p5]
  simp only [Option.bind_some]
  rw [getI_nat,List.getElem?_replicate,if_pos (by omega)]
  simp only [Option.bind_some]
  rw [mask_spec (by omega)]
  simp only [Option.bind_some]
  rw [chk_t (by simp),chk_t (by simp)]
  simp only [Option.bind_some,Int.toNat_natCast,List.nil_append]
  rw [rt_wu (by omega),chk_t (by omega)]
 have hI:∀ r ok,(whX (F_impl_leastRoute_l1 start g) fuel (mput [] (keyR start dn) true,[TrouteNode.mk (Trouting.mk g c start dn) dl],0)).bind (orR fun (x:List (TrouteKey×Bool)×List TrouteNode×Int)=>some ((TRoute.mk [] []),false))=some (r,ok)→((F_impl_newRouting g c start).bind fun r_4 =>
 (F_impl_routeNode_advance (TrouteNode.mk r_4 [])).bind fun (m,m1) =>
 (F_impl_routeNode_key (TrouteNode.mk (Trouting.mk (TCouplingGraph.mk m.work.g.Nodes r_4.g.Edges) (TCircuit.mk m.work.c.Qubits r_4.c.Gates) r_4.place m1) m.steps)).bind fun r_5 =>
 (whX (F_impl_leastRoute_l1 start g) fuel ((mput ([]:List (TrouteKey×Bool)) r_5 true),([(TrouteNode.mk (Trouting.mk (TCouplingGraph.mk m.work.g.Nodes r_4.g.Edges) (TCircuit.mk m.work.c.Qubits r_4.c.Gates) r_4.place m1) m.steps)]:List TrouteNode),0)).bind<|orR fun (seen,queue,at_1) =>
 some (((TRoute.mk [] []),false)))=some (r,ok):=fun r ok hh=>by
  unfold F_impl_newRouting F_slices_Clone_int_int
  rw [chk_t (by omega)]
  simp only [Option.bind_some]
  rw [chk_t (by omega)]
  simp only [Option.bind_some]
  rw [adv_impl hm.ok hi (by simp),hd]
  simp only [Option.bind_some,List.nil_append]
  rw [key_impl (by omega)]
  simp only [Option.bind_some]
  exact hh
 rcases hgo with ⟨a,b,e1,e2⟩ | ⟨ns',met',seen',k,x,e1,e2,h3,hp3,h4,h5x⟩
 ·refine ⟨TRoute.mk [] [],false,?_,hI _ _ ?_,fun _=>rfl,fun h=>by cases h⟩
  ·rw [hS]
   rw [show whX (F_spec_l23Search_l2 c g) fuel ((List.replicate 3125 ([]:List Int)).set (codeN start) [((mskN dn:Nat):Int)],[Tl23Node.mk start dn (-1) dl],0)=_ from e1]
   rfl
  ·rw [show whX (F_impl_leastRoute_l1 start g) fuel (mput [] (keyR start dn) true,[TrouteNode.mk (Trouting.mk g c start dn) dl],0)=_ from e2]
   rfl
 ·refine ⟨TRoute.mk start x.full,true,?_,hI _ _ ?_,fun h=>(by cases h),fun _=>⟨ns',met',seen',k,x,h3,hp3,h4,h5x,rfl⟩⟩
  ·rw [hS]
   rw [show whX (F_spec_l23Search_l2 c g) fuel ((List.replicate 3125 ([]:List Int)).set (codeN start) [((mskN dn:Nat):Int)],[Tl23Node.mk start dn (-1) dl],0)=_ from e1]
   rfl
  ·rw [show whX (F_impl_leastRoute_l1 start g) fuel (mput [] (keyR start dn) true,[TrouteNode.mk (Trouting.mk g c start dn) dl],0)=_ from e2]
   rfl

theorem two_app:∀ (l:List TGate) (x:TGate),twoCnt (l++[x])=twoCnt l+(bif twoB x then 1 else 0)
 | [],x=>by show (bif twoB x then 1 else 0)+0=0+_; omega
 | g::t,x=>by
  show (bif twoB g then 1 else 0)+twoCnt (t++[x])=(bif twoB g then 1 else 0)+twoCnt t+_
  rw [two_app t x]; omega
theorem two_le:∀ (l:List TGate),twoCnt l≤l.length
 | []=>Nat.le_refl _
 | g::t=>by
  have:=two_le t
  show (bif twoB g then 1 else 0)+twoCnt t≤t.length+1
  cases twoB g <;> simp only [cond_true,cond_false] <;> omega
theorem cnt_loop {c:TCircuit} {f:Nat→Int→Option Int} (hl:c.Gates.length≤1048576) (hf:∀ (i:Nat) (x:TGate) (z:Nat),c.Gates[i]?=some x→z≤1048576→f i (z:Int)=some (((z+(bif twoB x then 1 else 0):Nat)):Int)):forN f c.Gates.length 0 0=some ((twoCnt c.Gates:Nat):Int):=by
 obtain ⟨z,h1,h2⟩:=forN_inv (f:=f) (fun i z=>z=((twoCnt (c.Gates.take i):Nat):Int)) c.Gates.length 0 0 rfl (fun i z _ hi hz=>by
  have hx:=List.getElem?_eq_getElem (show i<c.Gates.length by omega)
  generalize c.Gates[i]=x at hx
  have h3:=two_le (c.Gates.take i)
  rw [List.length_take] at h3
  refine ⟨_,by rw [hz]; exact hf i x _ hx (by omega),?_⟩
  rw [List.take_add_one,hx,Option.toList_some,two_app])
 rw [h1,h2,Nat.zero_add,List.take_length]
theorem cok_of {g:TCouplingGraph} {c:TCircuit} (h:ROk g c):cOk c=true:=by
 unfold cOk
 simp only [Bool.and_eq_true,decide_eq_true_eq]
 exact ⟨⟨⟨h.qs.1,h.qs.2⟩,h.gl⟩,List.all_eq_true.2 h.gok⟩
theorem small_both (g:TCouplingGraph) (c:TCircuit) (h1:g.Edges.length≤1048576) (h2:c.Gates.length≤1048576):∃ v,F_spec_l23Small g c=some v∧F_impl_canSearch g c=some v∧(v=true→SmK g c∧c.Qubits≤g.Nodes):=by
 obtain ⟨b,f1,f2,f3⟩:=fits_both g c h1 h2
 have e1:forN (F_spec_l23Small_l1 c) c.Gates.length 0 0=some ((twoCnt c.Gates:Nat):Int):=cnt_loop h2 (fun i x z hx hz=>by
  unfold F_spec_l23Small_l1
  rw [getI_nat,hx]
  simp only [Option.bind_some]
  rw [two_spec]
  simp only [Option.bind_some]
  cases twoB x
  ·rfl
  ·simp only [cond_true,Option.bind_some]
   rw [wr (a:=(z:Int)+1) (by omega)]
   rfl)
 have e2:forN (F_impl_counted_l1 c F_impl_isTwo) c.Gates.length 0 0=some ((twoCnt c.Gates:Nat):Int):=cnt_loop h2 (fun i x z hx hz=>by
  unfold F_impl_counted_l1
  rw [getI_nat,hx]
  simp only [Option.bind_some]
  rw [two_impl]
  simp only [Option.bind_some]
  cases twoB x
  ·rfl
  ·simp only [cond_true,Option.bind_some]
   rw [wr (a:=(z:Int)+1) (by omega)]
   rfl)
 have hS:F_spec_l23Small g c=some ((((b&&(decide (g.Nodes≤5)))&&(decide ((c.Gates.length:Int)≤40)))&&(decide (((twoCnt c.Gates:Nat):Int)≤12)))):=by
  unfold F_spec_l23Small
  rw [chk_t (by omega),e1]
  simp only [Option.bind_some]
  rw [f1]
  rfl
 refine ⟨_,hS,?_,fun hv=>?_⟩
 ·unfold F_impl_canSearch F_impl_CountTwo F_impl_counted
  rw [impl_good c h2]
  simp only [Option.bind_some]
  cases hc:cOk c with
  | false =>
   have hb:b=false:=by
    cases hb:b
    ·rfl
    ·have:=cok_of (f3 hb).1
     rw [hc] at this; cases this
   rw [hb]
   rfl
  | true =>
   simp only [Bool.not_true,cond_false]
   rw [chk_t (by omega),e2]
   simp only [Option.bind_some,gb,cond_true,f2,Bool.true_and]
 ·simp only [Bool.and_eq_true,decide_eq_true_eq] at hv
  obtain ⟨⟨⟨hb,h5⟩,h40⟩,h12⟩:=hv
  obtain ⟨r1,r2⟩:=f3 hb
  exact ⟨⟨r1,h5,by omega,by omega⟩,r2⟩

theorem stp_count {E:List TEdge} {c:TCircuit} {s:List Int×List Bool} (hd:s.2.length=c.Gates.length) {x:TRouteStep} (h:(stp E c s x).1=0):(stp E c s x).2.2.length=c.Gates.length∧1+leftN (stp E c s x).2.2=(bif x.Gate==-1 then 1 else 0)+leftN s.2:=by
 unfold stp at h ⊢
 cases h1:(x.Gate==-1) with
 | true =>
  rw [h1] at h
  simp only [cond_true] at h ⊢
  cases h2:joinsB E x.A x.B with
  | true=>exact ⟨hd,rfl⟩
  | false=>rw [h2] at h; simp only [cond_false] at h; omega
 | false =>
  rw [h1] at h
  simp only [cond_false] at h ⊢
  cases h2:(((x.A != 0)||(x.B != 0))||!(rdB c s.2 x.Gate)) with
  | true=>rw [h2] at h; simp only [cond_true] at h; omega
  | false =>
   rw [h2] at h
   simp only [cond_false] at h ⊢
   cases h3:fitB E s.1 (c.Gates.getD x.Gate.toNat dGate) with
   | false=>rw [h3] at h; simp only [cond_false] at h; omega
   | true =>
    simp only [Bool.or_eq_false_iff,Bool.not_eq_false'] at h2
    obtain ⟨r1,r2,r3⟩:=rd_range h2.2
    have:=left_set s.2 x.Gate.toNat (by omega) r3
    simp only [cond_true,List.length_set]
    exact ⟨hd,by omega⟩
theorem rep_count {E:List TEdge} {c:TCircuit}:∀ {l:List TRouteStep} {s t:List Int×List Bool},s.2.length=c.Gates.length→Rep E c s l t→l.length+leftN t.2=swN l+leftN s.2:=fun {l}=>by
 induction l with
 | nil =>
  intro s t _ h
  have h:t=s:=h
  rw [h]; rfl
 | cons x r ih =>
  intro s t hd h
  obtain ⟨a1,a2⟩:=stp_count hd h.1
  have:=ih a1 h.2
  show r.length+1+leftN t.2=(bif x.Gate==-1 then 1 else 0)+swN r+leftN s.2
  omega
theorem swaps_impl {r:TRoute} (h:r.Steps.length≤1000000000):F_impl_swapsIn r=some ((swN r.Steps:Nat):Int):=by
 unfold F_impl_swapsIn
 rw [chk_t (by omega)]
 obtain ⟨z,h1,h2⟩:=forN_inv (f:=F_impl_swapsIn_l1 r) (fun i z=>z=((swN (r.Steps.take i):Nat):Int)) r.Steps.length 0 0 rfl (fun i z _ hi hz=>by
  have hx:=List.getElem?_eq_getElem (show i<r.Steps.length by omega)
  generalize r.Steps[i]=x at hx
  have h3:=sw_le (r.Steps.take i)
  rw [List.length_take] at h3
  refine ⟨_,?_,rfl⟩
  unfold F_impl_swapsIn_l1 F_impl_small
  rw [getI_nat,hx,hz,List.take_add_one,hx,Option.toList_some,sw_app]
  simp only [Option.bind_some]
  cases (x.Gate==-1)
  ·simp only [cond_false,Option.bind_some,Nat.add_zero]
   rw [wr (by omega)]
   exact congrArg some (Int.add_zero _)
  ·simp only [cond_true,Option.bind_some]
   rw [wr (by omega)]
   rfl)
 rw [h1,h2,Nat.zero_add,List.take_length]
 rfl
/-- What is known of a route that was found. -/
def FoundR (g:TCouplingGraph) (c:TCircuit) (start:List Int) (r:TRoute):Prop:=SmK g c∧RInv g c (start,List.replicate c.Gates.length false)∧∃ (ns:List RNode) (met:List (List Int)) (seen:List (TrouteKey×Bool)) (k:Nat) (x:RNode),SrK g c start ns met seen∧PrK g c ns k∧ns[k]?=some x∧leftN x.dn=0∧r=TRoute.mk start x.full
theorem route_both (g:TCouplingGraph) (c:TCircuit) (start:List Int) (h1:g.Edges.length≤1048576) (h2:c.Gates.length≤1048576) (h3:start.length≤1048576):∃ r ok,F_spec_RouteFrom g c start=some (r,ok)∧F_impl_leastRoute g c start=some (r,ok)∧(ok=false→r=TRoute.mk [] [])∧(ok=true→FoundR g c start r):=by
 obtain ⟨v,s1,s2,s3⟩:=small_both g c h1 h2
 unfold F_spec_RouteFrom F_impl_leastRoute
 rw [s1,s2]
 simp only [Option.bind_some]
 cases v with
 | false =>
  refine ⟨TRoute.mk [] [],false,rfl,rfl,fun _=>rfl,fun h=>by cases h⟩
 | true =>
  obtain ⟨hm,hq⟩:=s3 rfl
  obtain ⟨b,p1,p2,p3⟩:=place_both hm.ok.nodes c.Qubits start h3
  simp only [gb,Bool.not_true,Bool.not_false,cond_true]
  rw [p1,p2]
  simp only [Option.bind_some,Bool.false_or]
  cases b with
  | false=>exact ⟨TRoute.mk [] [],false,rfl,rfl,fun _=>rfl,fun h=>by cases h⟩
  | true =>
   obtain ⟨l1,l2⟩:=p3 rfl
   have hi:RInv g c (start,List.replicate c.Gates.length false):=⟨l1,by simp,l2⟩
   obtain ⟨r,ok,e1,e2,e3,e4⟩:=search_both hm hi
   simp only [Bool.not_true,cond_false]
   refine ⟨r,ok,?_,?_,e3,fun h=>⟨hm,hi,e4 h⟩⟩
   ·rw [e1]; rfl
   ·exact e2

theorem found_len {g:TCouplingGraph} {c:TCircuit} {start:List Int} {r:TRoute} (h:FoundR g c start r):r.Start=start∧r.Steps.length≤900000000∧r.Steps.length=swN r.Steps+c.Gates.length∧∃ t,Rep g.Edges c (start,List.replicate c.Gates.length false) r.Steps t∧leftN t.2=0:=by
 obtain ⟨hm,hi,ns,met,seen,k,x,h1,_,h2,h3,rfl⟩:=h
 have hlen:=sr_len hm h1
 have hk:=(List.getElem?_eq_some_iff.1 h2).1
 have hst:=h1.stl k x h2
 have hgl:=hm.gates
 have nx:=h1.nd x (List.mem_of_getElem? h2)
 have hc:=rep_count (hi.dn) nx.rep
 simp only at hc
 rw [h3,left_rep] at hc
 exact ⟨rfl,by show x.full.length≤_; omega,by show x.full.length=_; simpa using hc,_,nx.rep,h3⟩
theorem least_both (g:TCouplingGraph) (c:TCircuit) (start:List Int) (h1:g.Edges.length≤1048576) (h2:c.Gates.length≤1048576) (h3:start.length≤1048576):∃ r ok,F_impl_LeastSwaps g c start=some (((swN r.Steps:Nat):Int),ok)∧F_spec_LeastSwaps g c start=some (((swN r.Steps:Nat):Int),ok)∧F_impl_RouteFrom g c start=some (r,ok)∧F_spec_RouteFrom g c start=some (r,ok)∧(ok=true→FoundR g c start r):=by
 obtain ⟨r,ok,e1,e2,e3,e4⟩:=route_both g c start h1 h2 h3
 have hl:r.Steps.length≤900000000:=by
  cases ok with
  | false=>rw [e3 rfl]; exact Nat.zero_le _
  | true=>exact (found_len (e4 rfl)).2.1
 refine ⟨r,ok,?_,?_,?_,e1,e4⟩
 ·unfold F_impl_LeastSwaps
  rw [e2]
  simp only [Option.bind_some]
  rw [swaps_impl (by omega)]
  rfl
 ·unfold F_spec_LeastSwaps
  rw [e1]
  simp only [Option.bind_some]
  cases ok with
  | false=>rw [e3 rfl]; rfl
  | true =>
   have hf:=found_len (e4 rfl)
   simp only [Bool.not_true,cond_false]
   rw [wr (by omega),show (r.Steps.length:Int)-(c.Gates.length:Int)=((swN r.Steps:Nat):Int) by omega]
 ·unfold F_impl_RouteFrom
  rw [e2]
  rfl
theorem rep_prefix {E:List TEdge} {c:TCircuit}:∀ {l:List TRouteStep} {s t:List Int×List Bool},Rep E c s l t→∀ i x,l[i]?=some x→∃ u,Rep E c s (l.take i) u∧(stp E c u x).1=0∧Rep E c s (l.take (i+1)) (stp E c u x).2:=fun {l}=>by
 induction l with
 | nil=>intro s t _ i x hx; simp at hx
 | cons y r ih =>
  intro s t h i x hx
  cases i with
  | zero =>
   have:y=x:=by simpa using hx
   subst this
   exact ⟨s,rfl,h.1,h.1,rfl⟩
  | succ i =>
   obtain ⟨u,h1,h2,h3⟩:=ih h.2 i x (by simpa using hx)
   exact ⟨u,⟨h.1,h1⟩,h2,⟨h.1,h3⟩⟩
theorem rep_fun {E:List TEdge} {c:TCircuit}:∀ {l:List TRouteStep} {s t t':List Int×List Bool},Rep E c s l t→Rep E c s l t'→t=t':=fun {l}=>by
 induction l with
 | nil =>
  intro s t t' h h'
  have h:t=s:=h
  have h':t'=s:=h'
  rw [h,h']
 | cons y r ih=>intro s t t' h h'; exact ih h.2 h'.2
/-- A list of steps that goes through is accepted. -/
theorem check_ok {g:TCouplingGraph} {c:TCircuit} (h1:g.Edges.length≤1048576) (h2:c.Gates.length≤1048576) (hok:ROk g c) (hq:c.Qubits≤g.Nodes) {r:TRoute} (hl:r.Steps.length≤1000000000) (hi:RInv g c (r.Start,List.replicate c.Gates.length false)) {t:List Int×List Bool}
  (hr:Rep g.Edges c (r.Start,List.replicate c.Gates.length false) r.Steps t) (ht:leftN t.2=0) (hfit:F_impl_canRoute g c=some true) (hpl:F_impl_CouplingGraph_isPlacement g c.Qubits r.Start=some true):F_impl_CheckRoute g c r=some (0,0,true):=by
 have hgl:=hok.gl
 have hsl:=pl_len hok hi
 have hs:∃ e,forX (F_impl_check_l1 r (Trouting.mk g c r.Start (List.replicate c.Gates.length false)) g) r.Steps.length 0 (r.Start,List.replicate c.Gates.length false)=some (.inl e)∧Rep g.Edges c (r.Start,List.replicate c.Gates.length false) r.Steps e∧RInv g c e:=by
  rcases forX_inv (f:=F_impl_check_l1 r (Trouting.mk g c r.Start (List.replicate c.Gates.length false)) g) (fun i s=>Rep g.Edges c (r.Start,List.replicate c.Gates.length false) (r.Steps.take i) s∧RInv g c s) (fun _=>False) r.Steps.length 0 (r.Start,List.replicate c.Gates.length false) ⟨rfl,hi⟩ (fun i s _ hi' ⟨hI,hv⟩=>by
   have hx:=List.getElem?_eq_getElem (show i<r.Steps.length by omega)
   generalize r.Steps[i]=x at hx
   obtain ⟨u,u1,u2,u3⟩:=rep_prefix hr i x hx
   have e:=rep_fun hI u1
   subst e
   rw [check_step hok hx hv,u2]
   exact .inl ⟨_,rfl,u3,step_inv hok hv x⟩) with ⟨e,e1,e2,e3⟩ | ⟨_,_,h⟩
  ·rw [Nat.zero_add,List.take_length] at e2
   exact ⟨e,e1,e2,e3⟩
  ·exact h.elim
 obtain ⟨e,e1,e2,e3⟩:=hs
 have ee:=rep_fun e2 hr
 subst ee
 unfold F_impl_CheckRoute F_impl_check F_impl_newRouting F_slices_Clone_int_int
 rw [hfit,hpl]
 simp only [Option.bind_some,Bool.not_true,cond_false]
 rw [chk_t (by omega)]
 simp only [Option.bind_some]
 rw [chk_t ⟨by omega,by omega⟩]
 simp only [Option.bind_some]
 rw [chk_t (by omega),e1]
 simp only [Option.bind_some,orR]
 rw [contains_false (by rw [e3.dn]; omega),ht]
 rfl

def SubD (d d':List Bool):Prop:=∀ k,d.getD k false=true→d'.getD k false=true
theorem adv_sub {E:List TEdge} {c:TCircuit} {p:List Int}:∀ (f:Nat) (dn:List Bool) (k:Nat),dn.length=c.Gates.length→SubD dn (advF E c p f dn k).1:=fun f=>by
 induction f with
 | zero=>intro dn k _ j h; exact h
 | succ f ih =>
  intro dn k hd j h
  unfold advF
  by_cases h1:k<c.Gates.length
  ·rw [if_pos h1]
   by_cases h2:exB E c p dn k=true
   ·rw [if_pos h2]
    refine ih (dn.set k true) 0 (by rw [List.length_set]; exact hd) j ?_
    rw [getD_set' (by omega)]
    by_cases e:j=k
    ·rw [if_pos e]
    ·rw [if_neg e]; exact h
   ·rw [if_neg h2]
    exact ih dn (k+1) hd j h
  ·rw [if_neg h1]; exact h
theorem swp_comm (a b x:Int):swp a b x=swp b a x:=by
 unfold swp
 by_cases h1:x=a
 ·subst h1
  by_cases h2:x=b
  ·subst h2; rfl
  ·have e2:(x==b)=false:=by simpa using h2
   rw [e2]; simp
 ·have e1:(x==a)=false:=by simpa using h1
  rw [e1]
  by_cases h2:x=b
  ·subst h2; simp
  ·have e2:(x==b)=false:=by simpa using h2
   rw [e2]; rfl
theorem swapL_comm (l:List Int) (a b:Int):swapL l a b=swapL l b a:=by
 unfold swapL
 congr 1
 funext x
 exact swp_comm a b x
theorem joins_mem {E:List TEdge} {a b:Int} (h:joinsB E a b=true):∃ e∈E,∀ l,swapL l a b=swapL l e.A e.B:=by
 unfold joinsB at h
 obtain ⟨e,he,h2⟩:=List.any_eq_true.1 h
 simp only [Bool.or_eq_true,Bool.and_eq_true,beq_iff_eq] at h2
 rcases h2 with ⟨h3,h4⟩ | ⟨h3,h4⟩
 ·exact ⟨e,he,fun l=>by rw [← h3,← h4]⟩
 ·exact ⟨e,he,fun l=>by rw [← h3,← h4,swapL_comm]⟩
/-- A gate that is executed: what is eager has it already. -/
theorem sub_gate {E:List TEdge} {c:TCircuit} {p:List Int} {d d':List Bool} {k:Nat} (hk:k<c.Gates.length) (hd:d.length=c.Gates.length) (hs:SubD d d') (hc:ClosedD E c p d') (hr:rdB c d (k:Int)=true) (hf:fitB E p (c.Gates.getD k dGate)=true):SubD (d.set k true) d':=fun j hj=>by
 rw [getD_set' (by omega)] at hj
 by_cases e:j=k
 ·subst e
  cases hd':d'.getD j false with
  | true=>rfl
  | false =>
   obtain ⟨_,h2⟩:=(rd_iff hk).1 hr
   have hr':rdB c d' (j:Int)=true:=(rd_iff hk).2 ⟨hd',fun i hi hcm=>hs i (h2 i hi hcm)⟩
   have:=hc j hk
   unfold exB at this
   rw [hr',hf] at this
   cases this
 ·rw [if_neg e] at hj
  exact hs j hj

theorem rep_cover {g:TCouplingGraph} {c:TCircuit} {start:List Int} {ns:List RNode} {met:List (List Int)} {seen:List (TrouteKey×Bool)} {k:Nat} {xk:RNode} (h:SrK g c start ns met seen) (hp:PrK g c ns k) (hxk:ns[k]?=some xk) :
  ∀ (l:List TRouteStep) (s t:List Int×List Bool),s.2.length=c.Gates.length→Rep g.Edges c s l t→∀ y∈ns,y.p=s.1→SubD s.2 y.dn→swN y.full+swN l<swN xk.full→∃ y'∈ns,y'.p=t.1∧SubD t.2 y'.dn∧swN y'.full<swN xk.full:=fun l=>by
 induction l with
 | nil =>
  intro s t _ hr y hy e1 e2 e3
  have hr:t=s:=hr
  rw [hr]
  exact ⟨y,hy,e1,e2,by have:swN []=0:=rfl; omega⟩
 | cons x r ih =>
  intro s t hd hr y hy e1 e2 e3
  obtain ⟨a1,_⟩:=stp_count hd hr.1
  have hsw:swN (x::r)=(bif x.Gate==-1 then 1 else 0)+swN r:=rfl
  have h0:=hr.1
  have h2:=hr.2
  cases hg:(x.Gate==-1) with
  | true =>
   rw [hg] at hsw
   simp only [cond_true] at hsw
   cases hj:joinsB g.Edges x.A x.B with
   | false =>
    exfalso
    unfold stp at h0
    rw [hg,hj] at h0
    simp only [cond_true,cond_false] at h0
    omega
   | true =>
    have es:(stp g.Edges c s x).2=(swapL s.1 x.A x.B,s.2):=by
     unfold stp
     rw [hg,hj]
     rfl
    rw [es] at h2
    obtain ⟨e,he,hsl⟩:=joins_mem hj
    obtain ⟨a,ha,hae⟩:=List.mem_iff_getElem.1 hy
    have hya:ns[a]?=some y:=by rw [List.getElem?_eq_getElem ha,hae]
    have hak:a<k:=by
     by_cases hlt:a<k
     ·exact hlt
     ·have:=hp.ord k a xk y (by omega) hxk hya; omega
    obtain ⟨_,p2⟩:=hp.pr a y hak hya
    obtain ⟨y2,m1,⟨m2,m3⟩,m4⟩:=p2 e he
    have hyd:y.dn.length=c.Gates.length:=(h.nd y hy).inv.dn
    refine ih (swapL s.1 x.A x.B,s.2) t hd h2 y2 m1 (by rw [m2,e1]; exact (hsl s.1).symm) (fun j hj2=>?_) (by omega)
    rw [m3]
    exact adv_sub _ y.dn 0 hyd j (e2 j hj2)
  | false =>
   rw [hg] at hsw
   simp only [cond_false] at hsw
   cases hb:(((x.A != 0)||(x.B != 0))||!(rdB c s.2 x.Gate)) with
   | true =>
    exfalso
    unfold stp at h0
    rw [hg,hb] at h0
    simp only [cond_true,cond_false] at h0
    omega
   | false =>
    cases hf:fitB g.Edges s.1 (c.Gates.getD x.Gate.toNat dGate) with
    | false =>
     exfalso
     unfold stp at h0
     rw [hg,hb,hf] at h0
     simp only [cond_false] at h0
     omega
    | true =>
     have es:(stp g.Edges c s x).2=(s.1,s.2.set x.Gate.toNat true):=by
      unfold stp
      rw [hg,hb,hf]
      rfl
     rw [es] at h2
     simp only [Bool.or_eq_false_iff,Bool.not_eq_false'] at hb
     obtain ⟨r1,r2,_⟩:=rd_range hb.2
     have hgx:x.Gate=((x.Gate.toNat:Nat):Int):=by omega
     have hrd:=hb.2
     rw [hgx] at hrd
     have hcl:=(h.nd y hy).cl
     rw [e1] at hcl
     exact ih (s.1,s.2.set x.Gate.toNat true) t (by show (s.2.set x.Gate.toNat true).length=_; rw [List.length_set]; exact hd) h2 y hy e1 (sub_gate (by omega) hd e2 hcl hrd hf) (by omega)
theorem left_sub:∀ {d d':List Bool},d.length=d'.length→SubD d d'→leftN d=0→leftN d'=0:=fun {d d'} hl hs h0=>by
 have hd:=left_zero h0
 have:d'=List.replicate d'.length true:=by
  apply List.ext_getElem?
  intro j
  by_cases hj:j<d'.length
  ·have h1:d.getD j false=true:=by
    rw [hd,List.getD_eq_getElem?_getD,List.getElem?_replicate,if_pos (by omega)]; rfl
   have h2:=hs j h1
   rw [List.getD_eq_getElem?_getD,List.getElem?_eq_getElem hj] at h2
   rw [List.getElem?_eq_getElem hj,List.getElem?_replicate,if_pos hj]
   exact congrArg some h2
  ·rw [List.getElem?_eq_none (by omega),List.getElem?_eq_none (by rw [List.length_replicate]; omega)]
 rw [this]
 generalize d'.length=n
 induction n with
 | zero=>rfl
 | succ n ih=>rw [List.replicate_succ]; show 0+leftN (List.replicate n true)=0; omega
/-- No list of steps that executes all has fewer swaps than the route that is found. -/
theorem found_least {g:TCouplingGraph} {c:TCircuit} {start:List Int} {r:TRoute} (hf:FoundR g c start r) {l:List TRouteStep} {t:List Int×List Bool} (hr:Rep g.Edges c (start,List.replicate c.Gates.length false) l t) (ht:leftN t.2=0):swN r.Steps≤swN l:=by
 obtain ⟨hm,hi,ns,met,seen,k,x,h1,hp,h2,h3,rfl⟩:=hf
 by_cases hlt:swN l<swN x.full
 ·exfalso
  have hk:=(List.getElem?_eq_some_iff.1 h2).1
  have hy0:=List.getElem?_eq_getElem (show 0<ns.length by omega)
  generalize ns[0]=y0 at hy0
  rcases h1.path 0 y0 hy0 with ⟨e1,e2,e3⟩ | ⟨j,_,hj,_⟩
  ·have hy0m:=List.mem_of_getElem? hy0
   have n0:=h1.nd y0 hy0m
   have hst:=h1.stl 0 y0 hy0
   have hc:=rep_count hi.dn n0.rep
   simp only at hc
   rw [left_rep] at hc
   obtain ⟨y',m1,m2,m3,m4⟩:=rep_cover h1 hp h2 l (start,List.replicate c.Gates.length false) t hi.dn hr y0 hy0m e2 (fun j hj=>by
    exfalso
    rw [List.getD_eq_getElem?_getD,List.getElem?_replicate] at hj
    split at hj <;> cases hj) (by omega)
   obtain ⟨a,ha,hae⟩:=List.mem_iff_getElem.1 m1
   have hya:ns[a]?=some y':=by rw [List.getElem?_eq_getElem ha,hae]
   have hak:a<k:=by
    by_cases hlt2:a<k
    ·exact hlt2
    ·have:=hp.ord k a x y' (by omega) h2 hya; omega
   have htl:t.2.length=c.Gates.length:=by
    have:∀ (l:List TRouteStep) (s t:List Int×List Bool),s.2.length=c.Gates.length→Rep g.Edges c s l t→t.2.length=c.Gates.length:=fun l=>by
     induction l with
     | nil=>intro s t hs h; have h:t=s:=h; rw [h]; exact hs
     | cons z q ih=>intro s t hs h; exact ih _ t (stp_count hs h.1).1 h.2
    exact this l _ t hi.dn hr
   exact (hp.pr a y' hak hya).1 (left_sub (by rw [htl]; exact ((h1.nd y' m1).inv.dn).symm) m3 ht)
  ·omega
 ·show swN x.full≤_
  omega

structure GK (g:TCouplingGraph):Prop where
 el:g.Edges.length≤1048576
 nodes:1≤g.Nodes∧g.Nodes≤8
 eok:∀ x∈g.Edges,eOk g.Nodes x=true
theorem ROk.gk {g:TCouplingGraph} {c:TCircuit} (h:ROk g c):GK g:=⟨h.edges,h.nodes,h.eok⟩
theorem joins_sym (E:List TEdge) (a b:Int):joinsB E a b=joinsB E b a:=by
 unfold joinsB
 congr 1
 funext x
 rw [Bool.or_comm]
theorem near_loop {E:List TEdge} {N x:Int} (hN:1≤N∧N≤8) {f:Nat→List Int→Option (List Int)}
  (hf:∀ (i:Nat) (out:List Int),(i:Int)<N→out.length≤i→f i out=some (bif joinsB E (i:Int) x then out++[(i:Int)] else out)) :
  ∃ r,forN f N.toNat 0 []=some r∧r.length≤8∧∀ k,k∈r↔(0≤k∧k<N)∧joinsB E k x=true:=by
 obtain ⟨r,h1,h2,h3⟩:=forN_inv (f:=f) (fun i r=>r.length≤i∧∀ k,k∈r↔(0≤k∧k<(i:Int))∧joinsB E k x=true) N.toNat 0 [] ⟨Nat.le_refl _,fun k=>⟨fun h=>(by cases h),fun h=>(by have:=h.1; omega)⟩⟩ (fun i out _ hi ⟨hl,hI⟩=>by
  refine ⟨_,hf i out (by omega) hl,?_⟩
  cases hj:joinsB E (i:Int) x with
  | true =>
   refine ⟨by simp only [cond_true,List.length_append,List.length_cons,List.length_nil]; omega,fun k=>?_⟩
   rw [cond_true,List.mem_append,hI,List.mem_singleton]
   constructor
   ·rintro (⟨h1,h2⟩ | rfl)
    ·exact ⟨by omega,h2⟩
    ·exact ⟨by omega,hj⟩
   ·rintro ⟨h1,h2⟩
    by_cases e:k=(i:Int)
    ·exact .inr e
    ·exact .inl ⟨by omega,h2⟩
  | false =>
   refine ⟨by simp only [cond_false]; omega,fun k=>?_⟩
   rw [cond_false,hI]
   constructor
   ·rintro ⟨h1,h2⟩; exact ⟨by omega,h2⟩
   ·rintro ⟨h1,h2⟩
    refine ⟨?_,h2⟩
    by_cases e:k=(i:Int)
    ·subst e; rw [hj] at h2; cases h2
    ·omega)
 refine ⟨r,h1,by omega,fun k=>?_⟩
 rw [h3]
 have:((0+N.toNat:Nat):Int)=N:=by omega
 rw [this]
theorem near_impl {g:TCouplingGraph} (hg:GK g) (x:Int):∃ r,F_impl_CouplingGraph_near g x=some r∧r.length≤8∧∀ k,k∈r↔joinsB g.Edges k x=true:=by
 have hn:=hg.nodes
 obtain ⟨r,h1,h2,h3⟩:=near_loop (E:=g.Edges) (x:=x) hn (f:=F_impl_CouplingGraph_near_l1 x g) (fun i out hi hl=>by
  unfold F_impl_CouplingGraph_near_l1
  rw [impl_joins hg.el hg.eok]
  cases hj:joinsB g.Edges (i:Int) x with
  | false=>cases ((i:Int) != x) <;> rfl
  | true =>
   have hne:=(joins_in hg.eok hj).2.2.2.2
   have e:((i:Int) != x)=true:=by simpa using hne
   rw [e]
   simp only [gb,cond_true,Option.bind_some,Bool.true_and]
   rw [chk_t (by omega)]
   rfl)
 refine ⟨r,?_,h2,fun k=>?_⟩
 ·unfold F_impl_CouplingGraph_near
  rw [chk_t (by omega),h1]; rfl
 ·rw [h3]
  exact ⟨fun h=>h.2,fun h=>⟨⟨(joins_in hg.eok h).1,(joins_in hg.eok h).2.1⟩,h⟩⟩
theorem near_specN {g:TCouplingGraph} (hg:GK g) (x:Int):∃ r,F_spec_l22Near g x=some r∧r.length≤8∧∀ k,k∈r↔joinsB g.Edges k x=true:=by
 have hn:=hg.nodes
 obtain ⟨r,h1,h2,h3⟩:=near_loop (E:=g.Edges) (x:=x) hn (f:=F_spec_l22Near_l1 g x) (fun i out hi hl=>by
  unfold F_spec_l22Near_l1
  rw [spec_joins hg.el,joins_sym]
  simp only [Option.bind_some]
  cases hj:joinsB g.Edges (i:Int) x with
  | false=>rfl
  | true =>
   simp only [cond_true]
   rw [chk_t (by omega)]
   rfl)
 refine ⟨r,?_,h2,fun k=>?_⟩
 ·unfold F_spec_l22Near
  rw [chk_t (by omega),h1]; rfl
 ·rw [h3]
  exact ⟨fun h=>h.2,fun h=>⟨⟨(joins_in hg.eok h).1,(joins_in hg.eok h).2.1⟩,h⟩⟩
theorem rep_small:∀ n:Fin 9,F_slices_Repeat_int_int [-1] (n.val:Int)=some (List.replicate n.val (-1)):=by decide +kernel
def od (out:List Int) (x:Int):Int:=out.getD x.toNat (-1)
theorem od_set {out:List Int} {y v:Int} (hy:0≤y∧y<out.length) {x:Int} (hx:0≤x):od (out.set y.toNat v) x=if x=y then v else od out x:=by
 unfold od
 rw [List.getD_eq_getElem?_getD,List.getElem?_set]
 by_cases h:x=y
 ·subst h; rw [if_pos rfl,if_pos rfl,if_pos (by omega)]; rfl
 ·rw [if_neg (by omega),if_neg h,List.getD_eq_getElem?_getD]
theorem od_getI {out:List Int} {x:Int} (hx:0≤x∧x<out.length):getI out x=some (od out x):=by
 unfold od
 exact getI_gd (-1) hx.1 hx.2
/-- What the search for distances keeps. -/
structure BQ (E:List TEdge) (N node:Int) (out queue:List Int):Prop where
 len:(out.length:Int)=N
 nd:queue.Pairwise (·≠·)
 rng:∀ x∈queue,0≤x∧x<N
 mem:∀ x,0≤x→x<N→(0≤od out x↔x∈queue)
 sm:∀ x∈queue,od out x≤queue.length
 mono:queue.Pairwise (fun x y=>od out x≤od out y)
 par:∀ x∈queue,(x=node∧od out x=0)∨∃ y∈queue,joinsB E y x=true∧od out x=od out y+1
 st:node∈queue∧od out node=0
theorem BQ.qlen {E:List TEdge} {N node:Int} {out queue:List Int} (h:BQ E N node out queue) (hN:1≤N∧N≤8):queue.length≤N.toNat:=by
 have:=pigeon N.toNat (queue.map Int.toNat) (by
  unfold List.Nodup
  rw [List.pairwise_map]
  refine List.Pairwise.imp_of_mem (fun {a b} ha hb hne he=>hne ?_) h.nd
  have:=h.rng a ha
  have:=h.rng b hb
  omega) (fun x hx=>by
  obtain ⟨y,hy,rfl⟩:=List.mem_map.1 hx
  have:=h.rng y hy
  omega)
 rwa [List.length_map] at this
theorem bq_add {E:List TEdge} {N node:Int} {out queue:List Int} (h:BQ E N node out queue) {x y:Int} (hy:0≤y∧y<N) (hn:od out y<0) (hx:x∈queue) (hj:joinsB E x y=true) (hle:∀ z∈queue,od out z≤od out x+1) :
  BQ E N node (out.set y.toNat (od out x+1)) (queue++[y])∧(∀ z∈queue,od (out.set y.toNat (od out x+1)) z=od out z)∧od (out.set y.toNat (od out x+1)) y=od out x+1:=by
 have hl:=h.len
 have hyq:y∉queue:=fun hq=>by have:=(h.mem y hy.1 hy.2).2 hq; omega
 have hset:∀ z,0≤z→od (out.set y.toNat (od out x+1)) z=if z=y then od out x+1 else od out z:=fun z hz=>od_set (by omega) hz
 have hold:∀ z∈queue,od (out.set y.toNat (od out x+1)) z=od out z:=fun z hz=>by
  rw [hset z (h.rng z hz).1,if_neg (fun e=>hyq (by rw [← e]; exact hz))]
 have hnew:od (out.set y.toNat (od out x+1)) y=od out x+1:=by rw [hset y hy.1,if_pos rfl]
 have hx0:0≤od out x:=(h.mem x (h.rng x hx).1 (h.rng x hx).2).2 hx
 refine ⟨⟨by rw [List.length_set]; exact hl,?_,?_,?_,?_,?_,?_,?_⟩,hold,hnew⟩
 ·rw [List.pairwise_append]
  exact ⟨h.nd,List.pairwise_singleton _ _,fun a ha b hb=>by
   rw [List.mem_singleton] at hb; subst hb
   exact fun e=>hyq (e ▸ ha)⟩
 ·intro z hz
  rcases List.mem_append.1 hz with hz | hz
  ·exact h.rng z hz
  ·rw [List.mem_singleton] at hz; subst hz; exact hy
 ·intro z z0 z1
  rw [hset z z0,List.mem_append,List.mem_singleton]
  by_cases e:z=y
  ·rw [if_pos e]; exact ⟨fun _=>.inr e,fun _=>by omega⟩
  ·rw [if_neg e,h.mem z z0 z1]
   exact ⟨.inl,fun hh=>hh.elim id (fun hh=>absurd hh e)⟩
 ·intro z hz
  rw [List.length_append,List.length_singleton]
  rcases List.mem_append.1 hz with hz | hz
  ·rw [hold z hz]; have:=h.sm z hz; omega
  ·rw [List.mem_singleton] at hz; subst hz
   rw [hnew]; have:=h.sm x hx; omega
 ·rw [List.pairwise_append]
  refine ⟨List.Pairwise.imp_of_mem (fun {a b} ha hb hh=>by rw [hold a ha,hold b hb]; exact hh) h.mono,List.pairwise_singleton _ _,fun a ha b hb=>?_⟩
  rw [List.mem_singleton] at hb; subst hb
  rw [hold a ha,hnew]; exact hle a ha
 ·intro z hz
  rcases List.mem_append.1 hz with hz | hz
  ·rw [hold z hz]
   rcases h.par z hz with hp | ⟨w,hw,h1,h2⟩
   ·exact .inl hp
   ·exact .inr ⟨w,List.mem_append_left _ hw,h1,by rw [hold w hw]; exact h2⟩
  ·rw [List.mem_singleton] at hz; subst hz
   exact .inr ⟨x,List.mem_append_left _ hx,hj,by rw [hnew,hold x hx]⟩
 ·exact ⟨List.mem_append_left _ h.st.1,by rw [hold _ h.st.1]; exact h.st.2⟩
/-- What is known of distances. -/
structure FarK (E:List TEdge) (N node:Int) (out:List Int):Prop where
 len:(out.length:Int)=N
 zero:od out node=0
 par:∀ x,0≤x→x<N→0≤od out x→(x=node∧od out x=0)∨∃ y,joinsB E y x=true∧0≤od out y∧od out x=od out y+1
 sm:∀ x,0≤x→x<N→od out x≤8
structure FarC (E:List TEdge) (N node:Int) (out:List Int):Prop extends FarK E N node out where
 near:∀ x y,joinsB E y x=true→0≤od out x→0≤od out y∧od out y≤od out x+1
theorem dist_inner {g:TCouplingGraph} (hg:GK g) {node:Int} {r:List Int} {x:Int} (hr:∀ k,k∈r↔joinsB g.Edges k x=true) {at_:Nat} {out queue:List Int} (h:BQ g.Edges g.Nodes node out queue) (hx:queue[at_]?=some x) (hle:∀ z∈queue,od out z≤od out x+1)
  (hp:∀ j,j<at_→∀ w,queue[j]?=some w→∀ y,joinsB g.Edges y w=true→0≤od out y∧od out y≤od out w+1) :
  ∃ out' queue',forN (F_impl_CouplingGraph_distances_l2 r (at_:Int)) r.length 0 (out,queue)=some (out',queue')∧BQ g.Edges g.Nodes node out' queue'∧queue'[at_]?=some x∧(∀ z∈queue',od out' z≤od out' x+1) ∧
   (∀ j,j<at_+1→∀ w,queue'[j]?=some w→∀ y,joinsB g.Edges y w=true→0≤od out' y∧od out' y≤od out' w+1):=by
 have hN:=hg.nodes
 obtain ⟨⟨out',queue'⟩,h1,⟨h2,h3,h4,h5,h6⟩⟩:=forN_inv (f:=F_impl_CouplingGraph_distances_l2 r (at_:Int)) (fun i s=>BQ g.Edges g.Nodes node s.1 s.2∧s.2[at_]?=some x∧(∀ z∈s.2,od s.1 z≤od s.1 x+1)∧(∀ j,j<i→∀ k,r[j]?=some k→0≤od s.1 k∧od s.1 k≤od s.1 x+1) ∧
   (∀ j,j<at_→∀ w,s.2[j]?=some w→∀ y,joinsB g.Edges y w=true→0≤od s.1 y∧od s.1 y≤od s.1 w+1)) r.length 0 (out,queue) ⟨h,hx,hle,fun j hj=>absurd hj (Nat.not_lt_zero _),hp⟩ (fun i s _ hi ⟨g1,g2,g3,g4,g5⟩=>by
  obtain ⟨o,q⟩:=s
  simp only at g1 g2 g3 g4 g5
  have hk:=List.getElem?_eq_getElem (show i<r.length by omega)
  generalize r[i]=k at hk
  have hkj:=(hr k).1 (List.mem_of_getElem? hk)
  obtain ⟨k0,k1,_,_,_⟩:=joins_in hg.eok hkj
  have hol:=g1.len
  have hql:=g1.qlen hN
  have hxq:=List.mem_of_getElem? g2
  have hxr:=g1.rng x hxq
  unfold F_impl_CouplingGraph_distances_l2
  simp only [getI_nat,hk,Option.bind_some]
  rw [od_getI (by omega)]
  simp only [Option.bind_some]
  by_cases hneg:od o k<0
  ·rw [decide_eq_true hneg]
   simp only [cond_true]
   rw [g2]
   simp only [Option.bind_some]
   rw [od_getI (by omega)]
   simp only [Option.bind_some]
   rw [chk_t (by omega)]
   have hsm:=g1.sm x hxq
   have hx0:=(g1.mem x hxr.1 hxr.2).2 hxq
   rw [wr (a:=od o x+1) (by omega)]
   simp only [Option.bind_some]
   obtain ⟨b1,b2,b3⟩:=bq_add g1 ⟨k0,k1⟩ hneg hxq (by rw [joins_sym]; exact hkj) g3
   refine ⟨_,rfl,b1,?_,?_,?_,?_⟩
   ·show (q++[k])[at_]?=some x
    rw [List.getElem?_append_left (List.getElem?_eq_some_iff.1 g2).1]; exact g2
   ·intro z hz
    show od (o.set _ _) z≤od (o.set _ _) x+1
    rw [b2 x hxq]
    rcases List.mem_append.1 hz with hz | hz
    ·rw [b2 z hz]; exact g3 z hz
    ·rw [List.mem_singleton] at hz; subst hz; rw [b3]; omega
   ·intro j hj k' hk'
    show 0≤od (o.set _ _) k'∧od (o.set _ _) k'≤od (o.set _ _) x+1
    rw [b2 x hxq]
    rcases Nat.lt_succ_iff_lt_or_eq.1 hj with h | rfl
    ·obtain ⟨c1,c2⟩:=g4 j h k' hk'
     have hkj':=(hr k').1 (List.mem_of_getElem? hk')
     obtain ⟨k0',k1',_,_,_⟩:=joins_in hg.eok hkj'
     rw [b2 k' ((g1.mem k' k0' k1').1 c1)]
     exact ⟨c1,c2⟩
    ·rw [hk] at hk'; cases hk'
     rw [b3]; omega
   ·intro j hj w hw y hyw
    show 0≤od (o.set _ _) y∧od (o.set _ _) y≤od (o.set _ _) w+1
    have hjl:j<q.length:=by have:=(List.getElem?_eq_some_iff.1 g2).1; omega
    have hw2:q[j]?=some w:=by
     rw [← hw]; exact (List.getElem?_append_left hjl).symm
    obtain ⟨c1,c2⟩:=g5 j hj w hw2 y hyw
    obtain ⟨y0,y1,_,_,_⟩:=joins_in hg.eok hyw
    rw [b2 y ((g1.mem y y0 y1).1 c1),b2 w (List.mem_of_getElem? hw2)]
    exact ⟨c1,c2⟩
  ·rw [decide_eq_false hneg]
   simp only [cond_false,Option.bind_some]
   refine ⟨_,rfl,g1,g2,g3,?_,g5⟩
   intro j hj k' hk'
   rcases Nat.lt_succ_iff_lt_or_eq.1 hj with h | rfl
   ·exact g4 j h k' hk'
   ·rw [hk] at hk'; cases hk'
    exact ⟨by show 0≤od o k; omega,g3 k ((g1.mem k k0 k1).1 (by omega))⟩)
 simp only at h2 h3 h4 h5 h6
 refine ⟨out',queue',h1,h2,h3,h4,fun j hj w hw y hyw=>?_⟩
 rcases Nat.lt_succ_iff_lt_or_eq.1 hj with hlt | rfl
 ·exact h6 j hlt w hw y hyw
 ·rw [h3] at hw; cases hw
  obtain ⟨i,hi⟩:=List.mem_iff_getElem?.1 ((hr y).2 hyw)
  exact h5 i (by have:=(List.getElem?_eq_some_iff.1 hi).1; omega) y hi
theorem far_impl {g:TCouplingGraph} (hg:GK g) {node:Int} (hn:0≤node∧node<g.Nodes):∃ out,F_impl_CouplingGraph_distances g node=some out∧FarC g.Edges g.Nodes node out:=by
 have hN:=hg.nodes
 obtain ⟨N,hNe⟩:∃ N:Nat,g.Nodes=N:=⟨g.Nodes.toNat,by omega⟩
 have hrep:=rep_small ⟨N,by omega⟩
 simp only at hrep
 have hlen0:((List.replicate N (-1:Int)).length:Int)=g.Nodes:=by rw [List.length_replicate,hNe]
 have hod0:∀ x,od (List.replicate N (-1:Int)) x = -1:=fun x=>by
  unfold od
  rw [List.getD_eq_getElem?_getD,List.getElem?_replicate]
  split <;> rfl
 have hset:∀ z,0≤z→od ((List.replicate N (-1:Int)).set node.toNat 0) z=if z=node then 0 else -1:=fun z hz=>by
  rw [od_set (by omega) hz,hod0]
 have b0:BQ g.Edges g.Nodes node ((List.replicate N (-1:Int)).set node.toNat 0) [node]:=by
  refine ⟨by rw [List.length_set]; exact hlen0,List.pairwise_singleton _ _,?_,?_,?_,List.pairwise_singleton _ _,?_,?_⟩
  ·intro x hx; rw [List.mem_singleton] at hx; subst hx; exact hn
  ·intro x x0 x1
   rw [hset x x0,List.mem_singleton]
   by_cases e:x=node
   ·rw [if_pos e]; exact ⟨fun _=>e,fun _=>Int.le_refl _⟩
   ·rw [if_neg e]; exact ⟨fun h=>by omega,fun h=>absurd h e⟩
  ·intro x hx; rw [List.mem_singleton] at hx; subst hx
   rw [hset x hn.1,if_pos rfl]; simp
  ·intro x hx; rw [List.mem_singleton] at hx; subst hx
   rw [hset x hn.1,if_pos rfl]; exact .inl ⟨rfl,rfl⟩
  ·exact ⟨List.mem_singleton.2 rfl,by rw [hset node hn.1,if_pos rfl]⟩
 unfold F_impl_CouplingGraph_distances
 rw [hNe,hrep]
 simp only [Option.bind_some]
 rw [od_getI (by omega)]
 simp only [Option.bind_some]
 rcases whX_inv (f:=F_impl_CouplingGraph_distances_l1 g) (fun s=>∃ a:Nat,s.2.2=(a:Int)∧a≤s.2.1.length∧BQ g.Edges g.Nodes node s.1 s.2.1∧(∀ x,s.2.1[a]?=some x→∀ z∈s.2.1,od s.1 z≤od s.1 x+1) ∧
   (∀ j,j<a→∀ w,s.2.1[j]?=some w→∀ y,joinsB g.Edges y w=true→0≤od s.1 y∧od s.1 y≤od s.1 w+1)) (fun s=>FarC g.Edges g.Nodes node s.1) (fun _=>False) (fun s=>g.Nodes.toNat-s.2.2.toNat) (fun s ⟨a,ha,hal,g1,g2,g3⟩=>by
  obtain ⟨o,q,z⟩:=s
  simp only at ha hal g1 g2 g3
  subst ha
  have hql:=g1.qlen hN
  unfold F_impl_CouplingGraph_distances_l1
  simp only
  by_cases hlt:a<q.length
  ·rw [decide_eq_true (show (a:Int)<(q.length:Int) by omega)]
   have hx:=List.getElem?_eq_getElem hlt
   generalize q[a]=x at hx
   simp only [cond_true,getI_nat,hx,Option.bind_some]
   obtain ⟨r,r1,r2,r3⟩:=near_impl hg x
   rw [r1]
   simp only [Option.bind_some]
   rw [chk_t (by omega)]
   obtain ⟨o',q',i1,i2,i3,i4,i5⟩:=dist_inner hg r3 g1 hx (g2 x hx) g3
   rw [i1]
   simp only [Option.bind_some]
   rw [wr (a:=(a:Int)+1) (by omega)]
   have hal':=(List.getElem?_eq_some_iff.1 i3).1
   refine .inl ⟨_,rfl,⟨a+1,by simp only; omega,hal',i2,fun x' hx' z hz=>?_,i5⟩,?_⟩
   ·have hm:=i2.mono
    have h1:od o' x≤od o' x':=by
     rw [List.pairwise_iff_getElem] at hm
     obtain ⟨l1,e1⟩:=List.getElem?_eq_some_iff.1 i3
     obtain ⟨l2,e2⟩:=List.getElem?_eq_some_iff.1 hx'
     have:=hm a (a+1) l1 l2 (by omega)
     rwa [e1,e2] at this
    have h2:=i4 z hz
    show od o' z≤od o' x'+1
    omega
   ·show g.Nodes.toNat-((a:Int)+1).toNat<g.Nodes.toNat-(a:Int).toNat
    omega
  ·rw [decide_eq_false (show ¬ (a:Int)<(q.length:Int) by omega)]
   refine .inr (.inl ⟨_,rfl,?_⟩)
   have hmem:∀ x,0≤x→x<g.Nodes→0≤od o x→x∈q:=fun x x0 x1 h=>(g1.mem x x0 x1).1 h
   refine ⟨⟨g1.len,g1.st.2,fun x x0 x1 hx=>?_,fun x x0 x1=>?_⟩,fun x y hj hx=>?_⟩
   ·rcases g1.par x (hmem x x0 x1 hx) with hp | ⟨y,hy,h1,h2⟩
    ·exact .inl hp
    ·exact .inr ⟨y,h1,(g1.mem y (g1.rng y hy).1 (g1.rng y hy).2).2 hy,h2⟩
   ·show od o x≤8
    by_cases hx:0≤od o x
    ·have:=g1.sm x (hmem x x0 x1 hx); omega
    ·omega
   ·obtain ⟨_,_,x0,x1,_⟩:=joins_in hg.eok hj
    obtain ⟨j,hj2⟩:=List.mem_iff_getElem?.1 (hmem x x0 x1 hx)
    have:=(List.getElem?_eq_some_iff.1 hj2).1
    exact g3 j (by omega) x hj2 y hj) fuel ((List.replicate N (-1:Int)).set node.toNat 0,[node],0) ⟨0,rfl,Nat.zero_le _,b0,fun x hx z hz=>by
   have hx:x=node:=by simpa using hx.symm
   subst hx
   rw [List.mem_singleton] at hz; subst hz; omega,fun j hj=>absurd hj (Nat.not_lt_zero _)⟩ (fuel_big (by simp only; omega)) with ⟨s',e1,e2⟩ | ⟨_,_,h⟩
 ·rw [e1]
  exact ⟨_,rfl,by rw [← hNe]; exact e2⟩
 ·exact h.elim

theorem forX_find {ρ σ:Type} {f:Nat→σ→Option (Ex σ ρ)} {s:σ} {r:List Int} {p:Int→Bool} {q:Int→σ} (hf:∀ i x,r[i]?=some x→f i s=some (bif p x then .br (q x) else .nx s)) (he:∃ x∈r,p x=true):∃ x∈r,p x=true∧forX f r.length 0 s=some (.inl (q x)):=by
 have key:∀ (d i:Nat),i+d=r.length→(∃ j x,i≤j∧r[j]?=some x∧p x=true)→∃ x∈r,p x=true∧forX f d i s=some (.inl (q x)):=fun d=>by
  induction d with
  | zero =>
   intro i hi ⟨j,x,hj,hx,_⟩
   have:=(List.getElem?_eq_some_iff.1 hx).1
   omega
  | succ d ih =>
   intro i hi ⟨j,x,hj,hx,hp⟩
   have hxi:=List.getElem?_eq_getElem (show i<r.length by omega)
   generalize r[i]=y at hxi
   have h1:=hf i y hxi
   cases hy:p y with
   | true =>
    rw [hy] at h1
    exact ⟨y,List.mem_of_getElem? hxi,hy,by simp only [forX,h1,Option.bind_some,cond_true]⟩
   | false =>
    rw [hy] at h1
    have hji:i+1≤j:=by
     by_cases e:j=i
     ·subst e; rw [hxi] at hx; cases hx; rw [hy] at hp; cases hp
     ·omega
    obtain ⟨z,z1,z2,z3⟩:=ih (i+1) (by omega) ⟨j,x,hji,hx,hp⟩
    exact ⟨z,z1,z2,by simp only [forX,h1,Option.bind_some,cond_false]; exact z3⟩
 obtain ⟨x,hx,hp⟩:=he
 obtain ⟨j,hj⟩:=List.mem_iff_getElem?.1 hx
 exact key r.length 0 (by omega) ⟨j,x,Nat.zero_le _,hj,hp⟩
/-- A path from a to b; b is at its end alone. -/
structure PathK (E:List TEdge) (a b:Int) (l:List Int):Prop where
 ne:0<l.length
 hd:l[0]?=some a
 lst:l[l.length-1]?=some b
 ch:∀ i x y,l[i]?=some x→l[i+1]?=some y→joinsB E x y=true
 len:l.length≤10
 fr:∀ i x,i+1<l.length→l[i]?=some x→x≠b
/-- What the way to b keeps. -/
structure WayK (E:List TEdge) (N:Int) (far:List Int) (a a1:Int) (l:List Int):Prop where
 ne:0<l.length
 hd:l[0]?=some a
 lst:l[l.length-1]?=some a1
 ch:∀ i x y,l[i]?=some x→l[i+1]?=some y→joinsB E x y=true
 rg:0≤a1∧a1<N
 f0:0≤od far a1
 ln:(l.length:Int)+od far a1≤9
 fr:∀ i x,i+1<l.length→l[i]?=some x→od far a1<od far x
theorem way_snoc {E:List TEdge} {N:Int} {far l:List Int} {a a1 y:Int} (h:WayK E N far a a1 l) (hy:0≤y∧y<N) (hj:joinsB E a1 y=true) (hf:od far y=od far a1-1) (h0:0≤od far y):WayK E N far a y (l++[y]):=by
 have hne:=h.ne
 have hln:=h.ln
 have h1:∀ i,i<l.length→(l++[y])[i]?=l[i]?:=fun i hi=>List.getElem?_append_left hi
 have h2:(l++[y])[l.length]?=some y:=by rw [List.getElem?_append_right (Nat.le_refl _)]; simp
 have hlen:(l++[y]).length=l.length+1:=by simp
 refine ⟨by omega,by rw [h1 0 hne]; exact h.hd,by rw [hlen]; exact h2,fun i x z hx hz=>?_,hy,h0,by rw [hlen]; push_cast; omega,fun i x hi hx=>?_⟩
 ·have hi:=(List.getElem?_eq_some_iff.1 hz).1
  rw [hlen] at hi
  rw [h1 i (by omega)] at hx
  by_cases e:i+1=l.length
  ·rw [e,h2] at hz; cases hz
   have:=h.lst
   rw [show l.length-1=i by omega,hx] at this; cases this
   exact hj
  ·rw [h1 (i+1) (by omega)] at hz
   exact h.ch i x z hx hz
 ·rw [hlen] at hi
  rw [h1 i (by omega)] at hx
  by_cases e:i+1=l.length
  ·have:=h.lst
   rw [show l.length-1=i by omega,hx] at this; cases this
   omega
  ·have:=h.fr i x (by omega) hx
   omega
theorem way_end {E:List TEdge} {N b:Int} {far l:List Int} {a:Int} (hk:FarK E N b far) (h:WayK E N far a b l):PathK E a b l:=by
 have hln:=h.ln
 have hz:=hk.zero
 refine ⟨h.ne,h.hd,h.lst,h.ch,by omega,fun i x hi hx e=>?_⟩
 have:=h.fr i x hi hx
 subst e
 omega
theorem way_next {E:List TEdge} {N b:Int} {far l:List Int} {a a1:Int} (hE:∀ {x y:Int},joinsB E x y=true→(0≤x∧x<N)∧0≤y∧y<N) (hk:FarK E N b far) (h:WayK E N far a a1 l) (hne:a1≠b):∃ y,joinsB E y a1=true∧od far y=od far a1-1∧0≤od far y:=by
 rcases hk.par a1 h.rg.1 h.rg.2 h.f0 with ⟨e,_⟩ | ⟨y,h1,h2,h3⟩
 ·exact absurd e hne
 ·exact ⟨y,h1,by omega,h2⟩
theorem way_start {E:List TEdge} {N b:Int} {far:List Int} {a:Int} (hk:FarK E N b far) (ha:0≤a∧a<N) (h0:0≤od far a):WayK E N far a a [a]:=by
 have:=hk.sm a ha.1 ha.2
 refine ⟨by simp,rfl,rfl,fun i x y hx hy=>?_,ha,h0,by simp; omega,fun i x hi hx=>?_⟩
 ·have:=(List.getElem?_eq_some_iff.1 hy).1
  simp at this
 ·simp at hi
theorem path_impl {g:TCouplingGraph} (hg:GK g) {a b:Int} (ha:0≤a∧a<g.Nodes) (hb:0≤b∧b<g.Nodes):∃ l,F_impl_CouplingGraph_path g a b=some l∧(l=[]∨PathK g.Edges a b l)∧∃ far,FarC g.Edges g.Nodes b far∧(0≤od far a→l≠[]):=by
 have hE:∀ {x y:Int},joinsB g.Edges x y=true→(0≤x∧x<g.Nodes)∧0≤y∧y<g.Nodes:=fun hj=>by
  obtain ⟨h1,h2,h3,h4,_⟩:=joins_in hg.eok hj
  exact ⟨⟨h1,h2⟩,h3,h4⟩
 obtain ⟨far,f1,f2⟩:=far_impl hg hb
 have hfl:=f2.len
 unfold F_impl_CouplingGraph_path
 rw [f1]
 simp only [Option.bind_some]
 rw [od_getI (by omega)]
 simp only [Option.bind_some]
 by_cases hneg:od far a<0
 ·rw [decide_eq_true hneg]
  exact ⟨[],rfl,.inl rfl,far,f2,fun h=>by omega⟩
 ·rw [decide_eq_false hneg]
  simp only [cond_false]
  rcases whX_inv (f:=F_impl_CouplingGraph_path_l1 b g far) (fun s=>WayK g.Edges g.Nodes far a s.1 s.2) (fun s=>PathK g.Edges a b s.2) (fun _=>False) (fun s=>(od far s.1).toNat) (fun s hs=>by
   obtain ⟨a1,out⟩:=s
   simp only at hs
   have hrg:=hs.rg
   have hln:=hs.ln
   have hf0:=hs.f0
   unfold F_impl_CouplingGraph_path_l1
   simp only
   by_cases e:a1=b
   ·subst e
    refine .inr (.inl ⟨(a1,out),?_,way_end f2.toFarK hs⟩)
    rw [show (a1 != a1)=false from by simp]; rfl
   ·rw [show (a1 != b)=true from by simpa using e]
    obtain ⟨r,r1,r2,r3⟩:=near_impl hg a1
    simp only [cond_true]
    rw [r1]
    simp only [Option.bind_some]
    rw [chk_t (by omega)]
    obtain ⟨y,y1,y2,y3⟩:=way_next hE f2.toFarK hs e
    obtain ⟨k,k1,k2,k3⟩:=forX_find (f:=F_impl_CouplingGraph_path_l2 r far) (s:=a1) (r:=r) (p:=fun k=>od far k==od far a1-1) (q:=fun k=>k) (fun i x hx=>by
     obtain ⟨⟨x0,x1⟩,_⟩:=hE ((r3 x).1 (List.mem_of_getElem? hx))
     have hsm:=f2.sm a1 hrg.1 hrg.2
     unfold F_impl_CouplingGraph_path_l2
     simp only [getI_nat,hx,Option.bind_some]
     rw [od_getI (by omega),od_getI (by omega)]
     simp only [Option.bind_some]
     rw [wr (a:=od far a1-1) (by omega)]
     cases (od far x==od far a1-1) <;> rfl) ⟨y,(r3 y).2 y1,by simpa using y2⟩
    rw [k3]
    simp only [Option.bind_some,orR]
    rw [chk_t (by omega)]
    have kj:=(r3 k).1 k1
    have k2:od far k=od far a1-1:=by simpa using k2
    have k4:0≤od far k:=by omega
    refine .inl ⟨_,rfl,way_snoc hs (hE kj).1 (by rw [joins_sym]; exact kj) k2 k4,?_⟩
    show (od far k).toNat<(od far a1).toNat
    omega) fuel (a,[a]) (way_start f2.toFarK ha (by omega)) (fuel_big (by have:=f2.sm a ha.1 ha.2; show (od far a).toNat<_; omega)) with ⟨s',e1,e2⟩ | ⟨_,_,h⟩
  ·rw [e1]
   simp only [Option.bind_some,orR]
   have hne:s'.2≠[]:=fun e=>by have:=e2.ne; rw [e] at this; exact absurd this (Nat.not_lt_zero _)
   rw [chk_t hne]
   exact ⟨_,rfl,.inr e2,far,f2,fun _=>hne⟩
  ·exact h.elim
structure FarS (E:List TEdge) (N node:Int) (m:Nat) (out:List Int):Prop where
 len:(out.length:Int)=N
 zero:od out node=0
 par:∀ x,0≤x→x<N→0≤od out x→(x=node∧od out x=0)∨∃ y,joinsB E y x=true∧0≤od out y∧od out x=od out y+1
 sm:∀ x,0≤x→x<N→od out x≤(m:Int)
theorem FarS.up {E:List TEdge} {N node:Int} {m m':Nat} {out:List Int} (h:FarS E N node m out) (hm:m≤m'):FarS E N node m' out:=⟨h.len,h.zero,h.par,fun x h0 h1=>by have:=h.sm x h0 h1; omega⟩
theorem fars_add {E:List TEdge} {N node:Int} {m:Nat} {out:List Int} (hE:∀ {x y:Int},joinsB E x y=true→(0≤x∧x<N)∧0≤y∧y<N) (hnd:0≤node∧node<N) (h:FarS E N node (m+1) out) {x y:Int} (hn:od out y<0) (hx:od out x=(m:Int)) (hj:joinsB E x y=true):FarS E N node (m+1) (out.set y.toNat ((m:Int)+1)):=by
 have hl:=h.len
 obtain ⟨hx0,hy0⟩:=hE hj
 have hset:∀ z,0≤z→od (out.set y.toNat ((m:Int)+1)) z=if z=y then (m:Int)+1 else od out z:=fun z hz=>od_set (by omega) hz
 have hold:∀ z,0≤z→0≤od out z→od (out.set y.toNat ((m:Int)+1)) z=od out z:=fun z hz hh=>by
  rw [hset z hz,if_neg (fun e=>by rw [e] at hh; omega)]
 refine ⟨by rw [List.length_set]; exact hl,?_,fun z z0 z1 hz=>?_,fun z z0 z1=>?_⟩
 ·rw [hold node hnd.1 (by rw [h.zero]; omega)]; exact h.zero
 ·by_cases e:z=y
  ·subst e
   refine .inr ⟨x,hj,by rw [hold x hx0.1 (by omega)]; omega,?_⟩
   rw [hset z z0,if_pos rfl,hold x hx0.1 (by omega),hx]
  ·have hz':od (out.set y.toNat ((m:Int)+1)) z=od out z:=by rw [hset z z0,if_neg e]
   rw [hz'] at hz ⊢
   rcases h.par z z0 z1 hz with hp | ⟨w,h1,h2,h3⟩
   ·exact .inl hp
   ·exact .inr ⟨w,h1,by rw [hold w (hE h1).1.1 h2]; exact h2,by rw [hold w (hE h1).1.1 h2]; exact h3⟩
 ·rw [hset z z0]
  split
  ·omega
  ·exact h.sm z z0 z1
theorem far_spec {g:TCouplingGraph} (hg:GK g) {node:Int} (hn:0≤node∧node<g.Nodes):∃ out,F_spec_l22Far g node=some out∧FarK g.Edges g.Nodes node out:=by
 have hN:=hg.nodes
 have hE:∀ {x y:Int},joinsB g.Edges x y=true→(0≤x∧x<g.Nodes)∧0≤y∧y<g.Nodes:=fun hj=>by
  obtain ⟨h1,h2,h3,h4,_⟩:=joins_in hg.eok hj
  exact ⟨⟨h1,h2⟩,h3,h4⟩
 unfold F_spec_l22Far
 rw [chk_t (by omega),chk_t (by omega)]
 obtain ⟨o,o1,o2,o3⟩:=forN_inv (f:=F_spec_l22Far_l1) (fun i s=>s.length=g.Nodes.toNat∧∀ j,j<i→s[j]?=some (-1:Int)) g.Nodes.toNat 0 (List.replicate g.Nodes.toNat 0) ⟨by simp,fun j hj=>absurd hj (Nat.not_lt_zero _)⟩ (fun i s _ hi ⟨hl,hI⟩=>by
  have hx:=List.getElem?_eq_getElem (show i<s.length by omega)
  generalize s[i]=x at hx
  unfold F_spec_l22Far_l1
  simp only [getI_nat,hx,Option.bind_some,Int.toNat_natCast]
  refine ⟨_,rfl,by rw [List.length_set]; exact hl,fun j hj=>?_⟩
  rw [List.getElem?_set]
  by_cases e:i=j
  ·rw [if_pos e,if_pos (by omega)]
  ·rw [if_neg e]; exact hI j (by omega))
 rw [o1]
 simp only [Option.bind_some]
 rw [od_getI (by omega)]
 simp only [Option.bind_some]
 rw [chk_t (by omega)]
 have hod:∀ x,0≤x→x<g.Nodes→od o x = -1:=fun x x0 x1=>by
  unfold od
  rw [List.getD_eq_getElem?_getD,o3 x.toNat (by omega)]; rfl
 have hset:∀ z,0≤z→z<g.Nodes→od (o.set node.toNat 0) z=if z=node then 0 else -1:=fun z hz hz1=>by
  rw [od_set (by omega) hz,hod z hz hz1]
 have s0:FarS g.Edges g.Nodes node 0 (o.set node.toNat 0):=by
  refine ⟨by rw [List.length_set]; omega,by rw [hset node hn.1 hn.2,if_pos rfl],fun x x0 x1 hx=>?_,fun x x0 x1=>?_⟩
  ·rw [hset x x0 x1] at hx ⊢
   by_cases e:x=node
   ·exact .inl ⟨e,by rw [if_pos e]⟩
   ·rw [if_neg e] at hx; omega
  ·rw [hset x x0 x1]
   split <;> omega
 obtain ⟨far,f1,f2⟩:=forN_inv (f:=F_spec_l22Far_l2 g) (fun d s=>FarS g.Edges g.Nodes node d s) g.Nodes.toNat 0 (o.set node.toNat 0) s0 (fun d s _ hd hs=>by
  unfold F_spec_l22Far_l2
  rw [chk_t (by omega)]
  obtain ⟨t,t1,t2⟩:=forN_inv (f:=F_spec_l22Far_l3 g d) (fun _ s=>FarS g.Edges g.Nodes node (d+1) s) g.Nodes.toNat 0 s (hs.up (by omega)) (fun i2 s _ hi2 hs=>by
   unfold F_spec_l22Far_l3
   rw [chk_t (by omega)]
   obtain ⟨t,t1,t2⟩:=forN_inv (f:=F_spec_l22Far_l4 i2 d g) (fun _ s=>FarS g.Edges g.Nodes node (d+1) s) g.Nodes.toNat 0 s hs (fun i3 s _ hi3 hs=>by
    have hl:=hs.len
    unfold F_spec_l22Far_l4
    rw [od_getI (out:=s) (x:=(i2:Int)) (by omega),od_getI (out:=s) (x:=(i3:Int)) (by omega),spec_joins hg.el]
    simp only [Option.bind_some]
    cases h1:(od s (i2:Int)==(d:Int)) with
    | false=>exact ⟨s,rfl,hs⟩
    | true =>
     simp only [gb,cond_true,Option.bind_some,Bool.true_and]
     by_cases h2:od s (i3:Int)<0
     ·rw [decide_eq_true h2]
      cases h3:joinsB g.Edges (i2:Int) (i3:Int) with
      | false=>exact ⟨s,rfl,hs⟩
      | true =>
       simp only [cond_true,Option.bind_some,Bool.true_and]
       rw [wr (a:=(d:Int)+1) (by omega)]
       exact ⟨_,rfl,fars_add hE hn hs h2 (by simpa using h1) h3⟩
     ·rw [decide_eq_false h2]
      exact ⟨s,rfl,hs⟩)
   exact ⟨t,by rw [t1]; rfl,t2⟩)
  exact ⟨t,by rw [t1]; rfl,t2⟩)
 rw [f1]
 refine ⟨far,rfl,f2.len,f2.zero,f2.par,fun x x0 x1=>?_⟩
 have:=f2.sm x x0 x1
 omega
theorem path_spec {g:TCouplingGraph} (hg:GK g) {a b:Int} (ha:0≤a∧a<g.Nodes) (hb:0≤b∧b<g.Nodes):∃ l,F_spec_l22Path g a b=some l∧(l=[]∨PathK g.Edges a b l):=by
 have hE:∀ {x y:Int},joinsB g.Edges x y=true→(0≤x∧x<g.Nodes)∧0≤y∧y<g.Nodes:=fun hj=>by
  obtain ⟨h1,h2,h3,h4,_⟩:=joins_in hg.eok hj
  exact ⟨⟨h1,h2⟩,h3,h4⟩
 obtain ⟨far,f1,f2⟩:=far_spec hg hb
 have hfl:=f2.len
 unfold F_spec_l22Path
 rw [f1]
 simp only [Option.bind_some]
 rw [od_getI (by omega)]
 simp only [Option.bind_some]
 by_cases hneg:od far a<0
 ·rw [decide_eq_true hneg]
  exact ⟨[],rfl,.inl rfl⟩
 ·rw [decide_eq_false hneg]
  simp only [cond_false]
  rcases whX_inv (f:=F_spec_l22Path_l1 b g far) (fun s=>WayK g.Edges g.Nodes far a s.1 s.2) (fun s=>PathK g.Edges a b s.2) (fun _=>False) (fun s=>(od far s.1).toNat) (fun s hs=>by
   obtain ⟨a1,out⟩:=s
   simp only at hs
   have hrg:=hs.rg
   have hln:=hs.ln
   have hf0:=hs.f0
   unfold F_spec_l22Path_l1
   simp only
   by_cases e:a1=b
   ·subst e
    refine .inr (.inl ⟨(a1,out),?_,way_end f2 hs⟩)
    rw [show (a1 != a1)=false from by simp]; rfl
   ·rw [show (a1 != b)=true from by simpa using e]
    obtain ⟨r,r1,r2,r3⟩:=near_specN hg a1
    simp only [cond_true]
    rw [r1]
    simp only [Option.bind_some]
    rw [chk_t (by omega)]
    obtain ⟨y,y1,y2,y3⟩:=way_next hE f2 hs e
    obtain ⟨k,k1,k2,k3⟩:=forX_find (f:=F_spec_l22Path_l2 r far) (s:=(a1,out)) (r:=r) (p:=fun k=>od far k==od far a1-1) (q:=fun k=>(k,out++[k])) (fun i x hx=>by
     obtain ⟨⟨x0,x1⟩,_⟩:=hE ((r3 x).1 (List.mem_of_getElem? hx))
     have hsm:=f2.sm a1 hrg.1 hrg.2
     unfold F_spec_l22Path_l2
     simp only [getI_nat,hx,Option.bind_some]
     rw [od_getI (by omega),od_getI (by omega)]
     simp only [Option.bind_some]
     rw [wr (a:=od far a1-1) (by omega),chk_t (by omega)]
     cases (od far x==od far a1-1) <;> rfl) ⟨y,(r3 y).2 y1,by simpa using y2⟩
    rw [k3]
    simp only [Option.bind_some,orR]
    have kj:=(r3 k).1 k1
    have k2:od far k=od far a1-1:=by simpa using k2
    have k4:0≤od far k:=by omega
    refine .inl ⟨_,rfl,way_snoc hs (hE kj).1 (by rw [joins_sym]; exact kj) k2 k4,?_⟩
    show (od far k).toNat<(od far a1).toNat
    omega) fuel (a,[a]) (way_start f2 ha (by omega)) (fuel_big (by have:=f2.sm a ha.1 ha.2; show (od far a).toNat<_; omega)) with ⟨s',e1,e2⟩ | ⟨_,_,h⟩
  ·rw [e1]
   exact ⟨_,rfl,.inr e2⟩
  ·exact h.elim

def Wk (E:List TEdge):Nat→Int→Int→Prop
 | 0,x,y=>x=y
 | n+1,x,y=>∃ z,joinsB E x z=true∧Wk E n z y
theorem wk_snoc {E:List TEdge}:∀ {n:Nat} {x y z:Int},Wk E n x y→joinsB E y z=true→Wk E (n+1) x z
 | 0,x,y,z,h,hj=>⟨z,by have h:x=y:=h; rw [h]; exact hj,rfl⟩
 | n+1,x,y,z,⟨w,h1,h2⟩,hj=>⟨w,h1,wk_snoc h2 hj⟩
theorem wk_sym {E:List TEdge}:∀ {n:Nat} {x y:Int},Wk E n x y→Wk E n y x
 | 0,x,y,h=>by have h:x=y:=h; exact h.symm
 | n+1,x,y,⟨w,h1,h2⟩=>wk_snoc (wk_sym h2) (by rw [joins_sym]; exact h1)
theorem wk_trans {E:List TEdge}:∀ {n m:Nat} {x y z:Int},Wk E n x y→Wk E m y z→Wk E (m+n) x z
 | 0,m,x,y,z,h,h'=>by have h:x=y:=h; rw [h]; exact h'
 | n+1,m,x,y,z,⟨w,h1,h2⟩,h'=>⟨w,h1,wk_trans h2 h'⟩
theorem far_wk {E:List TEdge} {N b:Int} {out:List Int} (h:FarC E N b out):∀ {n:Nat} {x:Int},Wk E n x b→0≤od out x∧od out x≤(n:Int)
 | 0,x,hw=>by
  have hw:x=b:=hw
  rw [hw,h.zero]
  exact ⟨Int.le_refl _,by omega⟩
 | n+1,x,⟨w,h1,h2⟩=>by
  obtain ⟨a1,a2⟩:=far_wk h h2
  obtain ⟨b1,b2⟩:=h.near w x h1 a1
  exact ⟨b1,by omega⟩
theorem swp_cases (a b x:Int):(x=a∧swp a b x=b)∨(x=b∧swp a b x=a)∨(x≠a∧x≠b∧swp a b x=x):=by
 unfold swp
 by_cases h1:x=a
 ·exact .inl ⟨h1,by simp [h1]⟩
 ·by_cases h2:x=b
  ·subst h2
   have e1:(x==a)=false:=by simpa using h1
   exact .inr (.inl ⟨rfl,by rw [e1]; simp⟩)
  ·have e1:(x==a)=false:=by simpa using h1
   have e2:(x==b)=false:=by simpa using h2
   exact .inr (.inr ⟨h1,h2,by rw [e1,e2]; rfl⟩)
theorem wk_swap {E:List TEdge} {a b u v:Int} {m:Nat} (hj:joinsB E a b=true) (h:Wk E (m+1) (swp a b u) (swp a b v)):∃ m',m'≤m+1∧Wk E (m'+1) u v:=by
 have hj':joinsB E b a=true:=by rw [joins_sym]; exact hj
 rcases swp_cases a b u with ⟨rfl,e1⟩ | ⟨rfl,e1⟩ | ⟨_,_,e1⟩
 ·rcases swp_cases u b v with ⟨rfl,e2⟩ | ⟨rfl,e2⟩ | ⟨_,_,e2⟩
  ·exact ⟨1,by omega,b,hj,v,hj',rfl⟩
  ·exact ⟨0,by omega,v,hj,rfl⟩
  ·rw [e1,e2] at h
   exact ⟨m+1,Nat.le_refl _,b,hj,h⟩
 ·rcases swp_cases a u v with ⟨rfl,e2⟩ | ⟨rfl,e2⟩ | ⟨_,_,e2⟩
  ·exact ⟨0,by omega,v,hj',rfl⟩
  ·exact ⟨1,by omega,a,hj',v,hj,rfl⟩
  ·rw [e1,e2] at h
   exact ⟨m+1,Nat.le_refl _,a,hj',h⟩
 ·rcases swp_cases a b v with ⟨rfl,e2⟩ | ⟨rfl,e2⟩ | ⟨_,_,e2⟩
  ·rw [e1,e2] at h
   exact ⟨m+1,Nat.le_refl _,wk_snoc h hj'⟩
  ·rw [e1,e2] at h
   exact ⟨m+1,Nat.le_refl _,wk_snoc h hj⟩
  ·rw [e1,e2] at h
   exact ⟨m,by omega,h⟩
theorem swapL_getD {l:List Int} {i:Nat} (hi:i<l.length) (a b:Int):(swapL l a b).getD i 0=swp a b (l.getD i 0):=by
 unfold swapL
 rw [List.getD_eq_getElem?_getD,List.getElem?_map,List.getD_eq_getElem?_getD,List.getElem?_eq_getElem hi]; rfl
theorem swapL_len (l:List Int) (a b:Int):(swapL l a b).length=l.length:=by unfold swapL; rw [List.length_map]
/-- What a step is. -/
theorem stp_kind {E:List TEdge} {c:TCircuit} {s:List Int×List Bool} {x:TRouteStep} (h0:(stp E c s x).1=0) :
  ((x.Gate==-1)=true∧joinsB E x.A x.B=true∧(stp E c s x).2=(swapL s.1 x.A x.B,s.2)) ∨
  ((x.Gate==-1)=false∧rdB c s.2 x.Gate=true∧fitB E s.1 (c.Gates.getD x.Gate.toNat dGate)=true∧(stp E c s x).2=(s.1,s.2.set x.Gate.toNat true)):=by
 unfold stp at h0 ⊢
 cases hg:(x.Gate==-1) with
 | true =>
  rw [hg] at h0
  cases hj:joinsB E x.A x.B with
  | false=>rw [hj] at h0; simp only [cond_true,cond_false] at h0; omega
  | true=>exact .inl ⟨rfl,rfl,rfl⟩
 | false =>
  rw [hg] at h0
  simp only [cond_false] at h0
  cases hb:(((x.A != 0)||(x.B != 0))||!(rdB c s.2 x.Gate)) with
  | true=>rw [hb] at h0; simp only [cond_true] at h0; omega
  | false =>
   rw [hb] at h0
   simp only [cond_false] at h0
   cases hf:fitB E s.1 (c.Gates.getD x.Gate.toNat dGate) with
   | false=>rw [hf] at h0; simp only [cond_false] at h0; omega
   | true =>
    simp only [Bool.or_eq_false_iff,Bool.not_eq_false'] at hb
    exact .inr ⟨rfl,hb.2,rfl,rfl⟩
theorem rep_conn {E:List TEdge} {c:TCircuit}:∀ {l:List TRouteStep} {s t:List Int×List Bool},Rep E c s l t→t.1.length=s.1.length∧∀ i,i<s.1.length→∃ n,Wk E n (s.1.getD i 0) (t.1.getD i 0):=fun {l}=>by
 induction l with
 | nil =>
  intro s t h
  have h:t=s:=h
  rw [h]
  exact ⟨rfl,fun i _=>⟨0,rfl⟩⟩
 | cons x r ih =>
  intro s t h
  obtain ⟨h0,h2⟩:=h
  rcases stp_kind h0 with ⟨_,hj,es⟩ | ⟨_,_,_,es⟩
  ·rw [es] at h2
   obtain ⟨l1,l2⟩:=ih h2
   simp only [swapL_len] at l1 l2
   refine ⟨l1,fun i hi=>?_⟩
   obtain ⟨n,hn⟩:=l2 i hi
   rw [swapL_getD hi] at hn
   rcases swp_cases x.A x.B (s.1.getD i 0) with ⟨e0,e1⟩ | ⟨e0,e1⟩ | ⟨_,_,e1⟩
   ·rw [e1] at hn
    exact ⟨n+1,x.B,by rw [e0]; exact hj,hn⟩
   ·rw [e1] at hn
    exact ⟨n+1,x.A,by rw [e0,joins_sym]; exact hj,hn⟩
   ·rw [e1] at hn
    exact ⟨n,hn⟩
  ·rw [es] at h2
   exact ih (s:=(s.1,s.2.set x.Gate.toNat true)) h2
/-- A gate that is executed: how near its qubits are at the start. -/
theorem rep_wk {E:List TEdge} {c:TCircuit} {k:Nat} (ht:twoB (c.Gates.getD k dGate)=true) (hk:k<c.Gates.length):∀ {l:List TRouteStep} {s t:List Int×List Bool},s.2.length=c.Gates.length→((c.Gates.getD k dGate).A.toNat<s.1.length∧(c.Gates.getD k dGate).B.toNat<s.1.length)→Rep E c s l t →
  s.2.getD k false=false→t.2.getD k false=true→∃ m,m≤swN l∧Wk E (m+1) (s.1.getD (c.Gates.getD k dGate).A.toNat 0) (s.1.getD (c.Gates.getD k dGate).B.toNat 0):=fun {l}=>by
 induction l with
 | nil =>
  intro s t _ _ h h1 h2
  have h:t=s:=h
  rw [h,h1] at h2; cases h2
 | cons x r ih =>
  intro s t hd hAB h h1 h2
  obtain ⟨h0,hr⟩:=h
  have hsw:swN (x::r)=(bif x.Gate==-1 then 1 else 0)+swN r:=rfl
  rcases stp_kind h0 with ⟨hg,hj,es⟩ | ⟨hg,hrd,hf,es⟩
  ·rw [es] at hr
   obtain ⟨m,m1,m2⟩:=ih (s:=(swapL s.1 x.A x.B,s.2)) hd (by simp only [swapL_len]; exact hAB) hr h1 h2
   simp only [swapL_getD hAB.1,swapL_getD hAB.2] at m2
   obtain ⟨m',m3,m4⟩:=wk_swap hj m2
   rw [hg] at hsw
   simp only [cond_true] at hsw
   exact ⟨m',by omega,m4⟩
  ·rw [es] at hr
   rw [hg] at hsw
   simp only [cond_false] at hsw
   obtain ⟨r0,r1,_⟩:=rd_range hrd
   by_cases e:x.Gate.toNat=k
   ·rw [e] at hf
    unfold fitB at hf
    rw [ht] at hf
    exact ⟨0,Nat.zero_le _,_,by simpa using hf,rfl⟩
   ·obtain ⟨m,m1,m2⟩:=ih (s:=(s.1,s.2.set x.Gate.toNat true)) (by show (s.2.set x.Gate.toNat true).length=_; rw [List.length_set]; exact hd) hAB hr (by
     show (s.2.set x.Gate.toNat true).getD k false=false
     rw [getD_set' (by omega),if_neg (fun e'=>e e'.symm)]; exact h1) h2
    exact ⟨m,by omega,m2⟩
theorem all_done {d:List Bool} {n k:Nat} (hd:d.length=n) (h:leftN d=0) (hk:k<n):d.getD k false=true:=by
 rw [left_zero h,List.getD_eq_getElem?_getD,List.getElem?_replicate,if_pos (by omega)]; rfl
theorem rep_dlen {E:List TEdge} {c:TCircuit}:∀ {l:List TRouteStep} {s t:List Int×List Bool},s.2.length=c.Gates.length→Rep E c s l t→t.2.length=c.Gates.length:=fun {l}=>by
 induction l with
 | nil=>intro s t hs h; have h:t=s:=h; rw [h]; exact hs
 | cons z q ih=>intro s t hs h; exact ih (stp_count hs h.1).1 h.2
theorem getD_rep (n k:Nat):(List.replicate n false).getD k false=false:=by
 rw [List.getD_eq_getElem?_getD,List.getElem?_replicate]
 split <;> rfl
theorem two_rng {g:TCouplingGraph} {c:TCircuit} (h:ROk g c) {k:Nat} (hk:k<c.Gates.length) (ht:twoB (c.Gates.getD k dGate)=true):(0≤(c.Gates.getD k dGate).A∧(c.Gates.getD k dGate).A<c.Qubits)∧(0≤(c.Gates.getD k dGate).B∧(c.Gates.getD k dGate).B<c.Qubits)∧(c.Gates.getD k dGate).A≠(c.Gates.getD k dGate).B:=by
 have:=h.at (k:=(k:Int)) (by omega) (by omega)
 rw [Int.toNat_natCast] at this
 have hg:=gOk_cases this
 unfold twoB at ht
 simp only [Bool.and_eq_true,decide_eq_true_eq] at ht
 omega
theorem found_wk {g:TCouplingGraph} {c:TCircuit} {start:List Int} {r:TRoute} (hf:FoundR g c start r) {k:Nat} (hk:k<c.Gates.length) (ht:twoB (c.Gates.getD k dGate)=true):∃ m,m≤swN r.Steps∧Wk g.Edges (m+1) (start.getD (c.Gates.getD k dGate).A.toNat 0) (start.getD (c.Gates.getD k dGate).B.toNat 0):=by
 have hok:=hf.1.ok
 have hi:=hf.2.1
 obtain ⟨_,_,_,t,h1,h2⟩:=found_len hf
 obtain ⟨a1,a2,_⟩:=two_rng hok hk ht
 have hl:=hi.len
 simp only at hl
 exact rep_wk ht hk hi.dn ⟨by show _<start.length; omega,by show _<start.length; omega⟩ h1 (getD_rep _ _) (all_done (rep_dlen hi.dn h1) h2 hk)
theorem getI_pl {p:List Int} {k:Int} (h0:0≤k) (h1:k<p.length):getI p k=some (p.getD k.toNat 0):=getI_gd 0 h0 h1
theorem pl_rng {g:TCouplingGraph} {c:TCircuit} {s:List Int×List Bool} (hs:RInv g c s) {k:Int} (h0:0≤k) (h1:k<c.Qubits):0≤s.1.getD k.toNat 0∧s.1.getD k.toNat 0<g.Nodes:=by
 have hl:=hs.len
 have hk:k.toNat<s.1.length:=by omega
 refine hs.pl.1 _ ?_
 rw [List.getD_eq_getElem?_getD,List.getElem?_eq_getElem hk]
 exact List.getElem_mem hk
theorem bound_ok {g:TCouplingGraph} {c:TCircuit} {start:List Int} {r:TRoute} (hf:FoundR g c start r) (hcan:F_impl_canRoute g c=some true) (hpl:F_impl_CouplingGraph_isPlacement g c.Qubits start=some true):∃ b,F_impl_SwapBound g c start=some (b,true)∧b≤(swN r.Steps:Int):=by
 have hok:=hf.1.ok
 have hi:=hf.2.1
 have hgl:=hok.gl
 have hl:(start.length:Int)=c.Qubits:=hi.len
 unfold F_impl_SwapBound
 rw [hcan,hpl]
 simp only [Option.bind_some,gb,Bool.not_true,Bool.not_false,cond_true,cond_false,Bool.or_false]
 rw [chk_t (by omega)]
 rcases forX_inv (f:=F_impl_SwapBound_l1 c start g) (fun _ b=>0≤b∧b≤(swN r.Steps:Int)) (fun _=>False) c.Gates.length 0 0 ⟨Int.le_refl _,by omega⟩ (fun i b _ hi' ⟨b0,b1⟩=>by
  have hx:=List.getElem?_eq_getElem (show i<c.Gates.length by omega)
  have hxd:c.Gates.getD i dGate=c.Gates[i]:=by rw [List.getD_eq_getElem?_getD,hx]; rfl
  have hwk:=found_wk hf (k:=i) (by omega)
  have hrg:=two_rng hok (k:=i) (by omega)
  rw [hxd] at hwk hrg
  generalize c.Gates[i]=x at hx hwk hrg
  unfold F_impl_SwapBound_l1
  simp only [getI_nat,hx,Option.bind_some,two_impl]
  cases ht:twoB x with
  | false=>exact .inl ⟨b,rfl,b0,b1⟩
  | true =>
   obtain ⟨m,m1,m2⟩:=hwk ht
   obtain ⟨⟨a0,a1⟩,⟨c0,c1⟩,_⟩:=hrg ht
   simp only [Bool.not_true,cond_false]
   rw [getI_pl (p:=start) (k:=x.A) (by omega) (by omega),getI_pl (p:=start) (k:=x.B) (by omega) (by omega)]
   simp only [Option.bind_some]
   have pa:=pl_rng hi (k:=x.A) a0 a1
   have pb:=pl_rng hi (k:=x.B) c0 c1
   obtain ⟨far,f1,f2⟩:=far_impl hok.gk (node:=start.getD x.A.toNat 0) pa
   have hfl:=f2.len
   rw [f1]
   simp only [Option.bind_some]
   rw [od_getI (x:=start.getD x.B.toNat 0) ⟨pb.1,by have:=pb.2; simp only at this; omega⟩]
   simp only [Option.bind_some]
   obtain ⟨d0,d1⟩:=far_wk f2 (wk_sym m2)
   have hsm:=f2.sm _ pb.1 pb.2
   simp only at hsm
   rw [decide_eq_false (by omega)]
   simp only [cond_false,Option.bind_some,orR]
   rw [wr (a:=od far (start.getD x.B.toNat 0)-1) (by omega)]
   refine .inl ⟨_,rfl,?_⟩
   split <;> omega) with ⟨b,e1,_,e2⟩ | ⟨_,_,h⟩
 ·rw [e1]
  exact ⟨b,rfl,e2⟩
 ·exact h.elim
/-- Where the least route is given, the graph and the circuit are taken. -/
theorem least_can {g:TCouplingGraph} {c:TCircuit} {start:List Int} {r:TRoute} (h1:g.Edges.length≤1048576) (h2:c.Gates.length≤1048576) (h3:start.length≤1048576) (h:F_impl_RouteFrom g c start=some (r,true)):F_impl_canRoute g c=some true∧F_impl_CouplingGraph_isPlacement g c.Qubits start=some true∧F_impl_IsPlacement g c.Qubits start=some (true,true):=by
 obtain ⟨v,_,s2,s3⟩:=small_both g c h1 h2
 obtain ⟨b,_,f2,f3⟩:=fits_both g c h1 h2
 obtain ⟨b0,_,v2,v3⟩:=graph_both g h1
 unfold F_impl_RouteFrom F_impl_leastRoute at h
 rw [s2] at h
 simp only [Option.bind_some] at h
 cases v with
 | false=>simp [gb] at h
 | true =>
  obtain ⟨hm,hq⟩:=s3 rfl
  have hcan:F_impl_canRoute g c=some true:=by
   rw [f2]
   cases b with
   | true=>rfl
   | false =>
    unfold F_impl_canSearch at s2
    rw [f2] at s2
    cases hc:F_impl_CountTwo c with
    | none=>rw [hc] at s2; cases s2
    | some y =>
     rw [hc] at s2
     simp only [Option.bind_some] at s2
     cases hy:y.2 <;> simp [hy,gb] at s2
  obtain ⟨pb,_,p2,p3⟩:=place_both hm.ok.nodes c.Qubits start h3
  rw [p2] at h
  simp only [Option.bind_some,gb,Bool.not_true,Bool.not_false,cond_true,Bool.false_or] at h
  cases pb with
  | false=>simp at h
  | true =>
   refine ⟨hcan,p2,?_⟩
   have hv:F_impl_IsValidCouplingGraph g=some true:=by
    rw [v2]
    cases b0 with
    | true=>rfl
    | false =>
     unfold F_impl_canRoute at hcan
     rw [v2] at hcan
     simp [gb] at hcan
   have hqs:=hm.ok.qs
   unfold F_impl_IsPlacement F_impl_within
   rw [hv,p2,show (decide (1≤c.Qubits)&&decide (c.Qubits≤5))=true by simp [hqs]]
   rfl

def dnK (n k:Nat):List Bool:=(List.range n).map fun i=>decide (i<k)
theorem dnK_len (n k:Nat):(dnK n k).length=n:=by unfold dnK; rw [List.length_map,List.length_range]
theorem dnK_get {n k i:Nat} (hi:i<n):(dnK n k)[i]?=some (decide (i<k)):=by
 unfold dnK
 rw [List.getElem?_map,List.getElem?_range hi]; rfl
theorem dnK_getD {n k i:Nat} (hi:i<n):(dnK n k).getD i false=decide (i<k):=by
 rw [List.getD_eq_getElem?_getD,dnK_get hi]; rfl
theorem dnK_zero (n:Nat):dnK n 0=List.replicate n false:=by
 apply List.ext_getElem?
 intro i
 by_cases hi:i<n
 ·rw [dnK_get hi,List.getElem?_replicate,if_pos hi]; rfl
 ·rw [List.getElem?_eq_none (by rw [dnK_len]; omega),List.getElem?_eq_none (by rw [List.length_replicate]; omega)]
theorem dnK_set {n k:Nat} (hk:k<n):(dnK n k).set k true=dnK n (k+1):=by
 apply List.ext_getElem?
 intro i
 by_cases hi:i<n
 ·rw [dnK_get hi,List.getElem?_set]
  by_cases e:k=i
  ·rw [if_pos e,if_pos (by rw [dnK_len]; exact hk),decide_eq_true (by omega)]
  ·rw [if_neg e,dnK_get hi]
   congr 1
   rw [Bool.eq_iff_iff,decide_eq_true_eq,decide_eq_true_eq]
   omega
 ·rw [List.getElem?_eq_none (by rw [List.length_set,dnK_len]; omega),List.getElem?_eq_none (by rw [dnK_len]; omega)]
theorem left_true:∀ {l:List Bool},(∀ x∈l,x=true)→leftN l=0
 | [],_=>rfl
 | b::r,h=>by
  rw [h b (.head _)]
  show 0+leftN r=0
  rw [left_true (fun x hx=>h x (.tail _ hx))]
theorem dnK_left (n:Nat):leftN (dnK n n)=0:=left_true fun x hx=>by
 unfold dnK at hx
 obtain ⟨i,hi,rfl⟩:=List.mem_map.1 hx
 exact decide_eq_true (List.mem_range.1 hi)
theorem dnK_rd {c:TCircuit} {k:Nat} (hk:k<c.Gates.length):rdB c (dnK c.Gates.length k) (k:Int)=true :=
 (rd_iff hk).2 ⟨by rw [dnK_getD hk]; exact decide_eq_false (by omega),fun i hi _=>by rw [dnK_getD (by omega)]; exact decide_eq_true hi⟩
/-- The swaps along a path. -/
theorem inner_loop {σ ρ:Type} {h:σ→Option (Ex σ ρ)} (mk:List Int→List TRouteStep→Int→σ) (num:σ→Nat) (hnum:∀ p st i,num (mk p st i)=i.toNat)
  {g:TCouplingGraph} {c:TCircuit} (hok:ROk g c) {path:List Int} {a b:Int} (hp:PathK g.Edges a b path)
  (hh:∀ (p:List Int) (st:List TRouteStep) (i:Nat),p.length≤5→st.length≤1000000→i≤10→h (mk p st (i:Int))=if i+2<path.length then some (.nx (mk (swapL p (path.getD i 0) (path.getD (i+1) 0)) (st++[TRouteStep.mk (-1) (path.getD i 0) (path.getD (i+1) 0)]) ((i+1:Nat):Int))) else some (.br (mk p st (i:Int))))
  {p:List Int} {dn:List Bool} (hs:RInv g c (p,dn)) {A B:Nat} (hA:A<p.length) (hB:B<p.length) (pA:p.getD A 0=a) (pB:p.getD B 0=b) (hab:a≠b) {st:List TRouteStep} (hst:st.length≤900000) :
  ∃ p' st' i,whX h fuel (mk p st 0)=some (.inl (mk p' (st++st') i))∧Rep g.Edges c (p,dn) st' (p',dn)∧RInv g c (p',dn)∧joinsB g.Edges (p'.getD A 0) (p'.getD B 0)=true∧st'.length≤10:=by
 have hne:=hp.ne
 have hpl:=hp.len
 have gd:∀ i,i<path.length→path[i]?=some (path.getD i 0):=fun i hi=>by
  rw [List.getD_eq_getElem?_getD,List.getElem?_eq_getElem hi]; rfl
 have h0:path.getD 0 0=a:=by have:=hp.hd; rw [gd 0 hne] at this; exact Option.some.inj this
 have hlast:path.getD (path.length-1) 0=b:=by have:=hp.lst; rw [gd _ (by omega)] at this; exact Option.some.inj this
 have h2:2≤path.length:=by
  by_cases e:path.length=1
  ·rw [e] at hlast
   exact absurd (h0.symm.trans hlast) hab
  ·omega
 rcases whX_inv (f:=h) (fun s=>∃ (q:List Int) (st':List TRouteStep) (i:Nat),s=mk q (st++st') (i:Int)∧Rep g.Edges c (p,dn) st' (q,dn)∧RInv g c (q,dn)∧q.length=p.length∧q.getD A 0=path.getD i 0∧q.getD B 0=b∧i+2≤path.length∧st'.length≤i)
  (fun s=>∃ (q:List Int) (st':List TRouteStep) (i:Int),s=mk q (st++st') i∧Rep g.Edges c (p,dn) st' (q,dn)∧RInv g c (q,dn)∧joinsB g.Edges (q.getD A 0) (q.getD B 0)=true∧st'.length≤10) (fun _=>False) (fun s=>path.length-num s) (fun s hI=>by
  obtain ⟨q,st',i,rfl,r1,r2,r3,r4,r5,r6,r7⟩:=hI
  have hq:=pl_len hok r2
  rw [hh q (st++st') i hq (by rw [List.length_append]; omega) (by omega)]
  by_cases hlt:i+2<path.length
  ·rw [if_pos hlt]
   have hj:=hp.ch i _ _ (gd i (by omega)) (gd (i+1) (by omega))
   have hstp:stp g.Edges c (q,dn) (TRouteStep.mk (-1) (path.getD i 0) (path.getD (i+1) 0))=(0,(swapL q (path.getD i 0) (path.getD (i+1) 0),dn)):=by
    unfold stp
    simp only [hj,beq_self_eq_true,cond_true]
   have hinv:=step_inv hok r2 (TRouteStep.mk (-1) (path.getD i 0) (path.getD (i+1) 0))
   rw [hstp] at hinv
   refine .inl ⟨_,rfl,⟨swapL q (path.getD i 0) (path.getD (i+1) 0),st'++[TRouteStep.mk (-1) (path.getD i 0) (path.getD (i+1) 0)],i+1,by rw [List.append_assoc],rep_append r1 ⟨by rw [hstp],by rw [hstp]; rfl⟩,hinv,by rw [swapL_len]; exact r3,?_,?_,by omega,by simp only [List.length_append,List.length_singleton]; omega⟩,?_⟩
   ·rw [swapL_getD (by omega),r4]
    unfold swp
    simp
   ·rw [swapL_getD (by omega),r5]
    have n1:=hp.fr i _ (by omega) (gd i (by omega))
    have n2:=hp.fr (i+1) _ (by omega) (gd (i+1) (by omega))
    rcases swp_cases (path.getD i 0) (path.getD (i+1) 0) b with ⟨e,_⟩ | ⟨e,_⟩ | ⟨_,_,e⟩
    ·exact absurd e.symm n1
    ·exact absurd e.symm n2
    ·exact e
   ·rw [hnum,hnum]; omega
  ·rw [if_neg hlt]
   refine .inr (.inl ⟨_,rfl,q,st',(i:Int),rfl,r1,r2,?_,by omega⟩)
   have hi:i=path.length-2:=by omega
   have hj:=hp.ch i _ _ (gd i (by omega)) (gd (i+1) (by omega))
   rw [r4,r5,← hlast,show path.length-1=i+1 by omega]
   exact hj) fuel (mk p st 0) ⟨p,[],0,by rw [List.append_nil]; rfl,rfl,hs,rfl,by rw [pA,h0],pB,h2,Nat.le_refl _⟩ (fuel_big (by omega)) with ⟨s,e1,q,st',i,e2,r1,r2,r3,r4⟩ | ⟨_,_,h⟩
 ·exact ⟨q,st',i,by rw [e1,e2],r1,r2,r3,r4⟩
 ·exact h.elim
/-- What greedy routing keeps. -/
structure GrK (g:TCouplingGraph) (c:TCircuit) (start:List Int) (k:Nat) (p:List Int) (st:List TRouteStep):Prop where
 rep:Rep g.Edges c (start,List.replicate c.Gates.length false) st (p,dnK c.Gates.length k)
 inv:RInv g c (p,dnK c.Gates.length k)
 len:st.length≤11*k
theorem gr_gate {g:TCouplingGraph} {c:TCircuit} {start:List Int} {k:Nat} {p p':List Int} {st st':List TRouteStep} (hk:k<c.Gates.length) (h:GrK g c start k p st) (hr:Rep g.Edges c (p,dnK c.Gates.length k) st' (p',dnK c.Gates.length k)) (hi:RInv g c (p',dnK c.Gates.length k)) (hl:st'.length≤10) (hf:fitB g.Edges p' (c.Gates.getD k dGate)=true) :
  GrK g c start (k+1) p' ((st++st')++[TRouteStep.mk (k:Int) 0 0]):=by
 have hex:exB g.Edges c p' (dnK c.Gates.length k) k=true:=by unfold exB; rw [dnK_rd hk,hf]; rfl
 have hstp:=stp_ex hex
 rw [dnK_set hk] at hstp
 have:=h.len
 exact ⟨rep_append (rep_append h.rep hr) ⟨by rw [hstp],by rw [hstp]; rfl⟩,⟨hi.len,dnK_len _ _,hi.pl⟩,by simp only [List.length_append,List.length_singleton]; omega⟩
theorem gr_start {g:TCouplingGraph} {c:TCircuit} {start:List Int} (hi:RInv g c (start,List.replicate c.Gates.length false)):GrK g c start 0 start []:=⟨by rw [dnK_zero]; exact rfl,by rw [dnK_zero]; exact hi,Nat.le_refl _⟩
theorem pl_ne {g:TCouplingGraph} {c:TCircuit} {s:List Int×List Bool} (hs:RInv g c s) {i j:Int} (hi:0≤i∧i<c.Qubits) (hj:0≤j∧j<c.Qubits) (hne:i≠j):s.1.getD i.toNat 0≠s.1.getD j.toNat 0:=by
 have hl:=hs.len
 have hp:=hs.pl.2
 have gd:∀ k,k<s.1.length→∃ h:k<s.1.length,s.1.getD k 0=s.1[k]:=fun k hk=>⟨hk,by rw [List.getD_eq_getElem?_getD,List.getElem?_eq_getElem hk]; rfl⟩
 obtain ⟨h1,e1⟩:=gd i.toNat (by omega)
 obtain ⟨h2,e2⟩:=gd j.toNat (by omega)
 rw [e1,e2]
 rw [List.pairwise_iff_getElem] at hp
 rcases Nat.lt_or_gt_of_ne (show i.toNat≠j.toNat by omega) with h | h
 ·exact hp _ _ h1 h2 h
 ·exact fun e=>hp _ _ h2 h1 h e.symm
theorem not_fit {E:List TEdge} {p:List Int} {x:TGate} (h:fitB E p x=false):twoB x=true:=by
 unfold fitB at h
 cases ht:twoB x with
 | true=>rfl
 | false=>rw [ht] at h; simp at h
theorem fit_of {E:List TEdge} {p:List Int} {x:TGate} (h:joinsB E (p.getD x.A.toNat 0) (p.getD x.B.toNat 0)=true):fitB E p x=true:=by
 unfold fitB
 rw [h,Bool.or_true]
theorem greedy_impl {g:TCouplingGraph} {c:TCircuit} {start:List Int} {r:TRoute} (hf:FoundR g c start r) (hcan:F_impl_canRoute g c=some true) (hpl:F_impl_CouplingGraph_isPlacement g c.Qubits start=some true) :
  ∃ q,F_impl_GreedyRoute g c start=some (q,true)∧q.Start=start∧q.Steps.length≤4400∧∃ t,Rep g.Edges c (start,List.replicate c.Gates.length false) q.Steps t∧leftN t.2=0:=by
 have hok:=hf.1.ok
 have hi:=hf.2.1
 have hgl:=hok.gl
 have hsl:=pl_len hok hi
 unfold F_impl_GreedyRoute
 rw [hcan,hpl]
 simp only [Option.bind_some,gb,Bool.not_true,Bool.not_false,cond_true,cond_false,Bool.or_false]
 unfold F_impl_newRouting F_slices_Clone_int_int
 rw [chk_t (by omega)]
 simp only [Option.bind_some]
 rw [chk_t ⟨by omega,by omega⟩]
 simp only [Option.bind_some]
 rw [chk_t (by omega)]
 rcases forX_inv (f:=F_impl_GreedyRoute_l1 c (Trouting.mk g c start (List.replicate c.Gates.length false)) g) (fun k s=>GrK g c start k s.1 s.2) (fun _=>False) c.Gates.length 0 (start,[]) (gr_start hi) (fun k s _ hk hI=>by
  obtain ⟨p,st⟩:=s
  simp only at hI
  have hk:k<c.Gates.length:=by omega
  have hx:=List.getElem?_eq_getElem hk
  have hxd:c.Gates.getD k dGate=c.Gates[k]:=by rw [List.getD_eq_getElem?_getD,hx]; rfl
  have hlen:=hI.len
  have hinv0:RInv g c (p,List.replicate c.Gates.length false):=⟨hI.inv.len,by simp,hI.inv.pl⟩
  have hfit:=fits_impl hok.edges hok.eok (c:=c) (p:=p) (dn:=List.replicate c.Gates.length false) (k:=(k:Int)) (by omega) (by omega) (inP_of hok hinv0 (by omega) (by omega))
  rw [Int.toNat_natCast] at hfit
  unfold F_impl_GreedyRoute_l1
  simp only [getI_nat,hx,Option.bind_some]
  rw [hfit]
  simp only [Option.bind_some]
  cases hfb:fitB g.Edges p (c.Gates.getD k dGate) with
  | true =>
   simp only [Bool.not_true,cond_false,Option.bind_some,orR]
   rw [chk_t (by omega)]
   refine .inl ⟨_,rfl,?_⟩
   have:=gr_gate hk hI (p':=p) (st':=[]) rfl hI.inv (Nat.zero_le _) hfb
   rwa [List.append_nil] at this
  | false =>
   have ht:=not_fit hfb
   obtain ⟨a1,a2,a3⟩:=two_rng hok hk ht
   obtain ⟨m,_,hwk⟩:=found_wk hf hk ht
   have hpl:=hI.inv.len
   have hcn:=rep_conn hI.rep
   simp only at hpl hcn
   obtain ⟨n1,w1⟩:=hcn.2 (c.Gates.getD k dGate).A.toNat (by omega)
   obtain ⟨n2,w2⟩:=hcn.2 (c.Gates.getD k dGate).B.toNat (by omega)
   have ra:=pl_rng hI.inv a1.1 a1.2
   have rb:=pl_rng hI.inv a2.1 a2.2
   have hne:=pl_ne hI.inv a1 a2 a3
   simp only at ra rb hne
   rw [← hxd]
   generalize hxx:c.Gates.getD k dGate=x at *
   obtain ⟨path,p1,p2,far,p3,p4⟩:=path_impl hok.gk ra rb
   have hfar:=far_wk p3 (wk_trans (wk_trans (wk_sym w1) hwk) w2)
   have hpn:=p4 hfar.1
   have hP:PathK g.Edges (p.getD x.A.toNat 0) (p.getD x.B.toNat 0) path:=p2.resolve_left hpn
   simp only [Bool.not_false,cond_true]
   rw [getI_pl (p:=p) (k:=x.A) a1.1 (by omega),getI_pl (p:=p) (k:=x.B) a2.1 (by omega)]
   simp only [Option.bind_some]
   rw [p1]
   simp only [Option.bind_some]
   rw [decide_eq_false hpn]
   simp only [cond_false]
   obtain ⟨p',st',i,e1,e2,e3,e4,e5⟩:=inner_loop (h:=F_impl_GreedyRoute_l2 path (Trouting.mk g c start (List.replicate c.Gates.length false))) (fun p st i=>(p,st,i)) (fun s=>s.2.2.toNat) (fun _ _ _=>rfl) hok hP (fun q st i hq hst hi=>by
    unfold F_impl_GreedyRoute_l2
    simp only
    rw [wr (a:=(i:Int)+2) (by omega)]
    by_cases hlt:i+2<path.length
    ·rw [if_pos hlt,decide_eq_true (by omega),wr (a:=(i:Int)+1) (by omega)]
     have g1:=getI_gd (l:=path) 0 (k:=(i:Int)) (by omega) (by omega)
     have g2:=getI_gd (l:=path) 0 (k:=(i:Int)+1) (by omega) (by omega)
     rw [Int.toNat_natCast] at g1
     rw [show ((i:Int)+1).toNat=i+1 by omega] at g2
     rw [g1,g2]
     simp only [cond_true,Option.bind_some]
     rw [chk_t (by omega),swap_impl (by omega)]
     rfl
    ·rw [if_neg hlt,decide_eq_false (by omega)]
     rfl) hI.inv (A:=x.A.toNat) (B:=x.B.toNat) (by omega) (by omega) rfl rfl hne (st:=st) (by omega)
   rw [e1]
   simp only [Option.bind_some,orR]
   rw [chk_t (by rw [List.length_append]; omega)]
   exact .inl ⟨_,rfl,gr_gate hk hI e2 e3 e5 (by rw [hxx]; exact fit_of e4)⟩) with ⟨s,e1,e2⟩ | ⟨_,_,h⟩
 ·rw [e1]
  have hlen:=e2.len
  exact ⟨_,rfl,rfl,by show s.2.length≤_; omega,_,e2.rep,by rw [Nat.zero_add]; exact dnK_left _⟩
 ·exact h.elim
theorem greedy_spec (g:TCouplingGraph) (c:TCircuit) (start:List Int) (h1:g.Edges.length≤1048576) (h2:c.Gates.length≤1048576) (h3:start.length≤1048576):∃ q ok,F_spec_GreedyRoute g c start=some (q,ok)∧(ok=false→q=TRoute.mk [] [])∧(ok=true→q.Start=start)∧q.Steps.length≤4400:=by
 obtain ⟨b,f1,_,f3⟩:=fits_both g c h1 h2
 unfold F_spec_GreedyRoute
 rw [f1]
 simp only [Option.bind_some]
 cases b with
 | false=>exact ⟨_,false,rfl,fun _=>rfl,fun h=>(by cases h),Nat.zero_le _⟩
 | true =>
  obtain ⟨hok,hq⟩:=f3 rfl
  obtain ⟨pb,p1,_,p3⟩:=place_both hok.nodes c.Qubits start h3
  simp only [gb,Bool.not_true,Bool.not_false,cond_true]
  rw [p1]
  simp only [Option.bind_some]
  cases pb with
  | false=>exact ⟨_,false,rfl,fun _=>rfl,fun h=>(by cases h),Nat.zero_le _⟩
  | true =>
   obtain ⟨l1,l2⟩:=p3 rfl
   have hgl:=hok.gl
   have hi:RInv g c (start,List.replicate c.Gates.length false):=⟨l1,by simp,l2⟩
   have hsl:=pl_len hok hi
   simp only [Bool.not_true,Bool.or_false,cond_false]
   unfold F_spec_l1Own
   rw [chk_t (by omega)]
   simp only [Option.bind_some]
   rw [chk_t (by omega)]
   rcases forX_inv (f:=F_spec_GreedyRoute_l1 c g) (fun k s=>GrK g c start k s.2 s.1) (fun r=>r=(TRoute.mk [] [],false)) c.Gates.length 0 ([],start) (gr_start hi) (fun k s _ hk hI=>by
    obtain ⟨st,p⟩:=s
    simp only at hI
    have hk:k<c.Gates.length:=by omega
    have hx:=List.getElem?_eq_getElem hk
    have hxd:c.Gates.getD k dGate=c.Gates[k]:=by rw [List.getD_eq_getElem?_getD,hx]; rfl
    have hlen:=hI.len
    have hfit:=near_spec hok.edges (inP_of hok hI.inv (k:=(k:Int)) (by omega) (by omega))
    rw [Int.toNat_natCast] at hfit
    unfold F_spec_GreedyRoute_l1
    simp only [getI_nat,hx,Option.bind_some]
    rw [← hxd,hfit]
    simp only [Option.bind_some]
    cases hfb:fitB g.Edges p (c.Gates.getD k dGate) with
    | true =>
     simp only [Bool.not_true,cond_false,Option.bind_some,orR]
     rw [chk_t (by omega)]
     refine .inl ⟨_,rfl,?_⟩
     have:=gr_gate hk hI (p':=p) (st':=[]) rfl hI.inv (Nat.zero_le _) hfb
     rwa [List.append_nil] at this
    | false =>
     have ht:=not_fit hfb
     obtain ⟨a1,a2,a3⟩:=two_rng hok hk ht
     have hpl:=hI.inv.len
     simp only at hpl
     have ra:=pl_rng hI.inv a1.1 a1.2
     have rb:=pl_rng hI.inv a2.1 a2.2
     have hne:=pl_ne hI.inv a1 a2 a3
     simp only at ra rb hne
     generalize hxx:c.Gates.getD k dGate=x at *
     obtain ⟨path,p1,p2⟩:=path_spec hok.gk ra rb
     simp only [Bool.not_false,cond_true]
     rw [getI_pl (p:=p) (k:=x.A) a1.1 (by omega),getI_pl (p:=p) (k:=x.B) a2.1 (by omega)]
     simp only [Option.bind_some]
     rw [p1]
     simp only [Option.bind_some]
     rcases p2 with rfl | hP
     ·exact .inr ⟨_,rfl,rfl⟩
     have hpn:=hP.ne
     rw [show ((path.length:Int)==0)=false from by rw [beq_eq_false_iff_ne]; omega]
     simp only [cond_false]
     obtain ⟨p',st',i,e1,e2,e3,e4,e5⟩:=inner_loop (h:=F_spec_GreedyRoute_l2 path) (fun p st i=>(st,p,i)) (fun s=>s.2.2.toNat) (fun _ _ _=>rfl) hok hP (fun q st i hq hst hi=>by
      unfold F_spec_GreedyRoute_l2
      simp only
      rw [wr (a:=(i:Int)+2) (by omega)]
      by_cases hlt:i+2<path.length
      ·rw [if_pos hlt,decide_eq_true (by omega),wr (a:=(i:Int)+1) (by omega)]
       have g1:=getI_gd (l:=path) 0 (k:=(i:Int)) (by omega) (by omega)
       have g2:=getI_gd (l:=path) 0 (k:=(i:Int)+1) (by omega) (by omega)
       rw [Int.toNat_natCast] at g1
       rw [show ((i:Int)+1).toNat=i+1 by omega] at g2
       rw [g1,g2]
       simp only [cond_true,Option.bind_some]
       rw [chk_t (by omega),swap_spec (by omega)]
       rfl
      ·rw [if_neg hlt,decide_eq_false (by omega)]
       rfl) hI.inv (A:=x.A.toNat) (B:=x.B.toNat) (by omega) (by omega) rfl rfl hne (st:=st) (by omega)
     rw [e1]
     simp only [Option.bind_some,orR]
     rw [chk_t (by rw [List.length_append]; omega)]
     exact .inl ⟨_,rfl,gr_gate hk hI e2 e3 e5 (by rw [hxx]; exact fit_of e4)⟩) with ⟨s,e1,e2⟩ | ⟨r,e1,rfl⟩
   ·rw [e1]
    have hlen:=e2.len
    exact ⟨_,true,rfl,fun h=>(by cases h),fun _=>rfl,by show s.1.length≤_; omega⟩
   ·rw [e1]
    exact ⟨_,false,rfl,fun _=>rfl,fun h=>(by cases h),Nat.zero_le _⟩

theorem wrapU {a:Nat} (h:a<18446744073709551616):IntKind.u64.wrap (a:Int)=(a:Int):=by
 simp [IntKind.wrap,IntKind.signed,IntKind.bits]
 omega
theorem shr_u (x k:Nat) (hk:k≤64):shrK .u64 (x:Int) (k:Int)=((x / 2 ^ k:Nat):Int):=by
 unfold shrK
 rw [Int.toNat_natCast,Nat.min_eq_left (show k≤IntKind.bits .u64 from hk),Int.ofNat_fdiv]
 simp
theorem and_u {a b:Nat} (ha:a<18446744073709551616) (hb:b<18446744073709551616):bits .and .u64 (a:Int) (b:Int)=((a &&& b:Nat):Int):=by
 have h1:a &&& b≤a:=Nat.and_le_left
 show IntKind.u64.wrap ((BitVec.ofInt 64 (a:Int) &&& BitVec.ofInt 64 (b:Int)).toNat:Int)=_
 have e1:BitVec.ofInt 64 (a:Int)=BitVec.ofNat 64 a:=rfl
 have e2:BitVec.ofInt 64 (b:Int)=BitVec.ofNat 64 b:=rfl
 rw [e1,e2,BitVec.toNat_and,BitVec.toNat_ofNat,BitVec.toNat_ofNat,Nat.mod_eq_of_lt (by omega),Nat.mod_eq_of_lt (by omega)]
 exact wrapU (by omega)
theorem fuelB {n:Nat} (h:n<18446744073709551616):n<fuel:=h

def BOk (code:List Int):Prop:=code.length≤9223372036854775807∧∀ y∈code,U8 y
/-- A draw gives a value that P is true of, and goes on by at most n places. -/
def Dr {α:Type} (f:Tl1Cur→Option (α×Tl1Cur)) (P:α→Prop) (n:Nat):Prop :=
 ∀ (code:List Int) (a s:Int) (k:Nat),BOk code→0≤a→a≤k→k+n≤1000000000→∃ v a' s',f (Tl1Cur.mk code a s)=some (v,Tl1Cur.mk code a' s')∧P v∧0≤a'∧a'≤((k+n:Nat):Int)
theorem Dr.mono {α:Type} {f:Tl1Cur→Option (α×Tl1Cur)} {P P':α→Prop} {n n':Nat} (h:Dr f P n) (hP:∀ v,P v→P' v) (hn:n≤n'):Dr f P' n':=fun code a s k hb h0 h1 h2=>by
 obtain ⟨v,a',s',e,p,q,r⟩:=h code a s k hb h0 h1 (by omega)
 exact ⟨v,a',s',e,hP v p,q,by omega⟩
theorem next_d:Dr F_spec_l1Cur_next (fun v=>0≤v∧v≤255) 1:=fun code a s k hb h0 h1 h2=>by
 obtain ⟨b1,b2⟩:=hb
 have hw:IntKind.i64.wrap (a+1)=a+1:=wrap_i64 ⟨by omega,by omega⟩
 have hrest:∀ b:Int,0≤b∧b≤255→∃ v a' s',(bif (decide ((IntKind.i64.wrap (a+1))≤(code.length:Int))) then (some ((b,(Tl1Cur.mk code (IntKind.i64.wrap (a+1)) (IntKind.u64.wrap ((IntKind.u64.wrap ((IntKind.u64.wrap (s*6364136223846793005))+(IntKind.u64.wrap b)))+1442695040888963407)))))) else (some (((IntKind.i64.wrap (bits .and .u64 (shrK .u64 (IntKind.u64.wrap ((IntKind.u64.wrap ((IntKind.u64.wrap (s*6364136223846793005))+(IntKind.u64.wrap b)))+1442695040888963407)) 40) 255)),(Tl1Cur.mk code (IntKind.i64.wrap (a+1)) (IntKind.u64.wrap ((IntKind.u64.wrap ((IntKind.u64.wrap (s*6364136223846793005))+(IntKind.u64.wrap b)))+1442695040888963407)))))))=some (v,Tl1Cur.mk code a' s')∧(0≤v∧v≤255)∧0≤a'∧a'≤((k+1:Nat):Int):=fun b hb=>by
  rw [hw]
  cases decide (a+1≤(code.length:Int)) with
  | true=>exact ⟨_,_,_,rfl,hb,by omega,by omega⟩
  | false =>
   refine ⟨_,_,_,rfl,?_,by omega,by omega⟩
   generalize hz:IntKind.u64.wrap ((IntKind.u64.wrap ((IntKind.u64.wrap (s*6364136223846793005))+(IntKind.u64.wrap b)))+1442695040888963407)=z
   have key:∃ m:Nat,bits .and .u64 (shrK .u64 z 40) 255=(m:Int)∧m≤255:=by
    have z0:0≤z:=by rw [← hz]; exact Int.emod_nonneg _ (by decide)
    have z1:z<18446744073709551616:=by rw [← hz]; exact Int.emod_lt_of_pos _ (by decide)
    obtain ⟨n,rfl⟩:∃ n:Nat,z=n:=⟨z.toNat,by omega⟩
    rw [show (40:Int)=((40:Nat):Int) from rfl,shr_u n 40 (by decide),show (255:Int)=((255:Nat):Int) from rfl,and_u (Nat.lt_of_le_of_lt (Nat.div_le_self _ _) (by omega)) (by decide)]
    exact ⟨_,rfl,Nat.and_le_right⟩
   obtain ⟨m,e,hm⟩:=key
   rw [e,wrap_i64 (a:=(m:Int)) ⟨by omega,by omega⟩]
   omega
 unfold F_spec_l1Cur_next
 simp only
 by_cases hlt:a<(code.length:Int)
 ·rw [decide_eq_true hlt]
  obtain ⟨x,hx,hx2⟩:=getI_at h0 hlt
  have:=b2 x (List.mem_of_getElem? hx2)
  unfold U8 at this
  simp only [cond_true,hx,Option.bind_some]
  rw [wrap_i64 (a:=x) ⟨by omega,by omega⟩]
  exact hrest x this
 ·rw [decide_eq_false hlt]
  simp only [cond_false,Option.bind_some]
  exact hrest 0 ⟨by decide,by decide⟩
theorem pick_d (n:Int) (hn:n≤1000000):Dr (fun c=>F_spec_l1Cur_pick c n) (fun v=>0≤v∧(v<n∨v=0)) 2:=fun code a s k hb h0 h1 h2=>by
 unfold F_spec_l1Cur_pick
 by_cases hle:n≤1
 ·rw [decide_eq_true hle]
  exact ⟨0,a,s,rfl,⟨Int.le_refl 0,.inr rfl⟩,h0,by omega⟩
 ·rw [decide_eq_false hle]
  obtain ⟨v,a',s',e,hv,a0,a1⟩:=next_d code a s k hb h0 h1 (by omega)
  simp only [cond_false]
  rw [e]
  simp only [Option.bind_some]
  have tmb:∀ x:Int,0≤x→0≤Int.tmod x n∧(Int.tmod x n<n∨Int.tmod x n=0):=fun x hx=>⟨Int.tmod_nonneg n hx,.inl (Int.tmod_lt_of_pos x (by omega))⟩
  by_cases hbig:200<n
  ·rw [decide_eq_true hbig]
   obtain ⟨v2,a2,s2,e2,hv2,b0,b1⟩:=next_d code a' s' (k+1) hb a0 a1 (by omega)
   simp only [cond_true]
   rw [e2]
   simp only [Option.bind_some]
   rw [chk_t (by omega),wrap_i64 (a:=v*256) ⟨by omega,by omega⟩,wrap_i64 (a:=v*256+v2) ⟨by omega,by omega⟩]
   exact ⟨_,_,_,rfl,tmb _ (by omega),b0,by omega⟩
  ·rw [decide_eq_false hbig]
   simp only [cond_false,Option.bind_some]
   rw [chk_t (by omega)]
   exact ⟨_,_,_,rfl,tmb _ hv.1,a0,by omega⟩
theorem one_d (n:Int) (hn:n≤1000000):Dr (fun c=>F_spec_l1Cur_one c n) (fun _=>True) 2:=fun code a s k hb h0 h1 h2=>by
 obtain ⟨v,a',s',e,hv,a0,a1⟩:=pick_d n hn code a s k hb h0 h1 h2
 unfold F_spec_l1Cur_one
 simp only at e ⊢
 rw [e]
 exact ⟨_,_,_,rfl,trivial,a0,a1⟩
theorem among_d (l:List Int) (hl:1≤l.length∧l.length≤1000):Dr (fun c=>F_spec_l1Cur_among c l) (fun v=>v∈l) 2:=fun code a s k hb h0 h1 h2=>by
 obtain ⟨v,a',s',e,hv,a0,a1⟩:=pick_d (l.length:Int) (by omega) code a s k hb h0 h1 h2
 unfold F_spec_l1Cur_among
 simp only at e ⊢
 rw [e]
 obtain ⟨x,hx,hx2⟩:=getI_at (l:=l) hv.1 (by omega)
 simp only [Option.bind_some,hx]
 exact ⟨_,_,_,rfl,List.mem_of_getElem? hx2,a0,a1⟩
theorem pick_lt {n v:Int} (h:0≤v∧(v<n∨v=0)) (hn:0<n):0≤v∧v<n:=by omega
theorem gate_d (n:Nat) (hn:1≤n∧n≤6) (kinds:List Int) (hk:1≤kinds.length∧kinds.length≤1000) (hr:∀ x∈kinds,1≤x∧x≤12):Dr (fun c=>F_spec_l1Cur_gate c (n:Int) kinds) (fun g=>gOk n g=true) 8:=fun code a s k hb h0 h1 h2=>by
 unfold F_spec_l1Cur_gate
 obtain ⟨v1,a1,s1,e1,p1,q1,r1⟩:=pick_d (kinds.length:Int) (by omega) code a s k hb h0 h1 (by omega)
 simp only at e1 ⊢
 rw [e1]; simp only [Option.bind_some]
 obtain ⟨x,hx,hx2⟩:=getI_at (l:=kinds) (i:=v1) p1.1 (by omega)
 have hxr:=hr x (List.mem_of_getElem? hx2)
 rw [hx]; simp only [Option.bind_some]
 by_cases h12:x=12
 ·subst h12
  simp only [beq_self_eq_true,cond_true]
  exact ⟨_,_,_,rfl,by unfold gOk; simp,q1,by first | omega | (simp only; omega)⟩
 ·have e12:(x==12)=false:=by simp [h12]
  rw [e12]
  simp only [cond_false]
  obtain ⟨v2,a2,s2,e2,p2,q2,r2⟩:=pick_d (n:Int) (by omega) code a1 s1 (k+2) hb q1 r1 (by omega)
  simp only at e2
  rw [e2]; simp only [Option.bind_some]
  unfold F_spec_l1In
  simp only [Option.bind_some]
  by_cases h9:9≤x∧x≤11
  ·rw [decide_eq_true h9.1,decide_eq_true h9.2]
   simp only [Bool.and_self,cond_true]
   by_cases hn1:n=1
   ·subst hn1
    simp only [beq_self_eq_true,cond_true,Option.bind_some,orR,show (((1:Nat):Int)==1)=true from rfl]
    exact ⟨_,_,_,rfl,by unfold gOk; simp,q2,by first | omega | (simp only; omega)⟩
   ·have en:((n:Int)==1)=false:=by simp; omega
    rw [en]
    simp only [cond_false]
    rw [wrap_i64 (a:=(n:Int)-1) ⟨by omega,by omega⟩]
    obtain ⟨v3,a3,s3,e3,p3,q3,r3⟩:=pick_d ((n:Int)-1) (by omega) code a2 s2 (k+2+2) hb q2 r2 (by omega)
    simp only at e3
    rw [e3]; simp only [Option.bind_some]
    have hv2:=pick_lt p2 (by omega)
    have hv3:=pick_lt p3 (by omega)
    rw [chk_t (by omega),wrap_i64 (a:=v2+1) ⟨by omega,by omega⟩,wrap_i64 (a:=v2+1+v3) ⟨by omega,by omega⟩]
    have w0:0≤Int.tmod (v2+1+v3) (n:Int):=Int.tmod_nonneg _ (by omega)
    have w1:Int.tmod (v2+1+v3) (n:Int)<(n:Int):=Int.tmod_lt_of_pos _ (by omega)
    have wne:Int.tmod (v2+1+v3) (n:Int)≠v2:=by
     rw [Int.tmod_eq_emod_of_nonneg (by omega)]
     by_cases hlt:v2+1+v3<(n:Int)
     ·rw [Int.emod_eq_of_lt (by omega) hlt]; omega
     ·have:(v2+1+v3) % (n:Int)=v2+1+v3-(n:Int):=by
       rw [← Int.sub_emod_right,Int.emod_eq_of_lt (by omega) (by omega)]
      rw [this]; omega
    simp only [Option.bind_some,orR]
    refine ⟨_,_,_,rfl,?_,q3,by first | omega | (simp only; omega)⟩
    generalize Int.tmod (v2+1+v3) (n:Int)=w at w0 w1 wne
    unfold gOk
    simp only
    rw [show (decide (1≤x)&&decide (x≤8))=false by simp; omega,decide_eq_true h9.1,decide_eq_true h9.2,decide_eq_true hv2.1,decide_eq_true (show v2≤(n:Int)-1 by omega),decide_eq_true w0,decide_eq_true (show w≤(n:Int)-1 by omega)]
    simp
    omega
  ·have e9:(decide (9≤x)&&decide (x≤11))=false:=by
    simp only [Bool.and_eq_false_iff,decide_eq_false_iff_not]; omega
   rw [e9]
   simp only [cond_false,Option.bind_some,orR]
   have hv2:=pick_lt p2 (by omega)
   refine ⟨_,_,_,rfl,?_,q2,by first | omega | (simp only; omega)⟩
   unfold gOk
   simp only
   rw [decide_eq_true hxr.1,decide_eq_true (show x≤8 by omega),decide_eq_true hv2.1,decide_eq_true (show v2≤(n:Int)-1 by omega)]
   rfl
theorem built_d (n:Nat) (hn:1≤n∧n≤6) (most:Nat) (hm:most≤100) (kinds:List Int) (hk:1≤kinds.length∧kinds.length≤1000) (hr:∀ x∈kinds,1≤x∧x≤12):Dr (fun c=>F_spec_l1Cur_built c (n:Int) (most:Int) kinds) (fun c=>c.Qubits=(n:Int)∧c.Gates.length≤most∧c.Gates.all (gOk n)=true) 1000:=fun code a s k hb h0 h1 h2=>by
 unfold F_spec_l1Cur_built
 simp only
 rw [wrap_i64 (a:=(most:Int)+1) ⟨by omega,by omega⟩]
 obtain ⟨v1,a1,s1,e1,p1,q1,r1⟩:=pick_d ((most:Int)+1) (by omega) code a s k hb h0 h1 (by omega)
 simp only at e1
 rw [e1]; simp only [Option.bind_some]
 have hv1:=pick_lt p1 (by omega)
 have hs:=whX_inv (f:=F_spec_l1Cur_built_l1 (Tl1Cur.mk code a s) (n:Int) kinds) (fun t=>0≤t.2.2.2∧0≤t.1∧t.1+8*t.2.2.2≤((k+2+8*most:Nat):Int)∧(t.2.2.1.length:Int)+t.2.2.2≤(most:Int)∧t.2.2.1.all (gOk n)=true) (fun t=>0≤t.1∧t.1≤((k+2+8*most:Nat):Int)∧t.2.2.1.length≤most∧t.2.2.1.all (gOk n)=true) (fun _:TCircuit×Tl1Cur=>False) (fun t=>t.2.2.2.toNat) (fun t ht=>by
  obtain ⟨b1,z1,G,k_⟩:=t
  obtain ⟨t1,t2,t3,t4,t5⟩:=ht
  simp only at t1 t2 t3 t4 t5
  unfold F_spec_l1Cur_built_l1
  simp only
  by_cases hk0:0<k_
  ·rw [decide_eq_true hk0]
   simp only [cond_true]
   obtain ⟨v2,a2,s2,e2,p2,q2,r2⟩:=gate_d n hn kinds hk hr code b1 z1 b1.toNat hb t2 (by omega) (by omega)
   simp only at e2
   rw [e2]; simp only [Option.bind_some]
   rw [chk_t (by omega),wrap_i64 (a:=k_-1) ⟨by omega,by omega⟩]
   exact .inl ⟨_,rfl,⟨by simp only; omega,q2,by simp only; omega,by simp only [List.length_append,List.length_singleton]; omega,by simp only [List.all_append,t5,List.all_cons,List.all_nil,p2,Bool.and_self]⟩,by simp only; omega⟩
  ·rw [decide_eq_false hk0]
   exact .inr (.inl ⟨_,rfl,t2,by simp only; omega,by simp only; omega,t5⟩)) fuel (a1,s1,[],v1) ⟨by simp only; omega,q1,by simp only; omega,by simp only [List.length_nil]; omega,rfl⟩ (fuelB (by simp only; omega))
 rcases hs with ⟨⟨b1,z1,G,k_⟩,w1,w2,w3,w4,w5⟩ | ⟨r,_,hr⟩
 ·rw [w1]
  simp only at w2 w3 w4 w5
  exact ⟨_,_,_,rfl,⟨rfl,w4,w5⟩,w2,by first | omega | (simp only; omega)⟩
 ·exact hr.elim
theorem circuit_d:Dr F_spec_l1Cur_circuit (fun c=>∃ n:Nat,(1≤n∧n≤3)∧c.Qubits=(n:Int)∧c.Gates.length≤8∧c.Gates.all (gOk n)=true) 1010:=fun code a s k hb h0 h1 h2=>by
 unfold F_spec_l1Cur_circuit
 obtain ⟨v1,a1,s1,e1,p1,q1,r1⟩:=among_d [1,2,2,3] (by decide) code a s k hb h0 h1 (by omega)
 simp only at e1 ⊢
 rw [e1]; simp only [Option.bind_some]
 obtain ⟨n,rfl,hn⟩:∃ n:Nat,v1=n∧1≤n∧n≤3:=by
  simp only [List.mem_cons,List.not_mem_nil,or_false] at p1
  exact ⟨v1.toNat,by omega,by omega,by omega⟩
 obtain ⟨v2,a2,s2,e2,p2,q2,r2⟩:=built_d n ⟨by omega,by omega⟩ 8 (by decide) [1,2,3,4,5,6,7,8,9,9,10,11,12,7,1] (by decide) (by decide) code a1 s1 (k+2) hb q1 r1 (by omega)
 simp only at e2
 rw [show F_spec_l1Cur_built (Tl1Cur.mk code a1 s1) (n:Int) 8 [1,2,3,4,5,6,7,8,9,9,10,11,12,7,1]=_ from e2]
 exact ⟨_,_,_,rfl,⟨n,hn,p2⟩,q2,by first | omega | (simp only; omega)⟩
theorem anyCircuit_d:Dr F_spec_l1Cur_anyCircuit (fun c=>c.Gates.length≤9) 1040:=fun code a s k hb h0 h1 h2=>by
 unfold F_spec_l1Cur_anyCircuit
 obtain ⟨v1,a1,s1,e1,⟨n,hn,hq,hl,_⟩,q1,r1⟩:=circuit_d code a s k hb h0 h1 (by omega)
 simp only
 rw [e1]; simp only [Option.bind_some]
 obtain ⟨v2,a2,s2,e2,p2,q2,r2⟩:=pick_d 14 (by decide) code a1 s1 (k+1010) hb q1 r1 (by omega)
 simp only at e2
 rw [e2]; simp only [Option.bind_some]
 cases v2==0 with
 | true =>
  simp only [cond_true]
  obtain ⟨v3,a3,s3,e3,p3,q3,r3⟩:=among_d [0,1,5,6] (by decide) code a2 s2 (k+1010+2) hb q2 r2 (by omega)
  simp only at e3
  rw [e3]
  exact ⟨_,_,_,rfl,by simp only; omega,q3,by first | omega | (simp only; omega)⟩
 | false =>
  cases v2==1 with
  | true =>
   simp only [cond_true,cond_false]
   obtain ⟨v3,a3,s3,e3,p3,q3,r3⟩:=pick_d 14 (by decide) code a2 s2 (k+1010+2) hb q2 r2 (by omega)
   simp only at e3
   rw [e3]; simp only [Option.bind_some]
   obtain ⟨v4,a4,s4,e4,p4,q4,r4⟩:=pick_d 4 (by decide) code a3 s3 (k+1010+2+2) hb q3 r3 (by omega)
   simp only at e4
   rw [e4]; simp only [Option.bind_some]
   obtain ⟨v5,a5,s5,e5,p5,q5,r5⟩:=pick_d 4 (by decide) code a4 s4 (k+1010+2+2+2) hb q4 r4 (by omega)
   simp only at e5
   rw [e5]; simp only [Option.bind_some]
   rw [chk_t (by omega)]
   exact ⟨_,_,_,rfl,by simp only [List.length_append,List.length_singleton]; omega,q5,by first | omega | (simp only; omega)⟩
  | false =>
   simp only [cond_false]
   exact ⟨_,_,_,rfl,by simp only; omega,q2,by first | omega | (simp only; omega)⟩

def szO (r:Option (TCouplingGraph×Bool)):Option (Int×Nat):=r.map fun r=>(r.1.Nodes,r.1.Edges.length)
theorem line_small:∀ n:Fin 9,1≤n.val→szO (F_spec_LineGraph (n.val:Int))=some ((n.val:Int),n.val-1):=by decide +kernel
theorem ring_small:∀ n:Fin 9,3≤n.val→szO (F_spec_RingGraph (n.val:Int))=some ((n.val:Int),n.val):=by decide +kernel
theorem line_tot {n:Nat} (h:1≤n∧n≤8):∃ g b,F_spec_LineGraph (n:Int)=some (g,b)∧g.Nodes=(n:Int)∧g.Edges.length≤8:=by
 have:=line_small ⟨n,by omega⟩ h.1
 simp only at this
 cases hr:F_spec_LineGraph (n:Int) with
 | none=>rw [hr] at this; cases this
 | some r =>
  rw [hr] at this
  simp only [szO,Option.map_some,Option.some.injEq,Prod.mk.injEq] at this
  exact ⟨r.1,r.2,rfl,this.1,by omega⟩
theorem ring_tot {n:Nat} (h:3≤n∧n≤8):∃ g b,F_spec_RingGraph (n:Int)=some (g,b)∧g.Nodes=(n:Int)∧g.Edges.length≤8:=by
 have:=ring_small ⟨n,by omega⟩ h.1
 simp only at this
 cases hr:F_spec_RingGraph (n:Int) with
 | none=>rw [hr] at this; cases this
 | some r =>
  rw [hr] at this
  simp only [szO,Option.map_some,Option.some.injEq,Prod.mk.injEq] at this
  exact ⟨r.1,r.2,rfl,this.1,by omega⟩
theorem l19_in {pairs:List (List Int)} {a:Nat} {b:Int}:∀ (k i:Nat) (out:List TEdge),i+k=pairs.length→out.length≤1000→∃ out',forX (F_spec_l19Edges_l3 pairs a b) k i out=some (.inl out')∧out'.length≤out.length+1:=fun k=>by
 induction k with
 | zero=>intro i out _ _; exact ⟨out,rfl,by omega⟩
 | succ k ih =>
  intro i out hi ho
  have hx:=List.getElem?_eq_getElem (show i<pairs.length by omega)
  generalize pairs[i]=x at hx
  have e:F_spec_l19Edges_l3 pairs a b i out=some (bif ((((x.getD 0 0)==(a:Int))&&(((x.getD 1 0)==b)&&true))||(((x.getD 0 0)==b)&&(((x.getD 1 0)==(a:Int))&&true))) then .br (out++[(TEdge.mk (a:Int) b)]) else .nx out):=by
   unfold F_spec_l19Edges_l3
   simp only [getI_nat,hx,Option.bind_some]
   rw [chk_t (by omega)]
   cases ((((x.getD 0 0)==(a:Int))&&(((x.getD 1 0)==b)&&true))||(((x.getD 0 0)==b)&&(((x.getD 1 0)==(a:Int))&&true))) <;> rfl
  generalize ((((x.getD 0 0)==(a:Int))&&(((x.getD 1 0)==b)&&true))||(((x.getD 0 0)==b)&&(((x.getD 1 0)==(a:Int))&&true)))=t at e
  cases t with
  | true=>exact ⟨out++[TEdge.mk (a:Int) b],by simp only [forX,e,Option.bind_some,cond_true],by simp⟩
  | false =>
   obtain ⟨o,o1,o2⟩:=ih (i+1) out (by omega) ho
   exact ⟨o,by simp only [forX,e,Option.bind_some,cond_false]; exact o1,o2⟩
theorem l19_tot (n:Nat) (hn:n≤8) (pairs:List (List Int)) (hp:pairs.length≤100):∃ l,F_spec_l19Edges (n:Int) pairs=some l∧l.length≤100:=by
 unfold F_spec_l19Edges
 rw [chk_t (by omega),Int.toNat_natCast]
 obtain ⟨l,e1,e2⟩:=forN_inv (f:=F_spec_l19Edges_l1 (n:Int) pairs) (fun i l=>l.length≤10*i) n 0 [] (Nat.le_refl _) (fun i l _ hi hl=>by
  unfold F_spec_l19Edges_l1
  rw [wr (a:=(i:Int)+1) (by omega)]
  rcases whX_inv (f:=F_spec_l19Edges_l2 (n:Int) pairs i) (fun s=>∃ b:Nat,s.2=(b:Int)∧i+1≤b∧s.1.length+i+1≤l.length+b∧b≤n) (fun s=>s.1.length≤l.length+10) (fun _=>False) (fun s=>n-s.2.toNat) (fun s ⟨b,h1,h2,h3,h4⟩=>by
   obtain ⟨o,z⟩:=s
   simp only at h1 h3
   subst h1
   unfold F_spec_l19Edges_l2
   simp only
   by_cases hb:b<n
   ·rw [decide_eq_true (show (b:Int)<(n:Int) by omega)]
    simp only [cond_true]
    obtain ⟨o',o1,o2⟩:=l19_in (pairs:=pairs) (a:=i) (b:=(b:Int)) pairs.length 0 o (by omega) (by omega)
    rw [chk_t (by omega),o1]
    simp only [Option.bind_some,orR]
    rw [wr (a:=(b:Int)+1) (by omega)]
    exact .inl ⟨_,rfl,⟨b+1,by simp only; omega,by omega,by simp only; omega,by omega⟩,by simp only; omega⟩
   ·rw [decide_eq_false (show ¬ (b:Int)<(n:Int) by omega)]
    exact .inr (.inl ⟨_,rfl,by simp only; omega⟩)) fuel (l,(i:Int)+1) ⟨i+1,by simp only; omega,Nat.le_refl _,by simp only; omega,by omega⟩ (fuel_big (by simp only; omega)) with ⟨s,w1,w2⟩ | ⟨_,_,h⟩
  ·rw [w1]
   exact ⟨_,rfl,by omega⟩
  ·exact h.elim)
 rw [e1]
 exact ⟨l,rfl,by omega⟩
theorem device_d (lo hi:Nat) (hlo:2≤lo∧lo≤hi∧hi≤6):Dr (fun c=>F_spec_l1Cur_device c (lo:Int) (hi:Int)) (fun g=>((lo:Int)≤g.Nodes∧g.Nodes≤(hi:Int))∧g.Edges.length≤100) 100:=fun code a s k hb h0 h1 h2=>by
 unfold F_spec_l1Cur_device
 simp only
 rw [wr (a:=(hi:Int)-(lo:Int)) (by omega),wr (a:=(hi:Int)-(lo:Int)+1) (by omega)]
 obtain ⟨v1,a1,s1,e1,p1,q1,r1⟩:=pick_d ((hi:Int)-(lo:Int)+1) (by omega) code a s k hb h0 h1 (by omega)
 simp only at e1
 rw [e1]; simp only [Option.bind_some]
 rw [wr (a:=(lo:Int)+v1) (by omega)]
 obtain ⟨n,hn⟩:∃ n:Nat,(lo:Int)+v1=(n:Int):=⟨((lo:Int)+v1).toNat,by omega⟩
 rw [hn]
 obtain ⟨g0,b0,g1,g2,g3⟩:=line_tot (n:=n) (by omega)
 rw [g1]; simp only [Option.bind_some]
 have hring:∃ a2 s2 nd ed,((bif (decide (3≤(n:Int))) then ((F_spec_l1Cur_one (Tl1Cur.mk code a1 s1) 4).bind fun (r_4,m2) =>
   bif r_4 then ((F_spec_RingGraph (n:Int)).bind fun (r_5,r_6) =>
   some (m2.at_,m2.seed,r_5.Nodes,r_5.Edges)) else (some (m2.at_,m2.seed,g0.Nodes,g0.Edges))) else (some (a1,s1,g0.Nodes,g0.Edges))):Option (Int×Int×Int×List TEdge))=some (a2,s2,nd,ed)∧nd=(n:Int)∧ed.length≤100∧0≤a2∧a2≤((k+4:Nat):Int):=by
  by_cases h3:3≤n
  ·rw [decide_eq_true (show (3:Int)≤(n:Int) by omega)]
   simp only [cond_true]
   obtain ⟨v2,a2,s2,e2,p2,q2,r2⟩:=one_d 4 (by decide) code a1 s1 (k+2) hb q1 r1 (by omega)
   simp only at e2
   rw [e2]; simp only [Option.bind_some]
   cases v2 with
   | true =>
    obtain ⟨g4,b4,g5,g6,g7⟩:=ring_tot (n:=n) (by omega)
    simp only [cond_true]
    rw [g5]
    exact ⟨_,_,_,_,rfl,g6,by simp only; omega,q2,by omega⟩
   | false=>exact ⟨_,_,_,_,rfl,g2,by omega,q2,by omega⟩
  ·rw [decide_eq_false (show ¬ (3:Int)≤(n:Int) by omega)]
   exact ⟨_,_,_,_,rfl,g2,by omega,q1,by omega⟩
 obtain ⟨a2,s2,nd,ed,f1,rfl,f3,q2,r2⟩:=hring
 rw [f1]; simp only [Option.bind_some]
 obtain ⟨v3,a3,s3,e3,p3,q3,r3⟩:=one_d 3 (by decide) code a2 s2 (k+4) hb q2 r2 (by omega)
 simp only at e3
 rw [e3]; simp only [Option.bind_some]
 cases v3 with
 | false=>exact ⟨_,_,_,rfl,⟨by simp only; omega,by simp only; omega⟩,q3,by omega⟩
 | true =>
  simp only [cond_true]
  have hs:=whX_inv (f:=F_spec_l1Cur_device_l1 (lo:Int) v1 (Tl1Cur.mk code a s)) (fun t=>∃ b:Nat,t.2.2.2=(b:Int)∧1≤b∧b≤n∧0≤t.1∧t.1≤((k+6+2*b:Nat):Int)∧t.2.2.1.length≤b) (fun t=>0≤t.1∧t.1≤((k+6+2*n:Nat):Int)∧t.2.2.1.length≤n) (fun _=>False) (fun t=>n-t.2.2.2.toNat) (fun t ⟨b,t1,t2,t3,t4,t5,t6⟩=>by
   obtain ⟨c1,z1,P,z⟩:=t
   simp only at t1 t4 t5 t6
   subst t1
   unfold F_spec_l1Cur_device_l1
   simp only
   rw [wr (a:=(lo:Int)+v1) (by omega),hn]
   by_cases hlt:b<n
   ·rw [decide_eq_true (show (b:Int)<(n:Int) by omega)]
    simp only [cond_true]
    obtain ⟨v4,a4,s4,e4,p4,q4,r4⟩:=pick_d (b:Int) (by omega) code c1 z1 (k+6+2*b) hb t4 t5 (by omega)
    simp only at e4
    rw [e4]; simp only [Option.bind_some]
    rw [chk_t (by omega),wr (a:=(b:Int)+1) (by omega)]
    exact .inl ⟨_,rfl,⟨b+1,by simp only; omega,by omega,by omega,q4,by simp only; omega,by simp only [List.length_append,List.length_singleton]; omega⟩,by simp only; omega⟩
   ·rw [decide_eq_false (show ¬ (b:Int)<(n:Int) by omega)]
    exact .inr (.inl ⟨_,rfl,t4,by simp only; omega,by simp only; omega⟩)) fuel (a3,s3,[],1) ⟨1,rfl,Nat.le_refl _,by omega,q3,by simp only; omega,Nat.zero_le _⟩ (fuel_big (by simp only; omega))
  rcases hs with ⟨⟨c4,z4,P,z⟩,w1,w2,w3,w4⟩ | ⟨_,_,h⟩
  ·rw [w1]
   simp only at w2 w3 w4
   simp only [Option.bind_some,orR]
   obtain ⟨v5,a5,s5,e5,p5,q5,r5⟩:=one_d 3 (by decide) code c4 z4 (k+6+2*n) hb w2 w3 (by omega)
   simp only at e5
   rw [e5]; simp only [Option.bind_some]
   have hmore:∃ a6 s6 P6,((bif v5 then ((F_spec_l1Cur_pick (Tl1Cur.mk code a5 s5) (n:Int)).bind fun (r_10,m6) =>
     (F_spec_l1Cur_pick (Tl1Cur.mk code m6.at_ m6.seed) (n:Int)).bind fun (r_11,m7) =>
     chk (P.length+1≤1099511627776) <|
     some (m7.at_,m7.seed,(P++[([r_10,r_11]:List Int)]))) else (some (a5,s5,P))):Option (Int×Int×List (List Int)))=some (a6,s6,P6)∧P6.length≤20∧0≤a6∧a6≤((k+30:Nat):Int):=by
    cases v5 with
    | false=>exact ⟨_,_,_,rfl,by omega,q5,by omega⟩
    | true =>
     simp only [cond_true]
     obtain ⟨v6,a6,s6,e6,p6,q6,r6⟩:=pick_d (n:Int) (by omega) code a5 s5 (k+6+2*n+2) hb q5 r5 (by omega)
     simp only at e6
     rw [e6]; simp only [Option.bind_some]
     obtain ⟨v7,a7,s7,e7,p7,q7,r7⟩:=pick_d (n:Int) (by omega) code a6 s6 (k+6+2*n+2+2) hb q6 r6 (by omega)
     simp only at e7
     rw [e7]; simp only [Option.bind_some]
     rw [chk_t (by omega)]
     exact ⟨_,_,_,rfl,by simp only [List.length_append,List.length_singleton]; omega,q7,by omega⟩
   obtain ⟨a6,s6,P6,f6,hP6,q6,r6⟩:=hmore
   rw [f6]; simp only [Option.bind_some]
   have hless:∃ a8 s8 P8,((bif (decide (0<(P6.length:Int))) then ((F_spec_l1Cur_one (Tl1Cur.mk code a6 s6) 6).bind fun (r_12,m8) =>
     bif r_12 then (chk ((0:Int)≤1∧1≤(P6.length:Int)) <|
     some (m8.at_,m8.seed,(List.drop 1 P6))) else (some (m8.at_,m8.seed,P6))) else (some (a6,s6,P6))):Option (Int×Int×List (List Int)))=some (a8,s8,P8)∧P8.length≤20∧0≤a8∧a8≤((k+32:Nat):Int):=by
    by_cases hz:0<P6.length
    ·rw [decide_eq_true (show (0:Int)<(P6.length:Int) by omega)]
     simp only [cond_true]
     obtain ⟨v8,a8,s8,e8,p8,q8,r8⟩:=one_d 6 (by decide) code a6 s6 (k+30) hb q6 r6 (by omega)
     simp only at e8
     rw [e8]; simp only [Option.bind_some]
     cases v8 with
     | true =>
      simp only [cond_true]
      rw [chk_t (by omega)]
      exact ⟨_,_,_,rfl,by rw [List.length_drop]; omega,q8,by omega⟩
     | false=>exact ⟨_,_,_,rfl,hP6,q8,by omega⟩
    ·rw [decide_eq_false (show ¬ (0:Int)<(P6.length:Int) by omega)]
     exact ⟨_,_,_,rfl,hP6,q6,by omega⟩
   obtain ⟨a8,s8,P8,f8,hP8,q8,r8⟩:=hless
   rw [f8]; simp only [Option.bind_some]
   obtain ⟨l,l1,l2⟩:=l19_tot n (by omega) P8 (by omega)
   rw [l1]
   exact ⟨_,_,_,rfl,⟨by simp only; omega,l2⟩,q8,by omega⟩
  ·exact h.elim

theorem sub_len:∀ (l l':List Int),l.Nodup→(∀ x∈l,x∈l')→l.length≤l'.length
 | [],_,_,_=>Nat.zero_le _
 | x::r,l',hn,h=>by
  rw [List.nodup_cons] at hn
  have hx:=h x (.head _)
  have:=sub_len r (l'.erase x) hn.2 (fun y hy=>by
   have hne:y≠x:=fun e=>hn.1 (by rw [← e]; exact hy)
   exact (List.mem_erase_of_ne hne).2 (h y (.tail _ hy)))
  have h2:=List.length_erase_of_mem hx
  have h3:=List.length_pos_of_mem hx
  rw [List.length_cons]
  omega
/-- A node that is free yet, by turning on. -/
theorem free_node {start:List Int} {N:Nat} (hl:start.length<N) (m:Nat) (hm:m<N):∃ j,j≤N∧(((m+j) % N:Nat):Int)∉start:=by
 obtain ⟨x,hx,hxs⟩:∃ x:Nat,x<N∧((x:Nat):Int)∉start:=by
  apply Classical.byContradiction
  intro hno
  have hno:∀ x:Nat,x<N→((x:Nat):Int)∈start:=fun x hx=>Classical.byContradiction fun h=>hno ⟨x,hx,h⟩
  have:=sub_len ((List.range N).map fun i:Nat=>(i:Int)) start (by
   unfold List.Nodup
   rw [List.pairwise_map]
   exact List.nodup_range.imp (fun h e=>h (by omega))) (fun y hy=>by
   obtain ⟨i,hi,rfl⟩:=List.mem_map.1 hy
   exact hno i (List.mem_range.1 hi))
  rw [List.length_map,List.length_range] at this
  omega
 by_cases h:m≤x
 ·exact ⟨x-m,by omega,by rw [show m+(x-m)=x by omega,Nat.mod_eq_of_lt hx]; exact hxs⟩
 ·refine ⟨x+N-m,by omega,?_⟩
  rw [show m+(x+N-m)=x+N by omega,Nat.add_mod_right,Nat.mod_eq_of_lt hx]; exact hxs
theorem turn_on {start:List Int} {g:TCouplingGraph} {N:Nat} (hN:g.Nodes=(N:Int)) (hN8:1≤N∧N≤8) (hl:start.length≤1000):∀ (j m F:Nat),m<N→j<F→(((m+j) % N:Nat):Int)∉start→∃ k,whX (F_spec_l1Cur_routed_l2 start g) F (m:Int)=some (.inl k):=fun j=>by
 have hst:∀ m:Nat,m<N→F_spec_l1Cur_routed_l2 start g (m:Int)=some (bif (start.any fun x=>x==(m:Int)) then .nx (((m+1) % N:Nat):Int) else .br (m:Int)):=fun m hm=>by
  unfold F_spec_l1Cur_routed_l2
  rw [hasR (by omega),hN,wr (a:=(m:Int)+1) (by omega),chk_t (by omega)]
  have e:Int.tmod ((m:Int)+1) (N:Int)=(((m+1) % N:Nat):Int):=rfl
  rw [e]
  simp only [Option.bind_some]
  cases (start.any fun x=>x==(m:Int)) <;> rfl
 induction j with
 | zero =>
  intro m F hm hF hx
  obtain ⟨F',rfl⟩:∃ F',F=F'+1:=⟨F-1,by omega⟩
  rw [Nat.add_zero,Nat.mod_eq_of_lt hm] at hx
  have hany:(start.any fun x=>x==(m:Int))=false:=by
   rw [List.any_eq_false]
   intro y hy h
   exact hx (by rw [← (show y=(m:Int) by simpa using h)]; exact hy)
  exact ⟨(m:Int),by simp only [whX,hst m hm,hany,Option.bind_some,cond_false]⟩
 | succ j ih =>
  intro m F hm hF hx
  obtain ⟨F',rfl⟩:∃ F',F=F'+1:=⟨F-1,by omega⟩
  cases hh:(start.any fun x=>x==(m:Int)) with
  | false=>exact ⟨(m:Int),by simp only [whX,hst m hm,hh,Option.bind_some,cond_false]⟩
  | true =>
   have h2:(((m+1) % N+j) % N:Nat)=(m+(j+1)) % N:=by
    rw [Nat.mod_add_mod]; congr 1; omega
   obtain ⟨k,hk⟩:=ih ((m+1) % N) F' (Nat.mod_lt _ (by omega)) (by omega) (by rw [h2]; exact hx)
   exact ⟨k,by simp only [whX,hst m hm,hh,Option.bind_some,cond_true]; exact hk⟩
def RtB (g:TCouplingGraph) (c:TCircuit) (start:List Int):Prop:=g.Edges.length≤200∧c.Gates.length≤100∧start.length≤10
theorem routed_d (code:List Int) (a s:Int) (k:Nat) (hb:BOk code) (h0:0≤a) (h1:a≤k) (h2:k+3000≤1000000000):∃ g x st a' s',F_spec_l1Cur_routed (Tl1Cur.mk code a s)=some (g,x,st,Tl1Cur.mk code a' s')∧RtB g x st∧0≤a'∧a'≤((k+3000:Nat):Int):=by
 unfold F_spec_l1Cur_routed
 obtain ⟨v1,a1,s1,e1,p1,q1,r1⟩:=pick_d 3 (by decide) code a s k hb h0 h1 (by omega)
 simp only at e1 ⊢
 rw [e1]; simp only [Option.bind_some]
 have p1:=pick_lt p1 (by omega)
 rw [wr (a:=2+v1) (by omega)]
 obtain ⟨n,hn⟩:∃ n:Nat,2+v1=(n:Int):=⟨(2+v1).toNat,by omega⟩
 rw [hn]
 obtain ⟨v2,a2,s2,e2,⟨_,p2,_⟩,q2,r2⟩:=built_d n (by omega) 9 (by decide) [1,7,9,9,9,9,10,11,12] (by decide) (by decide) code a1 s1 (k+2) hb q1 r1 (by omega)
 simp only at e2
 rw [show F_spec_l1Cur_built (Tl1Cur.mk code a1 s1) (n:Int) 9 [1,7,9,9,9,9,10,11,12]=_ from e2]
 simp only [Option.bind_some]
 obtain ⟨v3,a3,s3,e3,⟨p3,p3'⟩,q3,r3⟩:=device_d n 5 (by omega) code a2 s2 (k+2+1000) hb q2 r2 (by omega)
 simp only at e3
 rw [show F_spec_l1Cur_device (Tl1Cur.mk code a2 s2) (n:Int) 5=_ from e3]
 simp only [Option.bind_some,Int.toNat_natCast]
 rw [chk_t (by omega)]
 obtain ⟨N,hN⟩:∃ N:Nat,v3.Nodes=(N:Int):=⟨v3.Nodes.toNat,by omega⟩
 obtain ⟨⟨a4,s4,st⟩,w1,w2,w3,w4⟩:=forN_inv (f:=F_spec_l1Cur_routed_l1 (Tl1Cur.mk code a s) v3) (fun i t=>0≤t.1∧t.1≤((k+1102+2*i:Nat):Int)∧t.2.2.length=i) n 0 (a3,s3,[]) ⟨q3,by simp only; omega,rfl⟩ (fun i t _ hi ⟨t1,t2,t3⟩=>by
  obtain ⟨c1,z1,l⟩:=t
  simp only at t1 t2 t3
  unfold F_spec_l1Cur_routed_l1
  simp only
  obtain ⟨v4,a4,s4,e4,p4,q4,r4⟩:=pick_d v3.Nodes (by omega) code c1 z1 (k+1102+2*i) hb t1 t2 (by omega)
  simp only at e4
  rw [e4]; simp only [Option.bind_some]
  obtain ⟨m,rfl⟩:∃ m:Nat,v4=(m:Int):=⟨v4.toNat,by omega⟩
  obtain ⟨j,j1,j2⟩:=free_node (start:=l) (N:=N) (by omega) m (by omega)
  obtain ⟨kk,w⟩:=turn_on (start:=l) (g:=v3) hN (by omega) (by omega) j m fuel (by omega) (fuel_big (by omega)) j2
  rw [w]
  simp only [Option.bind_some,orR]
  rw [chk_t (by omega)]
  exact ⟨_,rfl,q4,by simp only; omega,by simp only [List.length_append,List.length_singleton]; omega⟩)
 rw [w1]; simp only [Option.bind_some]
 simp only at w2 w3 w4
 have hst:st.length≤10:=by omega
 obtain ⟨v5,a5,s5,e5,p5,q5,r5⟩:=pick_d 16 (by decide) code a4 s4 (k+1120) hb w2 (by omega) (by omega)
 simp only at e5
 rw [e5]; simp only [Option.bind_some]
 cases v5==0 with
 | true =>
  simp only [cond_true]
  obtain ⟨v6,a6,s6,e6,p6,q6,r6⟩:=anyCircuit_d code a5 s5 (k+1122) hb q5 r5 (by omega)
  rw [e6]
  exact ⟨_,_,_,_,_,rfl,⟨by simp only; omega,by simp only; omega,hst⟩,q6,by simp only; omega⟩
 | false =>
  cases v5==1 with
  | true =>
   simp only [cond_true,cond_false]
   obtain ⟨v6,a6,s6,e6,p6,q6,r6⟩:=pick_d 4 (by decide) code a5 s5 (k+1122) hb q5 r5 (by omega)
   simp only at e6
   rw [e6]; simp only [Option.bind_some]
   obtain ⟨v7,a7,s7,e7,p7,q7,r7⟩:=pick_d 6 (by decide) code a6 s6 (k+1124) hb q6 (by omega) (by omega)
   simp only at e7
   rw [e7]; simp only [Option.bind_some]
   rw [chk_t (by omega)]
   exact ⟨_,_,_,_,_,rfl,⟨by simp only [List.length_append,List.length_singleton]; omega,by simp only; omega,hst⟩,q7,by omega⟩
  | false =>
   cases v5==2 with
   | true =>
    simp only [cond_true,cond_false]
    obtain ⟨v6,a6,s6,e6,p6,q6,r6⟩:=pick_d (n:Int) (by omega) code a5 s5 (k+1122) hb q5 r5 (by omega)
    simp only at e6
    rw [e6]; simp only [Option.bind_some]
    obtain ⟨v7,a7,s7,e7,p7,q7,r7⟩:=pick_d 7 (by decide) code a6 s6 (k+1124) hb q6 (by omega) (by omega)
    simp only at e7
    rw [e7]; simp only [Option.bind_some]
    obtain ⟨x,hx,_⟩:=getI_at (l:=st) p6.1 (by omega)
    rw [hx]
    exact ⟨_,_,_,_,_,rfl,⟨by simp only; omega,by simp only; omega,by rw [List.length_set]; omega⟩,q7,by omega⟩
   | false =>
    cases v5==3 with
    | true =>
     simp only [cond_true,cond_false]
     rw [chk_t (by omega)]
     exact ⟨_,_,_,_,_,rfl,⟨by simp only; omega,by simp only; omega,by rw [List.length_drop]; omega⟩,q5,by omega⟩
    | false=>exact ⟨_,_,_,_,_,rfl,⟨by simp only; omega,by simp only; omega,hst⟩,q5,by omega⟩
theorem drawLeast {code:List Int} (hb:BOk code):∃ g c start,F_spec_DrawLeastSwaps code=some (g,c,start)∧RtB g c start:=by
 unfold F_spec_DrawLeastSwaps
 obtain ⟨v1,a1,s1,e1,p1,q1,r1⟩:=one_d 14 (by decide) code 0 0 0 hb (by decide) (by decide) (by decide)
 simp only at e1
 rw [e1]; simp only [Option.bind_some]
 cases v1 with
 | true =>
  simp only [cond_true]
  obtain ⟨v2,a2,s2,e2,⟨_,p2,_⟩,q2,r2⟩:=built_d 2 (by omega) 9 (by decide) [7,9] (by decide) (by decide) code a1 s1 (0+2) hb q1 r1 (by omega)
  simp only at e2
  rw [show F_spec_l1Cur_built (Tl1Cur.mk code a1 s1) 2 9 [7,9]=_ from e2]
  simp only [Option.bind_some]
  obtain ⟨v3,a3,s3,e3,p3,q3,r3⟩:=pick_d 6 (by decide) code a2 s2 (0+2+1000) hb q2 r2 (by omega)
  simp only at e3
  rw [e3]; simp only [Option.bind_some]
  rw [wr (a:=5+v3) (by omega)]
  rcases whX_inv (f:=F_spec_DrawLeastSwaps_l1) (fun t=>0≤t.2∧(t.1.length:Int)+t.2≤30) (fun t=>t.1.length≤30) (fun _=>False) (fun t=>t.2.toNat) (fun t ⟨t1,t2⟩=>by
   obtain ⟨G,k_⟩:=t
   simp only at t1 t2
   unfold F_spec_DrawLeastSwaps_l1
   simp only
   by_cases h:0<k_
   ·rw [decide_eq_true h]
    simp only [cond_true]
    rw [chk_t (by omega),wr (a:=k_-1) (by omega)]
    exact .inl ⟨_,rfl,⟨by simp only; omega,by simp only [List.length_append,List.length_singleton]; omega⟩,by simp only; omega⟩
   ·rw [decide_eq_false h]
    exact .inr (.inl ⟨_,rfl,by simp only; omega⟩)) fuel (v2.Gates,5+v3) ⟨by simp only; omega,by simp only; omega⟩ (fuel_big (by simp only; omega)) with ⟨⟨G,kk⟩,w1,w2⟩ | ⟨_,_,h⟩
  ·rw [w1]
   simp only [Option.bind_some,orR]
   simp only at w2
   obtain ⟨v4,a4,s4,e4,⟨p4,p4'⟩,q4,r4⟩:=device_d 2 6 (by omega) code a3 s3 (0+2+1000+2) hb q3 r3 (by omega)
   simp only at e4
   rw [show F_spec_l1Cur_device (Tl1Cur.mk code a3 s3) 2 6=_ from e4]
   exact ⟨_,_,_,rfl,by simp only; omega,by simp only; omega,by simp⟩
  ·exact h.elim
 | false =>
  simp only [cond_false]
  obtain ⟨g,x,st,a',s',f1,f2,_⟩:=routed_d code a1 s1 (0+2) hb q1 r1 (by omega)
  rw [f1]
  exact ⟨_,_,_,rfl,f2⟩
theorem found_short {g:TCouplingGraph} {c:TCircuit} {start:List Int} {r:TRoute} (hf:FoundR g c start r) (hcan:F_impl_canRoute g c=some true) (hpl:F_impl_CouplingGraph_isPlacement g c.Qubits start=some true):r.Steps.length≤4500:=by
 obtain ⟨q,_,_,hq,t,ht1,ht2⟩:=greedy_impl hf hcan hpl
 have h1:=found_least hf ht1 ht2
 have h2:=sw_le q.Steps
 have h3:=(found_len hf).2.2.1
 have h4:=hf.1.gates
 omega
theorem drawCheckR {code:List Int} (hb:BOk code):∃ g c r,F_spec_DrawCheckRoute code=some (g,c,r)∧g.Edges.length≤200∧c.Gates.length≤100∧r.Start.length≤10∧r.Steps.length≤4500:=by
 unfold F_spec_DrawCheckRoute
 obtain ⟨g,x,st,a1,s1,f1,⟨b1,b2,b3⟩,q1,r1⟩:=routed_d code 0 0 0 hb (by decide) (by decide) (by omega)
 rw [f1]; simp only [Option.bind_some]
 obtain ⟨q,ok,g1,g2,g3,g4⟩:=greedy_spec g x st (by omega) (by omega) (by omega)
 rw [g1]; simp only [Option.bind_some]
 have hqs:q.Start.length≤10:=by
  cases ok with
  | false=>rw [g2 rfl]; exact Nat.zero_le _
  | true=>rw [g3 rfl]; exact b3
 obtain ⟨v1,a2,s2,e1,p1,q2,r2⟩:=one_d 3 (by decide) code a1 s1 (0+3000) hb q1 r1 (by omega)
 simp only at e1
 rw [e1]; simp only [Option.bind_some]
 have hmid:∃ a3 s3 S T,((bif v1 then ((F_spec_RouteFrom g x st).bind fun (r_9,r_10) =>
   bif r_10 then (some (a2,s2,r_9.Start,r_9.Steps)) else (some (a2,s2,q.Start,q.Steps))) else (some (a2,s2,q.Start,q.Steps))):Option (Int×Int×List Int×List TRouteStep))=some (a3,s3,S,T)∧S.length≤10∧T.length≤4500∧0≤a3∧a3≤((0+3000+2:Nat):Int):=by
  cases v1 with
  | false=>exact ⟨_,_,_,_,rfl,hqs,by omega,q2,r2⟩
  | true =>
   simp only [cond_true]
   obtain ⟨r,b,_,_,l3,l4,l5⟩:=least_both g x st (by omega) (by omega) (by omega)
   rw [l4]
   simp only [Option.bind_some]
   cases b with
   | false=>exact ⟨_,_,_,_,rfl,hqs,by omega,q2,r2⟩
   | true =>
    obtain ⟨c1,c2,_⟩:=least_can (by omega) (by omega) (by omega) l3
    have hfl:=(found_len (l5 rfl)).1
    exact ⟨_,_,_,_,rfl,by rw [hfl]; exact b3,found_short (l5 rfl) c1 c2,q2,r2⟩
 obtain ⟨a3,s3,S,T,m1,m2,m3,m4,m5⟩:=hmid
 rw [m1]; simp only [Option.bind_some]
 have hS:∃ S1,((bif (!ok) then (some st) else (some S)):Option (List Int))=some S1∧S1.length≤10:=by
  cases ok with
  | false=>exact ⟨_,rfl,b3⟩
  | true=>exact ⟨_,rfl,m2⟩
 obtain ⟨S1,n1,n2⟩:=hS
 rw [n1]; simp only [Option.bind_some]
 by_cases hz:0<T.length
 ·rw [decide_eq_true (show (0:Int)<(T.length:Int) by omega)]
  simp only [cond_true]
  obtain ⟨v2,a4,s4,e2,p2,q4,r4⟩:=pick_d 8 (by decide) code a3 s3 (0+3000+2) hb m4 m5 (by omega)
  simp only at e2
  rw [e2]; simp only [Option.bind_some]
  obtain ⟨v3,a5,s5,e3,p3,q5,r5⟩:=pick_d (T.length:Int) (by omega) code a4 s4 (0+3000+2+2) hb q4 r4 (by omega)
  simp only at e3
  have p3:=pick_lt p3 (by omega)
  cases v2==0 with
  | true =>
   simp only [cond_true]
   rw [e3]; simp only [Option.bind_some]
   rw [chk_t (by omega)]
   exact ⟨_,_,_,rfl,b1,b2,n2,by simp only [List.length_take]; omega⟩
  | false =>
   cases v2==1 with
   | true =>
    simp only [cond_true,cond_false]
    rw [e3]; simp only [Option.bind_some]
    obtain ⟨v4,a6,s6,e4,p4,q6,r6⟩:=pick_d 10 (by decide) code a5 s5 (0+3000+2+2+2) hb q5 r5 (by omega)
    simp only at e4
    rw [e4]; simp only [Option.bind_some]
    obtain ⟨v5,a7,s7,e5,p5,q7,r7⟩:=pick_d 4 (by decide) code a6 s6 (0+3000+2+2+2+2) hb q6 r6 (by omega)
    simp only at e5
    rw [e5]; simp only [Option.bind_some]
    obtain ⟨v6,a8,s8,e6,p6,q8,r8⟩:=pick_d 4 (by decide) code a7 s7 (0+3000+2+2+2+2+2) hb q7 r7 (by omega)
    simp only at e6
    rw [e6]; simp only [Option.bind_some]
    obtain ⟨y,hy,_⟩:=getI_at (l:=T) p3.1 (by omega)
    rw [hy]
    exact ⟨_,_,_,rfl,b1,b2,n2,by simp only [List.length_set]; exact m3⟩
   | false =>
    cases v2==2 with
    | true =>
     simp only [cond_true,cond_false]
     rw [e3]; simp only [Option.bind_some]
     obtain ⟨y,hy,_⟩:=getI_at (l:=T) p3.1 (by omega)
     rw [hy,wr (a:=(T.length:Int)-1) (by omega)]
     simp only [Option.bind_some]
     obtain ⟨z,hz2,_⟩:=getI_at (l:=T) (i:=(T.length:Int)-1) (by omega) (by omega)
     rw [hz2]
     simp only [Option.bind_some]
     obtain ⟨w,hw,_⟩:=getI_at (l:=T.set v3.toNat z) (i:=(T.length:Int)-1) (by omega) (by rw [List.length_set]; omega)
     rw [hw]
     exact ⟨_,_,_,rfl,b1,b2,n2,by simp only [List.length_set]; exact m3⟩
    | false =>
     cases v2==3 with
     | true =>
      simp only [cond_true,cond_false]
      unfold F_spec_l1Own
      rw [chk_t (by omega)]
      simp only [Option.bind_some]
      by_cases hs:0<S1.length
      ·rw [decide_eq_true (show (0:Int)<(S1.length:Int) by omega)]
       simp only [cond_true]
       obtain ⟨v4,a6,s6,e4,p4,q6,r6⟩:=pick_d (S1.length:Int) (by omega) code a4 s4 (0+3000+2+2) hb q4 r4 (by omega)
       simp only at e4
       rw [e4]; simp only [Option.bind_some]
       have p4:=pick_lt p4 (by omega)
       obtain ⟨v5,a7,s7,e5,p5,q7,r7⟩:=pick_d 6 (by decide) code a6 s6 (0+3000+2+2+2) hb q6 r6 (by omega)
       simp only at e5
       rw [e5]; simp only [Option.bind_some]
       obtain ⟨y,hy,_⟩:=getI_at (l:=S1) p4.1 (by omega)
       rw [hy]
       exact ⟨_,_,_,rfl,b1,b2,by simp only [List.length_set]; exact n2,m3⟩
      ·rw [decide_eq_false (show ¬ (0:Int)<(S1.length:Int) by omega)]
       exact ⟨_,_,_,rfl,b1,b2,n2,m3⟩
     | false=>exact ⟨_,_,_,rfl,b1,b2,n2,m3⟩
 ·rw [decide_eq_false (show ¬ (0:Int)<(T.length:Int) by omega)]
  exact ⟨_,_,_,rfl,b1,b2,n2,m3⟩

theorem check_both (g:TCouplingGraph) (c:TCircuit) (r:TRoute) (h0:g.Edges.length≤1048576) (h1:c.Gates.length≤1048576) (h2:r.Start.length≤1048576) (h3:r.Steps.length≤1048576):∃ e at_ b,F_impl_CheckRoute g c r=some (e,at_,b)∧F_spec_CheckRoute g c r=some (e,at_,b):=by
 obtain ⟨b,b1,b2,b3⟩:=fits_both g c h0 h1
 unfold F_spec_CheckRoute F_impl_CheckRoute
 rw [b1,b2]
 simp only [Option.bind_some]
 cases b with
 | false=>exact ⟨_,_,_,rfl,rfl⟩
 | true =>
  obtain ⟨code,at_,p,rt,p1,p2,_,_⟩:=play_both (b3 rfl).1 h2 h3
  rw [p1,p2]
  exact ⟨_,_,_,rfl,rfl⟩
theorem q_swaps {r:TRoute} (h:r.Steps.length≤1000000000):F_laws_qSwaps r=some ((swN r.Steps:Nat):Int):=by
 unfold F_laws_qSwaps
 rw [chk_t (by omega)]
 obtain ⟨z,h1,h2⟩:=forN_inv (f:=F_laws_qSwaps_l1 r) (fun i z=>z=((swN (r.Steps.take i):Nat):Int)) r.Steps.length 0 0 rfl (fun i z _ hi hz=>by
  have hx:=List.getElem?_eq_getElem (show i<r.Steps.length by omega)
  generalize r.Steps[i]=x at hx
  have h3:=sw_le (r.Steps.take i)
  rw [List.length_take] at h3
  refine ⟨_,?_,rfl⟩
  unfold F_laws_qSwaps_l1
  rw [getI_nat,hx,hz,List.take_add_one,hx,Option.toList_some,sw_app]
  simp only [Option.bind_some]
  cases (x.Gate==-1)
  ·rfl
  ·simp only [cond_true,Option.bind_some]
   rw [wr (by omega)]
   rfl)
 rw [h1,h2,Nat.zero_add,List.take_length]
 rfl
theorem q_ints {l:List Int} (hl:l.length≤1000000000):F_laws_qInts l l=some true:=by
 unfold F_laws_qInts
 rw [show ((l.length:Int) != (l.length:Int))=false from by simp]
 simp only [cond_false]
 rw [chk_t (by omega)]
 rcases forX_inv (f:=F_laws_qInts_l1 l l) (fun _ _=>True) (fun _=>False) l.length 0 () trivial (fun i s _ hi _=>by
  have hx:=List.getElem?_eq_getElem (show i<l.length by omega)
  refine .inl ⟨(),?_,trivial⟩
  unfold F_laws_qInts_l1
  rw [getI_nat,hx]
  simp only [Option.bind_some,bne_self_eq_false,cond_false]) with ⟨s,e1,_⟩ | ⟨_,_,h⟩
 ·rw [e1]; rfl
 ·exact h.elim
theorem law_FnRoutes (a0 a1:List Int) (o0:a0.length≤9223372036854775807∧∀ y∈a0,U8 y) (o1:a1.length≤9223372036854775807∧∀ y∈a1,U8 y):F_laws_FnRoutes a0 a1=some true:=by
 unfold F_laws_FnRoutes
 cases decide (1048576<(IntKind.i64.wrap ((a0.length:Int)+(a1.length:Int)))) with
 | true=>rfl
 | false =>
  simp only [cond_false]
  obtain ⟨g,c,st,d1,b1,b2,b3⟩:=drawLeast o0
  rw [d1]; simp only [Option.bind_some]
  obtain ⟨r,ok,l1,l2,l3,_,l5⟩:=least_both g c st (by omega) (by omega) (by omega)
  rw [l1,l2]; simp only [Option.bind_some]
  obtain ⟨h,x,q,d2,c1,c2,c3,c4⟩:=drawCheckR o1
  rw [d2]; simp only [Option.bind_some]
  obtain ⟨e,at_,b,k1,k2⟩:=check_both h x q (by omega) (by omega) (by omega) (by omega)
  rw [k1,k2]
  simp only [Option.bind_some,beq_self_eq_true,bne_self_eq_false,Bool.not_true,Bool.or_self,cond_false]
  cases ok with
  | false=>rfl
  | true =>
   have hf:=l5 rfl
   obtain ⟨m1,m2,m3⟩:=least_can (by omega) (by omega) (by omega) l3
   obtain ⟨s1,s2,_,t,s3,s4⟩:=found_len hf
   have hok:=hf.1.ok
   have hq:c.Qubits≤g.Nodes:=by
    obtain ⟨fb,_,f2,f3⟩:=fits_both g c (by omega) (by omega)
    rw [m1] at f2; cases f2
    exact (f3 rfl).2
   have e1:F_impl_CheckRoute g c r=some (0,0,true):=check_ok (by omega) (by omega) hok hq (by omega) (by rw [s1]; exact hf.2.1) (by rw [s1]; exact s3) s4 m1 (by rw [s1]; exact m2)
   obtain ⟨bd,n1,n2⟩:=bound_ok hf m1 m2
   obtain ⟨gr,g1,g2,g3,t2,g4,g5⟩:=greedy_impl hf m1 m2
   have e2:F_impl_CheckRoute g c gr=some (0,0,true):=check_ok (by omega) (by omega) hok hq (by omega) (by rw [g2]; exact hf.2.1) (by rw [g2]; exact g4) g5 m1 (by rw [g2]; exact m2)
   have hle:=found_least hf g4 g5
   have nb:decide ((((swN r.Steps:Nat)):Int)<bd)=false:=decide_eq_false (by omega)
   rw [l3]
   simp only [Option.bind_some,Bool.not_true,cond_false]
   rw [e1]
   simp only [Option.bind_some]
   rw [n1,m3]
   simp only [Option.bind_some,gb,Bool.not_true,Bool.or_self,Bool.not_false,bne_self_eq_false,cond_true]
   rw [q_swaps (by omega)]
   simp only [Option.bind_some,bne_self_eq_false,Bool.or_self,nb,Bool.not_false,cond_true]
   rw [s1,q_ints (by omega)]
   simp only [Option.bind_some,Bool.not_true,Bool.or_self,cond_false]
   rw [g1]
   simp only [Option.bind_some,Bool.not_true,cond_false]
   rw [e2]
   simp only [Option.bind_some,beq_self_eq_true,Bool.and_self,gb,cond_true]
   rw [q_swaps (by omega)]
   simp only [Option.bind_some,Bool.true_and,Option.some.injEq]
   exact decide_eq_true (by omega)
end Go.VK
