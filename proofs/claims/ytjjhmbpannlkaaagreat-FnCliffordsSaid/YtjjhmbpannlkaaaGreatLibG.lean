/- Reading a list at a number, guarded words, into a callee and back. Plain lemmas. -/
import Derived.Test.YtjjhmbpannlkaaaGreatLibF
namespace Go.VK
open Go.RowKit

def getI {α:Type} (l:List α) (i:Int):Option α:=if 0≤i then l[i.toNat]? else none
theorem pr2 {α β:Type} {a x:α} {b y:β} (h:(a,b)=(x,y)):a=x∧b=y:=by cases h; exact ⟨rfl,rfl⟩
theorem pr3 {α β γ:Type} {a x:α} {b y:β} {c z:γ} (h:(a,b,c)=(x,y,z)):a=x∧b=y∧c=z:=by cases h; exact ⟨rfl,rfl,rfl⟩
theorem pr4 {α β γ δ:Type} {a x:α} {b y:β} {c z:γ} {d u:δ} (h:(a,b,c,d)=(x,y,z,u)):a=x∧b=y∧c=z∧d=u:=by cases h; exact ⟨rfl,rfl,rfl,rfl⟩
def gb {α:Type} (b:Bool) (d:α) (x:Option α):Option α:=bif b then x else some d
section
variable {α:Type} {l:List α} {i:Int} {x:α}
theorem getI_nn (h:getI l i=some x):0≤i:=by
  unfold getI at h; split at h
  · assumption
  · cases h
theorem getI_some (h:getI l i=some x):l[i.toNat]?=some x:=by
  unfold getI at h; split at h
  · exact h
  · cases h
theorem getI_lt (h:getI l i=some x):i.toNat<l.length:=(List.getElem?_eq_some_iff.1 (getI_some h)).1
theorem getI_ltI {n:Nat} (h:getI l i=some x) (hl:l.length=n):i<(n:Int):=by
  have h0:=getI_nn h; have h1:=getI_lt h; omega
theorem gb_inv {b:Bool} {d:α} {o:Option α} {r:α} (h:gb b d o=some r) (hb:b=true):o=some r:=by subst hb; exact h
theorem not_true {b:Bool} (h:b=false):(!b)=true:=by rw [h]; rfl
variable {enc:α→List Value} {s:Nat}
theorem gi_seg (hs:∀ x,(enc x).length=s) (h:getI l i=some x):((l.flatMap enc).drop (i.toNat*s)).take s=enc x:=by
  rw [fm_seg hs (getI_lt h) x]
  have:=getI_some h
  simp [List.getD,this]
theorem gi_at (hs:∀ x,(enc x).length=s) (h:getI l i=some x) {j:Nat} {v:Value} (hv:(enc x)[j]?=some v):(l.flatMap enc)[i.toNat*s+j]?=some v:=by
  refine fm_at hs (getI_lt h) x ?_
  have:=getI_some h
  simp only [List.getD,this,Option.getD_some]; exact hv
theorem gi_at0 (hs:∀ x,(enc x).length=s) (h:getI l i=some x) {v:Value} (hv:(enc x)[0]?=some v):(l.flatMap enc)[i.toNat*s]?=some v:=gi_at (j:=0) hs h hv
theorem gi_segf (hs:∀ x,(enc x).length=s) (h:getI l i=some x) {j s2:Nat} {vs:List Value} (hv:((enc x).drop j).take s2=vs) (hj:j+s2≤s):((l.flatMap enc).drop (i.toNat*s+j)).take s2=vs:=by
  rw [← hv,← gi_seg hs h,List.drop_take,List.take_take,List.drop_drop]
  congr 1; omega
theorem gi_set (hs:∀ x,(enc x).length=s) (h:getI l i=some x) (y:α) {vs:List Value} (hv:vs=enc y):splice (l.flatMap enc) (i.toNat*s) vs=(l.set i.toNat y).flatMap enc:=by
  rw [hv]; exact fm_set hs (getI_lt h) y
theorem gi_setf (hs:∀ x,(enc x).length=s) (h:getI l i=some x) (y:α) {j:Nat} {vs:List Value} (hx:splice (enc x) j vs=enc y) (hj:j+vs.length≤s) :
    splice (l.flatMap enc) (i.toNat*s+j) vs=(l.set i.toNat y).flatMap enc:=by
  refine fm_setf hs (getI_lt h) x y ?_ hj
  have:=getI_some h
  simp only [List.getD,this,Option.getD_some]; exact hx
theorem gi_fit (hs:∀ x,(enc x).length=s) (h:getI l i=some x) {j k:Nat} (hj:j+k≤s):i.toNat*s+j+k≤(l.flatMap enc).length:=by
  rw [fm_len hs]
  have:(i.toNat+1)*s≤l.length*s:=Nat.mul_le_mul_right _ (getI_lt h)
  rw [Nat.add_mul] at this; omega
theorem gi_fit0 (hs:∀ x,(enc x).length=s) (h:getI l i=some x):i.toNat*s+s≤(l.flatMap enc).length:=by
  have:=gi_fit (j:=0) (k:=s) hs h (by omega); omega
theorem gi_isSome {w:World} {B:Option Addr} (hs:∀ x,(enc x).length=s) (hs0:Nat.blt 0 s=true) (hc:CF w B (l.flatMap enc)) (h:getI l i=some x):B.isSome=true:=fm_isSome hs hs0 hc (getI_lt h)
theorem set_len (l:List α) (k:Nat) (y:α) {n:Nat} (h:l.length=n):(l.set k y).length=n:=by simpa using h
end
theorem wr_succ {i n:Nat} (h:i<n) (hn:n≤9223372036854775807):IntKind.i64.wrap ((i:Int)+1)=((i+1:Nat):Int):=by
  rw [IntKind.wrap_i64]
  omega

def msk (mask:List Bool) (L:List Ob):List Ob:=match mask,L with
  | true::m,o::r=>o::msk m r
  | false::m,_::r=>msk m r
  | _,_=>[]
def nmsk (mask:List Bool) (L:List Ob):List Ob:=match mask,L with
  | true::m,_::r=>nmsk m r
  | false::m,o::r=>o::nmsk m r
  | _,_=>[]
theorem mk_sub:∀ (mask:List Bool) (L:List Ob),(msk mask L).Sublist L
  | [],[]=>.slnil
  | [],_::_=>by simp [msk]
  | true::m,[]=>by simp [msk]
  | false::m,[]=>by simp [msk]
  | true::m,o::r=>(mk_sub m r).cons_cons o
  | false::m,o::r=>(mk_sub m r).cons o
theorem nmk_sub:∀ (mask:List Bool) (L:List Ob),(nmsk mask L).Sublist L
  | [],[]=>.slnil
  | [],_::_=>by simp [nmsk]
  | true::m,[]=>by simp [nmsk]
  | false::m,[]=>by simp [nmsk]
  | true::m,o::r=>(nmk_sub m r).cons o
  | false::m,o::r=>(nmk_sub m r).cons_cons o
theorem mk_apart:∀ (mask:List Bool) (L:List Ob),L.Pairwise (fun x y=>∀ g,x.blk=some g→y.blk≠some g)→∀ o∈nmsk mask L,∀ x∈msk mask L,∀ g,x.blk=some g→o.blk≠some g
  | [],[],_,o,ho,_,_,_,_=>by simp [nmsk] at ho
  | [],_::_,_,o,ho,_,_,_,_=>by simp [nmsk] at ho
  | true::m,[],_,o,ho,_,_,_,_=>by simp [nmsk] at ho
  | false::m,[],_,o,ho,_,_,_,_=>by simp [nmsk] at ho
  | true::m,a::r,h,o,ho,x,hx,g,hg=>by
    rcases List.mem_cons.1 hx with rfl | hx
    · exact (List.pairwise_cons.1 h).1 o ((nmk_sub m r).subset ho) g hg
    · exact mk_apart m r (List.pairwise_cons.1 h).2 o ho x hx g hg
  | false::m,a::r,h,o,ho,x,hx,g,hg=>by
    rcases List.mem_cons.1 ho with rfl | ho
    · intro hog
      exact (List.pairwise_cons.1 h).1 x ((mk_sub m r).subset hx) g hog hg
    · exact mk_apart m r (List.pairwise_cons.1 h).2 o ho x hx g hg
section
variable {w0 w:World} {M:List Nat} {L:List Ob} {R:List Ro}
def src (L:List Ob) (R:List Ro):Bool×Nat→Option Ro
  | (true,i)=>R[i]?
  | (false,i)=>(L[i]?).map fun o=>⟨o.B,o.cs⟩
theorem ST.inn0 (hS:ST w0 M w L R) (srcs:List (Bool×Nat)) {Rs:List Ro} (hR:srcs.map (src L R)=Rs.map some):ST w [] w [] Rs:=by
  refine hS.enter (Ms:=[]) (by simp) (fun r hr=>?_)
  have:some r∈srcs.map (src L R):=by rw [hR]; exact List.mem_map_of_mem hr
  obtain ⟨⟨b,i⟩,_,hsi⟩:=List.mem_map.1 this
  cases b with
  | true=>exact .inl (List.mem_of_getElem? hsi)
  | false =>
    simp only [src,Option.map_eq_some_iff] at hsi
    obtain ⟨o,ho,rfl⟩:=hsi
    exact .inr ⟨o,List.mem_of_getElem? ho,rfl,fun _ h=>by cases h⟩
theorem ST.inn (hS:ST w0 M w L R) (mask:List Bool) {Ms:List Ob} (hM:msk mask L=Ms) (srcs:List (Bool×Nat)) {Rs:List Ro} (hR:srcs.map (src (nmsk mask L) R)=Rs.map some):ST w (bl Ms) w Ms Rs:=by
  subst hM
  refine hS.enter (mk_sub mask L) (fun r hr=>?_)
  have:some r∈srcs.map (src (nmsk mask L) R):=by rw [hR]; exact List.mem_map_of_mem hr
  obtain ⟨⟨b,i⟩,_,hsi⟩:=List.mem_map.1 this
  cases b with
  | true=>exact .inl (List.mem_of_getElem? hsi)
  | false =>
    simp only [src,Option.map_eq_some_iff] at hsi
    obtain ⟨o,ho,rfl⟩:=hsi
    have hom:=List.mem_of_getElem? ho
    exact .inr ⟨o,(nmk_sub mask L).subset hom,rfl,fun x hx g hg=>mk_apart mask L hS.apart o hom x hx g hg⟩
theorem ST.out0 (hS:ST w0 M w L R) {w':World} {Lc:List Ob} {Rc:List Ro} (hc:ST w [] w' Lc Rc):ST w0 M w' (L++Lc) R:=hS.leave0 hc
theorem ST.out00 (hS:ST w0 M w L R) {w':World} {Rc:List Ro} (hc:ST w [] w' [] Rc):ST w0 M w' L R:=by
  have:=hS.leave0 hc; rwa [List.append_nil] at this
theorem ST.out (hS:ST w0 M w L R) (mask:List Bool) {Ms:List Ob} (hM:msk mask L=Ms) {w':World} {Lc:List Ob} {Rc:List Ro} (hc:ST w (bl Ms) w' Lc Rc):ST w0 M w' (nmsk mask L++Lc) R:=by
  subst hM
  exact hS.leave hc (fun x hx=>(mk_sub mask L).subset hx) (nmk_sub mask L) (mk_apart mask L hS.apart)
theorem ST.pick (hS:ST w0 M w L R) (is:List Nat) {L':List Ob} (hn:decide is.Nodup=true) (hL:is.map (fun i=>L[i]?)=L'.map some):ST w0 M w L' R:=by
  have hn':is.Nodup:=of_decide_eq_true hn
  have hlen:is.length=L'.length:=by have:=congrArg List.length hL; simpa using this
  have hget:∀ k (hk:k<L'.length),L[is[k]'(by omega)]?=some (L'[k]):=by
    intro k hk
    have h:=congrArg (fun l=>l[k]?) hL
    have hk2:k<is.length:=by omega
    simp [hk,hk2] at h
    exact h
  have hmem:∀ o∈L',o∈L:=by
    intro o ho
    obtain ⟨k,hk,rfl⟩:=List.getElem_of_mem ho
    exact List.mem_of_getElem? (hget k hk)
  refine ⟨hS.os,hS.tape,hS.output,hS.size,hS.frame,fun o ho=>hS.own o (hmem o ho),fun o ho=>hS.home o (hmem o ho),?_,hS.ro,fun r hr hne a ha=>⟨(hS.roblk r hr hne a ha).1,fun o ho=>(hS.roblk r hr hne a ha).2 o (hmem o ho)⟩⟩
  rw [List.pairwise_iff_getElem]
  intro a b ha hb hab
  have hne:is[a]'(by omega)≠is[b]'(by omega):=fun e=>by
    have:=(List.getElem_inj (h₀:=by omega) (h₁:=by omega) hn').1 e
    omega
  refine hS.apart_at (hget a ha) (hget b hb) ?_
  cases hh:Nat.beq (is[a]'(by omega)) (is[b]'(by omega)) with
  | false=>rfl
  | true=>exact absurd (Nat.eq_of_beq_eq_true hh) hne
theorem ST.addNil (hS:ST w0 M w L R) (T:TypeId):ST w0 M w (L++[⟨none,T,[],0⟩]) R:=by
  refine ⟨hS.os,hS.tape,hS.output,hS.size,hS.frame,?_,?_,?_,hS.ro,?_⟩
  · intro o ho
    rcases List.mem_append.1 ho with h | h
    · exact hS.own o h
    · simp only [List.mem_singleton] at h; subst h; exact .inl ⟨rfl,rfl,rfl⟩
  · intro o ho g hg
    rcases List.mem_append.1 ho with h | h
    · exact hS.home o h g hg
    · simp only [List.mem_singleton] at h; subst h; simp [Ob.blk] at hg
  · rw [List.pairwise_append]
    refine ⟨hS.apart,by simp,fun x _ y hy g _=>?_⟩
    simp only [List.mem_singleton] at hy; subst hy; simp [Ob.blk]
  · intro r hr hne a ha
    refine ⟨(hS.roblk r hr hne a ha).1,fun o ho=>?_⟩
    rcases List.mem_append.1 ho with h | h
    · exact (hS.roblk r hr hne a ha).2 o h
    · simp only [List.mem_singleton] at h; subst h; simp [Ob.blk]
end
end Go.VK
namespace Go.VK
open Go.RowKit
section
variable {P:Program} {w0 w:World} {M:List Nat} {L:List Ob} {R:List Ro} {f:Nat→Value} {n:Nat}
def ST.fn (_:ST w0 M w L R):World→Prop:=fun w'=>ST w0 M w' L R
theorem ST.sel (hS:ST w0 M w L R) (is:List Nat) (hn:decide is.Nodup=true) (hb:is.all (fun i=>(L[i]?).isSome)=true):ST w0 M w (is.filterMap fun i=>L[i]?) R:=by
  refine hS.pick is hn ?_
  clear hn
  induction is with
  | nil=>rfl
  | cons i is ih =>
    simp only [List.all_cons,Bool.and_eq_true] at hb
    obtain ⟨o,ho⟩:=Option.isSome_iff_exists.mp hb.1
    simp only [List.map_cons,ho,List.filterMap_cons,List.cons.injEq,true_and]
    exact ih hb.2
theorem resAt_tmp {t:Nat} {v:Value} (h:ev n f (.tmp t)=v):resAt P f n w (.tmp t) v:=h
theorem resAt_cellA {t T i s:Nat} {B:Option Addr} {cs vs:List Value} (hp:ev n f (.tmp t)=pt B i) (hT:aggB P T=true) (hs:sizeB P T s=true) (hc:CF w B cs) (hl:vs.length=s) (hk:(cs.drop i).take s=vs) :
    resAt P f n w (.cell t T) (.agg vs.toArray):=⟨ad B i,hp,run_loadVar_agg hT hs hc hl hk⟩
end
end Go.VK
namespace Go.VK
theorem cw_mid {P:Program} {n:Nat} {c:Code} {N R:FW} {E:List (Nat×FW)} {f:Nat→Value} {w:World} (M:FW) (h1:CW P n c M R E f w) (h2:∀ f w,M f w→N f w):CW P n c N R E f w :=
  cw_mono h1 h2 (fun _ _ h=>h) (fun _ M h=>⟨M,h,fun _ _ h=>h⟩)
end Go.VK
namespace Go.VK
open Go.RowKit
theorem getI_set {α:Type} {l:List α} {i:Int} {x y:α} (h:getI l i=some x):getI (l.set i.toNat y) i=some y:=by
  unfold getI
  rw [if_pos (getI_nn h)]
  have:=getI_lt h
  simp [this]
section
variable {P:Program} {n:Nat} {f:Nat→Value} {w0 w:World} {M:List Nat} {L:List Ob} {R:List Ro} {o:Oper} {T e:TypeId}
theorem Ys_bslice0 {s:Nat} (hS:ST w0 M w L R) (hT:sliceB P T e=true) (hs:sizeB P e s=true) (ho:o.op=.buildSlice T 0 #[]):Ys P n f w o (MadeAt w0 M L R e [] 0 0 0):=by
  have ht:=sliceB_spec hT
  refine ⟨.slice (some ⟨w.heap.size,0,none⟩) 0 0,w.alloc (.cells #[] e),.inl ?_,⟨w.heap.size,rfl,?_⟩⟩
  · unfold execOp; rw [ho]
    have e0:(Array.range 0).map (fun _:Nat=>(default:Value))=#[]:=by apply Array.ext' ; simp
    simp [Instr.buildSlice,run_underlying ht,run_sizeOf hs,Instr.fill,newRow]
    rw [e0]
  · exact hS.alloc #[] e
end
end Go.VK
namespace Go.VK
theorem ST.innS {w0 w:World} {M:List Nat} {L:List Ob} {R R':List Ro} (hS:ST w0 M w L R) (h:∀ r∈R',r∈R):ST w [] w [] R' :=
  ST.enter (hS.subR h) (Ms:=[]) (by simp) (fun r hr=>.inl hr)
end Go.VK
namespace Go.VK
theorem subc {α:Type} {x:α} {l R:List α} (h:x∈R) (h':∀ r∈l,r∈R):∀ r∈x::l,r∈R:=by
  intro r hr
  rcases List.mem_cons.mp hr with rfl | hr
  · exact h
  · exact h' r hr
theorem mem_at {α:Type} {l:List α} {i:Nat} {x:α} (h:l[i]?=some x):x∈l:=List.mem_of_getElem? h
theorem allR_nil {P:Program} {n:Nat} {ops:Array Oper} {N:FW} {S:World→Prop} {fuel:Nat} {listed:Array Bool} {f:Nat→Value} {w:World}:AllR P n ops N S fuel listed f w []:=trivial
def I64 (a:Int):Prop:=-9223372036854775808≤a∧a≤9223372036854775807
end Go.VK
