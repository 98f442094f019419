/- The state of the heap as a list of objects, and the operations that make or write memory. Plain lemmas over any program. -/
import Derived.Test.YtjjhmbpannlkaaaGreatLibB
import Derived.MapKept
namespace Go.VK
open Go.RowKit

inductive Kd where
  | ty (T:TypeId)
  | mp (l:List (Value×Value))
  | ob (x:Obj)
instance (n:Nat):OfNat Kd n:=⟨.ty n⟩
instance:Coe TypeId Kd:=⟨.ty⟩
structure Ob where
  B:Option Addr
  T:Kd
  cs:List Value
  m:Nat
structure Ro where
  B:Option Addr
  cs:List Value
def Ob.blk (o:Ob):Option Nat:=o.B.map (·.block)
def MapIs (es:Array MapEntry) (ck:Nat) (l:List (Value×Value)):Prop:=es.toList.map (fun e=>(e.key,e.val))=l∧MapKept.Stamped es ck
def OwnC (w:World) (T:TypeId) (o:Ob):Prop:=∃ g cur,o.B=some ⟨g,0,none⟩∧w.heap[g]?=some (.cells cur T (0,0))∧cur.size=o.m∧o.cs <+: cur.toList
def OwnM (w:World) (l:List (Value×Value)) (o:Ob):Prop:=o.cs=[]∧o.m=0∧∃ g es ck,o.B=some ⟨g,0,none⟩∧w.heap[g]?=some (.map es ck)∧MapIs es ck l
def OwnO (w:World) (x:Obj) (o:Ob):Prop:=o.cs=[]∧o.m=0∧∃ g,o.B=some ⟨g,0,none⟩∧w.heap[g]?=some x
def Own (w:World) (o:Ob):Prop :=
  (o.B=none∧o.cs=[]∧o.m=0)∨(∃ T,o.T=.ty T∧OwnC w T o)∨(∃ l,o.T=.mp l∧OwnM w l o)∨∃ x,o.T=.ob x∧OwnO w x o
theorem Own.ty {w:World} {o:Ob} {T:TypeId} (h:Own w o) (hT:o.T=.ty T):(o.B=none∧o.cs=[]∧o.m=0)∨∃ g cur,o.B=some ⟨g,0,none⟩∧w.heap[g]?=some (.cells cur T (0,0))∧cur.size=o.m∧o.cs <+: cur.toList:=by
  rcases h with h | ⟨T',h,h'⟩ | ⟨l,h,_⟩ | ⟨l,h,_⟩
  · exact .inl h
  · rw [hT] at h; cases h; exact .inr h'
  · rw [hT] at h; cases h
  · rw [hT] at h; cases h
theorem Own.ofC {w:World} {o:Ob} {T:TypeId} (hT:o.T=.ty T) (h:OwnC w T o):Own w o:=.inr (.inl ⟨T,hT,h⟩)

structure ST (w0:World) (M:List Nat) (w:World) (L:List Ob) (R:List Ro):Prop where
  os:w.os=w0.os
  tape:w.tape=w0.tape
  output:w.output=w0.output
  size:w0.heap.size≤w.heap.size
  frame:∀ k,k<w0.heap.size→k∉M→w.heap[k]?=w0.heap[k]?
  own:∀ o∈L,Own w o
  home:∀ o∈L,∀ g,o.blk=some g→g∈M∨w0.heap.size≤g
  apart:L.Pairwise (fun x y=>∀ g,x.blk=some g→y.blk≠some g)
  ro:∀ r∈R,CF w r.B r.cs
  roblk:∀ r∈R,r.cs≠[]→∀ a,r.B=some a→a.block<w.heap.size∧∀ o∈L,o.blk≠some a.block

section
variable {P:Program} {w0 w:World} {M:List Nat} {L:List Ob} {R:List Ro}

theorem Own.cf {o:Ob} (h:Own w o):CF w o.B o.cs:=by
  rcases h with ⟨h1,h2,_⟩ | ⟨T,_,g,cur,h1,h2,_,h3⟩ | ⟨_,_,h2,_⟩ | ⟨_,_,h2,_⟩
  · rw [h2]; exact ⟨fun h=>absurd rfl h,fun j u hu=>by simp at hu⟩
  · refine ⟨fun _=>by rw [h1]; rfl,fun j u hu=>?_⟩
    rw [h1,ad_some,cell_of_row w g j cur T (0,0) h2]
    obtain ⟨t,ht⟩:=h3
    have:cur.toList[j]?=some u:=by
      rw [← ht,List.getElem?_append]
      split
      · exact hu
      · rename_i hl
        rw [List.getElem?_eq_none (by omega)] at hu; cases hu
    simpa using this
  · rw [h2]; exact ⟨fun h=>absurd rfl h,fun j u hu=>by simp at hu⟩
  · rw [h2]; exact ⟨fun h=>absurd rfl h,fun j u hu=>by simp at hu⟩
theorem Own.lt {o:Ob} (h:Own w o) {g:Nat} (hg:o.blk=some g):g<w.heap.size:=by
  rcases h with ⟨h1,_⟩ | ⟨_,_,g',cur,h1,h2,_⟩ | ⟨_,_,_,_,g',es,ck,h1,h2,_⟩ | ⟨_,_,_,_,g',h1,h2⟩
  · simp [Ob.blk,h1] at hg
  · simp [Ob.blk,h1] at hg
    subst hg
    exact (Array.getElem?_eq_some_iff.1 h2).1
  · simp [Ob.blk,h1] at hg
    subst hg
    exact (Array.getElem?_eq_some_iff.1 h2).1
  · simp [Ob.blk,h1] at hg
    subst hg
    exact (Array.getElem?_eq_some_iff.1 h2).1
theorem Own.of_block {w':World} {o:Ob} (h:Own w o) (hk:∀ g,o.blk=some g→w'.heap[g]?=w.heap[g]?):Own w' o:=by
  rcases h with h | ⟨T,hT,g,cur,h1,h2,h3⟩ | ⟨l,hT,hc,hm,g,es,ck,h1,h2,h3⟩ | ⟨x,hT,hc,hm,g,h1,h2⟩
  · exact .inl h
  · exact .inr (.inl ⟨T,hT,g,cur,h1,by rw [hk g (by simp [Ob.blk,h1])]; exact h2,h3⟩)
  · exact .inr (.inr (.inl ⟨l,hT,hc,hm,g,es,ck,h1,by rw [hk g (by simp [Ob.blk,h1])]; exact h2,h3⟩))
  · exact .inr (.inr (.inr ⟨x,hT,hc,hm,g,h1,by rw [hk g (by simp [Ob.blk,h1])]; exact h2⟩))
theorem CF.of_block {w':World} {B:Option Addr} {cs:List Value} (h:CF w B cs) (hk:cs≠[]→∀ a,B=some a→w'.heap[a.block]?=w.heap[a.block]?):CF w' B cs:=by
  refine ⟨h.1,fun j u hu=>?_⟩
  have hne:cs≠[]:=by rintro rfl; simp at hu
  obtain ⟨a,ha⟩:=Option.isSome_iff_exists.mp (h.1 hne)
  have:=h.2 j u hu
  rw [← this]
  exact World.cell?_of_block (by rw [ad_block B j ha]; exact hk hne a ha)

namespace ST
theorem cf (hS:ST w0 M w L R) {i:Nat} {B:Option Addr} {T:Kd} {cs:List Value} {m:Nat} (hi:L[i]?=some ⟨B,T,cs,m⟩):CF w B cs:=(hS.own _ (List.mem_of_getElem? hi)).cf
theorem rf (hS:ST w0 M w L R) {i:Nat} {B:Option Addr} {cs:List Value} (hi:R[i]?=some ⟨B,cs⟩):CF w B cs:=hS.ro _ (List.mem_of_getElem? hi)
theorem refl {w:World} {R:List Ro} (h:∀ r∈R,CF w r.B r.cs∧(r.cs≠[]→∀ a,r.B=some a→a.block<w.heap.size)):ST w [] w [] R :=
  ⟨rfl,rfl,rfl,Nat.le_refl _,fun _ _ _=>rfl,fun _ h=>by simp at h,fun _ h=>by simp at h,.nil,fun r hr=>(h r hr).1,fun r hr hne a ha=>⟨(h r hr).2 hne a ha,fun _ h=>by simp at h⟩⟩

theorem drew (hS:ST w0 M w L R):ST w0 M w.drew L R:=⟨hS.os,hS.tape,hS.output,hS.size,hS.frame,hS.own,hS.home,hS.apart,hS.ro,hS.roblk⟩

theorem sub (hS:ST w0 M w L R) {L':List Ob} (h:L'.Sublist L):ST w0 M w L' R :=
  ⟨hS.os,hS.tape,hS.output,hS.size,hS.frame,fun o ho=>hS.own o (h.subset ho),fun o ho=>hS.home o (h.subset ho),hS.apart.sublist h,hS.ro,fun r hr hne a ha=>⟨(hS.roblk r hr hne a ha).1,fun o ho=>(hS.roblk r hr hne a ha).2 o (h.subset ho)⟩⟩

theorem step1 (hS:ST w0 M w L R) {w':World} {i:Nat} {o o':Ob} (hi:L[i]?=some o) (h1:w'.os=w.os) (h2:w'.tape=w.tape) (h3:w'.output=w.output) (h4:w.heap.size≤w'.heap.size)
    (hfr:∀ k,k<w.heap.size→o.blk≠some k→w'.heap[k]?=w.heap[k]?) (hown:Own w' o') (hblk:∀ g,o'.blk=some g→o.blk=some g∨w.heap.size≤g):ST w0 M w' (L.set i o') R:=by
  have hil:i<L.length:=(List.getElem?_eq_some_iff.1 hi).1
  have hom:o∈L:=List.mem_of_getElem? hi
  -- another object of L
  have hoth:∀ j x,L[j]?=some x→j≠i→∀ g,x.blk=some g→o.blk≠some g:=by
    intro j x hj hne g hg ho
    have hp:=List.pairwise_iff_getElem.1 hS.apart
    have hjl:j<L.length:=(List.getElem?_eq_some_iff.1 hj).1
    have hjx:L[j]=x:=(List.getElem?_eq_some_iff.1 hj).2
    have hix:L[i]=o:=(List.getElem?_eq_some_iff.1 hi).2
    rcases Nat.lt_or_gt_of_ne hne with hlt | hlt
    · exact hp j i hjl hil hlt g (by rw [hjx]; exact hg) (by rw [hix]; exact ho)
    · exact hp i j hil hjl hlt g (by rw [hix]; exact ho) (by rw [hjx]; exact hg)
  have hmem:∀ x∈L.set i o',x=o'∨∃ j,j≠i∧L[j]?=some x:=by
    intro x hx
    obtain ⟨j,hj,hjx⟩:=List.getElem_of_mem hx
    simp only [List.length_set] at hj
    rw [List.getElem_set] at hjx
    split at hjx
    · exact .inl hjx.symm
    · rename_i hne; exact .inr ⟨j,fun e=>hne e.symm,by rw [← hjx]; exact List.getElem?_eq_getElem hj⟩
  refine ⟨h1.trans hS.os,h2.trans hS.tape,h3.trans hS.output,Nat.le_trans hS.size h4,?_,?_,?_,?_,?_,?_⟩
  · intro k hk hm
    rw [hfr k (Nat.lt_of_lt_of_le hk hS.size) (fun ho=>?_)]
    · exact hS.frame k hk hm
    · rcases hS.home o hom k ho with h | h
      · exact hm h
      · omega
  · intro x hx
    rcases hmem x hx with rfl | ⟨j,hne,hj⟩
    · exact hown
    · have hxm:=List.mem_of_getElem? hj
      exact (hS.own x hxm).of_block (fun g hg=>hfr g ((hS.own x hxm).lt hg) (hoth j x hj hne g hg))
  · intro x hx g hg
    rcases hmem x hx with rfl | ⟨j,hne,hj⟩
    · rcases hblk g hg with h | h
      · exact hS.home o hom g h
      · exact .inr (Nat.le_trans hS.size h)
    · exact hS.home x (List.mem_of_getElem? hj) g hg
  · rw [List.pairwise_iff_getElem]
    intro a b ha hb hab g hga hgb
    simp only [List.length_set] at ha hb
    rw [List.getElem_set] at hga hgb
    have hp:=List.pairwise_iff_getElem.1 hS.apart
    by_cases hia:i=a
    · have hib:¬ i=b:=by omega
      rw [if_pos hia] at hga
      rw [if_neg hib] at hgb
      rcases hblk g hga with h | h
      · exact hoth b L[b] (List.getElem?_eq_getElem hb) (fun e=>hib e.symm) g hgb h
      · have:=(hS.own L[b] (List.getElem_mem hb)).lt hgb
        omega
    · by_cases hib:i=b
      · rw [if_neg hia] at hga
        rw [if_pos hib] at hgb
        rcases hblk g hgb with h | h
        · exact hoth a L[a] (List.getElem?_eq_getElem ha) (fun e=>hia e.symm) g hga h
        · have:=(hS.own L[a] (List.getElem_mem ha)).lt hga
          omega
      · rw [if_neg hia] at hga
        rw [if_neg hib] at hgb
        exact hp a b ha hb hab g hga hgb
  · intro r hr
    refine (hS.ro r hr).of_block (fun hne a ha=>hfr a.block (hS.roblk r hr hne a ha).1 ((hS.roblk r hr hne a ha).2 o hom))
  · intro r hr hne a ha
    obtain ⟨hlt,hno⟩:=hS.roblk r hr hne a ha
    refine ⟨Nat.lt_of_lt_of_le hlt h4,fun x hx hg=>?_⟩
    rcases hmem x hx with rfl | ⟨j,hne,hj⟩
    · rcases hblk a.block hg with h | h
      · exact hno o hom h
      · omega
    · exact hno x (List.mem_of_getElem? hj) hg

theorem alloc (hS:ST w0 M w L R) (c:Array Value) (T:TypeId):ST w0 M (w.alloc (.cells c T)) (L++[⟨some ⟨w.heap.size,0,none⟩,T,c.toList,c.size⟩]) R:=by
  have hb:∀ k,k<w.heap.size→(w.alloc (.cells c T)).heap[k]?=w.heap[k]?:=fun k hk=>Below.heap_alloc w _ k hk
  refine ⟨hS.os,hS.tape,hS.output,Nat.le_trans hS.size (by simp),?_,?_,?_,?_,?_,?_⟩
  · intro k hk hm
    rw [hb k (Nat.lt_of_lt_of_le hk hS.size)]
    exact hS.frame k hk hm
  · intro x hx
    rcases List.mem_append.1 hx with hx | hx
    · exact (hS.own x hx).of_block (fun g hg=>hb g ((hS.own x hx).lt hg))
    · simp only [List.mem_singleton] at hx
      subst hx
      exact .ofC rfl ⟨w.heap.size,c,rfl,heap_alloc_new w _,rfl,List.prefix_refl _⟩
  · intro x hx g hg
    rcases List.mem_append.1 hx with hx | hx
    · exact hS.home x hx g hg
    · simp only [List.mem_singleton] at hx
      subst hx
      simp [Ob.blk] at hg
      subst hg
      exact .inr hS.size
  · rw [List.pairwise_append]
    refine ⟨hS.apart,by simp,fun x hx y hy g hg=>?_⟩
    simp only [List.mem_singleton] at hy
    subst hy
    have:=(hS.own x hx).lt hg
    simp [Ob.blk]
    omega
  · intro r hr
    exact (hS.ro r hr).of_block (fun hne a ha=>hb _ (hS.roblk r hr hne a ha).1)
  · intro r hr hne a ha
    obtain ⟨hlt,hno⟩:=hS.roblk r hr hne a ha
    refine ⟨by simp; omega,fun x hx=>?_⟩
    rcases List.mem_append.1 hx with hx | hx
    · exact hno x hx
    · simp only [List.mem_singleton] at hx
      subst hx
      simp [Ob.blk]
      omega

theorem subR (hS:ST w0 M w L R) {R':List Ro} (h:∀ r∈R',r∈R):ST w0 M w L R' :=
  ⟨hS.os,hS.tape,hS.output,hS.size,hS.frame,hS.own,hS.home,hS.apart,fun r hr=>hS.ro r (h r hr),fun r hr=>hS.roblk r (h r hr)⟩
theorem freeze (hS:ST w0 M w L R) {i:Nat} {o:Ob} (hi:L[i]?=some o):ST w0 M w (L.eraseIdx i) (⟨o.B,o.cs⟩::R):=by
  have hs:=hS.sub (List.eraseIdx_sublist L i)
  refine ⟨hs.os,hs.tape,hs.output,hs.size,hs.frame,hs.own,hs.home,hs.apart,?_,?_⟩
  · intro r hr
    rcases List.mem_cons.1 hr with rfl | hr
    · exact (hS.own o (List.mem_of_getElem? hi)).cf
    · exact hs.ro r hr
  · intro r hr hne a ha
    rcases List.mem_cons.1 hr with rfl | hr
    · have hg:o.blk=some a.block:=by simp only at ha; simp [Ob.blk,ha]
      refine ⟨(hS.own o (List.mem_of_getElem? hi)).lt hg,fun x hx hx2=>?_⟩
      obtain ⟨j,hj,hjx⟩:=List.getElem_of_mem hx
      have hil:i<L.length:=(List.getElem?_eq_some_iff.1 hi).1
      have hio:L[i]=o:=(List.getElem?_eq_some_iff.1 hi).2
      have hp:=List.pairwise_iff_getElem.1 hS.apart
      rw [List.length_eraseIdx_of_lt hil] at hj
      rw [List.getElem_eraseIdx] at hjx
      split at hjx
      · rename_i hlt
        exact hp j i (by omega) hil hlt a.block (by rw [hjx]; exact hx2) (by rw [hio]; exact hg)
      · rename_i hge
        exact hp i (j+1) hil (by omega) (by omega) a.block (by rw [hio]; exact hg) (by rw [hjx]; exact hx2)
    · exact hs.roblk r hr hne a ha
end ST

def bl (L:List Ob):List Nat:=L.filterMap Ob.blk

theorem ST.enter (hS:ST w0 M w L R) {Ms:List Ob} {Rs:List Ro} (hM:Ms.Sublist L)
    (hR:∀ r∈Rs,r∈R∨∃ o∈L,r=⟨o.B,o.cs⟩∧∀ x∈Ms,∀ g,x.blk=some g→o.blk≠some g):ST w (bl Ms) w Ms Rs:=by
  refine ⟨rfl,rfl,rfl,Nat.le_refl _,fun _ _ _=>rfl,fun o ho=>hS.own o (hM.subset ho),fun o ho g hg=>.inl ?_,hS.apart.sublist hM,?_,?_⟩
  · exact List.mem_filterMap.2 ⟨o,ho,hg⟩
  · intro r hr
    rcases hR r hr with h | ⟨o,ho,rfl,_⟩
    · exact hS.ro r h
    · exact (hS.own o ho).cf
  · intro r hr hne a ha
    rcases hR r hr with h | ⟨o,ho,rfl,hx⟩
    · exact ⟨(hS.roblk r h hne a ha).1,fun x hx=>(hS.roblk r h hne a ha).2 x (hM.subset hx)⟩
    · have hg:o.blk=some a.block:=by simp only at ha; simp [Ob.blk,ha]
      exact ⟨(hS.own o ho).lt hg,fun x hxm hxg=>hx x hxm _ hxg hg⟩

theorem ST.leave (hS:ST w0 M w L R) {w':World} {Ms L' Lc:List Ob} {Rc:List Ro} (hc:ST w (bl Ms) w' Lc Rc) (hMs:∀ x∈Ms,x∈L) (hL':L'.Sublist L)
    (hap:∀ o∈L',∀ x∈Ms,∀ g,x.blk=some g→o.blk≠some g):ST w0 M w' (L'++Lc) R:=by
  have hbl:∀ k,k∈bl Ms→∃ x∈Ms,x.blk=some k:=fun k hk=>by
    obtain ⟨x,hx,hk⟩:=List.mem_filterMap.1 hk; exact ⟨x,hx,hk⟩
  have hkeep:∀ o∈L',∀ g,o.blk=some g→w'.heap[g]?=w.heap[g]?:=by
    intro o ho g hg
    refine hc.frame g ((hS.own o (hL'.subset ho)).lt hg) (fun hm=>?_)
    obtain ⟨x,hx,hxg⟩:=hbl g hm
    exact hap o ho x hx g hxg hg
  have hnew:∀ o∈Lc,∀ g,o.blk=some g→(∃ x∈Ms,x.blk=some g)∨w.heap.size≤g:=fun o ho g hg=>(hc.home o ho g hg).imp (hbl g) id
  refine ⟨hc.os.trans hS.os,hc.tape.trans hS.tape,hc.output.trans hS.output,Nat.le_trans hS.size hc.size,?_,?_,?_,?_,?_,?_⟩
  · intro k hk hm
    rw [hc.frame k (Nat.lt_of_lt_of_le hk hS.size) (fun hb=>?_)]
    · exact hS.frame k hk hm
    · obtain ⟨x,hx,hxg⟩:=hbl k hb
      rcases hS.home x (hMs x hx) k hxg with h | h
      · exact hm h
      · omega
  · intro o ho
    rcases List.mem_append.1 ho with ho | ho
    · exact (hS.own o (hL'.subset ho)).of_block (hkeep o ho)
    · exact hc.own o ho
  · intro o ho g hg
    rcases List.mem_append.1 ho with ho | ho
    · exact hS.home o (hL'.subset ho) g hg
    · rcases hnew o ho g hg with ⟨x,hx,hxg⟩ | h
      · exact hS.home x (hMs x hx) g hxg
      · exact .inr (Nat.le_trans hS.size h)
  · rw [List.pairwise_append]
    refine ⟨hS.apart.sublist hL',hc.apart,fun x hx y hy g hg hyg=>?_⟩
    rcases hnew y hy g hyg with ⟨z,hz,hzg⟩ | h
    · exact hap x hx z hz g hzg hg
    · have:=(hS.own x (hL'.subset hx)).lt hg
      omega
  · intro r hr
    refine (hS.ro r hr).of_block (fun hne a ha=>hc.frame _ (hS.roblk r hr hne a ha).1 (fun hb=>?_))
    obtain ⟨x,hx,hxg⟩:=hbl _ hb
    exact (hS.roblk r hr hne a ha).2 x (hMs x hx) hxg
  · intro r hr hne a ha
    obtain ⟨hlt,hno⟩:=hS.roblk r hr hne a ha
    refine ⟨Nat.lt_of_lt_of_le hlt hc.size,fun o ho hg=>?_⟩
    rcases List.mem_append.1 ho with ho | ho
    · exact hno o (hL'.subset ho) hg
    · rcases hnew o ho _ hg with ⟨x,hx,hxg⟩ | h
      · exact hno x (hMs x hx) hxg
      · omega
theorem ST.leave0 (hS:ST w0 M w L R) {w':World} {Lc:List Ob} {Rc:List Ro} (hc:ST w [] w' Lc Rc):ST w0 M w' (L++Lc) R :=
  hS.leave (Ms:=[]) hc (fun _ h=>by cases h) (List.Sublist.refl _) (fun _ _ _ h=>by cases h)
theorem ST.apart_at (hS:ST w0 M w L R) {i j:Nat} {x y:Ob} (hi:L[i]?=some x) (hj:L[j]?=some y) (hne:Nat.beq i j=false):∀ g,x.blk=some g→y.blk≠some g:=by
  have hne:i≠j:=by rintro rfl; simp at hne
  intro g hx hy
  have hp:=List.pairwise_iff_getElem.1 hS.apart
  have hil:i<L.length:=(List.getElem?_eq_some_iff.1 hi).1
  have hjl:j<L.length:=(List.getElem?_eq_some_iff.1 hj).1
  have hix:L[i]=x:=(List.getElem?_eq_some_iff.1 hi).2
  have hjx:L[j]=y:=(List.getElem?_eq_some_iff.1 hj).2
  rcases Nat.lt_or_gt_of_ne hne with hlt | hlt
  · exact hp i j hil hjl hlt g (by rw [hix]; exact hx) (by rw [hjx]; exact hy)
  · exact hp j i hjl hil hlt g (by rw [hjx]; exact hy) (by rw [hix]; exact hx)
end
end Go.VK
