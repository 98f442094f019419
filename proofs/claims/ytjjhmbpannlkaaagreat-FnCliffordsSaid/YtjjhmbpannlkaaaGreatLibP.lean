/- Where what may be read comes from; slices of slices. Plain lemmas over any program. -/
import Derived.Test.YtjjhmbpannlkaaaGreatLibN
namespace Go.VK
open Go.RowKit

def Org (w0:World) (M:List Nat) (R0 rows:List Ro):Prop :=
  ∀ r∈rows,r.cs≠[]→∀ a,r.B=some a→a.block∈M∨w0.heap.size≤a.block∨∃ q∈R0,q.cs≠[]∧∃ b,q.B=some b∧b.block=a.block
section
variable {w0 w w':World} {M:List Nat} {L:List Ob} {R R0 rows rows' Rs Rc:List Ro}
theorem org_nil:Org w0 M R0 []:=fun _ h=>by cases h
theorem org_cons {r:Ro} (h:Org w0 M R0 [r]) (h':Org w0 M R0 rows):Org w0 M R0 (r::rows):=fun x hx=>by
  rcases List.mem_cons.1 hx with rfl | hx
  · exact h _ (List.mem_singleton.2 rfl)
  · exact h' x hx
theorem org_app (h:Org w0 M R0 rows) (h':Org w0 M R0 rows'):Org w0 M R0 (rows++rows'):=fun x hx=>by
  rcases List.mem_append.1 hx with hx | hx
  · exact h x hx
  · exact h' x hx
theorem org_sub (h:Org w0 M R0 rows) (hs:∀ r∈rows',r∈rows):Org w0 M R0 rows':=fun x hx=>h x (hs x hx)
theorem org_mem {i:Nat} {r:Ro} (h:R0[i]?=some r):Org w0 M R0 [r]:=fun x hx hne a ha=>by
  rw [List.mem_singleton] at hx; subst hx
  exact .inr (.inr ⟨x,List.mem_of_getElem? h,hne,a,ha,rfl⟩)
theorem org_none {B:Option Addr}:Org w0 M R0 [⟨B,[]⟩]:=fun x hx hne=>by
  rw [List.mem_singleton] at hx; subst hx; exact absurd rfl hne
theorem org_view {α:Type} {enc:α→List Value} {s:Nat} (hs:∀ x,(enc x).length=s) {B:Option Addr} {l:List α} (h:Org w0 M R0 [⟨B,l.flatMap enc⟩]) {lo hi q:Nat} {B':Option Addr} (hB:B'=sv B lo q s) {c:List α} (hc:c=(l.take hi).drop lo):Org w0 M R0 [⟨B',c.flatMap enc⟩]:=fun x hx hne a ha=>by
  rw [List.mem_singleton] at hx; subst hx hB hc
  obtain ⟨a0,e1,e2⟩:=sv_block ha
  have hn:l.flatMap enc≠[]:=fun e=>hne (by
    show ((l.take hi).drop lo).flatMap enc=[]
    rw [fm_view hs,e]; simp)
  have:=h _ (List.mem_singleton.2 rfl) hn a0 e1
  rw [e2] at this
  exact this
theorem ST.orgOwn (hS:ST w0 M w L R) {i:Nat} {B:Option Addr} {T:TypeId} {cs:List Value} {m:Nat} (hi:L[i]?=some ⟨B,T,cs,m⟩):Org w0 M R0 [⟨B,cs⟩]:=fun x hx hne a ha=>by
  rw [List.mem_singleton] at hx; subst hx
  have:=hS.home _ (List.mem_of_getElem? hi) a.block (by simp only at ha; simp [Ob.blk,ha])
  rcases this with h | h
  · exact .inl h
  · exact .inr (.inl h)
theorem org_trans (hS:ST w0 M w L R) {Ms:List Ob} (hM:∀ x∈Ms,x∈L) (h:Org w (bl Ms) Rs rows) (hR:Org w0 M R0 Rs):Org w0 M R0 rows:=fun x hx hne a ha=>by
  rcases h x hx hne a ha with h1 | h1 | ⟨q,hq,hqn,b,hb,hab⟩
  · obtain ⟨o,ho,hg⟩:=List.mem_filterMap.1 h1
    rcases hS.home o (hM o ho) a.block hg with h | h
    · exact .inl h
    · exact .inr (.inl h)
  · exact .inr (.inl (Nat.le_trans hS.size h1))
  · have:=hR q hq hqn b hb
    rw [hab] at this
    exact this
theorem org_trans0 (hS:ST w0 M w L R) (h:Org w [] Rs rows) (hR:Org w0 M R0 Rs):Org w0 M R0 rows:=org_trans (Ms:=[]) hS (fun _ h=>by cases h) h hR
theorem len_le {α:Type} {l:List α} {n c:Nat} (h:l.length=n) (h':n≤c):l.length≤c:=by omega
theorem msk_mem {mask:List Bool} {Ms:List Ob} (hM:msk mask L=Ms):∀ x∈Ms,x∈L:=fun x hx=>by
  subst hM; exact (mk_sub mask L).subset hx
theorem ST.addR (hS:ST w0 M w L R) {L' Lc:List Ob} {Ms:List Ob} (hL':∀ o∈L',o∈L) (hc:ST w (bl Ms) w' Lc Rc) (hap:∀ o∈L',∀ x∈Ms,∀ g,x.blk=some g→o.blk≠some g) (ho:Org w (bl Ms) Rs Rc) (hs:∀ r∈Rs,r∈R) (h2:ST w0 M w' (L'++Lc) R):ST w0 M w' (L'++Lc) (Rc++R):=by
  refine ⟨h2.os,h2.tape,h2.output,h2.size,h2.frame,h2.own,h2.home,h2.apart,?_,?_⟩
  · intro r hr
    rcases List.mem_append.1 hr with hr | hr
    · exact hc.ro r hr
    · exact h2.ro r hr
  · intro r hr hne a ha
    rcases List.mem_append.1 hr with hr | hr
    · obtain ⟨h3,h4⟩:=hc.roblk r hr hne a ha
      refine ⟨h3,fun o hoo hg=>?_⟩
      rcases List.mem_append.1 hoo with hoo | hoo
      · rcases ho r hr hne a ha with h5 | h5 | ⟨q,hq,hqn,b,hb,hab⟩
        · obtain ⟨x,hx,hxg⟩:=List.mem_filterMap.1 h5
          exact hap o hoo x hx _ hxg hg
        · have:=(hS.own o (hL' o hoo)).lt hg
          omega
        · have:=(hS.roblk q (hs q hq) hqn b hb).2 o (hL' o hoo)
          rw [hab] at this
          exact this hg
      · exact h4 o hoo hg
    · exact h2.roblk r hr hne a ha
theorem ST.outR (hS:ST w0 M w L R) (mask:List Bool) {Ms:List Ob} (hM:msk mask L=Ms) {Lc:List Ob} (hc:ST w (bl Ms) w' Lc Rc) (ho:Org w (bl Ms) Rs Rc) (hs:∀ r∈Rs,r∈R):ST w0 M w' (nmsk mask L++Lc) (Rc++R) :=
  hS.addR (fun o h=>(nmk_sub mask L).subset h) hc (by subst hM; exact mk_apart mask L hS.apart) ho hs (hS.out mask hM hc)
theorem ST.outR0 (hS:ST w0 M w L R) {Lc:List Ob} (hc:ST w [] w' Lc Rc) (ho:Org w [] Rs Rc) (hs:∀ r∈Rs,r∈R):ST w0 M w' (L++Lc) (Rc++R) :=
  hS.addR (Ms:=[]) (fun _ h=>h) hc (fun _ _ _ h=>by cases h) ho hs (hS.out0 hc)
theorem ST.outR00 (hS:ST w0 M w L R) (hc:ST w [] w' [] Rc) (ho:Org w [] Rs Rc) (hs:∀ r∈Rs,r∈R):ST w0 M w' L (Rc++R):=by
  have:=hS.outR0 hc ho hs
  rwa [List.append_nil] at this
theorem ST.nilRo (hS:ST w0 M w L R):ST w0 M w L (⟨none,[]⟩::R):=by
  refine ⟨hS.os,hS.tape,hS.output,hS.size,hS.frame,hS.own,hS.home,hS.apart,?_,?_⟩
  · intro r hr
    rcases List.mem_cons.1 hr with rfl | hr
    · exact ⟨fun h=>absurd rfl h,fun j u hu=>by simp at hu⟩
    · exact hS.ro r hr
  · intro r hr hne a ha
    rcases List.mem_cons.1 hr with rfl | hr
    · exact absurd rfl hne
    · exact hS.roblk r hr hne a ha
theorem app_mem {α:Type} {G R:List α} {r:α} (h:∀ r∈G,r∈R) (h':r∈G):r∈R:=h r h'
theorem suba {α:Type} {G l R:List α} (h:∀ r∈G,r∈R) (h':∀ r∈l,r∈R):∀ r∈G++l,r∈R:=fun r hr=>by
  rcases List.mem_append.1 hr with hr | hr
  · exact h r hr
  · exact h' r hr
theorem ST.innR0 (hS:ST w0 M w L R) (hR:∀ r∈Rs,r∈R∨∃ o∈L,r=⟨o.B,o.cs⟩):ST w [] w [] Rs:=by
  have:=hS.enter (Ms:=[]) (Rs:=Rs) (List.nil_sublist L) (fun r hr=>by
    rcases hR r hr with h | ⟨o,ho,rfl⟩
    · exact .inl h
    · exact .inr ⟨o,ho,rfl,fun x hx=>by cases hx⟩)
  exact this
theorem srcO {B:Option Addr} {T:TypeId} {cs:List Value} {m i:Nat} {l:List Ro} {N:List Ob} (h:N[i]?=some ⟨B,T,cs,m⟩) (h':∀ x∈l,x∈R∨∃ o∈N,x=⟨o.B,o.cs⟩):∀ x∈(⟨B,cs⟩::l:List Ro),x∈R∨∃ o∈N,x=⟨o.B,o.cs⟩:=fun x hx=>by
  rcases List.mem_cons.1 hx with rfl | hx
  · exact .inr ⟨_,List.mem_of_getElem? h,rfl⟩
  · exact h' x hx
theorem srcG {G l:List Ro} {p:Ro→Prop} (h:∀ r∈G,r∈R) (h':∀ x∈l,x∈R∨p x):∀ x∈G++l,x∈R∨p x:=fun x hx=>by
  rcases List.mem_append.1 hx with hx | hx
  · exact .inl (h x hx)
  · exact h' x hx
end
abbrev Hd:=Option Addr×Nat
section
variable {η α:Type} {w0:World} {M:List Nat} {R R0:List Ro} {rw_:η×α→List Ro}
theorem dl_len {D:List (η×α)} {l:List α} (h:D.map Prod.snd=l):D.length=l.length:=by rw [← h,List.length_map]
theorem dl_app {D D':List (η×α)} {l l':List α} (h:D.map Prod.snd=l) (h':D'.map Prod.snd=l'):(D++D').map Prod.snd=l++l':=by rw [List.map_append,h,h']
theorem dl_sum {D D':List (η×α)} {l:List α} {a b:Nat} (h:D.length=a) (h':D'.length=b) (hf:(D++D').map Prod.snd=l):a+b=l.length:=by rw [← hf,List.length_map,List.length_append,h,h']
theorem dl_fl {D:List (η×α)} {l:List α} {n:Nat} (hf:D.map Prod.snd=l) (h:D.length=n):l.length=n:=by rw [← hf,List.length_map,h]
theorem getI_snd {D:List (η×α)} {l:List α} (h:D.map Prod.snd=l) {i:Int} {x:α} (hx:getI l i=some x):∃ hd:η,getI D i=some (hd,x):=by
  subst h
  unfold getI at hx ⊢
  split at hx
  · rename_i h0
    rw [if_pos h0]
    rw [List.getElem?_map] at hx
    cases hd:D[i.toNat]? with
    | none=>rw [hd] at hx; cases hx
    | some p =>
      rw [hd] at hx
      simp only [Option.map_some,Option.some.injEq] at hx
      exact ⟨p.1,by rw [← hx]⟩
  · cases hx
theorem row_mem {D:List (η×α)} {i:Int} {p:η×α} (h:getI D i=some p):∀ r∈rw_ p,r∈D.flatMap rw_:=fun r hr=>by
  have:=List.mem_of_getElem? (getI_some h)
  exact List.mem_flatMap.2 ⟨p,this,hr⟩
theorem fsub_cons {p:η×α} {D:List (η×α)} (h:∀ r∈rw_ p,r∈R) (h':∀ r∈D.flatMap rw_,r∈R):∀ r∈(p::D).flatMap rw_,r∈R:=fun r hr=>by
  obtain ⟨q,hq,hr2⟩:=List.mem_flatMap.1 hr
  rcases List.mem_cons.1 hq with e | hq
  · rw [e] at hr2; exact h r hr2
  · exact h' r (List.mem_flatMap.2 ⟨q,hq,hr2⟩)
theorem fsub_nil:∀ r∈([]:List (η×α)).flatMap rw_,r∈R:=fun r hr=>by simp at hr
theorem fsub_app {D D':List (η×α)} (h:∀ r∈D.flatMap rw_,r∈R) (h':∀ r∈D'.flatMap rw_,r∈R):∀ r∈(D++D').flatMap rw_,r∈R:=fun r hr=>by
  rw [List.flatMap_append] at hr
  rcases List.mem_append.1 hr with hr | hr
  · exact h r hr
  · exact h' r hr
theorem forg_cons {p:η×α} {D:List (η×α)} (h:Org w0 M R0 (rw_ p)) (h':Org w0 M R0 (D.flatMap rw_)):Org w0 M R0 ((p::D).flatMap rw_):=by
  rw [List.flatMap_cons]; exact org_app h h'
theorem forg_nil:Org w0 M R0 (([]:List (η×α)).flatMap rw_):=fun r hr=>by simp at hr
theorem forg_app {D D':List (η×α)} (h:Org w0 M R0 (D.flatMap rw_)) (h':Org w0 M R0 (D'.flatMap rw_)):Org w0 M R0 ((D++D').flatMap rw_):=by
  rw [List.flatMap_append]; exact org_app h h'
end
end Go.VK
