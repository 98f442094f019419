/- Maps that are objects of ours: made, written, asked, struck from. Plain lemmas over any program. -/
import Derived.Test.YtjjhmbpannlkaaaGreatLibJ
namespace Go.VK
open Go.RowKit

structure KeyE (P:Program) (kt:TypeId) {α:Type} (kE:α→Value):Prop where
  inj:∀ a b,kE a=kE b→a=b
  check:∀ (w:World) em a,(Instr.checkKey em 10000 kt (kE a)).run P w=.ok () w
  find:∀ (w:World) a (es:List MapEntry),(∀ e∈es,∃ x,e.key=kE x) →
    ((Instr.findKey kt (kE a) es).run P w=.ok none w∧∀ e∈es,e.key≠kE a)∨∃ j e,(Instr.findKey kt (kE a) es).run P w=.ok (some (j,e.val)) w∧es[j]?=some e∧e.key=kE a
  stays:∀ (w:World) a,(Instr.keyThatStays (kE a) (kE a)).run P w=.ok (kE a) w
theorem find_int {kd:IntKind} {a:Int}:∀ (es:List MapEntry) (i:Nat),(∀ e∈es,∃ x,e.key=Value.int kd x) →
    (Instr.findNow (.int kd) (.int kd a) es i=some none∧∀ e∈es,e.key≠.int kd a)∨∃ j e,Instr.findNow (.int kd) (.int kd a) es i=some (some (i+j,e.val))∧es[j]?=some e∧e.key=.int kd a
  | [],_,_=>.inl ⟨rfl,fun _ h=>by cases h⟩
  | e::es,i,h=>by
    obtain ⟨x,hx⟩:=h e (.head _)
    unfold Instr.findNow
    rw [hx]
    simp only [Instr.sameNow,if_true]
    cases hax:a==x with
    | true =>
      have:a=x:=by simpa using hax
      exact .inr ⟨0,e,rfl,rfl,by rw [hx,this]⟩
    | false =>
      have hne:a≠x:=by simpa using hax
      rcases find_int (a:=a) es (i+1) (fun e he=>h e (.tail _ he)) with ⟨h1,h2⟩ | ⟨j,e',h1,h2,h3⟩
      · refine .inl ⟨h1,fun e' he'=>?_⟩
        rcases List.mem_cons.1 he' with rfl | he'
        · rw [hx]; intro hh; cases hh; exact hne rfl
        · exact h2 e' he'
      · refine .inr ⟨j+1,e',?_,h2,h3⟩
        rw [h1,show i+1+j=i+(j+1) by omega]
theorem keyInt {P:Program} {kt:TypeId} {kd:IntKind} (hk:intB P kt kd=true):KeyE P kt (Value.int kd) where
  inj a b h:=by cases h; rfl
  check w em a:=run_checkKey_int (intB_spec hk)
  find w a es h:=by
    rcases find_int (a:=a) es 0 h with ⟨h1,h2⟩ | ⟨j,e,h1,h2,h3⟩
    · exact .inl ⟨run_findNow (intB_spec hk) h1,h2⟩
    · exact .inr ⟨j,e,run_findNow (intB_spec hk) (by rw [h1,Nat.zero_add]),h2,h3⟩
  stays w a:=by unfold Instr.keyThatStays; simp [Instr.sameBits,Sem.run_pure]
def mpE {α β:Type} (kE:α→Value) (vE:β→Value) (l:List (α×β)):List (Value×Value):=l.map fun p=>(kE p.1,vE p.2)
def mput {α β:Type} [DecidableEq α]:List (α×β)→α→β→List (α×β)
  | [],a,b=>[(a,b)]
  | (x,y)::r,a,b=>if x=a then (a,b)::r else (x,y)::mput r a b
def mfd {α β:Type} [DecidableEq α]:List (α×β)→α→Option β
  | [],_=>none
  | (x,y)::r,a=>if x=a then some y else mfd r a
def mgt {α β:Type} [DecidableEq α] (l:List (α×β)) (a:α) (d:β):β:=(mfd l a).getD d
def mhas {α β:Type} [DecidableEq α] (l:List (α×β)) (a:α):Bool:=(mfd l a).isSome
section
variable {α β:Type} {kE:α→Value} {vE:β→Value}
theorem mp_pair {es:Array MapEntry} {ck:Nat} {l:List (α×β)} (h:MapIs es ck (mpE kE vE l)):l.Pairwise (fun p q=>p.1≠q.1):=by
  have h3:=((MapKept.stamped_iff es ck).1 h.2).2.2
  have h4:(es.toList.map (fun e=>(e.key,e.val))).Pairwise (fun p q=>p.1≠q.1):=List.pairwise_map.2 h3
  rw [h.1] at h4
  have h5:=List.pairwise_map.1 h4
  exact h5.imp (fun hne e=>hne (by rw [e]))
theorem mp_len {es:Array MapEntry} {ck:Nat} {l:List (α×β)} (h:MapIs es ck (mpE kE vE l)):es.size=l.length:=by
  have:=congrArg List.length h.1
  simpa [mpE] using this
theorem mp_at {es:Array MapEntry} {ck:Nat} {l:List (α×β)} (h:MapIs es ck (mpE kE vE l)) {j:Nat} {e:MapEntry} (he:es.toList[j]?=some e):∃ x y,l[j]?=some (x,y)∧e.key=kE x∧e.val=vE y:=by
  have h1:(es.toList.map (fun e=>(e.key,e.val)))[j]?=some (e.key,e.val):=by rw [List.getElem?_map,he]; rfl
  rw [h.1,mpE,List.getElem?_map] at h1
  obtain ⟨⟨x,y⟩,h2,h3⟩:=Option.map_eq_some_iff.1 h1
  have e1:=congrArg Prod.fst h3
  have e2:=congrArg Prod.snd h3
  exact ⟨x,y,h2,e1.symm,e2.symm⟩
theorem mp_keys {es:Array MapEntry} {ck:Nat} {l:List (α×β)} (h:MapIs es ck (mpE kE vE l)):∀ e∈es.toList,∃ x,e.key=kE x:=fun e he=>by
  obtain ⟨j,hj⟩:=List.getElem?_of_mem he
  obtain ⟨x,y,_,hx,_⟩:=mp_at h hj
  exact ⟨x,hx⟩
theorem mp_no {es:Array MapEntry} {ck:Nat} {l:List (α×β)} (h:MapIs es ck (mpE kE vE l)) {a:α} (hn:∀ e∈es.toList,e.key≠kE a):∀ p∈l,p.1≠a:=fun p hp hpa=>by
  have:(kE p.1,vE p.2)∈es.toList.map (fun e=>(e.key,e.val)):=by rw [h.1]; exact List.mem_map.2 ⟨p,hp,rfl⟩
  obtain ⟨e,he,he2⟩:=List.mem_map.1 this
  exact hn e he (by rw [← hpa]; exact congrArg Prod.fst he2)
end
section
variable {α β:Type} [DecidableEq α] {kE:α→Value} {vE:β→Value}
theorem mput_none {a:α} {b:β}:∀ {l:List (α×β)},(∀ p∈l,p.1≠a)→mput l a b=l++[(a,b)]
  | [],_=>rfl
  | (x,y)::r,h=>by
    unfold mput
    rw [if_neg (h (x,y) (.head _)),mput_none (fun p hp=>h p (.tail _ hp))]; rfl
theorem mput_at {a:α} {b b0:β}:∀ {l:List (α×β)} {j:Nat},l[j]?=some (a,b0)→l.Pairwise (fun p q=>p.1≠q.1)→mput l a b=l.set j (a,b)
  | [],_,h,_=>by simp at h
  | (x,y)::r,0,h,_=>by
    simp only [List.getElem?_cons_zero,Option.some.injEq,Prod.mk.injEq] at h
    unfold mput
    rw [if_pos h.1]; rfl
  | (x,y)::r,j+1,h,hp=>by
    obtain ⟨h1,h2⟩:=List.pairwise_cons.1 hp
    have hm:(a,b0)∈r:=List.mem_of_getElem? (by simpa using h)
    have hne:x≠a:=h1 _ hm
    unfold mput
    rw [if_neg hne,mput_at (j:=j) (by simpa using h) h2]; rfl
theorem mfd_none {a:α}:∀ {l:List (α×β)},(∀ p∈l,p.1≠a)→mfd l a=none
  | [],_=>rfl
  | (x,y)::r,h=>by
    unfold mfd
    rw [if_neg (h (x,y) (.head _)),mfd_none (fun p hp=>h p (.tail _ hp))]
theorem mfd_at {a:α} {b:β}:∀ {l:List (α×β)} {j:Nat},l[j]?=some (a,b)→l.Pairwise (fun p q=>p.1≠q.1)→mfd l a=some b
  | [],_,h,_=>by simp at h
  | (x,y)::r,0,h,_=>by
    simp only [List.getElem?_cons_zero,Option.some.injEq,Prod.mk.injEq] at h
    unfold mfd
    rw [if_pos h.1,h.2]
  | (x,y)::r,j+1,h,hp=>by
    obtain ⟨h1,h2⟩:=List.pairwise_cons.1 hp
    have hm:(a,b)∈r:=List.mem_of_getElem? (by simpa using h)
    unfold mfd
    rw [if_neg (h1 _ hm),mfd_at (j:=j) (by simpa using h) h2]
section
variable {P:Program} {kt et T:TypeId} {w:World} {g:Nat} {es:Array MapEntry} {ck:Nat} {l:List (α×β)}
theorem map_upd (K:KeyE P kt kE) (h:MapIs es ck (mpE kE vE l)) (hw:w.heap[g]?=some (.map es ck)) (hm:mapB P T kt et=true) (a:α) (b:β) :
    ∃ es' ck',(Instr.mapUpdate T (.map (some g)) (kE a) (vE b)).run P w=.ok () { w with heap:=w.heap.setIfInBounds g (.map es' ck') }∧MapIs es' ck' (mpE kE vE (mput l a b)):=by
  rcases K.find w a es.toList (mp_keys h) with ⟨h1,h2⟩ | ⟨j,e,h1,h2,h3⟩
  · refine ⟨es.push ⟨kE a,vE b,ck⟩,ck+1,?_,?_,MapKept.stamped_push h.2 h2⟩
    · simp only [Instr.mapUpdate,Sem.run_bind,run_underlying (mapB_spec hm),Result.andThen_ok,get_map hw,K.check,h1,set_map _ hw]
    · rw [mput_none (mp_no h h2)]
      simp only [Array.toList_push,List.map_append,h.1,mpE]; rfl
  · obtain ⟨x,y,e1,e2,e3⟩:=mp_at h h2
    have hx:x=a:=K.inj _ _ (e2.symm.trans h3)
    subst hx
    have hj:j<es.size:=by simpa using (List.getElem?_eq_some_iff.1 h2).1
    have hej:es[j]?=some e:=by rw [← h2]; simp
    have hko:((es[j]?).map (·.key)).getD (kE x)=kE x:=by rw [hej]; exact h3
    refine ⟨es.modify j fun e=>{ e with key:=kE x,val:=vE b },ck,?_,?_,?_⟩
    · simp only [Instr.mapUpdate,Sem.run_bind,run_underlying (mapB_spec hm),Result.andThen_ok,get_map hw,K.check,h1,hko,K.stays,set_map _ hw]
    · rw [mput_at e1 (mp_pair h)]
      apply List.ext_getElem?
      intro i
      rw [List.getElem?_map,Array.getElem?_toList,Array.getElem?_modify,mpE,List.getElem?_map,List.getElem?_set]
      have hli:(es.toList.map (fun e=>(e.key,e.val)))[i]?=(mpE kE vE l)[i]?:=by rw [h.1]
      rw [List.getElem?_map,mpE,List.getElem?_map,Array.getElem?_toList] at hli
      have hlen:=mp_len h
      by_cases hij:j=i
      · subst hij
        rw [if_pos rfl,if_pos rfl,if_pos (by omega),hej]; rfl
      · rw [if_neg hij,if_neg hij]; exact hli
    · exact MapKept.stamped_modify h.2 j _ (fun _ _=>rfl) (fun e' _ he'=>by rw [hej] at he'; cases he'; exact h3.symm)
theorem map_get (K:KeyE P kt kE) (h:MapIs es ck (mpE kE vE l)) (hw:w.heap[g]?=some (.map es ck)) (hm:mapB P T kt et=true) (a:α) (d:β) (hz:(P.info? et).map (·.zero)=some (some (vE d))) (c:Bool) :
    (Instr.lookup T (.map (some g)) (kE a) c).run P w=.ok (if c then .tuple #[vE (mgt l a d),.bool (mhas l a)] else vE (mgt l a d)) w:=by
  cases hi:P.info? et with
  | none=>rw [hi] at hz; cases hz
  | some i =>
    rw [hi] at hz
    simp only [Option.map_some,Option.some.injEq] at hz
    rcases K.find w a es.toList (mp_keys h) with ⟨h1,h2⟩ | ⟨j,e,h1,h2,h3⟩
    · have e0:=mfd_none (mp_no h h2)
      unfold mgt mhas
      rw [e0]
      simp [Instr.lookup,Sem.run_bind,run_underlying (mapB_spec hm),Result.andThen_ok,get_map hw,K.check,h1,zeroValue,typeInfo,hi,hz,Sem.run_pure]
    · obtain ⟨x,y,e1,e2,e3⟩:=mp_at h h2
      have hx:x=a:=K.inj _ _ (e2.symm.trans h3)
      subst hx
      have e0:=mfd_at e1 (mp_pair h)
      unfold mgt mhas
      rw [e0]
      simp [Instr.lookup,Sem.run_bind,run_underlying (mapB_spec hm),Result.andThen_ok,get_map hw,K.check,h1,e3,Sem.run_pure]
end
section
variable {P:Program} {n:Nat} {f:Nat→Value} {w0 w:World} {M:List Nat} {L L':List Ob} {R:List Ro} {o:Oper} {T kt et:TypeId} {x y z:Operand} {l:List (α×β)} {g i:Nat}
theorem ST.map (hS:ST w0 M w L R) {lv:List (Value×Value)} (hi:L[i]?=some ⟨some ⟨g,0,none⟩,.mp lv,[],0⟩):∃ es ck,w.heap[g]?=some (.map es ck)∧MapIs es ck lv:=by
  rcases hS.own _ (List.mem_of_getElem? hi) with ⟨h,_⟩ | ⟨_,h,_⟩ | ⟨l,h,_,_,g',es,ck,h1,h2,h3⟩ | ⟨_,h,_⟩
  · cases h
  · cases h
  · simp only [Kd.mp.injEq] at h
    subst h
    simp only [Option.some.injEq,Addr.mk.injEq] at h1
    obtain ⟨rfl,_⟩:=h1
    exact ⟨es,ck,h2,h3⟩
  · cases h
theorem ST.mapSet (hS:ST w0 M w L R) {lv lv':List (Value×Value)} (hi:L[i]?=some ⟨some ⟨g,0,none⟩,.mp lv,[],0⟩) {es':Array MapEntry} {ck':Nat} (h:MapIs es' ck' lv') (hL:L.set i ⟨some ⟨g,0,none⟩,.mp lv',[],0⟩=L') :
    ST w0 M { w with heap:=w.heap.setIfInBounds g (.map es' ck') } L' R:=by
  subst hL
  obtain ⟨es,ck,hw,_⟩:=hS.map hi
  have hlt:g<w.heap.size:=(Array.getElem?_eq_some_iff.1 hw).1
  refine hS.step1 hi rfl rfl rfl (by simp) (fun k _ hk=>?_) ?_ (fun g' hg'=>.inl hg')
  · show (w.heap.setIfInBounds g _)[k]?=_
    rw [Array.getElem?_setIfInBounds,if_neg (fun e=>hk (by simp [Ob.blk,e]))]
  · refine .inr (.inr (.inl ⟨lv',rfl,rfl,rfl,g,es',ck',rfl,?_,h⟩))
    show (w.heap.setIfInBounds g _)[g]?=_
    rw [Array.getElem?_setIfInBounds]; simp [hlt]
theorem ST.mapNew (hS:ST w0 M w L R):ST w0 M (w.alloc (.map #[] 0)) (L++[⟨some ⟨w.heap.size,0,none⟩,.mp [],[],0⟩]) R:=by
  have hb:∀ k,k<w.heap.size→(w.alloc (.map #[] 0)).heap[k]?=w.heap[k]?:=fun k hk=>Below.heap_alloc w _ k hk
  refine ⟨hS.os,hS.tape,hS.output,Nat.le_trans hS.size (by simp),?_,?_,?_,?_,?_,?_⟩
  · intro k hk hm
    rw [hb k (Nat.lt_of_lt_of_le hk hS.size)]
    exact hS.frame k hk hm
  · intro x hx
    rcases List.mem_append.1 hx with hx | hx
    · exact (hS.own x hx).of_block (fun g hg=>hb g ((hS.own x hx).lt hg))
    · simp only [List.mem_singleton] at hx
      subst hx
      exact .inr (.inr (.inl ⟨[],rfl,rfl,rfl,w.heap.size,#[],0,rfl,heap_alloc_new w _,rfl,MapKept.stamped_empty 0⟩))
  · intro x hx g hg
    rcases List.mem_append.1 hx with hx | hx
    · exact hS.home x hx g hg
    · simp only [List.mem_singleton] at hx
      subst hx
      simp [Ob.blk] at hg
      subst hg
      exact .inr hS.size
  · rw [List.pairwise_append]
    refine ⟨hS.apart,by simp,fun x hx y hy g hg=>?_⟩
    simp only [List.mem_singleton] at hy
    subst hy
    have:=(hS.own x hx).lt hg
    simp [Ob.blk]
    omega
  · intro r hr
    exact (hS.ro r hr).of_block (fun hne a ha=>hb _ (hS.roblk r hr hne a ha).1)
  · intro r hr hne a ha
    obtain ⟨hlt,hno⟩:=hS.roblk r hr hne a ha
    refine ⟨by simp; omega,fun x hx=>?_⟩
    rcases List.mem_append.1 hx with hx | hx
    · exact hno x hx
    · simp only [List.mem_singleton] at hx
      subst hx
      simp [Ob.blk]
      omega
theorem Ys_mkMap (hS:ST w0 M w L R) (ho:o.op=.makeMap T none):Ys P n f w o (fun v w'=>∃ g,v=.map (some g)∧ST w0 M w' (L++[⟨some ⟨g,0,none⟩,.mp [],[],0⟩]) R):=by
  refine ⟨.map (some w.heap.size),w.alloc (.map #[] 0),.inl ?_,w.heap.size,rfl,hS.mapNew⟩
  unfold execOp; rw [ho]
  rfl
theorem Ys_mapPut {a:α} {b:β} (hS:ST w0 M w L R) (K:KeyE P kt kE) (hm:mapB P T kt et=true) (ho:o.op=.mapUpdate T x y z) (hx:ev n f x=.map (some g)) (hy:ev n f y=kE a) (hz:ev n f z=vE b)
    (hi:L[i]?=some ⟨some ⟨g,0,none⟩,.mp (mpE kE vE l),[],0⟩) (hL:L.set i ⟨some ⟨g,0,none⟩,.mp (mpE kE vE (mput l a b)),[],0⟩=L'):Ys P n f w o (fun v w'=>v=undef∧ST w0 M w' L' R):=by
  obtain ⟨es,ck,hw,hM⟩:=hS.map hi
  obtain ⟨es',ck',hr,hM'⟩:=map_upd K hM hw hm a b
  refine ⟨undef,_,.inr ⟨?_,rfl⟩,rfl,hS.mapSet hi hM' hL⟩
  unfold execOp; rw [ho]
  simp [hx,hy,hz,hr]
theorem Ys_mapIns {a:α} {b:β} (hS:ST w0 M w L R) (K:KeyE P kt kE) (hm:mapB P T kt et=true) (ho:o.op=.insert T x y z) (hx:ev n f x=.map (some g)) (hy:ev n f y=kE a) (hz:ev n f z=vE b)
    (hi:L[i]?=some ⟨some ⟨g,0,none⟩,.mp (mpE kE vE l),[],0⟩) (hL:L.set i ⟨some ⟨g,0,none⟩,.mp (mpE kE vE (mput l a b)),[],0⟩=L'):Ys P n f w o (fun v w'=>v=undef∧ST w0 M w' L' R):=by
  obtain ⟨es,ck,hw,hM⟩:=hS.map hi
  obtain ⟨es',ck',hr,hM'⟩:=map_upd K hM hw hm a b
  refine ⟨undef,_,.inr ⟨?_,rfl⟩,rfl,hS.mapSet hi hM' hL⟩
  unfold execOp; rw [ho]
  simp [hx,hy,hz,hr]
theorem Y_mapGet {a:α} {d:β} (hS:ST w0 M w L R) (K:KeyE P kt kE) (hm:mapB P T kt et=true) (hz:(P.info? et).map (·.zero)=some (some (vE d))) (ho:o.op=.lookup T x y false) (hx:ev n f x=.map (some g)) (hy:ev n f y=kE a)
    (hi:L[i]?=some ⟨some ⟨g,0,none⟩,.mp (mpE kE vE l),[],0⟩):Y P n f w o (vE (mgt l a d)):=by
  obtain ⟨es,ck,hw,hM⟩:=hS.map hi
  have hr:=map_get K hM hw hm a d hz false
  unfold Y execOp; rw [ho]
  simp [hx,hy,hr]
end
end
end Go.VK
