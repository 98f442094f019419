/- The operations that make or write memory, as steps of the walk. Plain lemmas over any program. -/
import Derived.Test.YtjjhmbpannlkaaaGreatLibC
namespace Go.VK
open Go.RowKit

def splice (cs:List Value) (k:Nat) (vs:List Value):List Value:=cs.take k++vs++cs.drop (k+vs.length)
def one (vs:List Value):Bool:=vs.all (·.oneCell')

section
variable {P:Program} {w0 w:World} {M:List Nat} {L L':List Ob} {R:List Ro}

theorem prefix_splice {cs cur vs:List Value} {k:Nat} (h:cs <+: cur) (hk:k+vs.length≤cs.length):splice cs k vs <+: cur.take k++vs++cur.drop (k+vs.length):=by
  obtain ⟨t,rfl⟩:=h
  refine ⟨t,?_⟩
  unfold splice
  rw [List.take_append_of_le_length (by omega),List.drop_append_of_le_length (by omega)]
  simp [List.append_assoc]

theorem store_ST (hS:ST w0 M w L R) {i:Nat} {B:Option Addr} {T:TypeId} {cs vs cs':List Value} {m k:Nat} (hi:L[i]?=some ⟨B,T,cs,m⟩) (hk:k+vs.length≤cs.length) (h1:one vs=true)
    (hcs:splice cs k vs=cs') (hL:L.set i ⟨B,T,cs',m⟩=L'):∃ w',(storeCells (ad B k) vs).run P w=.ok () w'∧ST w0 M w' L' R:=by
  subst hcs; subst hL
  have h1':∀ v∈vs,v.oneCell'=true:=fun v hv=>List.all_eq_true.1 h1 v hv
  rcases (hS.own _ (List.mem_of_getElem? hi)).ty rfl with ⟨hB,hc,hm⟩ | ⟨g,cur,hB,hg,hsz,hpre⟩
  · simp only at hB hc hm
    have hvs:vs=[]:=List.eq_nil_of_length_eq_zero (by have h:=hk; rw [hc,List.length_nil] at h; omega)
    subst hvs
    refine ⟨w,by simp [storeCells],?_⟩
    have:splice cs k []=cs:=by simp [splice]
    rw [this]
    have hset:L.set i ⟨B,T,cs,m⟩=L:=by
      have:=(List.getElem?_eq_some_iff.1 hi)
      obtain ⟨hl,he⟩:=this
      rw [← he,List.set_getElem_self]
    rw [hset]
    exact hS
  · simp only at hB hg hsz hpre
    have hle:k+vs.length≤cur.size:=by
      have:=hpre.length_le
      simp at this
      omega
    have hst:=run_storeCells_at P g k T vs 0 cur w hg (by omega) h1'
    simp only [Nat.add_zero] at hst
    refine ⟨_,by rw [hB,ad_some]; exact hst,?_⟩
    refine hS.step1 hi rfl rfl rfl (by simp) ?_ ?_ ?_
    · intro j _ hj
      exact setRow_other w g j _ (fun e=>hj (by simp [Ob.blk,hB,e]))
    · refine .ofC rfl ⟨g,_,hB,setRow_heap w g cur _ T _ hg,?_,?_⟩
      · simp only [List.size_toArray,List.length_append,List.length_take,List.length_drop,Array.length_toList]
        omega
      · simpa using prefix_splice hpre hk
    · intro g' hg'
      simp [Ob.blk,hB] at hg' ⊢
      exact .inl hg'

theorem append_ST {T e:TypeId} {s by':Nat} {z:Value} (hT:sliceB P T e=true) (hs:sizeB P e s=true) (hby:bytesB P e by'=true) (hz:(P.info? e).map (·.zero)=some (some z)) (hzs:z.cells.size=s) (hs0:0<s)
    (hS:ST w0 M w L R) {i:Nat} {B:Option Addr} {cs cs':List Value} {m n c:Nat} (hi:L[i]?=some ⟨B,e,cs,m⟩) (hcs:cs.length=n*s) (hm:m=c*s)
    {X:Option Addr} {xs:List Value} {k c2:Nat} (hX:CF w X xs) (hxl:xs.length=k*s) (h1:one xs=true) (hb:(n+k)*by'≤140737488355328) (h63:n+k≤maxLen) (hcs':cs++xs=cs') (ty:TypeId) :
    ∃ B' c' w',(Builtin.append_ #[T,T] ty #[.slice B n c,.slice X k c2]).run P w=.ok (.slice B' (n+k) c') w'∧ST w0 M w' (L.set i ⟨B',e,cs',c'*s⟩) R:=by
  subst hcs'
  have ht:=sliceB_spec hT
  obtain ⟨inf,hinf,hsz⟩:=sizeB_spec hs
  obtain ⟨inf',hinf',hbz⟩:=bytesB_spec hby
  have:inf'=inf:=Option.some.inj (hinf'.symm.trans hinf)
  subst this
  have hzero:inf'.zero=some z:=by rw [hinf] at hz; simpa using hz
  have h1':∀ v∈xs,v.oneCell'=true:=fun v hv=>List.all_eq_true.1 h1 v hv
  have hsmall:n+k≤9223372036854775807:=by simp only [maxLen] at h63; omega
  have hpos:∀ q:Nat,q*s=0→q=0:=fun q hq=>by
    rcases Nat.mul_eq_zero.1 hq with h | h
    · exact h
    · omega
  -- an empty tail
  have empty:k=0→(Builtin.append_ #[T,T] ty #[.slice B n c,.slice X k c2]).run P w=.ok (.slice B n c) w∧xs=[]:=by
    intro hk
    subst hk
    have hxs:xs=[]:=List.eq_nil_of_length_eq_zero (by simpa using hxl)
    subst hxs
    refine ⟨?_,rfl⟩
    have hcn:n≤c:=by
      rcases (hS.own _ (List.mem_of_getElem? hi)).ty rfl with ⟨_,hc,_⟩ | ⟨g,cur,_,_,hszc,hpre⟩
      · simp only at hc
        rw [hc] at hcs
        have:=hpos n (by simpa using hcs.symm)
        omega
      · simp only at hszc hpre
        have:=hpre.length_le
        simp only [Array.length_toList] at this
        rw [hcs,hszc,hm] at this
        exact Nat.le_of_mul_le_mul_right this hs0
    cases X with
    | none =>
      cases B with
      | none=>simp [Builtin.append_,run_underlying ht,sizeOf,typeInfo,hinf,Builtin.lenOf,Builtin.firstCells,hcn]
      | some b=>simp [Builtin.append_,run_underlying ht,sizeOf,typeInfo,hinf,Builtin.lenOf,Builtin.firstCells,hcn,storeCells]
    | some x =>
      cases B with
      | none=>simp [Builtin.append_,run_underlying ht,sizeOf,typeInfo,hinf,Builtin.lenOf,Builtin.firstCells,hcn,loadCells,loadCellsFrom]
      | some b=>simp [Builtin.append_,run_underlying ht,sizeOf,typeInfo,hinf,Builtin.lenOf,Builtin.firstCells,hcn,loadCells,loadCellsFrom,storeCells]
  rcases Nat.eq_zero_or_pos k with hk0 | hk0
  · obtain ⟨hr,hxs⟩:=empty hk0
    subst hxs
    refine ⟨B,c,w,by rw [hk0] at hr ⊢; exact hr,?_⟩
    have hset:L.set i ⟨B,e,cs++[],c*s⟩=L:=by
      obtain ⟨hl,he⟩:=List.getElem?_eq_some_iff.1 hi
      rw [List.append_nil,← hm,← he,List.set_getElem_self]
    rw [hset]
    exact hS
  · have hxne:xs≠[]:=by
      rintro rfl
      have:=hpos k (by simpa using hxl.symm)
      omega
    obtain ⟨xa,rfl⟩:=Option.isSome_iff_exists.mp (hX.1 hxne)
    have hnews:∀ j u,xs[j]?=some u→w.cell? (xa.add j)=some u:=fun j u hu=>by simpa [ad] using hX.2 j u hu
    -- a new row
    have fresh:∀ (cap:Nat),n+k≤cap→∀ (cur':Array Value),cur'.size=cap*s→cs++xs <+: cur'.toList →
        ST w0 M (w.drew.alloc (.cells cur' e)) (L.set i ⟨some ⟨w.heap.size,0,none⟩,e,cs++xs,cap*s⟩) R:=by
      intro cap _ cur' hsz' hpre'
      refine hS.step1 hi rfl rfl rfl (by simp) (fun j hj _=>Below.heap_alloc w.drew _ j hj) ?_ ?_
      · exact .ofC rfl ⟨w.heap.size,cur',rfl,heap_alloc_new w.drew _,hsz',hpre'⟩
      · intro g hg
        simp [Ob.blk] at hg
        exact .inr (by omega)
    have hxi:xs.length=k*inf'.size:=by rw [hsz]; exact hxl
    rcases (hS.own _ (List.mem_of_getElem? hi)).ty rfl with ⟨hB,hc,hm0⟩ | ⟨g,cur,hB,hg,hszc,hpre⟩
    · simp only at hB hc hm0
      subst hB
      have hn0:n=0:=hpos n (by rw [hc] at hcs; simpa using hcs.symm)
      have hc0:c=0:=hpos c (by rw [← hm]; exact hm0)
      subst hn0; subst hc0
      rw [hc]
      have hr:=run_append_nil (P:=P) w T ty e inf' z ht hinf hzero xa k c2 xs hxi hnews hk0 (by omega) (by have h:=hb; rw [Nat.zero_add] at h; rw [hbz]; omega)
      refine ⟨_,_,_,by rw [Nat.zero_add]; exact hr,?_⟩
      have hge:=grownCap_ge w k 0 e
      have:=fresh (grownCap w k 0 e) (by omega) (xs.toArray++Builtin.zeroCells z.cells (grownCap w k 0 e-k)) (by
        rw [Array.size_append,size_zeroCells,hzs,List.size_toArray,hxl,← Nat.add_mul]
        congr 1; omega) (by rw [hc]; simp)
      rw [hc] at this
      exact this
    · simp only at hB hg hszc hpre
      subst hB
      have hcl:=hpre.length_le
      simp only [Array.length_toList] at hcl
      have htake:cur.toList.take (n*s)=cs:=by
        obtain ⟨t,ht⟩:=hpre
        rw [← ht,← hcs]; simp
      by_cases hroom:n+k≤c
      · have hfit:n*inf'.size+xs.length≤cur.size:=by
          rw [hsz,hxl,hszc,hm,← Nat.add_mul]; exact Nat.mul_le_mul_right _ hroom
        have hr:=run_append_room (P:=P) w T ty e inf' ht hinf g n c cur hg xa k c2 xs hxi hnews h1' hroom hfit
        refine ⟨_,_,_,hr,?_⟩
        refine hS.step1 hi rfl rfl rfl (by simp) ?_ ?_ ?_
        · intro j _ hj
          exact setRow_other w g j _ (fun e=>hj (by simp [Ob.blk,e]))
        · refine .ofC rfl ⟨g,_,rfl,setRow_heap w g cur _ e _ hg,?_,?_⟩
          · simp only [List.size_toArray,List.length_append,List.length_take,List.length_drop,Array.length_toList]
            rw [← hm]; omega
          · simp only [hsz,htake]
            exact List.prefix_append _ _
        · intro g' hg'
          simp [Ob.blk] at hg' ⊢
          exact .inl hg'
      · have holds:∀ j u,cs[j]?=some u→w.cell? ((⟨g,0,none⟩:Addr).add j)=some u:=by
          intro j u hu
          have:=((hS.own _ (List.mem_of_getElem? hi)).cf).2 j u hu
          simpa [ad] using this
        have hr:=run_append_grow (P:=P) w T ty e inf' z ht hinf hzero ⟨g,0,none⟩ n c cs (by rw [hsz]; exact hcs) holds xa k c2 xs hxi hnews (by omega) (by omega) (growslice_fits (by omega) (by rw [hbz]; exact hb))
        refine ⟨_,_,_,hr,?_⟩
        have hge:=grownCap_ge w (n+k) c e
        refine fresh (grownCap w (n+k) c e) hge _ ?_ ?_
        · rw [Array.size_append,Array.size_append,size_zeroCells,hzs,List.size_toArray,List.size_toArray,hxl,hcs,← Nat.add_mul,← Nat.add_mul]
          congr 1; omega
        · simp [List.append_assoc]
end

section
variable {P:Program} {n:Nat} {N Rr:FW} {E:List (Nat×FW)} {f:Nat→Value} {w0 w:World} {M:List Nat} {L L':List Ob} {R:List Ro} {ops:Array Oper} {rest:List Oper} {o:Oper}
variable {T e:TypeId} {x y:Operand}

def Ys (P:Program) (n:Nat) (f:Nat→Value) (w:World) (o:Oper) (S:Value→World→Prop):Prop:=∃ v w',Yw P n f w o v w'∧S v w'
theorem rw_s (hg:o.guard=none) {S:Value→World→Prop} (h:Ys P n f w o S) (k:∀ v w',S v w'→RW P n ops N rest (putf f o.dst v) w'):RW P n ops N (o::rest) f w:=by
  obtain ⟨v,w',hy,hs⟩:=h
  exact rw_w hg hy (k v w' hs)

def NewAt (w0:World) (M:List Nat) (L:List Ob) (R:List Ro) (T:TypeId) (cs:List Value) (m:Nat) (v:Value) (w':World):Prop :=
  ∃ b,v=pt (some ⟨b,0,none⟩) 0∧ST w0 M w' (L++[⟨some ⟨b,0,none⟩,T,cs,m⟩]) R
theorem pt_zero (b:Nat):Value.pointer (some ⟨b,0,none⟩)=pt (some ⟨b,0,none⟩) 0:=by simp [pt,ad,Addr.add]
theorem Ys_alloc {z:Value} {cs:List Value} {m:Nat} (hS:ST w0 M w L R) (hz:(P.info? T).map (·.zero)=some (some z)) (ho:o.op=.alloc T) (hc:z.cells.toList=cs) (hm:cs.length=m) :
    Ys P n f w o (NewAt w0 M L R T cs m):=by
  cases hi:P.info? T with
  | none=>rw [hi] at hz; cases hz
  | some i =>
    rw [hi] at hz
    simp only [Option.map_some,Option.some.injEq] at hz
    refine ⟨.pointer (some ⟨w.heap.size,0,none⟩),w.alloc (.cells z.cells T),.inl ?_,⟨w.heap.size,pt_zero _,?_⟩⟩
    · unfold execOp; rw [ho]
      simp [Instr.alloc,zeroValue,typeInfo,hi,hz,newVar,newRow]
    · have:=hS.alloc z.cells T
      rw [hc] at this
      have e2:z.cells.size=m:=by rw [← hm,← hc]; simp
      rw [e2] at this
      exact this
theorem Ys_box {v:Value} {cs:List Value} {m:Nat} (hS:ST w0 M w L R) (ho:o.op=.box T x) (hx:ev n f x=v) (hc:v.cells.toList=cs) (hm:cs.length=m) :
    Ys P n f w o (NewAt w0 M L R T cs m):=by
  refine ⟨.pointer (some ⟨w.heap.size,0,none⟩),w.alloc (.cells v.cells T),.inl ?_,⟨w.heap.size,pt_zero _,?_⟩⟩
  · unfold execOp; rw [ho]
    simp [Instr.box,hx,newVar,newRow]
  · have:=hS.alloc v.cells T
    rw [hc] at this
    have e2:v.cells.size=m:=by rw [← hm,← hc]; simp
    rw [e2] at this
    exact this
theorem Ys_store {i s:Nat} {B:Option Addr} {T':TypeId} {v:Value} {cs vs cs':List Value} {m k:Nat} (hS:ST w0 M w L R) (hs:sizeB P T s=true) (ho:o.op=.store T x y) (hx:ev n f x=pt B k) (hy:ev n f y=v) (hv:v.cells.toList=vs)
    (hl:vs.length=s) (h1:one vs=true) (hi:L[i]?=some ⟨B,T',cs,m⟩) (hk:k+s≤cs.length) (hcs:splice cs k vs=cs') (hL:L.set i ⟨B,T',cs',m⟩=L') :
    Ys P n f w o (fun v w'=>v=undef∧ST w0 M w' L' R):=by
  obtain ⟨w',hr,hST⟩:=store_ST (P:=P) hS hi (by rw [hl]; exact hk) h1 hcs hL
  refine ⟨undef,w',.inr ⟨?_,rfl⟩,rfl,hST⟩
  have e2:v.cells.size=s:=by rw [← hl,← hv]; simp
  unfold execOp; rw [ho]
  simp [hx,hy,pt,Instr.storeAt,Instr.sureAddr,storeVar,run_sizeOf hs,e2,hv,hr]
def AppAt (w0:World) (M:List Nat) (L:List Ob) (R:List Ro) (i:Nat) (e:TypeId) (cs:List Value) (s len:Nat) (v:Value) (w':World):Prop :=
  ∃ B c,v=.slice B len c∧ST w0 M w' (L.set i ⟨B,e,cs,c*s⟩) R
theorem Ys_append {s by' i nn c k c2 len m:Nat} {z:Value} {B X:Option Addr} {cs xs cs':List Value} (hS:ST w0 M w L R) (hT:sliceB P T e=true) (hs:sizeB P e s=true) (hby:bytesB P e by'=true)
    (hz:(P.info? e).map (·.zero)=some (some z)) (hzs:z.cells.size=s) (hs0:0<s) (ho:o.op=.call ⟨.builtin .append,#[x,y],#[T,T]⟩) (hx:ev n f x=.slice B nn c) (hy:ev n f y=.slice X k c2)
    (hi:L[i]?=some ⟨B,e,cs,m⟩) (hcs:cs.length=nn*s) (hm:m=c*s) (hX:CF w X xs) (hxl:xs.length=k*s) (h1:one xs=true) (hb:(nn+k)*by'≤140737488355328) (h63:nn+k≤maxLen)
    (hcs':cs++xs=cs') (hlen:nn+k=len):Ys P n f w o (AppAt w0 M L R i e cs' s len):=by
  obtain ⟨B',c',w',hr,hST⟩:=append_ST hT hs hby hz hzs hs0 hS hi hcs hm hX hxl h1 hb h63 hcs' (c2:=c2) o.type
  subst hlen
  refine ⟨.slice B' (nn+k) c',w',.inl ?_,⟨B',c',rfl,hST⟩⟩
  unfold execOp; rw [ho]
  simp [resolve,invoke,builtin,hx,hy,hr]
def MadeAt (w0:World) (M:List Nat) (L:List Ob) (R:List Ro) (e:TypeId) (cs:List Value) (m len cap:Nat) (v:Value) (w':World):Prop :=
  ∃ b,v=.slice (some ⟨b,0,none⟩) len cap∧ST w0 M w' (L++[⟨some ⟨b,0,none⟩,e,cs,m⟩]) R
theorem flatMap_rep (z:List Value):∀ (nn:Nat),(List.replicate nn ()).flatMap (fun _=>z)=(List.range (nn*z.length)).map (fun i=>z[i % z.length]!)
  | 0=>by simp
  | nn+1=>by
    rcases Nat.eq_zero_or_pos z.length with h0 | hpos
    · have:z=[]:=List.eq_nil_of_length_eq_zero h0
      subst this; simp
    · have ih:=flatMap_rep z nn
      rw [List.replicate_succ',List.flatMap_append,ih,Nat.add_mul,Nat.one_mul,List.range_add,List.map_append]
      congr 1
      simp only [List.flatMap_cons,List.flatMap_nil,List.append_nil,List.map_map]
      apply List.ext_getElem?
      intro j
      rw [List.getElem?_map]
      by_cases hj:j<z.length
      · rw [List.getElem?_range hj]
        have:(nn*z.length+j) % z.length=j:=by rw [Nat.mul_comm,Nat.mul_add_mod]; exact Nat.mod_eq_of_lt hj
        simp [this,hj]
      · simp [hj]
theorem Ys_bslice {s len:Nat} {z:List Value} {parts:Array (Nat×Operand)} {vs:List (Nat×Value)} {cs zs:List Value} {m:Nat} (hS:ST w0 M w L R) (hT:sliceB P T e=true) (hs:sizeB P e s=true) (hz:(P.info? e).map (fun i=>i.zero.map (fun z=>z.cells.toList))=some (some z))
    (ho:o.op=.buildSlice T len parts) (hp:parts.toList.map (fun p=>(p.1,ev n f p.2))=vs) (hsm:Nat.ble (len*s) 16777216=true) (h0:Nat.beq (len*s) 0=false) (hzl0:z.length=s) (hzs:(List.replicate len ()).flatMap (fun _=>z)=zs)
    (hf:fillL (fun i=>some (i*s,s)) zs vs=some cs) (hm:cs.length=m):Ys P n f w o (MadeAt w0 M L R e cs m len len):=by
  have ht:=sliceB_spec hT
  have hp:=parts_of hp
  have hf:=fill_of hf
  have hsm':=Nat.ble_eq.mp hsm
  have h0':¬ len*s=0:=by intro h; rw [h] at h0; simp at h0
  cases hi:P.info? e with
  | none=>rw [hi] at hz; cases hz
  | some i =>
    rw [hi] at hz
    simp only [Option.map_some,Option.some.injEq] at hz
    obtain ⟨zz,hzz,hzl⟩:=Option.map_eq_some_iff.1 hz
    have hzc:zz.cells=z.toArray:=by rw [← hzl]
    refine ⟨.slice (some ⟨w.heap.size,0,none⟩) len len,w.alloc (.cells cs.toArray e),.inl ?_,⟨w.heap.size,rfl,?_⟩⟩
    · unfold execOp; rw [ho]
      have hz2:(Array.range (len*s)).map (z.toArray[· % z.toArray.size]!)=zs.toArray:=by rw [← hzs,flatMap_rep,hzl0]; apply Array.ext'; simp [hzl0]
      simp only [Instr.buildSlice,run_underlying ht,Sem.run_bind,Result.andThen_ok,run_sizeOf hs,Sem.run_ite,Sem.run_pure]
      rw [if_neg (by omega),if_neg h0']
      simp only [zeroValue,typeInfo,Sem.run_bind,run_program,Result.andThen_ok,hi,hzz,Sem.run_pure,hzc,hz2,hp,hf,newRow,run_newObj,World.alloc_eq]
    · have:=hS.alloc cs.toArray e
      subst hm
      exact this
end
end Go.VK
