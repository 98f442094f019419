/- Slices of slices; a row cut in place. Plain lemmas over any program. -/
import Derived.Test.YtckobcclloialaaGreatLibK
namespace Go.VK
open Go.RowKit

def sv (B:Option Addr) (l q s:Nat):Option Addr:=if q=l then B else B.map (·.add (l*s))
theorem sv_zero (B:Option Addr) (q s:Nat):sv B 0 q s=B:=by
  unfold sv
  split
  · rfl
  · cases B <;> simp [Addr.add]
section
variable {P:Program} {n:Nat} {f:Nat→Value} {w0 w:World} {M:List Nat} {L:List Ob} {R:List Ro} {o:Oper} {T e:TypeId} {x y:Operand}
def bnd (n:Nat) (f:Nat→Value) (b:Option Operand) (d v:Nat):Prop:=match b with
  | none=>v=d
  | some y=>∃ k a,ev n f y=.int k a∧a=(v:Int)
theorem run_bound {k:IntKind} {a:Int} {v q:Nat} (ha:a=(v:Int)) (h:v≤q) (c:BoundsCode):(Instr.sliceBound (.int k a) q c).run P w=.ok v w:=by
  subst ha
  unfold Instr.sliceBound
  have:(0:Int)≤(v:Int)∧(v:Int)≤(q:Int):=by omega
  simp [asIntOf,h]
theorem Y_slice {lo hi mx:Option Operand} {B:Option Addr} {m c l h q s:Nat} (hT:sliceB P T e=true) (hs:sizeB P e s=true) (ho:o.op=.slice T x lo hi mx) (hx:ev n f x=.slice B m c) (hq:bnd n f mx c q) (hh:bnd n f hi m h) (hl:bnd n f lo 0 l)
    (hmx:(mx.isSome&&hi.isNone)=false) (h1:l≤h) (h2:h≤q) (h3:q≤c):Y P n f w o (.slice (sv B l q s) (h-l) (q-l)):=by
  have ht:=sliceB_spec hT
  have hz:=run_sizeOf hs
  unfold Y execOp; rw [ho]
  unfold sv
  cases mx with
  | none =>
    simp only [bnd] at hq
    subst hq
    cases hi with
    | none =>
      simp only [bnd] at hh
      subst hh
      cases lo with
      | none=>simp only [bnd] at hl; subst hl; simp [hx,Instr.sliceAt,Instr.slice,Instr.sliceBounds,run_underlying ht,hz]
      | some y=>obtain ⟨k,a,e1,e2⟩:=hl; simp [hx,e1,Instr.sliceAt,Instr.slice,Instr.sliceBounds,run_underlying ht,hz,run_bound e2 h1]
    | some y1 =>
      obtain ⟨k1,a1,e3,e4⟩:=hh
      cases lo with
      | none=>simp only [bnd] at hl; subst hl; simp [hx,e3,Instr.sliceAt,Instr.slice,Instr.sliceBounds,run_underlying ht,hz,run_bound e4 h2]
      | some y=>obtain ⟨k,a,e1,e2⟩:=hl; simp [hx,e1,e3,Instr.sliceAt,Instr.slice,Instr.sliceBounds,run_underlying ht,hz,run_bound e2 h1,run_bound e4 h2]
  | some y2 =>
    obtain ⟨k2,a2,e5,e6⟩:=hq
    cases hi with
    | none=>simp at hmx
    | some y1 =>
      obtain ⟨k1,a1,e3,e4⟩:=hh
      cases lo with
      | none=>simp only [bnd] at hl; subst hl; simp [hx,e3,e5,Instr.sliceAt,Instr.slice,Instr.sliceBounds,run_underlying ht,hz,run_bound e4 h2,run_bound e6 h3]
      | some y=>obtain ⟨k,a,e1,e2⟩:=hl; simp [hx,e1,e3,e5,Instr.sliceAt,Instr.slice,Instr.sliceBounds,run_underlying ht,hz,run_bound e2 h1,run_bound e4 h2,run_bound e6 h3]
theorem ST.lencap (hS:ST w0 M w L R) {i:Nat} {B:Option Addr} {T:TypeId} {cs:List Value} {m n c s:Nat} (hi:L[i]?=some ⟨B,T,cs,m⟩) (hcs:cs.length=n*s) (hm:m=c*s) (hs0:Nat.blt 0 s=true):n≤c:=by
  have hs0:=Nat.blt_eq.mp hs0
  rcases (hS.own _ (List.mem_of_getElem? hi)).ty rfl with ⟨_,h2,_⟩ | ⟨g,cur,_,_,h3,h4⟩
  · simp only at h2
    rw [h2] at hcs
    rcases Nat.mul_eq_zero.1 hcs.symm with h | h <;> omega
  · simp only at h3 h4
    have:=h4.length_le
    simp only [Array.length_toList] at this
    rw [hcs,h3,hm] at this
    exact Nat.le_of_mul_le_mul_right this hs0
theorem take_pre {cs cur:List Value} {k:Nat} (h:cs <+: cur):cs.take k <+: cur:=(List.take_prefix k cs).trans h
theorem ST.shrink (hS:ST w0 M w L R) {i:Nat} {B:Option Addr} {T:TypeId} {cs:List Value} {m:Nat} (hi:L[i]?=some ⟨B,T,cs,m⟩) (k:Nat):ST w0 M w (L.set i ⟨B,T,cs.take k,m⟩) R:=by
  refine hS.step1 hi rfl rfl rfl (Nat.le_refl _) (fun _ _ _=>rfl) ?_ (fun g hg=>.inl hg)
  rcases (hS.own _ (List.mem_of_getElem? hi)).ty rfl with ⟨h1,h2,h3⟩ | ⟨g,cur,h1,h2,h3,h4⟩
  · simp only at h1 h2 h3
    exact .inl ⟨h1,by simp [h2],h3⟩
  · exact .ofC rfl ⟨g,cur,h1,h2,h3,take_pre h4⟩
theorem Ys_cut {α:Type} {enc:α→List Value} {s k i j m c:Nat} {B:Option Addr} {l:List α} (hS:ST w0 M w L R) (hT:sliceB P T e=true) (hs:sizeB P e s=true) (hs0:Nat.blt 0 s=true) (ho:o.op=.call ⟨.builtin .append,#[x,y],#[T,T]⟩)
    (hx:ev n f x=.slice (sv B 0 c s) (i-0) (c-0)) (hy:ev n f y=.slice (sv B j c s) (m-j) (c-j)) (hi:L[k]?=some ⟨B,e,l.flatMap enc,c*s⟩) (hl:l.length=m) (he:∀ x,(enc x).length=s) (h1:∀ x,one (enc x)=true) (hij:i≤j) (hjm:j≤m) :
    Ys P n f w o (fun v w'=>v=.slice B (i+(m-j)) c∧ST w0 M w' (L.set k ⟨B,e,(l.take i++l.drop j).flatMap enc,c*s⟩) R):=by
  have ht:=sliceB_spec hT
  obtain ⟨inf,hinf,hsz⟩:=sizeB_spec hs
  have hmc:=hS.lencap hi (fm_lenn he hl) rfl hs0
  have hs0':=Nat.blt_eq.mp hs0
  rw [sv_zero,Nat.sub_zero,Nat.sub_zero] at hx
  have htk:(l.take i).flatMap enc=(l.flatMap enc).take (i*s):=(fm_take he l i).symm
  by_cases hjm':j=m
  · -- nothing behind
    subst hjm'
    have hr:(Builtin.append_ #[T,T] o.type #[.slice B i c,.slice (sv B j c s) (j-j) (c-j)]).run P w=.ok (.slice B i c) w:=by
      rw [Nat.sub_self]
      have hic:i≤c:=by omega
      cases hX:sv B j c s with
      | none =>
        cases B with
        | none=>simp [Builtin.append_,run_underlying ht,sizeOf,typeInfo,hinf,Builtin.lenOf,Builtin.firstCells,hic]
        | some b=>simp [Builtin.append_,run_underlying ht,sizeOf,typeInfo,hinf,Builtin.lenOf,Builtin.firstCells,hic,storeCells]
      | some xa =>
        cases B with
        | none=>simp [Builtin.append_,run_underlying ht,sizeOf,typeInfo,hinf,Builtin.lenOf,Builtin.firstCells,hic,loadCells,loadCellsFrom]
        | some b=>simp [Builtin.append_,run_underlying ht,sizeOf,typeInfo,hinf,Builtin.lenOf,Builtin.firstCells,hic,loadCells,loadCellsFrom,storeCells]
    simp only [Nat.sub_self] at hr hy
    refine ⟨.slice B i c,w,.inl ?_,by rw [Nat.sub_self,Nat.add_zero],?_⟩
    · unfold execOp; rw [ho]
      simp [resolve,invoke,builtin,hx,hy,hr]
    · have:=hS.shrink hi (i*s)
      rw [List.flatMap_append,htk,show l.drop j=[] from List.drop_of_length_le (by omega)]
      simpa using this
  · have hlt:j<m:=by omega
    have hne:¬ c=j:=by omega
    rcases (hS.own _ (List.mem_of_getElem? hi)).ty rfl with ⟨_,h2,_⟩ | ⟨g,cur,hB,hg,hszc,hpre⟩
    · simp only at h2
      have:=fm_lenn he hl
      rw [h2] at this
      simp only [List.length_nil] at this
      rcases Nat.mul_eq_zero.1 this.symm with h | h <;> omega
    · simp only at hB hg hszc hpre
      subst hB
      have hsv:sv (some ⟨g,0,none⟩) j c s=some ⟨g,j*s,none⟩:=by unfold sv; rw [if_neg hne]; simp only [Option.map_some,Addr.add_lit,Nat.zero_add]
      rw [hsv] at hy
      have hcl:=hpre.length_le
      simp only [Array.length_toList] at hcl
      have hfl:(l.flatMap enc).length=m*s:=fm_lenn he hl
      have htail:((l.drop j).flatMap enc)=(l.flatMap enc).drop (j*s):=(fm_drop he l j).symm
      have htl:((l.drop j).flatMap enc).length=(m-j)*s:=by rw [fm_len he]; simp [hl]
      have hone:∀ v∈(l.drop j).flatMap enc,v.oneCell'=true:=fun v hv=>List.all_eq_true.1 (fm_one' h1 (l.drop j)) v hv
      have hnews:∀ t u,((l.drop j).flatMap enc)[t]?=some u→w.cell? ((⟨g,j*s,none⟩:Addr).add t)=some u:=by
        intro t u hu
        rw [htail,List.getElem?_drop] at hu
        have:=((hS.own _ (List.mem_of_getElem? hi)).cf).2 (j*s+t) u hu
        rw [ad_some] at this
        rw [Addr.add_lit]; exact this
      have hroom:i+(m-j)≤c:=by omega
      have hfit:i*inf.size+((l.drop j).flatMap enc).length≤cur.size:=by
        rw [hsz,htl,hszc,← Nat.add_mul]; exact Nat.mul_le_mul_right _ hroom
      have hr:=run_append_room (P:=P) w T o.type e inf ht hinf g i c cur hg ⟨g,j*s,none⟩ (m-j) (c-j) ((l.drop j).flatMap enc) (by rw [hsz]; exact htl) hnews hone hroom hfit
      have htake:cur.toList.take (i*s)=(l.take i).flatMap enc:=by
        obtain ⟨t,ht⟩:=hpre
        have:i*s≤(l.flatMap enc).length:=by rw [hfl]; exact Nat.mul_le_mul_right _ (by omega)
        rw [htk,← ht,List.take_append_of_le_length this]
      refine ⟨_,w.setRow g (cur.toList.take (i*inf.size)++(l.drop j).flatMap enc++cur.toList.drop (i*inf.size+((l.drop j).flatMap enc).length)).toArray,.inl ?_,rfl,?_⟩
      · unfold execOp; rw [ho]
        simp [resolve,invoke,builtin,hx,hy,hr]
      · refine hS.step1 hi rfl rfl rfl (by simp) ?_ ?_ ?_
        · intro q _ hq
          exact setRow_other w g q _ (fun e=>hq (by simp [Ob.blk,e]))
        · refine .ofC rfl ⟨g,_,rfl,setRow_heap w g cur _ e _ hg,?_,?_⟩
          · simp only [List.size_toArray,List.length_append,List.length_take,List.length_drop,Array.length_toList]
            omega
          · simp only [hsz,htake,List.flatMap_append]
            exact List.prefix_append _ _
        · intro g' hg'
          exact .inl hg'
theorem Ys_clear {s k p h c m:Nat} {B:Option Addr} {cs:List Value} {z:Value} (hS:ST w0 M w L R) (hT:sliceB P T e=true) (hs:sizeB P e s=true) (hs0:Nat.blt 0 s=true) (hz:(P.info? e).map (·.zero)=some (some z)) (hzs:z.cells.size=s) (hz1:one z.cells.toList=true)
    (ho:o.op=.call ⟨.builtin .clear,#[x],#[T]⟩) (hx:ev n f x=.slice (sv B p c s) (h-p) (c-p)) (hi:L[k]?=some ⟨B,e,cs,m⟩) (hcs:cs.length=p*s) (hm:m=c*s) (hph:p≤h) (hhc:h≤c) :
    Ys P n f w o (fun v w'=>v=.tuple #[]∧ST w0 M w' L R):=by
  have ht:=sliceB_spec hT
  have hs0':=Nat.blt_eq.mp hs0
  obtain ⟨inf,hinf,hsz⟩:=sizeB_spec hs
  have hzero:∀ w,(zeroValue e).run P w=.ok z w:=by
    intro w
    rw [hinf] at hz
    simp only [Option.map_some,Option.some.injEq] at hz
    simp [zeroValue,typeInfo,hinf,hz]
  by_cases hp:p=h
  · subst hp
    refine ⟨.tuple #[],w,.inl ?_,rfl,hS⟩
    rw [Nat.sub_self] at hx
    unfold execOp; rw [ho]
    cases hB:sv B p c s <;> simp [resolve,invoke,builtin,hx,hB,Builtin.clear_,run_underlying ht]
  · have hlt:p<h:=by omega
    have hne:¬ c=p:=by omega
    rcases (hS.own _ (List.mem_of_getElem? hi)).ty rfl with ⟨_,_,h3⟩ | ⟨g,cur,hB,hg,hszc,hpre⟩
    · simp only at h3
      rw [hm] at h3
      rcases Nat.mul_eq_zero.1 h3 with h | h <;> omega
    · simp only at hB hg hszc hpre
      subst hB
      have hsv:sv (some ⟨g,0,none⟩) p c s=some ⟨g,p*s,none⟩:=by unfold sv; rw [if_neg hne]; simp only [Option.map_some,Addr.add_lit,Nat.zero_add]
      rw [hsv] at hx
      have hlen:((Builtin.zeroCells z.cells (h-p)).toList).length=(h-p)*s:=by
        rw [Array.length_toList,size_zeroCells,hzs]
      have hone:∀ v∈(Builtin.zeroCells z.cells (h-p)).toList,v.oneCell'=true:=by
        intro v hv
        have hzl:∀ v∈z.cells.toList,v.oneCell'=true:=fun v hv=>List.all_eq_true.1 hz1 v hv
        simp only [Builtin.zeroCells,Array.toList_map,Array.toList_range,List.mem_map] at hv
        obtain ⟨q,hq,rfl⟩:=hv
        refine hzl _ ?_
        have hqs:q % z.cells.size<z.cells.size:=Nat.mod_lt _ (by omega)
        rw [getElem!_pos z.cells _ hqs]
        exact Array.getElem_mem_toList _
      have hfit:p*s+((Builtin.zeroCells z.cells (h-p)).toList).length≤cur.size:=by
        rw [hlen,hszc,hm,← Nat.add_mul]; exact Nat.mul_le_mul_right _ (by omega)
      have hst:=run_storeCells_at P g (p*s) e (Builtin.zeroCells z.cells (h-p)).toList 0 cur w hg (by simpa using hfit) hone
      simp only [Nat.add_zero] at hst
      have hzsz:(Builtin.zeroCells z.cells (h-p)).size=(h-p)*s:=by rw [size_zeroCells,hzs]
      have hfit2:p*s+(h-p)*s≤cur.size:=by rw [← hlen]; exact hfit
      obtain ⟨W,hW⟩:∃ W,W=w.setRow g (cur.toList.take (p*s)++(Builtin.zeroCells z.cells (h-p)).toList++cur.toList.drop (p*s+((Builtin.zeroCells z.cells (h-p)).toList).length)).toArray:=⟨_,rfl⟩
      have hst:(storeCells ⟨g,p*s,none⟩ (Builtin.zeroCells z.cells (h-p)).toList).run P w=.ok () W:=by rw [hW]; simpa [Addr.add_lit] using hst
      have hL:L.set k ⟨some ⟨g,0,none⟩,e,cs,m⟩=L:=by
        obtain ⟨hl,he⟩:=List.getElem?_eq_some_iff.1 hi
        rw [← he,List.set_getElem_self]
      refine ⟨.tuple #[],W,.inl ?_,rfl,?_⟩
      · obtain ⟨d,hd⟩:∃ d,h-p=d+1:=⟨h-p-1,by omega⟩
        unfold execOp; rw [ho]
        rw [hd] at hst hx
        simp [resolve,invoke,builtin,hx,Builtin.clear_,run_underlying ht,hzero,hst]
      · subst hW
        rw [← hL]
        refine hS.step1 hi rfl rfl rfl (by simp) ?_ ?_ ?_
        · intro q _ hq
          exact setRow_other w g q _ (fun e=>hq (by simp [Ob.blk,e]))
        · refine .ofC rfl ⟨g,_,rfl,setRow_heap w g cur _ e _ hg,?_,?_⟩
          · simp only [List.size_toArray,List.length_append,List.length_take,List.length_drop,Array.length_toList,hzsz]
            omega
          · obtain ⟨t,ht⟩:=hpre
            have:cur.toList.take (p*s)=cs:=by rw [← ht,← hcs]; simp
            simp only [this,List.append_assoc]
            exact List.prefix_append _ _
        · intro g' hg'
          exact .inl hg'
end
end Go.VK
namespace Go.VK
theorem sl_eqv {α:Type} {l:List α} {B:Option Addr} {n c:Nat} (h:l.length=n):Value.slice B n c=Value.slice B l.length c:=by rw [h]
theorem cut_len {α:Type} {l:List α} {i j m:Nat} (hl:l.length=m) (h:i≤m):(l.take i++l.drop j).length=i+(m-j):=by
  simp [hl]; omega
end Go.VK
