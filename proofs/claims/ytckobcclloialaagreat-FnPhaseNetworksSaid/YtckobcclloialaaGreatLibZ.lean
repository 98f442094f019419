/- In a region whose order is open: an operation may be carried out first in the world at hand, if all that may come ahead of it leaves the world alone. Plain lemmas over any program. -/
import Derived.Test.YtckobcclloialaaGreatLibF
namespace Go.VK
open Go.RowKit

def OKW {α:Type} (x:Sem α):Prop:=∀ (P:Program) (w w':World) (a:α),x.run P w=.ok a w'→w'=w
theorem okw_pure {α:Type} (a:α):OKW (pure a:Sem α):=fun P w w' b e=>by cases e; rfl
theorem okw_bind {α β:Type} {x:Sem α} {f:α→Sem β} (hx:OKW x) (hf:∀ a,OKW (f a)):OKW (x >>= f):=fun P w w' b e=>by
  rw [Sem.run_bind] at e
  cases h:x.run P w with
  | ok a w1 =>
    rw [h] at e
    have e1:=hx P w w1 a h
    have e2:=hf a P w1 w' b e
    rw [e2,e1]
  | halt c w1=>rw [h] at e; cases e
theorem okw_halt {α:Type} (h:Halt):OKW (.halt h:Sem α):=fun P w w' b e=>by cases e
theorem okw_never {α β:Type} {x:Sem α} {f:α→Sem β} (hf:∀ a P w w' b,(f a).run P w≠.ok b w'):OKW (x >>= f):=fun P w w' b e=>by
  rw [Sem.run_bind] at e
  cases h:x.run P w with
  | ok a w1=>rw [h] at e; exact absurd e (hf a P w1 w' b)
  | halt c w1=>rw [h] at e; cases e
theorem never_bd {α:Type} (x y:Int) (s:Bool) (c:BoundsCode) (P:Program) (w w':World) (b:α):(runtimePanic (.bounds x y s c):Sem α).run P w≠.ok b w':=fun h=>by
  unfold runtimePanic at h
  rw [Sem.run_bind] at h
  cases h
theorem okw_bounds {α:Type} (k:IntKind) (x y:Int) (c:BoundsCode):OKW (boundsPanic k x y c:Sem α):=by
  unfold boundsPanic
  dsimp only
  split
  · exact okw_never fun a P w w' b=>never_bd _ _ _ _ P w w' b
  · exact okw_never fun a P w w' b=>never_bd _ _ _ _ P w w' b
theorem okw_program:OKW program:=fun P w w' b e=>by cases e; rfl
theorem okw_shape (r:Nat):OKW (shape r):=fun P w w' b e=>by cases e; rfl
theorem okw_loadc (a:Addr) (m:Mode):OKW (load a m):=fun P w w' b e=>by
  unfold load at e
  simp only [Sem.run] at e
  split at e
  · cases e; rfl
  · split at e
    · cases e; rfl
    · cases e
theorem okw_sure (v:Value):OKW (Instr.sureAddr v):=by
  unfold Instr.sureAddr
  split
  · exact okw_pure _
  · exact okw_halt _
theorem okw_under (t:TypeId):OKW (underlying t):=by
  unfold underlying
  refine okw_bind okw_program fun p=>?_
  split
  · exact okw_pure _
  · exact okw_halt _
theorem okw_info (t:TypeId):OKW (typeInfo t):=by
  unfold typeInfo
  refine okw_bind okw_program fun p=>?_
  split
  · exact okw_pure _
  · exact okw_halt _
theorem okw_size (t:TypeId):OKW (sizeOf t):=by
  unfold sizeOf
  exact okw_bind (okw_info t) fun _=>okw_pure _
theorem okw_cells (a:Addr):∀ (n i:Nat) (acc:Array Value),OKW (loadCellsFrom a i n acc)
  | 0,_,_=>okw_pure _
  | n+1,i,acc=>by
    unfold loadCellsFrom
    exact okw_bind (okw_loadc _ _) fun v=>okw_cells a n (i+1) (acc.push v)
theorem okw_load (t:TypeId) (v:Value):OKW (Instr.loadAt t v):=by
  unfold Instr.loadAt loadVar isAgg
  refine okw_bind (okw_sure v) fun a=>okw_bind ?_ fun b=>?_
  · refine okw_bind (okw_under t) fun u=>?_
    split <;> exact okw_pure _
  · split
    · exact okw_bind (okw_size t) fun n=>okw_bind (okw_cells a n 0 #[]) fun _=>okw_pure _
    · exact okw_loadc a _
theorem okw_asInt (v:Value):OKW (asIntOf v):=by
  unfold asIntOf
  split
  · exact okw_pure _
  · exact okw_halt _
  · exact okw_halt _
theorem okw_index (t:TypeId) (x y:Value):OKW (Instr.indexAt t x y):=by
  unfold Instr.indexAt
  refine okw_bind (okw_asInt y) fun k=>?_
  refine okw_bind (okw_under t) fun u=>?_
  have hj:∀ z:Option Addr×Nat×TypeId,OKW (match z with
      | (base,len,elem)=>do
        let tiny:=len≤1&&(match ← underlying t with | .array ..=>true | _=>false)
        match base with
        | some a =>
          if 0≤k.2∧k.2<len then pure (.pointer (some (a.add (k.2.toNat*(← sizeOf elem)))))
          else if tiny then unsupported (.noEntry "op/indexAddr.an index out of range at an array of length 0 or 1 (ledger 616)")
          else boundsPanic k.1 k.2 len .index
        | none=>boundsPanic k.1 k.2 0 .index:Sem Value):=by
    rintro ⟨base,len,elem⟩
    refine okw_bind (okw_under t) fun u2=>?_
    dsimp only
    split
    · split
      · exact okw_bind (okw_size _) fun _=>okw_pure _
      · have hn:OKW (boundsPanic k.1 k.2 len .index:Sem Value):=okw_bounds _ _ _ _
        split
        · split
          · exact okw_halt _
          · exact hn
        · split
          · exact okw_halt _
          · exact hn
    · exact okw_bounds _ _ _ _
  dsimp only
  split
  · exact okw_bind (okw_sure _) fun _=>okw_bind (okw_pure _) hj
  · exact okw_bind (okw_pure _) hj
  · exact okw_bind (okw_halt _) hj
theorem okw_extract (v:Value) (i:Nat):OKW (Instr.extract v i):=by
  unfold Instr.extract
  split
  · split
    · exact okw_pure _
    · exact okw_halt _
  · exact okw_halt _
theorem okw_getObj (r:Nat):OKW (getObj r):=fun P w w' b e=>by
  unfold getObj at e
  simp only [Sem.run] at e
  split at e
  · cases e
  · cases e; rfl
  · cases e
theorem okw_view (r:Nat):OKW (viewAt r):=by
  unfold viewAt
  refine okw_bind (okw_shape r) fun s=>?_
  split
  · exact okw_pure _
  · refine okw_bind (okw_getObj _) fun z=>?_
    split <;> exact okw_pure _
theorem okw_byte (a:Addr):OKW (byteOf a):=by
  unfold byteOf
  split
  · exact okw_pure _
  · refine okw_bind okw_program fun p=>okw_bind ?_ fun _=>okw_bind (okw_shape _) fun z=>?_
    · unfold noView
      refine okw_bind (okw_view _) fun v=>?_
      split
      · exact okw_halt _
      · exact okw_pure _
    · split
      · dsimp only
        split
        · exact okw_pure _
        · split
          · exact okw_pure _
          · exact okw_halt _
      · exact okw_halt _
theorem okw_field (t:TypeId) (v:Value) (i:Nat):OKW (Instr.fieldAt t v i):=by
  unfold Instr.fieldAt
  refine okw_bind (okw_under t) fun u=>?_
  split
  · split
    · refine okw_bind (okw_sure v) fun a=>okw_bind ?_ fun _=>okw_pure _
      unfold fieldPlace
      refine okw_bind (okw_size _) fun n=>?_
      split
      · unfold partAt
        refine okw_bind (okw_byte _) fun b=>?_
        dsimp only
        refine okw_bind (okw_byte _) fun b2=>?_
        split <;> exact okw_pure _
      · exact okw_pure _
    · exact okw_halt _
  · exact okw_halt _
def lookO (o:Oper):Bool:=match o.op with
  | .move _ | .assign _ | .load .. | .indexAddr .. | .extract .. | .fieldAddr ..=>true
  | _=>false
theorem okw_v {x:Sem Value} (h:OKW x):OKW (do pure (Next.value (← x)):Sem Next):=okw_bind h fun _=>okw_pure _
theorem okw_op {o:Oper} (h:lookO o=true) (e:Operand→Value):OKW (execOp e o):=by
  unfold lookO at h
  unfold execOp
  dsimp only
  split at h
  case h_1 x hx=>rw [hx]; exact okw_pure _
  case h_2 x hx=>rw [hx]; exact okw_pure _
  case h_3 t x hx=>rw [hx]; exact okw_v (okw_load _ _)
  case h_4 t x y hx=>rw [hx]; exact okw_v (okw_index _ _ _)
  case h_5 x i hx=>rw [hx]; exact okw_v (okw_extract _ _)
  case h_6 s x j hx=>rw [hx]; exact okw_v (okw_field _ _ _)
  case h_7=>cases h
theorem oper_keep {P:Program} {o:Oper} (h:lookO o=true) {a:Act} {w:World} {K:Act→World→Prop} {Q:Exit→Act→World→Prop} (hh:o.wp P a w K Q):o.wp P a w (fun a' w'=>w'=w∧K a' w') Q:=by
  have hk:=okw_op h a.eval P w
  unfold Oper.wp at *
  have hnc:∀ n w',(execOp a.eval o).run P w=.ok n w'→∃ v,n=.value v:=by
    intro n w' e
    unfold lookO at h
    unfold execOp at e
    dsimp only at e
    split at h
    case h_7=>cases h
    all_goals
      rename_i hx
      rw [hx] at e
      first
        | (cases e; exact ⟨_,rfl⟩)
        | (dsimp only at e
           rw [Sem.run_bind] at e
           generalize Sem.run P _ w=r at e
           cases r with
           | ok v w1=>cases e; exact ⟨_,rfl⟩
           | halt c w1=>cases e)
  generalize (execOp a.eval o).run P w=r at *
  cases r with
  | ok n w' =>
    obtain ⟨v,rfl⟩:=hnc n w' rfl
    exact ⟨hk w' _ rfl,hh⟩
  | halt x w'=>cases x <;> simp only [Oper.upon] at hh ⊢ <;> exact hh
section
variable {P:Program} {ops:Array Oper} {Q:Exit→Act→World→Prop} {md:Region.Mode} {S:World→Prop}
theorem op_keep {j:Nat} {o:Oper} (hj:ops[j]?=some o) (h:lookO o=true) {a:Act} {w:World} {K:Act→World→Prop} (hh:wpOp P ops Q j K a w):wpOp P ops Q j (fun a' w'=>w'=w∧K a' w') a w:=by
  unfold wpOp at *
  simp only [hj] at *
  split
  · rename_i hw
    simp only [hw,if_true] at hh
    exact hh.imp (oper_keep h) id
  · rename_i hw
    simp only [hw] at hh
    exact ⟨trivial,hh⟩
def waitsB (md:Region.Mode) (ops:Array Oper) (i:Nat) (D:List Nat):Bool:=D.all fun j=>match ops[j]? with
  | some o=>o.after.any fun e=>Region.binds md e&&(i::D).contains e.on
  | none=>true
def quietB (ops:Array Oper) (listed:Array Bool) (i:Nat) (D:List Nat):Bool:=(List.range ops.size).all fun j=>j==i||D.contains j||listed.getD j true||match ops[j]? with
  | some o=>lookO o
  | none=>true
theorem first_now {i:Nat} {oi:Oper} {v:Value} {D:List Nat} (hi:ops[i]?=some oi) (hsel:∀ (j:Nat) (o:Oper) cs b,ops[j]?=some o→o.op≠.select cs b)
    (hQ:∀ c a w,Q (.panic c) (a.put oi.dst v) w→Q (.panic c) a w) (hD:∀ (j:Nat) (o:Oper),j∈D→ops[j]?=some o→∃ e∈o.after,Region.binds md e=true∧e.on∈i::D) (w:World) (hS:S w) :
    ∀ (fuel:Nat) (listed:Array Bool) (a:Act),
      (∀ j oj,ops[j]?=some oj→j≠i→listed.getD j true=false→(∀ e∈oj.after,Region.binds md e=true→e.on≠i)→oi.apart ops oj=true) →
      (∀ j∈i::D,listed.getD j false=false) →
      (∀ j oj,ops[j]?=some oj→j≠i→j∉D→listed.getD j true=false→lookO oj=true) →
      i∈Region.ready md ops listed→YieldsIf P ops (fun w'=>w'=w) oi v a →
      wpAnyH P md ops Q S fuel (listed.setIfInBounds i true) (a.put oi.dst v) w→wpAnyH P md ops Q S (fuel+1) listed a w:=by
  intro fuel
  induction fuel with
  | zero =>
    intro listed a _ _ _ hr hy H
    refine ⟨fun h=>(by rw [h] at hr; cases hr),fun j hj=>?_⟩
    by_cases hji:j=i
    · subst hji; exact hy.wpOp hi rfl ⟨hS,H⟩
    · have:=ready_mono hj hji
      rw [H.1] at this
      cases this
  | succ fuel ih =>
    intro listed a hfree hun hlook hr hy H
    refine ⟨fun h=>(by rw [h] at hr; cases hr),fun j hj=>?_⟩
    by_cases hji:j=i
    · subst hji; exact hy.wpOp hi rfl ⟨hS,H⟩
    · have h1:=H.2 j (ready_mono hj hji)
      obtain ⟨hjun,oj,hoj,hall⟩:=mem_ready.1 hj
      have hnot:∀ e∈oj.after,Region.binds md e=true→e.on≠i:=fun e he hb heq=>by
        have h1:=hall e he hb
        rw [heq,hun i (.head _)] at h1
        cases h1
      have hjD:j∉D:=fun hjd=>by
        obtain ⟨e,he,hb,hm⟩:=hD j oj hjd hoj
        have h1:=hall e he hb
        rw [hun _ hm] at h1
        cases h1
      have h2:=op_keep hoj (hlook j oj hoj hji hjD hjun) (wpOp_putIf hoj (hfree j oj hoj hji hjun hnot) (fun cs b=>hsel i oi cs b hi) (fun cs b=>hsel j oj cs b hoj) hQ hy h1)
      have hfree':∀ k ok,ops[k]?=some ok→k≠i→(listed.setIfInBounds j true).getD k true=false →
          (∀ e∈ok.after,Region.binds md e=true→e.on≠i)→oi.apart ops ok=true:=fun k ok hk hki hun' hno=>by
        refine hfree k ok hk hki ?_ hno
        by_cases hjk:j=k
        · subst hjk; exact hjun
        · rw [getD_set_ne true hjk] at hun'; exact hun'
      have hlook':∀ k ok,ops[k]?=some ok→k≠i→k∉D→(listed.setIfInBounds j true).getD k true=false→lookO ok=true:=fun k ok hk hki hkD hun'=>by
        refine hlook k ok hk hki hkD ?_
        by_cases hjk:j=k
        · subst hjk; exact hjun
        · rw [getD_set_ne true hjk] at hun'; exact hun'
      have hun2:∀ k∈i::D,(listed.setIfInBounds j true).getD k false=false:=fun k hk=>by
        have hjk:j≠k:=fun e=>by
          subst e
          rcases List.mem_cons.1 hk with e | e
          · exact hji e
          · exact hjD e
        rw [getD_set_ne false hjk]; exact hun k hk
      refine wpOp_mono (fun a' w' h3=>?_) h2
      obtain ⟨rfl,h3,h4,h5⟩:=h3
      refine ⟨hS,ih (listed.setIfInBounds j true) a' hfree' hun2 hlook' (ready_mono hr (Ne.symm hji)) h3 ?_⟩
      rw [Array.setIfInBounds_comm _ _ hji]
      exact h5
theorem waits_spec {i:Nat} {D:List Nat} (h:waitsB md ops i D=true) (j:Nat) (o:Oper) (hj:j∈D) (ho:ops[j]?=some o):∃ e∈o.after,Region.binds md e=true∧e.on∈i::D:=by
  have h1:=List.all_eq_true.1 h j hj
  rw [ho] at h1
  obtain ⟨e,he,hb⟩:=Array.any_eq_true'.1 h1
  rw [Bool.and_eq_true] at hb
  exact ⟨e,he,hb.1,by simpa using hb.2⟩
theorem quiet_spec {i:Nat} {D:List Nat} {listed:Array Bool} (h:quietB ops listed i D=true) (j:Nat) (o:Oper) (ho:ops[j]?=some o) (hji:j≠i) (hD:j∉D) (hu:listed.getD j true=false):lookO o=true:=by
  have h1:=List.all_eq_true.1 h j (List.mem_range.2 (Array.getElem?_eq_some_iff.1 ho).1)
  simp only [ho,hu,Bool.or_false,Bool.or_eq_true,beq_iff_eq,hji,false_or] at h1
  rcases h1 with h1 | h1
  · exact absurd (by simpa using h1) hD
  · exact h1
end
section
variable {P:Program} {n:Nat} {N:FW} {f:Nat→Value} {w:World} {ops:Array Oper} {o:Oper} {S:World→Prop}
theorem ra_now (i t:Nat) (D:List Nat) {fuel:Nat} {listed:Array Bool} {v:Value} (hi:ops[i]?=some o) (hS:S w) (hy:Y P n f w o v) (k:RA P n ops N S fuel (listed.setIfInBounds i true) (upd f t v) w)
    (hg:o.guard=none:=by exact rfl) (hd:o.dst=some t:=by exact rfl) (hs:Region.noSelect ops=true:=by kernel_rfl) (hf:Region.free .any ops listed i=true:=by kernel_rfl)
    (hr:(Region.ready .any ops listed).contains i=true:=by kernel_rfl) (hw:waitsB .any ops i D=true:=by kernel_rfl) (hq:quietB ops listed i D=true:=by kernel_rfl) (hu:(i::D).all (fun j=>!listed.getD j false)=true:=by kernel_rfl):RA P n ops N S (fuel+1) listed f w:=by
  refine first_now hi (Region.noSelect_spec hs) (fun _ _ _ h=>h) (waits_spec hw) w hS fuel listed _ (Region.free_spec hi hf) (fun j hj=>?_) (quiet_spec hq) (by simpa using hr) (v:=v) (.inl ⟨by simp [Region.wanted,hg],fun w' hw'=>?_⟩) ?_
  · have:=List.all_eq_true.1 hu j hj
    simpa using this
  · rw [A_eval,hw']; exact hy
  · rw [A_put,hd]; exact k
end
end Go.VK
