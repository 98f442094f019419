/- From a row's reading of its arguments to the walks' shapes, and from the world behind the walk to what the row asks. Plain lemmas over any program. -/
import Derived.Test.YtjjhmbpannlkaaaGreatLibK
import Derived.ProofKit
import Derived.ReadAgain
import Derived.Below
import Derived.ChangeSame
import Derived.Deep.Slices
namespace Go.VK
open Go.RowKit Go.WideShapes Go.ChangeShapes Go.Deep


section
variable {H:Type} {enc:TypeId×Value→H} {P:Program} {w:World} {base:Nat} {spare:Nat→Bool} {held:Bool} {T e:TypeId} {cs:List Value} {x:DataW H×List MemPlace} {fuel:Nat}

theorem val_scal {r:Reach} {v:Value} (hT:scalB P T=true) (hv:Value.okWide P w r base T v):v.cells.toList=[v]:=by
  unfold scalB at hT
  unfold Value.okWide at hv
  cases v with
  | agg cs =>
    exfalso
    split at hT
    · cases hT
    · cases hT
    · cases hT
    · rename_i n1 n2 n3
      split at hv
      · rename_i fs hh; exact n1 _ hh
      · rename_i a b hh; exact n2 _ _ hh
      · unfold Cell.okWide at hv
        split at hv
        all_goals first | (rename_i hh; cases hh) | skip
        unfold Cell.ok at hv
        split at hv
        all_goals first | (rename_i hh; cases hh) | exact hv
  | _=>rfl
theorem ro_cons {B:Option Addr} {cs:List Value} {R:List Ro} (h:CF w B cs∧(cs≠[]→∀ a,B=some a→a.block<w.heap.size)) (hR:∀ r∈R,CF w r.B r.cs∧(r.cs≠[]→∀ a,r.B=some a→a.block<w.heap.size)) :
    ∀ r∈(⟨B,cs⟩::R:List Ro),CF w r.B r.cs∧(r.cs≠[]→∀ a,r.B=some a→a.block<w.heap.size):=by
  intro r hr
  rcases List.mem_cons.mp hr with rfl | hr
  · exact h
  · exact hR r hr
theorem cellsOf_of {s:Nat} (h:sizeB P T s=true):P.cellsOf T=s:=by
  obtain ⟨i,hi,hs⟩:=sizeB_spec h
  simp [Program.cellsOf,hi,hs]
theorem rd_u8 (ht:intB P T .u8=true) (h:DataW.trod enc P w base spare held fuel T cs=some x):∃ n,cs=[.int .u8 n]∧U8 n:=by
  obtain ⟨n,h1,_,h3⟩:=DataW.trod_int (intB_spec ht) h
  refine ⟨n,h1,?_⟩
  simpa [Lit.wf,IntKind.min,IntKind.max,IntKind.signed,IntKind.bits,U8] using h3
theorem rd_slice {α:Type} [Inhabited α] {enc1:α→List Value} {ok:α→Prop} {s:Nat} (hT:sliceB P T e=true) (hs:sizeB P e s=true) (hs0:Nat.blt 0 s=true) (hl1:∀ y,(enc1 y).length=s)
    (hel:∀ (n:Nat) cs x,DataW.trod enc P w base spare held n e cs=some x→∃ y,cs=enc1 y∧ok y) (h:DataW.trod enc P w base spare held fuel T cs=some x) :
    ∃ (B:Option Addr) (c:Nat) (l:List α),cs=[.slice B l.length c]∧(l.length≤9223372036854775807∧∀ y∈l,ok y)∧CF w B (l.flatMap enc1)∧(l.flatMap enc1≠[]→∀ a,B=some a→a.block<w.heap.size):=by
  have hs0:=Nat.blt_eq.mp hs0
  rcases open_slice (sliceB_spec hT) h with ⟨h1,_⟩ | ⟨a,len,cap,m,n,D,Pl,h1,_,hlc,hcm,hm,_,hi⟩
  · exact ⟨none,0,[],h1,⟨Nat.zero_le _,fun y hy=>by cases hy⟩,⟨fun h=>absurd rfl h,fun j u hu=>by simp at hu⟩,fun h=>absurd rfl h⟩
  · have hlm:len≤m:=by rw [hm]; split <;> omega
    rw [cellsOf_of hs] at hi
    obtain ⟨f,hf⟩:=choose_lt (n:=len) (p:=fun i (y:α)=>w.cells? base (a.add (i*s)) s=some (enc1 y)∧ok y) (fun i hil=>by
      obtain ⟨cs',hc,ht⟩:=hi i (by omega)
      obtain ⟨y,rfl,hy⟩:=hel _ _ _ ht
      exact ⟨y,hc,hy⟩)
    have hlen:((List.range len).map f).length=len:=by simp
    have hget:∀ i,i<len→((List.range len).map f).getD i default=f i:=fun i hil=>by simp [List.getD,hil]
    have hcell:∀ j u,(((List.range len).map f).flatMap enc1)[j]?=some u→w.cell? (a.add j)=some u:=by
      intro j u hu
      have hj:j<len*s:=by
        have:=(List.getElem?_eq_some_iff.1 hu).1
        rwa [fm_len hl1,hlen] at this
      have hil:j / s<len:=(Nat.div_lt_iff_lt_mul hs0).mpr hj
      have hr:j % s<s:=Nat.mod_lt _ hs0
      have hv:=List.getElem?_eq_getElem (l:=enc1 (((List.range len).map f).getD (j / s) default)) (i:=j % s) (by rw [hl1]; exact hr)
      have h2:=fm_at hl1 (l:=(List.range len).map f) (i:=j / s) (by rw [hlen]; exact hil) default hv
      rw [Nat.mul_comm,Nat.div_add_mod] at h2
      rw [hu] at h2
      obtain ⟨hc,_⟩:=hf (j / s) hil
      obtain ⟨_,_,hat⟩:=World.cells?_some hc
      have h3:=hat (j % s) hr
      rw [hget _ hil] at hv
      rw [hv,Go.Deep.add_add,Nat.mul_comm,Nat.div_add_mod] at h3
      rw [h3,← hv,h2,hget _ hil,← hv]
    refine ⟨some a,cap,(List.range len).map f,by rw [hlen]; exact h1,⟨by rw [hlen]; have:maxLen=9223372036854775807:=rfl; omega,fun y hy=>?_⟩,⟨fun _=>rfl,fun j u hu=>?_⟩,fun hne b hb=>?_⟩
    · obtain ⟨i,hi',rfl⟩:=List.mem_map.1 hy
      exact (hf i (List.mem_range.1 hi')).2
    · exact hcell j u hu
    · cases hb
      have hpos:0<(((List.range len).map f).flatMap enc1).length:=List.length_pos_iff.mpr hne
      have:=hcell 0 _ (List.getElem?_eq_getElem hpos)
      have h4:=World.block_lt_of_cell? _ _ this
      simpa [Addr.add] using h4
end
section
variable {H:Type} {enc:TypeId×Value→H} {P:Program}
theorem all_carry {w w':World} {base:Nat} {spare:Nat→Bool} {held:Bool}:∀ {ts:List TypeId} {vs:List Value} {ds:List (DataW H)} {ps:List MemPlace},DataW.TrodAll enc P w base spare held ts vs ds ps→(∀ p∈ps,w.sameAt w' p) →
    DataW.TrodAll enc P w' base spare held ts vs ds ps
  | [],[],[],_,h,_=>h
  | _::_,_::_,_::_,_,⟨p,q,⟨n,h1⟩,h2,e⟩,hs =>
    ⟨p,q,⟨n,DataW.trod_carry n _ _ _ h1 (fun x hx=>hs x (by rw [e]; exact List.mem_append_left _ hx))⟩,all_carry h2 (fun x hx=>hs x (by rw [e]; exact List.mem_append_right _ hx)),e⟩
theorem ST.below {w w':World} {L:List Ob} {R:List Ro} (h:ST w [] w' L R):Below w.heap.size w w':=⟨h.os,h.tape,h.output,h.size,fun k hk=>h.frame k hk (by simp)⟩
theorem sameAt_of {w w':World} (hb:Below w.heap.size w w') {p:MemPlace} (hp:p.block<w.heap.size):w.sameAt w' p:=by
  cases p with
  | cell b off=>exact World.cell?_of_block (hb.block b hp)
  | map b=>exact hb.block b hp
def slicesFullB (P:Program):Bool:=(List.range P.types.size).all fun t=>match P.underlying t with | some (.slice e)=>decide (0<P.cellsOf e) | _=>true
theorem post_true {f:Func} {s:ChangeSpec} {apart fresh handsOn again:Bool} {W W':World} {args:Array Value} {ds gs:List (DataW H)} {before:List MemPlace} {tb:TypeId}
    (hl:laidOutB P=true) (hm:mapsRowed P=true) (hz:slicesFullB P=true) (hps:f.params.toList.all (fun t=>decide (t<P.types.size))=true) (hr:f.resultTypes=#[tb]) (hb:P.underlying tb=some .bool)
    (hW:DataW.Whole enc P f.params.toList s.vars apart W args.toList ds gs before) (hv:s.vars=[]) (hs:s.fn H (ds++gs)={ results:=[.lit (.bool true)],args:=ds }) {L:List Ob} {R:List Ro} (hST:ST W [] W' L R) :
    s.post enc P f apart fresh handsOn again W args (.bool true) W':=by
  have hlt:∀ p∈before,p.block<W.heap.size:=fun p hp=>hW.lt p hp
  have hbl:=hST.below
  obtain ⟨p,q,hA,hV,rfl,hfz,hnd⟩:=hW
  rw [hv] at hV
  obtain ⟨rfl,rfl⟩:=trodVars_none hV
  have hT:∀ t∈f.params.toList,t<P.types.size:=fun t ht=>of_decide_eq_true (List.all_eq_true.1 hps t ht)
  have hargs:∀ sp:Nat→Bool,(∀ x∈p++[],sp x.block=true)→DataW.TrodAll enc P W' 0 sp true f.params.toList args.toList ds p:=fun sp hsp =>
    all_carry (hA.respare (kids_rows hl hm) (slices_full_of P hz) hT (fun x hx=>hsp x (by simpa using hx))) (fun x hx=>sameAt_of hbl (hlt x (by simpa using hx)))
  have hres:∀ (b:Nat) (sp:Nat→Bool) (hd:Bool),DataW.TrodAll enc P W' b sp hd f.resultTypes.toList ((Value.bool true).resultList f.resultTypes.size) [.lit (.bool true)] []:=fun b sp hd=>by
    rw [hr]; exact trodAll_mk1 (shut_bool hb _)
  have hold:∀ x∈p++[],(fun b=>decide (b<W.heap.size)) x.block=true:=fun x hx=>by simpa using hlt x hx
  have hWh:DataW.Whole enc P f.params.toList s.vars apart W args.toList ds [] (p++[]):=⟨p,[],hA,by rw [hv]; exact hV,rfl,hfz,hnd⟩
  have hvv:∀ sp,DataW.TrodVars enc P W' sp s.vars (s.fn H (ds++[])).vars []:=fun sp=>by rw [hv,hs]; rfl
  refine ⟨ds,[],p++[],[],p,[],hWh,by rw [hs]; exact hres _ _ _,by rw [hs]; exact hargs _ hold,hvv _,World.keptBut_mono (fun x hx=>⟨hx,Or.inr (by simpa using hx)⟩) (hbl.frame (·∈p++[])),fun _=>?_⟩
  refine ⟨ok_one hr rfl (okWide_bool_mk hb _),_,_,([]++p)++[],⟨[]++p,[],trodAll_append (hargs _ (fun _ _=>rfl)) (hres _ _ _),hvv _,rfl,?_,?_⟩,?_⟩
  · intro b off hp
    have hin:MemPlace.cell b off∈p++[]:=by simpa using hp
    rw [hbl.frozen (hlt _ hin)]
    exact hfz b off hin
  · intro ha
    simpa using hnd ha
  · intro x hx _
    simpa using hx
end
end Go.VK
