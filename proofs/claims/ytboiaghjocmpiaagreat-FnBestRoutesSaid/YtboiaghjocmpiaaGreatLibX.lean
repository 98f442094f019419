/- Rows of rows that are all our own: a group behind the single objects. Plain lemmas over any program. -/
import Derived.Test.YtboiaghjocmpiaaGreatLibW
namespace Go.VK
open Go.RowKit
section
variable {P:Program} {w0 w:World} {M:List Nat} {L pre G xs:List Ob} {R:List Ro}
theorem ST.perm {L':List Ob} (hS:ST w0 M w L R) (h:L.Perm L'):ST w0 M w L' R:=by
  refine ⟨hS.os,hS.tape,hS.output,hS.size,hS.frame,fun o ho=>hS.own o (h.mem_iff.2 ho),fun o ho=>hS.home o (h.mem_iff.2 ho),?_,hS.ro,fun r hr hne a ha=>⟨(hS.roblk r hr hne a ha).1,fun o ho=>(hS.roblk r hr hne a ha).2 o (h.mem_iff.2 ho)⟩⟩
  refine h.pairwise hS.apart (fun {x y} hxy=>?_)
  intro g hg hx
  exact hxy g hx hg
theorem ST.rot (hS:ST w0 M w ((pre++G)++xs) R):ST w0 M w (pre++(xs++G)) R:=by
  refine hS.perm ?_
  rw [List.append_assoc]
  exact List.Perm.append_left pre List.perm_append_comm
theorem ST.selG (hS:ST w0 M w (pre++G) R) (is:List Nat) (hn:decide is.Nodup=true) (hb:is.all (fun i=>(pre[i]?).isSome)=true):ST w0 M w ((is.filterMap fun i=>pre[i]?)++G) R:=by
  have hlt:∀ i∈is,i<pre.length:=fun i hi=>by
    have:=List.all_eq_true.1 hb i hi
    obtain ⟨o,ho⟩:=Option.isSome_iff_exists.mp this
    exact (List.getElem?_eq_some_iff.1 ho).1
  have hn':is.Nodup:=of_decide_eq_true hn
  refine hS.pick (is++(List.range G.length).map (·+pre.length)) (decide_eq_true ?_) ?_
  · rw [List.nodup_append]
    refine ⟨hn',?_,fun a ha b hb' e=>?_⟩
    · refine List.Pairwise.map _ (fun a b h=>?_) List.nodup_range
      intro e
      exact h (by omega)
    · obtain ⟨c,_,rfl⟩:=List.mem_map.1 hb'
      have:=hlt a ha
      omega
  · rw [List.map_append,List.map_append]
    congr 1
    · clear hn hn'
      induction is with
      | nil=>rfl
      | cons i is ih =>
        simp only [List.all_cons,Bool.and_eq_true] at hb
        obtain ⟨o,ho⟩:=Option.isSome_iff_exists.mp hb.1
        have h1:(pre++G)[i]?=some o:=by rw [List.getElem?_append_left (hlt i (.head _)),ho]
        simp only [List.map_cons,h1,ho,List.filterMap_cons,List.cons.injEq,true_and]
        exact ih hb.2 (fun j hj=>hlt j (.tail _ hj))
    · apply List.ext_getElem?
      intro j
      rw [List.getElem?_map,List.getElem?_map,List.getElem?_map]
      by_cases hj:j<G.length
      · rw [List.getElem?_range hj,List.getElem?_eq_getElem hj]
        simp [List.getElem?_append_right]
      · rw [List.getElem?_eq_none (l:=List.range G.length) (by simp; omega),List.getElem?_eq_none (l:=G) (by omega)]
        rfl
theorem ST.outG (hS:ST w0 M w (pre++G) R) (mask:List Bool) {Ms:List Ob} (hM:msk mask pre=Ms) {w':World} {Lc:List Ob} {Rc:List Ro} (hc:ST w (bl Ms) w' Lc Rc):ST w0 M w' (nmsk mask pre++(Lc++G)) R:=by
  subst hM
  have h:=hS.leave (L':=nmsk mask pre++G) hc (fun x hx=>List.mem_append_left _ ((mk_sub mask pre).subset hx)) ((nmk_sub mask pre).append (List.Sublist.refl G)) (fun o ho x hx g hg=>by
    have hap:=List.pairwise_append.1 hS.apart
    rcases List.mem_append.1 ho with ho | ho
    · exact mk_apart mask pre hap.1 o ho x hx g hg
    · exact hap.2.2 x ((mk_sub mask pre).subset hx) o ho g hg)
  exact h.rot
theorem ST.outRG {Rs Rc:List Ro} (hS:ST w0 M w (pre++G) R) (mask:List Bool) {Ms Lc:List Ob} (hM:msk mask pre=Ms) {w':World} (hc:ST w (bl Ms) w' Lc Rc) (ho:Org w (bl Ms) Rs Rc) (hs:∀ r∈Rs,r∈R):ST w0 M w' (nmsk mask pre++(Lc++G)) (Rc++R):=by
  subst hM
  have hap:∀ o∈nmsk mask pre++G,∀ x∈msk mask pre,∀ g,x.blk=some g→o.blk≠some g:=fun o ho x hx g hg=>by
    have hap:=List.pairwise_append.1 hS.apart
    rcases List.mem_append.1 ho with ho | ho
    · exact mk_apart mask pre hap.1 o ho x hx g hg
    · exact hap.2.2 x ((mk_sub mask pre).subset hx) o ho g hg
  have hsub:(nmsk mask pre++G).Sublist (pre++G):=(nmk_sub mask pre).append (List.Sublist.refl G)
  have h2:=hS.leave (L':=nmsk mask pre++G) hc (fun x hx=>List.mem_append_left _ ((mk_sub mask pre).subset hx)) hsub hap
  exact (ST.addR hS (fun o ho=>hsub.subset ho) hc hap ho hs h2).rot
theorem rep_snd {β:Type} {η:Type} {h:η} {x:β} (n:Nat):(List.replicate n (h,x)).map Prod.snd=List.replicate n x:=by simp
theorem set_snd {β:Type} {η:Type} {D:List (η×β)} {l:List β} (h:D.map Prod.snd=l) (k:Nat) (p:η×β):(D.set k p).map Prod.snd=l.set k p.2:=by rw [List.map_set,h]
end
section
variable {P:Program} {α:Type} {enc:α→List Value} {w0 w:World} {M:List Nat} {L pre:List Ob} {R:List Ro} {T e:TypeId} {s:Nat} {D:List (Hd×List α)}
def orow (T:TypeId) (enc:α→List Value) (s:Nat) (p:Hd×List α):Ob:=⟨p.1.1,T,p.2.flatMap enc,p.1.2*s⟩
theorem ST.addRows (hS:ST w0 M w L R) (T:TypeId) (s:Nat):∀ (n:Nat),ST w0 M w (L++(List.replicate n (((none,0),[]):Hd×List α)).map (orow T enc s)) R
  | 0=>by simpa using hS
  | n+1=>by
    have h:=(hS.addRows T s n).addNil T
    have e:(List.replicate (n+1) (((none,0),[]):Hd×List α)).map (orow T enc s)=(List.replicate n (((none,0),[]):Hd×List α)).map (orow T enc s)++[⟨none,T,[],0⟩]:=by
      rw [List.replicate_succ',List.map_append]
      simp [orow]
    rw [e,← List.append_assoc]
    exact h
theorem row_at {k:Nat} {p:Hd×List α} (h:D[k]?=some p):(pre++D.map (orow T enc s))[pre.length+k]?=some (orow T enc s p):=by
  rw [List.getElem?_append_right (by omega),show pre.length+k-pre.length=k by omega,List.getElem?_map,h]; rfl
theorem row_set {k:Nat} {p:Hd×List α}:(pre++D.map (orow T enc s)).set (pre.length+k) (orow T enc s p)=pre++(D.set k p).map (orow T enc s):=by
  rw [List.set_append_right _ _ (by omega),show pre.length+k-pre.length=k by omega,List.map_set]
theorem row_ofI {i:Int} {p:Hd×List α} (h:getI D i=some p):D[i.toNat]?=some p:=getI_some h
theorem srcRow {N:List Ob} {i:Int} {B:Option Addr} {c:Nat} {x:List α} {l:List Ro} (h:getI D i=some ((B,c),x)) (h':∀ r∈l,r∈R∨∃ o∈N++D.map (orow T enc s),r=⟨o.B,o.cs⟩):∀ r∈(⟨B,x.flatMap enc⟩::l:List Ro),r∈R∨∃ o∈N++D.map (orow T enc s),r=⟨o.B,o.cs⟩:=fun r hr=>by
  rcases List.mem_cons.1 hr with rfl | hr
  · exact .inr ⟨_,List.mem_of_getElem? (row_at (pre:=N) (T:=T) (enc:=enc) (s:=s) (row_ofI h)),rfl⟩
  · exact h' r hr
def AppRow (w0:World) (M:List Nat) (pre:List Ob) (R:List Ro) (T:TypeId) (enc:α→List Value) (s:Nat) (D:List (Hd×List α)) (i:Int) (l':List α) (v:Value) (w':World):Prop :=
  ∃ B c,v=.slice B l'.length c∧ST w0 M w' (pre++(D.set i.toNat ((B,c),l')).map (orow T enc s)) R
theorem Ys_appendRow {n:Nat} {f:Nat→Value} {o:Oper} {x y:Operand} {by' c k c2:Nat} {z:Value} {B X:Option Addr} {l xs:List α} {i:Int} (hS:ST w0 M w (pre++D.map (orow e enc s)) R) (hT:sliceB P T e=true) (hs:sizeB P e s=true) (hby:bytesB P e by'=true)
    (hz:(P.info? e).map (·.zero)=some (some z)) (hzs:z.cells.size=s) (hs0:0<s) (ho:o.op=.call ⟨.builtin .append,#[x,y],#[T,T]⟩) (hx:ev n f x=.slice B l.length c) (hy:ev n f y=.slice X k c2)
    (hi:getI D i=some ((B,c),l)) (he:∀ a,(enc a).length=s) (h1:∀ a,one (enc a)=true) (hX:CF w X (xs.flatMap enc)) (hxl:xs.length=k) (hb:(l.length+k)*by'≤140737488355328) (h63:l.length+k≤maxLen) :
    Ys P n f w o (AppRow w0 M pre R e enc s D i (l++xs)):=by
  have h:=Ys_append (i:=pre.length+i.toNat) (len:=(l++xs).length) (cs:=l.flatMap enc) (m:=c*s) (cs':=(l++xs).flatMap enc) hS hT hs hby hz hzs hs0 ho hx hy (row_at (row_ofI hi)) (fm_lenn he rfl) rfl hX (fm_lenn he hxl) (fm_one' h1 xs) hb h63 (fm_app l xs) (by rw [List.length_append,hxl])
  obtain ⟨v,w',hr,B',c',hv,hST⟩:=h
  refine ⟨v,w',hr,B',c',hv,?_⟩
  have e2:=row_set (pre:=pre) (D:=D) (T:=e) (enc:=enc) (s:=s) (k:=i.toNat) (p:=((B',c'),l++xs))
  rw [← e2]
  exact hST
end
end Go.VK
