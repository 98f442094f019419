/- Rows behind the elements of a stack, all our own. Plain lemmas over any program. -/
import Derived.Test.YtckobcclloialaaGreatLibX
namespace Go.VK
open Go.RowKit
section
variable {P:Program} {w0 w:World} {M:List Nat} {L pre G:List Ob} {R:List Ro} {T:TypeId} {η β:Type} {hd:η→Hd} {rv:β→List Int} {D:List (η×β)}
def trow (T:TypeId) (hd:η→Hd) (rv:β→List Int) (p:η×β):Ob:=⟨(hd p.1).1,T,(rv p.2).flatMap encI,(hd p.1).2*1⟩
theorem trow_at {k:Nat} {p:η×β} (h:D[k]?=some p):(pre++D.map (trow T hd rv))[pre.length+k]?=some (trow T hd rv p):=by
  rw [List.getElem?_append_right (by omega),show pre.length+k-pre.length=k by omega,List.getElem?_map,h]; rfl
theorem trow_set {k:Nat} {p:η×β}:(pre++D.map (trow T hd rv)).set (pre.length+k) (trow T hd rv p)=pre++(D.set k p).map (trow T hd rv):=by
  rw [List.set_append_right _ _ (by omega),show pre.length+k-pre.length=k by omega,List.map_set]
theorem ST.front {o:Ob} (hS:ST w0 M w (L++[o]) R):ST w0 M w (o::L) R:=hS.perm (by
  have:=List.perm_append_comm (l₁:=L) (l₂:=[o])
  exact this)
theorem ST.tail {o:Ob} (hS:ST w0 M w (o::L) R):ST w0 M w L R:=hS.sub (List.sublist_cons_self _ _)
theorem ST.tcf {k:Nat} {p:η×β} (hS:ST w0 M w (pre++D.map (trow T hd rv)) R) (h:D[k]?=some p):CF w (hd p.1).1 ((rv p.2).flatMap encI):=(hS.own _ (List.mem_of_getElem? (trow_at (pre:=pre) (T:=T) (hd:=hd) (rv:=rv) h))).cf
theorem ST.mcf {B:Option Addr} {T:Kd} {cs:List Value} {m:Nat} (hS:ST w0 M w L R) (h:(⟨B,T,cs,m⟩:Ob)∈L):CF w B cs:=(hS.own _ h).cf
theorem ST.cut {i:Nat} {B:Option Addr} {cs cs':List Value} {m:Nat} (hS:ST w0 M w L R) (hi:L[i]?=some ⟨B,T,cs,m⟩) (hc:cs' <+: cs):ST w0 M w (L.set i ⟨B,T,cs',m⟩) R:=by
  have hmem:(⟨B,T,cs,m⟩:Ob)∈L:=List.mem_of_getElem? hi
  have hblk:∀ o∈L.set i ⟨B,T,cs',m⟩,∃ o'∈L,o'.blk=o.blk:=fun o ho=>by
    rcases List.mem_or_eq_of_mem_set ho with h | rfl
    · exact ⟨o,h,rfl⟩
    · exact ⟨_,hmem,rfl⟩
  refine ⟨hS.os,hS.tape,hS.output,hS.size,hS.frame,fun o ho=>?_,fun o ho g hg=>?_,?_,hS.ro,fun r hr hne a ha=>⟨(hS.roblk r hr hne a ha).1,fun o ho=>?_⟩⟩
  · rcases List.mem_or_eq_of_mem_set ho with h | rfl
    · exact hS.own o h
    · rcases (hS.own _ hmem).ty (T:=T) rfl with ⟨h1,h2,h3⟩ | ⟨g,cur,h1,h2,h3,h4⟩
      · left
        simp only at h1 h2 h3
        subst h2
        exact ⟨h1,by simpa using hc,h3⟩
      · exact Own.ofC rfl ⟨g,cur,h1,h2,h3,hc.trans h4⟩
  · obtain ⟨o',ho',e⟩:=hblk o ho
    exact hS.home o' ho' g (by rw [e]; exact hg)
  · have e:(L.set i ⟨B,T,cs',m⟩).map Ob.blk=L.map Ob.blk:=by
      apply List.ext_getElem?
      intro k
      rw [List.getElem?_map,List.getElem?_map,List.getElem?_set]
      by_cases hk:i=k
      · subst hk
        rw [if_pos rfl,hi]
        have:=(List.getElem?_eq_some_iff.1 hi).1
        rw [if_pos this]; rfl
      · rw [if_neg hk]
    have h1:(L.map Ob.blk).Pairwise (fun x y=>∀ g,x=some g→y≠some g):=by
      rw [List.pairwise_map]; exact hS.apart
    rw [← e,List.pairwise_map] at h1
    exact h1
  · obtain ⟨o',ho',e⟩:=hblk o ho
    rw [← e]
    exact (hS.roblk r hr hne a ha).2 o' ho'
theorem ST.trowIn {k:Nat} {p:η×β} (hS:ST w0 M w (pre++D.map (trow T hd rv)) R) (h:D[k]?=some p):ST w (bl [trow T hd rv p]) w [trow T hd rv p] []:=by
  refine hS.enter ?_ (fun r hr=>by cases hr)
  exact List.singleton_sublist.2 (List.mem_of_getElem? (trow_at (pre:=pre) (T:=T) (hd:=hd) (rv:=rv) h))
theorem ST.trowOut {k:Nat} {p q:η×β} (hS:ST w0 M w (pre++D.map (trow T hd rv)) R) (h:D[k]?=some p) {w':World} (hc:ST w (bl [trow T hd rv p]) w' [trow T hd rv q] []):ST w0 M w' (pre++(D.set k q).map (trow T hd rv)) R:=by
  have hk:=(List.getElem?_eq_some_iff.1 h).1
  have hD:D=D.take k++p::D.drop (k+1):=by
    obtain ⟨h1,h2⟩:=List.getElem?_eq_some_iff.1 h
    have h3:=List.take_append_drop k D
    rw [List.drop_eq_getElem_cons h1,h2] at h3
    exact h3.symm
  have hset:D.set k q=D.take k++q::D.drop (k+1):=by
    rw [List.set_eq_take_append_cons_drop,if_pos hk]
  have hap:=hS.apart
  have hS2:=hS
  rw [hD,List.map_append,List.map_cons] at hap hS2
  rw [List.pairwise_append,List.pairwise_append,List.pairwise_cons] at hap
  have h2:=hS2.leave (L':=pre++((D.take k).map (trow T hd rv)++(D.drop (k+1)).map (trow T hd rv))) hc (fun x hx=>by
    rw [List.mem_singleton] at hx; subst hx
    exact List.mem_append_right _ (List.mem_append_right _ (.head _))) (List.Sublist.append (List.Sublist.refl _) (List.Sublist.append (List.Sublist.refl _) (List.sublist_cons_self _ _))) (fun o ho x hx g hg=>by
    rw [List.mem_singleton] at hx; subst hx
    rcases List.mem_append.1 ho with ho | ho
    · intro e
      exact hap.2.2 o ho _ (List.mem_append_right _ (.head _)) g e hg
    · rcases List.mem_append.1 ho with ho | ho
      · intro e
        exact hap.2.1.2.2 o ho _ (.head _) g e hg
      · exact hap.2.1.2.1.1 o ho g hg)
  refine h2.perm ?_
  rw [hset,List.map_append,List.map_cons,List.append_assoc]
  refine List.Perm.append_left pre ?_
  rw [List.append_assoc]
  refine List.Perm.append_left _ ?_
  exact List.perm_append_comm
end
end Go.VK
