/- Rows behind the elements of a stack, all our own. Plain lemmas over any program. -/
import Derived.Test.YtboiaghjocmpiaaGreatLibX
namespace Go.VK
open Go.RowKit
section
variable {P:Program} {w0 w:World} {M:List Nat} {L pre G:List Ob} {R:List Ro} {T:TypeId} {η β:Type} {hd:η→Hd} {rv:β→List Int} {D:List (η×β)}
theorem ST.front {o:Ob} (hS:ST w0 M w (L++[o]) R):ST w0 M w (o::L) R:=hS.perm (by
  have:=List.perm_append_comm (l₁:=L) (l₂:=[o])
  exact this)
theorem ST.tail {o:Ob} (hS:ST w0 M w (o::L) R):ST w0 M w L R:=hS.sub (List.sublist_cons_self _ _)
theorem ST.cut {i:Nat} {B:Option Addr} {cs cs':List Value} {m:Nat} (hS:ST w0 M w L R) (hi:L[i]?=some ⟨B,T,cs,m⟩) (hc:cs' <+: cs):ST w0 M w (L.set i ⟨B,T,cs',m⟩) R:=by
  have hmem:(⟨B,T,cs,m⟩:Ob)∈L:=List.mem_of_getElem? hi
  have hblk:∀ o∈L.set i ⟨B,T,cs',m⟩,∃ o'∈L,o'.blk=o.blk:=fun o ho=>by
    rcases List.mem_or_eq_of_mem_set ho with h | rfl
    · exact ⟨o,h,rfl⟩
    · exact ⟨_,hmem,rfl⟩
  refine ⟨hS.os,hS.tape,hS.output,hS.size,hS.frame,fun o ho=>?_,fun o ho g hg=>?_,?_,hS.ro,fun r hr hne a ha=>⟨(hS.roblk r hr hne a ha).1,fun o ho=>?_⟩⟩
  · rcases List.mem_or_eq_of_mem_set ho with h | rfl
    · exact hS.own o h
    · rcases (hS.own _ hmem).ty (T:=T) rfl with ⟨h1,h2,h3⟩ | ⟨g,cur,h1,h2,h3,h4⟩
      · left
        simp only at h1 h2 h3
        subst h2
        exact ⟨h1,by simpa using hc,h3⟩
      · exact Own.ofC rfl ⟨g,cur,h1,h2,h3,hc.trans h4⟩
  · obtain ⟨o',ho',e⟩:=hblk o ho
    exact hS.home o' ho' g (by rw [e]; exact hg)
  · have e:(L.set i ⟨B,T,cs',m⟩).map Ob.blk=L.map Ob.blk:=by
      apply List.ext_getElem?
      intro k
      rw [List.getElem?_map,List.getElem?_map,List.getElem?_set]
      by_cases hk:i=k
      · subst hk
        rw [if_pos rfl,hi]
        have:=(List.getElem?_eq_some_iff.1 hi).1
        rw [if_pos this]; rfl
      · rw [if_neg hk]
    have h1:(L.map Ob.blk).Pairwise (fun x y=>∀ g,x=some g→y≠some g):=by
      rw [List.pairwise_map]; exact hS.apart
    rw [← e,List.pairwise_map] at h1
    exact h1
  · obtain ⟨o',ho',e⟩:=hblk o ho
    rw [← e]
    exact (hS.roblk r hr hne a ha).2 o' ho'
end
end Go.VK
