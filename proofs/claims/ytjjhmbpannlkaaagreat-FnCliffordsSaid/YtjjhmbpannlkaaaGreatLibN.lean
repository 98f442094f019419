/- Views of what may only be read, and strings that are cut. Plain lemmas over any program. -/
import Derived.Test.YtjjhmbpannlkaaaGreatLibL
import Derived.Laws.Strings2
import Derived.Laws.Slices
namespace Go.VK
open Go.RowKit

theorem fm_view {α:Type} {enc:α→List Value} {s:Nat} (hs:∀ x,(enc x).length=s) (l:List α) (lo h:Nat):((l.take h).drop lo).flatMap enc=((l.flatMap enc).take (h*s)).drop (lo*s):=by
  rw [← fm_drop hs,← fm_take hs]
theorem CF.view {α:Type} {enc:α→List Value} {s:Nat} (hs:∀ x,(enc x).length=s) {w:World} {B:Option Addr} {l:List α} (hc:CF w B (l.flatMap enc)) {lo h q:Nat} (h1:lo≤h) (h2:h≤q):CF w (sv B lo q s) (((l.take h).drop lo).flatMap enc):=by
  have hne:((l.take h).drop lo).flatMap enc≠[]→l.flatMap enc≠[]∧q≠lo:=by
    intro hn
    refine ⟨fun e=>hn ?_,fun e=>hn ?_⟩
    · rw [fm_view hs,e]; simp
    · have:(l.take h).drop lo=[]:=List.drop_of_length_le (by rw [List.length_take]; omega)
      rw [this]; rfl
  refine ⟨fun hn=>?_,fun j u hu=>?_⟩
  · obtain ⟨a,b⟩:=hne hn
    have:=hc.1 a
    unfold sv
    rw [if_neg b]
    cases B with
    | none=>cases this
    | some a=>rfl
  · have hn:((l.take h).drop lo).flatMap enc≠[]:=by rintro e; rw [e] at hu; simp at hu
    obtain ⟨a,b⟩:=hne hn
    have hb:=hc.1 a
    obtain ⟨a0,rfl⟩:=Option.isSome_iff_exists.mp hb
    have hcell:w.cell? (ad (some a0) (lo*s+j))=some u:=by
      refine hc.2 _ _ ?_
      rw [fm_view hs,List.getElem?_drop,List.getElem?_take] at hu
      split at hu
      · exact hu
      · cases hu
    have e:ad (sv (some a0) lo q s) j=ad (some a0) (lo*s+j):=by
      unfold sv ad
      rw [if_neg b]
      simp only [Option.map_some,Option.getD_some]
      exact add_add' _ _ _
    rw [e]; exact hcell
theorem sv_block {B:Option Addr} {lo q s:Nat} {a:Addr} (h:sv B lo q s=some a):∃ a0,B=some a0∧a0.block=a.block:=by
  unfold sv at h
  split at h
  · exact ⟨a,h,rfl⟩
  · cases B with
    | none=>cases h
    | some a0 =>
      simp only [Option.map_some,Option.some.injEq] at h
      subst h
      refine ⟨a0,rfl,?_⟩
      unfold Addr.add
      split <;> rfl
section
variable {P:Program} {n:Nat} {f:Nat→Value} {w0 w:World} {M:List Nat} {L:List Ob} {R:List Ro} {o:Oper} {T e:TypeId} {x y:Operand}
theorem ST.view {α:Type} {enc:α→List Value} {s:Nat} (hs:∀ x,(enc x).length=s) (hS:ST w0 M w L R) {i:Nat} {B:Option Addr} {l:List α} (hi:R[i]?=some ⟨B,l.flatMap enc⟩) {lo h q:Nat} (h1:lo≤h) (h2:h≤q) {B':Option Addr} (hB:B'=sv B lo q s)
    {c:List α} (hc:c=(l.take h).drop lo):ST w0 M w L (⟨B',c.flatMap enc⟩::R):=by
  subst hB hc
  have hm:=List.mem_of_getElem? hi
  refine ⟨hS.os,hS.tape,hS.output,hS.size,hS.frame,hS.own,hS.home,hS.apart,?_,?_⟩
  · intro r hr
    rcases List.mem_cons.1 hr with rfl | hr
    · exact (hS.ro _ hm).view hs h1 h2
    · exact hS.ro r hr
  · intro r hr hne a ha
    rcases List.mem_cons.1 hr with rfl | hr
    · obtain ⟨a0,e1,e2⟩:=sv_block ha
      have hn:l.flatMap enc≠[]:=fun e=>hne (by
        show ((l.take h).drop lo).flatMap enc=[]
        rw [fm_view hs,e]; simp)
      have:=hS.roblk _ hm hn a0 e1
      rw [e2] at this
      exact this
    · exact hS.roblk r hr hne a ha
theorem take_all {α:Type} {l:List α} {n:Nat} (h:l.length=n) (lo:Nat):l.drop lo=(l.take n).drop lo:=by rw [List.take_of_length_le (by omega)]
theorem take_len {α:Type} {l:List α} {n h:Nat} (hn:l.length=n) (h2:h≤n):(l.take h).length=h:=by rw [List.length_take]; omega
theorem drop_len {α:Type} {l:List α} {n lo:Nat} (hn:l.length=n):(l.drop lo).length=n-lo:=by rw [List.length_drop,hn]
theorem Y_slice0 {hi:Option Operand} {B:Option Addr} {m c h s:Nat} (hT:sliceB P T e=true) (hs:sizeB P e s=true) (ho:o.op=.slice T x none hi none) (hx:ev n f x=.slice B m c) (hh:bnd n f hi m h) (h2:h≤c):Y P n f w o (.slice B h c):=by
  have:=Y_slice (lo:=none) (mx:=none) (l:=0) (h:=h) (q:=c) (s:=s) (w:=w) hT hs ho hx rfl hh rfl (by simp) (Nat.zero_le _) h2 (Nat.le_refl _)
  rw [sv_zero] at this
  simpa using this
theorem Y_slice1 {lo hi:Option Operand} {B:Option Addr} {m c l h s:Nat} (hT:sliceB P T e=true) (hs:sizeB P e s=true) (ho:o.op=.slice T x lo hi none) (hx:ev n f x=.slice B m c) (hh:bnd n f hi m h) (hl:bnd n f lo 0 l) (h1:l≤h) (h2:h≤c):Y P n f w o (.slice (sv B l c s) (h-l) (c-l)) :=
  Y_slice (mx:=none) hT hs ho hx rfl hh hl (by simp) h1 h2 (Nat.le_refl _)
theorem bnd_some {y:Operand} {k:IntKind} {a:Int} {d v:Nat} (h:ev n f y=.int k a) (hv:a=(v:Int)):bnd n f (some y) d v:=⟨k,a,h,hv⟩
end
end Go.VK
