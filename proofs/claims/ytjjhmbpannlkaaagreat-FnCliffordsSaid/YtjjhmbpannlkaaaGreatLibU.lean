/- copy between rows, and keys that are strings. Plain lemmas over any program. -/
import Derived.Test.YtjjhmbpannlkaaaGreatLibS
import Derived.Test.YtjjhmbpannlkaaaGreatLibP
namespace Go.VK
open Go.RowKit
theorem CF.pre {w:World} {B:Option Addr} {cs cs':List Value} (h:CF w B cs) (hp:cs' <+: cs):CF w B cs':=by
  obtain ⟨t,rfl⟩:=hp
  refine ⟨fun hne=>h.1 (fun e=>hne (List.append_eq_nil_iff.1 e).1),fun j u hu=>h.2 j u ?_⟩
  rw [List.getElem?_append_left (List.getElem?_eq_some_iff.1 hu).1]; exact hu
theorem pre_take {α:Type} {enc:α→List Value} (l:List α) (k:Nat):(l.take k).flatMap enc <+: l.flatMap enc:=by
  refine ⟨(l.drop k).flatMap enc,?_⟩
  rw [← List.flatMap_append,List.take_append_drop]
section
variable {P:Program} {n:Nat} {f:Nat→Value} {w0 w:World} {M:List Nat} {L L':List Ob} {R:List Ro} {o:Oper} {T e:TypeId} {x y:Operand}
theorem run_first {X:Option Addr} {cs:List Value} {k c2 s nn:Nat} (hX:CF w X cs) (hl:cs.length=nn*s):(Builtin.firstCells s nn (.slice X k c2)).run P w=.ok cs.toArray w:=by
  cases X with
  | none =>
    have hcs:cs=[]:=Classical.byContradiction fun h=>by have:=hX.1 h; cases this
    subst hcs
    rfl
  | some a =>
    have:=run_loadCells_list (P:=P) w a cs (fun j v h=>hX.2 j v h)
    rw [hl] at this
    exact this
end
end Go.VK
