/- Maps that are objects of ours: made, written, asked, struck from. Plain lemmas over any program. -/
import Derived.Test.YtckobcclloialaaGreatLibJ
namespace Go.VK
open Go.RowKit

structure KeyE (P:Program) (kt:TypeId) {α:Type} (kE:α→Value):Prop where
  inj:∀ a b,kE a=kE b→a=b
  check:∀ (w:World) em a,(Instr.checkKey em 10000 kt (kE a)).run P w=.ok () w
  find:∀ (w:World) a (es:List MapEntry),(∀ e∈es,∃ x,e.key=kE x) →
    ((Instr.findKey kt (kE a) es).run P w=.ok none w∧∀ e∈es,e.key≠kE a)∨∃ j e,(Instr.findKey kt (kE a) es).run P w=.ok (some (j,e.val)) w∧es[j]?=some e∧e.key=kE a
  stays:∀ (w:World) a,(Instr.keyThatStays (kE a) (kE a)).run P w=.ok (kE a) w
section
variable {α β:Type} [DecidableEq α] {kE:α→Value} {vE:β→Value}
section
variable {P:Program} {n:Nat} {f:Nat→Value} {w0 w:World} {M:List Nat} {L L':List Ob} {R:List Ro} {o:Oper} {T kt et:TypeId} {x y z:Operand} {l:List (α×β)} {g i:Nat}
theorem ST.map (hS:ST w0 M w L R) {lv:List (Value×Value)} (hi:L[i]?=some ⟨some ⟨g,0,none⟩,.mp lv,[],0⟩):∃ es ck,w.heap[g]?=some (.map es ck)∧MapIs es ck lv:=by
  rcases hS.own _ (List.mem_of_getElem? hi) with ⟨h,_⟩ | ⟨_,h,_⟩ | ⟨l,h,_,_,g',es,ck,h1,h2,h3⟩ | ⟨_,h,_⟩
  · cases h
  · cases h
  · simp only [Kd.mp.injEq] at h
    subst h
    simp only [Option.some.injEq,Addr.mk.injEq] at h1
    obtain ⟨rfl,_⟩:=h1
    exact ⟨es,ck,h2,h3⟩
  · cases h
end
end
end Go.VK
