/- Maps of whole numbers that are made, filled and asked in one piece. Plain lemmas over any program. -/
import Derived.Test.YtjjhmbpannlkaaaGreatLibG
namespace Go.VK
open Go.RowKit

def mapB (P:Program) (T kt et:TypeId):Bool:=match P.underlying T with | some (.map k e)=>Nat.beq k kt&&Nat.beq e et | _=>false
theorem mapB_spec {P:Program} {T kt et:TypeId} (h:mapB P T kt et=true):P.underlying T=some (.map kt et):=by
  unfold mapB at h; split at h
  · rename_i k e he
    simp only [Bool.and_eq_true] at h
    rw [he,Nat.eq_of_beq_eq_true h.1,Nat.eq_of_beq_eq_true h.2]
  · cases h
structure MP (w0:World) (M:List Nat) (w:World) (L:List Ob) (R:List Ro) (g:Nat) (es:Array MapEntry) (cl:Nat):Prop where
  st:ST w0 M w L R
  here:w.heap[g]?=some (.map es cl)
  new:w0.heap.size≤g
  offL:∀ o∈L,o.blk≠some g
  offR:∀ r∈R,r.cs≠[]→∀ a,r.B=some a→a.block≠g
theorem get_map {P:Program} {w:World} {r:Nat} {es:Array MapEntry} {c:Nat} (h:w.heap[r]?=some (.map es c)):(getObj r).run P w=.ok (.map es c) w:=by simp [getObj,Sem.run,h]
theorem set_map {P:Program} {w:World} {r:Nat} {es:Array MapEntry} {c:Nat} (o:Obj) (h:w.heap[r]?=some (.map es c)):(setObj r o).run P w=.ok () { w with heap:=w.heap.setIfInBounds r o }:=by simp [setObj,Sem.run,h]
section
variable {P:Program} {n:Nat} {f:Nat→Value} {w0 w:World} {M:List Nat} {L:List Ob} {R:List Ro} {o:Oper} {T kt et:TypeId} {x y z:Operand}
theorem MP.turn {g:Nat} {es es':Array MapEntry} {cl cl':Nat} (h:MP w0 M w L R g es cl):MP w0 M { w with heap:=w.heap.setIfInBounds g (.map es' cl') } L R g es' cl':=by
  have hS:=h.st
  have hlt:g<w.heap.size:=(Array.getElem?_eq_some_iff.1 h.here).1
  have hb:∀ k,k≠g→(w.heap.setIfInBounds g (.map es' cl'))[k]?=w.heap[k]?:=fun k hk=>by rw [Array.getElem?_setIfInBounds]; rw [if_neg (fun e=>hk e.symm)]
  refine ⟨⟨hS.os,hS.tape,hS.output,by simpa using hS.size,?_,?_,hS.home,hS.apart,?_,?_⟩,?_,h.new,h.offL,h.offR⟩
  · intro k hk hm
    have:=h.new
    rw [← hS.frame k hk hm]
    exact hb k (by omega)
  · exact fun q hq=>(hS.own q hq).of_block (fun j hj=>hb j (fun e=>h.offL q hq (by rw [hj,e])))
  · exact fun r hr=>(hS.ro r hr).of_block (fun hne a ha=>hb _ (h.offR r hr hne a ha))
  · exact fun r hr hne a ha=>⟨by simpa using (hS.roblk r hr hne a ha).1,(hS.roblk r hr hne a ha).2⟩
  · show (w.heap.setIfInBounds g (.map es' cl'))[g]?=_
    rw [Array.getElem?_setIfInBounds]; simp [hlt]
theorem run_findNow {k:Value} {es:List MapEntry} {d:TypeDesc} {r:Option (Nat×Value)} (hu:P.underlying kt=some d) (h:Instr.findNow d k es 0=some r):(Instr.findKey kt k es).run P w=.ok r w:=by
  unfold Instr.findKey
  simp only [Sem.run_bind,run_underlying hu,Result.andThen_ok,h,Sem.run_pure]
theorem run_checkKey_int {b:Bool} {k k':IntKind} {a:Int} (hu:P.underlying kt=some (.int k')):(Instr.checkKey b 10000 kt (.int k a)).run P w=.ok () w:=by
  show (Instr.checkKey b (9999+1) kt (.int k a)).run P w=.ok () w
  unfold Instr.checkKey
  simp only [Sem.run_bind,run_underlying hu,Result.andThen_ok,Sem.run_pure]
end
end Go.VK
