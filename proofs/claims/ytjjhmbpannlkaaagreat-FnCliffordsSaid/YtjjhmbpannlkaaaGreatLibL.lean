/- Slices of slices; a row cut in place. Plain lemmas over any program. -/
import Derived.Test.YtjjhmbpannlkaaaGreatLibK
namespace Go.VK
open Go.RowKit

def sv (B:Option Addr) (l q s:Nat):Option Addr:=if q=l then B else B.map (·.add (l*s))
theorem sv_zero (B:Option Addr) (q s:Nat):sv B 0 q s=B:=by
  unfold sv
  split
  · rfl
  · cases B <;> simp [Addr.add]
section
variable {P:Program} {n:Nat} {f:Nat→Value} {w0 w:World} {M:List Nat} {L:List Ob} {R:List Ro} {o:Oper} {T e:TypeId} {x y:Operand}
def bnd (n:Nat) (f:Nat→Value) (b:Option Operand) (d v:Nat):Prop:=match b with
  | none=>v=d
  | some y=>∃ k a,ev n f y=.int k a∧a=(v:Int)
theorem run_bound {k:IntKind} {a:Int} {v q:Nat} (ha:a=(v:Int)) (h:v≤q) (c:BoundsCode):(Instr.sliceBound (.int k a) q c).run P w=.ok v w:=by
  subst ha
  unfold Instr.sliceBound
  have:(0:Int)≤(v:Int)∧(v:Int)≤(q:Int):=by omega
  simp [asIntOf,h]
theorem Y_slice {lo hi mx:Option Operand} {B:Option Addr} {m c l h q s:Nat} (hT:sliceB P T e=true) (hs:sizeB P e s=true) (ho:o.op=.slice T x lo hi mx) (hx:ev n f x=.slice B m c) (hq:bnd n f mx c q) (hh:bnd n f hi m h) (hl:bnd n f lo 0 l)
    (hmx:(mx.isSome&&hi.isNone)=false) (h1:l≤h) (h2:h≤q) (h3:q≤c):Y P n f w o (.slice (sv B l q s) (h-l) (q-l)):=by
  have ht:=sliceB_spec hT
  have hz:=run_sizeOf hs
  unfold Y execOp; rw [ho]
  unfold sv
  cases mx with
  | none =>
    simp only [bnd] at hq
    subst hq
    cases hi with
    | none =>
      simp only [bnd] at hh
      subst hh
      cases lo with
      | none=>simp only [bnd] at hl; subst hl; simp [hx,Instr.sliceAt,Instr.slice,Instr.sliceBounds,run_underlying ht,hz]
      | some y=>obtain ⟨k,a,e1,e2⟩:=hl; simp [hx,e1,Instr.sliceAt,Instr.slice,Instr.sliceBounds,run_underlying ht,hz,run_bound e2 h1]
    | some y1 =>
      obtain ⟨k1,a1,e3,e4⟩:=hh
      cases lo with
      | none=>simp only [bnd] at hl; subst hl; simp [hx,e3,Instr.sliceAt,Instr.slice,Instr.sliceBounds,run_underlying ht,hz,run_bound e4 h2]
      | some y=>obtain ⟨k,a,e1,e2⟩:=hl; simp [hx,e1,e3,Instr.sliceAt,Instr.slice,Instr.sliceBounds,run_underlying ht,hz,run_bound e2 h1,run_bound e4 h2]
  | some y2 =>
    obtain ⟨k2,a2,e5,e6⟩:=hq
    cases hi with
    | none=>simp at hmx
    | some y1 =>
      obtain ⟨k1,a1,e3,e4⟩:=hh
      cases lo with
      | none=>simp only [bnd] at hl; subst hl; simp [hx,e3,e5,Instr.sliceAt,Instr.slice,Instr.sliceBounds,run_underlying ht,hz,run_bound e4 h2,run_bound e6 h3]
      | some y=>obtain ⟨k,a,e1,e2⟩:=hl; simp [hx,e1,e3,e5,Instr.sliceAt,Instr.slice,Instr.sliceBounds,run_underlying ht,hz,run_bound e2 h1,run_bound e4 h2,run_bound e6 h3]
theorem ST.lencap (hS:ST w0 M w L R) {i:Nat} {B:Option Addr} {T:TypeId} {cs:List Value} {m n c s:Nat} (hi:L[i]?=some ⟨B,T,cs,m⟩) (hcs:cs.length=n*s) (hm:m=c*s) (hs0:Nat.blt 0 s=true):n≤c:=by
  have hs0:=Nat.blt_eq.mp hs0
  rcases (hS.own _ (List.mem_of_getElem? hi)).ty rfl with ⟨_,h2,_⟩ | ⟨g,cur,_,_,h3,h4⟩
  · simp only at h2
    rw [h2] at hcs
    rcases Nat.mul_eq_zero.1 hcs.symm with h | h <;> omega
  · simp only at h3 h4
    have:=h4.length_le
    simp only [Array.length_toList] at this
    rw [hcs,h3,hm] at this
    exact Nat.le_of_mul_le_mul_right this hs0
end
end Go.VK
namespace Go.VK
end Go.VK
