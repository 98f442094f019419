/- Rows of rows that are all our own: a group behind the single objects. Plain lemmas over any program. -/
import Derived.Test.YtckobcclloialaaGreatLibW
namespace Go.VK
open Go.RowKit
section
variable {P:Program} {w0 w:World} {M:List Nat} {L pre G xs:List Ob} {R:List Ro}
theorem ST.perm {L':List Ob} (hS:ST w0 M w L R) (h:L.Perm L'):ST w0 M w L' R:=by
  refine ⟨hS.os,hS.tape,hS.output,hS.size,hS.frame,fun o ho=>hS.own o (h.mem_iff.2 ho),fun o ho=>hS.home o (h.mem_iff.2 ho),?_,hS.ro,fun r hr hne a ha=>⟨(hS.roblk r hr hne a ha).1,fun o ho=>(hS.roblk r hr hne a ha).2 o (h.mem_iff.2 ho)⟩⟩
  refine h.pairwise hS.apart (fun {x y} hxy=>?_)
  intro g hg hx
  exact hxy g hx hg
end
end Go.VK
