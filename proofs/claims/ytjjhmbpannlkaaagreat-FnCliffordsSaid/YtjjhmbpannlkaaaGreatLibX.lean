/- Rows of rows that are all our own: a group behind the single objects. Plain lemmas over any program. -/
import Derived.Test.YtjjhmbpannlkaaaGreatLibW
namespace Go.VK
open Go.RowKit
section
variable {P:Program} {w0 w:World} {M:List Nat} {L pre G xs:List Ob} {R:List Ro}
theorem ST.perm {L':List Ob} (hS:ST w0 M w L R) (h:L.Perm L'):ST w0 M w L' R:=by
  refine ⟨hS.os,hS.tape,hS.output,hS.size,hS.frame,fun o ho=>hS.own o (h.mem_iff.2 ho),fun o ho=>hS.home o (h.mem_iff.2 ho),?_,hS.ro,fun r hr hne a ha=>⟨(hS.roblk r hr hne a ha).1,fun o ho=>(hS.roblk r hr hne a ha).2 o (h.mem_iff.2 ho)⟩⟩
  refine h.pairwise hS.apart (fun {x y} hxy=>?_)
  intro g hg hx
  exact hxy g hx hg
theorem ST.rot (hS:ST w0 M w ((pre++G)++xs) R):ST w0 M w (pre++(xs++G)) R:=by
  refine hS.perm ?_
  rw [List.append_assoc]
  exact List.Perm.append_left pre List.perm_append_comm
theorem ST.outG (hS:ST w0 M w (pre++G) R) (mask:List Bool) {Ms:List Ob} (hM:msk mask pre=Ms) {w':World} {Lc:List Ob} {Rc:List Ro} (hc:ST w (bl Ms) w' Lc Rc):ST w0 M w' (nmsk mask pre++(Lc++G)) R:=by
  subst hM
  have h:=hS.leave (L':=nmsk mask pre++G) hc (fun x hx=>List.mem_append_left _ ((mk_sub mask pre).subset hx)) ((nmk_sub mask pre).append (List.Sublist.refl G)) (fun o ho x hx g hg=>by
    have hap:=List.pairwise_append.1 hS.apart
    rcases List.mem_append.1 ho with ho | ho
    · exact mk_apart mask pre hap.1 o ho x hx g hg
    · exact hap.2.2 x ((mk_sub mask pre).subset hx) o ho g hg)
  exact h.rot
end
end Go.VK
