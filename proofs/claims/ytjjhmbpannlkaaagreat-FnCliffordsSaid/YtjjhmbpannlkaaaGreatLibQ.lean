/- The library's Grow of a nil slice, as a contract of ours: an own row with room and nothing in it. -/
import Derived.Test.YtjjhmbpannlkaaaGreatLibP
import Derived.Shelf.Spec.SlicesGrow
namespace Go.VK
open Go.RowKit Go.Proofs
theorem grow_nil {P:Program} {ρ:Go.Shelf.Ren} {w0 w:World} {M:List Nat} {L:List Ob} {R:List Ro} (L4:Lays8.n4 P ρ) {z:Value} {s by' n:Nat} (hs:sizeB P (ρ.t 25) s=true) (hby:bytesB P (ρ.t 25) by'=true)
    (hz:(P.info? (ρ.t 25)).map (·.zero)=some (some z)) (hzs:z.cells.size=s) (hs0:0<s) (hb:n*by'≤140737488355328) (h63:n≤4611686018427387904) (hS:ST w0 M w L R) :
    CV P (ρ.f 4) #[.slice none 0 0,.int .i64 n] w (fun v w'=>∃ B c,v=.slice B 0 c∧ST w0 M w' (L++[⟨B,ρ.t 25,[],c*s⟩]) R):=by
  obtain ⟨inf,hinf,hsz⟩:=sizeB_spec hs
  obtain ⟨inf',hinf',hbz⟩:=bytesB_spec hby
  have:inf'=inf:=Option.some.inj (hinf'.symm.trans hinf)
  subst this
  have hzero:inf'.zero=some z:=by rw [hinf] at hz; simpa using hz
  have hnil:=hS.addNil (ρ.t 25)
  by_cases h0:n=0
  · subst h0
    refine Calls.mono (Any8.slices_Grow_room L4 none 0 0 0 w (by omega) (by omega) (by omega) (by omega)) (fun e w' he=>⟨_,he.1,none,0,rfl,?_⟩)
    rw [he.2,Nat.zero_mul]
    exact hnil
  · refine Calls.mono (Any8.slices_Grow_grow L4 inf' z hinf hzero (by omega) none 0 0 n [] w (by omega) (by omega) (by rw [hbz]; simpa using hb) (by omega) (by simp) (fun _=>rfl) (fun a ha=>by cases ha)) (fun e w' he=>⟨_,he.1,some ⟨w.heap.size,0,none⟩,_,rfl,?_⟩)
    have hi:(L++[⟨none,ρ.t 25,[],0⟩])[L.length]?=some ⟨none,ρ.t 25,[],0⟩:=by simp
    have fresh:∀ (cap:Nat) (cur':Array Value),cur'.size=cap*s→ST w0 M (w.drew.alloc (.cells cur' (ρ.t 25))) ((L++[(⟨none,ρ.t 25,[],0⟩:Ob)]).set L.length ⟨some ⟨w.heap.size,0,none⟩,ρ.t 25,[],cap*s⟩) R:=by
      intro cap cur' hsz'
      refine hnil.step1 (w':=w.drew.alloc (.cells cur' (ρ.t 25))) (o':=⟨some ⟨w.heap.size,0,none⟩,ρ.t 25,[],cap*s⟩) hi rfl rfl rfl (by simp) (fun j hj _=>Below.heap_alloc w.drew _ j hj) ?_ ?_
      · exact .ofC rfl ⟨w.heap.size,cur',rfl,heap_alloc_new w.drew _,hsz',List.nil_prefix⟩
      · intro g hg
        simp [Ob.blk] at hg
        exact .inr (by omega)
    have hge:=grownCap_ge w (0+n) 0 (ρ.t 25)
    have key:=fresh (grownCap w (0+n) 0 (ρ.t 25)) (([]:List Value).toArray++Builtin.zeroCells z.cells (0+n-0)++Builtin.zeroCells z.cells (grownCap w (0+n) 0 (ρ.t 25)-(0+n))) (by
      simp only [Array.size_append,List.size_toArray,size_zeroCells,hzs,List.length_nil]
      rw [Nat.zero_add ((0+n-0)*s),← Nat.add_mul]
      congr 1
      omega)
    rw [List.set_append_right _ _ (Nat.le_refl _),Nat.sub_self] at key
    rw [he.2]
    exact key
theorem grow_c {P:Program} {ρ:Go.Shelf.Ren} {w0 w:World} {M:List Nat} {L:List Ob} {R:List Ro} (L4:Lays8.n4 P ρ) (g:FuncId) (e:TypeId) (hg:ρ.f 4=g) (he:ρ.t 25=e) {z:Value} {s by':Nat} (x:Int) (hs:sizeB P e s=true) (hby:bytesB P e by'=true)
    (hz:(P.info? e).map (·.zero)=some (some z)) (hzs:z.cells.size=s) (hs0:0<s) (hb:by'≤128) (hx:0≤x∧x≤1099511627776) (hS:ST w0 M w L R) :
    CV P g #[.slice none 0 0,.int .i64 x] w (fun v w'=>∃ B c,v=.slice B 0 c∧ST w0 M w' (L++[⟨B,e,[],c*s⟩]) R):=by
  subst hg; subst he
  obtain ⟨n,rfl⟩:∃ n:Nat,x=n:=⟨x.toNat,by omega⟩
  exact grow_nil L4 hs hby hz hzs hs0 (Nat.le_trans (Nat.mul_le_mul (show n≤1099511627776 by omega) hb) (by decide)) (by omega) hS
end Go.VK
