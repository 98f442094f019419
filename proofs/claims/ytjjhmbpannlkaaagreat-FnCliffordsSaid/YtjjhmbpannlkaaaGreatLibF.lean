/- Regions whose order is open; guarded steps with a world; small joints of the walk. Plain lemmas over any program. -/
import Derived.Test.YtjjhmbpannlkaaaGreatLibE
namespace Go.VK
open Go.RowKit

section
variable {P:Program} {n:Nat} {N Rr:FW} {E:List (Nat×FW)} {f:Nat→Value} {w:World} {ops:Array Oper} {rest:List Oper} {o:Oper} {S:World→Prop}

theorem sq (t:Nat) (hg:o.guard=none) (hd:o.dst=some t) {v:Value} (h:Y P n f w o v) (k:RW P n ops N rest (upd f t v) w):RW P n ops N (o::rest) f w :=
  rw_q hg h (by rw [hd]; exact k)
theorem ss (t:Nat) (hg:o.guard=none) (hd:o.dst=some t) {S:Value→World→Prop} (h:Ys P n f w o S) (k:∀ v w',S v w'→RW P n ops N rest (upd f t v) w'):RW P n ops N (o::rest) f w :=
  rw_s hg h (fun v w' hs=>by rw [hd]; exact k v w' hs)
theorem ss0 (hg:o.guard=none) (hd:o.dst=none) {S:Value→World→Prop} (h:Ys P n f w o S) (k:∀ v w',S v w'→RW P n ops N rest f w'):RW P n ops N (o::rest) f w :=
  rw_s hg h (fun v w' hs=>by rw [hd]; exact k v w' hs)
theorem sc (t:Nat) (hg:o.guard=none) (hd:o.dst=some t) {S:Value→World→Prop} (h:Yc P n f w o S) (k:∀ v w',S v w'→RW P n ops N rest (upd f t v) w'):RW P n ops N (o::rest) f w :=
  rw_c hg h (fun v w' hs=>by rw [hd]; exact k v w' hs)
theorem sgq (t:Nat) {j:Nat} {want B:Bool} (hg:o.guard=some (j,want)) (hd:o.dst=some t) (hb:Wt (gd n f ops j) want B) {v:Value} (h:B=true→Y P n f w o v)
    (k:RW P n ops N rest (upd f t (gv B v)) w):RW P n ops N (o::rest) f w :=
  rw_gq hg hb h (by rw [hd]; exact k)
theorem sgc (t:Nat) {j:Nat} {want B:Bool} (hg:o.guard=some (j,want)) (hd:o.dst=some t) (hb:Wt (gd n f ops j) want B) {v:Value} {F:World→Prop} (hF:F w)
    (h:B=true→Yc P n f w o (fun v' w'=>v'=v∧F w')) (k:∀ w',F w'→RW P n ops N rest (upd f t (gv B v)) w'):RW P n ops N (o::rest) f w:=by
  by_cases hbw:B=true
  · refine rw_gyc hg hb hbw (h hbw) ?_
    rintro v' w' ⟨rfl,hw'⟩
    have:=k w' hw'
    rw [gv_of hbw] at this
    rw [hd]; exact this
  · have hbw':B=false:=by simpa using hbw
    refine rw_gn hg hb hbw' ?_
    have h2:=k w hF
    rw [gv_no hbw'] at h2
    rw [hd]; exact h2
theorem rw_split {B:Bool} {l:List Oper} (h1:B=true→RW P n ops N l f w) (h2:B=false→RW P n ops N l f w):RW P n ops N l f w:=by
  cases hB:B
  · exact h2 hB
  · exact h1 hB
theorem sqg (t:Nat) {j:Nat} {want B:Bool} (hg:o.guard=some (j,want)) (hd:o.dst=some t) (hw:Wt (gd n f ops j) want B) (hB:B=true) {v:Value} (h:Y P n f w o v)
    (k:RW P n ops N rest (upd f t v) w):RW P n ops N (o::rest) f w:=rw_gy hg hw hB h.toW (by rw [hd]; exact k)
theorem scg (t:Nat) {j:Nat} {want B:Bool} (hg:o.guard=some (j,want)) (hd:o.dst=some t) (hw:Wt (gd n f ops j) want B) (hB:B=true) {S:Value→World→Prop} (h:Yc P n f w o S)
    (k:∀ v w',S v w'→RW P n ops N rest (upd f t v) w'):RW P n ops N (o::rest) f w:=rw_gyc hg hw hB h (fun v w' hs=>by rw [hd]; exact k v w' hs)
theorem sgn (t:Nat) {j:Nat} {want B:Bool} (hg:o.guard=some (j,want)) (hd:o.dst=some t) (hb:Wt (gd n f ops j) want B) (hbw:B=false)
    (k:RW P n ops N rest (upd f t undef) w):RW P n ops N (o::rest) f w:=rw_gn hg hb hbw (by rw [hd]; exact k)

def RA (P:Program) (n:Nat) (ops:Array Oper) (N:FW) (S:World→Prop) (fuel:Nat) (listed:Array Bool) (f:Nat→Value) (w:World):Prop :=
  wpAnyH P .any ops (toQ n N (fun _ _=>False) []) S fuel listed (A n f) w

theorem ra_start {id:Nat} {l:List Oper} (S:World→Prop) (hm:P.follows .mixedOrders=true) (h:RA P n l.toArray N S l.toArray.size (Array.replicate l.toArray.size false) f w.drew):CW P n (.region id l.toArray true) N Rr E f w :=
  cw_mono (N:=N) (R:=fun _ _=>False) (E:=[]) (wp_region_held (S:=S) hm h) (fun _ _ h=>h) (fun _ _ h=>h.elim) (fun _ _ h=>by simp [look] at h)
theorem ra_done {fuel:Nat} {listed:Array Bool} (hr:Region.ready .any ops listed=[]) (h:N f w):RA P n ops N S fuel listed f w:=wpAnyH_done hr ⟨f,rfl,h⟩ _
theorem ra_q (i t:Nat) {fuel:Nat} {listed:Array Bool} {v:Value} (hi:ops[i]?=some o) (hg:o.guard=none) (hd:o.dst=some t) (hs:Region.noSelect ops=true) (hf:Region.free .any ops listed i=true)
    (hr:(Region.ready .any ops listed).contains i=true) (hS:S w) (hy:∀ w',S w'→Y P n f w' o v) (k:RA P n ops N S fuel (listed.setIfInBounds i true) (upd f t v) w):RA P n ops N S (fuel+1) listed f w:=by
  refine wpAnyH_take hi hs hf hr (fun _ _ _ h=>h) (v:=v) (.inl ⟨by simp [Region.wanted,hg],fun w' hw'=>?_⟩) hS ?_
  · rw [A_eval]; exact hy w' hw'
  · rw [A_put,hd]; exact k
theorem ra_gq (i t:Nat) {j:Nat} {want B:Bool} {fuel:Nat} {listed:Array Bool} {v:Value} (hi:ops[i]?=some o) (hg:o.guard=some (j,want)) (hd:o.dst=some t) (hb:Wt (gd n f ops j) want B) (hs:Region.noSelect ops=true)
    (hf:Region.free .any ops listed i=true) (hr:(Region.ready .any ops listed).contains i=true) (hS:S w) (hy:B=true→∀ w',S w'→Y P n f w' o v)
    (k:RA P n ops N S fuel (listed.setIfInBounds i true) (upd f t (gv B v)) w):RA P n ops N S (fuel+1) listed f w:=by
  by_cases hbw:B=true
  · refine wpAnyH_take hi hs hf hr (fun _ _ _ h=>h) (v:=v) (.inl ⟨?_,fun w' hw'=>?_⟩) hS ?_
    · rw [wanted_gd hg hb,hbw]
    · rw [A_eval]; exact hy hbw w' hw'
    · rw [gv_of hbw] at k; rw [A_put,hd]; exact k
  · have hbn:B=false:=by simpa using hbw
    refine wpAnyH_take hi hs hf hr (fun _ _ _ h=>h) (v:=undef) (.inr ⟨?_,rfl⟩) hS ?_
    · rw [wanted_gd hg hb,hbn]
    · rw [gv_no hbn] at k; rw [A_put,hd]; exact k
def AllR (P:Program) (n:Nat) (ops:Array Oper) (N:FW) (S:World→Prop) (fuel:Nat) (listed:Array Bool) (f:Nat→Value) (w:World):List Nat→Prop
  | []=>True
  | i::rs=>wpOp P ops (toQ n N (fun _ _=>False) []) i (fun a' w'=>S w'∧wpAnyH P .any ops (toQ n N (fun _ _=>False) []) S fuel (listed.setIfInBounds i true) a' w') (A n f) w∧AllR P n ops N S fuel listed f w rs
theorem AllR_mem {fuel:Nat} {listed:Array Bool}:∀ {rs:List Nat},AllR P n ops N S fuel listed f w rs→∀ i∈rs,wpOp P ops (toQ n N (fun _ _=>False) []) i (fun a' w'=>S w'∧wpAnyH P .any ops (toQ n N (fun _ _=>False) []) S fuel (listed.setIfInBounds i true) a' w') (A n f) w
  | [],_,i,hi=>by cases hi
  | j::rs,h,i,hi=>by
    rcases List.mem_cons.1 hi with rfl | hi
    · exact h.1
    · exact AllR_mem h.2 i hi
theorem ra_all {rs:List Nat} {fuel:Nat} {listed:Array Bool} (hr:Region.ready .any ops listed=rs) (hne:rs.isEmpty=false) (h:AllR P n ops N S fuel listed f w rs):RA P n ops N S (fuel+1) listed f w :=
  wpAnyH_all hr (by rintro rfl; simp at hne) (AllR_mem h)
theorem wpOp_of_wp {i:Nat} {K:Act→World→Prop} {Q:Exit→Act→World→Prop} (hi:ops[i]?=some o) (hg:o.guard=none) (h:o.wp P (A n f) w K Q):wpOp P ops Q i K (A n f) w:=by
  unfold wpOp
  simp only [hi]
  rw [if_pos (by simp [Region.wanted,hg])]
  exact .inl h
theorem oper_wp_s {S':Value→World→Prop} (h:Ys P n f w o S') {K:Act→World→Prop} {Q:Exit→Act→World→Prop} (k:∀ v w',S' v w'→K (A n (putf f o.dst v)) w'):o.wp P (A n f) w K Q:=by
  obtain ⟨v,w',hy,hs⟩:=h
  unfold Oper.wp
  rw [A_eval]
  rcases hy with hy | ⟨hy,hv⟩
  · rw [hy]
    show K ((A n f).put o.dst v) w'
    rw [A_put]; exact k v w' hs
  · rw [hy]
    show K ((A n f).put o.dst undef) w'
    rw [A_put,← hv]; exact k v w' hs
theorem ra_s (t:Nat) {i:Nat} {rs:List Nat} {fuel:Nat} {listed:Array Bool} {S':Value→World→Prop} (hi:ops[i]?=some o) (hg:o.guard=none) (hd:o.dst=some t) (h:Ys P n f w o S')
    (k:∀ v w',S' v w'→S w'∧RA P n ops N S fuel (listed.setIfInBounds i true) (upd f t v) w') (hrs:AllR P n ops N S fuel listed f w rs):AllR P n ops N S fuel listed f w (i::rs) :=
  ⟨wpOp_of_wp hi hg (oper_wp_s h (fun v w' hs=>by rw [hd]; exact k v w' hs)),hrs⟩
theorem ra_s0 {i:Nat} {rs:List Nat} {fuel:Nat} {listed:Array Bool} {S':Value→World→Prop} (hi:ops[i]?=some o) (hg:o.guard=none) (hd:o.dst=none) (h:Ys P n f w o S')
    (k:∀ v w',S' v w'→S w'∧RA P n ops N S fuel (listed.setIfInBounds i true) f w') (hrs:AllR P n ops N S fuel listed f w rs):AllR P n ops N S fuel listed f w (i::rs) :=
  ⟨wpOp_of_wp hi hg (oper_wp_s h (fun v w' hs=>by rw [hd]; exact k v w' hs)),hrs⟩
theorem ra_c (t:Nat) {i:Nat} {rs:List Nat} {fuel:Nat} {listed:Array Bool} {S':Value→World→Prop} (hi:ops[i]?=some o) (hg:o.guard=none) (hd:o.dst=some t) (h:Yc P n f w o S')
    (k:∀ v w',S' v w'→S w'∧RA P n ops N S fuel (listed.setIfInBounds i true) (upd f t v) w') (hrs:AllR P n ops N S fuel listed f w rs):AllR P n ops N S fuel listed f w (i::rs) :=
  ⟨wpOp_of_wp hi hg (oper_wp_call h (fun v w' hs=>by rw [hd]; exact k v w' hs)),hrs⟩
theorem ra_y (t:Nat) {i:Nat} {rs:List Nat} {fuel:Nat} {listed:Array Bool} {v:Value} (hi:ops[i]?=some o) (hg:o.guard=none) (hd:o.dst=some t) (h:Y P n f w o v) (hS:S w)
    (k:RA P n ops N S fuel (listed.setIfInBounds i true) (upd f t v) w) (hrs:AllR P n ops N S fuel listed f w rs):AllR P n ops N S fuel listed f w (i::rs) :=
  ra_s t hi hg hd ⟨v,w,h.toW,rfl,rfl⟩ (S':=fun v' w'=>v'=v∧w'=w) (by rintro _ _ ⟨rfl,rfl⟩; exact ⟨hS,k⟩) hrs
theorem ra_gc (t:Nat) {i j:Nat} {want B:Bool} {rs:List Nat} {fuel:Nat} {listed:Array Bool} {v:Value} {F:World→Prop} (hi:ops[i]?=some o) (hg:o.guard=some (j,want)) (hd:o.dst=some t) (hb:Wt (gd n f ops j) want B) (hF:F w)
    (h:B=true→Yc P n f w o (fun v' w'=>v'=v∧F w')) (k:∀ w',F w'→S w'∧RA P n ops N S fuel (listed.setIfInBounds i true) (upd f t (gv B v)) w') (hrs:AllR P n ops N S fuel listed f w rs) :
    AllR P n ops N S fuel listed f w (i::rs):=by
  refine ⟨?_,hrs⟩
  unfold wpOp
  simp only [hi]
  rw [wanted_gd hg hb]
  by_cases hbw:B=true
  · rw [if_pos hbw]
    refine .inl (oper_wp_call (h hbw) ?_)
    rintro v' w' ⟨rfl,hw'⟩
    have:=k w' hw'
    rw [gv_of hbw] at this
    rw [hd]; exact this
  · have hbn:B=false:=by simpa using hbw
    rw [hbn,if_neg (by simp)]
    have:=k w hF
    rw [gv_no hbn] at this
    rw [A_put,hd]; exact this
end
end Go.VK
