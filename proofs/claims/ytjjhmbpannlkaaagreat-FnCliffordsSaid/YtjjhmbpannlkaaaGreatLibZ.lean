/- In a region whose order is open: an operation may be carried out first in the world at hand, if all that may come ahead of it leaves the world alone. Plain lemmas over any program. -/
import Derived.Test.YtjjhmbpannlkaaaGreatLibF
import Derived.Test.YtjjhmbpannlkaaaGreatLibX
namespace Go.VK
open Go.RowKit

structure Fl where
  j:Nat
  t:Nat
  val:Nat→Value
  ob:Nat→List Ob
  need:List Ob
def flL:List Fl→List (Option Nat)→List Ob
  | x::J,some b::Z=>x.ob b++flL J Z
  | _::J,none::Z=>flL J Z
  | _,_=>[]
def flA (a:Array Bool):List Nat→List Bool→Array Bool
  | j::J,true::p=>(flA a J p).setIfInBounds j true
  | _::J,false::p=>flA a J p
  | _,_=>a
def flF (f:Nat→Value):List Fl→List (Option Nat)→Nat→Value
  | [],_=>f
  | x::J,Z=>upd (flF f J Z.tail) x.t ((Z.headD none).elim (f x.t) x.val)
def lis (a:Array Bool):List Nat→Array Bool
  | []=>a
  | i::l=>(lis a l).setIfInBounds i true
def ups (f:Nat→Value):List (Nat×Value)→Nat→Value
  | []=>f
  | p::l=>upd (ups f l) p.1 p.2
def noneN:List (Option Nat)→Nat
  | []=>0
  | none::Z=>noneN Z+1
  | some _::Z=>noneN Z
def allP:Nat→List (List Bool)
  | 0=>[[]]
  | k+1=>(allP k).map (true::·)++(allP k).map (false::·)
def freeJ:List Nat→List Bool→List Nat
  | j::J,false::p=>j::freeJ J p
  | _::J,true::p=>freeJ J p
  | _,_=>[]
theorem allP_mem:∀ (Z:List (Option Nat)),Z.map Option.isSome∈allP Z.length
  | []=>.head _
  | some _::Z=>List.mem_append_left _ (List.mem_map_of_mem (allP_mem Z))
  | none::Z=>List.mem_append_right _ (List.mem_map_of_mem (allP_mem Z))
theorem set_set (a:Array Bool) (i j:Nat):(a.setIfInBounds i true).setIfInBounds j true=(a.setIfInBounds j true).setIfInBounds i true:=by
  apply Array.ext
  · simp
  · intro k h1 h2
    simp only [Array.size_setIfInBounds] at h1
    rw [Array.getElem_setIfInBounds (by simpa using h1),Array.getElem_setIfInBounds h1,Array.getElem_setIfInBounds (by simpa using h1),Array.getElem_setIfInBounds h1]
    by_cases e:j=k <;> by_cases e2:i=k <;> simp [e,e2]
theorem lis_set (a:Array Bool) (j:Nat):∀ l,lis (a.setIfInBounds j true) l=(lis a l).setIfInBounds j true
  | []=>rfl
  | i::l=>by
    show (lis (a.setIfInBounds j true) l).setIfInBounds i true=((lis a l).setIfInBounds i true).setIfInBounds j true
    rw [lis_set a j l,set_set]
theorem flA_set (a:Array Bool) (j:Nat):∀ J p,flA (a.setIfInBounds j true) J p=(flA a J p).setIfInBounds j true
  | i::J,true::p=>by
    show (flA (a.setIfInBounds j true) J p).setIfInBounds i true=((flA a J p).setIfInBounds i true).setIfInBounds j true
    rw [flA_set a j J p,set_set]
  | _::J,false::p=>flA_set a j J p
  | [],_=>rfl
  | _::_,[]=>rfl
theorem nbeq {a b:Nat} (h:(a==b)=false):Nat.beq a b=false:=by
  cases e:Nat.beq a b with
  | false=>rfl
  | true=>exact absurd (Nat.eq_of_beq_eq_true e) (by simpa using h)
theorem flF_ne {f:Nat→Value} {t:Nat}:∀ {J:List Fl} {Z:List (Option Nat)},(J.map Fl.t).contains t=false→flF f J Z t=f t
  | [],_,_=>rfl
  | x::J,Z,h=>by
    simp only [List.map_cons,List.contains_cons,Bool.or_eq_false_iff] at h
    show upd (flF f J Z.tail) x.t _ t=f t
    unfold upd
    have:Nat.beq t x.t=false:=nbeq h.1
    rw [this]
    exact flF_ne h.2
theorem upd_same {f:Nat→Value} {t:Nat} {v:Value} (h:f t=v):upd f t v=f:=funext fun x=>by
  unfold upd
  cases e:Nat.beq x t with
  | false=>rfl
  | true=>rw [Nat.eq_of_beq_eq_true e]; exact h.symm
theorem flF_none {f:Nat→Value} {x:Fl} {J:List Fl} {Z:List (Option Nat)} (h:(J.map Fl.t).contains x.t=false):flF f (x::J) (none::Z)=flF f J Z:=upd_same (flF_ne h)
theorem ups_ne {f:Nat→Value} {t:Nat}:∀ {l:List (Nat×Value)},(l.map Prod.fst).contains t=false→ups f l t=f t
  | [],_=>rfl
  | p::l,h=>by
    simp only [List.map_cons,List.contains_cons,Bool.or_eq_false_iff] at h
    show upd (ups f l) p.1 p.2 t=f t
    unfold upd
    have:Nat.beq t p.1=false:=nbeq h.1
    rw [this]
    exact ups_ne h.2
theorem upd_upd {f:Nat→Value} {s t:Nat} {u v:Value} (h:s≠t):upd (upd f s u) t v=upd (upd f t v) s u:=funext fun x=>by
  unfold upd
  cases h1:Nat.beq x t with
  | false=>rfl
  | true =>
    have h1:=Nat.eq_of_beq_eq_true h1
    cases h2:Nat.beq x s with
    | false=>rfl
    | true=>exact absurd ((Nat.eq_of_beq_eq_true h2).symm.trans h1) h
theorem ups_upd {f:Nat→Value} {t:Nat} {v:Value}:∀ {l:List (Nat×Value)},(l.map Prod.fst).contains t=false→upd (ups f l) t v=ups (upd f t v) l
  | [],_=>rfl
  | p::l,h=>by
    simp only [List.map_cons,List.contains_cons,Bool.or_eq_false_iff] at h
    show upd (upd (ups f l) p.1 p.2) t v=upd (ups (upd f t v) l) p.1 p.2
    rw [upd_upd (fun e=>by rw [e] at h; exact absurd h.1 (by simp)),ups_upd h.2]
def difB:List Nat→Bool
  | []=>true
  | t::l=>!l.contains t&&difB l
def fN (j t:Nat) (T:TypeId) (cs:List Value) (m:Nat):Fl:=⟨j,t,fun b=>pt (some ⟨b,0,none⟩) 0,fun b=>[⟨some ⟨b,0,none⟩,T,cs,m⟩],[]⟩
def fM (j t:Nat) (e:TypeId) (cs:List Value) (m k c:Nat):Fl:=⟨j,t,fun b=>.slice (some ⟨b,0,none⟩) k c,fun b=>[⟨some ⟨b,0,none⟩,e,cs,m⟩],[]⟩
def fQ (j t:Nat) (v:Value) (x:Ob):Fl:=⟨j,t,fun _=>v,fun _=>[],[x]⟩
def fR (j t:Nat) (v:Value):Fl:=⟨j,t,fun _=>v,fun _=>[],[]⟩
def kOK (L:List Ob):List Ob→Prop
  | []=>True
  | p::K=>p∈L∧kOK L K
def KJ (L:List Ob):List Fl→Prop
  | []=>True
  | x::J=>kOK L x.need∧KJ L J
theorem kOK_app {L:List Ob} (X:List Ob):∀ {K:List Ob},kOK L K→kOK (L++X) K
  | [],_=>trivial
  | _::_,h=>⟨List.mem_append_left X h.1,kOK_app X h.2⟩
theorem KJ.at {L:List Ob}:∀ {J:List Fl},KJ L J→∀ {q:Nat} {x:Fl},J[q]?=some x→kOK L x.need
  | y::J,h,0,x,e=>by cases e; exact h.1
  | y::J,h,q+1,x,e=>KJ.at (J:=J) h.2 e
  | [],_,_,_,e=>by cases e
section
variable {P:Program} {n:Nat} {N:FW} {f:Nat→Value} {w w0:World} {ops:Array Oper} {o:Oper} {S:World→Prop} {M:List Nat} {L G:List Ob} {R:List Ro}
def RF (P:Program) (n:Nat) (ops:Array Oper) (N:FW) (S:World→Prop) (k:Nat) (J:List Fl) (a:Array Bool) (f:Nat→Value) (ls:List Nat) (us:List (Nat×Value)) (w0:World) (M:List Nat) (L G:List Ob) (R:List Ro):Prop :=
  ∀ (Z:List (Option Nat)) (w:World),Z.length=J.length→ST w0 M w (L++(flL J Z++G)) R→RA P n ops N S (k+noneN Z) (lis (flA a (J.map Fl.j) (Z.map Option.isSome)) ls) (ups (flF f J Z) us) w
def FlOK (P:Program) (n:Nat) (ops:Array Oper) (w0:World) (M:List Nat) (f:Nat→Value) (ts:List Nat):List Fl→Prop
  | []=>True
  | x::J=>(∃ o,ops[x.j]?=some o∧o.guard=none∧o.dst=some x.t∧∀ (f':Nat→Value) (L:List Ob) (R:List Ro) (w:World),(∀ t∈ts,f' t=f t)→ST w0 M w L R→kOK L x.need→Ys P n f' w o (fun v w'=>∃ b,v=x.val b∧ST w0 M w' (L++x.ob b) R))∧FlOK P n ops w0 M f ts J
theorem fln {ts:List Nat}:FlOK P n ops w0 M f ts []:=trivial
theorem flc {ts:List Nat} {x:Fl} {J:List Fl} (hi:ops[x.j]?=some o) (hg:o.guard=none) (hd:o.dst=some x.t) (h:∀ (f':Nat→Value) (L:List Ob) (R:List Ro) (w:World),(∀ t∈ts,f' t=f t)→ST w0 M w L R→kOK L x.need→Ys P n f' w o (fun v w'=>∃ b,v=x.val b∧ST w0 M w' (L++x.ob b) R)) (k:FlOK P n ops w0 M f ts J):FlOK P n ops w0 M f ts (x::J):=⟨⟨o,hi,hg,hd,h⟩,k⟩
theorem FlOK.nx {ts:List Nat} {x:Fl} {J:List Fl} {v:Value} (h:FlOK P n ops w0 M f ts (x::J)) (hc:ts.contains x.t=false:=by kernel_rfl):FlOK P n ops w0 M (upd f x.t v) ts J:=by
  have hne:∀ t∈ts,upd f x.t v t=f t:=fun t ht=>by
    unfold upd
    rw [nbeq (show (t==x.t)=false from by
      cases e:t==x.t with
      | false=>rfl
      | true =>
        rw [beq_iff_eq] at e
        rw [e] at ht
        rw [List.contains_iff_mem.2 ht] at hc
        cases hc)]
    rfl
  have h2:=h.2
  clear h
  induction J with
  | nil=>trivial
  | cons y J ih =>
    obtain ⟨⟨o,o1,o2,o3,o4⟩,h3⟩:=h2
    exact ⟨⟨o,o1,o2,o3,fun f' L R w hf hS hk=>o4 f' L R w (fun t ht=>(hf t ht).trans (hne t ht)) hS hk⟩,ih h3⟩
theorem FlOK.at {ts:List Nat}:∀ {J:List Fl},FlOK P n ops w0 M f ts J→∀ {q:Nat} {x:Fl},J[q]?=some x→∃ o,ops[x.j]?=some o∧o.guard=none∧o.dst=some x.t∧∀ (f':Nat→Value) (L:List Ob) (R:List Ro) (w:World),(∀ t∈ts,f' t=f t)→ST w0 M w L R→kOK L x.need→Ys P n f' w o (fun v w'=>∃ b,v=x.val b∧ST w0 M w' (L++x.ob b) R)
  | y::J,h,0,x,e=>by cases e; exact h.1
  | y::J,h,q+1,x,e=>FlOK.at (J:=J) h.2 e
  | [],_,_,_,e=>by cases e
theorem fl_set (a:Array Bool) (f:Nat→Value):∀ {J:List Fl} {Z:List (Option Nat)} {q:Nat} {x:Fl} (b:Nat),difB (J.map Fl.t)=true→Z.length=J.length→J[q]?=some x→Z[q]?=some none →
    flA a (J.map Fl.j) ((Z.set q (some b)).map Option.isSome)=(flA a (J.map Fl.j) (Z.map Option.isSome)).setIfInBounds x.j true∧flF f J (Z.set q (some b))=upd (flF f J Z) x.t (x.val b)∧noneN Z=noneN (Z.set q (some b))+1∧(flL J (Z.set q (some b))).Perm (x.ob b++flL J Z)
  | y::J,z::Z,0,x,b,hd,hl,hx,hz=>by
    cases hx; cases hz
    simp only [List.map_cons,difB,Bool.and_eq_true,Bool.not_eq_true'] at hd
    exact ⟨rfl,by rw [flF_none hd.1]; rfl,rfl,.refl _⟩
  | y::J,z::Z,q+1,x,b,hd,hl,hx,hz=>by
    simp only [List.map_cons,difB,Bool.and_eq_true] at hd
    obtain ⟨h1,h2,h3,h4⟩:=fl_set (J:=J) (Z:=Z) a f b hd.2 (by simpa using hl) hx hz
    have hne:x.t≠y.t:=fun e=>by
      have hm:x.t∈J.map Fl.t:=List.mem_map_of_mem (List.mem_of_getElem? hx)
      rw [e] at hm
      have:=hd.1
      simp at this
      obtain ⟨v,hv,e2⟩:=List.mem_map.1 hm
      exact this v hv e2
    cases z with
    | none =>
      have hd1:(J.map Fl.t).contains y.t=false:=by simpa using hd.1
      exact ⟨h1,by rw [show (none::Z).set (q+1) (some b)=none::Z.set q (some b) from rfl,flF_none hd1,flF_none hd1]; exact h2,by show noneN Z+1=noneN (Z.set q (some b))+1+1; omega,h4⟩
    | some c =>
      refine ⟨?_,?_,h3,?_⟩
      · show (flA a (J.map Fl.j) ((Z.set q (some b)).map Option.isSome)).setIfInBounds y.j true=((flA a (J.map Fl.j) (Z.map Option.isSome)).setIfInBounds y.j true).setIfInBounds x.j true
        rw [h1,set_set]
      · show upd (flF f J (Z.set q (some b))) y.t (y.val c)=upd (upd (flF f J Z) y.t (y.val c)) x.t (x.val b)
        rw [h2,upd_upd hne]
      · show (y.ob c++flL J (Z.set q (some b))).Perm (x.ob b++(y.ob c++flL J Z))
        refine (List.Perm.append_left _ h4).trans ?_
        rw [← List.append_assoc,← List.append_assoc]
        exact List.Perm.append_right _ List.perm_append_comm
  | [],_,_,_,_,_,_,hx,_=>by cases hx
  | _::_,[],_,_,_,_,hl,_,_=>by simp at hl
theorem free_at:∀ {J:List Fl} {Z:List (Option Nat)} {i:Nat},Z.length=J.length→i∈freeJ (J.map Fl.j) (Z.map Option.isSome)→∃ (q:Nat) (x:Fl),J[q]?=some x∧x.j=i∧Z[q]?=some none
  | y::J,none::Z,i,hl,h=>by
    rcases List.mem_cons.1 h with h | h
    · exact ⟨0,y,rfl,h.symm,rfl⟩
    · obtain ⟨q,x,h1,h2,h3⟩:=free_at (J:=J) (Z:=Z) (by simpa using hl) h
      exact ⟨q+1,x,h1,h2,h3⟩
  | y::J,some _::Z,i,hl,h=>by
    obtain ⟨q,x,h1,h2,h3⟩:=free_at (J:=J) (Z:=Z) (by simpa using hl) h
    exact ⟨q+1,x,h1,h2,h3⟩
  | [],_,_,_,h=>by simp [freeJ] at h
  | _::_,[],_,hl,_=>by simp at hl
def slotB (J:List Fl) (us:List (Nat×Value)) (ts:List Nat):Bool:=difB (J.map Fl.t)&&(J.map Fl.t).all (fun t=>!(us.map Prod.fst).contains t)&&ts.all (fun t=>!(J.map Fl.t).contains t&&!(us.map Prod.fst).contains t)
theorem rf_make {k:Nat} {J:List Fl} {a:Array Bool} {ls:List Nat} {us:List (Nat×Value)} {ts:List Nat} (hJ:FlOK P n ops w0 M f ts J) (hK:KJ L J) (hsl:slotB J us ts=true) (hS:∀ (Z:List (Option Nat)) (w:World),ST w0 M w (L++(flL J Z++G)) R→S w)
    {Z:List (Option Nat)} (hl:Z.length=J.length) {i:Nat} (hi:i∈freeJ (J.map Fl.j) (Z.map Option.isSome)) (hw:ST w0 M w (L++(flL J Z++G)) R)
    (h:∀ (Z':List (Option Nat)) (w:World),Z'.length=J.length→noneN Z=noneN Z'+1→ST w0 M w (L++(flL J Z'++G)) R→RA P n ops N S (k+noneN Z') (lis (flA a (J.map Fl.j) (Z'.map Option.isSome)) ls) (ups (flF f J Z') us) w) :
    ∃ m,k+noneN Z=m+1∧wpOp P ops (toQ n N (fun _ _=>False) []) i (fun a' w'=>S w'∧wpAnyH P .any ops (toQ n N (fun _ _=>False) []) S m ((lis (flA a (J.map Fl.j) (Z.map Option.isSome)) ls).setIfInBounds i true) a' w') (A n (ups (flF f J Z) us)) w:=by
  obtain ⟨q,x,h1,rfl,h3⟩:=free_at hl hi
  obtain ⟨o,o1,o2,o3,o4⟩:=FlOK.at hJ h1
  simp only [slotB,Bool.and_eq_true] at hsl
  obtain ⟨⟨s1,s2⟩,s3⟩:=hsl
  have hxt:x.t∈J.map Fl.t:=List.mem_map_of_mem (List.mem_of_getElem? h1)
  have hxu:(us.map Prod.fst).contains x.t=false:=by simpa using List.all_eq_true.1 s2 x.t hxt
  have hf:∀ t∈ts,ups (flF f J Z) us t=f t:=fun t ht=>by
    have:=List.all_eq_true.1 s3 t ht
    simp only [Bool.and_eq_true,Bool.not_eq_true'] at this
    rw [ups_ne this.2,flF_ne this.1]
  refine ⟨k+(noneN Z-1),?_,?_⟩
  · obtain ⟨_,_,e,_⟩:=fl_set a f 0 s1 hl h1 h3
    omega
  · refine wpOp_of_wp o1 o2 (oper_wp_s (o4 _ _ _ _ hf hw (kOK_app _ (KJ.at hK h1))) (fun v w' hv=>?_))
    obtain ⟨b,rfl,hb⟩:=hv
    obtain ⟨e1,e2,e3,e4⟩:=fl_set a f b s1 hl h1 h3
    have hst:ST w0 M w' (L++(flL J (Z.set q (some b))++G)) R:=by
      refine hb.perm ?_
      rw [List.append_assoc]
      refine List.Perm.append_left L ?_
      have p1:((flL J Z++G)++x.ob b).Perm (x.ob b++(flL J Z++G)):=List.perm_append_comm
      rw [← List.append_assoc (x.ob b)] at p1
      exact p1.trans (List.Perm.append_right G e4.symm)
    refine ⟨hS _ _ hst,?_⟩
    have:=h (Z.set q (some b)) w' (by rw [List.length_set]; exact hl) e3 hst
    rw [e1,lis_set,e2,← ups_upd hxu] at this
    rw [o3]
    show wpAnyH P .any ops _ S (k+(noneN Z-1)) _ (A n (upd (ups (flF f J Z) us) x.t (x.val b))) w'
    rw [show noneN Z-1=noneN (Z.set q (some b)) by omega]
    exact this
def flR (ops:Array Oper) (a:Array Bool) (J ls rs:List Nat):Bool:=(allP J.length).all fun p =>
  !(Region.ready .any ops (lis (flA a J p) ls)).isEmpty&&(Region.ready .any ops (lis (flA a J p) ls)).all fun i=>rs.contains i||(freeJ J p).contains i
theorem flR_spec {a:Array Bool} {J:List Fl} {ls rs:List Nat} (h:flR ops a (J.map Fl.j) ls rs=true) {Z:List (Option Nat)} (hl:Z.length=J.length) :
    Region.ready .any ops (lis (flA a (J.map Fl.j) (Z.map Option.isSome)) ls)≠[]∧∀ i∈Region.ready .any ops (lis (flA a (J.map Fl.j) (Z.map Option.isSome)) ls),i∈rs∨i∈freeJ (J.map Fl.j) (Z.map Option.isSome):=by
  have hm:=allP_mem Z
  rw [hl,← List.length_map (f:=Fl.j)] at hm
  have:=List.all_eq_true.1 h _ hm
  simp only [Bool.and_eq_true,Bool.not_eq_true',List.isEmpty_eq_false_iff] at this
  refine ⟨this.1,fun i hi=>?_⟩
  have:=List.all_eq_true.1 this.2 i hi
  simpa [Bool.or_eq_true] using this
theorem rf_all {k:Nat} {J:List Fl} {a:Array Bool} {ls:List Nat} {us:List (Nat×Value)} {ts:List Nat} (rs:List Nat) (hJ:FlOK P n ops w0 M f ts J) (hS:∀ (Z:List (Option Nat)) (w:World),ST w0 M w (L++(flL J Z++G)) R→S w)
    (h:∀ (Z:List (Option Nat)) (w:World),Z.length=J.length→ST w0 M w (L++(flL J Z++G)) R→AllR P n ops N S (k+noneN Z) (lis (flA a (J.map Fl.j) (Z.map Option.isSome)) ls) (ups (flF f J Z) us) w rs)
    (hsl:slotB J us ts=true:=by kernel_rfl) (hc:flR ops a (J.map Fl.j) ls rs=true:=by kernel_rfl) (hK:KJ L J:=by repeat (first | exact trivial | exact List.Mem.head _ | refine List.Mem.tail _ ?_ | refine And.intro ?_ ?_)):RF P n ops N S (k+1) J a f ls us w0 M L G R:=by
  have key:∀ (m:Nat) (Z:List (Option Nat)) (w:World),noneN Z=m→Z.length=J.length→ST w0 M w (L++(flL J Z++G)) R→RA P n ops N S (k+1+noneN Z) (lis (flA a (J.map Fl.j) (Z.map Option.isSome)) ls) (ups (flF f J Z) us) w:=fun m=>by
    induction m with
    | zero =>
      intro Z w hm hl hw
      obtain ⟨h1,h2⟩:=flR_spec hc hl
      rw [show k+1+noneN Z=(k+noneN Z)+1 by omega]
      refine wpAnyH_all rfl h1 (fun i hi=>?_)
      rcases h2 i hi with hi | hi
      · exact AllR_mem (h Z w hl hw) i hi
      · obtain ⟨q,x,e1,_,e3⟩:=free_at hl hi
        simp only [slotB,Bool.and_eq_true] at hsl
        have:=(fl_set a f 0 hsl.1.1 hl e1 e3).2.2.1
        omega
    | succ m ih =>
      intro Z w hm hl hw
      obtain ⟨h1,h2⟩:=flR_spec hc hl
      rw [show k+1+noneN Z=(k+noneN Z)+1 by omega]
      refine wpAnyH_all rfl h1 (fun i hi=>?_)
      rcases h2 i hi with hi | hi
      · exact AllR_mem (h Z w hl hw) i hi
      · obtain ⟨m',e,hh⟩:=rf_make (k:=k+1) hJ hK hsl hS hl hi hw (fun Z' w' hl' hn hw'=>ih Z' w' (by omega) hl' hw')
        have:m'=k+noneN Z:=by omega
        rw [← this]
        exact hh
  exact fun Z w hl hw=>key _ Z w rfl hl hw
theorem flF_upd {f:Nat→Value} {t:Nat} {v:Value}:∀ {J:List Fl} {Z:List (Option Nat)},(J.map Fl.t).contains t=false→flF (upd f t v) J Z=upd (flF f J Z) t v
  | [],_,_=>rfl
  | x::J,Z,h=>by
    simp only [List.map_cons,List.contains_cons,Bool.or_eq_false_iff] at h
    have hne:t≠x.t:=fun e=>by rw [e] at h; exact absurd h.1 (by simp)
    have e1:upd f t v x.t=f x.t:=by
      unfold upd
      rw [nbeq (show (x.t==t)=false by simpa using fun e:x.t=t=>hne e.symm)]
      rfl
    show upd (flF (upd f t v) J Z.tail) x.t ((Z.headD none).elim (upd f t v x.t) x.val)=upd (upd (flF f J Z.tail) x.t ((Z.headD none).elim (f x.t) x.val)) t v
    rw [flF_upd h.2,upd_upd hne,e1]
def flH (ops:Array Oper) (a:Array Bool):List Nat→List Nat→Bool
  | [],_=>false
  | j::J,ls=>(allP J.length).all fun p =>
    !(Region.ready .any ops (lis (flA a J p) ls)).isEmpty&&(Region.ready .any ops (lis (flA a J p) ls)).all fun i=>(j::freeJ J p).contains i
theorem rf_force {k:Nat} {x:Fl} {J:List Fl} {a:Array Bool} {ls:List Nat} {us:List (Nat×Value)} {ts:List Nat} (hJ:FlOK P n ops w0 M f ts (x::J)) (hS:∀ (Z:List (Option Nat)) (w:World),ST w0 M w (L++(flL (x::J) Z++G)) R→S w)
    (h:∀ b,RF P n ops N S k J (a.setIfInBounds x.j true) (upd f x.t (x.val b)) ls us w0 M (L++x.ob b) G R)
    (hsl:slotB (x::J) us ts=true:=by kernel_rfl) (hc:flH ops a (x.j::J.map Fl.j) ls=true:=by kernel_rfl) (hK:KJ L (x::J):=by repeat (first | exact trivial | exact List.Mem.head _ | refine List.Mem.tail _ ?_ | refine And.intro ?_ ?_)):RF P n ops N S k (x::J) a f ls us w0 M L G R:=by
  have hxt:(J.map Fl.t).contains x.t=false:=by
    simp only [slotB,List.map_cons,difB,Bool.and_eq_true,Bool.not_eq_true'] at hsl
    exact hsl.1.1.1
  have key:∀ (m:Nat) (Z:List (Option Nat)) (w:World),noneN Z=m→Z.length=(x::J).length→ST w0 M w (L++(flL (x::J) Z++G)) R→RA P n ops N S (k+noneN Z) (lis (flA a ((x::J).map Fl.j) (Z.map Option.isSome)) ls) (ups (flF f (x::J) Z) us) w:=fun m=>by
    induction m with
    | zero =>
      intro Z w hm hl hw
      match Z,hl with
      | none::Z,_=>exact absurd hm (Nat.succ_ne_zero _)
      | some b::Z,hl =>
        have:=h b Z w (by simpa using hl) (by rw [List.append_assoc,← List.append_assoc (x.ob b)]; exact hw)
        rw [flA_set,flF_upd hxt] at this
        exact this
    | succ m ih =>
      intro Z w hm hl hw
      match Z,hl with
      | some b::Z,hl =>
        have:=h b Z w (by simpa using hl) (by rw [List.append_assoc,← List.append_assoc (x.ob b)]; exact hw)
        rw [flA_set,flF_upd hxt] at this
        exact this
      | none::Z,hl =>
        have hlZ:Z.length=J.length:=by simpa using hl
        have hm2:=allP_mem Z
        rw [hlZ,← List.length_map (f:=Fl.j)] at hm2
        have h2:=List.all_eq_true.1 hc _ hm2
        simp only [Bool.and_eq_true,Bool.not_eq_true',List.isEmpty_eq_false_iff] at h2
        have one:∀ i,i∈x.j::freeJ (J.map Fl.j) (Z.map Option.isSome)→∃ m',k+noneN (none::Z)=m'+1∧wpOp P ops (toQ n N (fun _ _=>False) []) i (fun a' w'=>S w'∧wpAnyH P .any ops (toQ n N (fun _ _=>False) []) S m' ((lis (flA a ((x::J).map Fl.j) ((none::Z).map Option.isSome)) ls).setIfInBounds i true) a' w') (A n (ups (flF f (x::J) (none::Z)) us)) w:=fun i hi =>
          rf_make (k:=k) hJ hK hsl hS hl hi hw (fun Z' w' hl' hn hw'=>ih Z' w' (by omega) hl' hw')
        obtain ⟨m',e,_⟩:=one x.j (.head _)
        rw [e]
        refine wpAnyH_all rfl h2.1 (fun i hi=>?_)
        obtain ⟨m2,e2,h3⟩:=one i (by have:=List.all_eq_true.1 h2.2 i hi; simpa using this)
        have:m'=m2:=by omega
        rw [this]
        exact h3
  exact fun Z w hl hw=>key _ Z w rfl hl hw
def flQ (ops:Array Oper) (a:Array Bool) (J ls:List Nat) (i:Nat):Bool:=(allP J.length).all fun p=>Region.free .any ops (lis (flA a J p) ls) i&&(Region.ready .any ops (lis (flA a J p) ls)).contains i
theorem rf_q (i t:Nat) {k:Nat} {J:List Fl} {a:Array Bool} {ls:List Nat} {us:List (Nat×Value)} {v:Value} (hi:ops[i]?=some o) (hS:∀ (Z:List (Option Nat)) (w:World),ST w0 M w (L++(flL J Z++G)) R→S w)
    (hy:∀ (Z:List (Option Nat)) (w':World),S w'→Y P n (ups (flF f J Z) us) w' o v) (h:RF P n ops N S k J a f (i::ls) ((t,v)::us) w0 M L G R)
    (hg:o.guard=none:=by exact rfl) (hd:o.dst=some t:=by exact rfl) (hs:Region.noSelect ops=true:=by kernel_rfl) (hc:flQ ops a (J.map Fl.j) ls i=true:=by kernel_rfl):RF P n ops N S (k+1) J a f ls us w0 M L G R:=fun Z w hl hw=>by
  have hm:=allP_mem Z
  rw [hl,← List.length_map (f:=Fl.j)] at hm
  have h2:=List.all_eq_true.1 hc _ hm
  simp only [Bool.and_eq_true] at h2
  rw [show k+1+noneN Z=(k+noneN Z)+1 by omega]
  exact ra_q i t hi hg hd hs h2.1 h2.2 (hS Z w hw) (hy Z) (h Z w hl hw)
theorem rf_k {k i t:Nat} {J:List Fl} {a:Array Bool} {ls:List Nat} {us:List (Nat×Value)} {v:Value} {Z:List (Option Nat)} (hl:Z.length=J.length) (hw:ST w0 M w (L++(flL J Z++G)) R) (hS:∀ (Z:List (Option Nat)) (w:World),ST w0 M w (L++(flL J Z++G)) R→S w)
    (h:RF P n ops N S k J a f (i::ls) ((t,v)::us) w0 M L G R):S w∧RA P n ops N S (k+noneN Z) ((lis (flA a (J.map Fl.j) (Z.map Option.isSome)) ls).setIfInBounds i true) (upd (ups (flF f J Z) us) t v) w:=⟨hS Z w hw,h Z w hl hw⟩
theorem noneN_rep:∀ (J:List Fl),noneN (J.map fun _=>none)=J.length
  | []=>rfl
  | _::J=>congrArg (·+1) (noneN_rep J)
theorem none_fl (a:Array Bool) (f:Nat→Value):∀ (J:List Fl),difB (J.map Fl.t)=true→flL J (J.map fun _=>none)=[]∧flA a (J.map Fl.j) ((J.map fun _=>(none:Option Nat)).map Option.isSome)=a∧flF f J (J.map fun _=>none)=f
  | [],_=>⟨rfl,rfl,rfl⟩
  | x::J,h=>by
    simp only [List.map_cons,difB,Bool.and_eq_true,Bool.not_eq_true'] at h
    obtain ⟨h1,h2,h3⟩:=none_fl a f J h.2
    exact ⟨h1,h2,(flF_none h.1).trans h3⟩
theorem rf_in (J:List Fl) {k m:Nat} {a:Array Bool} {ts:List Nat} (hS:ST w0 M w (L++G) R) (hJ:FlOK P n ops w0 M f ts J) (h0:FlOK P n ops w0 M f ts J→RF P n ops N S k J a f [] [] w0 M L G R) (hk:m=k+J.length:=by exact rfl) (hd:difB (J.map Fl.t)=true:=by kernel_rfl):RA P n ops N S m a f w:=by
  have h:=h0 hJ
  obtain ⟨h1,h2,h3⟩:=none_fl a f J hd
  have:=h (J.map fun _=>none) w (by simp) (by rw [h1]; exact hS)
  rw [h2,h3,noneN_rep] at this
  rw [hk]
  exact this
theorem rf_out {k:Nat} {a:Array Bool} {ls:List Nat} {us:List (Nat×Value)} (h:∀ w,ST w0 M w (L++G) R→RA P n ops N S k (lis a ls) (ups f us) w):RF P n ops N S k [] a f ls us w0 M L G R:=fun Z w hl hw=>by
  match Z,hl with
  | [],_=>exact h w hw
theorem ST.cfm {B:Option Addr} {T:TypeId} {cs:List Value} {m:Nat} (hS:ST w0 M w L R) (h:(⟨B,T,cs,m⟩:Ob)∈L):CF w B cs:=by
  obtain ⟨i,hi⟩:=List.getElem?_of_mem h
  exact hS.cf hi
theorem yfl {L:List Ob} {v:Value} (h:Y P n f w o v) (hS:ST w0 M w L R):Ys P n f w o (fun v' w'=>∃ _:Nat,v'=v∧ST w0 M w' (L++[]) R):=⟨v,w,.inl h,0,rfl,by rw [List.append_nil]; exact hS⟩
theorem ST.noF {F:List Ob} (hS:ST w0 M w (L++(F++G)) R):ST w0 M w (L++G) R:=by
  refine ⟨hS.os,hS.tape,hS.output,hS.size,hS.frame,fun o ho=>hS.own o ?_,fun o ho=>hS.home o ?_,?_,hS.ro,fun r hr hne a ha=>⟨(hS.roblk r hr hne a ha).1,fun o ho=>(hS.roblk r hr hne a ha).2 o ?_⟩⟩
  · rcases List.mem_append.1 ho with h | h
    · exact List.mem_append_left _ h
    · exact List.mem_append_right _ (List.mem_append_right _ h)
  · rcases List.mem_append.1 ho with h | h
    · exact List.mem_append_left _ h
    · exact List.mem_append_right _ (List.mem_append_right _ h)
  · exact hS.apart.sublist (List.Sublist.append_left (List.sublist_append_right F G) L)
  · rcases List.mem_append.1 ho with h | h
    · exact List.mem_append_left _ h
    · exact List.mem_append_right _ (List.mem_append_right _ h)
end
end Go.VK
