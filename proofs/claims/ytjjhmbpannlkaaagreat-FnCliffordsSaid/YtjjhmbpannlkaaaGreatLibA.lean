/- The walking rules: frames as functions, code and regions step by step. Plain lemmas over any program. -/
import Derived.WalkKit
import Derived.WalkSpells
import Derived.WalkLawsBesides
import Derived.OrdersHeld
import Derived.StillTail
import Derived.Deep.Quiet
namespace Go.VK
open Go.RowKit

def upd (f:Nat→Value) (d:Nat) (v:Value):Nat→Value:=fun t=>bif Nat.beq t d then v else f t
def putf (f:Nat→Value):Option Tmp→Value→(Nat→Value)
  | some d,v=>upd f d v
  | none,_=>f
def ev (n:Nat) (f:Nat→Value):Operand→Value
  | .tmp t=>bif Nat.blt t n then f t else undef
  | .const v=>v
  | .global g=>.pointer (some ⟨g,0,none⟩)
  | .func g=>.func (.func g) #[] #[]
def A (n:Nat) (f:Nat→Value):Act:=⟨Array.ofFn (fun i:Fin n=>f i),[]⟩

theorem A_getD (n:Nat) (f:Nat→Value) (t:Nat):(A n f).tmps.getD t undef=bif Nat.blt t n then f t else undef:=by
  unfold A
  by_cases h:t<n
  · have hb:Nat.blt t n=true:=by rw [Nat.blt_eq]; exact h
    simp [hb,h]
  · have hb:Nat.blt t n=false:=by
      cases hh:Nat.blt t n with
      | false=>rfl
      | true=>exact absurd (Nat.blt_eq.mp hh) h
    simp [hb,h]

theorem A_eval (n:Nat) (f:Nat→Value):(A n f).eval=ev n f:=by
  funext x
  cases x with
  | tmp t=>simp only [Act.eval,ev]; exact A_getD n f t
  | const v=>rfl
  | global g=>rfl
  | func g=>rfl

theorem A_put (n:Nat) (f:Nat→Value) (d:Option Tmp) (v:Value):(A n f).put d v=A n (putf f d v):=by
  cases d with
  | none=>rfl
  | some d =>
    unfold A Act.put putf
    simp only
    congr 1
    apply Array.ext
    · simp
    · intro i h1 h2
      simp only [Array.size_ofFn,Array.size_setIfInBounds] at h1 h2
      rw [Array.getElem_setIfInBounds (by simpa using h1)]
      simp only [Array.getElem_ofFn,upd]
      by_cases hd:d=i
      · subst hd; simp
      · have hb:Nat.beq i d=false:=by
          cases hh:Nat.beq i d with
          | false=>rfl
          | true=>exact absurd (Nat.eq_of_beq_eq_true hh).symm hd
        simp [hd,hb]

def f0 (args:List Value):Nat→Value:=fun t=>args.getD t undef
theorem A_enter (args:List Value) (n:Nat) (h:Nat.ble args.length n=true) :
    ({ tmps:=args.toArray++Array.replicate (n-args.toArray.size) undef,defers:=[] }:Act)=A n (f0 args):=by
  have h:=Nat.ble_eq.mp h
  unfold A
  congr 1
  apply Array.ext
  · simp; omega
  · intro i h1 h2
    simp only [Array.size_ofFn] at h2
    simp only [Array.getElem_ofFn,f0]
    rw [Array.getElem_append]
    split
    · rename_i hl
      simp at hl
      simp [List.getD,hl]
    · rename_i hl
      simp at hl
      simp [List.getD,hl]

abbrev FW:=(Nat→Value)→World→Prop
def look (id:Nat):List (Nat×FW)→Option FW
  | []=>none
  | (i,N)::r=>bif Nat.beq i id then some N else look id r
def toQ (n:Nat) (N R:FW) (E:List (Nat×FW)):Exit→Act→World→Prop
  | .normal,a,w=>∃ f,a=A n f∧N f w
  | .ret,a,w=>∃ f,a=A n f∧R f w
  | .exit id,a,w=>∃ f M,a=A n f∧look id E=some M∧M f w
  | _,_,_=>False
def CW (P:Program) (n:Nat) (c:Code) (N R:FW) (E:List (Nat×FW)) (f:Nat→Value) (w:World):Prop :=
  c.wp P (toQ n N R E) (A n f) w

section
variable {P:Program} {n:Nat} {N R:FW} {E:List (Nat×FW)} {f:Nat→Value} {w:World}

theorem cw_mono {c:Code} {N' R':FW} {E':List (Nat×FW)} (h:CW P n c N R E f w) (hN:∀ f w,N f w→N' f w) (hR:∀ f w,R f w→R' f w)
    (hE:∀ id M,look id E=some M→∃ M',look id E'=some M'∧∀ f w,M f w→M' f w):CW P n c N' R' E' f w:=by
  refine Go.Code.wp_mono ?_ h
  intro e a w q
  cases e with
  | normal=>obtain ⟨f,h1,h2⟩:=q; exact ⟨f,h1,hN _ _ h2⟩
  | ret=>obtain ⟨f,h1,h2⟩:=q; exact ⟨f,h1,hR _ _ h2⟩
  | exit id =>
    obtain ⟨f,M,h1,h2,h3⟩:=q
    obtain ⟨M',h4,h5⟩:=hE id M h2
    exact ⟨f,M',h1,h4,h5 _ _ h3⟩
  | goto l=>exact q
  | panic c=>exact q
  | outgrown=>exact q

theorem cw_skip (h:N f w):CW P n .skip N R E f w:=wp_skip ⟨f,rfl,h⟩
theorem cw_ret (h:R f w):CW P n .ret N R E f w:=wp_ret ⟨f,rfl,h⟩
theorem cw_exit {id:Nat} {M:FW} (hl:look id E=some M) (h:M f w):CW P n (.exit id) N R E f w:=wp_exit ⟨f,M,rfl,hl,h⟩
theorem cw_seq {x y:Code} (h:CW P n x (fun f w=>CW P n y N R E f w) R E f w):CW P n (.seq x y) N R E f w:=by
  refine wp_seq (Go.Code.wp_mono ?_ h)
  intro e a w q
  cases e with
  | normal=>obtain ⟨f,h1,h2⟩:=q; subst h1; exact h2
  | ret=>exact q
  | exit id=>exact q
  | goto l=>exact q
  | panic c=>exact q
  | outgrown=>exact q
theorem cw_cond {c:Operand} {x y:Code} {b:Bool} (hc:ev n f c=.bool b) (ht:b=true→CW P n x N R E f w) (hf:b=false→CW P n y N R E f w) :
    CW P n (.cond c x y) N R E f w:=by
  have hc':(A n f).eval c=.bool b:=by rw [A_eval]; exact hc
  exact wp_cond_split hc' ht hf
theorem cw_block {id:Nat} {c:Code} (h:CW P n c N R ((id,N)::E) f w):CW P n (.block id c) N R E f w:=by
  refine wp_block (Go.Code.wp_mono ?_ h)
  intro e a w q
  cases e with
  | normal=>exact q
  | ret=>exact q
  | exit id' =>
    obtain ⟨f,M,h1,h2,h3⟩:=q
    simp only [Exit.inBlock]
    simp only [look] at h2
    by_cases hid:id'=id
    · subst hid
      simp at h2
      subst h2
      simp only [if_true]
      exact ⟨f,h1,h3⟩
    · have hb:Nat.beq id id'=false:=by
        cases hh:Nat.beq id id' with
        | false=>rfl
        | true=>exact absurd (Nat.eq_of_beq_eq_true hh).symm hid
      simp [hb] at h2
      simp only [hid,if_false]
      exact ⟨f,M,h1,h2,h3⟩
  | goto l=>exact q
  | panic c=>exact q
  | outgrown=>exact q
theorem cw_loop {c:Code} (I:Nat→FW) (k0:Nat) (h0:I k0 f w)
    (step:∀ k f w,I k f w→CW P n c (fun f' w'=>∃ k',k'<k∧I k' f' w') R E f w):CW P n (.loop c) N R E f w:=by
  intro b k cs
  have key:∀ m f w,I m f w →
      ∃ e a' w',toQ n N R E e a' w'∧Arrives P (lone (b.at (A n f) (.code c::.inLoop c::k)) cs w) b k cs e a' w':=by
    intro m
    induction m using Nat.strongRecOn with
    | _ m ih =>
      intro f w hI
      obtain ⟨e,a₁,w₁,hq,harr⟩:=step m f w hI b (.inLoop c::k) cs
      cases e with
      | normal =>
        obtain ⟨f',rfl,k',hlt,hI'⟩:=hq
        obtain ⟨e₂,a₂,w₂,hq₂,harr₂⟩:=ih k' hlt f' w₁ hI'
        exact ⟨e₂,a₂,w₂,hq₂,.of_steps (Steps.trans harr (.one step_inLoop)) harr₂⟩
      | exit id=>exact ⟨.exit id,a₁,w₁,hq,.pass (x:=.inLoop c) rfl (fun _ _=>.inl (by simp)) harr⟩
      | goto l=>exact hq.elim
      | ret=>exact ⟨.ret,a₁,w₁,hq,.pass (x:=.inLoop c) rfl (fun _ _=>.inl (by simp)) harr⟩
      | panic ch=>exact hq.elim
      | outgrown=>exact hq.elim
  obtain ⟨e,a',w',hq,harr⟩:=key k0 f w h0
  exact ⟨e,a',w',hq,.of_steps (.one step_loop) harr⟩
end

def CV (P:Program) (g:FuncId) (args:Array Value) (w:World) (R:Value→World→Prop):Prop :=
  Calls P g args w fun e w'=>∃ v,e=.returned v∧R v w'
theorem CV.mono {P:Program} {g:FuncId} {args:Array Value} {w:World} {R R':Value→World→Prop} (h:CV P g args w R) (hR:∀ v w',R v w'→R' v w'):CV P g args w R' :=
  Calls.mono h fun _ _ ⟨v,he,hr⟩=>⟨v,he,hR _ _ hr⟩

def RetOf (P:Program) (fn:Func) (n:Nat) (R:Value→World→Prop):FW:=fun f w=>∃ v,(results fn (A n f).tmps).run P w=.ok v w∧R v w

theorem cv_of_cw {P:Program} {g:FuncId} {fn:Func} {c:Code} {args:List Value} {w:World} {R:Value→World→Prop} (n:Nat)
    (hf:P.funcs[g]?=some fn) (hb:fn.body=some c) (hn:fn.ntmps=n) (hl:Nat.ble args.length n=true)
    (h:CW P n c (RetOf P fn n R) (RetOf P fn n R) [] (f0 args) w):CV P g args.toArray w R:=by
  refine calls_of_wp hf hb ?_
  rw [hn,A_enter args n hl]
  refine Go.Code.wp_mono ?_ h
  intro e a w q
  cases e with
  | normal=>obtain ⟨f,h1,v,h2,h3⟩:=q; subst h1; exact ⟨rfl,v,h2,v,rfl,h3⟩
  | ret=>obtain ⟨f,h1,v,h2,h3⟩:=q; subst h1; exact ⟨rfl,v,h2,v,rfl,h3⟩
  | exit id=>obtain ⟨f,M,h1,h2,h3⟩:=q; simp [look] at h2
  | goto l=>exact q
  | panic c=>exact q.elim
  | outgrown=>exact q.elim

def resAt (P:Program) (f:Nat→Value) (n:Nat) (w:World):ResultVar→Value→Prop
  | .tmp t,v=>ev n f (.tmp t)=v
  | .cell t ty,v=>∃ a,ev n f (.tmp t)=.pointer (some a)∧(loadVar ty a).run P w=.ok v w


section
variable {P:Program} {f:Nat→Value} {n:Nat} {w:World} {fn:Func} {r1 r2 r3 r4:ResultVar} {v1 v2 v3 v4:Value} {R:Value→World→Prop}
def resSem (tmps:Array Value):ResultVar→Sem Value
  | .tmp t=>pure (tmps.getD t undef)
  | .cell a t=>do loadVar t (← asAddr (tmps.getD a undef))
theorem results_eq (fn:Func) (tmps:Array Value):results fn tmps=(do
    let vs ← fn.results.mapM (resSem tmps)
    pure (if h:vs.size=1 then vs[0] else .tuple vs)):=by
  unfold results
  congr 1
theorem res_run {r:ResultVar} {v:Value} (h:resAt P f n w r v):(resSem (A n f).tmps r).run P w=.ok v w:=by
  cases r with
  | tmp t =>
    have e:=A_getD n f t
    simp only [resAt,ev] at h
    show (pure ((A n f).tmps.getD t undef):Sem Value).run P w=_
    rw [e,h]; rfl
  | cell t ty =>
    obtain ⟨a,h1,h2⟩:=h
    have e:=A_getD n f t
    simp only [ev] at h1
    show (asAddr ((A n f).tmps.getD t undef) >>= fun a=>loadVar ty a).run P w=_
    rw [e,h1]
    simpa [asAddr] using h2
theorem ret0 (h:fn.results=#[]) (hR:R (.tuple #[]) w):RetOf P fn n R f w:=⟨_,by simp [results,h],hR⟩
theorem ret1 (h:fn.results=#[r1]) (h1:resAt P f n w r1 v1) (hR:R v1 w):RetOf P fn n R f w:=by
  refine ⟨_,?_,hR⟩
  rw [results_eq,h]
  simp [res_run h1]
theorem ret2 (h:fn.results=#[r1,r2]) (h1:resAt P f n w r1 v1) (h2:resAt P f n w r2 v2) (hR:R (.tuple #[v1,v2]) w):RetOf P fn n R f w:=by
  refine ⟨_,?_,hR⟩
  rw [results_eq,h]
  simp [res_run h1,res_run h2]
theorem ret3 (h:fn.results=#[r1,r2,r3]) (h1:resAt P f n w r1 v1) (h2:resAt P f n w r2 v2) (h3:resAt P f n w r3 v3) (hR:R (.tuple #[v1,v2,v3]) w):RetOf P fn n R f w:=by
  refine ⟨_,?_,hR⟩
  rw [results_eq,h]
  simp [res_run h1,res_run h2,res_run h3]
end

def RW (P:Program) (n:Nat) (ops:Array Oper) (N:FW) (l:List Oper) (f:Nat→Value) (w:World):Prop :=
  wpList P ops (toQ n N (fun _ _=>False) []) l (A n f) w

section
variable {P:Program} {n:Nat} {N R:FW} {E:List (Nat×FW)} {f:Nat→Value} {w:World} {ops:Array Oper} {rest:List Oper} {o:Oper}

theorem cw_region {id:Nat} {l:List Oper} (h:RW P n l.toArray N l f w):CW P n (.region id l.toArray false) N R E f w :=
  cw_mono (N:=N) (R:=fun _ _=>False) (E:=[]) (wp_region_lit h) (fun _ _ h=>h) (fun _ _ h=>h.elim) (fun _ _ h=>by simp [look] at h)
theorem rw_nil (h:N f w):RW P n ops N [] f w:=wpList_nil ⟨f,rfl,h⟩

def Yw (P:Program) (n:Nat) (f:Nat→Value) (w:World) (o:Oper) (v:Value) (w':World):Prop :=
  (execOp (ev n f) o).run P w=.ok (.value v) w'∨((execOp (ev n f) o).run P w=.ok .skip w'∧v=undef)
def Y (P:Program) (n:Nat) (f:Nat→Value) (w:World) (o:Oper) (v:Value):Prop:=(execOp (ev n f) o).run P w=.ok (.value v) w
theorem Y.toW {v:Value} (h:Y P n f w o v):Yw P n f w o v w:=.inl h
def Yc (P:Program) (n:Nat) (f:Nat→Value) (w:World) (o:Oper) (R:Value→World→Prop):Prop :=
  ∃ g args,(execOp (ev n f) o).run P w=.ok (.enter g args) w∧CV P g args w R

theorem rw_w (hg:o.guard=none) {v:Value} {w':World} (h:Yw P n f w o v w') (k:RW P n ops N rest (putf f o.dst v) w'):RW P n ops N (o::rest) f w:=by
  refine wpList_plain hg (fun K hK=>?_)
  unfold Oper.wp
  rw [A_eval]
  rcases h with h | ⟨h,hv⟩
  · rw [h]
    show K ((A n f).put o.dst v) w'
    rw [A_put]
    exact hK _ _ k
  · rw [h]
    show K ((A n f).put o.dst undef) w'
    rw [A_put]
    rw [hv] at k
    exact hK _ _ k
theorem rw_q (hg:o.guard=none) {v:Value} (h:Y P n f w o v) (k:RW P n ops N rest (putf f o.dst v) w):RW P n ops N (o::rest) f w:=rw_w hg h.toW k
theorem oper_wp_call {Rv:Value→World→Prop} (h:Yc P n f w o Rv) {K:Act→World→Prop} {Q:Exit→Act→World→Prop} (k:∀ v w',Rv v w'→K (A n (putf f o.dst v)) w') :
    o.wp P (A n f) w K Q:=by
  obtain ⟨g,args,he,hc⟩:=h
  unfold Oper.wp
  rw [A_eval,he]
  refine Calls.mono hc ?_
  rintro e w' ⟨v,rfl,hv⟩
  show K ((A n f).put o.dst v) w'
  rw [A_put]
  exact k v w' hv
theorem rw_c (hg:o.guard=none) {Rv:Value→World→Prop} (h:Yc P n f w o Rv) (k:∀ v w',Rv v w'→RW P n ops N rest (putf f o.dst v) w'):RW P n ops N (o::rest) f w :=
  wpList_plain hg (fun _ hK=>oper_wp_call h (fun v w' hv=>hK _ _ (k v w' hv)))

def gd (n:Nat) (f:Nat→Value) (ops:Array Oper) (j:Nat):Value:=match (ops[j]?).bind (·.dst) with | some t=>ev n f (.tmp t) | none=>undef
def Wt (v:Value) (want B:Bool):Prop:=B=true↔v=.bool want
theorem yielded_gd {ops:Array Oper} {j:Nat} {b:Bool}:yielded ops (A n f).tmps j=some b↔gd n f ops j=.bool b:=by
  unfold yielded gd
  cases hd:(ops[j]?).bind (·.dst) with
  | none=>simp [undef]
  | some t =>
    simp only [Option.bind_some]
    by_cases hlt:t<n
    · have hbl:Nat.blt t n=true:=by rw [Nat.blt_eq]; exact hlt
      have e:(A n f).tmps[t]?=some (f t):=by simp [A,hlt]
      simp only [e,ev,hbl,cond_true]
      cases f t <;> simp
    · have hbl:Nat.blt t n=false:=by
        cases hh:Nat.blt t n with
        | false=>rfl
        | true=>exact absurd (Nat.blt_eq.mp hh) hlt
      have e:(A n f).tmps[t]?=none:=by simp [A,hlt]
      simp [e,ev,hbl,undef]
theorem wanted_gd {j:Nat} {want B:Bool} (hg:o.guard=some (j,want)) (hb:Wt (gd n f ops j) want B):Region.wanted o (yielded ops (A n f).tmps)=B:=by
  unfold Region.wanted
  rw [hg]
  simp only
  unfold Wt at hb
  rw [← yielded_gd] at hb
  cases B with
  | true=>rw [hb.1 rfl]; simp
  | false =>
    have:¬ yielded ops (A n f).tmps j=some want:=fun h=>by have:=hb.2 h; cases this
    simpa using this
theorem rw_gy {j:Nat} {want B:Bool} (hg:o.guard=some (j,want)) (hb:Wt (gd n f ops j) want B) (hbw:B=true) {v:Value} {w':World} (h:Yw P n f w o v w')
    (k:RW P n ops N rest (putf f o.dst v) w'):RW P n ops N (o::rest) f w:=by
  refine wpList_step (fun K hK=>?_)
  rw [wanted_gd hg hb,hbw]
  simp only [if_true]
  unfold Oper.wp
  rw [A_eval]
  rcases h with h | ⟨h,hv⟩
  · rw [h]
    show K ((A n f).put o.dst v) w'
    rw [A_put]
    exact hK _ _ k
  · rw [h]
    show K ((A n f).put o.dst undef) w'
    rw [A_put]
    rw [hv] at k
    exact hK _ _ k
theorem rw_gyc {j:Nat} {want B:Bool} (hg:o.guard=some (j,want)) (hb:Wt (gd n f ops j) want B) (hbw:B=true) {Rv:Value→World→Prop} (h:Yc P n f w o Rv)
    (k:∀ v w',Rv v w'→RW P n ops N rest (putf f o.dst v) w'):RW P n ops N (o::rest) f w:=by
  refine wpList_step (fun K hK=>?_)
  rw [wanted_gd hg hb,hbw]
  simp only [if_true]
  exact oper_wp_call h (fun v w' hv=>hK _ _ (k v w' hv))
theorem rw_gn {j:Nat} {want B:Bool} (hg:o.guard=some (j,want)) (hb:Wt (gd n f ops j) want B) (hbw:B=false)
    (k:RW P n ops N rest (putf f o.dst undef) w):RW P n ops N (o::rest) f w:=by
  refine wpList_step (fun K hK=>?_)
  rw [wanted_gd hg hb,hbw]
  simp only [Bool.false_eq_true,if_false]
  rw [A_put]
  exact hK _ _ k
@[irreducible] def gv (B:Bool) (v:Value):Value:=bif B then v else undef
theorem gv_of {B:Bool} {v:Value} (h:B=true):gv B v=v:=by unfold gv; rw [h]; rfl
theorem gv_no {B:Bool} {v:Value} (h:B=false):gv B v=undef:=by unfold gv; rw [h]; rfl
theorem gv_and {B C:Bool} {v:Value} (h:B=true):gv (B&&C) v=gv C v:=by rw [h,Bool.true_and]
theorem nt {b:Bool} (h:(!b)=true):b=false:=by simpa using h
theorem wt_t {v:Value} {b:Bool} (h:v=.bool b):Wt v true b:=by subst h; unfold Wt; simp
theorem wt_f {v:Value} {b:Bool} (h:v=.bool b):Wt v false (!b):=by subst h; unfold Wt; simp
theorem wt_gt {v:Value} {C b:Bool} (h:v=gv C (.bool b)):Wt v true (C&&b):=by
  subst h; unfold Wt
  cases C
  · rw [gv_no rfl]; simp [undef]
  · rw [gv_of rfl]; simp
theorem wt_gf {v:Value} {C b:Bool} (h:v=gv C (.bool b)):Wt v false (C&&!b):=by
  subst h; unfold Wt
  cases C
  · rw [gv_no rfl]; simp [undef]
  · rw [gv_of rfl]; simp
theorem rw_gq {j:Nat} {want B:Bool} (hg:o.guard=some (j,want)) (hb:Wt (gd n f ops j) want B) {v:Value} (h:B=true→Y P n f w o v)
    (k:RW P n ops N rest (putf f o.dst (gv B v)) w):RW P n ops N (o::rest) f w:=by
  by_cases hbw:B=true
  · refine rw_gy hg hb hbw (h hbw).toW ?_
    rw [gv_of hbw] at k
    exact k
  · have hbw':B=false:=by simpa using hbw
    refine rw_gn hg hb hbw' ?_
    rw [gv_no hbw'] at k
    exact k
theorem gd_of {ops:Array Oper} {j t:Nat} {v:Value} (h:(ops.toList[j]?).bind (·.dst)=some t) (hb:ev n f (.tmp t)=v):gd n f ops j=v:=by
  unfold gd
  rw [← Array.getElem?_toList,h]
  exact hb
end
end Go.VK
