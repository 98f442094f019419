/- The words in which the functions are written down, and lists as cells. Plain lemmas. -/
import Derived.Test.YtjjhmbpannlkaaaGreatLibD
namespace Go.VK
open Go.RowKit

def chk {α:Type} (c:Prop) [Decidable c] (k:Option α):Option α:=if c then k else none
theorem chk_inv {α:Type} {c:Prop} [Decidable c] {k:Option α} {r:α} (h:chk c k=some r):c∧k=some r:=by
  unfold chk at h; split at h
  · rename_i hc; exact ⟨hc,h⟩
  · cases h
theorem bind_inv {α β:Type} {x:Option α} {k:α→Option β} {r:β} (h:x.bind k=some r):∃ a,x=some a∧k a=some r:=by
  cases x with
  | none=>cases h
  | some a=>exact ⟨a,rfl,h⟩
theorem ct {α:Type} {b:Bool} {x y:Option α} {r:α} (h:(bif b then x else y)=some r) (hb:b=true):x=some r:=by subst hb; exact h
theorem cf' {α:Type} {b:Bool} {x y:Option α} {r:α} (h:(bif b then x else y)=some r) (hb:b=false):y=some r:=by subst hb; exact h
def lt {α β:Type} (e:α) (k:α→Option β):Option β:=k e
inductive Ex (σ ρ:Type) where
  | nx (s:σ)
  | br (s:σ)
  | rt (r:ρ)
def forN {σ:Type} (f:Nat→σ→Option σ):Nat→Nat→σ→Option σ
  | 0,_,s=>some s
  | k+1,i,s=>(f i s).bind fun s'=>forN f k (i+1) s'
def forX {σ ρ:Type} (f:Nat→σ→Option (Ex σ ρ)):Nat→Nat→σ→Option (σ ⊕ ρ)
  | 0,_,s=>some (.inl s)
  | k+1,i,s=>(f i s).bind fun
    | .nx s'=>forX f k (i+1) s'
    | .br s'=>some (.inl s')
    | .rt r=>some (.inr r)
def whX {σ ρ:Type} (f:σ→Option (Ex σ ρ)):Nat→σ→Option (σ ⊕ ρ)
  | 0,_=>none
  | k+1,s=>(f s).bind fun
    | .nx s'=>whX f k s'
    | .br s'=>some (.inl s')
    | .rt r=>some (.inr r)
def orR {σ ρ:Type} (k:σ→Option ρ):σ ⊕ ρ→Option ρ
  | .inl s=>k s
  | .inr q=>some q
def fuel:Nat:=2 ^ 64

theorem forN_go {σ:Type} {f:Nat→σ→Option σ} {k i:Nat} {s r:σ} (h:forN f (k+1) i s=some r):∃ s',f i s=some s'∧forN f k (i+1) s'=some r:=bind_inv h
theorem forX_go {σ ρ:Type} {f:Nat→σ→Option (Ex σ ρ)} {k i:Nat} {s:σ} {r:σ ⊕ ρ} (h:forX f (k+1) i s=some r) :
    ∃ x,f i s=some x∧(match x with | .nx s'=>forX f k (i+1) s' | .br s'=>some (.inl s') | .rt q=>some (.inr q))=some r:=bind_inv h
theorem whX_go {σ ρ:Type} {f:σ→Option (Ex σ ρ)} {k:Nat} {s:σ} {r:σ ⊕ ρ} (h:whX f k s=some r) :
    ∃ k' x,k=k'+1∧f s=some x∧(match x with | .nx s'=>whX f k' s' | .br s'=>some (.inl s') | .rt q=>some (.inr q))=some r:=by
  cases k with
  | zero=>cases h
  | succ k=>obtain ⟨x,h1,h2⟩:=bind_inv h; exact ⟨k,x,rfl,h1,h2⟩
theorem some_inj {α:Type} {a b:α} (h:some a=some b):a=b:=Option.some.inj h

def FF (f:Nat→Value) (l:List (Nat×Value)):Prop:=∀ p∈l,f p.1=p.2
theorem FF.get {f:Nat→Value} {l:List (Nat×Value)} (h:FF f l) (t i:Nat) {v:Value} (hi:l[i]?=some (t,v)):f t=v:=h _ (List.mem_of_getElem? hi)
theorem FF.nil {f:Nat→Value}:FF f []:=fun _ h=>by cases h
theorem FF.cons {f:Nat→Value} {l:List (Nat×Value)} {t:Nat} {v:Value} (h:f t=v) (hl:FF f l):FF f ((t,v)::l):=fun p hp=>by
  rcases List.mem_cons.1 hp with rfl | hp
  · exact h
  · exact hl p hp

section
variable {α:Type} {enc:α→List Value} {s:Nat}
theorem fm_len (hs:∀ x,(enc x).length=s):∀ (l:List α),(l.flatMap enc).length=l.length*s
  | []=>by simp
  | x::l=>by simp [List.flatMap_cons,hs x,fm_len hs l,Nat.add_mul]; omega
theorem fm_drop (hs:∀ x,(enc x).length=s):∀ (l:List α) (i:Nat),(l.flatMap enc).drop (i*s)=(l.drop i).flatMap enc
  | [],i=>by simp
  | x::l,0=>by simp
  | x::l,i+1=>by
    rw [List.flatMap_cons,Nat.add_mul,Nat.one_mul,Nat.add_comm,← List.drop_drop]
    rw [show List.drop s (enc x++l.flatMap enc)=l.flatMap enc by rw [← hs x]; simp]
    simpa using fm_drop hs l i
theorem fm_take (hs:∀ x,(enc x).length=s):∀ (l:List α) (i:Nat),(l.flatMap enc).take (i*s)=(l.take i).flatMap enc
  | [],i=>by simp
  | x::l,0=>by simp
  | x::l,i+1=>by
    rw [List.flatMap_cons,Nat.add_mul,Nat.one_mul,Nat.add_comm,← hs x]
    rw [List.take_length_add_append,hs x]
    simp [fm_take hs l i]
theorem fm_seg (hs:∀ x,(enc x).length=s) {l:List α} {i:Nat} (hi:i<l.length) (d:α):((l.flatMap enc).drop (i*s)).take s=enc (l.getD i d):=by
  rw [fm_drop hs,List.drop_eq_getElem_cons hi,List.flatMap_cons,← hs l[i]]
  simp [hi]
theorem fm_at (hs:∀ x,(enc x).length=s) {l:List α} {i j:Nat} (hi:i<l.length) {v:Value} (d:α) (hv:(enc (l.getD i d))[j]?=some v):(l.flatMap enc)[i*s+j]?=some v:=by
  have hj:j<s:=by
    have:=(List.getElem?_eq_some_iff.1 hv).1
    rw [hs] at this; exact this
  rw [← List.getElem?_drop]
  have h:=fm_seg hs hi d
  rw [← h,List.getElem?_take] at hv
  simpa [hj] using hv
theorem fm_set (hs:∀ x,(enc x).length=s) {l:List α} {i:Nat} (hi:i<l.length) (x:α):splice (l.flatMap enc) (i*s) (enc x)=(l.set i x).flatMap enc:=by
  unfold splice
  rw [fm_take hs,hs x,show i*s+s=(i+1)*s by rw [Nat.add_mul]; omega,fm_drop hs,List.set_eq_take_append_cons_drop,if_pos hi]
  simp
theorem splice_at {cs vs:List Value} {k j:Nat} {seg:List Value} (h:(cs.drop k).take seg.length=seg) (hj:j+vs.length≤seg.length) (hk:k+seg.length≤cs.length) :
    splice cs (k+j) vs=splice cs k (splice seg j vs):=by
  have hcs:cs=cs.take k++seg++cs.drop (k+seg.length):=by
    conv=>lhs; rw [← List.take_append_drop k cs,← List.take_append_drop seg.length (cs.drop k),h,List.drop_drop]
    simp [List.append_assoc]
  have hlen:(cs.take k).length=k:=by simp; omega
  generalize hA:cs.take k=A at *
  generalize hC:cs.drop (k+seg.length)=C at *
  subst hcs
  unfold splice
  rw [List.append_assoc A seg C]
  have e1:(A++(seg++C)).take (k+j)=A++seg.take j:=by
    rw [← hlen,List.take_length_add_append,List.take_append_of_le_length (by omega)]
  have e2:(A++(seg++C)).drop (k+j+vs.length)=seg.drop (j+vs.length)++C:=by
    rw [Nat.add_assoc,← hlen,List.drop_length_add_append,List.drop_append_of_le_length (by omega)]
  have e3:(A++(seg++C)).take k=A:=by rw [← hlen]; simp
  have hl:(seg.take j++vs++seg.drop (j+vs.length)).length=seg.length:=by simp; omega
  have e4:(A++(seg++C)).drop (k+(seg.take j++vs++seg.drop (j+vs.length)).length)=C:=by
    rw [hl,← hlen,List.drop_length_add_append]; simp
  rw [e1,e2,e3,e4]
  simp [List.append_assoc]
theorem fm_setf (hs:∀ x,(enc x).length=s) {l:List α} {i j:Nat} (hi:i<l.length) (d x:α) {vs:List Value} (hx:splice (enc (l.getD i d)) j vs=enc x) (hj:j+vs.length≤s) :
    splice (l.flatMap enc) (i*s+j) vs=(l.set i x).flatMap enc:=by
  have h:=fm_seg hs hi d
  have hl:(enc (l.getD i d)).length=s:=hs _
  rw [splice_at (seg:=enc (l.getD i d)) (by rw [hl]; exact h) (by omega),hx,fm_set hs hi]
  rw [hl,fm_len hs]
  have:(i+1)*s≤l.length*s:=Nat.mul_le_mul_right _ hi
  rw [Nat.add_mul] at this; omega
theorem fm_lenn {l:List α} {k:Nat} (hs:∀ x,(enc x).length=s) (h:l.length=k):(l.flatMap enc).length=k*s:=by rw [fm_len hs,h]
theorem fm_lenn2 {l:List α} {k m:Nat} (hs:∀ x,(enc x).length=s) (h:l.length=k) (hm:k*s=m):(l.flatMap enc).length=m:=by rw [fm_len hs,h,hm]
theorem fm_fit {l:List α} {k m:Nat} (hs:∀ x,(enc x).length=s) (h:l.length=k) (hm:k*s=m):0+m≤(l.flatMap enc).length:=by rw [fm_lenn2 hs h hm]; omega
theorem fm_spl {l l':List α} {k:Nat} (hs:∀ x,(enc x).length=s) (h:l.length=k) (h':l'.length=k):splice (l.flatMap enc) 0 (l'.flatMap enc)=l'.flatMap enc:=by
  unfold splice
  rw [List.take_zero,List.nil_append,List.drop_of_length_le,List.append_nil]
  rw [fm_len hs,fm_len hs,h,h']; omega
theorem nil_cont {w:World} {B:Option Addr} {l:List α} (hs:∀ x,(enc x).length=s) (h:CF w B (l.flatMap enc)) (hs0:Nat.blt 0 s=true) (hB:B.isNone=true):l=[]:=by
  have hs0:=Nat.blt_eq.mp hs0
  cases l with
  | nil=>rfl
  | cons x l =>
    have:((x::l).flatMap enc)≠[]:=fun he=>by
      have h2:=fm_len hs (x::l)
      rw [he] at h2
      simp only [List.length_nil,List.length_cons] at h2
      have:0<(l.length+1)*s:=Nat.mul_pos (by omega) hs0
      omega
    have:=h.1 this
    cases B <;> simp_all
theorem app_len {l l':List α} {a b:Nat} (h:l.length=a) (h':l'.length=b):a+b=(l++l').length:=by rw [List.length_append,h,h']
theorem app_len0 {l:List α} {b:Nat} (h:l.length=b):0+b=l.length:=by omega
theorem fm_app (l l':List α):l.flatMap enc++l'.flatMap enc=(l++l').flatMap enc:=List.flatMap_append.symm
theorem fm_one' (h1:∀ x,one (enc x)=true) (l:List α):one (l.flatMap enc)=true:=by
  unfold one at *
  rw [List.all_flatMap,List.all_eq_true]
  exact fun x _=>h1 x
theorem fm_isSome {w:World} {B:Option Addr} {l:List α} (hs:∀ x,(enc x).length=s) (hs0:Nat.blt 0 s=true) (h:CF w B (l.flatMap enc)) {i:Nat} (hi:i<l.length):B.isSome=true:=by
  refine h.1 (fun he=>?_)
  have:=fm_len hs l
  rw [he] at this
  have h0:=Nat.blt_eq.mp hs0
  have:0<l.length*s:=Nat.mul_pos (by omega) h0
  simp at *
  omega
end
def encI (x:Int):List Value:=[.int .i64 x]
theorem encI_len (x:Int):(encI x).length=1:=rfl
end Go.VK
