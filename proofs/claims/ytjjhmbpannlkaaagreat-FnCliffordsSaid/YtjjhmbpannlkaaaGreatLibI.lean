/- Loops over lists in the functions' own words: invariants, two loops beside each other, marks that are found again. Plain lemmas. -/
import Derived.Test.YtjjhmbpannlkaaaGreatLibG
namespace Go.VK

theorem getI_nat {α:Type} {l:List α} {i:Nat}:getI l (i:Int)=l[i]?:=by simp [getI]
theorem getI_at {α:Type} {l:List α} {i:Int} (h0:0≤i) (h1:i<l.length):∃ x,getI l i=some x∧l[i.toNat]?=some x:=by
  have h:i.toNat<l.length:=by omega
  exact ⟨l[i.toNat],by simp [getI,h0,h],by simp [h]⟩
theorem chk_t {α:Type} {c:Prop} [Decidable c] {k:Option α} (h:c):chk c k=k:=if_pos h
theorem wrap_i64 {a:Int} (h:I64 a):IntKind.i64.wrap a=a:=by
  unfold I64 at h
  simp [IntKind.wrap,IntKind.signed,IntKind.bits]
  omega

section
variable {σ τ ρ ρ':Type}
theorem forN_inv {f:Nat→σ→Option σ} (I:Nat→σ→Prop):∀ (k i:Nat) (s:σ),I i s→(∀ j s,i≤j→j<i+k→I j s→∃ s',f j s=some s'∧I (j+1) s')→∃ s',forN f k i s=some s'∧I (i+k) s'
  | 0,i,s,h,_=>⟨s,rfl,h⟩
  | k+1,i,s,h,hs=>by
    obtain ⟨s',h1,h2⟩:=hs i s (Nat.le_refl _) (by omega) h
    obtain ⟨s'',h3,h4⟩:=forN_inv I k (i+1) s' h2 (fun j s hj hk hI=>hs j s (by omega) (by omega) hI)
    exact ⟨s'',by simp only [forN,h1,Option.bind_some]; exact h3,by rw [show i+(k+1)=i+1+k by omega]; exact h4⟩
theorem forX_inv {f:Nat→σ→Option (Ex σ ρ)} (I:Nat→σ→Prop) (Q:ρ→Prop):∀ (k i:Nat) (s:σ),I i s →
    (∀ j s,i≤j→j<i+k→I j s→(∃ s',f j s=some (.nx s')∧I (j+1) s')∨∃ r,f j s=some (.rt r)∧Q r)→(∃ s',forX f k i s=some (.inl s')∧I (i+k) s')∨∃ r,forX f k i s=some (.inr r)∧Q r
  | 0,i,s,h,_=>.inl ⟨s,rfl,h⟩
  | k+1,i,s,h,hs=>by
    rcases hs i s (Nat.le_refl _) (by omega) h with ⟨s',h1,h2⟩ | ⟨r,h1,h2⟩
    · rcases forX_inv I Q k (i+1) s' h2 (fun j s hj hk hI=>hs j s (by omega) (by omega) hI) with ⟨s'',h3,h4⟩ | ⟨r,h3,h4⟩
      · exact .inl ⟨s'',by simp only [forX,h1,Option.bind_some]; exact h3,by rw [show i+(k+1)=i+1+k by omega]; exact h4⟩
      · exact .inr ⟨r,by simp only [forX,h1,Option.bind_some]; exact h3,h4⟩
    · exact .inr ⟨r,by simp only [forX,h1,Option.bind_some],h2⟩
theorem forX_any {α:Type} {f:Nat→Unit→Option (Ex Unit ρ)} {l:List α} {p:α→Bool} {q:Nat→ρ} (hf:∀ i x,l[i]?=some x→f i ()=some (bif p x then .rt (q i) else .nx ())) :
    (l.any p=false∧forX f l.length 0 ()=some (.inl ()))∨(l.any p=true∧∃ i,i<l.length∧forX f l.length 0 ()=some (.inr (q i))):=by
  have h:=forX_inv (f:=f) (fun j _=>∀ i,i<j→∀ x,l[i]?=some x→p x=false) (fun r=>l.any p=true∧∃ i,i<l.length∧r=q i) l.length 0 () (fun i hi=>absurd hi (Nat.not_lt_zero _)) (fun j s _ hj hI=>by
    have hj:j<l.length:=by omega
    have hx:=List.getElem?_eq_getElem hj
    have:=hf j _ hx
    cases hp:p l[j] with
    | false =>
      rw [hp] at this
      refine .inl ⟨(),this,fun i hi x hxi=>?_⟩
      rcases Nat.lt_succ_iff_lt_or_eq.1 hi with h | rfl
      · exact hI i h x hxi
      · rw [hx] at hxi; cases hxi; exact hp
    | true =>
      rw [hp] at this
      exact .inr ⟨q j,this,List.any_eq_true.2 ⟨l[j],List.getElem_mem hj,hp⟩,j,hj,rfl⟩)
  rcases h with ⟨⟨⟩,h1,h2⟩ | ⟨r,h1,h2,i,hi,rfl⟩
  · refine .inl ⟨?_,h1⟩
    rw [List.any_eq_false]
    intro x hx
    obtain ⟨i,hi⟩:=List.mem_iff_getElem?.1 hx
    have hlt:=(List.getElem?_eq_some_iff.1 hi).1
    simp [h2 i (by omega) x hi]
  · exact .inr ⟨h2,i,hi,h1⟩
end
end Go.VK
