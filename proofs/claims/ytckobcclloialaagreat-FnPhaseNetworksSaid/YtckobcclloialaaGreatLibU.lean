/- copy between rows, and keys that are strings. Plain lemmas over any program. -/
import Derived.Test.YtckobcclloialaaGreatLibS
import Derived.Test.YtckobcclloialaaGreatLibP
namespace Go.VK
open Go.RowKit
theorem CF.pre {w:World} {B:Option Addr} {cs cs':List Value} (h:CF w B cs) (hp:cs' <+: cs):CF w B cs':=by
  obtain ⟨t,rfl⟩:=hp
  refine ⟨fun hne=>h.1 (fun e=>hne (List.append_eq_nil_iff.1 e).1),fun j u hu=>h.2 j u ?_⟩
  rw [List.getElem?_append_left (List.getElem?_eq_some_iff.1 hu).1]; exact hu
theorem pre_take {α:Type} {enc:α→List Value} (l:List α) (k:Nat):(l.take k).flatMap enc <+: l.flatMap enc:=by
  refine ⟨(l.drop k).flatMap enc,?_⟩
  rw [← List.flatMap_append,List.take_append_drop]
section
variable {P:Program} {n:Nat} {f:Nat→Value} {w0 w:World} {M:List Nat} {L L':List Ob} {R:List Ro} {o:Oper} {T e:TypeId} {x y:Operand}
theorem run_first {X:Option Addr} {cs:List Value} {k c2 s nn:Nat} (hX:CF w X cs) (hl:cs.length=nn*s):(Builtin.firstCells s nn (.slice X k c2)).run P w=.ok cs.toArray w:=by
  cases X with
  | none =>
    have hcs:cs=[]:=Classical.byContradiction fun h=>by have:=hX.1 h; cases this
    subst hcs
    rfl
  | some a =>
    have:=run_loadCells_list (P:=P) w a cs (fun j v h=>hX.2 j v h)
    rw [hl] at this
    exact this
theorem Ys_copyAt {α:Type} {enc:α→List Value} {s i lo m c k c2 cd:Nat} {B X:Option Addr} {l l':List α} (hS:ST w0 M w L R) (hT:sliceB P T e=true) (hs:sizeB P e s=true) (hs0:Nat.blt 0 s=true)
    (ho:o.op=.call ⟨.builtin .copy,#[x,y],#[T,T]⟩) (hx:ev n f x=.slice (sv B lo c s) (m-lo) cd) (hy:ev n f y=.slice X k c2) (hi:L[i]?=some ⟨B,e,l.flatMap enc,c*s⟩) (hl:l.length=m)
    (he:∀ x,(enc x).length=s) (h1:∀ x,one (enc x)=true) (hX:CF w X (l'.flatMap enc)) (hl':l'.length=k) (hlo:lo≤m)
    (hL:L.set i ⟨B,e,(List.take lo l++List.take (min k (m-lo)) l'++List.drop (lo+min k (m-lo)) l).flatMap enc,c*s⟩=L') :
    Ys P n f w o (fun v w'=>v=.int .i64 ((min k (m-lo):Nat):Int)∧ST w0 M w' L' R):=by
  have ht:=sliceB_spec hT
  have hs0':=Nat.blt_eq.mp hs0
  have hmc:=hS.lencap hi (fm_lenn he hl) rfl hs0
  generalize hnn:min k (m-lo)=nn at hL
  have hmin:Nat.min k (m-lo)=nn:=hnn
  have hn1:nn≤k:=by omega
  have hn2:lo+nn≤m:=by omega
  have hlv:(l'.take nn).length=nn:=by rw [List.length_take]; omega
  have hfirst:=run_first (P:=P) (k:=k) (c2:=c2) (hX.pre (pre_take l' nn)) (fm_lenn (enc:=enc) he hlv)
  rcases Nat.eq_zero_or_pos nn with h0 | hpos
  · have hLL:L'=L:=by
      rw [← hL,h0]
      simp only [List.take_zero,List.append_nil,Nat.add_zero,List.take_append_drop]
      obtain ⟨hl2,he2⟩:=List.getElem?_eq_some_iff.1 hi
      rw [← he2,List.set_getElem_self]
    rw [h0] at hfirst hmin
    simp only [List.take_zero,List.flatMap_nil] at hfirst
    refine ⟨.int .i64 ((nn:Nat):Int),w,.inl ?_,rfl,by rw [hLL]; exact hS⟩
    rw [h0]
    unfold execOp; rw [ho]
    cases hB:sv B lo c s <;> rw [hB] at hx <;> simp [resolve,invoke,builtin,hx,hy,Builtin.copy_,run_underlying ht,Builtin.lenOf,hmin,run_sizeOf hs,hfirst,storeCells,goInt]
  · have hne:¬ c=lo:=by omega
    have hcell:lo*s+((l'.take nn).flatMap enc).length≤(l.flatMap enc).length:=by
      rw [fm_lenn he hlv,fm_lenn he hl,← Nat.add_mul]; exact Nat.mul_le_mul_right _ hn2
    have hspl:splice (l.flatMap enc) (lo*s) ((l'.take nn).flatMap enc)=(List.take lo l++List.take nn l'++List.drop (lo+nn) l).flatMap enc:=by
      unfold splice
      rw [fm_lenn he hlv,← Nat.add_mul,fm_take he,fm_drop he,List.flatMap_append,List.flatMap_append]
    obtain ⟨w',hr,hST⟩:=store_ST (P:=P) hS hi hcell (fm_one' h1 _) hspl hL
    have hBs:∃ b,B=some b:=by
      cases B with
      | some b=>exact ⟨b,rfl⟩
      | none =>
        have:=((hS.own _ (List.mem_of_getElem? hi)).cf).1 (by
          intro h
          have h2:=congrArg List.length h
          rw [fm_lenn he hl] at h2
          have:m=0:=by rcases Nat.mul_eq_zero.1 h2 with h | h <;> omega
          omega)
        cases this
    obtain ⟨b,rfl⟩:=hBs
    have hsv:sv (some b) lo c s=some (ad (some b) (lo*s)):=by unfold sv; rw [if_neg hne]; rfl
    rw [hsv] at hx
    refine ⟨.int .i64 ((nn:Nat):Int),w',.inl ?_,rfl,hST⟩
    unfold execOp; rw [ho]
    simp [resolve,invoke,builtin,hx,hy,Builtin.copy_,run_underlying ht,Builtin.lenOf,hmin,run_sizeOf hs,hfirst,hr,goInt]
theorem Ys_copy {α:Type} {enc:α→List Value} {s i m c k c2:Nat} {B X:Option Addr} {l l':List α} (hS:ST w0 M w L R) (hT:sliceB P T e=true) (hs:sizeB P e s=true) (hs0:Nat.blt 0 s=true)
    (ho:o.op=.call ⟨.builtin .copy,#[x,y],#[T,T]⟩) (hx:ev n f x=.slice B m c) (hy:ev n f y=.slice X k c2) (hi:L[i]?=some ⟨B,e,l.flatMap enc,c*s⟩) (hl:l.length=m)
    (he:∀ x,(enc x).length=s) (h1:∀ x,one (enc x)=true) (hX:CF w X (l'.flatMap enc)) (hl':l'.length=k)
    (hL:L.set i ⟨B,e,(List.take (min k m) l'++List.drop (min k m) l).flatMap enc,c*s⟩=L') :
    Ys P n f w o (fun v w'=>v=.int .i64 ((min k m:Nat):Int)∧ST w0 M w' L' R):=by
  have:=Ys_copyAt (P:=P) (n:=n) (f:=f) (o:=o) (x:=x) (y:=y) (lo:=0) (cd:=c) hS hT hs hs0 ho (by rw [sv_zero]; exact hx) hy hi hl he h1 hX hl' (Nat.zero_le m) (L':=L') (by rw [← hL]; simp)
  simpa using this
end
theorem copy_len {α:Type} {l l':List α} {k m:Nat} (hl:l.length=m) (hl':l'.length=k):(List.take (min k m) l'++List.drop (min k m) l).length=m:=by
  simp only [List.length_append,List.length_take,List.length_drop]; omega
theorem copyAt_len {α:Type} {l l':List α} {lo k m:Nat} (hl:l.length=m) (hl':l'.length=k) (h:lo≤m):(List.take lo l++List.take (min k (m-lo)) l'++List.drop (lo+min k (m-lo)) l).length=m:=by
  simp only [List.length_append,List.length_take,List.length_drop]; omega
end Go.VK
