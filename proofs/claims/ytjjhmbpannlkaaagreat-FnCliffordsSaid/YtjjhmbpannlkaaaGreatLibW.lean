/- Arrays compared, and maps whose keys are structs or arrays. Plain lemmas over any program. -/
import Derived.Test.YtjjhmbpannlkaaaGreatLibU
import Derived.ChangeKeysEq
namespace Go.VK
open Go.RowKit
section
variable {P:Program}
def ItmEq (P:Program) (d e c:Nat) (xs ys:List Value) (is:List Nat) (b:Bool):Prop:=∀ w:World,(Op.eqItems d e c xs.toArray ys.toArray is).run P w=.ok b w
theorem itm_nil {d e c:Nat} {xs ys:List Value}:ItmEq P d e c xs ys [] true:=fun w=>by simp [Op.eqItems]
theorem eqr_arr {d T n e c:Nat} {is:List Nat} {xs ys:List Value} {b:Bool} (hT:arrB P T n e=true) (hs:sizeB P e c=true) (hi:List.range n=is) (h:ItmEq P d e c xs ys is b):EqR P (d+1) T (.agg xs.toArray) (.agg ys.toArray) b:=fun w=>by
  obtain ⟨i,hi',hc⟩:=sizeB_spec hs
  rw [Go.run_equalIn_array w d xs.toArray ys.toArray (arrB_spec hT) hi',show P.cellsOf e=c from by simp [Program.cellsOf,hi',hc],hi]
  exact h w
theorem itm_ag {d e c i:Nat} {is:List Nat} {xs ys us vs:List Value} {b b':Bool} (hT:aggB P e=true) (hs:sizeB P e c=true) (hu:(xs.drop (i*c)).take c=us) (hv:(ys.drop (i*c)).take c=vs) (h:EqR P d e (.agg us.toArray) (.agg vs.toArray) b) (hr:ItmEq P d e c xs ys is b'):ItmEq P d e c xs ys (i::is) (b&&b'):=fun w=>by
  have hr':=hr w
  have e1:xs.toArray.extract (i*c) (i*c+c)=us.toArray:=by rw [← hu]; apply Array.ext'; simp
  have e2:ys.toArray.extract (i*c) (i*c+c)=vs.toArray:=by rw [← hv]; apply Array.ext'; simp
  unfold Op.eqItems
  simp only [Sem.run_bind,part,run_isAgg_agg hT,Result.andThen_ok,if_true,run_sizeOf hs,e1,e2,Sem.run_pure,h w,Sem.run_ite]
  cases b
  · simp
  · simpa using hr'
def ChkR (P:Program) (d T:Nat) (v:Value):Prop:=∀ (em:Bool) (w:World),(Instr.checkKey em d T v).run P w=.ok () w
theorem chk_int {d T:Nat} {k k':IntKind} {a:Int} (h:intB P T k=true):ChkR P (d+1) T (.int k' a):=fun em w=>by
  unfold Instr.checkKey
  simp only [Sem.run_bind,run_underlying (intB_spec h),Result.andThen_ok,Sem.run_pure]
def ItmChkA (P:Program) (d e c:Nat) (xs:List Value) (is:List Nat):Prop:=∀ i∈is,∃ u,(∀ w:World,(part e xs.toArray (i*c)).run P w=.ok u w)∧ChkR P d e u
theorem ica_nil {d e c:Nat} {xs:List Value}:ItmChkA P d e c xs []:=fun _ h=>by cases h
theorem ica_ag {d e c i:Nat} {is:List Nat} {xs us:List Value} (hT:aggB P e=true) (hs:sizeB P e c=true) (hu:(xs.drop (i*c)).take c=us) (h:ChkR P d e (.agg us.toArray)) (hr:ItmChkA P d e c xs is):ItmChkA P d e c xs (i::is):=fun j hj=>by
  rcases List.mem_cons.1 hj with rfl | hj
  · have e1:xs.toArray.extract (j*c) (j*c+c)=us.toArray:=by rw [← hu]; apply Array.ext'; simp
    exact ⟨.agg us.toArray,fun w=>by simp only [part,Sem.run_bind,run_isAgg_agg hT,Result.andThen_ok,if_true,run_sizeOf hs,e1,Sem.run_pure],h⟩
  · exact hr j hj
theorem chk_arrA {d T n e c:Nat} {is:List Nat} {xs:List Value} (hT:arrB P T n e=true) (hs:sizeB P e c=true) (hi:List.range n=is) (h:ItmChkA P d e c xs is):ChkR P (d+1) T (.agg xs.toArray):=fun em w=>by
  rw [Instr.checkKey]
  simp only [Sem.run_bind,run_underlying (arrB_spec hT),Result.andThen_ok]
  simp only [Std.Legacy.Range.forIn_eq_forIn_range',Std.Legacy.Range.size,Nat.sub_zero,Nat.add_one_sub_one,Nat.div_one]
  rw [← List.range_eq_range',hi]
  clear hi
  induction is with
  | nil=>simp
  | cons j is ih =>
    obtain ⟨u,hp,hc⟩:=h j (by simp)
    simp only [List.forIn_cons,Sem.run_bind,run_sizeOf hs,Result.andThen_ok,hp w,Sem.run_pure,hc em w]
    exact ih (fun y hy=>h y (by simp [hy]))
def PtsChk (P:Program) (d:Nat) (xs:List Value) (l:List (Nat×Nat)):Prop:=∀ p∈l,∃ u,(∀ w:World,(part p.1 xs.toArray p.2).run P w=.ok u w)∧ChkR P d p.1 u
theorem pck_nil {d:Nat} {xs:List Value}:PtsChk P d xs []:=fun _ h=>by cases h
theorem pck_sc {d ty off:Nat} {xs:List Value} {l:List (Nat×Nat)} {u:Value} (hT:scalB P ty=true) (hu:xs[off]?=some u) (h:ChkR P d ty u) (hr:PtsChk P d xs l):PtsChk P d xs ((ty,off)::l):=fun p hp=>by
  rcases List.mem_cons.1 hp with rfl | hp
  · exact ⟨u,fun w=>by simp only [part,Sem.run_bind,run_isAgg_scal hT,Result.andThen_ok,Bool.false_eq_true,if_false,List.getElem?_toArray,hu,Sem.run_pure],h⟩
  · exact hr p hp
theorem chk_struct {d T:Nat} {xs:List Value} {l:List (Nat×Nat)} (h:structB P T l=true) (hf:PtsChk P d xs l):ChkR P (d+1) T (.agg xs.toArray):=fun em w=>by
  unfold structB at h
  split at h
  · rename_i fs hfs
    simp only [Bool.and_eq_true,decide_eq_true_eq] at h
    obtain ⟨h1,h2⟩:=h
    rw [Instr.checkKey]
    simp only [Sem.run_bind,run_underlying hfs,Result.andThen_ok]
    rw [← Array.forIn_toList]
    generalize fs.toList=L at h1 h2
    clear hfs
    induction L generalizing l with
    | nil=>simp
    | cons f L ih =>
      cases l with
      | nil=>cases h1
      | cons p l =>
        simp only [List.map_cons,List.cons.injEq] at h1
        simp only [List.all_cons,Bool.and_eq_true,decide_eq_true_eq] at h2
        obtain ⟨u,hu,hc⟩:=hf p (by simp)
        have hu':(part f.type xs.toArray f.offset).run P w=.ok u w:=by
          have:=hu w
          rwa [← h1.1] at this
        have hc':(Instr.checkKey em d f.type u).run P w=.ok () w:=by
          have:=hc em w
          rwa [← h1.1] at this
        simp only [List.forIn_cons,Sem.run_bind,h2.1,ne_eq,not_false_eq_true,if_true,Result.andThen_ok,hu',hc',Sem.run_pure]
        exact ih (fun y hy=>hf y (by simp [hy])) h1.2 h2.2
  · cases h
theorem aggB_spec {T:Nat} (h:aggB P T=true):(∃ fs,P.underlying T=some (.struct fs))∨∃ n e,P.underlying T=some (.array n e):=by
  unfold aggB at h
  cases hu:P.underlying T with
  | none=>rw [hu] at h; cases h
  | some d =>
    rw [hu] at h
    cases d
    case struct fs=>exact .inl ⟨_,rfl⟩
    case array n e=>exact .inr ⟨_,_,rfl⟩
    all_goals cases h
theorem bits_agg {xs:List Value} (h:∀ v∈xs,Instr.sameBits 9999 v v=true):Instr.sameBits 10000 (.agg xs.toArray) (.agg xs.toArray)=true:=by
  show Instr.sameBits (9999+1) (.agg xs.toArray) (.agg xs.toArray)=true
  unfold Instr.sameBits
  simp only [beq_self_eq_true,Bool.true_and,List.all_eq_true]
  intro p hp
  have:p.1=p.2∧p.1∈xs:=by
    have h1:∀ (l:List Value) (p:Value×Value),p∈l.zip l→p.1=p.2∧p.1∈l:=fun l=>by
      induction l with
      | nil=>intro p hp; simp at hp
      | cons x r ih =>
        intro p hp
        rw [List.zip_cons_cons] at hp
        rcases List.mem_cons.1 hp with rfl | hp
        · exact ⟨rfl,.head _⟩
        · have:=ih p hp; exact ⟨this.1,.tail _ this.2⟩
    exact h1 xs p (by simpa using hp)
  obtain ⟨a,b⟩:=p
  simp only at this
  rw [← this.1]
  exact h a this.2
theorem find_ask {α:Type} {kE:α→Value} {kt:TypeId} {a:α} (heq:∀ b,∃ r,EqR P 10000 kt (kE a) (kE b) r∧(r=true↔a=b)) (hinj:∀ a b,kE a=kE b→a=b) (w:World):∀ (es:List MapEntry) (i:Nat),(∀ e∈es,∃ x,e.key=kE x) →
    ((Instr.findAsking kt (kE a) es i).run P w=.ok none w∧∀ e∈es,e.key≠kE a)∨∃ j e,(Instr.findAsking kt (kE a) es i).run P w=.ok (some (i+j,e.val)) w∧es[j]?=some e∧e.key=kE a
  | [],i,_=>.inl ⟨by simp [Instr.findAsking],fun _ h=>by cases h⟩
  | e::es,i,hall=>by
    obtain ⟨x,hx⟩:=hall e (.head _)
    obtain ⟨r,hr,hiff⟩:=heq x
    have hr':(Op.equal kt (kE a) e.key).run P w=.ok r w:=by rw [hx]; exact hr w
    cases r
    · have hne:e.key≠kE a:=fun h=>by
        rw [hx] at h
        have:=hiff.2 (hinj _ _ h).symm
        cases this
      rcases find_ask heq hinj w es (i+1) (fun y hy=>hall y (.tail _ hy)) with ⟨h1,h2⟩ | ⟨j,e',h1,h2,h3⟩
      · refine .inl ⟨by simp [Instr.findAsking,hr',h1],fun y hy=>?_⟩
        rcases List.mem_cons.1 hy with rfl | hy
        · exact hne
        · exact h2 y hy
      · exact .inr ⟨j+1,e',by simp [Instr.findAsking,hr',h1,Nat.add_assoc,Nat.add_comm 1 j],by simpa using h2,h3⟩
    · exact .inr ⟨0,e,by simp [Instr.findAsking,hr'],rfl,by rw [hx,hiff.1 rfl]⟩
theorem keyAgg {α:Type} {kE:α→Value} {kt:TypeId} (hk:aggB P kt=true) (hag:∀ a,∃ xs,kE a=.agg xs) (hinj:∀ a b,kE a=kE b→a=b) (heq:∀ a b,∃ r,EqR P 10000 kt (kE a) (kE b) r∧(r=true↔a=b)) (hchk:∀ a,ChkR P 10000 kt (kE a)) (hst:∀ a,Instr.sameBits 10000 (kE a) (kE a)=true):KeyE P kt kE where
  inj:=hinj
  check w em a:=hchk a em w
  find w a es h:=by
    have hnone:∀ e∈es,∀ r i,(∃ d,P.underlying kt=some d∧Instr.findNow d (kE a) (e::r) i=none):=fun e he r i=>by
      obtain ⟨x,hx⟩:=h e he
      obtain ⟨ys,hy⟩:=hag x
      obtain ⟨xs,hxs⟩:=hag a
      rcases aggB_spec hk with ⟨fs,hf⟩ | ⟨n,e',hf⟩
      · exact ⟨_,hf,by unfold Instr.findNow; rw [hx,hy,hxs]; rfl⟩
      · exact ⟨_,hf,by unfold Instr.findNow; rw [hx,hy,hxs]; rfl⟩
    have hrun:(Instr.findKey kt (kE a) es).run P w=(Instr.findAsking kt (kE a) es).run P w:=by
      unfold Instr.findKey
      cases es with
      | nil =>
        rcases aggB_spec hk with ⟨fs,hf⟩ | ⟨n,e',hf⟩ <;>
          simp only [Sem.run_bind,run_underlying hf,Result.andThen_ok,Instr.findNow,Instr.findAsking]
      | cons e r =>
        obtain ⟨d,hd,hn⟩:=hnone e (.head _) r 0
        simp only [Sem.run_bind,run_underlying hd,Result.andThen_ok,hn]
    rw [hrun]
    rcases find_ask (fun b=>heq a b) hinj w es 0 h with h1 | ⟨j,e,h1,h2,h3⟩
    · exact .inl h1
    · exact .inr ⟨j,e,by rw [h1,Nat.zero_add],h2,h3⟩
  stays w a:=by
    unfold Instr.keyThatStays
    rw [hst a]
    simp only [if_true,Sem.run_pure]
end
section
variable {P:Program} {n:Nat} {f:Nat→Value} {w0 w:World} {M:List Nat} {L L':List Ob} {R:List Ro} {o:Oper} {T e:TypeId} {x y:Operand}
theorem Y_sliceArr {B:Option Addr} {na k:Nat} {s:Nat} (hT:arrB P T na e=true) (hs:sizeB P e s=true) (ho:o.op=.slice T x none none none) (hx:ev n f x=pt B k):Y P n f w o (.slice (some (ad B k)) na na):=by
  have ht:=arrB_spec hT
  unfold Y execOp; rw [ho]
  simp [hx,pt,Instr.sliceAt,Instr.sureAddr,Instr.sliceBounds,run_underlying ht,run_sizeOf hs]
  exact fun _=>by simp [Addr.add]
theorem range_getDS {α:Type} (z:α) (l' old:List α):l'.take (min l'.length old.length)++old.drop (min l'.length old.length)=(List.range old.length).map fun j=>l'.getD j (old.getD j z):=by
  apply List.ext_getElem?
  intro j
  rw [List.getElem?_map,List.getElem?_append,List.length_take,List.getElem?_take,List.getElem?_drop]
  by_cases hj:j<old.length
  · rw [List.getElem?_range hj]
    by_cases h2:j<l'.length
    · rw [if_pos (by omega),if_pos (by omega),List.getElem?_eq_getElem h2]
      simp [List.getD_eq_getElem?_getD,h2]
    · rw [if_neg (by omega),show min l'.length old.length+(j-min (min l'.length old.length) l'.length)=j by omega,List.getElem?_eq_getElem hj]
      simp [List.getD_eq_getElem?_getD,hj,List.getElem?_eq_none (show l'.length≤j by omega)]
  · rw [List.getElem?_eq_none (l:=List.range old.length) (by simp; omega),if_neg (by omega),List.getElem?_eq_none (l:=old) (by omega)]
    rfl
theorem Ys_copyArrS {α:Type} {enc:α→List Value} {s:Nat} (z:α) {i m na k q c2 ca:Nat} {B X:Option Addr} {T0:TypeId} {A C cs cs':List Value} {l' old:List α} (hS:ST w0 M w L R) (hT:sliceB P T e=true) (hs:sizeB P e s=true) (hE:∀ x,(enc x).length=s) (h1:∀ x,one (enc x)=true)
    (ho:o.op=.call ⟨.builtin .copy,#[x,y],#[T,T]⟩) (hx:ev n f x=.slice (some (ad B k)) na ca) (hy:ev n f y=.slice X q c2) (hi:L[i]?=some ⟨B,T0,cs,m⟩) (hA:A.length=k) (ho2:old.length=na)
    (hcs:cs=A++(old.flatMap enc++C)) (hX:CF w X (l'.flatMap enc)) (hl':l'.length=q)
    (hcs':A++(((List.range na).map fun j=>l'.getD j (old.getD j z)).flatMap enc++C)=cs') (hL:L.set i ⟨B,T0,cs',m⟩=L') :
    Ys P n f w o (fun v w'=>v=.int .i64 ((min q na:Nat):Int)∧ST w0 M w' L' R):=by
  have ht:=sliceB_spec hT
  generalize hnn:min q na=nn
  have hmin:Nat.min q na=nn:=hnn
  have hn1:nn≤q:=by omega
  have hn2:nn≤na:=by omega
  have hlv:(l'.take nn).length=nn:=by rw [List.length_take]; omega
  have hlf:((l'.take nn).flatMap enc).length=nn*s:=fm_lenn hE hlv
  have hfirst:=run_first (P:=P) (k:=q) (c2:=c2) (nn:=nn) (s:=s) (hX.pre (pre_take l' nn)) (by rw [hlf])
  have hold:(old.take nn).flatMap enc++(old.drop nn).flatMap enc=old.flatMap enc:=by rw [← List.flatMap_append,List.take_append_drop]
  have hol:((old.take nn).flatMap enc).length=nn*s:=fm_lenn hE (by rw [List.length_take]; omega)
  have hsp:splice cs k ((l'.take nn).flatMap enc)=cs':=by
    rw [← hcs',← ho2,← range_getDS z l' old,hl',ho2,hnn,hcs]
    unfold splice
    rw [hlf,← hA,List.take_left,List.append_assoc,List.flatMap_append,List.append_assoc,← List.drop_drop,List.drop_left,← hold,← hol,List.append_assoc,List.drop_left]
  obtain ⟨w',hr,hST⟩:=store_ST (P:=P) hS hi (by rw [hlf,hcs,← hold]; simp only [List.length_append,hol]; omega) (fm_one' (enc:=enc) h1 _) hsp hL
  refine ⟨.int .i64 ((nn:Nat):Int),w',.inl ?_,rfl,hST⟩
  unfold execOp; rw [ho]
  simp [resolve,invoke,builtin,hx,hy,Builtin.copy_,run_underlying ht,Builtin.lenOf,hmin,run_sizeOf hs,hfirst,hr,goInt]
end
end Go.VK
