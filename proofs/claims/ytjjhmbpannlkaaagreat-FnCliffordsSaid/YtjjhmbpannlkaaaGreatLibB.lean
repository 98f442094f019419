/- What each operation does, one lemma an operation; the state of the heap as a list of objects. Plain lemmas over any program. -/
import Derived.Test.YtjjhmbpannlkaaaGreatLibA
import Derived.Laws.Cells
import Derived.Laws.CopyRow
import Derived.Laws.AppendOwn
import Derived.Laws.MakeOwn
import Derived.Laws.StructEq
import Derived.Laws.Small
namespace Go.VK
open Go.RowKit

def sliceB (P:Program) (T e:TypeId):Bool:=match P.underlying T with | some (.slice e')=>Nat.beq e' e | _=>false
def scalB (P:Program) (T:TypeId):Bool:=match P.underlying T with | some (.struct _) | some (.array _ _) | none=>false | _=>true
def aggB (P:Program) (T:TypeId):Bool:=match P.underlying T with | some (.struct _) | some (.array _ _)=>true | _=>false
def sizeB (P:Program) (T s:Nat):Bool:=match P.info? T with | some i=>Nat.beq i.size s | _=>false
def bytesB (P:Program) (T b:Nat):Bool:=match P.info? T with | some i=>Nat.beq i.bytes b | _=>false
def arrB (P:Program) (T len e:Nat):Bool:=match P.underlying T with | some (.array l e')=>Nat.beq l len&&Nat.beq e' e | _=>false
def fieldB (P:Program) (T j off ty:Nat):Bool:=match P.underlying T with
  | some (.struct fs)=>(match fs[j]? with | some f=>Nat.beq f.offset off&&Nat.beq f.type ty | none=>false)
  | _=>false
def intB (P:Program) (T:Nat) (k:IntKind):Bool:=match P.underlying T with | some (.int k')=>decide (k'=k) | _=>false

section
variable {P:Program} {T e s b len j off ty:Nat}
theorem sliceB_spec (h:sliceB P T e=true):P.underlying T=some (.slice e):=by
  unfold sliceB at h; split at h
  · rename_i e' he; rw [he,Nat.eq_of_beq_eq_true h]
  · cases h
theorem sizeB_spec (h:sizeB P T s=true):∃ i,P.info? T=some i∧i.size=s:=by
  unfold sizeB at h; split at h
  · rename_i i hi; exact ⟨i,hi,Nat.eq_of_beq_eq_true h⟩
  · cases h
theorem bytesB_spec (h:bytesB P T s=true):∃ i,P.info? T=some i∧i.bytes=s:=by
  unfold bytesB at h; split at h
  · rename_i i hi; exact ⟨i,hi,Nat.eq_of_beq_eq_true h⟩
  · cases h
theorem arrB_spec (h:arrB P T len e=true):P.underlying T=some (.array len e):=by
  unfold arrB at h; split at h
  · rename_i l e' he
    simp only [Bool.and_eq_true] at h
    rw [he,Nat.eq_of_beq_eq_true h.1,Nat.eq_of_beq_eq_true h.2]
  · cases h
theorem fieldB_spec (h:fieldB P T j off ty=true):∃ fs f,P.underlying T=some (.struct fs)∧fs[j]?=some f∧f.offset=off∧f.type=ty:=by
  unfold fieldB at h; split at h
  · rename_i fs hfs
    split at h
    · rename_i f hf
      simp only [Bool.and_eq_true] at h
      exact ⟨fs,f,hfs,hf,Nat.eq_of_beq_eq_true h.1,Nat.eq_of_beq_eq_true h.2⟩
    · cases h
  · cases h
theorem intB_spec {k:IntKind} (h:intB P T k=true):P.underlying T=some (.int k):=by
  unfold intB at h; split at h
  · rename_i k' hk; rw [hk,of_decide_eq_true h]
  · cases h
theorem run_sizeOf (h:sizeB P T s=true) (w:World):(sizeOf T).run P w=.ok s w:=by
  obtain ⟨i,hi,hs⟩:=sizeB_spec h
  simp [sizeOf,typeInfo,hi,hs]
theorem run_isAgg_scal (h:scalB P T=true) (w:World):(isAgg T).run P w=.ok false w:=by
  unfold scalB at h
  unfold isAgg underlying
  cases hu:P.underlying T with
  | none=>rw [hu] at h; cases h
  | some d =>
    rw [hu] at h
    simp only [Sem.run_bind,run_program,Result.andThen_ok,hu,Sem.run_pure]
    cases d <;> first | rfl | (simp at h)
theorem run_isAgg_agg (h:aggB P T=true) (w:World):(isAgg T).run P w=.ok true w:=by
  unfold aggB at h
  unfold isAgg underlying
  cases hu:P.underlying T with
  | none=>rw [hu] at h; cases h
  | some d =>
    rw [hu] at h
    simp only [Sem.run_bind,run_program,Result.andThen_ok,hu,Sem.run_pure]
    cases d <;> first | rfl | (simp at h)
end

def ad (B:Option Addr) (k:Nat):Addr:=(B.getD ⟨0,0,none⟩).add k
def pt (B:Option Addr) (k:Nat):Value:=.pointer (some (ad B k))
theorem add_add' (a:Addr) (i j:Nat):(a.add i).add j=a.add (i+j):=by
  unfold Addr.add
  by_cases hi:i=0 <;> by_cases hj:j=0 <;> simp [hi,hj,Nat.add_assoc]
theorem ad_add (B:Option Addr) (k j:Nat):(ad B k).add j=ad B (k+j):=add_add' _ _ _
theorem ad_block (B:Option Addr) (k:Nat) {a:Addr} (h:B=some a):(ad B k).block=a.block:=by
  subst h; unfold ad Addr.add; simp only [Option.getD_some]; split <;> rfl
theorem ad_some (g k:Nat):ad (some ⟨g,0,none⟩) k=⟨g,k,none⟩:=by
  unfold ad Addr.add; simp only [Option.getD_some]; split
  · rename_i h; rw [h]
  · simp

def CF (w:World) (B:Option Addr) (cs:List Value):Prop:=(cs≠[]→B.isSome=true)∧∀ j u,cs[j]?=some u→w.cell? (ad B j)=some u

theorem CF.seg {w:World} {B:Option Addr} {cs vs:List Value} {k s:Nat} (h:CF w B cs) (hv:(cs.drop k).take s=vs):∀ j u,vs[j]?=some u→w.cell? ((ad B k).add j)=some u:=by
  intro j u hu
  rw [ad_add]
  refine h.2 (k+j) u ?_
  subst hv
  rw [List.getElem?_take] at hu
  split at hu
  · rw [List.getElem?_drop] at hu; exact hu
  · cases hu

section
variable {P:Program} {n:Nat} {f:Nat→Value} {w:World} {o:Oper}
theorem Y_move {x:Operand} {v:Value} (ho:o.op=.move x) (hx:ev n f x=v):Y P n f w o v:=by
  unfold Y execOp; rw [ho]; simp [hx]
theorem Y_assign {x:Operand} {v:Value} (ho:o.op=.assign x) (hx:ev n f x=v):Y P n f w o v:=by
  unfold Y execOp; rw [ho]; simp [hx]
theorem Y_pick {c x y:Operand} {b:Bool} {u v:Value} (ho:o.op=.pick c x y) (hc:ev n f c=.bool b) (hx:ev n f x=u) (hy:ev n f y=v):Y P n f w o (if b then u else v):=by
  unfold Y execOp; rw [ho]; simp only [hc,hx,hy,asBool]; cases b <;> simp
theorem Y_and {c x y:Operand} {b z:Bool} (ho:o.op=.pick c x y) (hc:ev n f c=.bool b) (hx:ev n f x=gv b (.bool z)) (hy:ev n f y=.bool false):Y P n f w o (.bool (b&&z)):=by
  have h:=Y_pick (P:=P) (w:=w) ho hc hx hy
  cases b <;> simpa [gv] using h
theorem Y_or {c x y:Operand} {b z:Bool} (ho:o.op=.pick c x y) (hc:ev n f c=.bool b) (hx:ev n f x=.bool true) (hy:ev n f y=gv (!b) (.bool z)):Y P n f w o (.bool (b||z)):=by
  have h:=Y_pick (P:=P) (w:=w) ho hc hx hy
  cases b <;> simpa [gv] using h

variable {k:IntKind} {a b:Int} {x y:Operand} {T T':TypeId}
theorem Y_add (ho:o.op=.binOp .add T x y T') (hx:ev n f x=.int k a) (hy:ev n f y=.int k b):Y P n f w o (.int k (k.wrap (a+b))):=by
  unfold Y execOp; rw [ho]; simp [hx,hy,go_sem]
theorem Y_sub (ho:o.op=.binOp .sub T x y T') (hx:ev n f x=.int k a) (hy:ev n f y=.int k b):Y P n f w o (.int k (k.wrap (a-b))):=by
  unfold Y execOp; rw [ho]; simp [hx,hy,go_sem]
theorem Y_mul (ho:o.op=.binOp .mul T x y T') (hx:ev n f x=.int k a) (hy:ev n f y=.int k b):Y P n f w o (.int k (k.wrap (a*b))):=by
  unfold Y execOp; rw [ho]; simp [hx,hy,go_sem]
theorem Y_quo (ho:o.op=.binOp .quo T x y T') (hx:ev n f x=.int k a) (hy:ev n f y=.int k b) (h:b≠0):Y P n f w o (.int k (k.wrap (a.tdiv b))):=by
  unfold Y execOp; rw [ho]; simp [hx,hy,go_sem,h]
theorem Y_rem (ho:o.op=.binOp .rem T x y T') (hx:ev n f x=.int k a) (hy:ev n f y=.int k b) (h:b≠0):Y P n f w o (.int k (a.tmod b)):=by
  unfold Y execOp; rw [ho]; simp [hx,hy,go_sem,h]
theorem Y_band (ho:o.op=.binOp .and T x y T') (hx:ev n f x=.int k a) (hy:ev n f y=.int k b):Y P n f w o (.int k (bits .and k a b)):=by
  unfold Y execOp; rw [ho]; simp [hx,hy,go_sem]
theorem Y_bor (ho:o.op=.binOp .or T x y T') (hx:ev n f x=.int k a) (hy:ev n f y=.int k b):Y P n f w o (.int k (bits .or k a b)):=by
  unfold Y execOp; rw [ho]; simp [hx,hy,go_sem]
theorem Y_bxor (ho:o.op=.binOp .xor T x y T') (hx:ev n f x=.int k a) (hy:ev n f y=.int k b):Y P n f w o (.int k (bits .xor k a b)):=by
  unfold Y execOp; rw [ho]; simp [hx,hy,go_sem]
def shlK (k:IntKind) (a b:Int):Int:=k.wrap (a*2 ^ (min b.toNat k.bits))
def shrK (k:IntKind) (a b:Int):Int:=a.fdiv (2 ^ (min b.toNat k.bits))
theorem Y_shl {k':IntKind} (ho:o.op=.binOp .shl T x y T') (hx:ev n f x=.int k a) (hy:ev n f y=.int k' b) (h:0≤b):Y P n f w o (.int k (shlK k a b)):=by
  unfold Y execOp; rw [ho]
  have h':¬ b<0:=by omega
  simp only [hx,hy,eqGuard_shl,binOp_shl,Op.shift,h',if_false]
  simp [shlK]
theorem Y_shr {k':IntKind} (ho:o.op=.binOp .shr T x y T') (hx:ev n f x=.int k a) (hy:ev n f y=.int k' b) (h:0≤b):Y P n f w o (.int k (shrK k a b)):=by
  unfold Y execOp; rw [ho]
  have h':¬ b<0:=by omega
  simp only [hx,hy,eqGuard_shr,binOp_shr,Op.shift,h',if_false]
  simp [shrK]
theorem Y_eq (ho:o.op=.binOp .eql T x y T') (hx:ev n f x=.int k a) (hy:ev n f y=.int k b):Y P n f w o (.bool (a==b)):=by
  unfold Y execOp; rw [ho]; simp [hx,hy,go_sem]
theorem Y_ne (ho:o.op=.binOp .neq T x y T') (hx:ev n f x=.int k a) (hy:ev n f y=.int k b):Y P n f w o (.bool (a != b)):=by
  unfold Y execOp; rw [ho]; simp [hx,hy,go_sem]
theorem Y_lt (ho:o.op=.binOp .lss T x y T') (hx:ev n f x=.int k a) (hy:ev n f y=.int k b):Y P n f w o (.bool (decide (a<b))):=by
  unfold Y execOp; rw [ho]; simp [hx,hy,go_sem]
theorem Y_le (ho:o.op=.binOp .leq T x y T') (hx:ev n f x=.int k a) (hy:ev n f y=.int k b):Y P n f w o (.bool (decide (a≤b))):=by
  unfold Y execOp; rw [ho]; simp [hx,hy,go_sem]
theorem Y_gt (ho:o.op=.binOp .gtr T x y T') (hx:ev n f x=.int k a) (hy:ev n f y=.int k b):Y P n f w o (.bool (decide (b<a))):=by
  unfold Y execOp; rw [ho]; simp [hx,hy,go_sem]
theorem Y_ge (ho:o.op=.binOp .geq T x y T') (hx:ev n f x=.int k a) (hy:ev n f y=.int k b):Y P n f w o (.bool (decide (b≤a))):=by
  unfold Y execOp; rw [ho]; simp [hx,hy,go_sem]
theorem Y_neg (ho:o.op=.unOp .neg T x) (hx:ev n f x=.int k a):Y P n f w o (.int k (k.wrap (-a))):=by
  unfold Y execOp; rw [ho]; simp [hx,go_sem,Op.unary]
theorem Y_not {p:Bool} (ho:o.op=.unOp .not T x) (hx:ev n f x=.bool p):Y P n f w o (.bool (!p)):=by
  unfold Y execOp; rw [ho]; simp [hx,Op.unary]
theorem Y_beq {p q:Bool} (ht:P.underlying T=some .bool) (ho:o.op=.binOp .eql T x y T') (hx:ev n f x=.bool p) (hy:ev n f y=.bool q):Y P n f w o (.bool (p==q)):=by
  unfold Y execOp; rw [ho]; simp [hx,hy,binOp,eqGuard_at_bool,run_equal_bool,ht]
theorem Y_bne {p q:Bool} (ht:P.underlying T=some .bool) (ho:o.op=.binOp .neq T x y T') (hx:ev n f x=.bool p) (hy:ev n f y=.bool q):Y P n f w o (.bool (!(p==q))):=by
  unfold Y execOp; rw [ho]; simp [hx,hy,binOp,eqGuard_at_bool,run_equal_bool,ht]
theorem Y_conv {k':IntKind} (hT:(P.underlying T).isSome=true) (hT':intB P T' k'=true) (ho:o.op=.convert T T' x) (hx:ev n f x=.int k a):Y P n f w o (.int k' (k'.wrap a)):=by
  have h:=intB_spec hT'
  have hk:P.intKind T'=k':=by unfold Program.intKind; rw [h]
  have:=run_convert_int (P:=P) w T T' k a hT (by rw [hk]; exact h)
  unfold Y execOp; rw [ho]; simp [hx,this,hk]
theorem Y_len {B:Option Addr} {m c e:Nat} (hT:sliceB P T e=true) (ho:o.op=.call ⟨.builtin .len,#[x],#[T]⟩) (hx:ev n f x=.slice B m c):Y P n f w o (.int .i64 m):=by
  have h:=sliceB_spec hT
  have he:P.elem T=e:=by unfold Program.elem; rw [h]
  have:=run_len_slice (P:=P) w T o.type B m c (by rw [he]; exact h)
  unfold Y execOp; rw [ho]; simp [resolve,invoke,builtin,hx,this,goInt]
theorem Y_max2 {T1 T2:TypeId} (ho:o.op=.call ⟨.builtin .max,#[x,y],#[T1,T2]⟩) (hx:ev n f x=.int k a) (hy:ev n f y=.int k b):Y P n f w o (.int k (if b > a then b else a)):=by
  unfold Y execOp; rw [ho]; simp [resolve,invoke,builtin,hx,hy,Builtin.max_,Builtin.max2]
theorem Y_extract {i:Nat} {vs:Array Value} {v:Value} (ho:o.op=.extract x i) (hx:ev n f x=.tuple vs) (hv:vs[i]?=some v):Y P n f w o v:=by
  unfold Y execOp; rw [ho]; simp [hx,Instr.extract,hv]
theorem Y_makeFunc {fn:Fn} {fi ca:Array Operand} {cs:List Value} (ho:o.op=.makeFunc fn fi ca) (hf:fi.toList=[]) (hc:ca.toList.map (ev n f)=cs):Y P n f w o (.func fn #[] cs.toArray):=by
  have h1:fi=#[]:=Array.toList_inj.mp hf
  have h2:ca.map (ev n f)=cs.toArray:=by rw [← hc]; exact Array.ext' (by simp)
  unfold Y execOp; rw [ho]; simp [Instr.makeFunc,h1,h2]

theorem Y_load1 {B:Option Addr} {i:Nat} {cs:List Value} {v:Value} (hT:scalB P T=true) (ho:o.op=.load T x) (hx:ev n f x=pt B i) (hc:CF w B cs) (hk:cs[i]?=some v):Y P n f w o v:=by
  have h:=hc.2 i v hk
  unfold Y execOp; rw [ho]
  simp [hx,pt,Instr.loadAt,Instr.sureAddr,loadVar,run_isAgg_scal hT,h]
theorem run_loadVar_agg {B:Option Addr} {i s:Nat} {cs vs:List Value} (hT:aggB P T=true) (hs:sizeB P T s=true) (hc:CF w B cs) (hl:vs.length=s) (hk:(cs.drop i).take s=vs) :
    (loadVar T (ad B i)).run P w=.ok (.agg vs.toArray) w:=by
  have h:=run_loadCells_list (P:=P) w (ad B i) vs (hc.seg hk)
  rw [hl] at h
  simp [loadVar,run_isAgg_agg hT,run_sizeOf hs,h]
theorem Y_loadA {B:Option Addr} {i s:Nat} {cs vs:List Value} (hT:aggB P T=true) (hs:sizeB P T s=true) (ho:o.op=.load T x) (hx:ev n f x=pt B i) (hc:CF w B cs) (hl:vs.length=s) (hk:(cs.drop i).take s=vs) :
    Y P n f w o (.agg vs.toArray):=by
  unfold Y execOp; rw [ho]
  simp [hx,pt,Instr.loadAt,Instr.sureAddr,run_loadVar_agg hT hs hc hl hk]
theorem Y_fieldAddr {B:Option Addr} {i j off ty s:Nat} (hF:fieldB P T j off ty=true) (hs:sizeB P ty (s+1)=true) (ho:o.op=.fieldAddr T x j) (hx:ev n f x=pt B i):Y P n f w o (pt B (i+off)):=by
  obtain ⟨fs,fd,h1,h2,h3,h4⟩:=fieldB_spec hF
  unfold Y execOp; rw [ho]
  rw [← h4] at hs
  simp [hx,pt,Instr.fieldAt,run_underlying h1,h2,Instr.sureAddr,fieldPlace,run_sizeOf hs,h3,ad_add]
theorem Y_field1 {cs:Array Value} {j off ty:Nat} {v:Value} (hF:fieldB P T j off ty=true) (hS:scalB P ty=true) (ho:o.op=.field T x j) (hx:ev n f x=.agg cs) (hv:cs[off]?=some v):Y P n f w o v:=by
  obtain ⟨fs,fd,h1,h2,h3,h4⟩:=fieldB_spec hF
  unfold Y execOp; rw [ho]
  rw [← h4] at hS
  simp [hx,Instr.field,run_underlying h1,h2,asAgg,part,run_isAgg_scal hS,h3,hv]
theorem Y_index {B:Option Addr} {m c e s:Nat} {i:Int} (hT:sliceB P T e=true) (hs:sizeB P e s=true) (ho:o.op=.indexAddr T x y) (hx:ev n f x=.slice B m c) (hy:ev n f y=.int k i)
    (hB:B.isSome=true) (h0:0≤i) (h1:i<m):Y P n f w o (pt B (i.toNat*s)):=by
  have h:=sliceB_spec hT
  obtain ⟨a,rfl⟩:=Option.isSome_iff_exists.mp hB
  unfold Y execOp; rw [ho]
  simp [hx,hy,Instr.indexAt,run_underlying h,asIntOf,h0,h1,run_sizeOf hs,pt,ad]
theorem Y_indexArr {B:Option Addr} {len e s off:Nat} {i:Int} (hT:arrB P T len e=true) (hs:sizeB P e s=true) (ho:o.op=.indexAddr T x y) (hx:ev n f x=pt B off) (hy:ev n f y=.int k i)
    (h0:0≤i) (h1:i<len):Y P n f w o (pt B (off+i.toNat*s)):=by
  have h:=arrB_spec hT
  unfold Y execOp; rw [ho]
  simp [hx,hy,Instr.indexAt,run_underlying h,asIntOf,h0,h1,run_sizeOf hs,pt,Instr.sureAddr,ad_add]
theorem Y_indexArr0 {B:Option Addr} {len e s:Nat} {i:Int} (hT:arrB P T len e=true) (hs:sizeB P e s=true) (ho:o.op=.indexAddr T x y) (hx:ev n f x=pt B 0) (hy:ev n f y=.int k i)
    (h0:0≤i) (h1:i<len):Y P n f w o (pt B (i.toNat*s)):=by
  have h:=Y_indexArr (w:=w) hT hs ho hx hy h0 h1
  rwa [Nat.zero_add] at h
theorem Y_nilCheck {B:Option Addr} {i:Nat} (ho:o.op=.nilCheck x) (hx:ev n f x=pt B i):Y P n f w o (pt B i):=by
  unfold Y execOp; rw [ho]; simp [hx,pt]
def placesB (P:Program) (T:Nat) (pl:List (Nat×Nat)):Bool:=match P.underlying T with
  | some (.struct fs)=>fs.toList.all (fun f=>(P.info? f.type).isSome)&&decide (fs.toList.map (fun f=>(f.offset,P.cellsOf f.type))=pl)
  | _=>false
theorem run_places_list (P:Program) (w:World):∀ (fs:List Field),fs.all (fun f=>(P.info? f.type).isSome)=true →
    (fs.mapM fun f=>do pure (f.offset,← sizeOf f.type):Sem (List (Nat×Nat))).run P w=.ok (fs.map (fun f=>(f.offset,P.cellsOf f.type))) w
  | [],_=>by simp
  | f::r,h=>by
    simp only [List.all_cons,Bool.and_eq_true] at h
    have ih:=run_places_list P w r h.2
    obtain ⟨i,hi⟩:=Option.isSome_iff_exists.mp h.1
    simp [sizeOf,typeInfo,hi,Program.cellsOf] at ih ⊢
    simp [ih]
theorem placesB_spec {P:Program} {T:Nat} {pl:List (Nat×Nat)} (h:placesB P T pl=true) (w:World):∃ fs,P.underlying T=some (.struct fs) ∧
    (fs.mapM fun f=>do pure (f.offset,← sizeOf f.type):Sem (Array (Nat×Nat))).run P w=.ok pl.toArray w:=by
  unfold placesB at h
  split at h
  · rename_i fs hfs
    simp only [Bool.and_eq_true] at h
    refine ⟨fs,hfs,?_⟩
    have:=run_places_list P w fs.toList h.1
    rw [of_decide_eq_true h.2] at this
    rw [Array.mapM_eq_mapM_toList]
    simp only [Sem.run_map,this,Result.andThen_ok]
  · cases h
def putL (cs:List Value) (k:Nat):List Value→List Value
  | []=>cs
  | v::vs=>putL (cs.set k v) (k+1) vs
def fillL (place:Nat→Option (Nat×Nat)) (cs:List Value):List (Nat×Value)→Option (List Value)
  | []=>some cs
  | (i,v)::rest=>match place i with
    | none=>none
    | some (off,size)=>bif Nat.beq v.cells.toList.length size&&Nat.ble (off+size) cs.length then fillL place (putL cs off v.cells.toList) rest else none
theorem foldl_putL (off:Nat) (vs:List Value):∀ (k:Nat) (cs:List Value),(vs.zipIdx k).foldl (fun (cs:Array Value) (x:Value×Nat)=>cs.setIfInBounds (off+x.2) x.1) cs.toArray=(putL cs (off+k) vs).toArray:=by
  induction vs with
  | nil=>intro k cs; rfl
  | cons v vs ih=>intro k cs; simp only [List.zipIdx_cons,List.foldl_cons,List.setIfInBounds_toArray]; rw [ih]; rfl
theorem fill_of {place:Nat→Option (Nat×Nat)}:∀ {vs:List (Nat×Value)} {zs cs:List Value},fillL place zs vs=some cs→Instr.fill place zs.toArray vs=some cs.toArray
  | [],zs,cs,h=>by cases h; rfl
  | (i,v)::rest,zs,cs,h=>by
    unfold fillL at h
    unfold Instr.fill
    split at h
    · cases h
    · rename_i off size hp
      rw [hp]
      cases hb:(Nat.beq v.cells.toList.length size&&Nat.ble (off+size) zs.length) with
      | false=>rw [hb] at h; cases h
      | true =>
        rw [hb] at h
        simp only [Bool.and_eq_true] at hb
        have h1:=Nat.eq_of_beq_eq_true hb.1
        have h2:=Nat.le_of_ble_eq_true hb.2
        simp only [Array.length_toList] at h1
        have e:(v.cells.zipIdx.foldl (fun cs x=>cs.setIfInBounds (off+x.2) x.1) zs.toArray)=(putL zs off v.cells.toList).toArray:=by
          have:=foldl_putL off v.cells.toList 0 zs
          rw [← Array.foldl_toList,Array.toList_zipIdx]; exact this
        have ih:=fill_of (place:=place) h
        rw [← e] at ih
        simp only [h1,List.size_toArray]
        rw [if_neg (by simp; omega)]
        exact ih
theorem mn:([]:List Operand).map (ev n f)=[]:=rfl
theorem mc {x:Operand} {v:Value} {l:List Operand} {vs:List Value} (h:ev n f x=v) (ht:l.map (ev n f)=vs):(x::l).map (ev n f)=v::vs:=by rw [List.map_cons,h,ht]
theorem clo_args {l:List Operand} {vs:List Value} {cap:Array Value} (h:l.map (ev n f)=vs):l.map (ev n f)++cap.toList=vs++cap.toList:=by rw [h]
theorem mpn:([]:List (Nat×Operand)).map (fun p=>(p.1,ev n f p.2))=[]:=rfl
theorem mpc {i:Nat} {x:Operand} {v:Value} {l:List (Nat×Operand)} {vs:List (Nat×Value)} (h:ev n f x=v) (ht:l.map (fun p=>(p.1,ev n f p.2))=vs):((i,x)::l).map (fun p=>(p.1,ev n f p.2))=(i,v)::vs:=by rw [List.map_cons,ht]; simp only [h]
theorem parts_of {parts:Array (Nat×Operand)} {vs:List (Nat×Value)} (hp:parts.toList.map (fun p=>(p.1,ev n f p.2))=vs):(parts.map (fun (i,x)=>(i,ev n f x))).toList=vs:=by rw [← hp]; simp
theorem Y_buildS {zs:List Value} {parts:Array (Nat×Operand)} {vs:List (Nat×Value)} {pl:List (Nat×Nat)} {cs:List Value}
    (hpl:placesB P T pl=true) (hz:(P.info? T).map (·.zero)=some (some (.agg zs.toArray)))
    (ho:o.op=.build T parts) (hp:parts.toList.map (fun p=>(p.1,ev n f p.2))=vs) (hf:fillL (fun i=>pl[i]?) zs vs=some cs):Y P n f w o (.agg cs.toArray):=by
  have hp:=parts_of hp
  have hf:=fill_of hf
  have e0:(fun i:Nat=>pl[i]?)=(fun i:Nat=>pl.toArray[i]?):=by funext i; simp
  rw [e0] at hf
  obtain ⟨fs,hu,hm⟩:=placesB_spec hpl w
  cases hi:P.info? T with
  | none=>rw [hi] at hz; cases hz
  | some i =>
    rw [hi] at hz
    simp only [Option.map_some,Option.some.injEq] at hz
    unfold Y execOp; rw [ho]
    simp only [Instr.build,zeroValue,typeInfo,Sem.run_bind,run_program,Result.andThen_ok,hi,hz,Sem.run_pure,run_underlying hu,hm,hp,Value.cells,hf]
theorem Y_buildA {zs:List Value} {parts:Array (Nat×Operand)} {vs:List (Nat×Value)} {len e s:Nat} {cs:List Value}
    (hT:arrB P T len e=true) (hs:sizeB P e s=true) (hz:(P.info? T).map (·.zero)=some (some (.agg zs.toArray)))
    (ho:o.op=.build T parts) (hp:parts.toList.map (fun p=>(p.1,ev n f p.2))=vs) (hf:fillL (fun i=>some (i*s,s)) zs vs=some cs):Y P n f w o (.agg cs.toArray):=by
  have hp:=parts_of hp
  have hf:=fill_of hf
  have hu:=arrB_spec hT
  cases hi:P.info? T with
  | none=>rw [hi] at hz; cases hz
  | some i =>
    rw [hi] at hz
    simp only [Option.map_some,Option.some.injEq] at hz
    unfold Y execOp; rw [ho]
    simp only [Instr.build,zeroValue,typeInfo,Sem.run_bind,run_program,Result.andThen_ok,hi,hz,Sem.run_pure,run_underlying hu,run_sizeOf hs,hp,Value.cells,hf]
def callB (P : Program) (g : Nat) : Bool := match P.funcs[g]? with | some fn => !(fn.name == "runtime.NumGoroutine") && fn.body.isSome | none => false
theorem run_callFunc {g:Nat} (h:callB P g=true) (args:Array Value) (w:World):(callFunc g args).run P w=.ok (.enter g args) w:=by
  unfold callB at h
  cases hf:P.funcs[g]? with
  | none=>rw [hf] at h; cases h
  | some fn =>
    rw [hf] at h
    simp only [Bool.and_eq_true,Bool.not_eq_true'] at h
    have hb:fn.body.isNone=false:=by cases hb:fn.body <;> simp_all
    unfold callFunc
    simp only [Sem.run_bind,run_program,Result.andThen_ok,hf]
    simp [h.1,hb]
theorem Yc_func {g:Nat} {args:Array Operand} {tys:Array TypeId} {vs:List Value} {R:Value→World→Prop} (hg:callB P g=true) (ho:o.op=.call ⟨.value (.func g),args,tys⟩)
    (ha:args.toList.map (ev n f)=vs) (hc:CV P g vs.toArray w R):Yc P n f w o R:=by
  refine ⟨g,vs.toArray,?_,hc⟩
  unfold execOp; rw [ho]
  have ha':args.map (ev n f)=vs.toArray:=by rw [← ha]; exact Array.ext' (by simp)
  simp [resolve,ev,Deferred.ofValue,invoke,ha',run_callFunc hg]
theorem Yc_clos {g:Nat} {x:Operand} {args:Array Operand} {tys:Array TypeId} {vs:List Value} {cap:Array Value} {R:Value→World→Prop} (hg:callB P g=true) (ho:o.op=.call ⟨.value x,args,tys⟩)
    (hx:ev n f x=.func (.func g) #[] cap) (ha:args.toList.map (ev n f)++cap.toList=vs) (hc:CV P g vs.toArray w R):Yc P n f w o R:=by
  refine ⟨g,vs.toArray,?_,hc⟩
  unfold execOp; rw [ho]
  have ha':args.map (ev n f)++cap=vs.toArray:=by rw [← ha]; apply Array.ext'; simp
  simp [resolve,hx,Deferred.ofValue,invoke,ha',run_callFunc hg]
end
section
variable {P:Program}
def EqR (P:Program) (d:Nat) (T:TypeId) (x y:Value) (b:Bool):Prop:=∀ w:World,(Op.equalIn d T x y).run P w=.ok b w
def PtsEq (P:Program) (d:Nat) (xs ys:List Value) (l:List (Nat×Nat)) (b:Bool):Prop :=
  ∀ (w : World) (fs : List Field), fs.map (fun f => (f.type, f.offset)) = l → fs.all (fun f => decide (f.name ≠ "_")) = true → (Op.eqFields d xs.toArray ys.toArray fs).run P w = .ok b w
def structB (P:Program) (T:Nat) (l:List (Nat×Nat)):Bool:=match P.underlying T with
  | some (.struct fs) => decide (fs.toList.map (fun f => (f.type, f.offset)) = l) && fs.toList.all (fun f => decide (f.name ≠ "_"))
  | _=>false
theorem eqr_int {d T:Nat} {k:IntKind} {a b:Int} (h:intB P T k=true):EqR P (d+1) T (.int k a) (.int k b) (a==b):=fun w=>run_equalIn_int w d T k k a b (intB_spec h)
theorem pts_nil {d:Nat} {xs ys:List Value}:PtsEq P d xs ys [] true:=fun w fs h _=>by
  cases fs with
  | nil=>simp [Op.eqFields]
  | cons f fs=>cases h
theorem pts_sc {d ty off:Nat} {xs ys:List Value} {l:List (Nat×Nat)} {u v:Value} {b b':Bool} (hT:scalB P ty=true) (hu:xs[off]?=some u) (hv:ys[off]?=some v) (h:EqR P d ty u v b) (hr:PtsEq P d xs ys l b') :
    PtsEq P d xs ys ((ty,off)::l) (b&&b'):=fun w fs hm hn=>by
  cases fs with
  | nil=>cases hm
  | cons f fs =>
    simp only [List.map_cons,List.cons.injEq,Prod.mk.injEq] at hm
    obtain ⟨⟨rfl,rfl⟩,hm⟩:=hm
    simp only [List.all_cons,Bool.and_eq_true,decide_eq_true_eq] at hn
    have hr':=hr w fs hm hn.2
    unfold Op.eqFields
    rw [if_pos hn.1]
    simp only [Sem.run_bind,part,run_isAgg_scal hT,Result.andThen_ok,Bool.false_eq_true,if_false,List.getElem?_toArray,hu,hv,Sem.run_pure,h w,Sem.run_ite]
    cases b
    · simp
    · simpa using hr'
theorem pts_ag {d ty off s:Nat} {xs ys us vs:List Value} {l:List (Nat×Nat)} {b b':Bool} (hT:aggB P ty=true) (hs:sizeB P ty s=true) (hu:(xs.drop off).take s=us) (hv:(ys.drop off).take s=vs) (h:EqR P d ty (.agg us.toArray) (.agg vs.toArray) b)
    (hr:PtsEq P d xs ys l b'):PtsEq P d xs ys ((ty,off)::l) (b&&b'):=fun w fs hm hn=>by
  cases fs with
  | nil=>cases hm
  | cons f fs =>
    simp only [List.map_cons,List.cons.injEq,Prod.mk.injEq] at hm
    obtain ⟨⟨rfl,rfl⟩,hm⟩:=hm
    simp only [List.all_cons,Bool.and_eq_true,decide_eq_true_eq] at hn
    have hr':=hr w fs hm hn.2
    have e1:xs.toArray.extract f.offset (f.offset+s)=us.toArray:=by rw [← hu]; apply Array.ext'; simp
    have e2:ys.toArray.extract f.offset (f.offset+s)=vs.toArray:=by rw [← hv]; apply Array.ext'; simp
    unfold Op.eqFields
    rw [if_pos hn.1]
    simp only [Sem.run_bind,part,run_isAgg_agg hT,Result.andThen_ok,if_true,run_sizeOf hs,e1,e2,Sem.run_pure,h w,Sem.run_ite]
    cases b
    · simp
    · simpa using hr'
theorem eqr_struct {d T:Nat} {xs ys:List Value} {l:List (Nat×Nat)} {b:Bool} (h:structB P T l=true) (hp:P.stoodInHeld T=false) (hf:PtsEq P d xs ys l b):EqR P (d+1) T (.agg xs.toArray) (.agg ys.toArray) b:=fun w=>by
  unfold structB at h
  split at h
  · rename_i fs hfs
    simp only [Bool.and_eq_true,decide_eq_true_eq] at h
    have e:P.fieldsOf T=fs:=by unfold Program.fieldsOf; rw [hfs]
    rw [run_equalIn_struct w d T xs.toArray ys.toArray (by rw [e]; exact hfs) hp,e]
    exact hf w fs.toList h.1 h.2
  · cases h
theorem Y_eqA {n:Nat} {f:Nat→Value} {w:World} {o:Oper} {x y:Operand} {T T':TypeId} {xs ys:Array Value} {b:Bool} (hm:P.eqGuardType P.depth T=false) (ho:o.op=.binOp .eql T x y T') (hx:ev n f x=.agg xs) (hy:ev n f y=.agg ys)
    (h:EqR P 10000 T (.agg xs) (.agg ys) b):Y P n f w o (.bool b):=by
  unfold Y execOp; rw [ho]
  simp [hx,hy,run_eqGuard_agg w .eql T x y xs ys hm,run_eql_struct,h w]
theorem Y_neA {n:Nat} {f:Nat→Value} {w:World} {o:Oper} {x y:Operand} {T T':TypeId} {xs ys:Array Value} {b:Bool} (hm:P.eqGuardType P.depth T=false) (ho:o.op=.binOp .neq T x y T') (hx:ev n f x=.agg xs) (hy:ev n f y=.agg ys)
    (h:EqR P 10000 T (.agg xs) (.agg ys) b):Y P n f w o (.bool (!b)):=by
  unfold Y execOp; rw [ho]
  simp [hx,hy,run_eqGuard_agg w .neq T x y xs ys hm,run_neq_struct,h w]
theorem Y_pickT {n:Nat} {f:Nat→Value} {w:World} {o:Oper} {c x y:Operand} {b:Bool} {v:Value} (ho:o.op=.pick c x y) (hc:ev n f c=.bool b) (hb:b=true) (hx:ev n f x=v):Y P n f w o v:=by
  subst hb hx; simpa using Y_pick (P:=P) (w:=w) ho hc rfl rfl
theorem Y_pickF {n:Nat} {f:Nat→Value} {w:World} {o:Oper} {c x y:Operand} {b:Bool} {v:Value} (ho:o.op=.pick c x y) (hc:ev n f c=.bool b) (hb:b=false) (hy:ev n f y=v):Y P n f w o v:=by
  subst hb hy; simpa using Y_pick (P:=P) (w:=w) ho hc rfl rfl
end
section
variable {P:Program} {n:Nat} {f:Nat→Value} {w:World} {o:Oper} {x y:Operand} {T T' e:TypeId}
theorem run_equalIn_sliceNil (d:Nat) (hT:sliceB P T e=true) (B:Option Addr) (m c:Nat) (w:World):(Op.equalIn (d+1) T (.slice B m c) (.slice none 0 0)).run P w=.ok B.isNone w:=by
  have h:=sliceB_spec hT
  cases B <;> simp [Op.equalIn,run_underlying h]
theorem run_equal_sliceNil (hT:sliceB P T e=true) (B:Option Addr) (m c:Nat) (w:World):(Op.equal T (.slice B m c) (.slice none 0 0)).run P w=.ok B.isNone w:=run_equalIn_sliceNil 9999 hT B m c w
theorem Y_nileql {B:Option Addr} {m c:Nat} (hT:sliceB P T e=true) (ho:o.op=.binOp .eql T x y T') (hx:ev n f x=.slice B m c) (hy:ev n f y=.slice none 0 0):Y P n f w o (.bool B.isNone):=by
  have h:=sliceB_spec hT
  unfold Y execOp; rw [ho]
  simp [hx,hy,binOp,eqGuard,run_equal_sliceNil hT]
end
end Go.VK
