/- Closed facts on the types. -/
import Derived.Test.YtckobcclloialaaGreatLPhaseNetworksFn
import Derived.Test.YtckobcclloialaaGreatChecked
namespace Go.VK
open Go.RowKit
open Go.Proofs
abbrev vi (x:Int):Value:=.int .i64 x
abbrev aD (b:Nat):Option Addr:=some ⟨b,0,none⟩
abbrev kZ_:List Value:=[vi 0,vi 0,vi 0,vi 0,vi 0]
abbrev gZ_:Value:=.agg #[vi 0,vi 0,vi 0,vi 0,vi 0]
abbrev kN_:List Value:=[vi 0,vi 0,.slice none 0 0]
abbrev gN_:Value:=.agg #[vi 0,vi 0,.slice none 0 0]
theorem lB {n m:Nat} (h:Nat.ble n m=true):n≤m:=Nat.le_of_ble_eq_true h
theorem mAr {α:Type} {b:α} {xs:List α} (ys:List α) (h:b∈xs):b∈ys++xs:=List.mem_append_right ys h
theorem mAl {α:Type} {b:α} {xs:List α} (ys:List α) (h:b∈xs):b∈xs++ys:=List.mem_append_left ys h
theorem mOd {α:Type} {b:α} {i:Nat} {xs:List α} (h:b∈xs.drop i):b∈xs:=List.mem_of_mem_drop h
section
variable {P:Program} {n:Nat} {N:FW} {f:Nat→Value} {w0 w:World} {ops:Array Oper} {rest:List Oper} {o:Oper} {S:World→Prop} {M:List Nat} {L:List Ob} {R:List Ro}
theorem rq (i t:Nat) {fuel:Nat} {listed:Array Bool} {v:Value} (hi:ops[i]?=some o) (hS:S w) (hy:∀ w',S w'→Y P n f w' o v) (k:RA P n ops N S fuel (listed.setIfInBounds i true) (upd f t v) w)
    (hg:o.guard=none:=by exact rfl) (hd:o.dst=some t:=by exact rfl) (hs:Region.noSelect ops=true:=by kernel_rfl) (hf:Region.free .any ops listed i=true:=by kernel_rfl)
    (hr:(Region.ready .any ops listed).contains i=true:=by kernel_rfl):RA P n ops N S (fuel+1) listed f w:=ra_q i t hi hg hd hs hf hr hS hy k
theorem rA (rs:List Nat) {fuel:Nat} {listed:Array Bool} (h:AllR P n ops N S fuel listed f w rs) (hr:Region.ready .any ops listed=rs:=by kernel_rfl) (hne:rs.isEmpty=false:=by exact rfl):RA P n ops N S (fuel+1) listed f w:=ra_all hr hne h
theorem sQ (t:Nat) {v:Value} (h:Y P n f w o v) (k:RW P n ops N rest (upd f t v) w) (hg:o.guard=none:=by exact rfl) (hd:o.dst=some t:=by exact rfl):RW P n ops N (o::rest) f w:=sq t hg hd h k
theorem uT_ {j:Nat} (t:Nat) {b:Bool} (h:(ops.toList[j]?).bind (·.dst)=some t:=by kernel_rfl) (hb:ev n f (.tmp t)=.bool b:=by exact rfl):Wt (gd n f ops j) true b:=wt_t (gd_of h hb)
theorem uF_ {j:Nat} (t:Nat) {b:Bool} (h:(ops.toList[j]?).bind (·.dst)=some t:=by kernel_rfl) (hb:ev n f (.tmp t)=.bool b:=by exact rfl):Wt (gd n f ops j) false (!b):=wt_f (gd_of h hb)
theorem s0 {S:Value→World→Prop} (h:Ys P n f w o S) (k:∀ v w',S v w'→RW P n ops N rest f w') (hg:o.guard=none:=by exact rfl) (hd:o.dst=none:=by exact rfl):RW P n ops N (o::rest) f w:=ss0 hg hd h k
theorem sS (t:Nat) {S:Value→World→Prop} (h:Ys P n f w o S) (k:∀ v w',S v w'→RW P n ops N rest (upd f t v) w') (hg:o.guard=none:=by exact rfl) (hd:o.dst=some t:=by exact rfl):RW P n ops N (o::rest) f w:=ss t hg hd h k
theorem ST.se (hS:ST w0 M w L R) (is:List Nat) (hn:decide is.Nodup=true:=by exact rfl) (hb:is.all (fun i=>(L[i]?).isSome)=true:=by exact rfl):ST w0 M w (is.filterMap fun i=>L[i]?) R:=hS.sel is hn hb
theorem ST.sN (hS:ST w0 M w L R) (is:List Nat) (hn:decide is.Nodup=true:=by exact rfl) (hb:is.all (fun i=>(L[i]?).isSome)=true:=by exact rfl):ST w0 M w (is.filterMap fun i=>L[i]?) []:=ST.subR (hS.sel is hn hb) (fun _ h=>by cases h)
end
section
variable {P:Program} {n:Nat} {f:Nat→Value} {w0 w:World} {o:Oper} {M:List Nat} {L L':List Ob} {R:List Ro} {T T1:TypeId} {x y:Operand} {a b:Int}
theorem yl (B:Option Addr) (i:Nat) (cs:List Value) (v:Value) (hT:scalB P T=true) (hc:CF w B cs) (ho:o.op=.load T x:=by exact rfl) (hx:ev n f x=pt B i:=by exact rfl) (hk:cs[i]?=some v:=by exact rfl):Y P n f w o v:=Y_load1 hT ho hx hc hk
theorem ya (B:Option Addr) (i:Nat) (cs vs:List Value) {s:Nat} (hT:aggB P T=true) (hs:sizeB P T s=true) (hc:CF w B cs) (ho:o.op=.load T x:=by exact rfl) (hx:ev n f x=pt B i:=by exact rfl) (hl:vs.length=s:=by exact rfl) (hk:(cs.drop i).take s=vs:=by exact rfl):Y P n f w o (.agg vs.toArray):=Y_loadA hT hs ho hx hc hl hk
theorem yb (B:Option Addr) (i:Nat) (cs:List Value) {s:Nat} (hT:aggB P T=true) (hs:sizeB P T s=true) (hc:CF w B cs) (ho:o.op=.load T x:=by exact rfl) (hx:ev n f x=pt B i:=by exact rfl) (hl:cs.length=s:=by exact rfl) (hk:(cs.drop i).take s=cs:=by exact rfl):Y P n f w o (.agg cs.toArray):=Y_loadA hT hs ho hx hc hl hk
theorem yd (B:Option Addr) (i s:Nat) {j off ty:Nat} (hF:fieldB P T j off ty=true) (hs:sizeB P ty (s+1)=true) (ho:o.op=.fieldAddr T x j:=by exact rfl) (hx:ev n f x=pt B i:=by exact rfl):Y P n f w o (pt B (i+off)):=Y_fieldAddr hF hs ho hx
theorem ym (v:Value) (ho:o.op=.move x:=by exact rfl) (hx:ev n f x=v:=by exact rfl):Y P n f w o v:=Y_move ho hx
theorem yg (v:Value) (ho:o.op=.assign x:=by exact rfl) (hx:ev n f x=v:=by exact rfl):Y P n f w o v:=Y_assign ho hx
theorem yS (i s:Nat) (B:Option Addr) (T':TypeId) (v:Value) (vs:List Value) (k:Nat) (cs':List Value) {cs:List Value} {m:Nat} (hS:ST w0 M w L R) (hs:sizeB P T s=true) (ho:o.op=.store T x y:=by exact rfl) (hx:ev n f x=pt B k:=by exact rfl) (hy:ev n f y=v:=by exact rfl) (hv:v.cells.toList=vs:=by exact rfl)
    (hl:vs.length=s:=by exact rfl) (h1:one vs=true:=by exact rfl) (hi:L[i]?=some ⟨B,T',cs,m⟩:=by exact rfl) (hk:k+s≤cs.length:=by exact lB rfl) (hcs:splice cs k vs=cs':=by exact rfl) (hL:L.set i ⟨B,T',cs',m⟩=L':=by exact rfl):Ys P n f w o (fun v w'=>v=undef∧ST w0 M w' L' R):=Ys_store hS hs ho hx hy hv hl h1 hi hk hcs hL
theorem yT (i s:Nat) (B:Option Addr) (T':TypeId) (v:Value) (vs:List Value) (k:Nat) {cs:List Value} {m:Nat} (hS:ST w0 M w L R) (hs:sizeB P T s=true) (ho:o.op=.store T x y:=by exact rfl) (hx:ev n f x=pt B k:=by exact rfl) (hy:ev n f y=v:=by exact rfl) (hv:v.cells.toList=vs:=by exact rfl)
    (hl:vs.length=s:=by exact rfl) (h1:one vs=true:=by exact rfl) (hi:L[i]?=some ⟨B,T',cs,m⟩:=by exact rfl) (hk:k+s≤cs.length:=by exact lB rfl) (hcs:splice cs k vs=vs:=by exact rfl) (hL:L.set i ⟨B,T',vs,m⟩=L':=by exact rfl):Ys P n f w o (fun v w'=>v=undef∧ST w0 M w' L' R):=Ys_store hS hs ho hx hy hv hl h1 hi hk hcs hL
theorem yN (cs:List Value) (m:Nat) {z:Value} (hS:ST w0 M w L R) (hz:(P.info? T).map (·.zero)=some (some z)) (ho:o.op=.alloc T:=by exact rfl) (hc:z.cells.toList=cs:=by exact rfl) (hm:cs.length=m:=by exact rfl):Ys P n f w o (NewAt w0 M L R T cs m):=Ys_alloc hS hz ho hc hm
theorem yB (T:TypeId) (v:Value) (cs:List Value) (m:Nat) (hS:ST w0 M w L R) (ho:o.op=.box T x:=by exact rfl) (hx:ev n f x=v:=by exact rfl) (hc:v.cells.toList=cs:=by exact rfl) (hm:cs.length=m:=by exact rfl):Ys P n f w o (NewAt w0 M L R T cs m):=Ys_box hS ho hx hc hm
theorem ye (v:Value) {i:Nat} {vs:Array Value} (ho:o.op=.extract x i:=by exact rfl) (hx:ev n f x=.tuple vs:=by exact rfl) (hv:vs[i]?=some v:=by exact rfl):Y P n f w o v:=Y_extract ho hx hv
theorem yP (a b:Int) (ho:o.op=.binOp .add T x y T1:=by exact rfl) (hx:ev n f x=.int .i64 a:=by exact rfl) (hy:ev n f y=.int .i64 b:=by exact rfl):Y P n f w o (.int .i64 (IntKind.i64.wrap (a+b))):=Y_add ho hx hy
theorem yM (a b:Int) (ho:o.op=.binOp .sub T x y T1:=by exact rfl) (hx:ev n f x=.int .i64 a:=by exact rfl) (hy:ev n f y=.int .i64 b:=by exact rfl):Y P n f w o (.int .i64 (IntKind.i64.wrap (a-b))):=Y_sub ho hx hy
theorem yX (a b:Int) (ho:o.op=.binOp .mul T x y T1:=by exact rfl) (hx:ev n f x=.int .i64 a:=by exact rfl) (hy:ev n f y=.int .i64 b:=by exact rfl):Y P n f w o (.int .i64 (IntKind.i64.wrap (a*b))):=Y_mul ho hx hy
theorem yE (a b:Int) (ho:o.op=.binOp .eql T x y T1:=by exact rfl) (hx:ev n f x=.int .i64 a:=by exact rfl) (hy:ev n f y=.int .i64 b:=by exact rfl):Y P n f w o (.bool (a==b)):=Y_eq ho hx hy
theorem yL (a b:Int) (ho:o.op=.binOp .lss T x y T1:=by exact rfl) (hx:ev n f x=.int .i64 a:=by exact rfl) (hy:ev n f y=.int .i64 b:=by exact rfl):Y P n f w o (.bool (decide (a<b))):=Y_lt ho hx hy
theorem yI (B:Option Addr) (i:Int) {m c e s:Nat} (hT:sliceB P T e=true) (hs:sizeB P e s=true) (hB:B.isSome=true) (h0:0≤i) (h1:i<m) (ho:o.op=.indexAddr T x y:=by exact rfl) (hx:ev n f x=.slice B m c:=by exact rfl) (hy:ev n f y=.int .i64 i:=by exact rfl):Y P n f w o (pt B (i.toNat*s)):=Y_index hT hs ho hx hy hB h0 h1
theorem ST.c (hS:ST w0 M w L R) (i:Nat) {B:Option Addr} {T:TypeId} {cs:List Value} {m:Nat} (hi:L[i]?=some ⟨B,T,cs,m⟩:=by exact rfl):CF w B cs:=hS.cf hi
theorem FF.g {l:List (Nat×Value)} (h:FF f l) (t i:Nat) {v:Value} (hi:l[i]?=some (t,v):=by exact rfl):f t=v:=h.get t i hi
theorem yC {g:Nat} {args:Array Operand} {tys:Array TypeId} {R:Value→World→Prop} (vs:List Value) (hg:callB P g=true) (hc:CV P g vs.toArray w R) (ho:o.op=.call ⟨.value (.func g),args,tys⟩:=by exact rfl) (ha:args.toList.map (ev n f)=vs:=by repeat (first | exact mn | refine mc rfl ?_)):Yc P n f w o R:=Yc_func hg ho ha hc
theorem mt {α:Type} {l:List α} {x:α} (i:Nat) (h:l[i]?=some x:=by exact rfl):x∈l:=mem_at h
theorem sk {α:Type} {x:α} {l R:List α} (i:Nat) (h':∀ r∈l,r∈R) (h:R[i]?=some x:=by exact rfl):∀ r∈x::l,r∈R:=subc (mem_at h) h'
end
section
variable {P:Program} {n:Nat} {N:FW} {f:Nat→Value} {w0 w:World} {ops:Array Oper} {rest:List Oper} {o:Oper} {S:World→Prop}
theorem rS (t i:Nat) {rs:List Nat} {fuel:Nat} {listed:Array Bool} {S':Value→World→Prop} (hi:ops[i]?=some o) (h:Ys P n f w o S') (k:∀ v w',S' v w'→S w'∧RA P n ops N S fuel (listed.setIfInBounds i true) (upd f t v) w') (hrs:AllR P n ops N S fuel listed f w rs) (hg:o.guard=none:=by exact rfl) (hd:o.dst=some t:=by exact rfl):AllR P n ops N S fuel listed f w (i::rs):=ra_s t hi hg hd h k hrs
theorem ry (t i:Nat) {rs:List Nat} {fuel:Nat} {listed:Array Bool} {v:Value} (hi:ops[i]?=some o) (h:Y P n f w o v) (hS:S w) (k:RA P n ops N S fuel (listed.setIfInBounds i true) (upd f t v) w) (hrs:AllR P n ops N S fuel listed f w rs) (hg:o.guard=none:=by exact rfl) (hd:o.dst=some t:=by exact rfl):AllR P n ops N S fuel listed f w (i::rs):=ra_y t hi hg hd h hS k hrs
theorem rZ (i:Nat) {rs:List Nat} {fuel:Nat} {listed:Array Bool} {S':Value→World→Prop} (hi:ops[i]?=some o) (h:Ys P n f w o S') (k:∀ v w',S' v w'→S w'∧RA P n ops N S fuel (listed.setIfInBounds i true) f w') (hrs:AllR P n ops N S fuel listed f w rs) (hg:o.guard=none:=by exact rfl) (hd:o.dst=none:=by exact rfl):AllR P n ops N S fuel listed f w (i::rs):=ra_s0 hi hg hd h k hrs
theorem rC (t i:Nat) {rs:List Nat} {fuel:Nat} {listed:Array Bool} {S':Value→World→Prop} (hi:ops[i]?=some o) (h:Yc P n f w o S') (k:∀ v w',S' v w'→S w'∧RA P n ops N S fuel (listed.setIfInBounds i true) (upd f t v) w') (hrs:AllR P n ops N S fuel listed f w rs) (hg:o.guard=none:=by exact rfl) (hd:o.dst=some t:=by exact rfl):AllR P n ops N S fuel listed f w (i::rs):=ra_c t hi hg hd h k hrs
end
abbrev dT (i2:Nat):List UInt8:=List.drop (i2:Int).toNat (List.take (IntKind.i64.wrap ((i2:Int)+1)).toNat ([72,83]:List UInt8))
set_option linter.defProp false
def fc:=@FF.cons
def fn_:=@FF.nil
def cr:=@cw_region
def cq:=@cw_seq
def rn:=@rw_nil
def ct_:=@cw_ret
def sI:=@some_inj
def bI:=@bind_inv
def aN:=@allR_nil
section
variable {P:Program} {n:Nat} {N:FW} {f:Nat→Value} {w0 w:World} {ops:Array Oper} {rest:List Oper} {o:Oper} {S:World→Prop} {M:List Nat} {L:List Ob} {R:List Ro}
theorem ST.sR (hS:ST w0 M w L R) (k:Nat) (is:List Nat):ST w0 M w L ((is.filterMap fun i=>(R.take k)[i]?)++R.drop k):=ST.subR hS (fun r hr=>by
  rcases List.mem_append.1 hr with h | h
  · obtain ⟨i,_,hi⟩:=List.mem_filterMap.1 h
    exact List.mem_of_mem_take (List.mem_of_getElem? hi)
  · exact List.mem_of_mem_drop h)
theorem ST.sT (hS:ST w0 M w L R) (is:List Nat):ST w0 M w L (is.filterMap fun i=>R[i]?):=ST.subR hS (fun r hr=>by
  obtain ⟨i,_,hi⟩:=List.mem_filterMap.1 hr
  exact List.mem_of_getElem? hi)
theorem rG (i t:Nat) {j:Nat} {want B:Bool} {fuel:Nat} {listed:Array Bool} {v:Value} (hi:ops[i]?=some o) (hg:o.guard=some (j,want)) (hd:o.dst=some t) (hb:Wt (gd n f ops j) want B) (hS:S w) (hy:B=true→∀ w',S w'→Y P n f w' o v)
    (k:RA P n ops N S fuel (listed.setIfInBounds i true) (upd f t (gv B v)) w) (hs:Region.noSelect ops=true:=by kernel_rfl) (hf:Region.free .any ops listed i=true:=by kernel_rfl) (hr:(Region.ready .any ops listed).contains i=true:=by kernel_rfl):RA P n ops N S (fuel+1) listed f w:=ra_gq i t hi hg hd hb hs hf hr hS hy k
theorem FF.a {f':Nat→Value} {l l':List (Nat×Value)} (h:FF f l) (t i:Nat) {v:Value} (r:FF f' l') (hi:l[i]?=some (t,v):=by exact rfl) (he:f' t=f t:=by exact rfl):FF f' ((t,v)::l'):=FF.cons (he.trans (h.get t i hi)) r
end
section
variable {P:Program} {n:Nat} {N:FW} {f:Nat→Value} {w:World} {ops:Array Oper} {o:Oper} {S:World→Prop}
theorem r1 (t i:Nat) {fuel:Nat} {listed:Array Bool} {v:Value} (hi:ops[i]?=some o) (h:Y P n f w o v) (hS:S w) (k:RA P n ops N S fuel (listed.setIfInBounds i true) (upd f t v) w) (hr:Region.ready .any ops listed=[i]:=by kernel_rfl) (hg:o.guard=none:=by exact rfl) (hd:o.dst=some t:=by exact rfl):RA P n ops N S (fuel+1) listed f w:=ra_all hr rfl (ra_y t hi hg hd h hS k trivial)
end
theorem K81:sliceB Tryz.prog 22 5=true:=by kernel_rfl
theorem K34:(Tryz.prog.info? 28).map (·.zero)=some (some (.agg #[.int .i64 0,.int .i64 0,.slice none 0 0,.slice none 0 0])):=by kernel_rfl
theorem J6:(Tryz.prog.info? 74).map (·.zero)=some (some (.agg #[.slice none 0 0,.int .i64 0,.int .u64 0])):=by kernel_rfl
theorem JW:placesB Tryz.prog 74 [(0,1),(1,1),(2,1)]=true:=by kernel_rfl
theorem K80:fieldB Tryz.prog 74 1 1 3=true:=by kernel_rfl
theorem K0:sizeB Tryz.prog 3 1=true:=by kernel_rfl
theorem K1:scalB Tryz.prog 3=true:=by kernel_rfl
theorem K98:fieldB Tryz.prog 74 0 0 22=true:=by kernel_rfl
theorem K99:sizeB Tryz.prog 22 1=true:=by kernel_rfl
theorem Fh:scalB Tryz.prog 22=true:=by kernel_rfl
theorem Hk:sizeB Tryz.prog 5 1=true:=by kernel_rfl
theorem LD:scalB Tryz.prog 5=true:=by kernel_rfl
theorem PK:(Tryz.prog.underlying 5).isSome=true:=by kernel_rfl
theorem K54:intB Tryz.prog 3 .i64=true:=by kernel_rfl
theorem Hl:fieldB Tryz.prog 74 2 2 72=true:=by kernel_rfl
theorem K90:sizeB Tryz.prog 72 1=true:=by kernel_rfl
theorem Il:scalB Tryz.prog 72=true:=by kernel_rfl
theorem K40:(Tryz.prog.underlying 3).isSome=true:=by kernel_rfl
theorem Nc:intB Tryz.prog 72 .u64=true:=by kernel_rfl
theorem IN:(Tryz.prog.underlying 72).isSome=true:=by kernel_rfl
theorem Io:callB Tryz.prog 91=true:=by kernel_rfl
theorem K20:callB Tryz.prog 38=true:=by kernel_rfl
theorem K41:intB Tryz.prog 77 .u64=true:=by kernel_rfl
theorem K2:sliceB Tryz.prog 24 3=true:=by kernel_rfl
theorem K31:bytesB Tryz.prog 3 8=true:=by kernel_rfl
theorem K28:(Tryz.prog.info? 3).map (·.zero)=some (some (.int .i64 0)):=by kernel_rfl
theorem Hc:callB Tryz.prog 40=true:=by kernel_rfl
theorem K37:(Tryz.prog.info? 64).map (·.zero)=some (some (.agg #[.int .i64 0,.int .i64 0])):=by kernel_rfl
theorem K74:placesB Tryz.prog 64 [(0,1),(1,1)]=true:=by kernel_rfl
theorem K14:sliceB Tryz.prog 23 64=true:=by kernel_rfl
theorem K15:sizeB Tryz.prog 64 2=true:=by kernel_rfl
theorem K70:(Tryz.prog.info? 64).map (fun i=>i.zero.map (fun z=>z.cells.toList))=some (some [.int .i64 0,.int .i64 0]):=by kernel_rfl
theorem K67:bytesB Tryz.prog 64 16=true:=by kernel_rfl
theorem Ju:callB Tryz.prog 39=true:=by kernel_rfl
theorem K22:(Tryz.prog.info? 26).map (·.zero)=some (some (.agg #[.slice none 0 0])):=by kernel_rfl
theorem K13:fieldB Tryz.prog 26 0 0 24=true:=by kernel_rfl
theorem K8:sizeB Tryz.prog 24 1=true:=by kernel_rfl
theorem K9:scalB Tryz.prog 24=true:=by kernel_rfl
theorem K24:(Tryz.prog.info? 3).map (fun i=>i.zero.map (fun z=>z.cells.toList))=some (some [.int .i64 0]):=by kernel_rfl
theorem K16:aggB Tryz.prog 26=true:=by kernel_rfl
theorem K6:sizeB Tryz.prog 26 1=true:=by kernel_rfl
theorem K76:callB Tryz.prog 43=true:=by kernel_rfl
theorem K75:callB Tryz.prog 77=true:=by kernel_rfl
theorem K55:placesB Tryz.prog 26 [(0,1)]=true:=by kernel_rfl
theorem K56:callB Tryz.prog 82=true:=by kernel_rfl
theorem HN:callB Tryz.prog 115=true:=by kernel_rfl
theorem K62:placesB Tryz.prog 28 [(0,1),(1,1),(2,1),(3,1)]=true:=by kernel_rfl
theorem K25:sizeB Tryz.prog 28 4=true:=by kernel_rfl
theorem K39:aggB Tryz.prog 28=true:=by kernel_rfl
theorem Lf:callB Tryz.prog 99=true:=by kernel_rfl
theorem K91:callB Tryz.prog 100=true:=by kernel_rfl
theorem K63:fieldB Tryz.prog 28 1 1 3=true:=by kernel_rfl
theorem K43:fieldB Tryz.prog 28 2 2 23=true:=by kernel_rfl
theorem K35:sizeB Tryz.prog 23 1=true:=by kernel_rfl
theorem K42:scalB Tryz.prog 23=true:=by kernel_rfl
theorem MN:callB Tryz.prog 101=true:=by kernel_rfl
theorem K59:fieldB Tryz.prog 28 3 3 26=true:=by kernel_rfl
theorem K44:fieldB Tryz.prog 28 0 0 3=true:=by kernel_rfl
theorem PP:callB Tryz.prog 55=true:=by kernel_rfl
theorem Mb:callB Tryz.prog 16=true:=by kernel_rfl
theorem M0:callB Tryz.prog 4=true:=by kernel_rfl
theorem K21:(Tryz.prog.info? 32).map (·.zero)=some (some (.agg #[.int .i64 0,.slice none 0 0])):=by kernel_rfl
theorem K50:callB Tryz.prog 56=true:=by kernel_rfl
theorem K51:aggB Tryz.prog 64=true:=by kernel_rfl
theorem K49:fieldB Tryz.prog 64 0 0 3=true:=by kernel_rfl
theorem K77:fieldB Tryz.prog 64 1 1 3=true:=by kernel_rfl
theorem Ii:callB Tryz.prog 42=true:=by kernel_rfl
theorem IW:callB Tryz.prog 116=true:=by kernel_rfl
theorem Nx:callB Tryz.prog 103=true:=by kernel_rfl
theorem K82:callB Tryz.prog 58=true:=by kernel_rfl
theorem KM:callB Tryz.prog 117=true:=by kernel_rfl
theorem Mr:callB Tryz.prog 118=true:=by kernel_rfl
theorem IE:callB Tryz.prog 102=true:=by kernel_rfl
theorem Ma:callB Tryz.prog 104=true:=by kernel_rfl
theorem G5:callB Tryz.prog 57=true:=by kernel_rfl
theorem K87:callB Tryz.prog 17=true:=by kernel_rfl
theorem K46:placesB Tryz.prog 32 [(0,1),(1,1)]=true:=by kernel_rfl
theorem K7:sizeB Tryz.prog 32 2=true:=by kernel_rfl
theorem K12:aggB Tryz.prog 32=true:=by kernel_rfl
theorem K4:sliceB Tryz.prog 30 59=true:=by kernel_rfl
theorem K3:sizeB Tryz.prog 59 3=true:=by kernel_rfl
theorem K26:(Tryz.prog.info? 59).map (fun i=>i.zero.map (fun z=>z.cells.toList))=some (some [.int .i64 0,.int .i64 0,.int .i64 0]):=by kernel_rfl
theorem Ns:callB Tryz.prog 105=true:=by kernel_rfl
theorem Kv:fieldB Tryz.prog 99 1 1 3=true:=by kernel_rfl
theorem K78:fieldB Tryz.prog 99 0 0 24=true:=by kernel_rfl
theorem IZ:callB Tryz.prog 62=true:=by kernel_rfl
theorem NL:callB Tryz.prog 19=true:=by kernel_rfl
theorem Oc:callB Tryz.prog 18=true:=by kernel_rfl
theorem K36:fieldB Tryz.prog 32 0 0 3=true:=by kernel_rfl
theorem K17:fieldB Tryz.prog 32 1 1 30=true:=by kernel_rfl
theorem K11:sizeB Tryz.prog 30 1=true:=by kernel_rfl
theorem K18:scalB Tryz.prog 30=true:=by kernel_rfl
theorem K30:aggB Tryz.prog 59=true:=by kernel_rfl
theorem KK:callB Tryz.prog 112=true:=by kernel_rfl
theorem K45:fieldB Tryz.prog 59 0 0 3=true:=by kernel_rfl
theorem K29:fieldB Tryz.prog 59 1 1 3=true:=by kernel_rfl
theorem K27:fieldB Tryz.prog 59 2 2 3=true:=by kernel_rfl
theorem M7:callB Tryz.prog 113=true:=by kernel_rfl
theorem On:callB Tryz.prog 95=true:=by kernel_rfl
theorem Nz:callB Tryz.prog 94=true:=by kernel_rfl
theorem I4:callB Tryz.prog 92=true:=by kernel_rfl
theorem K85:callB Tryz.prog 45=true:=by kernel_rfl
theorem K68:callB Tryz.prog 46=true:=by kernel_rfl
theorem K10:(Tryz.prog.info? 59).map (·.zero)=some (some (.agg #[.int .i64 0,.int .i64 0,.int .i64 0])):=by kernel_rfl
theorem N8:callB Tryz.prog 63=true:=by kernel_rfl
theorem MO:callB Tryz.prog 20=true:=by kernel_rfl
theorem Jy:(Tryz.prog.info? 24).map (·.zero)=some (some (.slice none 0 0)):=by kernel_rfl
theorem IV:(Tryz.prog.info? 30).map (·.zero)=some (some (.slice none 0 0)):=by kernel_rfl
theorem K33:placesB Tryz.prog 59 [(0,1),(1,1),(2,1)]=true:=by kernel_rfl
theorem K23:bytesB Tryz.prog 59 24=true:=by kernel_rfl
theorem IJ:callB Tryz.prog 106=true:=by kernel_rfl
theorem Ki:callB Tryz.prog 65=true:=by kernel_rfl
theorem HB:callB Tryz.prog 64=true:=by kernel_rfl
theorem JF:callB Tryz.prog 22=true:=by kernel_rfl
theorem Gn:callB Tryz.prog 21=true:=by kernel_rfl
theorem Lw:callB Tryz.prog 73=true:=by kernel_rfl
theorem K86:sliceB Tryz.prog 113 30=true:=by kernel_rfl
theorem Nt:(Tryz.prog.info? 30).map (fun i=>i.zero.map (fun z=>z.cells.toList))=some (some [.slice none 0 0]):=by kernel_rfl
theorem MW:callB Tryz.prog 72=true:=by kernel_rfl
theorem LK:callB Tryz.prog 66=true:=by kernel_rfl
theorem OA:(Tryz.prog.info? 23).map (·.zero)=some (some (.slice none 0 0)):=by kernel_rfl
theorem P3:callB Tryz.prog 69=true:=by kernel_rfl
theorem LF:callB Tryz.prog 68=true:=by kernel_rfl
theorem JU:(Tryz.prog.info? 136).map (·.zero)=some (some (.agg #[.slice none 0 0,.slice none 0 0,.slice none 0 0,.slice none 0 0,.slice none 0 0,.slice none 0 0,.slice none 0 0,.slice none 0 0])):=by kernel_rfl
theorem K64:arrB Tryz.prog 136 8 24=true:=by kernel_rfl
theorem KY:sizeB Tryz.prog 136 8=true:=by kernel_rfl
theorem Im:callB Tryz.prog 70=true:=by kernel_rfl
theorem Om:callB Tryz.prog 71=true:=by kernel_rfl
theorem JG:callB Tryz.prog 67=true:=by kernel_rfl
theorem Oa:callB Tryz.prog 25=true:=by kernel_rfl
theorem P6:callB Tryz.prog 24=true:=by kernel_rfl
theorem Km:callB Tryz.prog 23=true:=by kernel_rfl
theorem Mn:callB Tryz.prog 120=true:=by kernel_rfl
theorem M6:callB Tryz.prog 107=true:=by kernel_rfl
theorem Mh:(Tryz.prog.underlying 77).isSome=true:=by kernel_rfl
theorem LU:callB Tryz.prog 74=true:=by kernel_rfl
theorem MQ:callB Tryz.prog 27=true:=by kernel_rfl
theorem Ir:callB Tryz.prog 26=true:=by kernel_rfl
theorem MF:callB Tryz.prog 5=true:=by kernel_rfl
theorem K48:callB Tryz.prog 75=true:=by kernel_rfl
theorem Nw:callB Tryz.prog 108=true:=by kernel_rfl
theorem OI:callB Tryz.prog 109=true:=by kernel_rfl
theorem Kq:callB Tryz.prog 76=true:=by kernel_rfl
theorem J0:callB Tryz.prog 28=true:=by kernel_rfl
theorem Lp:callB Tryz.prog 29=true:=by kernel_rfl
theorem MZ:callB Tryz.prog 111=true:=by kernel_rfl
theorem J4:callB Tryz.prog 89=true:=by kernel_rfl
theorem NC:callB Tryz.prog 81=true:=by kernel_rfl
theorem Pq:callB Tryz.prog 30=true:=by kernel_rfl
theorem Kn:callB Tryz.prog 83=true:=by kernel_rfl
theorem NH:callB Tryz.prog 31=true:=by kernel_rfl
theorem Pj:callB Tryz.prog 84=true:=by kernel_rfl
theorem Kh:callB Tryz.prog 33=true:=by kernel_rfl
theorem GI:callB Tryz.prog 32=true:=by kernel_rfl
theorem Ip:callB Tryz.prog 85=true:=by kernel_rfl
theorem H6:sliceB Tryz.prog 140 24=true:=by kernel_rfl
theorem N4:(Tryz.prog.info? 24).map (fun i=>i.zero.map (fun z=>z.cells.toList))=some (some [.slice none 0 0]):=by kernel_rfl
theorem HM:callB Tryz.prog 86=true:=by kernel_rfl
theorem JS:callB Tryz.prog 34=true:=by kernel_rfl
theorem PI:callB Tryz.prog 6=true:=by kernel_rfl
theorem JT:callB Tryz.prog 124=true:=by kernel_rfl
theorem Pn:callB Tryz.prog 121=true:=by kernel_rfl
theorem Ld:callB Tryz.prog 110=true:=by kernel_rfl
theorem OU:callB Tryz.prog 87=true:=by kernel_rfl
theorem M1:callB Tryz.prog 88=true:=by kernel_rfl
theorem OK:callB Tryz.prog 35=true:=by kernel_rfl
theorem Ni:callB Tryz.prog 90=true:=by kernel_rfl
theorem G3:callB Tryz.prog 36=true:=by kernel_rfl
theorem Oq:callB Tryz.prog 37=true:=by kernel_rfl
theorem L9:callB Tryz.prog 7=true:=by kernel_rfl
theorem Lk:callB Tryz.prog 93=true:=by kernel_rfl
theorem KZ:callB Tryz.prog 41=true:=by kernel_rfl
theorem Nb:callB Tryz.prog 8=true:=by kernel_rfl
theorem KF:callB Tryz.prog 9=true:=by kernel_rfl
theorem Jr:Tryz.prog.underlying 4=some .bool:=by kernel_rfl
theorem Ny:structB Tryz.prog 59 [(3,0),(3,1),(3,2)]=true:=by kernel_rfl
theorem Oy:Tryz.prog.stoodInHeld 59=false:=by kernel_rfl
theorem L0:Tryz.prog.eqGuardType Tryz.prog.depth 59=false:=by kernel_rfl
theorem Mq:callB Tryz.prog 44=true:=by kernel_rfl
theorem JO:callB Tryz.prog 10=true:=by kernel_rfl
theorem K69:(Tryz.prog.info? 86).map (·.zero)=some (some (.agg #[.int .i64 0,.int .i64 0,.int .i64 0,.int .i64 0,.int .i64 0,.int .i64 0,.int .i64 0,.int .i64 0,.int .i64 0,.int .i64 0,.int .i64 0,.int .i64 0,.int .i64 0,.int .i64 0,.int .i64 0,.int .i64 0,.int .i64 0,.int .i64 0,.int .i64 0,.int .i64 0,.int .i64 0,.int .i64 0,.int .i64 0,.int .i64 0,.int .i64 0,.int .i64 0,.int .i64 0,.int .i64 0,.int .i64 0,.int .i64 0,.int .i64 0,.int .i64 0])):=by kernel_rfl
theorem K88:arrB Tryz.prog 86 32 3=true:=by kernel_rfl
theorem K61:sizeB Tryz.prog 86 32=true:=by kernel_rfl
theorem K89:callB Tryz.prog 47=true:=by kernel_rfl
theorem Pf:callB Tryz.prog 48=true:=by kernel_rfl
theorem GL:aggB Tryz.prog 86=true:=by kernel_rfl
theorem Jv:callB Tryz.prog 49=true:=by kernel_rfl
theorem I5:callB Tryz.prog 11=true:=by kernel_rfl
theorem Ih:structB Tryz.prog 64 [(3,0),(3,1)]=true:=by kernel_rfl
theorem Jd:Tryz.prog.stoodInHeld 64=false:=by kernel_rfl
theorem IT:Tryz.prog.eqGuardType Tryz.prog.depth 64=false:=by kernel_rfl
theorem LI:callB Tryz.prog 12=true:=by kernel_rfl
theorem OL:callB Tryz.prog 123=true:=by kernel_rfl
theorem MI:callB Tryz.prog 114=true:=by kernel_rfl
theorem IF:callB Tryz.prog 96=true:=by kernel_rfl
theorem NP:(Tryz.prog.info? 131).map (·.zero)=some (some (.agg #[.int .i64 0,.int .i64 0,.int .i64 0,.int .i64 0])):=by kernel_rfl
theorem JL:arrB Tryz.prog 131 4 3=true:=by kernel_rfl
theorem Kl:callB Tryz.prog 50=true:=by kernel_rfl
theorem MS:callB Tryz.prog 51=true:=by kernel_rfl
theorem Mw:callB Tryz.prog 52=true:=by kernel_rfl
theorem N1:callB Tryz.prog 13=true:=by kernel_rfl
theorem Nu:callB Tryz.prog 53=true:=by kernel_rfl
theorem N2:callB Tryz.prog 14=true:=by kernel_rfl
theorem OB:callB Tryz.prog 98=true:=by kernel_rfl
theorem Lg:callB Tryz.prog 97=true:=by kernel_rfl
theorem PW:callB Tryz.prog 54=true:=by kernel_rfl
theorem Pd:callB Tryz.prog 15=true:=by kernel_rfl
theorem K52:sliceB Tryz.prog 100 99=true:=by kernel_rfl
theorem K47:sizeB Tryz.prog 99 3=true:=by kernel_rfl
theorem Gx:aggB Tryz.prog 99=true:=by kernel_rfl
theorem K72:(Tryz.prog.info? 99).map (·.zero)=some (some (.agg #[.slice none 0 0,.int .i64 0,.int .i64 0])):=by kernel_rfl
theorem Hs:intB Tryz.prog 5 .u8=true:=by kernel_rfl
end Go.VK
