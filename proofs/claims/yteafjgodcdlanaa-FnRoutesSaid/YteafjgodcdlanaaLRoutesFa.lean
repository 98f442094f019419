/- Closed facts on the types. -/
import Derived.Test.YteafjgodcdlanaaLRoutesFn
import Derived.Test.YteafjgodcdlanaaChecked
namespace Go.VK
open Go.RowKit
open Go.Proofs
abbrev vi (x:Int):Value:=.int .i64 x
abbrev aD (b:Nat):Option Addr:=some ⟨b,0,none⟩
abbrev kZ_:List Value:=[vi 0,vi 0,vi 0,vi 0,vi 0]
abbrev gZ_:Value:=.agg #[vi 0,vi 0,vi 0,vi 0,vi 0]
abbrev kN_:List Value:=[vi 0,vi 0,.slice none 0 0]
abbrev gN_:Value:=.agg #[vi 0,vi 0,.slice none 0 0]
theorem lB {n m:Nat} (h:Nat.ble n m=true):n≤m:=Nat.le_of_ble_eq_true h
theorem mAr {α:Type} {b:α} {xs:List α} (ys:List α) (h:b∈xs):b∈ys++xs:=List.mem_append_right ys h
theorem mAl {α:Type} {b:α} {xs:List α} (ys:List α) (h:b∈xs):b∈xs++ys:=List.mem_append_left ys h
theorem mOd {α:Type} {b:α} {i:Nat} {xs:List α} (h:b∈xs.drop i):b∈xs:=List.mem_of_mem_drop h
section
variable {P:Program} {n:Nat} {N:FW} {f:Nat→Value} {w0 w:World} {ops:Array Oper} {rest:List Oper} {o:Oper} {S:World→Prop} {M:List Nat} {L:List Ob} {R:List Ro}
theorem rq (i t:Nat) {fuel:Nat} {listed:Array Bool} {v:Value} (hi:ops[i]?=some o) (hS:S w) (hy:∀ w',S w'→Y P n f w' o v) (k:RA P n ops N S fuel (listed.setIfInBounds i true) (upd f t v) w)
    (hg:o.guard=none:=by exact rfl) (hd:o.dst=some t:=by exact rfl) (hs:Region.noSelect ops=true:=by kernel_rfl) (hf:Region.free .any ops listed i=true:=by kernel_rfl)
    (hr:(Region.ready .any ops listed).contains i=true:=by kernel_rfl):RA P n ops N S (fuel+1) listed f w:=ra_q i t hi hg hd hs hf hr hS hy k
theorem rA (rs:List Nat) {fuel:Nat} {listed:Array Bool} (h:AllR P n ops N S fuel listed f w rs) (hr:Region.ready .any ops listed=rs:=by kernel_rfl) (hne:rs.isEmpty=false:=by exact rfl):RA P n ops N S (fuel+1) listed f w:=ra_all hr hne h
theorem sQ (t:Nat) {v:Value} (h:Y P n f w o v) (k:RW P n ops N rest (upd f t v) w) (hg:o.guard=none:=by exact rfl) (hd:o.dst=some t:=by exact rfl):RW P n ops N (o::rest) f w:=sq t hg hd h k
theorem uT_ {j:Nat} (t:Nat) {b:Bool} (h:(ops.toList[j]?).bind (·.dst)=some t:=by kernel_rfl) (hb:ev n f (.tmp t)=.bool b:=by exact rfl):Wt (gd n f ops j) true b:=wt_t (gd_of h hb)
theorem uF_ {j:Nat} (t:Nat) {b:Bool} (h:(ops.toList[j]?).bind (·.dst)=some t:=by kernel_rfl) (hb:ev n f (.tmp t)=.bool b:=by exact rfl):Wt (gd n f ops j) false (!b):=wt_f (gd_of h hb)
theorem s0 {S:Value→World→Prop} (h:Ys P n f w o S) (k:∀ v w',S v w'→RW P n ops N rest f w') (hg:o.guard=none:=by exact rfl) (hd:o.dst=none:=by exact rfl):RW P n ops N (o::rest) f w:=ss0 hg hd h k
theorem sS (t:Nat) {S:Value→World→Prop} (h:Ys P n f w o S) (k:∀ v w',S v w'→RW P n ops N rest (upd f t v) w') (hg:o.guard=none:=by exact rfl) (hd:o.dst=some t:=by exact rfl):RW P n ops N (o::rest) f w:=ss t hg hd h k
theorem ST.se (hS:ST w0 M w L R) (is:List Nat) (hn:decide is.Nodup=true:=by exact rfl) (hb:is.all (fun i=>(L[i]?).isSome)=true:=by exact rfl):ST w0 M w (is.filterMap fun i=>L[i]?) R:=hS.sel is hn hb
theorem ST.sN (hS:ST w0 M w L R) (is:List Nat) (hn:decide is.Nodup=true:=by exact rfl) (hb:is.all (fun i=>(L[i]?).isSome)=true:=by exact rfl):ST w0 M w (is.filterMap fun i=>L[i]?) []:=ST.subR (hS.sel is hn hb) (fun _ h=>by cases h)
end
section
variable {P:Program} {n:Nat} {f:Nat→Value} {w0 w:World} {o:Oper} {M:List Nat} {L L':List Ob} {R:List Ro} {T T1:TypeId} {x y:Operand} {a b:Int}
theorem yl (B:Option Addr) (i:Nat) (cs:List Value) (v:Value) (hT:scalB P T=true) (hc:CF w B cs) (ho:o.op=.load T x:=by exact rfl) (hx:ev n f x=pt B i:=by exact rfl) (hk:cs[i]?=some v:=by exact rfl):Y P n f w o v:=Y_load1 hT ho hx hc hk
theorem ya (B:Option Addr) (i:Nat) (cs vs:List Value) {s:Nat} (hT:aggB P T=true) (hs:sizeB P T s=true) (hc:CF w B cs) (ho:o.op=.load T x:=by exact rfl) (hx:ev n f x=pt B i:=by exact rfl) (hl:vs.length=s:=by exact rfl) (hk:(cs.drop i).take s=vs:=by exact rfl):Y P n f w o (.agg vs.toArray):=Y_loadA hT hs ho hx hc hl hk
theorem yb (B:Option Addr) (i:Nat) (cs:List Value) {s:Nat} (hT:aggB P T=true) (hs:sizeB P T s=true) (hc:CF w B cs) (ho:o.op=.load T x:=by exact rfl) (hx:ev n f x=pt B i:=by exact rfl) (hl:cs.length=s:=by exact rfl) (hk:(cs.drop i).take s=cs:=by exact rfl):Y P n f w o (.agg cs.toArray):=Y_loadA hT hs ho hx hc hl hk
theorem yd (B:Option Addr) (i s:Nat) {j off ty:Nat} (hF:fieldB P T j off ty=true) (hs:sizeB P ty (s+1)=true) (ho:o.op=.fieldAddr T x j:=by exact rfl) (hx:ev n f x=pt B i:=by exact rfl):Y P n f w o (pt B (i+off)):=Y_fieldAddr hF hs ho hx
theorem ym (v:Value) (ho:o.op=.move x:=by exact rfl) (hx:ev n f x=v:=by exact rfl):Y P n f w o v:=Y_move ho hx
theorem yg (v:Value) (ho:o.op=.assign x:=by exact rfl) (hx:ev n f x=v:=by exact rfl):Y P n f w o v:=Y_assign ho hx
theorem yS (i s:Nat) (B:Option Addr) (T':TypeId) (v:Value) (vs:List Value) (k:Nat) (cs':List Value) {cs:List Value} {m:Nat} (hS:ST w0 M w L R) (hs:sizeB P T s=true) (ho:o.op=.store T x y:=by exact rfl) (hx:ev n f x=pt B k:=by exact rfl) (hy:ev n f y=v:=by exact rfl) (hv:v.cells.toList=vs:=by exact rfl)
    (hl:vs.length=s:=by exact rfl) (h1:one vs=true:=by exact rfl) (hi:L[i]?=some ⟨B,T',cs,m⟩:=by exact rfl) (hk:k+s≤cs.length:=by exact lB rfl) (hcs:splice cs k vs=cs':=by exact rfl) (hL:L.set i ⟨B,T',cs',m⟩=L':=by exact rfl):Ys P n f w o (fun v w'=>v=undef∧ST w0 M w' L' R):=Ys_store hS hs ho hx hy hv hl h1 hi hk hcs hL
theorem yT (i s:Nat) (B:Option Addr) (T':TypeId) (v:Value) (vs:List Value) (k:Nat) {cs:List Value} {m:Nat} (hS:ST w0 M w L R) (hs:sizeB P T s=true) (ho:o.op=.store T x y:=by exact rfl) (hx:ev n f x=pt B k:=by exact rfl) (hy:ev n f y=v:=by exact rfl) (hv:v.cells.toList=vs:=by exact rfl)
    (hl:vs.length=s:=by exact rfl) (h1:one vs=true:=by exact rfl) (hi:L[i]?=some ⟨B,T',cs,m⟩:=by exact rfl) (hk:k+s≤cs.length:=by exact lB rfl) (hcs:splice cs k vs=vs:=by exact rfl) (hL:L.set i ⟨B,T',vs,m⟩=L':=by exact rfl):Ys P n f w o (fun v w'=>v=undef∧ST w0 M w' L' R):=Ys_store hS hs ho hx hy hv hl h1 hi hk hcs hL
theorem yN (cs:List Value) (m:Nat) {z:Value} (hS:ST w0 M w L R) (hz:(P.info? T).map (·.zero)=some (some z)) (ho:o.op=.alloc T:=by exact rfl) (hc:z.cells.toList=cs:=by exact rfl) (hm:cs.length=m:=by exact rfl):Ys P n f w o (NewAt w0 M L R T cs m):=Ys_alloc hS hz ho hc hm
theorem yB (T:TypeId) (v:Value) (cs:List Value) (m:Nat) (hS:ST w0 M w L R) (ho:o.op=.box T x:=by exact rfl) (hx:ev n f x=v:=by exact rfl) (hc:v.cells.toList=cs:=by exact rfl) (hm:cs.length=m:=by exact rfl):Ys P n f w o (NewAt w0 M L R T cs m):=Ys_box hS ho hx hc hm
theorem ye (v:Value) {i:Nat} {vs:Array Value} (ho:o.op=.extract x i:=by exact rfl) (hx:ev n f x=.tuple vs:=by exact rfl) (hv:vs[i]?=some v:=by exact rfl):Y P n f w o v:=Y_extract ho hx hv
theorem yP (a b:Int) (ho:o.op=.binOp .add T x y T1:=by exact rfl) (hx:ev n f x=.int .i64 a:=by exact rfl) (hy:ev n f y=.int .i64 b:=by exact rfl):Y P n f w o (.int .i64 (IntKind.i64.wrap (a+b))):=Y_add ho hx hy
theorem yM (a b:Int) (ho:o.op=.binOp .sub T x y T1:=by exact rfl) (hx:ev n f x=.int .i64 a:=by exact rfl) (hy:ev n f y=.int .i64 b:=by exact rfl):Y P n f w o (.int .i64 (IntKind.i64.wrap (a-b))):=Y_sub ho hx hy
theorem yX (a b:Int) (ho:o.op=.binOp .mul T x y T1:=by exact rfl) (hx:ev n f x=.int .i64 a:=by exact rfl) (hy:ev n f y=.int .i64 b:=by exact rfl):Y P n f w o (.int .i64 (IntKind.i64.wrap (a*b))):=Y_mul ho hx hy
theorem yE (a b:Int) (ho:o.op=.binOp .eql T x y T1:=by exact rfl) (hx:ev n f x=.int .i64 a:=by exact rfl) (hy:ev n f y=.int .i64 b:=by exact rfl):Y P n f w o (.bool (a==b)):=Y_eq ho hx hy
theorem yL (a b:Int) (ho:o.op=.binOp .lss T x y T1:=by exact rfl) (hx:ev n f x=.int .i64 a:=by exact rfl) (hy:ev n f y=.int .i64 b:=by exact rfl):Y P n f w o (.bool (decide (a<b))):=Y_lt ho hx hy
theorem ST.c (hS:ST w0 M w L R) (i:Nat) {B:Option Addr} {T:TypeId} {cs:List Value} {m:Nat} (hi:L[i]?=some ⟨B,T,cs,m⟩:=by exact rfl):CF w B cs:=hS.cf hi
theorem FF.g {l:List (Nat×Value)} (h:FF f l) (t i:Nat) {v:Value} (hi:l[i]?=some (t,v):=by exact rfl):f t=v:=h.get t i hi
theorem yC {g:Nat} {args:Array Operand} {tys:Array TypeId} {R:Value→World→Prop} (vs:List Value) (hg:callB P g=true) (hc:CV P g vs.toArray w R) (ho:o.op=.call ⟨.value (.func g),args,tys⟩:=by exact rfl) (ha:args.toList.map (ev n f)=vs:=by repeat (first | exact mn | refine mc rfl ?_)):Yc P n f w o R:=Yc_func hg ho ha hc
theorem mt {α:Type} {l:List α} {x:α} (i:Nat) (h:l[i]?=some x:=by exact rfl):x∈l:=mem_at h
theorem sk {α:Type} {x:α} {l R:List α} (i:Nat) (h':∀ r∈l,r∈R) (h:R[i]?=some x:=by exact rfl):∀ r∈x::l,r∈R:=subc (mem_at h) h'
end
section
variable {P:Program} {n:Nat} {N:FW} {f:Nat→Value} {w0 w:World} {ops:Array Oper} {rest:List Oper} {o:Oper} {S:World→Prop}
theorem rS (t i:Nat) {rs:List Nat} {fuel:Nat} {listed:Array Bool} {S':Value→World→Prop} (hi:ops[i]?=some o) (h:Ys P n f w o S') (k:∀ v w',S' v w'→S w'∧RA P n ops N S fuel (listed.setIfInBounds i true) (upd f t v) w') (hrs:AllR P n ops N S fuel listed f w rs) (hg:o.guard=none:=by exact rfl) (hd:o.dst=some t:=by exact rfl):AllR P n ops N S fuel listed f w (i::rs):=ra_s t hi hg hd h k hrs
theorem rZ (i:Nat) {rs:List Nat} {fuel:Nat} {listed:Array Bool} {S':Value→World→Prop} (hi:ops[i]?=some o) (h:Ys P n f w o S') (k:∀ v w',S' v w'→S w'∧RA P n ops N S fuel (listed.setIfInBounds i true) f w') (hrs:AllR P n ops N S fuel listed f w rs) (hg:o.guard=none:=by exact rfl) (hd:o.dst=none:=by exact rfl):AllR P n ops N S fuel listed f w (i::rs):=ra_s0 hi hg hd h k hrs
theorem rC (t i:Nat) {rs:List Nat} {fuel:Nat} {listed:Array Bool} {S':Value→World→Prop} (hi:ops[i]?=some o) (h:Yc P n f w o S') (k:∀ v w',S' v w'→S w'∧RA P n ops N S fuel (listed.setIfInBounds i true) (upd f t v) w') (hrs:AllR P n ops N S fuel listed f w rs) (hg:o.guard=none:=by exact rfl) (hd:o.dst=some t:=by exact rfl):AllR P n ops N S fuel listed f w (i::rs):=ra_c t hi hg hd h k hrs
end
abbrev dT (i2:Nat):List UInt8:=List.drop (i2:Int).toNat (List.take (IntKind.i64.wrap ((i2:Int)+1)).toNat ([72,83]:List UInt8))
set_option linter.defProp false
def fc:=@FF.cons
def fn_:=@FF.nil
def cr:=@cw_region
def cq:=@cw_seq
def rn:=@rw_nil
def ct_:=@cw_ret
def sI:=@some_inj
def bI:=@bind_inv
def aN:=@allR_nil
section
variable {P:Program} {n:Nat} {N:FW} {f:Nat→Value} {w0 w:World} {ops:Array Oper} {rest:List Oper} {o:Oper} {S:World→Prop} {M:List Nat} {L:List Ob} {R:List Ro}
theorem ST.sR (hS:ST w0 M w L R) (k:Nat) (is:List Nat):ST w0 M w L ((is.filterMap fun i=>(R.take k)[i]?)++R.drop k):=ST.subR hS (fun r hr=>by
  rcases List.mem_append.1 hr with h | h
  · obtain ⟨i,_,hi⟩:=List.mem_filterMap.1 h
    exact List.mem_of_mem_take (List.mem_of_getElem? hi)
  · exact List.mem_of_mem_drop h)
theorem ST.sT (hS:ST w0 M w L R) (is:List Nat):ST w0 M w L (is.filterMap fun i=>R[i]?):=ST.subR hS (fun r hr=>by
  obtain ⟨i,_,hi⟩:=List.mem_filterMap.1 hr
  exact List.mem_of_getElem? hi)
theorem rG (i t:Nat) {j:Nat} {want B:Bool} {fuel:Nat} {listed:Array Bool} {v:Value} (hi:ops[i]?=some o) (hg:o.guard=some (j,want)) (hd:o.dst=some t) (hb:Wt (gd n f ops j) want B) (hS:S w) (hy:B=true→∀ w',S w'→Y P n f w' o v)
    (k:RA P n ops N S fuel (listed.setIfInBounds i true) (upd f t (gv B v)) w) (hs:Region.noSelect ops=true:=by kernel_rfl) (hf:Region.free .any ops listed i=true:=by kernel_rfl) (hr:(Region.ready .any ops listed).contains i=true:=by kernel_rfl):RA P n ops N S (fuel+1) listed f w:=ra_gq i t hi hg hd hb hs hf hr hS hy k
theorem FF.a {f':Nat→Value} {l l':List (Nat×Value)} (h:FF f l) (t i:Nat) {v:Value} (r:FF f' l') (hi:l[i]?=some (t,v):=by exact rfl) (he:f' t=f t:=by exact rfl):FF f' ((t,v)::l'):=FF.cons (he.trans (h.get t i hi)) r
end
theorem K108:sliceB Try.prog 22 5=true:=by kernel_rfl
theorem K48:(Try.prog.info? 25).map (·.zero)=some (some (.agg #[.int .i64 0,.slice none 0 0])):=by kernel_rfl
theorem K62:(Try.prog.info? 28).map (·.zero)=some (some (.agg #[.int .i64 0,.slice none 0 0])):=by kernel_rfl
theorem k_zero_51:(Try.prog.info? 51).map (·.zero)=some (some (.agg #[.slice none 0 0,.int .i64 0,.int .u64 0])):=by kernel_rfl
theorem k_pl_51:placesB Try.prog 51 [(0,1),(1,1),(2,1)]=true:=by kernel_rfl
theorem K107:fieldB Try.prog 51 1 1 3=true:=by kernel_rfl
theorem K0:sizeB Try.prog 3 1=true:=by kernel_rfl
theorem K1:scalB Try.prog 3=true:=by kernel_rfl
theorem K125:fieldB Try.prog 51 0 0 22=true:=by kernel_rfl
theorem K126:sizeB Try.prog 22 1=true:=by kernel_rfl
theorem K127:scalB Try.prog 22=true:=by kernel_rfl
theorem k_sz_5_1:sizeB Try.prog 5 1=true:=by kernel_rfl
theorem k_sc_5:scalB Try.prog 5=true:=by kernel_rfl
theorem k_us_5:(Try.prog.underlying 5).isSome=true:=by kernel_rfl
theorem K43:intB Try.prog 3 .i64=true:=by kernel_rfl
theorem K128:fieldB Try.prog 51 2 2 49=true:=by kernel_rfl
theorem K90:sizeB Try.prog 49 1=true:=by kernel_rfl
theorem K109:scalB Try.prog 49=true:=by kernel_rfl
theorem K110:(Try.prog.underlying 3).isSome=true:=by kernel_rfl
theorem K129:intB Try.prog 49 .u64=true:=by kernel_rfl
theorem k_us_49:(Try.prog.underlying 49).isSome=true:=by kernel_rfl
theorem k_call_41:callB Try.prog 41=true:=by kernel_rfl
theorem K17:callB Try.prog 18=true:=by kernel_rfl
theorem K101:callB Try.prog 16=true:=by kernel_rfl
theorem K2:sliceB Try.prog 29 3=true:=by kernel_rfl
theorem K30:(Try.prog.info? 3).map (fun i=>i.zero.map (fun z=>z.cells.toList))=some (some [.int .i64 0]):=by kernel_rfl
theorem k_pl_28:placesB Try.prog 28 [(0,1),(1,1)]=true:=by kernel_rfl
theorem K7:sizeB Try.prog 28 2=true:=by kernel_rfl
theorem K19:fieldB Try.prog 28 1 1 26=true:=by kernel_rfl
theorem K16:sizeB Try.prog 26 1=true:=by kernel_rfl
theorem K21:scalB Try.prog 26=true:=by kernel_rfl
theorem K38:(Try.prog.info? 56).map (·.zero)=some (some (.agg #[.int .i64 0,.int .i64 0,.int .i64 0])):=by kernel_rfl
theorem K91:placesB Try.prog 56 [(0,1),(1,1),(2,1)]=true:=by kernel_rfl
theorem K6:sizeB Try.prog 56 3=true:=by kernel_rfl
theorem K51:fieldB Try.prog 56 0 0 3=true:=by kernel_rfl
theorem K34:aggB Try.prog 56=true:=by kernel_rfl
theorem K44:fieldB Try.prog 56 1 1 3=true:=by kernel_rfl
theorem K61:callB Try.prog 70=true:=by kernel_rfl
theorem K52:fieldB Try.prog 56 2 2 3=true:=by kernel_rfl
theorem K12:sliceB Try.prog 26 56=true:=by kernel_rfl
theorem K78:(Try.prog.info? 56).map (fun i=>i.zero.map (fun z=>z.cells.toList))=some (some [.int .i64 0,.int .i64 0,.int .i64 0]):=by kernel_rfl
theorem K79:bytesB Try.prog 56 24=true:=by kernel_rfl
theorem k_call_40:callB Try.prog 40=true:=by kernel_rfl
theorem K14:aggB Try.prog 28=true:=by kernel_rfl
theorem K131:callB Try.prog 17=true:=by kernel_rfl
theorem K117:placesB Try.prog 25 [(0,1),(1,1)]=true:=by kernel_rfl
theorem K3:sizeB Try.prog 25 2=true:=by kernel_rfl
theorem K5:aggB Try.prog 25=true:=by kernel_rfl
theorem K45:fieldB Try.prog 25 1 1 23=true:=by kernel_rfl
theorem K39:sizeB Try.prog 23 1=true:=by kernel_rfl
theorem K59:scalB Try.prog 23=true:=by kernel_rfl
theorem K46:(Try.prog.info? 87).map (·.zero)=some (some (.agg #[.int .i64 0,.int .i64 0])):=by kernel_rfl
theorem K92:placesB Try.prog 87 [(0,1),(1,1)]=true:=by kernel_rfl
theorem K26:sliceB Try.prog 23 87=true:=by kernel_rfl
theorem K20:sizeB Try.prog 87 2=true:=by kernel_rfl
theorem K93:(Try.prog.info? 87).map (fun i=>i.zero.map (fun z=>z.cells.toList))=some (some [.int .i64 0,.int .i64 0]):=by kernel_rfl
theorem K94:bytesB Try.prog 87 16=true:=by kernel_rfl
theorem k_call_42:callB Try.prog 42=true:=by kernel_rfl
theorem k_call_43:callB Try.prog 43=true:=by kernel_rfl
theorem K95:(Try.prog.info? 82).map (·.zero)=some (some (.agg #[.int .i64 0,.int .i64 0])):=by kernel_rfl
theorem K100:arrB Try.prog 82 2 3=true:=by kernel_rfl
theorem K85:sliceB Try.prog 81 82=true:=by kernel_rfl
theorem K73:sizeB Try.prog 82 2=true:=by kernel_rfl
theorem k_zc_82:(Try.prog.info? 82).map (fun i=>i.zero.map (fun z=>z.cells.toList))=some (some ((List.replicate 2 0).flatMap encI)):=by kernel_rfl
theorem k_by_82_16:bytesB Try.prog 82 16=true:=by kernel_rfl
theorem K130:aggB Try.prog 82=true:=by kernel_rfl
theorem k_eg_82:Try.prog.eqGuardType Try.prog.depth 82=false:=by kernel_rfl
theorem k_call_44:callB Try.prog 44=true:=by kernel_rfl
theorem k_call_19:callB Try.prog 19=true:=by kernel_rfl
theorem K49:fieldB Try.prog 25 0 0 3=true:=by kernel_rfl
theorem K118:callB Try.prog 45=true:=by kernel_rfl
theorem K53:bytesB Try.prog 3 8=true:=by kernel_rfl
theorem K54:(Try.prog.info? 3).map (·.zero)=some (some (.int .i64 0)):=by kernel_rfl
theorem k_call_72:callB Try.prog 72=true:=by kernel_rfl
theorem k_call_71:callB Try.prog 71=true:=by kernel_rfl
theorem K60:fieldB Try.prog 28 0 0 3=true:=by kernel_rfl
theorem k_call_46:callB Try.prog 46=true:=by kernel_rfl
theorem k_call_20:callB Try.prog 20=true:=by kernel_rfl
theorem k_call_4:callB Try.prog 4=true:=by kernel_rfl
theorem K35:(Try.prog.info? 36).map (·.zero)=some (some (.agg #[.slice none 0 0,.slice none 0 0])):=by kernel_rfl
theorem K67:callB Try.prog 34=true:=by kernel_rfl
theorem k_call_94:callB Try.prog 94=true:=by kernel_rfl
theorem K112:callB Try.prog 31=true:=by kernel_rfl
theorem k_call_86:callB Try.prog 86=true:=by kernel_rfl
theorem k_call_85:callB Try.prog 85=true:=by kernel_rfl
theorem k_call_84:callB Try.prog 84=true:=by kernel_rfl
theorem k_call_59:callB Try.prog 59=true:=by kernel_rfl
theorem k_call_92:callB Try.prog 92=true:=by kernel_rfl
theorem k_call_73:callB Try.prog 73=true:=by kernel_rfl
theorem K81:aggB Try.prog 87=true:=by kernel_rfl
theorem K55:fieldB Try.prog 87 0 0 3=true:=by kernel_rfl
theorem K63:fieldB Try.prog 87 1 1 3=true:=by kernel_rfl
theorem k_call_68:callB Try.prog 68=true:=by kernel_rfl
theorem k_call_33:callB Try.prog 33=true:=by kernel_rfl
theorem K119:callB Try.prog 26=true:=by kernel_rfl
theorem k_call_47:callB Try.prog 47=true:=by kernel_rfl
theorem k_call_89:callB Try.prog 89=true:=by kernel_rfl
theorem k_call_65:callB Try.prog 65=true:=by kernel_rfl
theorem K115:callB Try.prog 30=true:=by kernel_rfl
theorem K70:placesB Try.prog 36 [(0,1),(1,1)]=true:=by kernel_rfl
theorem K13:sizeB Try.prog 36 2=true:=by kernel_rfl
theorem K32:aggB Try.prog 36=true:=by kernel_rfl
theorem K80:(Try.prog.info? 65).map (·.zero)=some (some (.agg #[.int .i64 0,.slice none 0 0,.int .i64 0,.slice none 0 0,.slice none 0 0,.slice none 0 0])):=by kernel_rfl
theorem K36:sliceB Try.prog 63 4=true:=by kernel_rfl
theorem K37:sizeB Try.prog 4 1=true:=by kernel_rfl
theorem K74:bytesB Try.prog 4 1=true:=by kernel_rfl
theorem K68:(Try.prog.info? 4).map (·.zero)=some (some (.bool false)):=by kernel_rfl
theorem K132:placesB Try.prog 65 [(0,2),(2,2),(4,1),(5,1)]=true:=by kernel_rfl
theorem K22:sizeB Try.prog 65 6=true:=by kernel_rfl
theorem K96:callB Try.prog 36=true:=by kernel_rfl
theorem K47:aggB Try.prog 65=true:=by kernel_rfl
theorem K142:callB Try.prog 35=true:=by kernel_rfl
theorem K42:(Try.prog.info? 89).map (·.zero)=some (some (.agg #[.int .i64 0,.slice none 0 0,.int .i64 0,.slice none 0 0,.slice none 0 0,.slice none 0 0,.slice none 0 0])):=by kernel_rfl
theorem K83:placesB Try.prog 89 [(0,6),(6,1)]=true:=by kernel_rfl
theorem K27:sizeB Try.prog 89 7=true:=by kernel_rfl
theorem K86:fieldB Try.prog 89 0 0 65=true:=by kernel_rfl
theorem K113:fieldB Try.prog 65 1 2 28=true:=by kernel_rfl
theorem K69:fieldB Try.prog 65 3 5 63=true:=by kernel_rfl
theorem K40:sizeB Try.prog 63 1=true:=by kernel_rfl
theorem K56:scalB Try.prog 63=true:=by kernel_rfl
theorem K97:scalB Try.prog 4=true:=by kernel_rfl
theorem k_call_99:callB Try.prog 99=true:=by kernel_rfl
theorem k_call_101:callB Try.prog 101=true:=by kernel_rfl
theorem k_call_100:callB Try.prog 100=true:=by kernel_rfl
theorem k_call_98:callB Try.prog 98=true:=by kernel_rfl
theorem k_call_93:callB Try.prog 93=true:=by kernel_rfl
theorem k_call_74:callB Try.prog 74=true:=by kernel_rfl
theorem k_fd_65_0_0_25:fieldB Try.prog 65 0 0 25=true:=by kernel_rfl
theorem K64:fieldB Try.prog 65 2 4 29=true:=by kernel_rfl
theorem K11:sizeB Try.prog 29 1=true:=by kernel_rfl
theorem K25:scalB Try.prog 29=true:=by kernel_rfl
theorem k_st_87:structB Try.prog 87 [(3,0),(3,1)]=true:=by kernel_rfl
theorem k_ho_87:Try.prog.stoodInHeld 87=false:=by kernel_rfl
theorem k_eg_87:Try.prog.eqGuardType Try.prog.depth 87=false:=by kernel_rfl
theorem k_call_97:callB Try.prog 97=true:=by kernel_rfl
theorem k_call_91:callB Try.prog 91=true:=by kernel_rfl
theorem K133:callB Try.prog 69=true:=by kernel_rfl
theorem K134:callB Try.prog 37=true:=by kernel_rfl
theorem K120:fieldB Try.prog 89 1 6 34=true:=by kernel_rfl
theorem K15:sizeB Try.prog 34 1=true:=by kernel_rfl
theorem K31:scalB Try.prog 34=true:=by kernel_rfl
theorem K23:(Try.prog.info? 60).map (·.zero)=some (some (.agg #[.int .i64 0,.int .i64 0,.int .i64 0])):=by kernel_rfl
theorem K82:placesB Try.prog 60 [(0,1),(1,1),(2,1)]=true:=by kernel_rfl
theorem K9:sliceB Try.prog 34 60=true:=by kernel_rfl
theorem K8:sizeB Try.prog 60 3=true:=by kernel_rfl
theorem K50:(Try.prog.info? 60).map (fun i=>i.zero.map (fun z=>z.cells.toList))=some (some [.int .i64 0,.int .i64 0,.int .i64 0]):=by kernel_rfl
theorem K41:bytesB Try.prog 60 24=true:=by kernel_rfl
theorem k_call_48:callB Try.prog 48=true:=by kernel_rfl
theorem K84:aggB Try.prog 89=true:=by kernel_rfl
theorem K135:(Try.prog.info? 92).map (·.zero)=some (some (.agg #[.int .i64 0,.int .i64 0,.int .i64 0,.int .i64 0,.int .i64 0,.int .u64 0])):=by kernel_rfl
theorem k_pl_92:placesB Try.prog 92 [(0,5),(5,1)]=true:=by kernel_rfl
theorem K121:sizeB Try.prog 92 6=true:=by kernel_rfl
theorem k_fd_92_0_0_90:fieldB Try.prog 92 0 0 90=true:=by kernel_rfl
theorem K136:sizeB Try.prog 90 5=true:=by kernel_rfl
theorem K137:arrB Try.prog 90 5 3=true:=by kernel_rfl
theorem k_fd_92_1_5_49:fieldB Try.prog 92 1 5 49=true:=by kernel_rfl
theorem K138:aggB Try.prog 92=true:=by kernel_rfl
theorem K71:sliceB Try.prog 95 89=true:=by kernel_rfl
theorem K87:(Try.prog.info? 89).map (fun i=>i.zero.map (fun z=>z.cells.toList))=some (some [.int .i64 0,.slice none 0 0,.int .i64 0,.slice none 0 0,.slice none 0 0,.slice none 0 0,.slice none 0 0]):=by kernel_rfl
theorem K98:callB Try.prog 49=true:=by kernel_rfl
theorem k_st_92:structB Try.prog 92 [(90,0),(49,5)]=true:=by kernel_rfl
theorem k_ho_92:Try.prog.stoodInHeld 92=false:=by kernel_rfl
theorem k_ag_90:aggB Try.prog 90=true:=by kernel_rfl
theorem K75:mapB Try.prog 94 92 4=true:=by kernel_rfl
theorem K139:Try.prog.underlying 4=some .bool:=by kernel_rfl
theorem k_call_75:callB Try.prog 75=true:=by kernel_rfl
theorem k_call_50:callB Try.prog 50=true:=by kernel_rfl
theorem K140:callB Try.prog 76=true:=by kernel_rfl
theorem K141:callB Try.prog 39=true:=by kernel_rfl
theorem K114:callB Try.prog 77=true:=by kernel_rfl
theorem k_call_51:callB Try.prog 51=true:=by kernel_rfl
theorem k_by_89_136:bytesB Try.prog 89 136=true:=by kernel_rfl
theorem k_call_21:callB Try.prog 21=true:=by kernel_rfl
theorem K29:fieldB Try.prog 36 1 1 34=true:=by kernel_rfl
theorem K88:aggB Try.prog 60=true:=by kernel_rfl
theorem K76:fieldB Try.prog 60 0 0 3=true:=by kernel_rfl
theorem k_call_52:callB Try.prog 52=true:=by kernel_rfl
theorem k_call_22:callB Try.prog 22=true:=by kernel_rfl
theorem k_call_5:callB Try.prog 5=true:=by kernel_rfl
theorem K143:callB Try.prog 78=true:=by kernel_rfl
theorem k_call_61:callB Try.prog 61=true:=by kernel_rfl
theorem k_call_87:callB Try.prog 87=true:=by kernel_rfl
theorem k_call_62:callB Try.prog 62=true:=by kernel_rfl
theorem K144:callB Try.prog 28=true:=by kernel_rfl
theorem k_call_53:callB Try.prog 53=true:=by kernel_rfl
theorem K148:callB Try.prog 54=true:=by kernel_rfl
theorem K57:sliceB Try.prog 101 29=true:=by kernel_rfl
theorem k_zc_29:(Try.prog.info? 29).map (fun i=>i.zero.map (fun z=>z.cells.toList))=some (some [.slice none 0 0]):=by kernel_rfl
theorem k_by_29_24:bytesB Try.prog 29 24=true:=by kernel_rfl
theorem k_zero_29:(Try.prog.info? 29).map (·.zero)=some (some (.slice none 0 0)):=by kernel_rfl
theorem K33:(Try.prog.info? 122).map (·.zero)=some (some (.agg #[.slice none 0 0,.slice none 0 0,.int .i64 0,.slice none 0 0])):=by kernel_rfl
theorem K65:placesB Try.prog 122 [(0,1),(1,1),(2,1),(3,1)]=true:=by kernel_rfl
theorem K89:fieldB Try.prog 122 1 1 63=true:=by kernel_rfl
theorem k_call_88:callB Try.prog 88=true:=by kernel_rfl
theorem K102:fieldB Try.prog 122 0 0 29=true:=by kernel_rfl
theorem K122:callB Try.prog 63=true:=by kernel_rfl
theorem k_call_64:callB Try.prog 64=true:=by kernel_rfl
theorem K145:callB Try.prog 56=true:=by kernel_rfl
theorem K146:fieldB Try.prog 122 3 3 34=true:=by kernel_rfl
theorem K123:aggB Try.prog 122=true:=by kernel_rfl
theorem K28:sizeB Try.prog 122 4=true:=by kernel_rfl
theorem K77:callB Try.prog 25=true:=by kernel_rfl
theorem K58:callB Try.prog 79=true:=by kernel_rfl
theorem K124:intB Try.prog 112 .u64=true:=by kernel_rfl
theorem K147:callB Try.prog 80=true:=by kernel_rfl
theorem K116:callB Try.prog 81=true:=by kernel_rfl
theorem K72:sliceB Try.prog 120 122=true:=by kernel_rfl
theorem k_zc_122:(Try.prog.info? 122).map (fun i=>i.zero.map (fun z=>z.cells.toList))=some (some [.slice none 0 0,.slice none 0 0,.int .i64 0,.slice none 0 0]):=by kernel_rfl
theorem k_by_122_80:bytesB Try.prog 122 80=true:=by kernel_rfl
theorem K66:fieldB Try.prog 36 0 0 29=true:=by kernel_rfl
theorem k_fd_122_2_2_3:fieldB Try.prog 122 2 2 3=true:=by kernel_rfl
theorem K99:callB Try.prog 58=true:=by kernel_rfl
theorem k_call_55:callB Try.prog 55=true:=by kernel_rfl
theorem k_call_23:callB Try.prog 23=true:=by kernel_rfl
theorem k_call_6:callB Try.prog 6=true:=by kernel_rfl
theorem k_call_82:callB Try.prog 82=true:=by kernel_rfl
theorem k_call_83:callB Try.prog 83=true:=by kernel_rfl
theorem k_call_57:callB Try.prog 57=true:=by kernel_rfl
theorem k_call_24:callB Try.prog 24=true:=by kernel_rfl
theorem k_call_7:callB Try.prog 7=true:=by kernel_rfl
theorem K105:fieldB Try.prog 60 1 1 3=true:=by kernel_rfl
theorem K106:fieldB Try.prog 60 2 2 3=true:=by kernel_rfl
theorem k_call_60:callB Try.prog 60=true:=by kernel_rfl
theorem k_call_27:callB Try.prog 27=true:=by kernel_rfl
theorem K149:callB Try.prog 8=true:=by kernel_rfl
theorem k_call_29:callB Try.prog 29=true:=by kernel_rfl
theorem k_call_9:callB Try.prog 9=true:=by kernel_rfl
theorem k_call_10:callB Try.prog 10=true:=by kernel_rfl
theorem k_call_96:callB Try.prog 96=true:=by kernel_rfl
theorem k_call_90:callB Try.prog 90=true:=by kernel_rfl
theorem k_us_112:(Try.prog.underlying 112).isSome=true:=by kernel_rfl
theorem k_call_66:callB Try.prog 66=true:=by kernel_rfl
theorem k_call_67:callB Try.prog 67=true:=by kernel_rfl
theorem k_call_32:callB Try.prog 32=true:=by kernel_rfl
theorem k_call_11:callB Try.prog 11=true:=by kernel_rfl
theorem k_call_12:callB Try.prog 12=true:=by kernel_rfl
theorem k_call_13:callB Try.prog 13=true:=by kernel_rfl
theorem k_call_14:callB Try.prog 14=true:=by kernel_rfl
theorem k_call_38:callB Try.prog 38=true:=by kernel_rfl
theorem k_call_15:callB Try.prog 15=true:=by kernel_rfl
theorem k_int_5_u8:intB Try.prog 5 .u8=true:=by kernel_rfl
end Go.VK
