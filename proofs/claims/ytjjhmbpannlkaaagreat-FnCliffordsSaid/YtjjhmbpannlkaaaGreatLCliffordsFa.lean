/- Closed facts on the types. -/
import Derived.Test.YtjjhmbpannlkaaaGreatLCliffordsFn
import Derived.Test.YtjjhmbpannlkaaaGreatChecked
namespace Go.VK
open Go.RowKit
open Go.Proofs
abbrev vi (x:Int):Value:=.int .i64 x
abbrev aD (b:Nat):Option Addr:=some ⟨b,0,none⟩
abbrev kD_ (x:Ad):List Value:=[vi x.Num.A,vi x.Num.B,vi x.Num.C,vi x.Num.D,vi x.Exp]
abbrev gD_ (x:Ad):Value:=.agg #[vi x.Num.A,vi x.Num.B,vi x.Num.C,vi x.Num.D,vi x.Exp]
abbrev kR_ (x:Ac):List Value:=[vi x.A,vi x.B,vi x.C,vi x.D]
abbrev gR_ (x:Ac):Value:=.agg #[vi x.A,vi x.B,vi x.C,vi x.D]
abbrev kM_ (m:Ag) (B:Option Addr) (c:Nat):List Value:=[vi m.Rows,vi m.Cols,.slice B m.Cells.length c]
abbrev gM_ (m:Ag) (B:Option Addr) (c:Nat):Value:=.agg #[vi m.Rows,vi m.Cols,.slice B m.Cells.length c]
abbrev kZ_:List Value:=[vi 0,vi 0,vi 0,vi 0,vi 0]
abbrev gZ_:Value:=.agg #[vi 0,vi 0,vi 0,vi 0,vi 0]
abbrev kN_:List Value:=[vi 0,vi 0,.slice none 0 0]
abbrev gN_:Value:=.agg #[vi 0,vi 0,.slice none 0 0]
theorem lB {n m:Nat} (h:Nat.ble n m=true):n≤m:=Nat.le_of_ble_eq_true h
theorem mAr {α:Type} {b:α} {xs:List α} (ys:List α) (h:b∈xs):b∈ys++xs:=List.mem_append_right ys h
theorem mAl {α:Type} {b:α} {xs:List α} (ys:List α) (h:b∈xs):b∈xs++ys:=List.mem_append_left ys h
theorem mOd {α:Type} {b:α} {i:Nat} {xs:List α} (h:b∈xs.drop i):b∈xs:=List.mem_of_mem_drop h
section
variable {P:Program} {n:Nat} {N:FW} {f:Nat→Value} {w0 w:World} {ops:Array Oper} {rest:List Oper} {o:Oper} {S:World→Prop} {M:List Nat} {L:List Ob} {R:List Ro}
theorem rq (i t:Nat) {fuel:Nat} {listed:Array Bool} {v:Value} (hi:ops[i]?=some o) (hS:S w) (hy:∀ w',S w'→Y P n f w' o v) (k:RA P n ops N S fuel (listed.setIfInBounds i true) (upd f t v) w)
    (hg:o.guard=none:=by exact rfl) (hd:o.dst=some t:=by exact rfl) (hs:Region.noSelect ops=true:=by kernel_rfl) (hf:Region.free .any ops listed i=true:=by kernel_rfl)
    (hr:(Region.ready .any ops listed).contains i=true:=by kernel_rfl):RA P n ops N S (fuel+1) listed f w:=ra_q i t hi hg hd hs hf hr hS hy k
theorem rA (rs:List Nat) {fuel:Nat} {listed:Array Bool} (h:AllR P n ops N S fuel listed f w rs) (hr:Region.ready .any ops listed=rs:=by kernel_rfl) (hne:rs.isEmpty=false:=by exact rfl):RA P n ops N S (fuel+1) listed f w:=ra_all hr hne h
theorem sQ (t:Nat) {v:Value} (h:Y P n f w o v) (k:RW P n ops N rest (upd f t v) w) (hg:o.guard=none:=by exact rfl) (hd:o.dst=some t:=by exact rfl):RW P n ops N (o::rest) f w:=sq t hg hd h k
theorem uT_ {j:Nat} (t:Nat) {b:Bool} (h:(ops.toList[j]?).bind (·.dst)=some t:=by kernel_rfl) (hb:ev n f (.tmp t)=.bool b:=by exact rfl):Wt (gd n f ops j) true b:=wt_t (gd_of h hb)
theorem uF_ {j:Nat} (t:Nat) {b:Bool} (h:(ops.toList[j]?).bind (·.dst)=some t:=by kernel_rfl) (hb:ev n f (.tmp t)=.bool b:=by exact rfl):Wt (gd n f ops j) false (!b):=wt_f (gd_of h hb)
theorem s0 {S:Value→World→Prop} (h:Ys P n f w o S) (k:∀ v w',S v w'→RW P n ops N rest f w') (hg:o.guard=none:=by exact rfl) (hd:o.dst=none:=by exact rfl):RW P n ops N (o::rest) f w:=ss0 hg hd h k
theorem sS (t:Nat) {S:Value→World→Prop} (h:Ys P n f w o S) (k:∀ v w',S v w'→RW P n ops N rest (upd f t v) w') (hg:o.guard=none:=by exact rfl) (hd:o.dst=some t:=by exact rfl):RW P n ops N (o::rest) f w:=ss t hg hd h k
theorem ST.se (hS:ST w0 M w L R) (is:List Nat) (hn:decide is.Nodup=true:=by exact rfl) (hb:is.all (fun i=>(L[i]?).isSome)=true:=by exact rfl):ST w0 M w (is.filterMap fun i=>L[i]?) R:=hS.sel is hn hb
theorem ST.sN (hS:ST w0 M w L R) (is:List Nat) (hn:decide is.Nodup=true:=by exact rfl) (hb:is.all (fun i=>(L[i]?).isSome)=true:=by exact rfl):ST w0 M w (is.filterMap fun i=>L[i]?) []:=ST.subR (hS.sel is hn hb) (fun _ h=>by cases h)
end
section
variable {P:Program} {n:Nat} {f:Nat→Value} {w0 w:World} {o:Oper} {M:List Nat} {L L':List Ob} {R:List Ro} {T T1:TypeId} {x y:Operand} {a b:Int}
theorem yl (B:Option Addr) (i:Nat) (cs:List Value) (v:Value) (hT:scalB P T=true) (hc:CF w B cs) (ho:o.op=.load T x:=by exact rfl) (hx:ev n f x=pt B i:=by exact rfl) (hk:cs[i]?=some v:=by exact rfl):Y P n f w o v:=Y_load1 hT ho hx hc hk
theorem ya (B:Option Addr) (i:Nat) (cs vs:List Value) {s:Nat} (hT:aggB P T=true) (hs:sizeB P T s=true) (hc:CF w B cs) (ho:o.op=.load T x:=by exact rfl) (hx:ev n f x=pt B i:=by exact rfl) (hl:vs.length=s:=by exact rfl) (hk:(cs.drop i).take s=vs:=by exact rfl):Y P n f w o (.agg vs.toArray):=Y_loadA hT hs ho hx hc hl hk
theorem yb (B:Option Addr) (i:Nat) (cs:List Value) {s:Nat} (hT:aggB P T=true) (hs:sizeB P T s=true) (hc:CF w B cs) (ho:o.op=.load T x:=by exact rfl) (hx:ev n f x=pt B i:=by exact rfl) (hl:cs.length=s:=by exact rfl) (hk:(cs.drop i).take s=cs:=by exact rfl):Y P n f w o (.agg cs.toArray):=Y_loadA hT hs ho hx hc hl hk
theorem yd (B:Option Addr) (i s:Nat) {j off ty:Nat} (hF:fieldB P T j off ty=true) (hs:sizeB P ty (s+1)=true) (ho:o.op=.fieldAddr T x j:=by exact rfl) (hx:ev n f x=pt B i:=by exact rfl):Y P n f w o (pt B (i+off)):=Y_fieldAddr hF hs ho hx
theorem ym (v:Value) (ho:o.op=.move x:=by exact rfl) (hx:ev n f x=v:=by exact rfl):Y P n f w o v:=Y_move ho hx
theorem yg (v:Value) (ho:o.op=.assign x:=by exact rfl) (hx:ev n f x=v:=by exact rfl):Y P n f w o v:=Y_assign ho hx
theorem yS (i s:Nat) (B:Option Addr) (T':TypeId) (v:Value) (vs:List Value) (k:Nat) (cs':List Value) {cs:List Value} {m:Nat} (hS:ST w0 M w L R) (hs:sizeB P T s=true) (ho:o.op=.store T x y:=by exact rfl) (hx:ev n f x=pt B k:=by exact rfl) (hy:ev n f y=v:=by exact rfl) (hv:v.cells.toList=vs:=by exact rfl)
    (hl:vs.length=s:=by exact rfl) (h1:one vs=true:=by exact rfl) (hi:L[i]?=some ⟨B,T',cs,m⟩:=by exact rfl) (hk:k+s≤cs.length:=by exact lB rfl) (hcs:splice cs k vs=cs':=by exact rfl) (hL:L.set i ⟨B,T',cs',m⟩=L':=by exact rfl):Ys P n f w o (fun v w'=>v=undef∧ST w0 M w' L' R):=Ys_store hS hs ho hx hy hv hl h1 hi hk hcs hL
theorem yT (i s:Nat) (B:Option Addr) (T':TypeId) (v:Value) (vs:List Value) (k:Nat) {cs:List Value} {m:Nat} (hS:ST w0 M w L R) (hs:sizeB P T s=true) (ho:o.op=.store T x y:=by exact rfl) (hx:ev n f x=pt B k:=by exact rfl) (hy:ev n f y=v:=by exact rfl) (hv:v.cells.toList=vs:=by exact rfl)
    (hl:vs.length=s:=by exact rfl) (h1:one vs=true:=by exact rfl) (hi:L[i]?=some ⟨B,T',cs,m⟩:=by exact rfl) (hk:k+s≤cs.length:=by exact lB rfl) (hcs:splice cs k vs=vs:=by exact rfl) (hL:L.set i ⟨B,T',vs,m⟩=L':=by exact rfl):Ys P n f w o (fun v w'=>v=undef∧ST w0 M w' L' R):=Ys_store hS hs ho hx hy hv hl h1 hi hk hcs hL
theorem yN (cs:List Value) (m:Nat) {z:Value} (hS:ST w0 M w L R) (hz:(P.info? T).map (·.zero)=some (some z)) (ho:o.op=.alloc T:=by exact rfl) (hc:z.cells.toList=cs:=by exact rfl) (hm:cs.length=m:=by exact rfl):Ys P n f w o (NewAt w0 M L R T cs m):=Ys_alloc hS hz ho hc hm
theorem yB (T:TypeId) (v:Value) (cs:List Value) (m:Nat) (hS:ST w0 M w L R) (ho:o.op=.box T x:=by exact rfl) (hx:ev n f x=v:=by exact rfl) (hc:v.cells.toList=cs:=by exact rfl) (hm:cs.length=m:=by exact rfl):Ys P n f w o (NewAt w0 M L R T cs m):=Ys_box hS ho hx hc hm
theorem ye (v:Value) {i:Nat} {vs:Array Value} (ho:o.op=.extract x i:=by exact rfl) (hx:ev n f x=.tuple vs:=by exact rfl) (hv:vs[i]?=some v:=by exact rfl):Y P n f w o v:=Y_extract ho hx hv
theorem yP (a b:Int) (ho:o.op=.binOp .add T x y T1:=by exact rfl) (hx:ev n f x=.int .i64 a:=by exact rfl) (hy:ev n f y=.int .i64 b:=by exact rfl):Y P n f w o (.int .i64 (IntKind.i64.wrap (a+b))):=Y_add ho hx hy
theorem yM (a b:Int) (ho:o.op=.binOp .sub T x y T1:=by exact rfl) (hx:ev n f x=.int .i64 a:=by exact rfl) (hy:ev n f y=.int .i64 b:=by exact rfl):Y P n f w o (.int .i64 (IntKind.i64.wrap (a-b))):=Y_sub ho hx hy
theorem yX (a b:Int) (ho:o.op=.binOp .mul T x y T1:=by exact rfl) (hx:ev n f x=.int .i64 a:=by exact rfl) (hy:ev n f y=.int .i64 b:=by exact rfl):Y P n f w o (.int .i64 (IntKind.i64.wrap (a*b))):=Y_mul ho hx hy
theorem yE (a b:Int) (ho:o.op=.binOp .eql T x y T1:=by exact rfl) (hx:ev n f x=.int .i64 a:=by exact rfl) (hy:ev n f y=.int .i64 b:=by exact rfl):Y P n f w o (.bool (a==b)):=Y_eq ho hx hy
theorem yL (a b:Int) (ho:o.op=.binOp .lss T x y T1:=by exact rfl) (hx:ev n f x=.int .i64 a:=by exact rfl) (hy:ev n f y=.int .i64 b:=by exact rfl):Y P n f w o (.bool (decide (a<b))):=Y_lt ho hx hy
theorem yI (B:Option Addr) (i:Int) {m c e s:Nat} (hT:sliceB P T e=true) (hs:sizeB P e s=true) (hB:B.isSome=true) (h0:0≤i) (h1:i<m) (ho:o.op=.indexAddr T x y:=by exact rfl) (hx:ev n f x=.slice B m c:=by exact rfl) (hy:ev n f y=.int .i64 i:=by exact rfl):Y P n f w o (pt B (i.toNat*s)):=Y_index hT hs ho hx hy hB h0 h1
theorem ST.c (hS:ST w0 M w L R) (i:Nat) {B:Option Addr} {T:TypeId} {cs:List Value} {m:Nat} (hi:L[i]?=some ⟨B,T,cs,m⟩:=by exact rfl):CF w B cs:=hS.cf hi
theorem FF.g {l:List (Nat×Value)} (h:FF f l) (t i:Nat) {v:Value} (hi:l[i]?=some (t,v):=by exact rfl):f t=v:=h.get t i hi
theorem yC {g:Nat} {args:Array Operand} {tys:Array TypeId} {R:Value→World→Prop} (vs:List Value) (hg:callB P g=true) (hc:CV P g vs.toArray w R) (ho:o.op=.call ⟨.value (.func g),args,tys⟩:=by exact rfl) (ha:args.toList.map (ev n f)=vs:=by repeat (first | exact mn | refine mc rfl ?_)):Yc P n f w o R:=Yc_func hg ho ha hc
theorem mt {α:Type} {l:List α} {x:α} (i:Nat) (h:l[i]?=some x:=by exact rfl):x∈l:=mem_at h
theorem sk {α:Type} {x:α} {l R:List α} (i:Nat) (h':∀ r∈l,r∈R) (h:R[i]?=some x:=by exact rfl):∀ r∈x::l,r∈R:=subc (mem_at h) h'
end
section
variable {P:Program} {n:Nat} {N:FW} {f:Nat→Value} {w0 w:World} {ops:Array Oper} {rest:List Oper} {o:Oper} {S:World→Prop}
theorem rS (t i:Nat) {rs:List Nat} {fuel:Nat} {listed:Array Bool} {S':Value→World→Prop} (hi:ops[i]?=some o) (h:Ys P n f w o S') (k:∀ v w',S' v w'→S w'∧RA P n ops N S fuel (listed.setIfInBounds i true) (upd f t v) w') (hrs:AllR P n ops N S fuel listed f w rs) (hg:o.guard=none:=by exact rfl) (hd:o.dst=some t:=by exact rfl):AllR P n ops N S fuel listed f w (i::rs):=ra_s t hi hg hd h k hrs
theorem ry (t i:Nat) {rs:List Nat} {fuel:Nat} {listed:Array Bool} {v:Value} (hi:ops[i]?=some o) (h:Y P n f w o v) (hS:S w) (k:RA P n ops N S fuel (listed.setIfInBounds i true) (upd f t v) w) (hrs:AllR P n ops N S fuel listed f w rs) (hg:o.guard=none:=by exact rfl) (hd:o.dst=some t:=by exact rfl):AllR P n ops N S fuel listed f w (i::rs):=ra_y t hi hg hd h hS k hrs
theorem rZ (i:Nat) {rs:List Nat} {fuel:Nat} {listed:Array Bool} {S':Value→World→Prop} (hi:ops[i]?=some o) (h:Ys P n f w o S') (k:∀ v w',S' v w'→S w'∧RA P n ops N S fuel (listed.setIfInBounds i true) f w') (hrs:AllR P n ops N S fuel listed f w rs) (hg:o.guard=none:=by exact rfl) (hd:o.dst=none:=by exact rfl):AllR P n ops N S fuel listed f w (i::rs):=ra_s0 hi hg hd h k hrs
theorem rC (t i:Nat) {rs:List Nat} {fuel:Nat} {listed:Array Bool} {S':Value→World→Prop} (hi:ops[i]?=some o) (h:Yc P n f w o S') (k:∀ v w',S' v w'→S w'∧RA P n ops N S fuel (listed.setIfInBounds i true) (upd f t v) w') (hrs:AllR P n ops N S fuel listed f w rs) (hg:o.guard=none:=by exact rfl) (hd:o.dst=some t:=by exact rfl):AllR P n ops N S fuel listed f w (i::rs):=ra_c t hi hg hd h k hrs
end
abbrev lH (B:Option Addr) (c:Nat) (r:List Ad):List (Hd×List Ad):=[((B,c),r)]
abbrev dT (i2:Nat):List UInt8:=List.drop (i2:Int).toNat (List.take (IntKind.i64.wrap ((i2:Int)+1)).toNat ([72,83]:List UInt8))
set_option linter.defProp false
def fc:=@FF.cons
def fn_:=@FF.nil
def cr:=@cw_region
def cq:=@cw_seq
def rn:=@rw_nil
def ct_:=@cw_ret
def sI:=@some_inj
def bI:=@bind_inv
def aN:=@allR_nil
section
variable {P:Program} {n:Nat} {N:FW} {f:Nat→Value} {w0 w:World} {ops:Array Oper} {rest:List Oper} {o:Oper} {S:World→Prop} {M:List Nat} {L:List Ob} {R:List Ro}
theorem ST.sR (hS:ST w0 M w L R) (k:Nat) (is:List Nat):ST w0 M w L ((is.filterMap fun i=>(R.take k)[i]?)++R.drop k):=ST.subR hS (fun r hr=>by
  rcases List.mem_append.1 hr with h | h
  · obtain ⟨i,_,hi⟩:=List.mem_filterMap.1 h
    exact List.mem_of_mem_take (List.mem_of_getElem? hi)
  · exact List.mem_of_mem_drop h)
theorem ST.sT (hS:ST w0 M w L R) (is:List Nat):ST w0 M w L (is.filterMap fun i=>R[i]?):=ST.subR hS (fun r hr=>by
  obtain ⟨i,_,hi⟩:=List.mem_filterMap.1 hr
  exact List.mem_of_getElem? hi)
theorem rG (i t:Nat) {j:Nat} {want B:Bool} {fuel:Nat} {listed:Array Bool} {v:Value} (hi:ops[i]?=some o) (hg:o.guard=some (j,want)) (hd:o.dst=some t) (hb:Wt (gd n f ops j) want B) (hS:S w) (hy:B=true→∀ w',S w'→Y P n f w' o v)
    (k:RA P n ops N S fuel (listed.setIfInBounds i true) (upd f t (gv B v)) w) (hs:Region.noSelect ops=true:=by kernel_rfl) (hf:Region.free .any ops listed i=true:=by kernel_rfl) (hr:(Region.ready .any ops listed).contains i=true:=by kernel_rfl):RA P n ops N S (fuel+1) listed f w:=ra_gq i t hi hg hd hb hs hf hr hS hy k
theorem FF.a {f':Nat→Value} {l l':List (Nat×Value)} (h:FF f l) (t i:Nat) {v:Value} (r:FF f' l') (hi:l[i]?=some (t,v):=by exact rfl) (he:f' t=f t:=by exact rfl):FF f' ((t,v)::l'):=FF.cons (he.trans (h.get t i hi)) r
end
section
variable {P:Program} {n:Nat} {N:FW} {f:Nat→Value} {w:World} {ops:Array Oper} {o:Oper} {S:World→Prop}
theorem r1 (t i:Nat) {fuel:Nat} {listed:Array Bool} {v:Value} (hi:ops[i]?=some o) (h:Y P n f w o v) (hS:S w) (k:RA P n ops N S fuel (listed.setIfInBounds i true) (upd f t v) w) (hr:Region.ready .any ops listed=[i]:=by kernel_rfl) (hg:o.guard=none:=by exact rfl) (hd:o.dst=some t:=by exact rfl):RA P n ops N S (fuel+1) listed f w:=ra_all hr rfl (ra_y t hi hg hd h hS k trivial)
end
section
variable {P:Program} {n:Nat} {N:FW} {f:Nat→Value} {w:World} {o:Oper} {T T1 T':TypeId} {x y c:Operand} {a b:Int}
theorem yz (i:Nat) {B:Option Addr} {cs:List Value} {v:Value} (hT:scalB P T=true) (hc:CF w B cs) (ho:o.op=.load T x:=by exact rfl) (hx:ev n f x=pt B i:=by exact rfl) (hk:cs[i]?=some v:=by exact rfl):Y P n f w o v:=Y_load1 hT ho hx hc hk
theorem yw (i:Nat) {B:Option Addr} {cs:List Value} {s:Nat} (hT:aggB P T=true) (hs:sizeB P T s=true) (hc:CF w B cs) (ho:o.op=.load T x:=by exact rfl) (hx:ev n f x=pt B i:=by exact rfl) (hl:cs.length=s:=by exact rfl) (hk:(cs.drop i).take s=cs:=by exact rfl):Y P n f w o (.agg cs.toArray):=Y_loadA hT hs ho hx hc hl hk
theorem yc {g:Nat} {args:Array Operand} {tys:Array TypeId} {R:Value→World→Prop} {vs:List Value} (hg:callB P g=true) (hc:CV P g vs.toArray w R) (ho:o.op=.call ⟨.value (.func g),args,tys⟩:=by exact rfl) (ha:args.toList.map (ev n f)=vs:=by repeat (first | exact mn | refine mc rfl ?_)):Yc P n f w o R:=Yc_func hg ho ha hc
theorem yA {b z:Bool} (ho:o.op=.pick c x y:=by exact rfl) (hc:ev n f c=.bool b:=by exact rfl) (hx:ev n f x=gv b (.bool z):=by exact rfl) (hy:ev n f y=.bool false:=by exact rfl):Y P n f w o (.bool (b&&z)):=Y_and ho hc hx hy
theorem yO {b z:Bool} (ho:o.op=.pick c x y:=by exact rfl) (hc:ev n f c=.bool b:=by exact rfl) (hx:ev n f x=.bool true:=by exact rfl) (hy:ev n f y=gv (!b) (.bool z):=by exact rfl):Y P n f w o (.bool (b||z)):=Y_or ho hc hx hy
theorem yn {p:Bool} (ho:o.op=.unOp .not T x:=by exact rfl) (hx:ev n f x=.bool p:=by exact rfl):Y P n f w o (.bool (!p)):=Y_not ho hx
theorem yv {v:Value} (ho:o.op=.move x:=by exact rfl) (hx:ev n f x=v:=by exact rfl):Y P n f w o v:=Y_move ho hx
theorem yu {v:Value} (ho:o.op=.assign x:=by exact rfl) (hx:ev n f x=v:=by exact rfl):Y P n f w o v:=Y_assign ho hx
theorem zE (ho:o.op=.binOp .eql T x y T1:=by exact rfl) (hx:ev n f x=.int .i64 a:=by exact rfl) (hy:ev n f y=.int .i64 b:=by exact rfl):Y P n f w o (.bool (a==b)):=Y_eq ho hx hy
theorem zL (ho:o.op=.binOp .lss T x y T1:=by exact rfl) (hx:ev n f x=.int .i64 a:=by exact rfl) (hy:ev n f y=.int .i64 b:=by exact rfl):Y P n f w o (.bool (decide (a<b))):=Y_lt ho hx hy
theorem zP (ho:o.op=.binOp .add T x y T1:=by exact rfl) (hx:ev n f x=.int .i64 a:=by exact rfl) (hy:ev n f y=.int .i64 b:=by exact rfl):Y P n f w o (.int .i64 (IntKind.i64.wrap (a+b))):=Y_add ho hx hy
theorem zM (ho:o.op=.binOp .sub T x y T1:=by exact rfl) (hx:ev n f x=.int .i64 a:=by exact rfl) (hy:ev n f y=.int .i64 b:=by exact rfl):Y P n f w o (.int .i64 (IntKind.i64.wrap (a-b))):=Y_sub ho hx hy
theorem zX (ho:o.op=.binOp .mul T x y T1:=by exact rfl) (hx:ev n f x=.int .i64 a:=by exact rfl) (hy:ev n f y=.int .i64 b:=by exact rfl):Y P n f w o (.int .i64 (IntKind.i64.wrap (a*b))):=Y_mul ho hx hy
end
section
variable {P:Program} {n:Nat} {f:Nat→Value} {w0 w:World} {o:Oper} {M:List Nat} {L L':List Ob} {R:List Ro} {T e:TypeId} {x y:Operand}
theorem aP {α:Type} {enc:α→List Value} (s b i:Nat) (l l':List α) {c c2:Nat} {z:Value} {B X:Option Addr} (hS:ST w0 M w L R) (hT:sliceB P T e=true) (hs:sizeB P e s=true) (hby:bytesB P e b=true) (hz:(P.info? e).map (·.zero)=some (some z)) (hE:∀ x,(enc x).length=s) (h1:∀ x,one (enc x)=true) (hX:CF w X (l'.flatMap enc)) (hap:l.length+l'.length≤1099511627776)
    (ho:o.op=.call ⟨.builtin .append,#[x,y],#[T,T]⟩:=by exact rfl) (hx:ev n f x=.slice B l.length c:=by exact rfl) (hy:ev n f y=.slice X l'.length c2:=by exact rfl) (hi:L[i]?=some ⟨B,e,l.flatMap enc,c*s⟩:=by exact rfl) (hzs:z.cells.size=s:=by exact rfl) (hs0:0<s:=by decide) (hb:Nat.ble (1099511627776*b) 140737488355328=true:=by exact rfl):Ys P n f w o (AppAt w0 M L R i e ((l++l').flatMap enc) s (l++l').length) :=
  Ys_append hS hT hs hby hz hzs hs0 ho hx hy hi (fm_lenn hE rfl) rfl hX (fm_lenn hE rfl) (fm_one' h1 _) (Nat.le_trans (Nat.mul_le_mul_right b hap) (Nat.le_of_ble_eq_true hb)) (Nat.le_trans hap (by unfold maxLen; decide)) (fm_app _ _) (app_len rfl rfl)
theorem yF (s len:Nat) (cs:List Value) (m:Nat) {z:List Value} {parts:Array (Nat×Operand)} {vs:List (Nat×Value)} {zs:List Value} (hS:ST w0 M w L R) (hT:sliceB P T e=true) (hs:sizeB P e s=true) (hz:(P.info? e).map (fun i=>i.zero.map (fun z=>z.cells.toList))=some (some z)) (ho:o.op=.buildSlice T len parts) (hp:parts.toList.map (fun p=>(p.1,ev n f p.2))=vs)
    (hsm:Nat.ble (len*s) 16777216=true:=by exact rfl) (h0:Nat.beq (len*s) 0=false:=by exact rfl) (hzl:z.length=s:=by exact rfl) (hzs:(List.replicate len ()).flatMap (fun _=>z)=zs:=by exact rfl) (hf:fillL (fun i=>some (i*s,s)) zs vs=some cs:=by exact rfl) (hm:cs.length=m:=by exact rfl):Ys P n f w o (MadeAt w0 M L R e cs m len len):=Ys_bslice hS hT hs hz ho hp hsm h0 hzl hzs hf hm
theorem yK (i s k:Nat) {B:Option Addr} {T':TypeId} {v:Value} {vs cs:List Value} {m:Nat} (hS:ST w0 M w L R) (hs:sizeB P T s=true) (ho:o.op=.store T x y:=by exact rfl) (hx:ev n f x=pt B k:=by exact rfl) (hy:ev n f y=v:=by exact rfl) (hv:v.cells.toList=vs:=by exact rfl)
    (hl:vs.length=s:=by exact rfl) (h1:one vs=true:=by exact rfl) (hi:L[i]?=some ⟨B,T',cs,m⟩:=by exact rfl) (hk:k+s≤cs.length:=by exact lB rfl) (hcs:splice cs k vs=vs:=by exact rfl) (hL:L.set i ⟨B,T',vs,m⟩=L':=by exact rfl):Ys P n f w o (fun v w'=>v=undef∧ST w0 M w' L' R):=Ys_store hS hs ho hx hy hv hl h1 hi hk hcs hL
theorem yV (cs:List Value) (m:Nat) (hS:ST w0 M w L R) (ho:o.op=.box T x:=by exact rfl) (hx:ev n f x=.agg cs.toArray:=by exact rfl) (hc:(Value.agg cs.toArray).cells.toList=cs:=by exact rfl) (hm:cs.length=m:=by exact rfl):Ys P n f w o (NewAt w0 M L R T cs m):=Ys_box hS ho hx hc hm
theorem rX {t s:Nat} {B:Option Addr} {cs:List Value} (hT:aggB P T=true) (hs:sizeB P T s=true) (hc:CF w B cs) (hp:ev n f (.tmp t)=pt B 0:=by exact rfl) (hl:cs.length=s:=by exact rfl) (hk:(cs.drop 0).take s=cs:=by exact rfl):resAt P f n w (.cell t T) (.agg cs.toArray):=resAt_cellA hp hT hs hc hl hk
end
section
variable {P:Program} {f:Nat→Value} {n:Nat} {w:World} {fn:Func} {A:World→Prop} {s t u:Nat} {x y z:Value}
theorem uG_ {ops:Array Oper} {j:Nat} (t:Nat) {C b:Bool} (h:(ops.toList[j]?).bind (·.dst)=some t:=by kernel_rfl) (hb:ev n f (.tmp t)=gv C (.bool b):=by exact rfl):Wt (gd n f ops j) true (C&&b):=wt_gt (gd_of h hb)
theorem uH_ {ops:Array Oper} {j:Nat} (t:Nat) {C b:Bool} (h:(ops.toList[j]?).bind (·.dst)=some t:=by kernel_rfl) (hb:ev n f (.tmp t)=gv C (.bool b):=by exact rfl):Wt (gd n f ops j) false (C&&!b):=wt_gf (gd_of h hb)
theorem rT:resAt P f n w (.tmp t) (ev n f (.tmp t)):=resAt_tmp rfl
theorem e1 (h:fn.results=#[.tmp t]) (hA:A w) (hx:ev n f (.tmp t)=x:=by exact rfl):RetOf P fn n (fun v w=>v=x∧A w) f w:=ret1 h (resAt_tmp hx) ⟨rfl,hA⟩
theorem e2 (h:fn.results=#[.tmp s,.tmp t]) (hA:A w) (hx:ev n f (.tmp s)=x:=by exact rfl) (hy:ev n f (.tmp t)=y:=by exact rfl):RetOf P fn n (fun v w=>v=.tuple #[x,y]∧A w) f w:=ret2 h (resAt_tmp hx) (resAt_tmp hy) ⟨rfl,hA⟩
theorem e3 (h:fn.results=#[.tmp s,.tmp t,.tmp u]) (hA:A w) (hx:ev n f (.tmp s)=x:=by exact rfl) (hy:ev n f (.tmp t)=y:=by exact rfl) (hz:ev n f (.tmp u)=z:=by exact rfl):RetOf P fn n (fun v w=>v=.tuple #[x,y,z]∧A w) f w:=ret3 h (resAt_tmp hx) (resAt_tmp hy) (resAt_tmp hz) ⟨rfl,hA⟩
end
theorem DW:sliceB Tryz.prog 22 5=true:=by kernel_rfl
theorem K26:(Tryz.prog.info? 25).map (·.zero)=some (some (.agg #[.int .i64 0,.slice none 0 0,.slice none 0 0])):=by kernel_rfl
theorem La:(Tryz.prog.info? 49).map (·.zero)=some (some (.agg #[.slice none 0 0,.int .i64 0,.int .u64 0])):=by kernel_rfl
theorem MY:placesB Tryz.prog 49 [(0,1),(1,1),(2,1)]=true:=by kernel_rfl
theorem K99:fieldB Tryz.prog 49 1 1 3=true:=by kernel_rfl
theorem K1:sizeB Tryz.prog 3 1=true:=by kernel_rfl
theorem K0:scalB Tryz.prog 3=true:=by kernel_rfl
theorem IN:fieldB Tryz.prog 49 0 0 22=true:=by kernel_rfl
theorem I8:sizeB Tryz.prog 22 1=true:=by kernel_rfl
theorem G7:scalB Tryz.prog 22=true:=by kernel_rfl
theorem I0:sizeB Tryz.prog 5 1=true:=by kernel_rfl
theorem NA:scalB Tryz.prog 5=true:=by kernel_rfl
theorem OX:(Tryz.prog.underlying 5).isSome=true:=by kernel_rfl
theorem K16:intB Tryz.prog 3 .i64=true:=by kernel_rfl
theorem Ij:fieldB Tryz.prog 49 2 2 47=true:=by kernel_rfl
theorem HM:sizeB Tryz.prog 47 1=true:=by kernel_rfl
theorem Ln:scalB Tryz.prog 47=true:=by kernel_rfl
theorem K41:(Tryz.prog.underlying 3).isSome=true:=by kernel_rfl
theorem NV:intB Tryz.prog 47 .u64=true:=by kernel_rfl
theorem Kr:(Tryz.prog.underlying 47).isSome=true:=by kernel_rfl
theorem LW:callB Tryz.prog 50=true:=by kernel_rfl
theorem K46:callB Tryz.prog 21=true:=by kernel_rfl
theorem K34:(Tryz.prog.info? 29).map (·.zero)=some (some (.agg #[.int .i64 0,.slice none 0 0])):=by kernel_rfl
theorem K62:sliceB Tryz.prog 89 3=true:=by kernel_rfl
theorem K73:(Tryz.prog.info? 3).map (fun i=>i.zero.map (fun z=>z.cells.toList))=some (some [.int .i64 0]):=by kernel_rfl
theorem K72:placesB Tryz.prog 29 [(0,1),(1,1)]=true:=by kernel_rfl
theorem K9:sizeB Tryz.prog 29 2=true:=by kernel_rfl
theorem K40:fieldB Tryz.prog 29 1 1 27=true:=by kernel_rfl
theorem K23:sizeB Tryz.prog 27 1=true:=by kernel_rfl
theorem K29:scalB Tryz.prog 27=true:=by kernel_rfl
theorem K28:(Tryz.prog.info? 57).map (·.zero)=some (some (.agg #[.int .i64 0,.int .i64 0,.int .i64 0])):=by kernel_rfl
theorem K69:placesB Tryz.prog 57 [(0,1),(1,1),(2,1)]=true:=by kernel_rfl
theorem K8:sizeB Tryz.prog 57 3=true:=by kernel_rfl
theorem K42:fieldB Tryz.prog 57 0 0 3=true:=by kernel_rfl
theorem K27:aggB Tryz.prog 57=true:=by kernel_rfl
theorem K24:fieldB Tryz.prog 57 1 1 3=true:=by kernel_rfl
theorem K58:callB Tryz.prog 58=true:=by kernel_rfl
theorem K38:fieldB Tryz.prog 57 2 2 3=true:=by kernel_rfl
theorem K15:sliceB Tryz.prog 27 57=true:=by kernel_rfl
theorem K64:(Tryz.prog.info? 57).map (fun i=>i.zero.map (fun z=>z.cells.toList))=some (some [.int .i64 0,.int .i64 0,.int .i64 0]):=by kernel_rfl
theorem K59:bytesB Tryz.prog 57 24=true:=by kernel_rfl
theorem P7:callB Tryz.prog 95=true:=by kernel_rfl
theorem K17:aggB Tryz.prog 29=true:=by kernel_rfl
theorem Kw:callB Tryz.prog 66=true:=by kernel_rfl
theorem J4:callB Tryz.prog 33=true:=by kernel_rfl
theorem K44:fieldB Tryz.prog 29 0 0 3=true:=by kernel_rfl
theorem K80:placesB Tryz.prog 25 [(0,1),(1,1),(2,1)]=true:=by kernel_rfl
theorem K3:sizeB Tryz.prog 25 3=true:=by kernel_rfl
theorem K18:fieldB Tryz.prog 25 1 1 23=true:=by kernel_rfl
theorem K4:sizeB Tryz.prog 23 1=true:=by kernel_rfl
theorem K7:scalB Tryz.prog 23=true:=by kernel_rfl
theorem K43:intB Tryz.prog 103 .u64=true:=by kernel_rfl
theorem K14:(Tryz.prog.info? 64).map (·.zero)=some (some (.agg #[.int .i64 0,.int .i64 0,.int .i64 0])):=by kernel_rfl
theorem K36:placesB Tryz.prog 64 [(0,1),(1,1),(2,1)]=true:=by kernel_rfl
theorem K5:sliceB Tryz.prog 23 64=true:=by kernel_rfl
theorem K2:sizeB Tryz.prog 64 3=true:=by kernel_rfl
theorem K74:(Tryz.prog.info? 64).map (fun i=>i.zero.map (fun z=>z.cells.toList))=some (some [.int .i64 0,.int .i64 0,.int .i64 0]):=by kernel_rfl
theorem K63:bytesB Tryz.prog 64 24=true:=by kernel_rfl
theorem K20:fieldB Tryz.prog 25 2 2 23=true:=by kernel_rfl
theorem K11:aggB Tryz.prog 25=true:=by kernel_rfl
theorem Lq:callB Tryz.prog 67=true:=by kernel_rfl
theorem K6:aggB Tryz.prog 64=true:=by kernel_rfl
theorem K30:fieldB Tryz.prog 64 0 0 3=true:=by kernel_rfl
theorem K47:fieldB Tryz.prog 64 1 1 3=true:=by kernel_rfl
theorem K48:fieldB Tryz.prog 64 2 2 3=true:=by kernel_rfl
theorem HV:(Tryz.prog.info? 160).map (·.zero)=some (some (.agg #[.int .i64 0,.int .i64 0,.int .i64 0,.int .i64 0])):=by kernel_rfl
theorem GE:arrB Tryz.prog 160 4 3=true:=by kernel_rfl
theorem Md:(Tryz.prog.info? 161).map (·.zero)=some (some (.agg #[.int .i64 0,.int .i64 0,.int .i64 0,.int .i64 0,.int .i64 0,.int .i64 0,.int .i64 0,.int .i64 0,.int .i64 0,.int .i64 0,.int .i64 0,.int .i64 0,.int .i64 0,.int .i64 0,.int .i64 0,.int .i64 0])):=by kernel_rfl
theorem LS:arrB Tryz.prog 161 4 160=true:=by kernel_rfl
theorem M0:sizeB Tryz.prog 160 4=true:=by kernel_rfl
theorem OQ:sizeB Tryz.prog 161 16=true:=by kernel_rfl
theorem K65:callB Tryz.prog 90=true:=by kernel_rfl
theorem QU:callB Tryz.prog 116=true:=by kernel_rfl
theorem K75:callB Tryz.prog 88=true:=by kernel_rfl
theorem K22:fieldB Tryz.prog 25 0 0 3=true:=by kernel_rfl
theorem L9:callB Tryz.prog 96=true:=by kernel_rfl
theorem Mm:callB Tryz.prog 69=true:=by kernel_rfl
theorem Mw:callB Tryz.prog 68=true:=by kernel_rfl
theorem Ha:callB Tryz.prog 35=true:=by kernel_rfl
theorem Nv:callB Tryz.prog 84=true:=by kernel_rfl
theorem K89:callB Tryz.prog 49=true:=by kernel_rfl
theorem PE:callB Tryz.prog 48=true:=by kernel_rfl
theorem SC:callB Tryz.prog 20=true:=by kernel_rfl
theorem OY:callB Tryz.prog 4=true:=by kernel_rfl
theorem M2:(Tryz.prog.info? 3).map (·.zero)=some (some (.int .i64 0)):=by kernel_rfl
theorem K49:callB Tryz.prog 27=true:=by kernel_rfl
theorem K90:sliceB Tryz.prog 99 23=true:=by kernel_rfl
theorem JP:(Tryz.prog.info? 23).map (fun i=>i.zero.map (fun z=>z.cells.toList))=some (some [.slice none 0 0]):=by kernel_rfl
theorem Nq:callB Tryz.prog 62=true:=by kernel_rfl
theorem Lf:callB Tryz.prog 28=true:=by kernel_rfl
theorem NZ:callB Tryz.prog 63=true:=by kernel_rfl
theorem Rk:callB Tryz.prog 64=true:=by kernel_rfl
theorem PM:callB Tryz.prog 31=true:=by kernel_rfl
theorem Nc:callB Tryz.prog 30=true:=by kernel_rfl
theorem OK:callB Tryz.prog 29=true:=by kernel_rfl
theorem RY:callB Tryz.prog 94=true:=by kernel_rfl
theorem K81:callB Tryz.prog 65=true:=by kernel_rfl
theorem K76:Tryz.prog.underlying 4=some .bool:=by kernel_rfl
theorem QP:callB Tryz.prog 32=true:=by kernel_rfl
theorem K91:callB Tryz.prog 8=true:=by kernel_rfl
theorem OS:(Tryz.prog.info? 54).map (·.zero)=some (some (.agg #[.int .i64 0,.slice none 0 0,.slice none 0 0,.slice none 0 0])):=by kernel_rfl
theorem QD:placesB Tryz.prog 54 [(0,3),(3,1)]=true:=by kernel_rfl
theorem K39:scalB Tryz.prog 52=true:=by kernel_rfl
theorem K52:fieldB Tryz.prog 54 0 0 25=true:=by kernel_rfl
theorem Su:strB Tryz.prog 9=true:=by kernel_rfl
theorem K92:callB Tryz.prog 54=true:=by kernel_rfl
theorem Gl:callB Tryz.prog 43=true:=by kernel_rfl
theorem KA:callB Tryz.prog 113=true:=by kernel_rfl
theorem Mi:callB Tryz.prog 81=true:=by kernel_rfl
theorem Ig:callB Tryz.prog 45=true:=by kernel_rfl
theorem G8:callB Tryz.prog 44=true:=by kernel_rfl
theorem K82:fieldB Tryz.prog 54 1 3 27=true:=by kernel_rfl
theorem K56:callB Tryz.prog 55=true:=by kernel_rfl
theorem H8:callB Tryz.prog 51=true:=by kernel_rfl
theorem Mp:callB Tryz.prog 53=true:=by kernel_rfl
theorem Kl:callB Tryz.prog 56=true:=by kernel_rfl
theorem Gh:callB Tryz.prog 52=true:=by kernel_rfl
theorem Tl:callB Tryz.prog 22=true:=by kernel_rfl
theorem NF:callB Tryz.prog 114=true:=by kernel_rfl
theorem MI:callB Tryz.prog 115=true:=by kernel_rfl
theorem MG:callB Tryz.prog 87=true:=by kernel_rfl
theorem SE:callB Tryz.prog 86=true:=by kernel_rfl
theorem Tz:callB Tryz.prog 85=true:=by kernel_rfl
theorem JE:callB Tryz.prog 57=true:=by kernel_rfl
theorem Mh:callB Tryz.prog 23=true:=by kernel_rfl
theorem Td:callB Tryz.prog 5=true:=by kernel_rfl
theorem PC:callB Tryz.prog 59=true:=by kernel_rfl
theorem K60:structB Tryz.prog 64 [(3,0),(3,1),(3,2)]=true:=by kernel_rfl
theorem K70:Tryz.prog.stoodInHeld 64=false:=by kernel_rfl
theorem GK:Tryz.prog.eqGuardType Tryz.prog.depth 64=false:=by kernel_rfl
theorem Qw:callB Tryz.prog 60=true:=by kernel_rfl
theorem Sn:callB Tryz.prog 24=true:=by kernel_rfl
theorem Ow:(Tryz.prog.info? 98).map (·.zero)=some (some (.agg #[.int .i64 0,.slice none 0 0,.slice none 0 0,.slice none 0 0])):=by kernel_rfl
theorem OE:placesB Tryz.prog 98 [(0,3),(3,1)]=true:=by kernel_rfl
theorem K50:fieldB Tryz.prog 98 0 0 25=true:=by kernel_rfl
theorem K93:callB Tryz.prog 117=true:=by kernel_rfl
theorem K83:fieldB Tryz.prog 98 1 3 27=true:=by kernel_rfl
theorem K57:callB Tryz.prog 91=true:=by kernel_rfl
theorem MR:callB Tryz.prog 89=true:=by kernel_rfl
theorem L6:callB Tryz.prog 92=true:=by kernel_rfl
theorem Rm:callB Tryz.prog 61=true:=by kernel_rfl
theorem Kc:callB Tryz.prog 25=true:=by kernel_rfl
theorem Ta:callB Tryz.prog 6=true:=by kernel_rfl
theorem Qn:structB Tryz.prog 57 [(3,0),(3,1),(3,2)]=true:=by kernel_rfl
theorem TE:Tryz.prog.stoodInHeld 57=false:=by kernel_rfl
theorem TD:Tryz.prog.eqGuardType Tryz.prog.depth 57=false:=by kernel_rfl
theorem Ou:callB Tryz.prog 26=true:=by kernel_rfl
theorem PH:callB Tryz.prog 7=true:=by kernel_rfl
theorem L7:callB Tryz.prog 34=true:=by kernel_rfl
theorem Te:callB Tryz.prog 70=true:=by kernel_rfl
theorem Ss:callB Tryz.prog 36=true:=by kernel_rfl
theorem OH:callB Tryz.prog 9=true:=by kernel_rfl
theorem Rp:callB Tryz.prog 80=true:=by kernel_rfl
theorem Rl:callB Tryz.prog 79=true:=by kernel_rfl
theorem Qk:callB Tryz.prog 42=true:=by kernel_rfl
theorem GU:callB Tryz.prog 13=true:=by kernel_rfl
theorem Lj:callB Tryz.prog 71=true:=by kernel_rfl
theorem Ie:callB Tryz.prog 37=true:=by kernel_rfl
theorem OG:callB Tryz.prog 10=true:=by kernel_rfl
theorem PQ:callB Tryz.prog 118=true:=by kernel_rfl
theorem T3:callB Tryz.prog 97=true:=by kernel_rfl
theorem PI:callB Tryz.prog 98=true:=by kernel_rfl
theorem SG:callB Tryz.prog 72=true:=by kernel_rfl
theorem JU:callB Tryz.prog 38=true:=by kernel_rfl
theorem Sg:callB Tryz.prog 39=true:=by kernel_rfl
theorem Nr:callB Tryz.prog 11=true:=by kernel_rfl
theorem K45:(Tryz.prog.info? 76).map (·.zero)=some (some (.agg #[.int .i64 0,.int .i64 0,.slice none 0 0])):=by kernel_rfl
theorem K84:placesB Tryz.prog 76 [(0,1),(1,1),(2,1)]=true:=by kernel_rfl
theorem K19:sizeB Tryz.prog 76 3=true:=by kernel_rfl
theorem K32:aggB Tryz.prog 76=true:=by kernel_rfl
theorem HW:callB Tryz.prog 104=true:=by kernel_rfl
theorem K33:(Tryz.prog.info? 112).map (·.zero)=some (some (.agg #[.int .i64 0,.int .i64 0,.int .i64 0,.int .i64 0,.int .i64 0])):=by kernel_rfl
theorem K10:sizeB Tryz.prog 112 5=true:=by kernel_rfl
theorem K85:fieldB Tryz.prog 76 2 2 74=true:=by kernel_rfl
theorem K77:sizeB Tryz.prog 74 1=true:=by kernel_rfl
theorem K94:scalB Tryz.prog 74=true:=by kernel_rfl
theorem K21:aggB Tryz.prog 112=true:=by kernel_rfl
theorem K66:sliceB Tryz.prog 74 112=true:=by kernel_rfl
theorem P0:(Tryz.prog.info? 112).map (fun i=>i.zero.map (fun z=>z.cells.toList))=some (some [.int .i64 0,.int .i64 0,.int .i64 0,.int .i64 0,.int .i64 0]):=by kernel_rfl
theorem PU:bytesB Tryz.prog 112 40=true:=by kernel_rfl
theorem K37:(Tryz.prog.info? 110).map (·.zero)=some (some (.agg #[.int .i64 0,.int .i64 0,.int .i64 0,.int .i64 0])):=by kernel_rfl
theorem K67:placesB Tryz.prog 110 [(0,1),(1,1),(2,1),(3,1)]=true:=by kernel_rfl
theorem K61:placesB Tryz.prog 112 [(0,4),(4,1)]=true:=by kernel_rfl
theorem IA:callB Tryz.prog 101=true:=by kernel_rfl
theorem Qy:callB Tryz.prog 100=true:=by kernel_rfl
theorem HT:callB Tryz.prog 99=true:=by kernel_rfl
theorem P6:callB Tryz.prog 73=true:=by kernel_rfl
theorem K25:aggB Tryz.prog 110=true:=by kernel_rfl
theorem K12:sizeB Tryz.prog 110 4=true:=by kernel_rfl
theorem K51:fieldB Tryz.prog 110 0 0 3=true:=by kernel_rfl
theorem HX:callB Tryz.prog 134=true:=by kernel_rfl
theorem K53:fieldB Tryz.prog 110 1 1 3=true:=by kernel_rfl
theorem K54:fieldB Tryz.prog 110 2 2 3=true:=by kernel_rfl
theorem K55:fieldB Tryz.prog 110 3 3 3=true:=by kernel_rfl
theorem FS:callB Tryz.prog 128=true:=by kernel_rfl
theorem QH:callB Tryz.prog 111=true:=by kernel_rfl
theorem G9:callB Tryz.prog 77=true:=by kernel_rfl
theorem K95:callB Tryz.prog 122=true:=by kernel_rfl
theorem HG:callB Tryz.prog 123=true:=by kernel_rfl
theorem Om:callB Tryz.prog 120=true:=by kernel_rfl
theorem Sj:callB Tryz.prog 121=true:=by kernel_rfl
theorem K96:mapB Tryz.prog 162 3 3=true:=by kernel_rfl
theorem K97:fieldB Tryz.prog 112 0 0 110=true:=by kernel_rfl
theorem RO:callB Tryz.prog 124=true:=by kernel_rfl
theorem Qz:callB Tryz.prog 119=true:=by kernel_rfl
theorem OF:callB Tryz.prog 102=true:=by kernel_rfl
theorem K87:fieldB Tryz.prog 76 0 0 3=true:=by kernel_rfl
theorem K71:fieldB Tryz.prog 76 1 1 3=true:=by kernel_rfl
theorem Si:callB Tryz.prog 127=true:=by kernel_rfl
theorem K86:fieldB Tryz.prog 112 1 4 3=true:=by kernel_rfl
theorem JC:callB Tryz.prog 129=true:=by kernel_rfl
theorem K98:callB Tryz.prog 107=true:=by kernel_rfl
theorem Ot:callB Tryz.prog 106=true:=by kernel_rfl
theorem PF:callB Tryz.prog 105=true:=by kernel_rfl
theorem FK:callB Tryz.prog 75=true:=by kernel_rfl
theorem K78:sliceB Tryz.prog 167 110=true:=by kernel_rfl
theorem GC:(Tryz.prog.info? 110).map (fun i=>i.zero.map (fun z=>z.cells.toList))=some (some [.int .i64 0,.int .i64 0,.int .i64 0,.int .i64 0]):=by kernel_rfl
theorem Tx:bytesB Tryz.prog 110 32=true:=by kernel_rfl
theorem H0:callB Tryz.prog 135=true:=by kernel_rfl
theorem SW:callB Tryz.prog 130=true:=by kernel_rfl
theorem QZ:callB Tryz.prog 136=true:=by kernel_rfl
theorem Lb:callB Tryz.prog 131=true:=by kernel_rfl
theorem Iq:callB Tryz.prog 110=true:=by kernel_rfl
theorem Ks:callB Tryz.prog 109=true:=by kernel_rfl
theorem Qb:callB Tryz.prog 138=true:=by kernel_rfl
theorem L2:callB Tryz.prog 137=true:=by kernel_rfl
theorem TB:callB Tryz.prog 133=true:=by kernel_rfl
theorem SJ:callB Tryz.prog 132=true:=by kernel_rfl
theorem Sl:callB Tryz.prog 126=true:=by kernel_rfl
theorem Sx:callB Tryz.prog 125=true:=by kernel_rfl
theorem TF:callB Tryz.prog 103=true:=by kernel_rfl
theorem SB:callB Tryz.prog 74=true:=by kernel_rfl
theorem LY:callB Tryz.prog 40=true:=by kernel_rfl
theorem PD:callB Tryz.prog 108=true:=by kernel_rfl
theorem Ts:callB Tryz.prog 76=true:=by kernel_rfl
theorem QE:structB Tryz.prog 112 [(110,0),(3,4)]=true:=by kernel_rfl
theorem Na:Tryz.prog.stoodInHeld 112=false:=by kernel_rfl
theorem QB:structB Tryz.prog 110 [(3,0),(3,1),(3,2),(3,3)]=true:=by kernel_rfl
theorem NT:Tryz.prog.stoodInHeld 110=false:=by kernel_rfl
theorem Nf:Tryz.prog.eqGuardType Tryz.prog.depth 112=false:=by kernel_rfl
theorem OA:callB Tryz.prog 112=true:=by kernel_rfl
theorem Pe:callB Tryz.prog 78=true:=by kernel_rfl
theorem Qh:callB Tryz.prog 41=true:=by kernel_rfl
theorem Ox:callB Tryz.prog 12=true:=by kernel_rfl
theorem KX:callB Tryz.prog 46=true:=by kernel_rfl
theorem II:callB Tryz.prog 14=true:=by kernel_rfl
theorem HR:(Tryz.prog.info? 118).map (·.zero)=some (some (.agg #[.int .i64 0,.slice none 0 0,.slice none 0 0,.slice none 0 0])):=by kernel_rfl
theorem KZ:placesB Tryz.prog 118 [(0,3),(3,1)]=true:=by kernel_rfl
theorem K88:sliceB Tryz.prog 119 118=true:=by kernel_rfl
theorem K79:sizeB Tryz.prog 118 4=true:=by kernel_rfl
theorem MD:(Tryz.prog.info? 118).map (fun i=>i.zero.map (fun z=>z.cells.toList))=some (some [.int .i64 0,.slice none 0 0,.slice none 0 0,.slice none 0 0]):=by kernel_rfl
theorem I3:fieldB Tryz.prog 118 0 0 25=true:=by kernel_rfl
theorem Js:(Tryz.prog.info? 121).map (·.zero)=some (some (.agg #[.int .i64 0,.int .i64 0,.int .i64 0,.int .i64 0,.int .i64 0,.int .i64 0,.int .i64 0,.int .i64 0,.int .i64 0,.int .i64 0,.int .i64 0,.int .i64 0])):=by kernel_rfl
theorem GY:arrB Tryz.prog 121 4 64=true:=by kernel_rfl
theorem HJ:sizeB Tryz.prog 121 12=true:=by kernel_rfl
theorem IS:aggB Tryz.prog 121=true:=by kernel_rfl
theorem JA:callB Tryz.prog 82=true:=by kernel_rfl
theorem JD:mapB Tryz.prog 123 121 4=true:=by kernel_rfl
theorem TL:aggB Tryz.prog 118=true:=by kernel_rfl
theorem KG:fieldB Tryz.prog 118 1 3 27=true:=by kernel_rfl
theorem Q8:(Tryz.prog.info? 4).map (·.zero)=some (some (.bool false)):=by kernel_rfl
theorem T4:bytesB Tryz.prog 118 80=true:=by kernel_rfl
theorem NG:callB Tryz.prog 83=true:=by kernel_rfl
theorem S5:callB Tryz.prog 47=true:=by kernel_rfl
theorem LR:callB Tryz.prog 15=true:=by kernel_rfl
theorem NR:callB Tryz.prog 16=true:=by kernel_rfl
theorem Q5:callB Tryz.prog 17=true:=by kernel_rfl
theorem Qq:callB Tryz.prog 18=true:=by kernel_rfl
theorem PJ:callB Tryz.prog 19=true:=by kernel_rfl
theorem Kj:intB Tryz.prog 5 .u8=true:=by kernel_rfl
end Go.VK
