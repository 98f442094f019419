/- Closed facts on the types. -/
import Derived.Test.YtboiaghjocmpiaaGreatLBestRoutesFn
import Derived.Test.YtboiaghjocmpiaaGreatChecked
namespace Go.VK
open Go.RowKit
open Go.Proofs
abbrev vi (x:Int):Value:=.int .i64 x
abbrev aD (b:Nat):Option Addr:=some ⟨b,0,none⟩
abbrev kD_ (x:Ab):List Value:=[vi x.Num.A,vi x.Num.B,vi x.Num.C,vi x.Num.D,vi x.Exp]
abbrev gD_ (x:Ab):Value:=.agg #[vi x.Num.A,vi x.Num.B,vi x.Num.C,vi x.Num.D,vi x.Exp]
abbrev kR_ (x:Aa):List Value:=[vi x.A,vi x.B,vi x.C,vi x.D]
abbrev gR_ (x:Aa):Value:=.agg #[vi x.A,vi x.B,vi x.C,vi x.D]
abbrev kM_ (m:Af) (B:Option Addr) (c:Nat):List Value:=[vi m.Rows,vi m.Cols,.slice B m.Cells.length c]
abbrev gM_ (m:Af) (B:Option Addr) (c:Nat):Value:=.agg #[vi m.Rows,vi m.Cols,.slice B m.Cells.length c]
abbrev kZ_:List Value:=[vi 0,vi 0,vi 0,vi 0,vi 0]
abbrev gZ_:Value:=.agg #[vi 0,vi 0,vi 0,vi 0,vi 0]
abbrev kN_:List Value:=[vi 0,vi 0,.slice none 0 0]
abbrev gN_:Value:=.agg #[vi 0,vi 0,.slice none 0 0]
theorem lB {n m:Nat} (h:Nat.ble n m=true):n≤m:=Nat.le_of_ble_eq_true h
theorem mAr {α:Type} {b:α} {xs:List α} (ys:List α) (h:b∈xs):b∈ys++xs:=List.mem_append_right ys h
theorem mAl {α:Type} {b:α} {xs:List α} (ys:List α) (h:b∈xs):b∈xs++ys:=List.mem_append_left ys h
theorem mOd {α:Type} {b:α} {i:Nat} {xs:List α} (h:b∈xs.drop i):b∈xs:=List.mem_of_mem_drop h
section
variable {P:Program} {n:Nat} {N:FW} {f:Nat→Value} {w0 w:World} {ops:Array Oper} {rest:List Oper} {o:Oper} {S:World→Prop} {M:List Nat} {L:List Ob} {R:List Ro}
theorem rq (i t:Nat) {fuel:Nat} {listed:Array Bool} {v:Value} (hi:ops[i]?=some o) (hS:S w) (hy:∀ w',S w'→Y P n f w' o v) (k:RA P n ops N S fuel (listed.setIfInBounds i true) (upd f t v) w)
    (hg:o.guard=none:=by exact rfl) (hd:o.dst=some t:=by exact rfl) (hs:Region.noSelect ops=true:=by kernel_rfl) (hf:Region.free .any ops listed i=true:=by kernel_rfl)
    (hr:(Region.ready .any ops listed).contains i=true:=by kernel_rfl):RA P n ops N S (fuel+1) listed f w:=ra_q i t hi hg hd hs hf hr hS hy k
theorem rA (rs:List Nat) {fuel:Nat} {listed:Array Bool} (h:AllR P n ops N S fuel listed f w rs) (hr:Region.ready .any ops listed=rs:=by kernel_rfl) (hne:rs.isEmpty=false:=by exact rfl):RA P n ops N S (fuel+1) listed f w:=ra_all hr hne h
theorem sQ (t:Nat) {v:Value} (h:Y P n f w o v) (k:RW P n ops N rest (upd f t v) w) (hg:o.guard=none:=by exact rfl) (hd:o.dst=some t:=by exact rfl):RW P n ops N (o::rest) f w:=sq t hg hd h k
theorem uT_ {j:Nat} (t:Nat) {b:Bool} (h:(ops.toList[j]?).bind (·.dst)=some t:=by kernel_rfl) (hb:ev n f (.tmp t)=.bool b:=by exact rfl):Wt (gd n f ops j) true b:=wt_t (gd_of h hb)
theorem uF_ {j:Nat} (t:Nat) {b:Bool} (h:(ops.toList[j]?).bind (·.dst)=some t:=by kernel_rfl) (hb:ev n f (.tmp t)=.bool b:=by exact rfl):Wt (gd n f ops j) false (!b):=wt_f (gd_of h hb)
theorem s0 {S:Value→World→Prop} (h:Ys P n f w o S) (k:∀ v w',S v w'→RW P n ops N rest f w') (hg:o.guard=none:=by exact rfl) (hd:o.dst=none:=by exact rfl):RW P n ops N (o::rest) f w:=ss0 hg hd h k
theorem sS (t:Nat) {S:Value→World→Prop} (h:Ys P n f w o S) (k:∀ v w',S v w'→RW P n ops N rest (upd f t v) w') (hg:o.guard=none:=by exact rfl) (hd:o.dst=some t:=by exact rfl):RW P n ops N (o::rest) f w:=ss t hg hd h k
theorem ST.se (hS:ST w0 M w L R) (is:List Nat) (hn:decide is.Nodup=true:=by exact rfl) (hb:is.all (fun i=>(L[i]?).isSome)=true:=by exact rfl):ST w0 M w (is.filterMap fun i=>L[i]?) R:=hS.sel is hn hb
theorem ST.sN (hS:ST w0 M w L R) (is:List Nat) (hn:decide is.Nodup=true:=by exact rfl) (hb:is.all (fun i=>(L[i]?).isSome)=true:=by exact rfl):ST w0 M w (is.filterMap fun i=>L[i]?) []:=ST.subR (hS.sel is hn hb) (fun _ h=>by cases h)
end
section
variable {P:Program} {n:Nat} {f:Nat→Value} {w0 w:World} {o:Oper} {M:List Nat} {L L':List Ob} {R:List Ro} {T T1:TypeId} {x y:Operand} {a b:Int}
theorem yl (B:Option Addr) (i:Nat) (cs:List Value) (v:Value) (hT:scalB P T=true) (hc:CF w B cs) (ho:o.op=.load T x:=by exact rfl) (hx:ev n f x=pt B i:=by exact rfl) (hk:cs[i]?=some v:=by exact rfl):Y P n f w o v:=Y_load1 hT ho hx hc hk
theorem ya (B:Option Addr) (i:Nat) (cs vs:List Value) {s:Nat} (hT:aggB P T=true) (hs:sizeB P T s=true) (hc:CF w B cs) (ho:o.op=.load T x:=by exact rfl) (hx:ev n f x=pt B i:=by exact rfl) (hl:vs.length=s:=by exact rfl) (hk:(cs.drop i).take s=vs:=by exact rfl):Y P n f w o (.agg vs.toArray):=Y_loadA hT hs ho hx hc hl hk
theorem yb (B:Option Addr) (i:Nat) (cs:List Value) {s:Nat} (hT:aggB P T=true) (hs:sizeB P T s=true) (hc:CF w B cs) (ho:o.op=.load T x:=by exact rfl) (hx:ev n f x=pt B i:=by exact rfl) (hl:cs.length=s:=by exact rfl) (hk:(cs.drop i).take s=cs:=by exact rfl):Y P n f w o (.agg cs.toArray):=Y_loadA hT hs ho hx hc hl hk
theorem yd (B:Option Addr) (i s:Nat) {j off ty:Nat} (hF:fieldB P T j off ty=true) (hs:sizeB P ty (s+1)=true) (ho:o.op=.fieldAddr T x j:=by exact rfl) (hx:ev n f x=pt B i:=by exact rfl):Y P n f w o (pt B (i+off)):=Y_fieldAddr hF hs ho hx
theorem ym (v:Value) (ho:o.op=.move x:=by exact rfl) (hx:ev n f x=v:=by exact rfl):Y P n f w o v:=Y_move ho hx
theorem yg (v:Value) (ho:o.op=.assign x:=by exact rfl) (hx:ev n f x=v:=by exact rfl):Y P n f w o v:=Y_assign ho hx
theorem yS (i s:Nat) (B:Option Addr) (T':TypeId) (v:Value) (vs:List Value) (k:Nat) (cs':List Value) {cs:List Value} {m:Nat} (hS:ST w0 M w L R) (hs:sizeB P T s=true) (ho:o.op=.store T x y:=by exact rfl) (hx:ev n f x=pt B k:=by exact rfl) (hy:ev n f y=v:=by exact rfl) (hv:v.cells.toList=vs:=by exact rfl)
    (hl:vs.length=s:=by exact rfl) (h1:one vs=true:=by exact rfl) (hi:L[i]?=some ⟨B,T',cs,m⟩:=by exact rfl) (hk:k+s≤cs.length:=by exact lB rfl) (hcs:splice cs k vs=cs':=by exact rfl) (hL:L.set i ⟨B,T',cs',m⟩=L':=by exact rfl):Ys P n f w o (fun v w'=>v=undef∧ST w0 M w' L' R):=Ys_store hS hs ho hx hy hv hl h1 hi hk hcs hL
theorem yT (i s:Nat) (B:Option Addr) (T':TypeId) (v:Value) (vs:List Value) (k:Nat) {cs:List Value} {m:Nat} (hS:ST w0 M w L R) (hs:sizeB P T s=true) (ho:o.op=.store T x y:=by exact rfl) (hx:ev n f x=pt B k:=by exact rfl) (hy:ev n f y=v:=by exact rfl) (hv:v.cells.toList=vs:=by exact rfl)
    (hl:vs.length=s:=by exact rfl) (h1:one vs=true:=by exact rfl) (hi:L[i]?=some ⟨B,T',cs,m⟩:=by exact rfl) (hk:k+s≤cs.length:=by exact lB rfl) (hcs:splice cs k vs=vs:=by exact rfl) (hL:L.set i ⟨B,T',vs,m⟩=L':=by exact rfl):Ys P n f w o (fun v w'=>v=undef∧ST w0 M w' L' R):=Ys_store hS hs ho hx hy hv hl h1 hi hk hcs hL
theorem yN (cs:List Value) (m:Nat) {z:Value} (hS:ST w0 M w L R) (hz:(P.info? T).map (·.zero)=some (some z)) (ho:o.op=.alloc T:=by exact rfl) (hc:z.cells.toList=cs:=by exact rfl) (hm:cs.length=m:=by exact rfl):Ys P n f w o (NewAt w0 M L R T cs m):=Ys_alloc hS hz ho hc hm
theorem yB (T:TypeId) (v:Value) (cs:List Value) (m:Nat) (hS:ST w0 M w L R) (ho:o.op=.box T x:=by exact rfl) (hx:ev n f x=v:=by exact rfl) (hc:v.cells.toList=cs:=by exact rfl) (hm:cs.length=m:=by exact rfl):Ys P n f w o (NewAt w0 M L R T cs m):=Ys_box hS ho hx hc hm
theorem ye (v:Value) {i:Nat} {vs:Array Value} (ho:o.op=.extract x i:=by exact rfl) (hx:ev n f x=.tuple vs:=by exact rfl) (hv:vs[i]?=some v:=by exact rfl):Y P n f w o v:=Y_extract ho hx hv
theorem yP (a b:Int) (ho:o.op=.binOp .add T x y T1:=by exact rfl) (hx:ev n f x=.int .i64 a:=by exact rfl) (hy:ev n f y=.int .i64 b:=by exact rfl):Y P n f w o (.int .i64 (IntKind.i64.wrap (a+b))):=Y_add ho hx hy
theorem yM (a b:Int) (ho:o.op=.binOp .sub T x y T1:=by exact rfl) (hx:ev n f x=.int .i64 a:=by exact rfl) (hy:ev n f y=.int .i64 b:=by exact rfl):Y P n f w o (.int .i64 (IntKind.i64.wrap (a-b))):=Y_sub ho hx hy
theorem yX (a b:Int) (ho:o.op=.binOp .mul T x y T1:=by exact rfl) (hx:ev n f x=.int .i64 a:=by exact rfl) (hy:ev n f y=.int .i64 b:=by exact rfl):Y P n f w o (.int .i64 (IntKind.i64.wrap (a*b))):=Y_mul ho hx hy
theorem yE (a b:Int) (ho:o.op=.binOp .eql T x y T1:=by exact rfl) (hx:ev n f x=.int .i64 a:=by exact rfl) (hy:ev n f y=.int .i64 b:=by exact rfl):Y P n f w o (.bool (a==b)):=Y_eq ho hx hy
theorem yL (a b:Int) (ho:o.op=.binOp .lss T x y T1:=by exact rfl) (hx:ev n f x=.int .i64 a:=by exact rfl) (hy:ev n f y=.int .i64 b:=by exact rfl):Y P n f w o (.bool (decide (a<b))):=Y_lt ho hx hy
theorem yI (B:Option Addr) (i:Int) {m c e s:Nat} (hT:sliceB P T e=true) (hs:sizeB P e s=true) (hB:B.isSome=true) (h0:0≤i) (h1:i<m) (ho:o.op=.indexAddr T x y:=by exact rfl) (hx:ev n f x=.slice B m c:=by exact rfl) (hy:ev n f y=.int .i64 i:=by exact rfl):Y P n f w o (pt B (i.toNat*s)):=Y_index hT hs ho hx hy hB h0 h1
theorem ST.c (hS:ST w0 M w L R) (i:Nat) {B:Option Addr} {T:TypeId} {cs:List Value} {m:Nat} (hi:L[i]?=some ⟨B,T,cs,m⟩:=by exact rfl):CF w B cs:=hS.cf hi
theorem FF.g {l:List (Nat×Value)} (h:FF f l) (t i:Nat) {v:Value} (hi:l[i]?=some (t,v):=by exact rfl):f t=v:=h.get t i hi
theorem yC {g:Nat} {args:Array Operand} {tys:Array TypeId} {R:Value→World→Prop} (vs:List Value) (hg:callB P g=true) (hc:CV P g vs.toArray w R) (ho:o.op=.call ⟨.value (.func g),args,tys⟩:=by exact rfl) (ha:args.toList.map (ev n f)=vs:=by repeat (first | exact mn | refine mc rfl ?_)):Yc P n f w o R:=Yc_func hg ho ha hc
theorem mt {α:Type} {l:List α} {x:α} (i:Nat) (h:l[i]?=some x:=by exact rfl):x∈l:=mem_at h
theorem sk {α:Type} {x:α} {l R:List α} (i:Nat) (h':∀ r∈l,r∈R) (h:R[i]?=some x:=by exact rfl):∀ r∈x::l,r∈R:=subc (mem_at h) h'
end
section
variable {P:Program} {n:Nat} {N:FW} {f:Nat→Value} {w0 w:World} {ops:Array Oper} {rest:List Oper} {o:Oper} {S:World→Prop}
theorem rS (t i:Nat) {rs:List Nat} {fuel:Nat} {listed:Array Bool} {S':Value→World→Prop} (hi:ops[i]?=some o) (h:Ys P n f w o S') (k:∀ v w',S' v w'→S w'∧RA P n ops N S fuel (listed.setIfInBounds i true) (upd f t v) w') (hrs:AllR P n ops N S fuel listed f w rs) (hg:o.guard=none:=by exact rfl) (hd:o.dst=some t:=by exact rfl):AllR P n ops N S fuel listed f w (i::rs):=ra_s t hi hg hd h k hrs
theorem ry (t i:Nat) {rs:List Nat} {fuel:Nat} {listed:Array Bool} {v:Value} (hi:ops[i]?=some o) (h:Y P n f w o v) (hS:S w) (k:RA P n ops N S fuel (listed.setIfInBounds i true) (upd f t v) w) (hrs:AllR P n ops N S fuel listed f w rs) (hg:o.guard=none:=by exact rfl) (hd:o.dst=some t:=by exact rfl):AllR P n ops N S fuel listed f w (i::rs):=ra_y t hi hg hd h hS k hrs
theorem rZ (i:Nat) {rs:List Nat} {fuel:Nat} {listed:Array Bool} {S':Value→World→Prop} (hi:ops[i]?=some o) (h:Ys P n f w o S') (k:∀ v w',S' v w'→S w'∧RA P n ops N S fuel (listed.setIfInBounds i true) f w') (hrs:AllR P n ops N S fuel listed f w rs) (hg:o.guard=none:=by exact rfl) (hd:o.dst=none:=by exact rfl):AllR P n ops N S fuel listed f w (i::rs):=ra_s0 hi hg hd h k hrs
theorem rC (t i:Nat) {rs:List Nat} {fuel:Nat} {listed:Array Bool} {S':Value→World→Prop} (hi:ops[i]?=some o) (h:Yc P n f w o S') (k:∀ v w',S' v w'→S w'∧RA P n ops N S fuel (listed.setIfInBounds i true) (upd f t v) w') (hrs:AllR P n ops N S fuel listed f w rs) (hg:o.guard=none:=by exact rfl) (hd:o.dst=some t:=by exact rfl):AllR P n ops N S fuel listed f w (i::rs):=ra_c t hi hg hd h k hrs
end
abbrev lH (B:Option Addr) (c:Nat) (r:List Ab):List (Hd×List Ab):=[((B,c),r)]
abbrev dT (i2:Nat):List UInt8:=List.drop (i2:Int).toNat (List.take (IntKind.i64.wrap ((i2:Int)+1)).toNat ([72,83]:List UInt8))
set_option linter.defProp false
def fc:=@FF.cons
def fn_:=@FF.nil
def cr:=@cw_region
def cq:=@cw_seq
def rn:=@rw_nil
def ct_:=@cw_ret
def sI:=@some_inj
def bI:=@bind_inv
def aN:=@allR_nil
section
variable {P:Program} {n:Nat} {N:FW} {f:Nat→Value} {w0 w:World} {ops:Array Oper} {rest:List Oper} {o:Oper} {S:World→Prop} {M:List Nat} {L:List Ob} {R:List Ro}
theorem ST.sR (hS:ST w0 M w L R) (k:Nat) (is:List Nat):ST w0 M w L ((is.filterMap fun i=>(R.take k)[i]?)++R.drop k):=ST.subR hS (fun r hr=>by
  rcases List.mem_append.1 hr with h | h
  · obtain ⟨i,_,hi⟩:=List.mem_filterMap.1 h
    exact List.mem_of_mem_take (List.mem_of_getElem? hi)
  · exact List.mem_of_mem_drop h)
theorem ST.sT (hS:ST w0 M w L R) (is:List Nat):ST w0 M w L (is.filterMap fun i=>R[i]?):=ST.subR hS (fun r hr=>by
  obtain ⟨i,_,hi⟩:=List.mem_filterMap.1 hr
  exact List.mem_of_getElem? hi)
theorem rG (i t:Nat) {j:Nat} {want B:Bool} {fuel:Nat} {listed:Array Bool} {v:Value} (hi:ops[i]?=some o) (hg:o.guard=some (j,want)) (hd:o.dst=some t) (hb:Wt (gd n f ops j) want B) (hS:S w) (hy:B=true→∀ w',S w'→Y P n f w' o v)
    (k:RA P n ops N S fuel (listed.setIfInBounds i true) (upd f t (gv B v)) w) (hs:Region.noSelect ops=true:=by kernel_rfl) (hf:Region.free .any ops listed i=true:=by kernel_rfl) (hr:(Region.ready .any ops listed).contains i=true:=by kernel_rfl):RA P n ops N S (fuel+1) listed f w:=ra_gq i t hi hg hd hb hs hf hr hS hy k
theorem FF.a {f':Nat→Value} {l l':List (Nat×Value)} (h:FF f l) (t i:Nat) {v:Value} (r:FF f' l') (hi:l[i]?=some (t,v):=by exact rfl) (he:f' t=f t:=by exact rfl):FF f' ((t,v)::l'):=FF.cons (he.trans (h.get t i hi)) r
end
section
variable {P:Program} {n:Nat} {N:FW} {f:Nat→Value} {w:World} {ops:Array Oper} {o:Oper} {S:World→Prop}
theorem r1 (t i:Nat) {fuel:Nat} {listed:Array Bool} {v:Value} (hi:ops[i]?=some o) (h:Y P n f w o v) (hS:S w) (k:RA P n ops N S fuel (listed.setIfInBounds i true) (upd f t v) w) (hr:Region.ready .any ops listed=[i]:=by kernel_rfl) (hg:o.guard=none:=by exact rfl) (hd:o.dst=some t:=by exact rfl):RA P n ops N S (fuel+1) listed f w:=ra_all hr rfl (ra_y t hi hg hd h hS k trivial)
end
section
variable {P:Program} {n:Nat} {N:FW} {f:Nat→Value} {w:World} {o:Oper} {T T1 T':TypeId} {x y c:Operand} {a b:Int}
theorem yz (i:Nat) {B:Option Addr} {cs:List Value} {v:Value} (hT:scalB P T=true) (hc:CF w B cs) (ho:o.op=.load T x:=by exact rfl) (hx:ev n f x=pt B i:=by exact rfl) (hk:cs[i]?=some v:=by exact rfl):Y P n f w o v:=Y_load1 hT ho hx hc hk
theorem yw (i:Nat) {B:Option Addr} {cs:List Value} {s:Nat} (hT:aggB P T=true) (hs:sizeB P T s=true) (hc:CF w B cs) (ho:o.op=.load T x:=by exact rfl) (hx:ev n f x=pt B i:=by exact rfl) (hl:cs.length=s:=by exact rfl) (hk:(cs.drop i).take s=cs:=by exact rfl):Y P n f w o (.agg cs.toArray):=Y_loadA hT hs ho hx hc hl hk
theorem yc {g:Nat} {args:Array Operand} {tys:Array TypeId} {R:Value→World→Prop} {vs:List Value} (hg:callB P g=true) (hc:CV P g vs.toArray w R) (ho:o.op=.call ⟨.value (.func g),args,tys⟩:=by exact rfl) (ha:args.toList.map (ev n f)=vs:=by repeat (first | exact mn | refine mc rfl ?_)):Yc P n f w o R:=Yc_func hg ho ha hc
theorem yA {b z:Bool} (ho:o.op=.pick c x y:=by exact rfl) (hc:ev n f c=.bool b:=by exact rfl) (hx:ev n f x=gv b (.bool z):=by exact rfl) (hy:ev n f y=.bool false:=by exact rfl):Y P n f w o (.bool (b&&z)):=Y_and ho hc hx hy
theorem yO {b z:Bool} (ho:o.op=.pick c x y:=by exact rfl) (hc:ev n f c=.bool b:=by exact rfl) (hx:ev n f x=.bool true:=by exact rfl) (hy:ev n f y=gv (!b) (.bool z):=by exact rfl):Y P n f w o (.bool (b||z)):=Y_or ho hc hx hy
theorem yn {p:Bool} (ho:o.op=.unOp .not T x:=by exact rfl) (hx:ev n f x=.bool p:=by exact rfl):Y P n f w o (.bool (!p)):=Y_not ho hx
theorem yv {v:Value} (ho:o.op=.move x:=by exact rfl) (hx:ev n f x=v:=by exact rfl):Y P n f w o v:=Y_move ho hx
theorem yu {v:Value} (ho:o.op=.assign x:=by exact rfl) (hx:ev n f x=v:=by exact rfl):Y P n f w o v:=Y_assign ho hx
theorem zE (ho:o.op=.binOp .eql T x y T1:=by exact rfl) (hx:ev n f x=.int .i64 a:=by exact rfl) (hy:ev n f y=.int .i64 b:=by exact rfl):Y P n f w o (.bool (a==b)):=Y_eq ho hx hy
theorem zL (ho:o.op=.binOp .lss T x y T1:=by exact rfl) (hx:ev n f x=.int .i64 a:=by exact rfl) (hy:ev n f y=.int .i64 b:=by exact rfl):Y P n f w o (.bool (decide (a<b))):=Y_lt ho hx hy
theorem zP (ho:o.op=.binOp .add T x y T1:=by exact rfl) (hx:ev n f x=.int .i64 a:=by exact rfl) (hy:ev n f y=.int .i64 b:=by exact rfl):Y P n f w o (.int .i64 (IntKind.i64.wrap (a+b))):=Y_add ho hx hy
theorem zM (ho:o.op=.binOp .sub T x y T1:=by exact rfl) (hx:ev n f x=.int .i64 a:=by exact rfl) (hy:ev n f y=.int .i64 b:=by exact rfl):Y P n f w o (.int .i64 (IntKind.i64.wrap (a-b))):=Y_sub ho hx hy
theorem zX (ho:o.op=.binOp .mul T x y T1:=by exact rfl) (hx:ev n f x=.int .i64 a:=by exact rfl) (hy:ev n f y=.int .i64 b:=by exact rfl):Y P n f w o (.int .i64 (IntKind.i64.wrap (a*b))):=Y_mul ho hx hy
end
section
variable {P:Program} {n:Nat} {f:Nat→Value} {w0 w:World} {o:Oper} {M:List Nat} {L L':List Ob} {R:List Ro} {T e:TypeId} {x y:Operand}
theorem aP {α:Type} {enc:α→List Value} (s b i:Nat) (l l':List α) {c c2:Nat} {z:Value} {B X:Option Addr} (hS:ST w0 M w L R) (hT:sliceB P T e=true) (hs:sizeB P e s=true) (hby:bytesB P e b=true) (hz:(P.info? e).map (·.zero)=some (some z)) (hE:∀ x,(enc x).length=s) (h1:∀ x,one (enc x)=true) (hX:CF w X (l'.flatMap enc)) (hap:l.length+l'.length≤1099511627776)
    (ho:o.op=.call ⟨.builtin .append,#[x,y],#[T,T]⟩:=by exact rfl) (hx:ev n f x=.slice B l.length c:=by exact rfl) (hy:ev n f y=.slice X l'.length c2:=by exact rfl) (hi:L[i]?=some ⟨B,e,l.flatMap enc,c*s⟩:=by exact rfl) (hzs:z.cells.size=s:=by exact rfl) (hs0:0<s:=by decide) (hb:Nat.ble (1099511627776*b) 140737488355328=true:=by exact rfl):Ys P n f w o (AppAt w0 M L R i e ((l++l').flatMap enc) s (l++l').length) :=
  Ys_append hS hT hs hby hz hzs hs0 ho hx hy hi (fm_lenn hE rfl) rfl hX (fm_lenn hE rfl) (fm_one' h1 _) (Nat.le_trans (Nat.mul_le_mul_right b hap) (Nat.le_of_ble_eq_true hb)) (Nat.le_trans hap (by unfold maxLen; decide)) (fm_app _ _) (app_len rfl rfl)
theorem yF (s len:Nat) (cs:List Value) (m:Nat) {z:List Value} {parts:Array (Nat×Operand)} {vs:List (Nat×Value)} {zs:List Value} (hS:ST w0 M w L R) (hT:sliceB P T e=true) (hs:sizeB P e s=true) (hz:(P.info? e).map (fun i=>i.zero.map (fun z=>z.cells.toList))=some (some z)) (ho:o.op=.buildSlice T len parts) (hp:parts.toList.map (fun p=>(p.1,ev n f p.2))=vs)
    (hsm:Nat.ble (len*s) 16777216=true:=by exact rfl) (h0:Nat.beq (len*s) 0=false:=by exact rfl) (hzl:z.length=s:=by exact rfl) (hzs:(List.replicate len ()).flatMap (fun _=>z)=zs:=by exact rfl) (hf:fillL (fun i=>some (i*s,s)) zs vs=some cs:=by exact rfl) (hm:cs.length=m:=by exact rfl):Ys P n f w o (MadeAt w0 M L R e cs m len len):=Ys_bslice hS hT hs hz ho hp hsm h0 hzl hzs hf hm
theorem yK (i s k:Nat) {B:Option Addr} {T':TypeId} {v:Value} {vs cs:List Value} {m:Nat} (hS:ST w0 M w L R) (hs:sizeB P T s=true) (ho:o.op=.store T x y:=by exact rfl) (hx:ev n f x=pt B k:=by exact rfl) (hy:ev n f y=v:=by exact rfl) (hv:v.cells.toList=vs:=by exact rfl)
    (hl:vs.length=s:=by exact rfl) (h1:one vs=true:=by exact rfl) (hi:L[i]?=some ⟨B,T',cs,m⟩:=by exact rfl) (hk:k+s≤cs.length:=by exact lB rfl) (hcs:splice cs k vs=vs:=by exact rfl) (hL:L.set i ⟨B,T',vs,m⟩=L':=by exact rfl):Ys P n f w o (fun v w'=>v=undef∧ST w0 M w' L' R):=Ys_store hS hs ho hx hy hv hl h1 hi hk hcs hL
theorem yV (cs:List Value) (m:Nat) (hS:ST w0 M w L R) (ho:o.op=.box T x:=by exact rfl) (hx:ev n f x=.agg cs.toArray:=by exact rfl) (hc:(Value.agg cs.toArray).cells.toList=cs:=by exact rfl) (hm:cs.length=m:=by exact rfl):Ys P n f w o (NewAt w0 M L R T cs m):=Ys_box hS ho hx hc hm
theorem rX {t s:Nat} {B:Option Addr} {cs:List Value} (hT:aggB P T=true) (hs:sizeB P T s=true) (hc:CF w B cs) (hp:ev n f (.tmp t)=pt B 0:=by exact rfl) (hl:cs.length=s:=by exact rfl) (hk:(cs.drop 0).take s=cs:=by exact rfl):resAt P f n w (.cell t T) (.agg cs.toArray):=resAt_cellA hp hT hs hc hl hk
end
section
variable {P:Program} {f:Nat→Value} {n:Nat} {w:World} {fn:Func} {A:World→Prop} {s t u:Nat} {x y z:Value}
theorem uG_ {ops:Array Oper} {j:Nat} (t:Nat) {C b:Bool} (h:(ops.toList[j]?).bind (·.dst)=some t:=by kernel_rfl) (hb:ev n f (.tmp t)=gv C (.bool b):=by exact rfl):Wt (gd n f ops j) true (C&&b):=wt_gt (gd_of h hb)
theorem uH_ {ops:Array Oper} {j:Nat} (t:Nat) {C b:Bool} (h:(ops.toList[j]?).bind (·.dst)=some t:=by kernel_rfl) (hb:ev n f (.tmp t)=gv C (.bool b):=by exact rfl):Wt (gd n f ops j) false (C&&!b):=wt_gf (gd_of h hb)
theorem rT:resAt P f n w (.tmp t) (ev n f (.tmp t)):=resAt_tmp rfl
theorem e1 (h:fn.results=#[.tmp t]) (hA:A w) (hx:ev n f (.tmp t)=x:=by exact rfl):RetOf P fn n (fun v w=>v=x∧A w) f w:=ret1 h (resAt_tmp hx) ⟨rfl,hA⟩
theorem e2 (h:fn.results=#[.tmp s,.tmp t]) (hA:A w) (hx:ev n f (.tmp s)=x:=by exact rfl) (hy:ev n f (.tmp t)=y:=by exact rfl):RetOf P fn n (fun v w=>v=.tuple #[x,y]∧A w) f w:=ret2 h (resAt_tmp hx) (resAt_tmp hy) ⟨rfl,hA⟩
theorem e3 (h:fn.results=#[.tmp s,.tmp t,.tmp u]) (hA:A w) (hx:ev n f (.tmp s)=x:=by exact rfl) (hy:ev n f (.tmp t)=y:=by exact rfl) (hz:ev n f (.tmp u)=z:=by exact rfl):RetOf P fn n (fun v w=>v=.tuple #[x,y,z]∧A w) f w:=ret3 h (resAt_tmp hx) (resAt_tmp hy) (resAt_tmp hz) ⟨rfl,hA⟩
end
theorem EL:sliceB Tryz.prog 22 5=true:=by kernel_rfl
theorem K44:(Tryz.prog.info? 25).map (·.zero)=some (some (.agg #[.int .i64 0,.slice none 0 0])):=by kernel_rfl
theorem K27:(Tryz.prog.info? 28).map (·.zero)=some (some (.agg #[.int .i64 0,.slice none 0 0])):=by kernel_rfl
theorem MM:(Tryz.prog.info? 68).map (·.zero)=some (some (.agg #[.slice none 0 0,.int .i64 0,.int .u64 0])):=by kernel_rfl
theorem MG:placesB Tryz.prog 68 [(0,1),(1,1),(2,1)]=true:=by kernel_rfl
theorem Hp:fieldB Tryz.prog 68 1 1 3=true:=by kernel_rfl
theorem K0:sizeB Tryz.prog 3 1=true:=by kernel_rfl
theorem K1:scalB Tryz.prog 3=true:=by kernel_rfl
theorem KD:fieldB Tryz.prog 68 0 0 22=true:=by kernel_rfl
theorem Ln:sizeB Tryz.prog 22 1=true:=by kernel_rfl
theorem HL:scalB Tryz.prog 22=true:=by kernel_rfl
theorem Kr:sizeB Tryz.prog 5 1=true:=by kernel_rfl
theorem SK:scalB Tryz.prog 5=true:=by kernel_rfl
theorem Wv:(Tryz.prog.underlying 5).isSome=true:=by kernel_rfl
theorem K29:intB Tryz.prog 3 .i64=true:=by kernel_rfl
theorem Ke:fieldB Tryz.prog 68 2 2 66=true:=by kernel_rfl
theorem Es:sizeB Tryz.prog 66 1=true:=by kernel_rfl
theorem Ha:scalB Tryz.prog 66=true:=by kernel_rfl
theorem Kx:(Tryz.prog.underlying 3).isSome=true:=by kernel_rfl
theorem JH:intB Tryz.prog 66 .u64=true:=by kernel_rfl
theorem S0:(Tryz.prog.underlying 66).isSome=true:=by kernel_rfl
theorem MO:callB Tryz.prog 92=true:=by kernel_rfl
theorem K30:callB Tryz.prog 59=true:=by kernel_rfl
theorem Gt:callB Tryz.prog 57=true:=by kernel_rfl
theorem K5:sliceB Tryz.prog 31 3=true:=by kernel_rfl
theorem K52:(Tryz.prog.info? 3).map (fun i=>i.zero.map (fun z=>z.cells.toList))=some (some [.int .i64 0]):=by kernel_rfl
theorem K81:placesB Tryz.prog 28 [(0,1),(1,1)]=true:=by kernel_rfl
theorem K3:sizeB Tryz.prog 28 2=true:=by kernel_rfl
theorem K19:fieldB Tryz.prog 28 1 1 26=true:=by kernel_rfl
theorem K15:sizeB Tryz.prog 26 1=true:=by kernel_rfl
theorem K21:scalB Tryz.prog 26=true:=by kernel_rfl
theorem K28:(Tryz.prog.info? 73).map (·.zero)=some (some (.agg #[.int .i64 0,.int .i64 0,.int .i64 0])):=by kernel_rfl
theorem K80:placesB Tryz.prog 73 [(0,1),(1,1),(2,1)]=true:=by kernel_rfl
theorem K7:sizeB Tryz.prog 73 3=true:=by kernel_rfl
theorem K38:fieldB Tryz.prog 73 0 0 3=true:=by kernel_rfl
theorem K35:aggB Tryz.prog 73=true:=by kernel_rfl
theorem K39:fieldB Tryz.prog 73 1 1 3=true:=by kernel_rfl
theorem K68:callB Tryz.prog 76=true:=by kernel_rfl
theorem K43:fieldB Tryz.prog 73 2 2 3=true:=by kernel_rfl
theorem K12:sliceB Tryz.prog 26 73=true:=by kernel_rfl
theorem K74:(Tryz.prog.info? 73).map (fun i=>i.zero.map (fun z=>z.cells.toList))=some (some [.int .i64 0,.int .i64 0,.int .i64 0]):=by kernel_rfl
theorem K66:bytesB Tryz.prog 73 24=true:=by kernel_rfl
theorem Pr:callB Tryz.prog 91=true:=by kernel_rfl
theorem K10:aggB Tryz.prog 28=true:=by kernel_rfl
theorem JN:callB Tryz.prog 58=true:=by kernel_rfl
theorem Ik:placesB Tryz.prog 25 [(0,1),(1,1)]=true:=by kernel_rfl
theorem K8:sizeB Tryz.prog 25 2=true:=by kernel_rfl
theorem K13:aggB Tryz.prog 25=true:=by kernel_rfl
theorem K50:fieldB Tryz.prog 25 1 1 23=true:=by kernel_rfl
theorem K40:sizeB Tryz.prog 23 1=true:=by kernel_rfl
theorem K69:scalB Tryz.prog 23=true:=by kernel_rfl
theorem K51:(Tryz.prog.info? 118).map (·.zero)=some (some (.agg #[.int .i64 0,.int .i64 0])):=by kernel_rfl
theorem Ef:placesB Tryz.prog 118 [(0,1),(1,1)]=true:=by kernel_rfl
theorem K34:sliceB Tryz.prog 23 118=true:=by kernel_rfl
theorem K20:sizeB Tryz.prog 118 2=true:=by kernel_rfl
theorem Fs:(Tryz.prog.info? 118).map (fun i=>i.zero.map (fun z=>z.cells.toList))=some (some [.int .i64 0,.int .i64 0]):=by kernel_rfl
theorem Gi:bytesB Tryz.prog 118 16=true:=by kernel_rfl
theorem So:callB Tryz.prog 93=true:=by kernel_rfl
theorem T3:callB Tryz.prog 94=true:=by kernel_rfl
theorem Ec:(Tryz.prog.info? 150).map (·.zero)=some (some (.agg #[.int .i64 0,.int .i64 0])):=by kernel_rfl
theorem FU:arrB Tryz.prog 150 2 3=true:=by kernel_rfl
theorem K92:sliceB Tryz.prog 149 150=true:=by kernel_rfl
theorem K82:sizeB Tryz.prog 150 2=true:=by kernel_rfl
theorem Pc:(Tryz.prog.info? 150).map (fun i=>i.zero.map (fun z=>z.cells.toList))=some (some ((List.replicate 2 0).flatMap encI)):=by kernel_rfl
theorem Ls:bytesB Tryz.prog 150 16=true:=by kernel_rfl
theorem KH:aggB Tryz.prog 150=true:=by kernel_rfl
theorem OM:Tryz.prog.eqGuardType Tryz.prog.depth 150=false:=by kernel_rfl
theorem Te:callB Tryz.prog 95=true:=by kernel_rfl
theorem Lo:callB Tryz.prog 60=true:=by kernel_rfl
theorem K45:fieldB Tryz.prog 25 0 0 3=true:=by kernel_rfl
theorem GG:callB Tryz.prog 74=true:=by kernel_rfl
theorem K83:bytesB Tryz.prog 3 8=true:=by kernel_rfl
theorem K75:(Tryz.prog.info? 3).map (·.zero)=some (some (.int .i64 0)):=by kernel_rfl
theorem OB:callB Tryz.prog 104=true:=by kernel_rfl
theorem VJ:callB Tryz.prog 103=true:=by kernel_rfl
theorem K42:fieldB Tryz.prog 28 0 0 3=true:=by kernel_rfl
theorem SZ:callB Tryz.prog 75=true:=by kernel_rfl
theorem Qb:callB Tryz.prog 31=true:=by kernel_rfl
theorem TW:callB Tryz.prog 22=true:=by kernel_rfl
theorem U5:callB Tryz.prog 4=true:=by kernel_rfl
theorem K61:(Tryz.prog.info? 34).map (·.zero)=some (some (.agg #[.slice none 0 0,.slice none 0 0])):=by kernel_rfl
theorem K46:aggB Tryz.prog 34=true:=by kernel_rfl
theorem K25:sizeB Tryz.prog 34 2=true:=by kernel_rfl
theorem K53:callB Tryz.prog 38=true:=by kernel_rfl
theorem Sp:callB Tryz.prog 89=true:=by kernel_rfl
theorem Er:callB Tryz.prog 55=true:=by kernel_rfl
theorem LX:callB Tryz.prog 81=true:=by kernel_rfl
theorem Tf:callB Tryz.prog 80=true:=by kernel_rfl
theorem Mu:callB Tryz.prog 53=true:=by kernel_rfl
theorem K93:callB Tryz.prog 48=true:=by kernel_rfl
theorem TH:callB Tryz.prog 96=true:=by kernel_rfl
theorem RG:callB Tryz.prog 61=true:=by kernel_rfl
theorem K85:aggB Tryz.prog 118=true:=by kernel_rfl
theorem K59:fieldB Tryz.prog 118 0 0 3=true:=by kernel_rfl
theorem K70:fieldB Tryz.prog 118 1 1 3=true:=by kernel_rfl
theorem Q9:callB Tryz.prog 39=true:=by kernel_rfl
theorem Jv:callB Tryz.prog 12=true:=by kernel_rfl
theorem JD:callB Tryz.prog 46=true:=by kernel_rfl
theorem Nj:callB Tryz.prog 23=true:=by kernel_rfl
theorem MQ:callB Tryz.prog 34=true:=by kernel_rfl
theorem Hv:callB Tryz.prog 50=true:=by kernel_rfl
theorem Pu:callB Tryz.prog 63=true:=by kernel_rfl
theorem ET:placesB Tryz.prog 34 [(0,1),(1,1)]=true:=by kernel_rfl
theorem K86:(Tryz.prog.info? 82).map (·.zero)=some (some (.agg #[.int .i64 0,.slice none 0 0,.int .i64 0,.slice none 0 0,.slice none 0 0,.slice none 0 0])):=by kernel_rfl
theorem K47:sliceB Tryz.prog 80 4=true:=by kernel_rfl
theorem K49:sizeB Tryz.prog 4 1=true:=by kernel_rfl
theorem Iz:bytesB Tryz.prog 4 1=true:=by kernel_rfl
theorem GQ:(Tryz.prog.info? 4).map (·.zero)=some (some (.bool false)):=by kernel_rfl
theorem PG:placesB Tryz.prog 82 [(0,2),(2,2),(4,1),(5,1)]=true:=by kernel_rfl
theorem K24:sizeB Tryz.prog 82 6=true:=by kernel_rfl
theorem E5:callB Tryz.prog 33=true:=by kernel_rfl
theorem K54:aggB Tryz.prog 82=true:=by kernel_rfl
theorem Kf:callB Tryz.prog 42=true:=by kernel_rfl
theorem K95:(Tryz.prog.info? 109).map (·.zero)=some (some (.agg #[.int .i64 0,.slice none 0 0,.int .i64 0,.slice none 0 0,.slice none 0 0,.slice none 0 0,.slice none 0 0])):=by kernel_rfl
theorem N0:placesB Tryz.prog 109 [(0,6),(6,1)]=true:=by kernel_rfl
theorem K57:sizeB Tryz.prog 109 7=true:=by kernel_rfl
theorem K94:fieldB Tryz.prog 109 0 0 82=true:=by kernel_rfl
theorem HO:fieldB Tryz.prog 82 1 2 28=true:=by kernel_rfl
theorem K76:fieldB Tryz.prog 82 3 5 80=true:=by kernel_rfl
theorem K41:sizeB Tryz.prog 80 1=true:=by kernel_rfl
theorem K60:scalB Tryz.prog 80=true:=by kernel_rfl
theorem K87:scalB Tryz.prog 4=true:=by kernel_rfl
theorem Mc:callB Tryz.prog 125=true:=by kernel_rfl
theorem Rn:callB Tryz.prog 139=true:=by kernel_rfl
theorem To:callB Tryz.prog 126=true:=by kernel_rfl
theorem Tu:callB Tryz.prog 124=true:=by kernel_rfl
theorem Sk:callB Tryz.prog 105=true:=by kernel_rfl
theorem LV:callB Tryz.prog 78=true:=by kernel_rfl
theorem Pf:fieldB Tryz.prog 82 0 0 25=true:=by kernel_rfl
theorem K73:fieldB Tryz.prog 82 2 4 31=true:=by kernel_rfl
theorem K16:sizeB Tryz.prog 31 1=true:=by kernel_rfl
theorem K23:scalB Tryz.prog 31=true:=by kernel_rfl
theorem VW:structB Tryz.prog 118 [(3,0),(3,1)]=true:=by kernel_rfl
theorem S8:Tryz.prog.stoodInHeld 118=false:=by kernel_rfl
theorem UK:Tryz.prog.eqGuardType Tryz.prog.depth 118=false:=by kernel_rfl
theorem Q0:callB Tryz.prog 120=true:=by kernel_rfl
theorem RZ:callB Tryz.prog 90=true:=by kernel_rfl
theorem JG:callB Tryz.prog 56=true:=by kernel_rfl
theorem Nk:callB Tryz.prog 79=true:=by kernel_rfl
theorem I0:fieldB Tryz.prog 109 1 6 32=true:=by kernel_rfl
theorem K36:sizeB Tryz.prog 32 1=true:=by kernel_rfl
theorem K55:scalB Tryz.prog 32=true:=by kernel_rfl
theorem K56:(Tryz.prog.info? 39).map (·.zero)=some (some (.agg #[.int .i64 0,.int .i64 0,.int .i64 0])):=by kernel_rfl
theorem IN:placesB Tryz.prog 39 [(0,1),(1,1),(2,1)]=true:=by kernel_rfl
theorem K31:sliceB Tryz.prog 32 39=true:=by kernel_rfl
theorem K26:sizeB Tryz.prog 39 3=true:=by kernel_rfl
theorem I9:(Tryz.prog.info? 39).map (fun i=>i.zero.map (fun z=>z.cells.toList))=some (some [.int .i64 0,.int .i64 0,.int .i64 0]):=by kernel_rfl
theorem K84:bytesB Tryz.prog 39 24=true:=by kernel_rfl
theorem LT:callB Tryz.prog 64=true:=by kernel_rfl
theorem K88:aggB Tryz.prog 109=true:=by kernel_rfl
theorem J2:(Tryz.prog.info? 112).map (·.zero)=some (some (.agg #[.int .i64 0,.int .i64 0,.int .i64 0,.int .i64 0,.int .i64 0,.int .u64 0])):=by kernel_rfl
theorem VL:placesB Tryz.prog 112 [(0,5),(5,1)]=true:=by kernel_rfl
theorem IV:sizeB Tryz.prog 112 6=true:=by kernel_rfl
theorem TB:fieldB Tryz.prog 112 0 0 110=true:=by kernel_rfl
theorem Lk:sizeB Tryz.prog 110 5=true:=by kernel_rfl
theorem KT:arrB Tryz.prog 110 5 3=true:=by kernel_rfl
theorem Ni:fieldB Tryz.prog 112 1 5 66=true:=by kernel_rfl
theorem KN:aggB Tryz.prog 112=true:=by kernel_rfl
theorem Hr:sliceB Tryz.prog 115 109=true:=by kernel_rfl
theorem PQ:(Tryz.prog.info? 109).map (fun i=>i.zero.map (fun z=>z.cells.toList))=some (some [.int .i64 0,.slice none 0 0,.int .i64 0,.slice none 0 0,.slice none 0 0,.slice none 0 0,.slice none 0 0]):=by kernel_rfl
theorem Jj:callB Tryz.prog 65=true:=by kernel_rfl
theorem PO:structB Tryz.prog 112 [(110,0),(66,5)]=true:=by kernel_rfl
theorem Tt:Tryz.prog.stoodInHeld 112=false:=by kernel_rfl
theorem OV:aggB Tryz.prog 110=true:=by kernel_rfl
theorem Jo:mapB Tryz.prog 114 112 4=true:=by kernel_rfl
theorem IT:Tryz.prog.underlying 4=some .bool:=by kernel_rfl
theorem Ta:callB Tryz.prog 97=true:=by kernel_rfl
theorem LI:callB Tryz.prog 66=true:=by kernel_rfl
theorem Kk:callB Tryz.prog 98=true:=by kernel_rfl
theorem PZ:callB Tryz.prog 77=true:=by kernel_rfl
theorem QA:callB Tryz.prog 99=true:=by kernel_rfl
theorem Vp:callB Tryz.prog 67=true:=by kernel_rfl
theorem Vj:bytesB Tryz.prog 109 136=true:=by kernel_rfl
theorem K71:fieldB Tryz.prog 34 1 1 32=true:=by kernel_rfl
theorem K96:aggB Tryz.prog 39=true:=by kernel_rfl
theorem K89:fieldB Tryz.prog 39 0 0 3=true:=by kernel_rfl
theorem M0:callB Tryz.prog 68=true:=by kernel_rfl
theorem SX:callB Tryz.prog 5=true:=by kernel_rfl
theorem Kn:callB Tryz.prog 69=true:=by kernel_rfl
theorem Lx:callB Tryz.prog 40=true:=by kernel_rfl
theorem VF:callB Tryz.prog 121=true:=by kernel_rfl
theorem Q5:callB Tryz.prog 100=true:=by kernel_rfl
theorem UX:callB Tryz.prog 70=true:=by kernel_rfl
theorem Qz:callB Tryz.prog 28=true:=by kernel_rfl
theorem K67:sliceB Tryz.prog 63 31=true:=by kernel_rfl
theorem Px:(Tryz.prog.info? 31).map (fun i=>i.zero.map (fun z=>z.cells.toList))=some (some [.slice none 0 0]):=by kernel_rfl
theorem GR:callB Tryz.prog 36=true:=by kernel_rfl
theorem N4:bytesB Tryz.prog 31 24=true:=by kernel_rfl
theorem Og:(Tryz.prog.info? 31).map (·.zero)=some (some (.slice none 0 0)):=by kernel_rfl
theorem EC:(Tryz.prog.info? 123).map (·.zero)=some (some (.agg #[.slice none 0 0,.slice none 0 0,.int .i64 0,.slice none 0 0])):=by kernel_rfl
theorem M9:placesB Tryz.prog 123 [(0,1),(1,1),(2,1),(3,1)]=true:=by kernel_rfl
theorem K97:fieldB Tryz.prog 123 1 1 80=true:=by kernel_rfl
theorem Ol:callB Tryz.prog 122=true:=by kernel_rfl
theorem Fx:fieldB Tryz.prog 123 0 0 31=true:=by kernel_rfl
theorem WJ:callB Tryz.prog 123=true:=by kernel_rfl
theorem VU:callB Tryz.prog 101=true:=by kernel_rfl
theorem WA:callB Tryz.prog 102=true:=by kernel_rfl
theorem JZ:fieldB Tryz.prog 123 3 3 32=true:=by kernel_rfl
theorem IF:aggB Tryz.prog 123=true:=by kernel_rfl
theorem K62:sizeB Tryz.prog 123 4=true:=by kernel_rfl
theorem NA:callB Tryz.prog 71=true:=by kernel_rfl
theorem PC:intB Tryz.prog 127 .u64=true:=by kernel_rfl
theorem Lh:callB Tryz.prog 72=true:=by kernel_rfl
theorem Jd:callB Tryz.prog 73=true:=by kernel_rfl
theorem K77:sliceB Tryz.prog 121 123=true:=by kernel_rfl
theorem M3:(Tryz.prog.info? 123).map (fun i=>i.zero.map (fun z=>z.cells.toList))=some (some [.slice none 0 0,.slice none 0 0,.int .i64 0,.slice none 0 0]):=by kernel_rfl
theorem LJ:bytesB Tryz.prog 123 80=true:=by kernel_rfl
theorem K90:fieldB Tryz.prog 34 0 0 31=true:=by kernel_rfl
theorem W2:fieldB Tryz.prog 123 2 2 3=true:=by kernel_rfl
theorem PV:callB Tryz.prog 37=true:=by kernel_rfl
theorem Sw:callB Tryz.prog 30=true:=by kernel_rfl
theorem Tm:callB Tryz.prog 29=true:=by kernel_rfl
theorem Sn:callB Tryz.prog 6=true:=by kernel_rfl
theorem Tb:callB Tryz.prog 7=true:=by kernel_rfl
theorem TP:structB Tryz.prog 39 [(3,0),(3,1),(3,2)]=true:=by kernel_rfl
theorem V3:Tryz.prog.stoodInHeld 39=false:=by kernel_rfl
theorem Ql:Tryz.prog.eqGuardType Tryz.prog.depth 39=false:=by kernel_rfl
theorem PB:callB Tryz.prog 9=true:=by kernel_rfl
theorem TK:callB Tryz.prog 8=true:=by kernel_rfl
theorem MA:callB Tryz.prog 32=true:=by kernel_rfl
theorem LQ:callB Tryz.prog 10=true:=by kernel_rfl
theorem Nx:callB Tryz.prog 35=true:=by kernel_rfl
theorem Tg:callB Tryz.prog 11=true:=by kernel_rfl
theorem QZ:callB Tryz.prog 13=true:=by kernel_rfl
theorem PK:callB Tryz.prog 26=true:=by kernel_rfl
theorem Jq:callB Tryz.prog 27=true:=by kernel_rfl
theorem Pm:callB Tryz.prog 14=true:=by kernel_rfl
theorem QD:callB Tryz.prog 15=true:=by kernel_rfl
theorem Ix:fieldB Tryz.prog 39 1 1 3=true:=by kernel_rfl
theorem HV:fieldB Tryz.prog 39 2 2 3=true:=by kernel_rfl
theorem N8:callB Tryz.prog 44=true:=by kernel_rfl
theorem My:callB Tryz.prog 47=true:=by kernel_rfl
theorem SC:callB Tryz.prog 41=true:=by kernel_rfl
theorem MI:callB Tryz.prog 43=true:=by kernel_rfl
theorem OE:callB Tryz.prog 45=true:=by kernel_rfl
theorem RI:callB Tryz.prog 16=true:=by kernel_rfl
theorem Sv:callB Tryz.prog 17=true:=by kernel_rfl
theorem H2:sliceB Tryz.prog 131 26=true:=by kernel_rfl
theorem Vb:(Tryz.prog.info? 26).map (fun i=>i.zero.map (fun z=>z.cells.toList))=some (some [.slice none 0 0]):=by kernel_rfl
theorem Vz:callB Tryz.prog 82=true:=by kernel_rfl
theorem SE:callB Tryz.prog 49=true:=by kernel_rfl
theorem QC:callB Tryz.prog 18=true:=by kernel_rfl
theorem QH:callB Tryz.prog 19=true:=by kernel_rfl
theorem K48:(Tryz.prog.info? 94).map (·.zero)=some (some (.agg #[.int .i64 0,.int .i64 0,.slice none 0 0])):=by kernel_rfl
theorem DQ:placesB Tryz.prog 94 [(0,1),(1,1),(2,1)]=true:=by kernel_rfl
theorem K14:sizeB Tryz.prog 94 3=true:=by kernel_rfl
theorem K32:aggB Tryz.prog 94=true:=by kernel_rfl
theorem IR:callB Tryz.prog 111=true:=by kernel_rfl
theorem K33:(Tryz.prog.info? 140).map (·.zero)=some (some (.agg #[.int .i64 0,.int .i64 0,.int .i64 0,.int .i64 0,.int .i64 0])):=by kernel_rfl
theorem K6:sizeB Tryz.prog 140 5=true:=by kernel_rfl
theorem EW:fieldB Tryz.prog 94 2 2 92=true:=by kernel_rfl
theorem K98:sizeB Tryz.prog 92 1=true:=by kernel_rfl
theorem Fy:scalB Tryz.prog 92=true:=by kernel_rfl
theorem K17:aggB Tryz.prog 140=true:=by kernel_rfl
theorem K78:sliceB Tryz.prog 92 140=true:=by kernel_rfl
theorem UT:(Tryz.prog.info? 140).map (fun i=>i.zero.map (fun z=>z.cells.toList))=some (some [.int .i64 0,.int .i64 0,.int .i64 0,.int .i64 0,.int .i64 0]):=by kernel_rfl
theorem SB:bytesB Tryz.prog 140 40=true:=by kernel_rfl
theorem K37:(Tryz.prog.info? 138).map (·.zero)=some (some (.agg #[.int .i64 0,.int .i64 0,.int .i64 0,.int .i64 0])):=by kernel_rfl
theorem K79:placesB Tryz.prog 138 [(0,1),(1,1),(2,1),(3,1)]=true:=by kernel_rfl
theorem K72:placesB Tryz.prog 140 [(0,4),(4,1)]=true:=by kernel_rfl
theorem Lf:callB Tryz.prog 108=true:=by kernel_rfl
theorem Wf:callB Tryz.prog 107=true:=by kernel_rfl
theorem Iu:callB Tryz.prog 106=true:=by kernel_rfl
theorem SY:callB Tryz.prog 83=true:=by kernel_rfl
theorem K18:aggB Tryz.prog 138=true:=by kernel_rfl
theorem K9:sizeB Tryz.prog 138 4=true:=by kernel_rfl
theorem K58:fieldB Tryz.prog 138 0 0 3=true:=by kernel_rfl
theorem II:callB Tryz.prog 142=true:=by kernel_rfl
theorem K63:fieldB Tryz.prog 138 1 1 3=true:=by kernel_rfl
theorem K64:fieldB Tryz.prog 138 2 2 3=true:=by kernel_rfl
theorem K65:fieldB Tryz.prog 138 3 3 3=true:=by kernel_rfl
theorem GK:callB Tryz.prog 135=true:=by kernel_rfl
theorem Ug:callB Tryz.prog 118=true:=by kernel_rfl
theorem He:callB Tryz.prog 87=true:=by kernel_rfl
theorem Gq:callB Tryz.prog 129=true:=by kernel_rfl
theorem Ib:callB Tryz.prog 130=true:=by kernel_rfl
theorem WC:callB Tryz.prog 128=true:=by kernel_rfl
theorem Fg:mapB Tryz.prog 184 3 3=true:=by kernel_rfl
theorem Fw:fieldB Tryz.prog 140 0 0 138=true:=by kernel_rfl
theorem SH:callB Tryz.prog 131=true:=by kernel_rfl
theorem Qg:callB Tryz.prog 127=true:=by kernel_rfl
theorem U9:callB Tryz.prog 109=true:=by kernel_rfl
theorem Ei:fieldB Tryz.prog 94 0 0 3=true:=by kernel_rfl
theorem K91:fieldB Tryz.prog 94 1 1 3=true:=by kernel_rfl
theorem W7:callB Tryz.prog 134=true:=by kernel_rfl
theorem EY:fieldB Tryz.prog 140 1 4 3=true:=by kernel_rfl
theorem Lg:callB Tryz.prog 136=true:=by kernel_rfl
theorem Fp:callB Tryz.prog 114=true:=by kernel_rfl
theorem Wx:callB Tryz.prog 113=true:=by kernel_rfl
theorem UF:callB Tryz.prog 112=true:=by kernel_rfl
theorem G2:callB Tryz.prog 85=true:=by kernel_rfl
theorem K99:sliceB Tryz.prog 189 138=true:=by kernel_rfl
theorem H7:(Tryz.prog.info? 138).map (fun i=>i.zero.map (fun z=>z.cells.toList))=some (some [.int .i64 0,.int .i64 0,.int .i64 0,.int .i64 0]):=by kernel_rfl
theorem Ts:bytesB Tryz.prog 138 32=true:=by kernel_rfl
theorem IB:callB Tryz.prog 143=true:=by kernel_rfl
theorem Wz:callB Tryz.prog 137=true:=by kernel_rfl
theorem TY:callB Tryz.prog 144=true:=by kernel_rfl
theorem LB:callB Tryz.prog 138=true:=by kernel_rfl
theorem J7:callB Tryz.prog 117=true:=by kernel_rfl
theorem Ok:callB Tryz.prog 116=true:=by kernel_rfl
theorem Td:callB Tryz.prog 146=true:=by kernel_rfl
theorem Mk:callB Tryz.prog 145=true:=by kernel_rfl
theorem RY:callB Tryz.prog 141=true:=by kernel_rfl
theorem VP:callB Tryz.prog 140=true:=by kernel_rfl
theorem VR:callB Tryz.prog 133=true:=by kernel_rfl
theorem Vv:callB Tryz.prog 132=true:=by kernel_rfl
theorem QY:callB Tryz.prog 110=true:=by kernel_rfl
theorem Re:callB Tryz.prog 84=true:=by kernel_rfl
theorem Mp:callB Tryz.prog 51=true:=by kernel_rfl
theorem Wd:callB Tryz.prog 115=true:=by kernel_rfl
theorem QO:callB Tryz.prog 86=true:=by kernel_rfl
theorem QK:structB Tryz.prog 140 [(138,0),(3,4)]=true:=by kernel_rfl
theorem W0:Tryz.prog.stoodInHeld 140=false:=by kernel_rfl
theorem Ux:structB Tryz.prog 138 [(3,0),(3,1),(3,2),(3,3)]=true:=by kernel_rfl
theorem Tr:Tryz.prog.stoodInHeld 138=false:=by kernel_rfl
theorem Wp:Tryz.prog.eqGuardType Tryz.prog.depth 140=false:=by kernel_rfl
theorem UO:callB Tryz.prog 119=true:=by kernel_rfl
theorem Uw:callB Tryz.prog 88=true:=by kernel_rfl
theorem WE:callB Tryz.prog 52=true:=by kernel_rfl
theorem QB:callB Tryz.prog 20=true:=by kernel_rfl
theorem Tq:callB Tryz.prog 54=true:=by kernel_rfl
theorem Up:callB Tryz.prog 21=true:=by kernel_rfl
theorem Oo:intB Tryz.prog 5 .u8=true:=by kernel_rfl
end Go.VK
