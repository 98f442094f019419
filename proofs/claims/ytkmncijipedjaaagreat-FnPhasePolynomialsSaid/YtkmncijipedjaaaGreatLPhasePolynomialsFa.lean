/- Closed facts on the types. -/
import Derived.Test.YtkmncijipedjaaaGreatLPhasePolynomialsFn
import Derived.Test.YtkmncijipedjaaaGreatChecked
namespace Go.VK
open Go.RowKit
open Go.Proofs
abbrev vi (x : Int) : Value := .int .i64 x
abbrev aD (b : Nat) : Option Addr := some ⟨b, 0, none⟩
abbrev kD_ (x : TDyadic) : List Value := [vi x.Num.A, vi x.Num.B, vi x.Num.C, vi x.Num.D, vi x.Exp]
abbrev gD_ (x : TDyadic) : Value := .agg #[vi x.Num.A, vi x.Num.B, vi x.Num.C, vi x.Num.D, vi x.Exp]
abbrev kR_ (x : TRing) : List Value := [vi x.A, vi x.B, vi x.C, vi x.D]
abbrev gR_ (x : TRing) : Value := .agg #[vi x.A, vi x.B, vi x.C, vi x.D]
abbrev kM_ (m : TMatrix) (B : Option Addr) (c : Nat) : List Value := [vi m.Rows, vi m.Cols, .slice B m.Cells.length c]
abbrev gM_ (m : TMatrix) (B : Option Addr) (c : Nat) : Value := .agg #[vi m.Rows, vi m.Cols, .slice B m.Cells.length c]
abbrev kZ_ : List Value := [vi 0, vi 0, vi 0, vi 0, vi 0]
abbrev gZ_ : Value := .agg #[vi 0, vi 0, vi 0, vi 0, vi 0]
abbrev kN_ : List Value := [vi 0, vi 0, .slice none 0 0]
abbrev gN_ : Value := .agg #[vi 0, vi 0, .slice none 0 0]
theorem lB {n m : Nat} (h : Nat.ble n m = true) : n ≤ m := Nat.le_of_ble_eq_true h
theorem mAr {α : Type} {b : α} {xs : List α} (ys : List α) (h : b ∈ xs) : b ∈ ys ++ xs := List.mem_append_right ys h
theorem mAl {α : Type} {b : α} {xs : List α} (ys : List α) (h : b ∈ xs) : b ∈ xs ++ ys := List.mem_append_left ys h
theorem mOd {α : Type} {b : α} {i : Nat} {xs : List α} (h : b ∈ xs.drop i) : b ∈ xs := List.mem_of_mem_drop h
section
variable {P : Program} {n : Nat} {N : FW} {f : Nat → Value} {w0 w : World} {ops : Array Oper} {rest : List Oper} {o : Oper} {S : World → Prop} {M : List Nat} {L : List Ob} {R : List Ro}
theorem rq (i t : Nat) {fuel : Nat} {listed : Array Bool} {v : Value} (hi : ops[i]? = some o) (hS : S w) (hy : ∀ w', S w' → Y P n f w' o v) (k : RA P n ops N S fuel (listed.setIfInBounds i true) (upd f t v) w)
    (hg : o.guard = none := by exact rfl) (hd : o.dst = some t := by exact rfl) (hs : Region.noSelect ops = true := by kernel_rfl) (hf : Region.free .any ops listed i = true := by kernel_rfl)
    (hr : (Region.ready .any ops listed).contains i = true := by kernel_rfl) : RA P n ops N S (fuel + 1) listed f w := ra_q i t hi hg hd hs hf hr hS hy k
theorem rA (rs : List Nat) {fuel : Nat} {listed : Array Bool} (h : AllR P n ops N S fuel listed f w rs) (hr : Region.ready .any ops listed = rs := by kernel_rfl) (hne : rs.isEmpty = false := by exact rfl) : RA P n ops N S (fuel + 1) listed f w := ra_all hr hne h
theorem sQ (t : Nat) {v : Value} (h : Y P n f w o v) (k : RW P n ops N rest (upd f t v) w) (hg : o.guard = none := by exact rfl) (hd : o.dst = some t := by exact rfl) : RW P n ops N (o :: rest) f w := sq t hg hd h k
theorem uT_ {j : Nat} (t : Nat) {b : Bool} (h : (ops.toList[j]?).bind (·.dst) = some t := by kernel_rfl) (hb : ev n f (.tmp t) = .bool b := by exact rfl) : Wt (gd n f ops j) true b := wt_t (gd_of h hb)
theorem uF_ {j : Nat} (t : Nat) {b : Bool} (h : (ops.toList[j]?).bind (·.dst) = some t := by kernel_rfl) (hb : ev n f (.tmp t) = .bool b := by exact rfl) : Wt (gd n f ops j) false (!b) := wt_f (gd_of h hb)
theorem s0 {S : Value → World → Prop} (h : Ys P n f w o S) (k : ∀ v w', S v w' → RW P n ops N rest f w') (hg : o.guard = none := by exact rfl) (hd : o.dst = none := by exact rfl) : RW P n ops N (o :: rest) f w := ss0 hg hd h k
theorem sS (t : Nat) {S : Value → World → Prop} (h : Ys P n f w o S) (k : ∀ v w', S v w' → RW P n ops N rest (upd f t v) w') (hg : o.guard = none := by exact rfl) (hd : o.dst = some t := by exact rfl) : RW P n ops N (o :: rest) f w := ss t hg hd h k
theorem ST.se (hS : ST w0 M w L R) (is : List Nat) (hn : decide is.Nodup = true := by exact rfl) (hb : is.all (fun i => (L[i]?).isSome) = true := by exact rfl) : ST w0 M w (is.filterMap fun i => L[i]?) R := hS.sel is hn hb
theorem ST.sN (hS : ST w0 M w L R) (is : List Nat) (hn : decide is.Nodup = true := by exact rfl) (hb : is.all (fun i => (L[i]?).isSome) = true := by exact rfl) : ST w0 M w (is.filterMap fun i => L[i]?) [] := ST.subR (hS.sel is hn hb) (fun _ h => by cases h)
end
section
variable {P : Program} {n : Nat} {f : Nat → Value} {w0 w : World} {o : Oper} {M : List Nat} {L L' : List Ob} {R : List Ro} {T T1 : TypeId} {x y : Operand} {a b : Int}
theorem yl (B : Option Addr) (i : Nat) (cs : List Value) (v : Value) (hT : scalB P T = true) (hc : CF w B cs) (ho : o.op = .load T x := by exact rfl) (hx : ev n f x = pt B i := by exact rfl) (hk : cs[i]? = some v := by exact rfl) : Y P n f w o v := Y_load1 hT ho hx hc hk
theorem ya (B : Option Addr) (i : Nat) (cs vs : List Value) {s : Nat} (hT : aggB P T = true) (hs : sizeB P T s = true) (hc : CF w B cs) (ho : o.op = .load T x := by exact rfl) (hx : ev n f x = pt B i := by exact rfl) (hl : vs.length = s := by exact rfl) (hk : (cs.drop i).take s = vs := by exact rfl) : Y P n f w o (.agg vs.toArray) := Y_loadA hT hs ho hx hc hl hk
theorem yb (B : Option Addr) (i : Nat) (cs : List Value) {s : Nat} (hT : aggB P T = true) (hs : sizeB P T s = true) (hc : CF w B cs) (ho : o.op = .load T x := by exact rfl) (hx : ev n f x = pt B i := by exact rfl) (hl : cs.length = s := by exact rfl) (hk : (cs.drop i).take s = cs := by exact rfl) : Y P n f w o (.agg cs.toArray) := Y_loadA hT hs ho hx hc hl hk
theorem yd (B : Option Addr) (i s : Nat) {j off ty : Nat} (hF : fieldB P T j off ty = true) (hs : sizeB P ty (s + 1) = true) (ho : o.op = .fieldAddr T x j := by exact rfl) (hx : ev n f x = pt B i := by exact rfl) : Y P n f w o (pt B (i + off)) := Y_fieldAddr hF hs ho hx
theorem ym (v : Value) (ho : o.op = .move x := by exact rfl) (hx : ev n f x = v := by exact rfl) : Y P n f w o v := Y_move ho hx
theorem yg (v : Value) (ho : o.op = .assign x := by exact rfl) (hx : ev n f x = v := by exact rfl) : Y P n f w o v := Y_assign ho hx
theorem yS (i s : Nat) (B : Option Addr) (T' : TypeId) (v : Value) (vs : List Value) (k : Nat) (cs' : List Value) {cs : List Value} {m : Nat} (hS : ST w0 M w L R) (hs : sizeB P T s = true) (ho : o.op = .store T x y := by exact rfl) (hx : ev n f x = pt B k := by exact rfl) (hy : ev n f y = v := by exact rfl) (hv : v.cells.toList = vs := by exact rfl)
    (hl : vs.length = s := by exact rfl) (h1 : one vs = true := by exact rfl) (hi : L[i]? = some ⟨B, T', cs, m⟩ := by exact rfl) (hk : k + s ≤ cs.length := by exact lB rfl) (hcs : splice cs k vs = cs' := by exact rfl) (hL : L.set i ⟨B, T', cs', m⟩ = L' := by exact rfl) : Ys P n f w o (fun v w' => v = undef ∧ ST w0 M w' L' R) := Ys_store hS hs ho hx hy hv hl h1 hi hk hcs hL
theorem yT (i s : Nat) (B : Option Addr) (T' : TypeId) (v : Value) (vs : List Value) (k : Nat) {cs : List Value} {m : Nat} (hS : ST w0 M w L R) (hs : sizeB P T s = true) (ho : o.op = .store T x y := by exact rfl) (hx : ev n f x = pt B k := by exact rfl) (hy : ev n f y = v := by exact rfl) (hv : v.cells.toList = vs := by exact rfl)
    (hl : vs.length = s := by exact rfl) (h1 : one vs = true := by exact rfl) (hi : L[i]? = some ⟨B, T', cs, m⟩ := by exact rfl) (hk : k + s ≤ cs.length := by exact lB rfl) (hcs : splice cs k vs = vs := by exact rfl) (hL : L.set i ⟨B, T', vs, m⟩ = L' := by exact rfl) : Ys P n f w o (fun v w' => v = undef ∧ ST w0 M w' L' R) := Ys_store hS hs ho hx hy hv hl h1 hi hk hcs hL
theorem yN (cs : List Value) (m : Nat) {z : Value} (hS : ST w0 M w L R) (hz : (P.info? T).map (·.zero) = some (some z)) (ho : o.op = .alloc T := by exact rfl) (hc : z.cells.toList = cs := by exact rfl) (hm : cs.length = m := by exact rfl) : Ys P n f w o (NewAt w0 M L R T cs m) := Ys_alloc hS hz ho hc hm
theorem yB (T : TypeId) (v : Value) (cs : List Value) (m : Nat) (hS : ST w0 M w L R) (ho : o.op = .box T x := by exact rfl) (hx : ev n f x = v := by exact rfl) (hc : v.cells.toList = cs := by exact rfl) (hm : cs.length = m := by exact rfl) : Ys P n f w o (NewAt w0 M L R T cs m) := Ys_box hS ho hx hc hm
theorem ye (v : Value) {i : Nat} {vs : Array Value} (ho : o.op = .extract x i := by exact rfl) (hx : ev n f x = .tuple vs := by exact rfl) (hv : vs[i]? = some v := by exact rfl) : Y P n f w o v := Y_extract ho hx hv
theorem yP (a b : Int) (ho : o.op = .binOp .add T x y T1 := by exact rfl) (hx : ev n f x = .int .i64 a := by exact rfl) (hy : ev n f y = .int .i64 b := by exact rfl) : Y P n f w o (.int .i64 (IntKind.i64.wrap (a + b))) := Y_add ho hx hy
theorem yM (a b : Int) (ho : o.op = .binOp .sub T x y T1 := by exact rfl) (hx : ev n f x = .int .i64 a := by exact rfl) (hy : ev n f y = .int .i64 b := by exact rfl) : Y P n f w o (.int .i64 (IntKind.i64.wrap (a - b))) := Y_sub ho hx hy
theorem yX (a b : Int) (ho : o.op = .binOp .mul T x y T1 := by exact rfl) (hx : ev n f x = .int .i64 a := by exact rfl) (hy : ev n f y = .int .i64 b := by exact rfl) : Y P n f w o (.int .i64 (IntKind.i64.wrap (a * b))) := Y_mul ho hx hy
theorem yE (a b : Int) (ho : o.op = .binOp .eql T x y T1 := by exact rfl) (hx : ev n f x = .int .i64 a := by exact rfl) (hy : ev n f y = .int .i64 b := by exact rfl) : Y P n f w o (.bool (a == b)) := Y_eq ho hx hy
theorem yL (a b : Int) (ho : o.op = .binOp .lss T x y T1 := by exact rfl) (hx : ev n f x = .int .i64 a := by exact rfl) (hy : ev n f y = .int .i64 b := by exact rfl) : Y P n f w o (.bool (decide (a < b))) := Y_lt ho hx hy
theorem ST.c (hS : ST w0 M w L R) (i : Nat) {B : Option Addr} {T : TypeId} {cs : List Value} {m : Nat} (hi : L[i]? = some ⟨B, T, cs, m⟩ := by exact rfl) : CF w B cs := hS.cf hi
theorem FF.g {l : List (Nat × Value)} (h : FF f l) (t i : Nat) {v : Value} (hi : l[i]? = some (t, v) := by exact rfl) : f t = v := h.get t i hi
theorem yC {g : Nat} {args : Array Operand} {tys : Array TypeId} {R : Value → World → Prop} (vs : List Value) (hg : callB P g = true) (hc : CV P g vs.toArray w R) (ho : o.op = .call ⟨.value (.func g), args, tys⟩ := by exact rfl) (ha : args.toList.map (ev n f) = vs := by repeat (first | exact mn | refine mc rfl ?_)) : Yc P n f w o R := Yc_func hg ho ha hc
theorem mt {α : Type} {l : List α} {x : α} (i : Nat) (h : l[i]? = some x := by exact rfl) : x ∈ l := mem_at h
theorem sk {α : Type} {x : α} {l R : List α} (i : Nat) (h' : ∀ r ∈ l, r ∈ R) (h : R[i]? = some x := by exact rfl) : ∀ r ∈ x :: l, r ∈ R := subc (mem_at h) h'
end
section
variable {P : Program} {n : Nat} {N : FW} {f : Nat → Value} {w0 w : World} {ops : Array Oper} {rest : List Oper} {o : Oper} {S : World → Prop}
theorem rS (t i : Nat) {rs : List Nat} {fuel : Nat} {listed : Array Bool} {S' : Value → World → Prop} (hi : ops[i]? = some o) (h : Ys P n f w o S') (k : ∀ v w', S' v w' → S w' ∧ RA P n ops N S fuel (listed.setIfInBounds i true) (upd f t v) w') (hrs : AllR P n ops N S fuel listed f w rs) (hg : o.guard = none := by exact rfl) (hd : o.dst = some t := by exact rfl) : AllR P n ops N S fuel listed f w (i :: rs) := ra_s t hi hg hd h k hrs
theorem rZ (i : Nat) {rs : List Nat} {fuel : Nat} {listed : Array Bool} {S' : Value → World → Prop} (hi : ops[i]? = some o) (h : Ys P n f w o S') (k : ∀ v w', S' v w' → S w' ∧ RA P n ops N S fuel (listed.setIfInBounds i true) f w') (hrs : AllR P n ops N S fuel listed f w rs) (hg : o.guard = none := by exact rfl) (hd : o.dst = none := by exact rfl) : AllR P n ops N S fuel listed f w (i :: rs) := ra_s0 hi hg hd h k hrs
theorem rC (t i : Nat) {rs : List Nat} {fuel : Nat} {listed : Array Bool} {S' : Value → World → Prop} (hi : ops[i]? = some o) (h : Yc P n f w o S') (k : ∀ v w', S' v w' → S w' ∧ RA P n ops N S fuel (listed.setIfInBounds i true) (upd f t v) w') (hrs : AllR P n ops N S fuel listed f w rs) (hg : o.guard = none := by exact rfl) (hd : o.dst = some t := by exact rfl) : AllR P n ops N S fuel listed f w (i :: rs) := ra_c t hi hg hd h k hrs
end
abbrev lH (B : Option Addr) (c : Nat) (r : List TDyadic) : List (Hd × List TDyadic) := [((B, c), r)]
abbrev dT (i2 : Nat) : List UInt8 := List.drop (i2 : Int).toNat (List.take (IntKind.i64.wrap ((i2 : Int) + 1)).toNat ([72, 83] : List UInt8))
set_option linter.defProp false
def fc := @FF.cons
def fn_ := @FF.nil
def cr := @cw_region
def cq := @cw_seq
def rn := @rw_nil
def ct_ := @cw_ret
def sI := @some_inj
def bI := @bind_inv
def aN := @allR_nil
theorem K85 : sliceB Tryz.prog 22 5 = true := by kernel_rfl
theorem K45 : (Tryz.prog.info? 28).map (·.zero) = some (some (.agg #[.int .i64 0, .slice none 0 0])) := by kernel_rfl
theorem k_zero_115 : (Tryz.prog.info? 115).map (·.zero) = some (some (.agg #[.slice none 0 0, .int .i64 0, .int .u64 0])) := by kernel_rfl
theorem k_pl_115 : placesB Tryz.prog 115 [(0, 1), (1, 1), (2, 1)] = true := by kernel_rfl
theorem K84 : fieldB Tryz.prog 115 1 1 3 = true := by kernel_rfl
theorem K0 : sizeB Tryz.prog 3 1 = true := by kernel_rfl
theorem K1 : scalB Tryz.prog 3 = true := by kernel_rfl
theorem K111 : fieldB Tryz.prog 115 0 0 22 = true := by kernel_rfl
theorem K112 : sizeB Tryz.prog 22 1 = true := by kernel_rfl
theorem K113 : scalB Tryz.prog 22 = true := by kernel_rfl
theorem k_sz_5_1 : sizeB Tryz.prog 5 1 = true := by kernel_rfl
theorem k_sc_5 : scalB Tryz.prog 5 = true := by kernel_rfl
theorem k_us_5 : (Tryz.prog.underlying 5).isSome = true := by kernel_rfl
theorem K28 : intB Tryz.prog 3 .i64 = true := by kernel_rfl
theorem K114 : fieldB Tryz.prog 115 2 2 113 = true := by kernel_rfl
theorem K95 : sizeB Tryz.prog 113 1 = true := by kernel_rfl
theorem k_sc_113 : scalB Tryz.prog 113 = true := by kernel_rfl
theorem K54 : (Tryz.prog.underlying 3).isSome = true := by kernel_rfl
theorem k_int_113_u64 : intB Tryz.prog 113 .u64 = true := by kernel_rfl
theorem K115 : (Tryz.prog.underlying 113).isSome = true := by kernel_rfl
theorem k_call_218 : callB Tryz.prog 218 = true := by kernel_rfl
theorem K38 : callB Tryz.prog 116 = true := by kernel_rfl
theorem k_call_118 : callB Tryz.prog 118 = true := by kernel_rfl
theorem K2 : sliceB Tryz.prog 31 3 = true := by kernel_rfl
theorem K46 : (Tryz.prog.info? 3).map (fun i => i.zero.map (fun z => z.cells.toList)) = some (some [.int .i64 0]) := by kernel_rfl
theorem k_call_224 : callB Tryz.prog 224 = true := by kernel_rfl
theorem K96 : placesB Tryz.prog 28 [(0, 1), (1, 1)] = true := by kernel_rfl
theorem K11 : sizeB Tryz.prog 28 2 = true := by kernel_rfl
theorem K36 : fieldB Tryz.prog 28 1 1 26 = true := by kernel_rfl
theorem K21 : sizeB Tryz.prog 26 1 = true := by kernel_rfl
theorem K37 : scalB Tryz.prog 26 = true := by kernel_rfl
theorem K9 : (Tryz.prog.info? 120).map (·.zero) = some (some (.agg #[.int .i64 0, .int .i64 0, .int .i64 0])) := by kernel_rfl
theorem K41 : placesB Tryz.prog 120 [(0, 1), (1, 1), (2, 1)] = true := by kernel_rfl
theorem K3 : sizeB Tryz.prog 120 3 = true := by kernel_rfl
theorem K33 : fieldB Tryz.prog 120 0 0 3 = true := by kernel_rfl
theorem K24 : aggB Tryz.prog 120 = true := by kernel_rfl
theorem K18 : fieldB Tryz.prog 120 1 1 3 = true := by kernel_rfl
theorem K72 : callB Tryz.prog 181 = true := by kernel_rfl
theorem K26 : fieldB Tryz.prog 120 2 2 3 = true := by kernel_rfl
theorem K5 : sliceB Tryz.prog 26 120 = true := by kernel_rfl
theorem K35 : (Tryz.prog.info? 120).map (fun i => i.zero.map (fun z => z.cells.toList)) = some (some [.int .i64 0, .int .i64 0, .int .i64 0]) := by kernel_rfl
theorem K27 : bytesB Tryz.prog 120 24 = true := by kernel_rfl
theorem k_call_258 : callB Tryz.prog 258 = true := by kernel_rfl
theorem K22 : aggB Tryz.prog 28 = true := by kernel_rfl
theorem k_call_165 : callB Tryz.prog 165 = true := by kernel_rfl
theorem k_call_223 : callB Tryz.prog 223 = true := by kernel_rfl
theorem K31 : fieldB Tryz.prog 28 0 0 3 = true := by kernel_rfl
theorem k_call_132 : callB Tryz.prog 132 = true := by kernel_rfl
theorem k_call_133 : callB Tryz.prog 133 = true := by kernel_rfl
theorem k_call_37 : callB Tryz.prog 37 = true := by kernel_rfl
theorem K32 : (Tryz.prog.info? 62).map (·.zero) = some (some (.agg #[.int .i64 0, .int .i64 0, .slice none 0 0, .slice none 0 0])) := by kernel_rfl
theorem K30 : callB Tryz.prog 77 = true := by kernel_rfl
theorem k_call_191 : callB Tryz.prog 191 = true := by kernel_rfl
theorem k_call_94 : callB Tryz.prog 94 = true := by kernel_rfl
theorem k_call_186 : callB Tryz.prog 186 = true := by kernel_rfl
theorem k_call_185 : callB Tryz.prog 185 = true := by kernel_rfl
theorem k_call_92 : callB Tryz.prog 92 = true := by kernel_rfl
theorem K93 : callB Tryz.prog 87 = true := by kernel_rfl
theorem K58 : placesB Tryz.prog 62 [(0, 1), (1, 1), (2, 1), (3, 1)] = true := by kernel_rfl
theorem K20 : sizeB Tryz.prog 62 4 = true := by kernel_rfl
theorem K47 : aggB Tryz.prog 62 = true := by kernel_rfl
theorem K60 : (Tryz.prog.info? 60).map (·.zero) = some (some (.agg #[.slice none 0 0])) := by kernel_rfl
theorem k_pl_60 : placesB Tryz.prog 60 [(0, 1)] = true := by kernel_rfl
theorem K19 : sizeB Tryz.prog 60 1 = true := by kernel_rfl
theorem K29 : fieldB Tryz.prog 60 0 0 31 = true := by kernel_rfl
theorem K14 : sizeB Tryz.prog 31 1 = true := by kernel_rfl
theorem K13 : scalB Tryz.prog 31 = true := by kernel_rfl
theorem K76 : bytesB Tryz.prog 3 8 = true := by kernel_rfl
theorem K57 : (Tryz.prog.info? 3).map (·.zero) = some (some (.int .i64 0)) := by kernel_rfl
theorem K51 : aggB Tryz.prog 60 = true := by kernel_rfl
theorem K77 : (Tryz.prog.info? 171).map (·.zero) = some (some (.agg #[.int .i64 0, .int .i64 0, .int .i64 0, .int .i64 0, .int .i64 0, .int .i64 0, .int .i64 0, .int .i64 0, .int .i64 0, .int .i64 0, .int .i64 0, .int .i64 0, .int .i64 0, .int .i64 0, .int .i64 0, .int .i64 0, .int .i64 0, .int .i64 0, .int .i64 0, .int .i64 0, .int .i64 0, .int .i64 0, .int .i64 0, .int .i64 0, .int .i64 0, .int .i64 0, .int .i64 0, .int .i64 0, .int .i64 0, .int .i64 0, .int .i64 0, .int .i64 0])) := by kernel_rfl
theorem K92 : arrB Tryz.prog 171 32 3 = true := by kernel_rfl
theorem K65 : sizeB Tryz.prog 171 32 = true := by kernel_rfl
theorem K83 : callB Tryz.prog 123 = true := by kernel_rfl
theorem K66 : fieldB Tryz.prog 62 3 3 60 = true := by kernel_rfl
theorem K94 : callB Tryz.prog 124 = true := by kernel_rfl
theorem K61 : fieldB Tryz.prog 62 1 1 3 = true := by kernel_rfl
theorem k_call_125 : callB Tryz.prog 125 = true := by kernel_rfl
theorem k_ag_171 : aggB Tryz.prog 171 = true := by kernel_rfl
theorem K40 : sliceB Tryz.prog 58 157 = true := by kernel_rfl
theorem K34 : sizeB Tryz.prog 157 2 = true := by kernel_rfl
theorem k_zc_157 : (Tryz.prog.info? 157).map (fun i => i.zero.map (fun z => z.cells.toList)) = some (some [.int .i64 0, .int .i64 0]) := by kernel_rfl
theorem K70 : (Tryz.prog.info? 157).map (·.zero) = some (some (.agg #[.int .i64 0, .int .i64 0])) := by kernel_rfl
theorem k_pl_157 : placesB Tryz.prog 157 [(0, 1), (1, 1)] = true := by kernel_rfl
theorem k_by_157_16 : bytesB Tryz.prog 157 16 = true := by kernel_rfl
theorem k_call_126 : callB Tryz.prog 126 = true := by kernel_rfl
theorem K71 : fieldB Tryz.prog 62 2 2 58 = true := by kernel_rfl
theorem K62 : sizeB Tryz.prog 58 1 = true := by kernel_rfl
theorem k_call_32 : callB Tryz.prog 32 = true := by kernel_rfl
theorem k_call_225 : callB Tryz.prog 225 = true := by kernel_rfl
theorem k_call_134 : callB Tryz.prog 134 = true := by kernel_rfl
theorem K59 : intB Tryz.prog 77 .u64 = true := by kernel_rfl
theorem k_call_121 : callB Tryz.prog 121 = true := by kernel_rfl
theorem k_call_75 : callB Tryz.prog 75 = true := by kernel_rfl
theorem K97 : callB Tryz.prog 135 = true := by kernel_rfl
theorem K98 : callB Tryz.prog 136 = true := by kernel_rfl
theorem k_call_117 : callB Tryz.prog 117 = true := by kernel_rfl
theorem k_call_38 : callB Tryz.prog 38 = true := by kernel_rfl
theorem k_und_4 : Tryz.prog.underlying 4 = some .bool := by kernel_rfl
theorem K73 : fieldB Tryz.prog 62 0 0 3 = true := by kernel_rfl
theorem K87 : scalB Tryz.prog 58 = true := by kernel_rfl
theorem K86 : aggB Tryz.prog 157 = true := by kernel_rfl
theorem k_st_157 : structB Tryz.prog 157 [(3, 0), (3, 1)] = true := by kernel_rfl
theorem k_ho_157 : Tryz.prog.stoodInHeld 157 = false := by kernel_rfl
theorem k_eg_157 : Tryz.prog.eqGuardType Tryz.prog.depth 157 = false := by kernel_rfl
theorem k_call_33 : callB Tryz.prog 33 = true := by kernel_rfl
theorem k_call_10 : callB Tryz.prog 10 = true := by kernel_rfl
theorem k_call_39 : callB Tryz.prog 39 = true := by kernel_rfl
theorem K78 : fieldB Tryz.prog 157 0 0 3 = true := by kernel_rfl
theorem K116 : fieldB Tryz.prog 157 1 1 3 = true := by kernel_rfl
theorem k_call_120 : callB Tryz.prog 120 = true := by kernel_rfl
theorem k_call_313 : callB Tryz.prog 313 = true := by kernel_rfl
theorem k_call_279 : callB Tryz.prog 279 = true := by kernel_rfl
theorem k_call_72 : callB Tryz.prog 72 = true := by kernel_rfl
theorem k_call_314 : callB Tryz.prog 314 = true := by kernel_rfl
theorem k_call_315 : callB Tryz.prog 315 = true := by kernel_rfl
theorem k_call_278 : callB Tryz.prog 278 = true := by kernel_rfl
theorem k_call_280 : callB Tryz.prog 280 = true := by kernel_rfl
theorem k_call_194 : callB Tryz.prog 194 = true := by kernel_rfl
theorem k_call_97 : callB Tryz.prog 97 = true := by kernel_rfl
theorem k_int_5_u8 : intB Tryz.prog 5 .u8 = true := by kernel_rfl
theorem k_str_9 : strB Tryz.prog 9 = true := by kernel_rfl
theorem k_call_227 : callB Tryz.prog 227 = true := by kernel_rfl
theorem k_call_137 : callB Tryz.prog 137 = true := by kernel_rfl
theorem k_zero_262 : (Tryz.prog.info? 262).map (·.zero) = some (some (.agg #[.slice none 0 0, .slice none 0 0, .slice none 0 0, .slice none 0 0, .slice none 0 0, .slice none 0 0, .slice none 0 0, .slice none 0 0])) := by kernel_rfl
theorem K63 : arrB Tryz.prog 262 8 31 = true := by kernel_rfl
theorem k_sz_262_8 : sizeB Tryz.prog 262 8 = true := by kernel_rfl
theorem k_call_138 : callB Tryz.prog 138 = true := by kernel_rfl
theorem k_call_139 : callB Tryz.prog 139 = true := by kernel_rfl
theorem k_zero_31 : (Tryz.prog.info? 31).map (·.zero) = some (some (.slice none 0 0)) := by kernel_rfl
theorem k_zero_26 : (Tryz.prog.info? 26).map (·.zero) = some (some (.slice none 0 0)) := by kernel_rfl
theorem k_call_282 : callB Tryz.prog 282 = true := by kernel_rfl
theorem k_call_201 : callB Tryz.prog 201 = true := by kernel_rfl
theorem k_call_317 : callB Tryz.prog 317 = true := by kernel_rfl
theorem k_call_283 : callB Tryz.prog 283 = true := by kernel_rfl
theorem k_us_77 : (Tryz.prog.underlying 77).isSome = true := by kernel_rfl
theorem k_call_207 : callB Tryz.prog 207 = true := by kernel_rfl
theorem k_call_104 : callB Tryz.prog 104 = true := by kernel_rfl
theorem k_call_105 : callB Tryz.prog 105 = true := by kernel_rfl
theorem k_call_84 : callB Tryz.prog 84 = true := by kernel_rfl
theorem k_call_40 : callB Tryz.prog 40 = true := by kernel_rfl
theorem K23 : (Tryz.prog.info? 81).map (·.zero) = some (some (.agg #[.int .i64 0, .int .i64 0, .slice none 0 0])) := by kernel_rfl
theorem K68 : placesB Tryz.prog 81 [(0, 1), (1, 1), (2, 1)] = true := by kernel_rfl
theorem K8 : sizeB Tryz.prog 81 3 = true := by kernel_rfl
theorem K17 : aggB Tryz.prog 81 = true := by kernel_rfl
theorem K105 : callB Tryz.prog 268 = true := by kernel_rfl
theorem K15 : (Tryz.prog.info? 90).map (·.zero) = some (some (.agg #[.int .i64 0, .int .i64 0, .int .i64 0, .int .i64 0, .int .i64 0])) := by kernel_rfl
theorem K4 : sizeB Tryz.prog 90 5 = true := by kernel_rfl
theorem K53 : fieldB Tryz.prog 81 2 2 79 = true := by kernel_rfl
theorem K48 : sizeB Tryz.prog 79 1 = true := by kernel_rfl
theorem K55 : scalB Tryz.prog 79 = true := by kernel_rfl
theorem K10 : aggB Tryz.prog 90 = true := by kernel_rfl
theorem K49 : sliceB Tryz.prog 79 90 = true := by kernel_rfl
theorem k_zc_90 : (Tryz.prog.info? 90).map (fun i => i.zero.map (fun z => z.cells.toList)) = some (some [.int .i64 0, .int .i64 0, .int .i64 0, .int .i64 0, .int .i64 0]) := by kernel_rfl
theorem k_by_90_40 : bytesB Tryz.prog 90 40 = true := by kernel_rfl
theorem K25 : (Tryz.prog.info? 88).map (·.zero) = some (some (.agg #[.int .i64 0, .int .i64 0, .int .i64 0, .int .i64 0])) := by kernel_rfl
theorem K56 : placesB Tryz.prog 88 [(0, 1), (1, 1), (2, 1), (3, 1)] = true := by kernel_rfl
theorem K50 : placesB Tryz.prog 90 [(0, 4), (4, 1)] = true := by kernel_rfl
theorem K117 : callB Tryz.prog 231 = true := by kernel_rfl
theorem k_call_230 : callB Tryz.prog 230 = true := by kernel_rfl
theorem K106 : callB Tryz.prog 229 = true := by kernel_rfl
theorem k_call_142 : callB Tryz.prog 142 = true := by kernel_rfl
theorem K12 : aggB Tryz.prog 88 = true := by kernel_rfl
theorem K6 : sizeB Tryz.prog 88 4 = true := by kernel_rfl
theorem K39 : fieldB Tryz.prog 88 0 0 3 = true := by kernel_rfl
theorem K107 : callB Tryz.prog 320 = true := by kernel_rfl
theorem K42 : fieldB Tryz.prog 88 1 1 3 = true := by kernel_rfl
theorem K43 : fieldB Tryz.prog 88 2 2 3 = true := by kernel_rfl
theorem K44 : fieldB Tryz.prog 88 3 3 3 = true := by kernel_rfl
theorem K88 : callB Tryz.prog 295 = true := by kernel_rfl
theorem k_call_236 : callB Tryz.prog 236 = true := by kernel_rfl
theorem K89 : callB Tryz.prog 145 = true := by kernel_rfl
theorem K79 : callB Tryz.prog 290 = true := by kernel_rfl
theorem K108 : callB Tryz.prog 291 = true := by kernel_rfl
theorem k_call_289 : callB Tryz.prog 289 = true := by kernel_rfl
theorem k_call_174 : callB Tryz.prog 174 = true := by kernel_rfl
theorem K80 : mapB Tryz.prog 333 3 3 = true := by kernel_rfl
theorem K81 : fieldB Tryz.prog 90 0 0 88 = true := by kernel_rfl
theorem k_call_292 : callB Tryz.prog 292 = true := by kernel_rfl
theorem k_call_288 : callB Tryz.prog 288 = true := by kernel_rfl
theorem k_call_234 : callB Tryz.prog 234 = true := by kernel_rfl
theorem K75 : fieldB Tryz.prog 81 0 0 3 = true := by kernel_rfl
theorem K64 : fieldB Tryz.prog 81 1 1 3 = true := by kernel_rfl
theorem k_call_308 : callB Tryz.prog 308 = true := by kernel_rfl
theorem K74 : fieldB Tryz.prog 90 1 4 3 = true := by kernel_rfl
theorem K118 : callB Tryz.prog 309 = true := by kernel_rfl
theorem K90 : callB Tryz.prog 271 = true := by kernel_rfl
theorem k_call_270 : callB Tryz.prog 270 = true := by kernel_rfl
theorem k_call_269 : callB Tryz.prog 269 = true := by kernel_rfl
theorem K119 : callB Tryz.prog 188 = true := by kernel_rfl
theorem K69 : sliceB Tryz.prog 340 88 = true := by kernel_rfl
theorem K91 : (Tryz.prog.info? 88).map (fun i => i.zero.map (fun z => z.cells.toList)) = some (some [.int .i64 0, .int .i64 0, .int .i64 0, .int .i64 0]) := by kernel_rfl
theorem k_by_88_32 : bytesB Tryz.prog 88 32 = true := by kernel_rfl
theorem K109 : callB Tryz.prog 323 = true := by kernel_rfl
theorem k_call_310 : callB Tryz.prog 310 = true := by kernel_rfl
theorem k_call_324 : callB Tryz.prog 324 = true := by kernel_rfl
theorem k_call_311 : callB Tryz.prog 311 = true := by kernel_rfl
theorem K82 : callB Tryz.prog 233 = true := by kernel_rfl
theorem K110 : callB Tryz.prog 273 = true := by kernel_rfl
theorem k_call_326 : callB Tryz.prog 326 = true := by kernel_rfl
theorem k_call_325 : callB Tryz.prog 325 = true := by kernel_rfl
theorem k_call_319 : callB Tryz.prog 319 = true := by kernel_rfl
theorem k_call_318 : callB Tryz.prog 318 = true := by kernel_rfl
theorem k_call_294 : callB Tryz.prog 294 = true := by kernel_rfl
theorem k_call_293 : callB Tryz.prog 293 = true := by kernel_rfl
theorem k_call_235 : callB Tryz.prog 235 = true := by kernel_rfl
theorem k_call_144 : callB Tryz.prog 144 = true := by kernel_rfl
theorem k_call_90 : callB Tryz.prog 90 = true := by kernel_rfl
theorem k_st_90 : structB Tryz.prog 90 [(88, 0), (3, 4)] = true := by kernel_rfl
theorem k_ho_90 : Tryz.prog.stoodInHeld 90 = false := by kernel_rfl
theorem k_st_88 : structB Tryz.prog 88 [(3, 0), (3, 1), (3, 2), (3, 3)] = true := by kernel_rfl
theorem k_ho_88 : Tryz.prog.stoodInHeld 88 = false := by kernel_rfl
theorem k_eg_90 : Tryz.prog.eqGuardType Tryz.prog.depth 90 = false := by kernel_rfl
theorem k_call_140 : callB Tryz.prog 140 = true := by kernel_rfl
theorem k_call_41 : callB Tryz.prog 41 = true := by kernel_rfl
theorem k_call_287 : callB Tryz.prog 287 = true := by kernel_rfl
theorem k_call_228 : callB Tryz.prog 228 = true := by kernel_rfl
theorem k_call_141 : callB Tryz.prog 141 = true := by kernel_rfl
theorem k_call_42 : callB Tryz.prog 42 = true := by kernel_rfl
theorem k_call_232 : callB Tryz.prog 232 = true := by kernel_rfl
theorem k_call_143 : callB Tryz.prog 143 = true := by kernel_rfl
theorem K120 : callB Tryz.prog 44 = true := by kernel_rfl
theorem K121 : callB Tryz.prog 43 = true := by kernel_rfl
theorem k_call_45 : callB Tryz.prog 45 = true := by kernel_rfl
theorem k_call_46 : callB Tryz.prog 46 = true := by kernel_rfl
end Go.VK
