/- Closed facts on the types. -/
import Derived.Test.YtkmncijipedjaaaGreatDoorIsShortestFn
import Derived.Test.YtkmncijipedjaaaGreatDoorChecked
namespace Go.VK
open Go.RowKit
open Go.Proofs
abbrev vi (x : Int) : Value := .int .i64 x
abbrev aD (b : Nat) : Option Addr := some ⟨b, 0, none⟩
abbrev kD_ (x : TDyadic) : List Value := [vi x.Num.A, vi x.Num.B, vi x.Num.C, vi x.Num.D, vi x.Exp]
abbrev gD_ (x : TDyadic) : Value := .agg #[vi x.Num.A, vi x.Num.B, vi x.Num.C, vi x.Num.D, vi x.Exp]
abbrev kR_ (x : TRing) : List Value := [vi x.A, vi x.B, vi x.C, vi x.D]
abbrev gR_ (x : TRing) : Value := .agg #[vi x.A, vi x.B, vi x.C, vi x.D]
abbrev kM_ (m : TMatrix) (B : Option Addr) (c : Nat) : List Value := [vi m.Rows, vi m.Cols, .slice B m.Cells.length c]
abbrev gM_ (m : TMatrix) (B : Option Addr) (c : Nat) : Value := .agg #[vi m.Rows, vi m.Cols, .slice B m.Cells.length c]
abbrev kZ_ : List Value := [vi 0, vi 0, vi 0, vi 0, vi 0]
abbrev gZ_ : Value := .agg #[vi 0, vi 0, vi 0, vi 0, vi 0]
abbrev kN_ : List Value := [vi 0, vi 0, .slice none 0 0]
abbrev gN_ : Value := .agg #[vi 0, vi 0, .slice none 0 0]
theorem lB {n m : Nat} (h : Nat.ble n m = true) : n ≤ m := Nat.le_of_ble_eq_true h
theorem mAr {α : Type} {b : α} {xs : List α} (ys : List α) (h : b ∈ xs) : b ∈ ys ++ xs := List.mem_append_right ys h
theorem mAl {α : Type} {b : α} {xs : List α} (ys : List α) (h : b ∈ xs) : b ∈ xs ++ ys := List.mem_append_left ys h
theorem mOd {α : Type} {b : α} {i : Nat} {xs : List α} (h : b ∈ xs.drop i) : b ∈ xs := List.mem_of_mem_drop h
section
variable {P : Program} {n : Nat} {N : FW} {f : Nat → Value} {w0 w : World} {ops : Array Oper} {rest : List Oper} {o : Oper} {S : World → Prop} {M : List Nat} {L : List Ob} {R : List Ro}
theorem rq (i t : Nat) {fuel : Nat} {listed : Array Bool} {v : Value} (hi : ops[i]? = some o) (hS : S w) (hy : ∀ w', S w' → Y P n f w' o v) (k : RA P n ops N S fuel (listed.setIfInBounds i true) (upd f t v) w)
    (hg : o.guard = none := by exact rfl) (hd : o.dst = some t := by exact rfl) (hs : Region.noSelect ops = true := by kernel_rfl) (hf : Region.free .any ops listed i = true := by kernel_rfl)
    (hr : (Region.ready .any ops listed).contains i = true := by kernel_rfl) : RA P n ops N S (fuel + 1) listed f w := ra_q i t hi hg hd hs hf hr hS hy k
theorem rA (rs : List Nat) {fuel : Nat} {listed : Array Bool} (h : AllR P n ops N S fuel listed f w rs) (hr : Region.ready .any ops listed = rs := by kernel_rfl) (hne : rs.isEmpty = false := by exact rfl) : RA P n ops N S (fuel + 1) listed f w := ra_all hr hne h
theorem sQ (t : Nat) {v : Value} (h : Y P n f w o v) (k : RW P n ops N rest (upd f t v) w) (hg : o.guard = none := by exact rfl) (hd : o.dst = some t := by exact rfl) : RW P n ops N (o :: rest) f w := sq t hg hd h k
theorem uT_ {j : Nat} (t : Nat) {b : Bool} (h : (ops.toList[j]?).bind (·.dst) = some t := by kernel_rfl) (hb : ev n f (.tmp t) = .bool b := by exact rfl) : Wt (gd n f ops j) true b := wt_t (gd_of h hb)
theorem uF_ {j : Nat} (t : Nat) {b : Bool} (h : (ops.toList[j]?).bind (·.dst) = some t := by kernel_rfl) (hb : ev n f (.tmp t) = .bool b := by exact rfl) : Wt (gd n f ops j) false (!b) := wt_f (gd_of h hb)
theorem s0 {S : Value → World → Prop} (h : Ys P n f w o S) (k : ∀ v w', S v w' → RW P n ops N rest f w') (hg : o.guard = none := by exact rfl) (hd : o.dst = none := by exact rfl) : RW P n ops N (o :: rest) f w := ss0 hg hd h k
theorem sS (t : Nat) {S : Value → World → Prop} (h : Ys P n f w o S) (k : ∀ v w', S v w' → RW P n ops N rest (upd f t v) w') (hg : o.guard = none := by exact rfl) (hd : o.dst = some t := by exact rfl) : RW P n ops N (o :: rest) f w := ss t hg hd h k
theorem ST.se (hS : ST w0 M w L R) (is : List Nat) (hn : decide is.Nodup = true := by exact rfl) (hb : is.all (fun i => (L[i]?).isSome) = true := by exact rfl) : ST w0 M w (is.filterMap fun i => L[i]?) R := hS.sel is hn hb
theorem ST.sN (hS : ST w0 M w L R) (is : List Nat) (hn : decide is.Nodup = true := by exact rfl) (hb : is.all (fun i => (L[i]?).isSome) = true := by exact rfl) : ST w0 M w (is.filterMap fun i => L[i]?) [] := ST.subR (hS.sel is hn hb) (fun _ h => by cases h)
end
section
variable {P : Program} {n : Nat} {f : Nat → Value} {w0 w : World} {o : Oper} {M : List Nat} {L L' : List Ob} {R : List Ro} {T T1 : TypeId} {x y : Operand} {a b : Int}
theorem yl (B : Option Addr) (i : Nat) (cs : List Value) (v : Value) (hT : scalB P T = true) (hc : CF w B cs) (ho : o.op = .load T x := by exact rfl) (hx : ev n f x = pt B i := by exact rfl) (hk : cs[i]? = some v := by exact rfl) : Y P n f w o v := Y_load1 hT ho hx hc hk
theorem ya (B : Option Addr) (i : Nat) (cs vs : List Value) {s : Nat} (hT : aggB P T = true) (hs : sizeB P T s = true) (hc : CF w B cs) (ho : o.op = .load T x := by exact rfl) (hx : ev n f x = pt B i := by exact rfl) (hl : vs.length = s := by exact rfl) (hk : (cs.drop i).take s = vs := by exact rfl) : Y P n f w o (.agg vs.toArray) := Y_loadA hT hs ho hx hc hl hk
theorem yb (B : Option Addr) (i : Nat) (cs : List Value) {s : Nat} (hT : aggB P T = true) (hs : sizeB P T s = true) (hc : CF w B cs) (ho : o.op = .load T x := by exact rfl) (hx : ev n f x = pt B i := by exact rfl) (hl : cs.length = s := by exact rfl) (hk : (cs.drop i).take s = cs := by exact rfl) : Y P n f w o (.agg cs.toArray) := Y_loadA hT hs ho hx hc hl hk
theorem yd (B : Option Addr) (i s : Nat) {j off ty : Nat} (hF : fieldB P T j off ty = true) (hs : sizeB P ty (s + 1) = true) (ho : o.op = .fieldAddr T x j := by exact rfl) (hx : ev n f x = pt B i := by exact rfl) : Y P n f w o (pt B (i + off)) := Y_fieldAddr hF hs ho hx
theorem ym (v : Value) (ho : o.op = .move x := by exact rfl) (hx : ev n f x = v := by exact rfl) : Y P n f w o v := Y_move ho hx
theorem yg (v : Value) (ho : o.op = .assign x := by exact rfl) (hx : ev n f x = v := by exact rfl) : Y P n f w o v := Y_assign ho hx
theorem yS (i s : Nat) (B : Option Addr) (T' : TypeId) (v : Value) (vs : List Value) (k : Nat) (cs' : List Value) {cs : List Value} {m : Nat} (hS : ST w0 M w L R) (hs : sizeB P T s = true) (ho : o.op = .store T x y := by exact rfl) (hx : ev n f x = pt B k := by exact rfl) (hy : ev n f y = v := by exact rfl) (hv : v.cells.toList = vs := by exact rfl)
    (hl : vs.length = s := by exact rfl) (h1 : one vs = true := by exact rfl) (hi : L[i]? = some ⟨B, T', cs, m⟩ := by exact rfl) (hk : k + s ≤ cs.length := by exact lB rfl) (hcs : splice cs k vs = cs' := by exact rfl) (hL : L.set i ⟨B, T', cs', m⟩ = L' := by exact rfl) : Ys P n f w o (fun v w' => v = undef ∧ ST w0 M w' L' R) := Ys_store hS hs ho hx hy hv hl h1 hi hk hcs hL
theorem yT (i s : Nat) (B : Option Addr) (T' : TypeId) (v : Value) (vs : List Value) (k : Nat) {cs : List Value} {m : Nat} (hS : ST w0 M w L R) (hs : sizeB P T s = true) (ho : o.op = .store T x y := by exact rfl) (hx : ev n f x = pt B k := by exact rfl) (hy : ev n f y = v := by exact rfl) (hv : v.cells.toList = vs := by exact rfl)
    (hl : vs.length = s := by exact rfl) (h1 : one vs = true := by exact rfl) (hi : L[i]? = some ⟨B, T', cs, m⟩ := by exact rfl) (hk : k + s ≤ cs.length := by exact lB rfl) (hcs : splice cs k vs = vs := by exact rfl) (hL : L.set i ⟨B, T', vs, m⟩ = L' := by exact rfl) : Ys P n f w o (fun v w' => v = undef ∧ ST w0 M w' L' R) := Ys_store hS hs ho hx hy hv hl h1 hi hk hcs hL
theorem yN (cs : List Value) (m : Nat) {z : Value} (hS : ST w0 M w L R) (hz : (P.info? T).map (·.zero) = some (some z)) (ho : o.op = .alloc T := by exact rfl) (hc : z.cells.toList = cs := by exact rfl) (hm : cs.length = m := by exact rfl) : Ys P n f w o (NewAt w0 M L R T cs m) := Ys_alloc hS hz ho hc hm
theorem yB (T : TypeId) (v : Value) (cs : List Value) (m : Nat) (hS : ST w0 M w L R) (ho : o.op = .box T x := by exact rfl) (hx : ev n f x = v := by exact rfl) (hc : v.cells.toList = cs := by exact rfl) (hm : cs.length = m := by exact rfl) : Ys P n f w o (NewAt w0 M L R T cs m) := Ys_box hS ho hx hc hm
theorem ye (v : Value) {i : Nat} {vs : Array Value} (ho : o.op = .extract x i := by exact rfl) (hx : ev n f x = .tuple vs := by exact rfl) (hv : vs[i]? = some v := by exact rfl) : Y P n f w o v := Y_extract ho hx hv
theorem yP (a b : Int) (ho : o.op = .binOp .add T x y T1 := by exact rfl) (hx : ev n f x = .int .i64 a := by exact rfl) (hy : ev n f y = .int .i64 b := by exact rfl) : Y P n f w o (.int .i64 (IntKind.i64.wrap (a + b))) := Y_add ho hx hy
theorem yM (a b : Int) (ho : o.op = .binOp .sub T x y T1 := by exact rfl) (hx : ev n f x = .int .i64 a := by exact rfl) (hy : ev n f y = .int .i64 b := by exact rfl) : Y P n f w o (.int .i64 (IntKind.i64.wrap (a - b))) := Y_sub ho hx hy
theorem yX (a b : Int) (ho : o.op = .binOp .mul T x y T1 := by exact rfl) (hx : ev n f x = .int .i64 a := by exact rfl) (hy : ev n f y = .int .i64 b := by exact rfl) : Y P n f w o (.int .i64 (IntKind.i64.wrap (a * b))) := Y_mul ho hx hy
theorem yE (a b : Int) (ho : o.op = .binOp .eql T x y T1 := by exact rfl) (hx : ev n f x = .int .i64 a := by exact rfl) (hy : ev n f y = .int .i64 b := by exact rfl) : Y P n f w o (.bool (a == b)) := Y_eq ho hx hy
theorem yL (a b : Int) (ho : o.op = .binOp .lss T x y T1 := by exact rfl) (hx : ev n f x = .int .i64 a := by exact rfl) (hy : ev n f y = .int .i64 b := by exact rfl) : Y P n f w o (.bool (decide (a < b))) := Y_lt ho hx hy
theorem ST.c (hS : ST w0 M w L R) (i : Nat) {B : Option Addr} {T : TypeId} {cs : List Value} {m : Nat} (hi : L[i]? = some ⟨B, T, cs, m⟩ := by exact rfl) : CF w B cs := hS.cf hi
theorem FF.g {l : List (Nat × Value)} (h : FF f l) (t i : Nat) {v : Value} (hi : l[i]? = some (t, v) := by exact rfl) : f t = v := h.get t i hi
theorem yC {g : Nat} {args : Array Operand} {tys : Array TypeId} {R : Value → World → Prop} (vs : List Value) (hg : callB P g = true) (hc : CV P g vs.toArray w R) (ho : o.op = .call ⟨.value (.func g), args, tys⟩ := by exact rfl) (ha : args.toList.map (ev n f) = vs := by repeat (first | exact mn | refine mc rfl ?_)) : Yc P n f w o R := Yc_func hg ho ha hc
theorem mt {α : Type} {l : List α} {x : α} (i : Nat) (h : l[i]? = some x := by exact rfl) : x ∈ l := mem_at h
theorem sk {α : Type} {x : α} {l R : List α} (i : Nat) (h' : ∀ r ∈ l, r ∈ R) (h : R[i]? = some x := by exact rfl) : ∀ r ∈ x :: l, r ∈ R := subc (mem_at h) h'
end
section
variable {P : Program} {n : Nat} {N : FW} {f : Nat → Value} {w0 w : World} {ops : Array Oper} {rest : List Oper} {o : Oper} {S : World → Prop}
theorem rS (t i : Nat) {rs : List Nat} {fuel : Nat} {listed : Array Bool} {S' : Value → World → Prop} (hi : ops[i]? = some o) (h : Ys P n f w o S') (k : ∀ v w', S' v w' → S w' ∧ RA P n ops N S fuel (listed.setIfInBounds i true) (upd f t v) w') (hrs : AllR P n ops N S fuel listed f w rs) (hg : o.guard = none := by exact rfl) (hd : o.dst = some t := by exact rfl) : AllR P n ops N S fuel listed f w (i :: rs) := ra_s t hi hg hd h k hrs
theorem rZ (i : Nat) {rs : List Nat} {fuel : Nat} {listed : Array Bool} {S' : Value → World → Prop} (hi : ops[i]? = some o) (h : Ys P n f w o S') (k : ∀ v w', S' v w' → S w' ∧ RA P n ops N S fuel (listed.setIfInBounds i true) f w') (hrs : AllR P n ops N S fuel listed f w rs) (hg : o.guard = none := by exact rfl) (hd : o.dst = none := by exact rfl) : AllR P n ops N S fuel listed f w (i :: rs) := ra_s0 hi hg hd h k hrs
theorem rC (t i : Nat) {rs : List Nat} {fuel : Nat} {listed : Array Bool} {S' : Value → World → Prop} (hi : ops[i]? = some o) (h : Yc P n f w o S') (k : ∀ v w', S' v w' → S w' ∧ RA P n ops N S fuel (listed.setIfInBounds i true) (upd f t v) w') (hrs : AllR P n ops N S fuel listed f w rs) (hg : o.guard = none := by exact rfl) (hd : o.dst = some t := by exact rfl) : AllR P n ops N S fuel listed f w (i :: rs) := ra_c t hi hg hd h k hrs
end
abbrev lH (B : Option Addr) (c : Nat) (r : List TDyadic) : List (Hd × List TDyadic) := [((B, c), r)]
abbrev dT (i2 : Nat) : List UInt8 := List.drop (i2 : Int).toNat (List.take (IntKind.i64.wrap ((i2 : Int) + 1)).toNat ([72, 83] : List UInt8))
set_option linter.defProp false
def fc := @FF.cons
def fn_ := @FF.nil
def cr := @cw_region
def cq := @cw_seq
def rn := @rw_nil
def ct_ := @cw_ret
def sI := @some_inj
def bI := @bind_inv
def aN := @allR_nil
theorem K92 : aggB Tryz.prog 24 = true := by kernel_rfl
theorem K93 : sizeB Tryz.prog 24 2 = true := by kernel_rfl
theorem k_fd_24_1_1_22 : fieldB Tryz.prog 24 1 1 22 = true := by kernel_rfl
theorem k_sz_22_1 : sizeB Tryz.prog 22 1 = true := by kernel_rfl
theorem k_sc_22 : scalB Tryz.prog 22 = true := by kernel_rfl
theorem K80 : sliceB Tryz.prog 22 58 = true := by kernel_rfl
theorem k_call_15 : callB Tryz.prog 15 = true := by kernel_rfl
theorem k_call_6 : callB Tryz.prog 6 = true := by kernel_rfl
theorem K40 : (Tryz.prog.info? 30).map (·.zero) = some (some (.agg #[.int .i64 0, .slice none 0 0])) := by kernel_rfl
theorem k_fd_24_0_0_3 : fieldB Tryz.prog 24 0 0 3 = true := by kernel_rfl
theorem K1 : sizeB Tryz.prog 3 1 = true := by kernel_rfl
theorem K0 : scalB Tryz.prog 3 = true := by kernel_rfl
theorem K49 : fieldB Tryz.prog 30 0 0 3 = true := by kernel_rfl
theorem K11 : sliceB Tryz.prog 28 56 = true := by kernel_rfl
theorem K10 : sizeB Tryz.prog 56 3 = true := by kernel_rfl
theorem K46 : bytesB Tryz.prog 56 24 = true := by kernel_rfl
theorem K20 : (Tryz.prog.info? 56).map (·.zero) = some (some (.agg #[.int .i64 0, .int .i64 0, .int .i64 0])) := by kernel_rfl
theorem k_sz_58_3 : sizeB Tryz.prog 58 3 = true := by kernel_rfl
theorem k_ag_58 : aggB Tryz.prog 58 = true := by kernel_rfl
theorem k_fd_58_0_0_3 : fieldB Tryz.prog 58 0 0 3 = true := by kernel_rfl
theorem K38 : fieldB Tryz.prog 56 0 0 3 = true := by kernel_rfl
theorem k_fd_58_1_1_3 : fieldB Tryz.prog 58 1 1 3 = true := by kernel_rfl
theorem K26 : fieldB Tryz.prog 56 1 1 3 = true := by kernel_rfl
theorem k_fd_58_2_2_3 : fieldB Tryz.prog 58 2 2 3 = true := by kernel_rfl
theorem K35 : fieldB Tryz.prog 56 2 2 3 = true := by kernel_rfl
theorem K31 : aggB Tryz.prog 56 = true := by kernel_rfl
theorem k_call_26 : callB Tryz.prog 26 = true := by kernel_rfl
theorem k_call_16 : callB Tryz.prog 16 = true := by kernel_rfl
theorem K44 : fieldB Tryz.prog 30 1 1 28 = true := by kernel_rfl
theorem K39 : sizeB Tryz.prog 28 1 = true := by kernel_rfl
theorem K27 : aggB Tryz.prog 30 = true := by kernel_rfl
theorem K18 : sizeB Tryz.prog 30 2 = true := by kernel_rfl
theorem K106 : callB Tryz.prog 8 = true := by kernel_rfl
theorem K13 : (Tryz.prog.info? 50).map (·.zero) = some (some (.agg #[.int .i64 0, .int .i64 0, .slice none 0 0])) := by kernel_rfl
theorem K57 : callB Tryz.prog 18 = true := by kernel_rfl
theorem K43 : scalB Tryz.prog 28 = true := by kernel_rfl
theorem k_call_74 : callB Tryz.prog 74 = true := by kernel_rfl
theorem k_call_40 : callB Tryz.prog 40 = true := by kernel_rfl
theorem K47 : placesB Tryz.prog 50 [(0, 1), (1, 1), (2, 1)] = true := by kernel_rfl
theorem K4 : sizeB Tryz.prog 50 3 = true := by kernel_rfl
theorem K9 : aggB Tryz.prog 50 = true := by kernel_rfl
theorem k_zero_65 : (Tryz.prog.info? 65).map (·.zero) = some (some (.agg #[.bool false])) := by kernel_rfl
theorem k_pl_65 : placesB Tryz.prog 65 [(0, 1)] = true := by kernel_rfl
theorem K61 : (Tryz.prog.underlying 3).isSome = true := by kernel_rfl
theorem K62 : intB Tryz.prog 84 .u64 = true := by kernel_rfl
theorem K21 : sliceB Tryz.prog 48 91 = true := by kernel_rfl
theorem K2 : sizeB Tryz.prog 91 5 = true := by kernel_rfl
theorem K67 : bytesB Tryz.prog 91 40 = true := by kernel_rfl
theorem K8 : (Tryz.prog.info? 91).map (·.zero) = some (some (.agg #[.int .i64 0, .int .i64 0, .int .i64 0, .int .i64 0, .int .i64 0])) := by kernel_rfl
theorem K28 : fieldB Tryz.prog 50 2 2 48 = true := by kernel_rfl
theorem K24 : sizeB Tryz.prog 48 1 = true := by kernel_rfl
theorem K34 : scalB Tryz.prog 48 = true := by kernel_rfl
theorem K12 : (Tryz.prog.info? 89).map (·.zero) = some (some (.agg #[.int .i64 0, .int .i64 0, .int .i64 0, .int .i64 0])) := by kernel_rfl
theorem K30 : placesB Tryz.prog 89 [(0, 1), (1, 1), (2, 1), (3, 1)] = true := by kernel_rfl
theorem K15 : fieldB Tryz.prog 89 3 3 3 = true := by kernel_rfl
theorem K14 : fieldB Tryz.prog 89 0 0 3 = true := by kernel_rfl
theorem K16 : fieldB Tryz.prog 89 1 1 3 = true := by kernel_rfl
theorem K17 : fieldB Tryz.prog 89 2 2 3 = true := by kernel_rfl
theorem K3 : sizeB Tryz.prog 89 4 = true := by kernel_rfl
theorem K6 : aggB Tryz.prog 89 = true := by kernel_rfl
theorem k_call_50 : callB Tryz.prog 50 = true := by kernel_rfl
theorem K22 : placesB Tryz.prog 91 [(0, 4), (4, 1)] = true := by kernel_rfl
theorem K5 : aggB Tryz.prog 91 = true := by kernel_rfl
theorem K56 : callB Tryz.prog 48 = true := by kernel_rfl
theorem K76 : fieldB Tryz.prog 65 0 0 4 = true := by kernel_rfl
theorem K59 : sizeB Tryz.prog 4 1 = true := by kernel_rfl
theorem K94 : scalB Tryz.prog 4 = true := by kernel_rfl
theorem K63 : callB Tryz.prog 86 = true := by kernel_rfl
theorem K32 : fieldB Tryz.prog 91 0 0 89 = true := by kernel_rfl
theorem K29 : fieldB Tryz.prog 91 1 4 3 = true := by kernel_rfl
theorem k_call_126 : callB Tryz.prog 126 = true := by kernel_rfl
theorem K54 : (Tryz.prog.info? 91).map (fun i => i.zero.map (fun z => z.cells.toList)) = some (some [.int .i64 0, .int .i64 0, .int .i64 0, .int .i64 0, .int .i64 0]) := by kernel_rfl
theorem k_call_112 : callB Tryz.prog 112 = true := by kernel_rfl
theorem K25 : sliceB Tryz.prog 44 3 = true := by kernel_rfl
theorem K53 : (Tryz.prog.info? 3).map (fun i => i.zero.map (fun z => z.cells.toList)) = some (some [.int .i64 0]) := by kernel_rfl
theorem k_call_87 : callB Tryz.prog 87 = true := by kernel_rfl
theorem k_call_53 : callB Tryz.prog 53 = true := by kernel_rfl
theorem K33 : fieldB Tryz.prog 50 0 0 3 = true := by kernel_rfl
theorem K36 : fieldB Tryz.prog 50 1 1 3 = true := by kernel_rfl
theorem k_call_124 : callB Tryz.prog 124 = true := by kernel_rfl
theorem k_call_107 : callB Tryz.prog 107 = true := by kernel_rfl
theorem k_call_108 : callB Tryz.prog 108 = true := by kernel_rfl
theorem K60 : callB Tryz.prog 82 = true := by kernel_rfl
theorem k_call_111 : callB Tryz.prog 111 = true := by kernel_rfl
theorem k_call_85 : callB Tryz.prog 85 = true := by kernel_rfl
theorem K51 : callB Tryz.prog 81 = true := by kernel_rfl
theorem k_call_83 : callB Tryz.prog 83 = true := by kernel_rfl
theorem k_call_84 : callB Tryz.prog 84 = true := by kernel_rfl
theorem k_call_52 : callB Tryz.prog 52 = true := by kernel_rfl
theorem k_call_51 : callB Tryz.prog 51 = true := by kernel_rfl
theorem K95 : callB Tryz.prog 32 = true := by kernel_rfl
theorem K96 : callB Tryz.prog 31 = true := by kernel_rfl
theorem k_call_28 : callB Tryz.prog 28 = true := by kernel_rfl
theorem k_call_42 : callB Tryz.prog 42 = true := by kernel_rfl
theorem k_call_41 : callB Tryz.prog 41 = true := by kernel_rfl
theorem k_call_22 : callB Tryz.prog 22 = true := by kernel_rfl
theorem k_call_106 : callB Tryz.prog 106 = true := by kernel_rfl
theorem k_call_75 : callB Tryz.prog 75 = true := by kernel_rfl
theorem k_call_76 : callB Tryz.prog 76 = true := by kernel_rfl
theorem k_call_43 : callB Tryz.prog 43 = true := by kernel_rfl
theorem K64 : placesB Tryz.prog 30 [(0, 1), (1, 1)] = true := by kernel_rfl
theorem k_st_91 : structB Tryz.prog 91 [(89, 0), (3, 4)] = true := by kernel_rfl
theorem k_ho_91 : Tryz.prog.stoodInHeld 91 = false := by kernel_rfl
theorem K41 : intB Tryz.prog 3 .i64 = true := by kernel_rfl
theorem k_st_89 : structB Tryz.prog 89 [(3, 0), (3, 1), (3, 2), (3, 3)] = true := by kernel_rfl
theorem k_ho_89 : Tryz.prog.stoodInHeld 89 = false := by kernel_rfl
theorem k_eg_91 : Tryz.prog.eqGuardType Tryz.prog.depth 91 = false := by kernel_rfl
theorem k_call_125 : callB Tryz.prog 125 = true := by kernel_rfl
theorem k_call_109 : callB Tryz.prog 109 = true := by kernel_rfl
theorem K45 : placesB Tryz.prog 56 [(0, 1), (1, 1), (2, 1)] = true := by kernel_rfl
theorem K52 : (Tryz.prog.info? 56).map (fun i => i.zero.map (fun z => z.cells.toList)) = some (some [.int .i64 0, .int .i64 0, .int .i64 0]) := by kernel_rfl
theorem k_call_29 : callB Tryz.prog 29 = true := by kernel_rfl
theorem k_call_77 : callB Tryz.prog 77 = true := by kernel_rfl
theorem k_call_44 : callB Tryz.prog 44 = true := by kernel_rfl
theorem k_call_23 : callB Tryz.prog 23 = true := by kernel_rfl
theorem k_call_13 : callB Tryz.prog 13 = true := by kernel_rfl
theorem k_call_7 : callB Tryz.prog 7 = true := by kernel_rfl
theorem K50 : callB Tryz.prog 20 = true := by kernel_rfl
theorem k_call_110 : callB Tryz.prog 110 = true := by kernel_rfl
theorem k_call_63 : callB Tryz.prog 63 = true := by kernel_rfl
theorem k_call_60 : callB Tryz.prog 60 = true := by kernel_rfl
theorem k_call_79 : callB Tryz.prog 79 = true := by kernel_rfl
theorem k_call_78 : callB Tryz.prog 78 = true := by kernel_rfl
theorem k_call_45 : callB Tryz.prog 45 = true := by kernel_rfl
theorem K81 : callB Tryz.prog 88 = true := by kernel_rfl
theorem K97 : callB Tryz.prog 56 = true := by kernel_rfl
theorem k_call_55 : callB Tryz.prog 55 = true := by kernel_rfl
theorem K82 : callB Tryz.prog 54 = true := by kernel_rfl
theorem k_call_34 : callB Tryz.prog 34 = true := by kernel_rfl
theorem K83 : callB Tryz.prog 127 = true := by kernel_rfl
theorem K69 : callB Tryz.prog 113 = true := by kernel_rfl
theorem k_call_91 : callB Tryz.prog 91 = true := by kernel_rfl
theorem K72 : callB Tryz.prog 62 = true := by kernel_rfl
theorem K70 : callB Tryz.prog 66 = true := by kernel_rfl
theorem K84 : callB Tryz.prog 67 = true := by kernel_rfl
theorem k_call_64 : callB Tryz.prog 64 = true := by kernel_rfl
theorem k_call_65 : callB Tryz.prog 65 = true := by kernel_rfl
theorem K71 : mapB Tryz.prog 137 3 3 = true := by kernel_rfl
theorem k_zero_3 : (Tryz.prog.info? 3).map (·.zero) = some (some (.int .i64 0)) := by kernel_rfl
theorem k_call_68 : callB Tryz.prog 68 = true := by kernel_rfl
theorem k_call_61 : callB Tryz.prog 61 = true := by kernel_rfl
theorem K99 : callB Tryz.prog 37 = true := by kernel_rfl
theorem k_call_89 : callB Tryz.prog 89 = true := by kernel_rfl
theorem K98 : callB Tryz.prog 116 = true := by kernel_rfl
theorem K65 : callB Tryz.prog 94 = true := by kernel_rfl
theorem k_call_101 : callB Tryz.prog 101 = true := by kernel_rfl
theorem k_call_100 : callB Tryz.prog 100 = true := by kernel_rfl
theorem K86 : callB Tryz.prog 69 = true := by kernel_rfl
theorem K58 : sliceB Tryz.prog 159 89 = true := by kernel_rfl
theorem K77 : (Tryz.prog.info? 89).map (fun i => i.zero.map (fun z => z.cells.toList)) = some (some [.int .i64 0, .int .i64 0, .int .i64 0, .int .i64 0]) := by kernel_rfl
theorem k_by_89_32 : bytesB Tryz.prog 89 32 = true := by kernel_rfl
theorem K85 : callB Tryz.prog 121 = true := by kernel_rfl
theorem k_call_102 : callB Tryz.prog 102 = true := by kernel_rfl
theorem k_call_122 : callB Tryz.prog 122 = true := by kernel_rfl
theorem k_call_103 : callB Tryz.prog 103 = true := by kernel_rfl
theorem K73 : callB Tryz.prog 72 = true := by kernel_rfl
theorem K78 : callB Tryz.prog 71 = true := by kernel_rfl
theorem k_call_132 : callB Tryz.prog 132 = true := by kernel_rfl
theorem k_call_123 : callB Tryz.prog 123 = true := by kernel_rfl
theorem k_call_105 : callB Tryz.prog 105 = true := by kernel_rfl
theorem k_call_104 : callB Tryz.prog 104 = true := by kernel_rfl
theorem k_call_73 : callB Tryz.prog 73 = true := by kernel_rfl
theorem k_call_70 : callB Tryz.prog 70 = true := by kernel_rfl
theorem k_call_38 : callB Tryz.prog 38 = true := by kernel_rfl
theorem k_call_46 : callB Tryz.prog 46 = true := by kernel_rfl
theorem k_call_24 : callB Tryz.prog 24 = true := by kernel_rfl
theorem k_call_90 : callB Tryz.prog 90 = true := by kernel_rfl
theorem k_call_133 : callB Tryz.prog 133 = true := by kernel_rfl
theorem k_call_128 : callB Tryz.prog 128 = true := by kernel_rfl
theorem k_call_114 : callB Tryz.prog 114 = true := by kernel_rfl
theorem k_call_92 : callB Tryz.prog 92 = true := by kernel_rfl
theorem k_call_115 : callB Tryz.prog 115 = true := by kernel_rfl
theorem K100 : callB Tryz.prog 93 = true := by kernel_rfl
theorem k_call_57 : callB Tryz.prog 57 = true := by kernel_rfl
theorem K74 : sliceB Tryz.prog 99 9 = true := by kernel_rfl
theorem K75 : sizeB Tryz.prog 9 1 = true := by kernel_rfl
theorem k_zc_9 : (Tryz.prog.info? 9).map (fun i => i.zero.map (fun z => z.cells.toList)) = some (some [.string (bstr ([] : List UInt8))]) := by kernel_rfl
theorem k_call_96 : callB Tryz.prog 96 = true := by kernel_rfl
theorem k_by_9_16 : bytesB Tryz.prog 9 16 = true := by kernel_rfl
theorem k_zero_9 : (Tryz.prog.info? 9).map (·.zero) = some (some (.string ⟨#[]⟩)) := by kernel_rfl
theorem k_call_59 : callB Tryz.prog 59 = true := by kernel_rfl
theorem k_call_117 : callB Tryz.prog 117 = true := by kernel_rfl
theorem k_call_95 : callB Tryz.prog 95 = true := by kernel_rfl
theorem k_call_58 : callB Tryz.prog 58 = true := by kernel_rfl
theorem K101 : callB Tryz.prog 35 = true := by kernel_rfl
theorem K102 : (Tryz.prog.info? 46).map (·.zero) = some (some (.agg #[.map none, .slice none 0 0])) := by kernel_rfl
theorem K87 : strB Tryz.prog 9 = true := by kernel_rfl
theorem K88 : mapB Tryz.prog 43 9 28 = true := by kernel_rfl
theorem k_pl_46 : placesB Tryz.prog 46 [(0, 1), (1, 1)] = true := by kernel_rfl
theorem K89 : sizeB Tryz.prog 46 2 = true := by kernel_rfl
theorem K37 : (Tryz.prog.info? 75).map (·.zero) = some (some (.agg #[.slice none 0 0, .int .i64 0, .int .i64 0, .slice none 0 0])) := by kernel_rfl
theorem K55 : placesB Tryz.prog 75 [(0, 1), (1, 3)] = true := by kernel_rfl
theorem K66 : sliceB Tryz.prog 76 75 = true := by kernel_rfl
theorem K42 : sizeB Tryz.prog 75 4 = true := by kernel_rfl
theorem k_zc_75 : (Tryz.prog.info? 75).map (fun i => i.zero.map (fun z => z.cells.toList)) = some (some [.slice none 0 0, .int .i64 0, .int .i64 0, .slice none 0 0]) := by kernel_rfl
theorem k_ag_75 : aggB Tryz.prog 75 = true := by kernel_rfl
theorem k_call_36 : callB Tryz.prog 36 = true := by kernel_rfl
theorem k_fd_75_1_1_50 : fieldB Tryz.prog 75 1 1 50 = true := by kernel_rfl
theorem K103 : fieldB Tryz.prog 46 0 0 43 = true := by kernel_rfl
theorem k_sz_43_1 : sizeB Tryz.prog 43 1 = true := by kernel_rfl
theorem K104 : scalB Tryz.prog 43 = true := by kernel_rfl
theorem k_zero_28 : (Tryz.prog.info? 28).map (·.zero) = some (some (.slice none 0 0)) := by kernel_rfl
theorem k_fd_75_0_0_28 : fieldB Tryz.prog 75 0 0 28 = true := by kernel_rfl
theorem K79 : callB Tryz.prog 39 = true := by kernel_rfl
theorem k_by_75_64 : bytesB Tryz.prog 75 64 = true := by kernel_rfl
theorem k_fd_46_1_1_44 : fieldB Tryz.prog 46 1 1 44 = true := by kernel_rfl
theorem K105 : sizeB Tryz.prog 44 1 = true := by kernel_rfl
theorem k_sc_44 : scalB Tryz.prog 44 = true := by kernel_rfl
theorem k_by_3_8 : bytesB Tryz.prog 3 8 = true := by kernel_rfl
theorem k_ag_46 : aggB Tryz.prog 46 = true := by kernel_rfl
theorem k_call_21 : callB Tryz.prog 21 = true := by kernel_rfl
theorem k_call_47 : callB Tryz.prog 47 = true := by kernel_rfl
theorem k_call_25 : callB Tryz.prog 25 = true := by kernel_rfl
theorem k_call_14 : callB Tryz.prog 14 = true := by kernel_rfl
theorem k_call_9 : callB Tryz.prog 9 = true := by kernel_rfl
theorem k_und_4 : Tryz.prog.underlying 4 = some .bool := by kernel_rfl
theorem k_call_27 : callB Tryz.prog 27 = true := by kernel_rfl
theorem k_call_17 : callB Tryz.prog 17 = true := by kernel_rfl
theorem k_call_10 : callB Tryz.prog 10 = true := by kernel_rfl
theorem k_ar_167_20_161 : arrB Tryz.prog 167 20 161 = true := by kernel_rfl
theorem k_sz_167_20 : sizeB Tryz.prog 167 20 = true := by kernel_rfl
theorem k_sz_161_1 : sizeB Tryz.prog 161 1 = true := by kernel_rfl
theorem k_int_161_u64 : intB Tryz.prog 161 .u64 = true := by kernel_rfl
end Go.VK
