/- Closed facts on the types. -/
import Derived.Test.YtchihdcajdocgaaGreatLReductionsFn
import Derived.Test.YtchihdcajdocgaaGreatChecked
namespace Go.VK
open Go.RowKit
open Go.Proofs
abbrev vi (x : Int) : Value := .int .i64 x
abbrev aD (b : Nat) : Option Addr := some ⟨b, 0, none⟩
abbrev kD_ (x : TDyadic) : List Value := [vi x.Num.A, vi x.Num.B, vi x.Num.C, vi x.Num.D, vi x.Exp]
abbrev gD_ (x : TDyadic) : Value := .agg #[vi x.Num.A, vi x.Num.B, vi x.Num.C, vi x.Num.D, vi x.Exp]
abbrev kR_ (x : TRing) : List Value := [vi x.A, vi x.B, vi x.C, vi x.D]
abbrev gR_ (x : TRing) : Value := .agg #[vi x.A, vi x.B, vi x.C, vi x.D]
abbrev kM_ (m : TMatrix) (B : Option Addr) (c : Nat) : List Value := [vi m.Rows, vi m.Cols, .slice B m.Cells.length c]
abbrev gM_ (m : TMatrix) (B : Option Addr) (c : Nat) : Value := .agg #[vi m.Rows, vi m.Cols, .slice B m.Cells.length c]
abbrev kZ_ : List Value := [vi 0, vi 0, vi 0, vi 0, vi 0]
abbrev gZ_ : Value := .agg #[vi 0, vi 0, vi 0, vi 0, vi 0]
abbrev kN_ : List Value := [vi 0, vi 0, .slice none 0 0]
abbrev gN_ : Value := .agg #[vi 0, vi 0, .slice none 0 0]
theorem lB {n m : Nat} (h : Nat.ble n m = true) : n ≤ m := Nat.le_of_ble_eq_true h
theorem mAr {α : Type} {b : α} {xs : List α} (ys : List α) (h : b ∈ xs) : b ∈ ys ++ xs := List.mem_append_right ys h
theorem mAl {α : Type} {b : α} {xs : List α} (ys : List α) (h : b ∈ xs) : b ∈ xs ++ ys := List.mem_append_left ys h
theorem mOd {α : Type} {b : α} {i : Nat} {xs : List α} (h : b ∈ xs.drop i) : b ∈ xs := List.mem_of_mem_drop h
section
variable {P : Program} {n : Nat} {N : FW} {f : Nat → Value} {w0 w : World} {ops : Array Oper} {rest : List Oper} {o : Oper} {S : World → Prop} {M : List Nat} {L : List Ob} {R : List Ro}
theorem rq (i t : Nat) {fuel : Nat} {listed : Array Bool} {v : Value} (hi : ops[i]? = some o) (hS : S w) (hy : ∀ w', S w' → Y P n f w' o v) (k : RA P n ops N S fuel (listed.setIfInBounds i true) (upd f t v) w)
    (hg : o.guard = none := by exact rfl) (hd : o.dst = some t := by exact rfl) (hs : Region.noSelect ops = true := by kernel_rfl) (hf : Region.free .any ops listed i = true := by kernel_rfl)
    (hr : (Region.ready .any ops listed).contains i = true := by kernel_rfl) : RA P n ops N S (fuel + 1) listed f w := ra_q i t hi hg hd hs hf hr hS hy k
theorem rA (rs : List Nat) {fuel : Nat} {listed : Array Bool} (h : AllR P n ops N S fuel listed f w rs) (hr : Region.ready .any ops listed = rs := by kernel_rfl) (hne : rs.isEmpty = false := by exact rfl) : RA P n ops N S (fuel + 1) listed f w := ra_all hr hne h
theorem sQ (t : Nat) {v : Value} (h : Y P n f w o v) (k : RW P n ops N rest (upd f t v) w) (hg : o.guard = none := by exact rfl) (hd : o.dst = some t := by exact rfl) : RW P n ops N (o :: rest) f w := sq t hg hd h k
theorem uT_ {j : Nat} (t : Nat) {b : Bool} (h : (ops.toList[j]?).bind (·.dst) = some t := by kernel_rfl) (hb : ev n f (.tmp t) = .bool b := by exact rfl) : Wt (gd n f ops j) true b := wt_t (gd_of h hb)
theorem uF_ {j : Nat} (t : Nat) {b : Bool} (h : (ops.toList[j]?).bind (·.dst) = some t := by kernel_rfl) (hb : ev n f (.tmp t) = .bool b := by exact rfl) : Wt (gd n f ops j) false (!b) := wt_f (gd_of h hb)
theorem s0 {S : Value → World → Prop} (h : Ys P n f w o S) (k : ∀ v w', S v w' → RW P n ops N rest f w') (hg : o.guard = none := by exact rfl) (hd : o.dst = none := by exact rfl) : RW P n ops N (o :: rest) f w := ss0 hg hd h k
theorem sS (t : Nat) {S : Value → World → Prop} (h : Ys P n f w o S) (k : ∀ v w', S v w' → RW P n ops N rest (upd f t v) w') (hg : o.guard = none := by exact rfl) (hd : o.dst = some t := by exact rfl) : RW P n ops N (o :: rest) f w := ss t hg hd h k
theorem ST.se (hS : ST w0 M w L R) (is : List Nat) (hn : decide is.Nodup = true := by exact rfl) (hb : is.all (fun i => (L[i]?).isSome) = true := by exact rfl) : ST w0 M w (is.filterMap fun i => L[i]?) R := hS.sel is hn hb
theorem ST.sN (hS : ST w0 M w L R) (is : List Nat) (hn : decide is.Nodup = true := by exact rfl) (hb : is.all (fun i => (L[i]?).isSome) = true := by exact rfl) : ST w0 M w (is.filterMap fun i => L[i]?) [] := ST.subR (hS.sel is hn hb) (fun _ h => by cases h)
end
theorem k_sz_3_1 : sizeB Tryz.prog 3 1 = true := by kernel_rfl
theorem k_sc_3 : scalB Tryz.prog 3 = true := by kernel_rfl
theorem k_call_51 : callB Tryz.prog 51 = true := by kernel_rfl
theorem k_sl_66_3 : sliceB Tryz.prog 66 3 = true := by kernel_rfl
theorem k_zc_3 : (Tryz.prog.info? 3).map (fun i => i.zero.map (fun z => z.cells.toList)) = some (some [.int .i64 0]) := by kernel_rfl
theorem k_call_124 : callB Tryz.prog 124 = true := by kernel_rfl
theorem k_by_3_8 : bytesB Tryz.prog 3 8 = true := by kernel_rfl
theorem k_zero_3 : (Tryz.prog.info? 3).map (·.zero) = some (some (.int .i64 0)) := by kernel_rfl
theorem k_call_133 : callB Tryz.prog 133 = true := by kernel_rfl
theorem k_us_3 : (Tryz.prog.underlying 3).isSome = true := by kernel_rfl
theorem k_int_76_u64 : intB Tryz.prog 76 .u64 = true := by kernel_rfl
theorem k_call_173 : callB Tryz.prog 173 = true := by kernel_rfl
theorem k_int_3_i64 : intB Tryz.prog 3 .i64 = true := by kernel_rfl
theorem k_call_74 : callB Tryz.prog 74 = true := by kernel_rfl
theorem k_call_239 : callB Tryz.prog 239 = true := by kernel_rfl
theorem k_call_240 : callB Tryz.prog 240 = true := by kernel_rfl
theorem k_call_203 : callB Tryz.prog 203 = true := by kernel_rfl
theorem k_call_201 : callB Tryz.prog 201 = true := by kernel_rfl
theorem k_sz_66_1 : sizeB Tryz.prog 66 1 = true := by kernel_rfl
theorem k_sc_66 : scalB Tryz.prog 66 = true := by kernel_rfl
theorem k_sl_29_5 : sliceB Tryz.prog 29 5 = true := by kernel_rfl
theorem k_zero_112 : (Tryz.prog.info? 112).map (·.zero) = some (some (.agg #[.slice none 0 0, .int .i64 0, .int .u64 0])) := by kernel_rfl
theorem k_pl_112 : placesB Tryz.prog 112 [(0, 1), (1, 1), (2, 1)] = true := by kernel_rfl
theorem k_fd_112_1_1_3 : fieldB Tryz.prog 112 1 1 3 = true := by kernel_rfl
theorem k_fd_112_0_0_29 : fieldB Tryz.prog 112 0 0 29 = true := by kernel_rfl
theorem k_sz_29_1 : sizeB Tryz.prog 29 1 = true := by kernel_rfl
theorem k_sc_29 : scalB Tryz.prog 29 = true := by kernel_rfl
theorem k_sz_5_1 : sizeB Tryz.prog 5 1 = true := by kernel_rfl
theorem k_sc_5 : scalB Tryz.prog 5 = true := by kernel_rfl
theorem k_us_5 : (Tryz.prog.underlying 5).isSome = true := by kernel_rfl
theorem k_fd_112_2_2_110 : fieldB Tryz.prog 112 2 2 110 = true := by kernel_rfl
theorem k_sz_110_1 : sizeB Tryz.prog 110 1 = true := by kernel_rfl
theorem k_sc_110 : scalB Tryz.prog 110 = true := by kernel_rfl
theorem k_int_110_u64 : intB Tryz.prog 110 .u64 = true := by kernel_rfl
theorem k_us_110 : (Tryz.prog.underlying 110).isSome = true := by kernel_rfl
theorem k_call_154 : callB Tryz.prog 154 = true := by kernel_rfl
theorem k_call_71 : callB Tryz.prog 71 = true := by kernel_rfl
theorem k_call_153 : callB Tryz.prog 153 = true := by kernel_rfl
theorem k_und_4 : Tryz.prog.underlying 4 = some .bool := by kernel_rfl
theorem k_call_90 : callB Tryz.prog 90 = true := by kernel_rfl
theorem k_zero_70 : (Tryz.prog.info? 70).map (·.zero) = some (some (.agg #[.int .i64 0, .int .i64 0, .slice none 0 0, .slice none 0 0])) := by kernel_rfl
theorem k_pl_70 : placesB Tryz.prog 70 [(0, 1), (1, 1), (2, 1), (3, 1)] = true := by kernel_rfl
theorem k_sz_70_4 : sizeB Tryz.prog 70 4 = true := by kernel_rfl
theorem k_ag_70 : aggB Tryz.prog 70 = true := by kernel_rfl
theorem k_zero_68 : (Tryz.prog.info? 68).map (·.zero) = some (some (.agg #[.slice none 0 0])) := by kernel_rfl
theorem k_pl_68 : placesB Tryz.prog 68 [(0, 1)] = true := by kernel_rfl
theorem k_sz_68_1 : sizeB Tryz.prog 68 1 = true := by kernel_rfl
theorem k_fd_68_0_0_66 : fieldB Tryz.prog 68 0 0 66 = true := by kernel_rfl
theorem k_ag_68 : aggB Tryz.prog 68 = true := by kernel_rfl
theorem k_zero_127 : (Tryz.prog.info? 127).map (·.zero) = some (some (.agg #[.int .i64 0, .int .i64 0, .int .i64 0, .int .i64 0, .int .i64 0, .int .i64 0, .int .i64 0, .int .i64 0, .int .i64 0, .int .i64 0, .int .i64 0, .int .i64 0, .int .i64 0, .int .i64 0, .int .i64 0, .int .i64 0, .int .i64 0, .int .i64 0, .int .i64 0, .int .i64 0, .int .i64 0, .int .i64 0, .int .i64 0, .int .i64 0, .int .i64 0, .int .i64 0, .int .i64 0, .int .i64 0, .int .i64 0, .int .i64 0, .int .i64 0, .int .i64 0])) := by kernel_rfl
theorem k_ar_127_32_3 : arrB Tryz.prog 127 32 3 = true := by kernel_rfl
theorem k_sz_127_32 : sizeB Tryz.prog 127 32 = true := by kernel_rfl
theorem k_fd_70_3_3_68 : fieldB Tryz.prog 70 3 3 68 = true := by kernel_rfl
theorem k_call_93 : callB Tryz.prog 93 = true := by kernel_rfl
theorem k_fd_70_1_1_3 : fieldB Tryz.prog 70 1 1 3 = true := by kernel_rfl
theorem k_ag_127 : aggB Tryz.prog 127 = true := by kernel_rfl
theorem k_sl_65_136 : sliceB Tryz.prog 65 136 = true := by kernel_rfl
theorem k_sz_136_2 : sizeB Tryz.prog 136 2 = true := by kernel_rfl
theorem k_zc_136 : (Tryz.prog.info? 136).map (fun i => i.zero.map (fun z => z.cells.toList)) = some (some [.int .i64 0, .int .i64 0]) := by kernel_rfl
theorem k_zero_136 : (Tryz.prog.info? 136).map (·.zero) = some (some (.agg #[.int .i64 0, .int .i64 0])) := by kernel_rfl
theorem k_pl_136 : placesB Tryz.prog 136 [(0, 1), (1, 1)] = true := by kernel_rfl
theorem k_by_136_16 : bytesB Tryz.prog 136 16 = true := by kernel_rfl
theorem k_call_95 : callB Tryz.prog 95 = true := by kernel_rfl
theorem k_fd_70_2_2_65 : fieldB Tryz.prog 70 2 2 65 = true := by kernel_rfl
theorem k_sz_65_1 : sizeB Tryz.prog 65 1 = true := by kernel_rfl
theorem k_call_96 : callB Tryz.prog 96 = true := by kernel_rfl
theorem k_call_177 : callB Tryz.prog 177 = true := by kernel_rfl
theorem k_call_97 : callB Tryz.prog 97 = true := by kernel_rfl
theorem k_call_99 : callB Tryz.prog 99 = true := by kernel_rfl
theorem k_fd_70_0_0_3 : fieldB Tryz.prog 70 0 0 3 = true := by kernel_rfl
theorem k_sc_65 : scalB Tryz.prog 65 = true := by kernel_rfl
theorem k_ag_136 : aggB Tryz.prog 136 = true := by kernel_rfl
theorem k_st_136 : structB Tryz.prog 136 [(3, 0), (3, 1)] = true := by kernel_rfl
theorem k_ho_136 : Tryz.prog.stoodInHeld 136 = false := by kernel_rfl
theorem k_eg_136 : Tryz.prog.eqGuardType Tryz.prog.depth 136 = false := by kernel_rfl
theorem k_call_100 : callB Tryz.prog 100 = true := by kernel_rfl
theorem k_call_101 : callB Tryz.prog 101 = true := by kernel_rfl
theorem k_call_35 : callB Tryz.prog 35 = true := by kernel_rfl
theorem k_fd_136_0_0_3 : fieldB Tryz.prog 136 0 0 3 = true := by kernel_rfl
theorem k_fd_136_1_1_3 : fieldB Tryz.prog 136 1 1 3 = true := by kernel_rfl
theorem k_call_178 : callB Tryz.prog 178 = true := by kernel_rfl
theorem k_call_228 : callB Tryz.prog 228 = true := by kernel_rfl
theorem k_call_188 : callB Tryz.prog 188 = true := by kernel_rfl
theorem k_call_249 : callB Tryz.prog 249 = true := by kernel_rfl
theorem k_call_250 : callB Tryz.prog 250 = true := by kernel_rfl
theorem k_call_229 : callB Tryz.prog 229 = true := by kernel_rfl
theorem k_call_179 : callB Tryz.prog 179 = true := by kernel_rfl
theorem k_call_102 : callB Tryz.prog 102 = true := by kernel_rfl
theorem k_int_5_u8 : intB Tryz.prog 5 .u8 = true := by kernel_rfl
theorem k_call_236 : callB Tryz.prog 236 = true := by kernel_rfl
theorem k_call_192 : callB Tryz.prog 192 = true := by kernel_rfl
theorem k_call_195 : callB Tryz.prog 195 = true := by kernel_rfl
theorem k_call_121 : callB Tryz.prog 121 = true := by kernel_rfl
theorem k_call_191 : callB Tryz.prog 191 = true := by kernel_rfl
theorem k_call_190 : callB Tryz.prog 190 = true := by kernel_rfl
theorem k_call_194 : callB Tryz.prog 194 = true := by kernel_rfl
theorem k_call_193 : callB Tryz.prog 193 = true := by kernel_rfl
theorem k_call_119 : callB Tryz.prog 119 = true := by kernel_rfl
theorem k_call_118 : callB Tryz.prog 118 = true := by kernel_rfl
theorem k_call_117 : callB Tryz.prog 117 = true := by kernel_rfl
theorem k_call_109 : callB Tryz.prog 109 = true := by kernel_rfl
theorem k_call_42 : callB Tryz.prog 42 = true := by kernel_rfl
theorem k_call_233 : callB Tryz.prog 233 = true := by kernel_rfl
theorem k_call_184 : callB Tryz.prog 184 = true := by kernel_rfl
theorem k_call_186 : callB Tryz.prog 186 = true := by kernel_rfl
theorem k_call_205 : callB Tryz.prog 205 = true := by kernel_rfl
theorem k_call_185 : callB Tryz.prog 185 = true := by kernel_rfl
theorem k_call_111 : callB Tryz.prog 111 = true := by kernel_rfl
theorem k_call_110 : callB Tryz.prog 110 = true := by kernel_rfl
theorem k_call_234 : callB Tryz.prog 234 = true := by kernel_rfl
theorem k_call_187 : callB Tryz.prog 187 = true := by kernel_rfl
theorem k_call_112 : callB Tryz.prog 112 = true := by kernel_rfl
theorem k_call_43 : callB Tryz.prog 43 = true := by kernel_rfl
theorem k_call_235 : callB Tryz.prog 235 = true := by kernel_rfl
theorem k_call_189 : callB Tryz.prog 189 = true := by kernel_rfl
theorem k_call_113 : callB Tryz.prog 113 = true := by kernel_rfl
theorem k_call_115 : callB Tryz.prog 115 = true := by kernel_rfl
theorem k_call_114 : callB Tryz.prog 114 = true := by kernel_rfl
theorem k_call_116 : callB Tryz.prog 116 = true := by kernel_rfl
theorem k_call_44 : callB Tryz.prog 44 = true := by kernel_rfl
theorem k_call_120 : callB Tryz.prog 120 = true := by kernel_rfl
theorem k_call_45 : callB Tryz.prog 45 = true := by kernel_rfl
theorem k_call_50 : callB Tryz.prog 50 = true := by kernel_rfl
theorem k_call_130 : callB Tryz.prog 130 = true := by kernel_rfl
theorem k_call_129 : callB Tryz.prog 129 = true := by kernel_rfl
theorem k_call_122 : callB Tryz.prog 122 = true := by kernel_rfl
theorem k_call_123 : callB Tryz.prog 123 = true := by kernel_rfl
theorem k_call_46 : callB Tryz.prog 46 = true := by kernel_rfl
theorem k_call_196 : callB Tryz.prog 196 = true := by kernel_rfl
theorem k_call_197 : callB Tryz.prog 197 = true := by kernel_rfl
theorem k_call_125 : callB Tryz.prog 125 = true := by kernel_rfl
theorem k_call_126 : callB Tryz.prog 126 = true := by kernel_rfl
theorem k_call_127 : callB Tryz.prog 127 = true := by kernel_rfl
theorem k_call_47 : callB Tryz.prog 47 = true := by kernel_rfl
theorem k_zero_194 : (Tryz.prog.info? 194).map (·.zero) = some (some (.agg #[.int .i64 0, .int .i64 0, .int .i64 0, .int .i64 0])) := by kernel_rfl
theorem k_ar_194_4_3 : arrB Tryz.prog 194 4 3 = true := by kernel_rfl
theorem k_call_128 : callB Tryz.prog 128 = true := by kernel_rfl
theorem k_call_48 : callB Tryz.prog 48 = true := by kernel_rfl
theorem k_call_49 : callB Tryz.prog 49 = true := by kernel_rfl
end Go.VK
