/- Closed facts on the types. -/
import Derived.Test.YtchihdcajdocgaaGreatLWeightsFn
import Derived.Test.YtchihdcajdocgaaGreatChecked
namespace Go.VK
open Go.RowKit
open Go.Proofs
abbrev vi (x : Int) : Value := .int .i64 x
abbrev aD (b : Nat) : Option Addr := some ⟨b, 0, none⟩
abbrev kD_ (x : TDyadic) : List Value := [vi x.Num.A, vi x.Num.B, vi x.Num.C, vi x.Num.D, vi x.Exp]
abbrev gD_ (x : TDyadic) : Value := .agg #[vi x.Num.A, vi x.Num.B, vi x.Num.C, vi x.Num.D, vi x.Exp]
abbrev kR_ (x : TRing) : List Value := [vi x.A, vi x.B, vi x.C, vi x.D]
abbrev gR_ (x : TRing) : Value := .agg #[vi x.A, vi x.B, vi x.C, vi x.D]
abbrev kM_ (m : TMatrix) (B : Option Addr) (c : Nat) : List Value := [vi m.Rows, vi m.Cols, .slice B m.Cells.length c]
abbrev gM_ (m : TMatrix) (B : Option Addr) (c : Nat) : Value := .agg #[vi m.Rows, vi m.Cols, .slice B m.Cells.length c]
abbrev kZ_ : List Value := [vi 0, vi 0, vi 0, vi 0, vi 0]
abbrev gZ_ : Value := .agg #[vi 0, vi 0, vi 0, vi 0, vi 0]
abbrev kN_ : List Value := [vi 0, vi 0, .slice none 0 0]
abbrev gN_ : Value := .agg #[vi 0, vi 0, .slice none 0 0]
theorem lB {n m : Nat} (h : Nat.ble n m = true) : n ≤ m := Nat.le_of_ble_eq_true h
theorem mAr {α : Type} {b : α} {xs : List α} (ys : List α) (h : b ∈ xs) : b ∈ ys ++ xs := List.mem_append_right ys h
theorem mAl {α : Type} {b : α} {xs : List α} (ys : List α) (h : b ∈ xs) : b ∈ xs ++ ys := List.mem_append_left ys h
theorem mOd {α : Type} {b : α} {i : Nat} {xs : List α} (h : b ∈ xs.drop i) : b ∈ xs := List.mem_of_mem_drop h
section
variable {P : Program} {n : Nat} {N : FW} {f : Nat → Value} {w0 w : World} {ops : Array Oper} {rest : List Oper} {o : Oper} {S : World → Prop} {M : List Nat} {L : List Ob} {R : List Ro}
theorem rq (i t : Nat) {fuel : Nat} {listed : Array Bool} {v : Value} (hi : ops[i]? = some o) (hS : S w) (hy : ∀ w', S w' → Y P n f w' o v) (k : RA P n ops N S fuel (listed.setIfInBounds i true) (upd f t v) w)
    (hg : o.guard = none := by exact rfl) (hd : o.dst = some t := by exact rfl) (hs : Region.noSelect ops = true := by kernel_rfl) (hf : Region.free .any ops listed i = true := by kernel_rfl)
    (hr : (Region.ready .any ops listed).contains i = true := by kernel_rfl) : RA P n ops N S (fuel + 1) listed f w := ra_q i t hi hg hd hs hf hr hS hy k
theorem rA (rs : List Nat) {fuel : Nat} {listed : Array Bool} (h : AllR P n ops N S fuel listed f w rs) (hr : Region.ready .any ops listed = rs := by kernel_rfl) (hne : rs.isEmpty = false := by exact rfl) : RA P n ops N S (fuel + 1) listed f w := ra_all hr hne h
theorem sQ (t : Nat) {v : Value} (h : Y P n f w o v) (k : RW P n ops N rest (upd f t v) w) (hg : o.guard = none := by exact rfl) (hd : o.dst = some t := by exact rfl) : RW P n ops N (o :: rest) f w := sq t hg hd h k
theorem uT_ {j : Nat} (t : Nat) {b : Bool} (h : (ops.toList[j]?).bind (·.dst) = some t := by kernel_rfl) (hb : ev n f (.tmp t) = .bool b := by exact rfl) : Wt (gd n f ops j) true b := wt_t (gd_of h hb)
theorem uF_ {j : Nat} (t : Nat) {b : Bool} (h : (ops.toList[j]?).bind (·.dst) = some t := by kernel_rfl) (hb : ev n f (.tmp t) = .bool b := by exact rfl) : Wt (gd n f ops j) false (!b) := wt_f (gd_of h hb)
theorem s0 {S : Value → World → Prop} (h : Ys P n f w o S) (k : ∀ v w', S v w' → RW P n ops N rest f w') (hg : o.guard = none := by exact rfl) (hd : o.dst = none := by exact rfl) : RW P n ops N (o :: rest) f w := ss0 hg hd h k
theorem sS (t : Nat) {S : Value → World → Prop} (h : Ys P n f w o S) (k : ∀ v w', S v w' → RW P n ops N rest (upd f t v) w') (hg : o.guard = none := by exact rfl) (hd : o.dst = some t := by exact rfl) : RW P n ops N (o :: rest) f w := ss t hg hd h k
theorem ST.se (hS : ST w0 M w L R) (is : List Nat) (hn : decide is.Nodup = true := by exact rfl) (hb : is.all (fun i => (L[i]?).isSome) = true := by exact rfl) : ST w0 M w (is.filterMap fun i => L[i]?) R := hS.sel is hn hb
theorem ST.sN (hS : ST w0 M w L R) (is : List Nat) (hn : decide is.Nodup = true := by exact rfl) (hb : is.all (fun i => (L[i]?).isSome) = true := by exact rfl) : ST w0 M w (is.filterMap fun i => L[i]?) [] := ST.subR (hS.sel is hn hb) (fun _ h => by cases h)
end
theorem k_zero_26 : (Tryz.prog.info? 26).map (·.zero) = some (some (.agg #[.int .i64 0, .int .i64 0, .int .i64 0])) := by kernel_rfl
theorem k_sz_3_1 : sizeB Tryz.prog 3 1 = true := by kernel_rfl
theorem k_sc_3 : scalB Tryz.prog 3 = true := by kernel_rfl
theorem k_fd_26_0_0_3 : fieldB Tryz.prog 26 0 0 3 = true := by kernel_rfl
theorem k_fd_26_1_1_3 : fieldB Tryz.prog 26 1 1 3 = true := by kernel_rfl
theorem k_fd_26_2_2_3 : fieldB Tryz.prog 26 2 2 3 = true := by kernel_rfl
theorem k_ag_26 : aggB Tryz.prog 26 = true := by kernel_rfl
theorem k_sz_26_3 : sizeB Tryz.prog 26 3 = true := by kernel_rfl
theorem k_call_51 : callB Tryz.prog 51 = true := by kernel_rfl
theorem k_call_52 : callB Tryz.prog 52 = true := by kernel_rfl
theorem k_sl_66_3 : sliceB Tryz.prog 66 3 = true := by kernel_rfl
theorem k_zc_3 : (Tryz.prog.info? 3).map (fun i => i.zero.map (fun z => z.cells.toList)) = some (some [.int .i64 0]) := by kernel_rfl
theorem k_call_124 : callB Tryz.prog 124 = true := by kernel_rfl
theorem k_zero_3 : (Tryz.prog.info? 3).map (·.zero) = some (some (.int .i64 0)) := by kernel_rfl
theorem k_zero_98 : (Tryz.prog.info? 98).map (·.zero) = some (some (.agg #[.bool false])) := by kernel_rfl
theorem k_pl_98 : placesB Tryz.prog 98 [(0, 1)] = true := by kernel_rfl
theorem k_pl_26 : placesB Tryz.prog 26 [(0, 1), (1, 1), (2, 1)] = true := by kernel_rfl
theorem k_zero_37 : (Tryz.prog.info? 37).map (·.zero) = some (some (.agg #[.int .i64 0, .int .i64 0, .slice none 0 0])) := by kernel_rfl
theorem k_us_3 : (Tryz.prog.underlying 3).isSome = true := by kernel_rfl
theorem k_int_76_u64 : intB Tryz.prog 76 .u64 = true := by kernel_rfl
theorem k_pl_37 : placesB Tryz.prog 37 [(0, 1), (1, 1), (2, 1)] = true := by kernel_rfl
theorem k_sz_37_3 : sizeB Tryz.prog 37 3 = true := by kernel_rfl
theorem k_fd_37_2_2_35 : fieldB Tryz.prog 37 2 2 35 = true := by kernel_rfl
theorem k_sz_35_1 : sizeB Tryz.prog 35 1 = true := by kernel_rfl
theorem k_sc_35 : scalB Tryz.prog 35 = true := by kernel_rfl
theorem k_zero_54 : (Tryz.prog.info? 54).map (·.zero) = some (some (.agg #[.int .i64 0, .int .i64 0, .int .i64 0, .int .i64 0, .int .i64 0])) := by kernel_rfl
theorem k_zero_52 : (Tryz.prog.info? 52).map (·.zero) = some (some (.agg #[.int .i64 0, .int .i64 0, .int .i64 0, .int .i64 0])) := by kernel_rfl
theorem k_pl_52 : placesB Tryz.prog 52 [(0, 1), (1, 1), (2, 1), (3, 1)] = true := by kernel_rfl
theorem k_fd_52_3_3_3 : fieldB Tryz.prog 52 3 3 3 = true := by kernel_rfl
theorem k_fd_52_0_0_3 : fieldB Tryz.prog 52 0 0 3 = true := by kernel_rfl
theorem k_fd_52_1_1_3 : fieldB Tryz.prog 52 1 1 3 = true := by kernel_rfl
theorem k_fd_52_2_2_3 : fieldB Tryz.prog 52 2 2 3 = true := by kernel_rfl
theorem k_sz_52_4 : sizeB Tryz.prog 52 4 = true := by kernel_rfl
theorem k_ag_52 : aggB Tryz.prog 52 = true := by kernel_rfl
theorem k_call_87 : callB Tryz.prog 87 = true := by kernel_rfl
theorem k_pl_54 : placesB Tryz.prog 54 [(0, 4), (4, 1)] = true := by kernel_rfl
theorem k_sz_54_5 : sizeB Tryz.prog 54 5 = true := by kernel_rfl
theorem k_ag_54 : aggB Tryz.prog 54 = true := by kernel_rfl
theorem k_call_148 : callB Tryz.prog 148 = true := by kernel_rfl
theorem k_call_237 : callB Tryz.prog 237 = true := by kernel_rfl
theorem k_fd_54_0_0_52 : fieldB Tryz.prog 54 0 0 52 = true := by kernel_rfl
theorem k_fd_54_1_4_3 : fieldB Tryz.prog 54 1 4 3 = true := by kernel_rfl
theorem k_call_265 : callB Tryz.prog 265 = true := by kernel_rfl
theorem k_sl_35_54 : sliceB Tryz.prog 35 54 = true := by kernel_rfl
theorem k_zc_54 : (Tryz.prog.info? 54).map (fun i => i.zero.map (fun z => z.cells.toList)) = some (some [.int .i64 0, .int .i64 0, .int .i64 0, .int .i64 0, .int .i64 0]) := by kernel_rfl
theorem k_call_253 : callB Tryz.prog 253 = true := by kernel_rfl
theorem k_call_238 : callB Tryz.prog 238 = true := by kernel_rfl
theorem k_by_54_40 : bytesB Tryz.prog 54 40 = true := by kernel_rfl
theorem k_call_199 : callB Tryz.prog 199 = true := by kernel_rfl
theorem k_ag_37 : aggB Tryz.prog 37 = true := by kernel_rfl
theorem k_call_134 : callB Tryz.prog 134 = true := by kernel_rfl
theorem k_fd_37_0_0_3 : fieldB Tryz.prog 37 0 0 3 = true := by kernel_rfl
theorem k_fd_37_1_1_3 : fieldB Tryz.prog 37 1 1 3 = true := by kernel_rfl
theorem k_fd_98_0_0_4 : fieldB Tryz.prog 98 0 0 4 = true := by kernel_rfl
theorem k_sz_4_1 : sizeB Tryz.prog 4 1 = true := by kernel_rfl
theorem k_sc_4 : scalB Tryz.prog 4 = true := by kernel_rfl
theorem k_call_173 : callB Tryz.prog 173 = true := by kernel_rfl
theorem k_call_86 : callB Tryz.prog 86 = true := by kernel_rfl
theorem k_call_159 : callB Tryz.prog 159 = true := by kernel_rfl
theorem k_call_161 : callB Tryz.prog 161 = true := by kernel_rfl
theorem k_call_220 : callB Tryz.prog 220 = true := by kernel_rfl
theorem k_call_174 : callB Tryz.prog 174 = true := by kernel_rfl
theorem k_call_160 : callB Tryz.prog 160 = true := by kernel_rfl
theorem k_call_162 : callB Tryz.prog 162 = true := by kernel_rfl
theorem k_call_163 : callB Tryz.prog 163 = true := by kernel_rfl
theorem k_call_88 : callB Tryz.prog 88 = true := by kernel_rfl
theorem k_call_80 : callB Tryz.prog 80 = true := by kernel_rfl
theorem k_st_54 : structB Tryz.prog 54 [(52, 0), (3, 4)] = true := by kernel_rfl
theorem k_ho_54 : Tryz.prog.stoodInHeld 54 = false := by kernel_rfl
theorem k_int_3_i64 : intB Tryz.prog 3 .i64 = true := by kernel_rfl
theorem k_st_52 : structB Tryz.prog 52 [(3, 0), (3, 1), (3, 2), (3, 3)] = true := by kernel_rfl
theorem k_ho_52 : Tryz.prog.stoodInHeld 52 = false := by kernel_rfl
theorem k_eg_54 : Tryz.prog.eqGuardType Tryz.prog.depth 54 = false := by kernel_rfl
theorem k_call_65 : callB Tryz.prog 65 = true := by kernel_rfl
theorem k_call_15 : callB Tryz.prog 15 = true := by kernel_rfl
theorem k_call_74 : callB Tryz.prog 74 = true := by kernel_rfl
theorem k_call_136 : callB Tryz.prog 136 = true := by kernel_rfl
theorem k_call_54 : callB Tryz.prog 54 = true := by kernel_rfl
theorem k_sl_29_5 : sliceB Tryz.prog 29 5 = true := by kernel_rfl
theorem k_call_11 : callB Tryz.prog 11 = true := by kernel_rfl
theorem k_zero_33 : (Tryz.prog.info? 33).map (·.zero) = some (some (.agg #[.int .i64 0, .slice none 0 0])) := by kernel_rfl
theorem k_zero_112 : (Tryz.prog.info? 112).map (·.zero) = some (some (.agg #[.slice none 0 0, .int .i64 0, .int .u64 0])) := by kernel_rfl
theorem k_pl_112 : placesB Tryz.prog 112 [(0, 1), (1, 1), (2, 1)] = true := by kernel_rfl
theorem k_fd_112_1_1_3 : fieldB Tryz.prog 112 1 1 3 = true := by kernel_rfl
theorem k_fd_112_0_0_29 : fieldB Tryz.prog 112 0 0 29 = true := by kernel_rfl
theorem k_sz_29_1 : sizeB Tryz.prog 29 1 = true := by kernel_rfl
theorem k_sc_29 : scalB Tryz.prog 29 = true := by kernel_rfl
theorem k_sz_5_1 : sizeB Tryz.prog 5 1 = true := by kernel_rfl
theorem k_sc_5 : scalB Tryz.prog 5 = true := by kernel_rfl
theorem k_us_5 : (Tryz.prog.underlying 5).isSome = true := by kernel_rfl
theorem k_fd_112_2_2_110 : fieldB Tryz.prog 112 2 2 110 = true := by kernel_rfl
theorem k_sz_110_1 : sizeB Tryz.prog 110 1 = true := by kernel_rfl
theorem k_sc_110 : scalB Tryz.prog 110 = true := by kernel_rfl
theorem k_int_110_u64 : intB Tryz.prog 110 .u64 = true := by kernel_rfl
theorem k_us_110 : (Tryz.prog.underlying 110).isSome = true := by kernel_rfl
theorem k_call_154 : callB Tryz.prog 154 = true := by kernel_rfl
theorem k_call_71 : callB Tryz.prog 71 = true := by kernel_rfl
theorem k_call_153 : callB Tryz.prog 153 = true := by kernel_rfl
theorem k_pl_33 : placesB Tryz.prog 33 [(0, 1), (1, 1)] = true := by kernel_rfl
theorem k_sz_33_2 : sizeB Tryz.prog 33 2 = true := by kernel_rfl
theorem k_fd_33_1_1_31 : fieldB Tryz.prog 33 1 1 31 = true := by kernel_rfl
theorem k_sz_31_1 : sizeB Tryz.prog 31 1 = true := by kernel_rfl
theorem k_sc_31 : scalB Tryz.prog 31 = true := by kernel_rfl
theorem k_sl_31_26 : sliceB Tryz.prog 31 26 = true := by kernel_rfl
theorem k_zc_26 : (Tryz.prog.info? 26).map (fun i => i.zero.map (fun z => z.cells.toList)) = some (some [.int .i64 0, .int .i64 0, .int .i64 0]) := by kernel_rfl
theorem k_by_26_24 : bytesB Tryz.prog 26 24 = true := by kernel_rfl
theorem k_call_227 : callB Tryz.prog 227 = true := by kernel_rfl
theorem k_ag_33 : aggB Tryz.prog 33 = true := by kernel_rfl
theorem k_call_176 : callB Tryz.prog 176 = true := by kernel_rfl
theorem k_call_152 : callB Tryz.prog 152 = true := by kernel_rfl
theorem k_fd_33_0_0_3 : fieldB Tryz.prog 33 0 0 3 = true := by kernel_rfl
theorem k_call_70 : callB Tryz.prog 70 = true := by kernel_rfl
theorem k_call_207 : callB Tryz.prog 207 = true := by kernel_rfl
theorem k_call_142 : callB Tryz.prog 142 = true := by kernel_rfl
theorem k_call_141 : callB Tryz.prog 141 = true := by kernel_rfl
theorem k_call_57 : callB Tryz.prog 57 = true := by kernel_rfl
theorem k_call_166 : callB Tryz.prog 166 = true := by kernel_rfl
theorem k_call_145 : callB Tryz.prog 145 = true := by kernel_rfl
theorem k_call_144 : callB Tryz.prog 144 = true := by kernel_rfl
theorem k_call_143 : callB Tryz.prog 143 = true := by kernel_rfl
theorem k_call_58 : callB Tryz.prog 58 = true := by kernel_rfl
theorem k_call_248 : callB Tryz.prog 248 = true := by kernel_rfl
theorem k_call_225 : callB Tryz.prog 225 = true := by kernel_rfl
theorem k_call_171 : callB Tryz.prog 171 = true := by kernel_rfl
theorem k_call_84 : callB Tryz.prog 84 = true := by kernel_rfl
theorem k_call_211 : callB Tryz.prog 211 = true := by kernel_rfl
theorem k_call_212 : callB Tryz.prog 212 = true := by kernel_rfl
theorem k_call_209 : callB Tryz.prog 209 = true := by kernel_rfl
theorem k_call_210 : callB Tryz.prog 210 = true := by kernel_rfl
theorem k_map_219_3_3 : mapB Tryz.prog 219 3 3 = true := by kernel_rfl
theorem k_call_213 : callB Tryz.prog 213 = true := by kernel_rfl
theorem k_call_208 : callB Tryz.prog 208 = true := by kernel_rfl
theorem k_call_146 : callB Tryz.prog 146 = true := by kernel_rfl
theorem k_call_224 : callB Tryz.prog 224 = true := by kernel_rfl
theorem k_call_226 : callB Tryz.prog 226 = true := by kernel_rfl
theorem k_call_169 : callB Tryz.prog 169 = true := by kernel_rfl
theorem k_call_168 : callB Tryz.prog 168 = true := by kernel_rfl
theorem k_call_167 : callB Tryz.prog 167 = true := by kernel_rfl
theorem k_call_82 : callB Tryz.prog 82 = true := by kernel_rfl
theorem k_sl_234_52 : sliceB Tryz.prog 234 52 = true := by kernel_rfl
theorem k_zc_52 : (Tryz.prog.info? 52).map (fun i => i.zero.map (fun z => z.cells.toList)) = some (some [.int .i64 0, .int .i64 0, .int .i64 0, .int .i64 0]) := by kernel_rfl
theorem k_by_52_32 : bytesB Tryz.prog 52 32 = true := by kernel_rfl
theorem k_call_245 : callB Tryz.prog 245 = true := by kernel_rfl
theorem k_call_218 : callB Tryz.prog 218 = true := by kernel_rfl
theorem k_call_246 : callB Tryz.prog 246 = true := by kernel_rfl
theorem k_call_219 : callB Tryz.prog 219 = true := by kernel_rfl
theorem k_call_156 : callB Tryz.prog 156 = true := by kernel_rfl
theorem k_call_158 : callB Tryz.prog 158 = true := by kernel_rfl
theorem k_call_272 : callB Tryz.prog 272 = true := by kernel_rfl
theorem k_call_263 : callB Tryz.prog 263 = true := by kernel_rfl
theorem k_call_244 : callB Tryz.prog 244 = true := by kernel_rfl
theorem k_call_243 : callB Tryz.prog 243 = true := by kernel_rfl
theorem k_call_215 : callB Tryz.prog 215 = true := by kernel_rfl
theorem k_call_214 : callB Tryz.prog 214 = true := by kernel_rfl
theorem k_call_147 : callB Tryz.prog 147 = true := by kernel_rfl
theorem k_call_59 : callB Tryz.prog 59 = true := by kernel_rfl
theorem k_call_60 : callB Tryz.prog 60 = true := by kernel_rfl
theorem k_call_63 : callB Tryz.prog 63 = true := by kernel_rfl
theorem k_call_62 : callB Tryz.prog 62 = true := by kernel_rfl
theorem k_call_61 : callB Tryz.prog 61 = true := by kernel_rfl
theorem k_call_14 : callB Tryz.prog 14 = true := by kernel_rfl
theorem k_und_4 : Tryz.prog.underlying 4 = some .bool := by kernel_rfl
theorem k_call_149 : callB Tryz.prog 149 = true := by kernel_rfl
theorem k_call_78 : callB Tryz.prog 78 = true := by kernel_rfl
theorem k_call_64 : callB Tryz.prog 64 = true := by kernel_rfl
theorem k_call_73 : callB Tryz.prog 73 = true := by kernel_rfl
theorem k_call_72 : callB Tryz.prog 72 = true := by kernel_rfl
theorem k_call_21 : callB Tryz.prog 21 = true := by kernel_rfl
theorem k_call_155 : callB Tryz.prog 155 = true := by kernel_rfl
theorem k_call_75 : callB Tryz.prog 75 = true := by kernel_rfl
theorem k_call_22 : callB Tryz.prog 22 = true := by kernel_rfl
theorem k_call_76 : callB Tryz.prog 76 = true := by kernel_rfl
theorem k_call_23 : callB Tryz.prog 23 = true := by kernel_rfl
theorem k_call_217 : callB Tryz.prog 217 = true := by kernel_rfl
theorem k_call_157 : callB Tryz.prog 157 = true := by kernel_rfl
theorem k_call_77 : callB Tryz.prog 77 = true := by kernel_rfl
theorem k_call_24 : callB Tryz.prog 24 = true := by kernel_rfl
theorem k_call_79 : callB Tryz.prog 79 = true := by kernel_rfl
theorem k_call_25 : callB Tryz.prog 25 = true := by kernel_rfl
theorem k_call_26 : callB Tryz.prog 26 = true := by kernel_rfl
theorem k_call_223 : callB Tryz.prog 223 = true := by kernel_rfl
theorem k_call_165 : callB Tryz.prog 165 = true := by kernel_rfl
theorem k_call_221 : callB Tryz.prog 221 = true := by kernel_rfl
theorem k_call_90 : callB Tryz.prog 90 = true := by kernel_rfl
theorem k_call_264 : callB Tryz.prog 264 = true := by kernel_rfl
theorem k_call_247 : callB Tryz.prog 247 = true := by kernel_rfl
theorem k_call_222 : callB Tryz.prog 222 = true := by kernel_rfl
theorem k_call_164 : callB Tryz.prog 164 = true := by kernel_rfl
theorem k_call_81 : callB Tryz.prog 81 = true := by kernel_rfl
theorem k_call_27 : callB Tryz.prog 27 = true := by kernel_rfl
theorem k_call_170 : callB Tryz.prog 170 = true := by kernel_rfl
theorem k_call_83 : callB Tryz.prog 83 = true := by kernel_rfl
theorem k_call_172 : callB Tryz.prog 172 = true := by kernel_rfl
theorem k_call_85 : callB Tryz.prog 85 = true := by kernel_rfl
theorem k_call_28 : callB Tryz.prog 28 = true := by kernel_rfl
theorem k_call_29 : callB Tryz.prog 29 = true := by kernel_rfl
theorem k_call_30 : callB Tryz.prog 30 = true := by kernel_rfl
theorem k_call_175 : callB Tryz.prog 175 = true := by kernel_rfl
theorem k_call_89 : callB Tryz.prog 89 = true := by kernel_rfl
theorem k_call_31 : callB Tryz.prog 31 = true := by kernel_rfl
theorem k_int_5_u8 : intB Tryz.prog 5 .u8 = true := by kernel_rfl
end Go.VK
