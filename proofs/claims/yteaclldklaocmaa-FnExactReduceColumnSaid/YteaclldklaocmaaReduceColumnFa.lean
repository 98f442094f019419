/- Closed facts on the types. -/
import Derived.Test.YteaclldklaocmaaReduceColumnFn
import Derived.Test.YteaclldklaocmaaChecked
namespace Go.VK
open Go.RowKit
open Go.Proofs
abbrev vi (x : Int) : Value := .int .i64 x
abbrev aD (b : Nat) : Option Addr := some ⟨b, 0, none⟩
abbrev kD_ (x : TDyadic) : List Value := [vi x.Num.A, vi x.Num.B, vi x.Num.C, vi x.Num.D, vi x.Exp]
abbrev gD_ (x : TDyadic) : Value := .agg #[vi x.Num.A, vi x.Num.B, vi x.Num.C, vi x.Num.D, vi x.Exp]
abbrev kR_ (x : TRing) : List Value := [vi x.A, vi x.B, vi x.C, vi x.D]
abbrev gR_ (x : TRing) : Value := .agg #[vi x.A, vi x.B, vi x.C, vi x.D]
abbrev kM_ (m : TMatrix) (B : Option Addr) (c : Nat) : List Value := [vi m.Rows, vi m.Cols, .slice B m.Cells.length c]
abbrev gM_ (m : TMatrix) (B : Option Addr) (c : Nat) : Value := .agg #[vi m.Rows, vi m.Cols, .slice B m.Cells.length c]
abbrev kZ_ : List Value := [vi 0, vi 0, vi 0, vi 0, vi 0]
abbrev gZ_ : Value := .agg #[vi 0, vi 0, vi 0, vi 0, vi 0]
abbrev kN_ : List Value := [vi 0, vi 0, .slice none 0 0]
abbrev gN_ : Value := .agg #[vi 0, vi 0, .slice none 0 0]
theorem lB {n m : Nat} (h : Nat.ble n m = true) : n ≤ m := Nat.le_of_ble_eq_true h
theorem mAr {α : Type} {b : α} {xs : List α} (ys : List α) (h : b ∈ xs) : b ∈ ys ++ xs := List.mem_append_right ys h
theorem mAl {α : Type} {b : α} {xs : List α} (ys : List α) (h : b ∈ xs) : b ∈ xs ++ ys := List.mem_append_left ys h
theorem mOd {α : Type} {b : α} {i : Nat} {xs : List α} (h : b ∈ xs.drop i) : b ∈ xs := List.mem_of_mem_drop h
section
variable {P : Program} {n : Nat} {N : FW} {f : Nat → Value} {w0 w : World} {ops : Array Oper} {rest : List Oper} {o : Oper} {S : World → Prop} {M : List Nat} {L : List Ob} {R : List Ro}
theorem rq (i t : Nat) {fuel : Nat} {listed : Array Bool} {v : Value} (hi : ops[i]? = some o) (hS : S w) (hy : ∀ w', S w' → Y P n f w' o v) (k : RA P n ops N S fuel (listed.setIfInBounds i true) (upd f t v) w)
    (hg : o.guard = none := by exact rfl) (hd : o.dst = some t := by exact rfl) (hs : Region.noSelect ops = true := by kernel_rfl) (hf : Region.free .any ops listed i = true := by kernel_rfl)
    (hr : (Region.ready .any ops listed).contains i = true := by kernel_rfl) : RA P n ops N S (fuel + 1) listed f w := ra_q i t hi hg hd hs hf hr hS hy k
theorem rA (rs : List Nat) {fuel : Nat} {listed : Array Bool} (h : AllR P n ops N S fuel listed f w rs) (hr : Region.ready .any ops listed = rs := by kernel_rfl) (hne : rs.isEmpty = false := by exact rfl) : RA P n ops N S (fuel + 1) listed f w := ra_all hr hne h
theorem sQ (t : Nat) {v : Value} (h : Y P n f w o v) (k : RW P n ops N rest (upd f t v) w) (hg : o.guard = none := by exact rfl) (hd : o.dst = some t := by exact rfl) : RW P n ops N (o :: rest) f w := sq t hg hd h k
theorem uT_ {j : Nat} (t : Nat) {b : Bool} (h : (ops.toList[j]?).bind (·.dst) = some t := by kernel_rfl) (hb : ev n f (.tmp t) = .bool b := by exact rfl) : Wt (gd n f ops j) true b := wt_t (gd_of h hb)
theorem uF_ {j : Nat} (t : Nat) {b : Bool} (h : (ops.toList[j]?).bind (·.dst) = some t := by kernel_rfl) (hb : ev n f (.tmp t) = .bool b := by exact rfl) : Wt (gd n f ops j) false (!b) := wt_f (gd_of h hb)
theorem s0 {S : Value → World → Prop} (h : Ys P n f w o S) (k : ∀ v w', S v w' → RW P n ops N rest f w') (hg : o.guard = none := by exact rfl) (hd : o.dst = none := by exact rfl) : RW P n ops N (o :: rest) f w := ss0 hg hd h k
theorem sS (t : Nat) {S : Value → World → Prop} (h : Ys P n f w o S) (k : ∀ v w', S v w' → RW P n ops N rest (upd f t v) w') (hg : o.guard = none := by exact rfl) (hd : o.dst = some t := by exact rfl) : RW P n ops N (o :: rest) f w := ss t hg hd h k
theorem ST.se (hS : ST w0 M w L R) (is : List Nat) (hn : decide is.Nodup = true := by exact rfl) (hb : is.all (fun i => (L[i]?).isSome) = true := by exact rfl) : ST w0 M w (is.filterMap fun i => L[i]?) R := hS.sel is hn hb
theorem ST.sN (hS : ST w0 M w L R) (is : List Nat) (hn : decide is.Nodup = true := by exact rfl) (hb : is.all (fun i => (L[i]?).isSome) = true := by exact rfl) : ST w0 M w (is.filterMap fun i => L[i]?) [] := ST.subR (hS.sel is hn hb) (fun _ h => by cases h)
end
theorem k_sz_3_1 : sizeB Try.prog 3 1 = true := by kernel_rfl
theorem k_sc_3 : scalB Try.prog 3 = true := by kernel_rfl
theorem k_call_60 : callB Try.prog 60 = true := by kernel_rfl
theorem k_sl_175_3 : sliceB Try.prog 175 3 = true := by kernel_rfl
theorem k_zc_3 : (Try.prog.info? 3).map (fun i => i.zero.map (fun z => z.cells.toList)) = some (some [.int .i64 0]) := by kernel_rfl
theorem k_by_3_8 : bytesB Try.prog 3 8 = true := by kernel_rfl
theorem k_zero_3 : (Try.prog.info? 3).map (·.zero) = some (some (.int .i64 0)) := by kernel_rfl
theorem k_ag_68 : aggB Try.prog 68 = true := by kernel_rfl
theorem k_sz_68_3 : sizeB Try.prog 68 3 = true := by kernel_rfl
theorem k_fd_68_2_2_66 : fieldB Try.prog 68 2 2 66 = true := by kernel_rfl
theorem k_sz_66_1 : sizeB Try.prog 66 1 = true := by kernel_rfl
theorem k_sc_66 : scalB Try.prog 66 = true := by kernel_rfl
theorem k_sl_66_203 : sliceB Try.prog 66 203 = true := by kernel_rfl
theorem k_call_74 : callB Try.prog 74 = true := by kernel_rfl
theorem k_call_29 : callB Try.prog 29 = true := by kernel_rfl
theorem k_zero_75 : (Try.prog.info? 75).map (·.zero) = some (some (.agg #[.int .i64 0, .int .i64 0, .slice none 0 0])) := by kernel_rfl
theorem k_fd_68_0_0_3 : fieldB Try.prog 68 0 0 3 = true := by kernel_rfl
theorem k_fd_75_0_0_3 : fieldB Try.prog 75 0 0 3 = true := by kernel_rfl
theorem k_fd_68_1_1_3 : fieldB Try.prog 68 1 1 3 = true := by kernel_rfl
theorem k_fd_75_1_1_3 : fieldB Try.prog 75 1 1 3 = true := by kernel_rfl
theorem k_sl_73_124 : sliceB Try.prog 73 124 = true := by kernel_rfl
theorem k_sz_124_5 : sizeB Try.prog 124 5 = true := by kernel_rfl
theorem k_by_124_40 : bytesB Try.prog 124 40 = true := by kernel_rfl
theorem k_zero_124 : (Try.prog.info? 124).map (·.zero) = some (some (.agg #[.int .i64 0, .int .i64 0, .int .i64 0, .int .i64 0, .int .i64 0])) := by kernel_rfl
theorem k_sz_203_5 : sizeB Try.prog 203 5 = true := by kernel_rfl
theorem k_ag_203 : aggB Try.prog 203 = true := by kernel_rfl
theorem k_fd_203_0_0_201 : fieldB Try.prog 203 0 0 201 = true := by kernel_rfl
theorem k_sz_201_4 : sizeB Try.prog 201 4 = true := by kernel_rfl
theorem k_ag_201 : aggB Try.prog 201 = true := by kernel_rfl
theorem k_zero_122 : (Try.prog.info? 122).map (·.zero) = some (some (.agg #[.int .i64 0, .int .i64 0, .int .i64 0, .int .i64 0])) := by kernel_rfl
theorem k_fd_201_0_0_3 : fieldB Try.prog 201 0 0 3 = true := by kernel_rfl
theorem k_fd_122_0_0_3 : fieldB Try.prog 122 0 0 3 = true := by kernel_rfl
theorem k_fd_201_1_1_3 : fieldB Try.prog 201 1 1 3 = true := by kernel_rfl
theorem k_fd_122_1_1_3 : fieldB Try.prog 122 1 1 3 = true := by kernel_rfl
theorem k_fd_201_2_2_3 : fieldB Try.prog 201 2 2 3 = true := by kernel_rfl
theorem k_fd_122_2_2_3 : fieldB Try.prog 122 2 2 3 = true := by kernel_rfl
theorem k_fd_201_3_3_3 : fieldB Try.prog 201 3 3 3 = true := by kernel_rfl
theorem k_fd_122_3_3_3 : fieldB Try.prog 122 3 3 3 = true := by kernel_rfl
theorem k_ag_122 : aggB Try.prog 122 = true := by kernel_rfl
theorem k_sz_122_4 : sizeB Try.prog 122 4 = true := by kernel_rfl
theorem k_call_207 : callB Try.prog 207 = true := by kernel_rfl
theorem k_fd_124_0_0_122 : fieldB Try.prog 124 0 0 122 = true := by kernel_rfl
theorem k_fd_203_1_4_3 : fieldB Try.prog 203 1 4 3 = true := by kernel_rfl
theorem k_fd_124_1_4_3 : fieldB Try.prog 124 1 4 3 = true := by kernel_rfl
theorem k_ag_124 : aggB Try.prog 124 = true := by kernel_rfl
theorem k_call_146 : callB Try.prog 146 = true := by kernel_rfl
theorem k_call_79 : callB Try.prog 79 = true := by kernel_rfl
theorem k_fd_75_2_2_73 : fieldB Try.prog 75 2 2 73 = true := by kernel_rfl
theorem k_sz_73_1 : sizeB Try.prog 73 1 = true := by kernel_rfl
theorem k_ag_75 : aggB Try.prog 75 = true := by kernel_rfl
theorem k_sz_75_3 : sizeB Try.prog 75 3 = true := by kernel_rfl
theorem k_call_31 : callB Try.prog 31 = true := by kernel_rfl
theorem k_call_193 : callB Try.prog 193 = true := by kernel_rfl
theorem k_call_134 : callB Try.prog 134 = true := by kernel_rfl
theorem k_sc_73 : scalB Try.prog 73 = true := by kernel_rfl
theorem k_call_233 : callB Try.prog 233 = true := by kernel_rfl
theorem k_call_194 : callB Try.prog 194 = true := by kernel_rfl
theorem k_call_195 : callB Try.prog 195 = true := by kernel_rfl
theorem k_call_135 : callB Try.prog 135 = true := by kernel_rfl
theorem k_call_75 : callB Try.prog 75 = true := by kernel_rfl
theorem k_call_76 : callB Try.prog 76 = true := by kernel_rfl
theorem k_pl_124 : placesB Try.prog 124 [(0, 4), (4, 1)] = true := by kernel_rfl
theorem k_st_124 : structB Try.prog 124 [(122, 0), (3, 4)] = true := by kernel_rfl
theorem k_ho_124 : Try.prog.stoodInHeld 124 = false := by kernel_rfl
theorem k_int_3_i64 : intB Try.prog 3 .i64 = true := by kernel_rfl
theorem k_st_122 : structB Try.prog 122 [(3, 0), (3, 1), (3, 2), (3, 3)] = true := by kernel_rfl
theorem k_ho_122 : Try.prog.stoodInHeld 122 = false := by kernel_rfl
theorem k_eg_124 : Try.prog.eqGuardType Try.prog.depth 124 = false := by kernel_rfl
theorem k_zero_127 : (Try.prog.info? 127).map (·.zero) = some (some (.agg #[.bool false])) := by kernel_rfl
theorem k_pl_127 : placesB Try.prog 127 [(0, 1)] = true := by kernel_rfl
theorem k_pl_122 : placesB Try.prog 122 [(0, 1), (1, 1), (2, 1), (3, 1)] = true := by kernel_rfl
theorem k_call_201 : callB Try.prog 201 = true := by kernel_rfl
theorem k_fd_127_0_0_4 : fieldB Try.prog 127 0 0 4 = true := by kernel_rfl
theorem k_sz_4_1 : sizeB Try.prog 4 1 = true := by kernel_rfl
theorem k_call_197 : callB Try.prog 197 = true := by kernel_rfl
theorem k_call_234 : callB Try.prog 234 = true := by kernel_rfl
theorem k_call_200 : callB Try.prog 200 = true := by kernel_rfl
theorem k_call_196 : callB Try.prog 196 = true := by kernel_rfl
theorem k_call_198 : callB Try.prog 198 = true := by kernel_rfl
theorem k_call_199 : callB Try.prog 199 = true := by kernel_rfl
theorem k_call_138 : callB Try.prog 138 = true := by kernel_rfl
theorem k_call_137 : callB Try.prog 137 = true := by kernel_rfl
theorem k_call_136 : callB Try.prog 136 = true := by kernel_rfl
theorem k_sc_4 : scalB Try.prog 4 = true := by kernel_rfl
theorem k_call_202 : callB Try.prog 202 = true := by kernel_rfl
theorem k_call_139 : callB Try.prog 139 = true := by kernel_rfl
theorem k_call_77 : callB Try.prog 77 = true := by kernel_rfl
theorem k_call_145 : callB Try.prog 145 = true := by kernel_rfl
theorem k_call_140 : callB Try.prog 140 = true := by kernel_rfl
theorem k_zero_133 : (Try.prog.info? 133).map (·.zero) = some (some (.agg #[.int .i64 0, .int .i64 0, .int .i64 0, .int .i64 0])) := by kernel_rfl
theorem k_sl_207_122 : sliceB Try.prog 207 122 = true := by kernel_rfl
theorem k_zc_122 : (Try.prog.info? 122).map (fun i => i.zero.map (fun z => z.cells.toList)) = some (some [.int .i64 0, .int .i64 0, .int .i64 0, .int .i64 0]) := by kernel_rfl
theorem k_by_122_32 : bytesB Try.prog 122 32 = true := by kernel_rfl
theorem k_call_203 : callB Try.prog 203 = true := by kernel_rfl
theorem k_call_236 : callB Try.prog 236 = true := by kernel_rfl
theorem k_call_235 : callB Try.prog 235 = true := by kernel_rfl
theorem k_call_204 : callB Try.prog 204 = true := by kernel_rfl
theorem k_pl_133 : placesB Try.prog 133 [(0, 1), (1, 1), (2, 1), (3, 1)] = true := by kernel_rfl
theorem k_sz_133_4 : sizeB Try.prog 133 4 = true := by kernel_rfl
theorem k_call_205 : callB Try.prog 205 = true := by kernel_rfl
theorem k_ag_133 : aggB Try.prog 133 = true := by kernel_rfl
theorem k_call_141 : callB Try.prog 141 = true := by kernel_rfl
theorem k_sl_70_133 : sliceB Try.prog 70 133 = true := by kernel_rfl
theorem k_zc_133 : (Try.prog.info? 133).map (fun i => i.zero.map (fun z => z.cells.toList)) = some (some [.int .i64 0, .int .i64 0, .int .i64 0, .int .i64 0]) := by kernel_rfl
theorem k_by_133_32 : bytesB Try.prog 133 32 = true := by kernel_rfl
theorem k_zc_124 : (Try.prog.info? 124).map (fun i => i.zero.map (fun z => z.cells.toList)) = some (some [.int .i64 0, .int .i64 0, .int .i64 0, .int .i64 0, .int .i64 0]) := by kernel_rfl
theorem k_pl_75 : placesB Try.prog 75 [(0, 1), (1, 1), (2, 1)] = true := by kernel_rfl
theorem k_fd_133_1_1_3 : fieldB Try.prog 133 1 1 3 = true := by kernel_rfl
theorem k_fd_133_3_3_3 : fieldB Try.prog 133 3 3 3 = true := by kernel_rfl
theorem k_fd_133_2_2_3 : fieldB Try.prog 133 2 2 3 = true := by kernel_rfl
theorem k_fd_133_0_0_3 : fieldB Try.prog 133 0 0 3 = true := by kernel_rfl
theorem k_call_237 : callB Try.prog 237 = true := by kernel_rfl
theorem k_call_206 : callB Try.prog 206 = true := by kernel_rfl
theorem k_call_142 : callB Try.prog 142 = true := by kernel_rfl
theorem k_call_143 : callB Try.prog 143 = true := by kernel_rfl
theorem k_call_144 : callB Try.prog 144 = true := by kernel_rfl
theorem k_call_78 : callB Try.prog 78 = true := by kernel_rfl
theorem k_call_30 : callB Try.prog 30 = true := by kernel_rfl
theorem k_call_98 : callB Try.prog 98 = true := by kernel_rfl
theorem k_call_208 : callB Try.prog 208 = true := by kernel_rfl
theorem k_call_238 : callB Try.prog 238 = true := by kernel_rfl
theorem k_call_254 : callB Try.prog 254 = true := by kernel_rfl
theorem k_call_239 : callB Try.prog 239 = true := by kernel_rfl
theorem k_call_240 : callB Try.prog 240 = true := by kernel_rfl
theorem k_call_211 : callB Try.prog 211 = true := by kernel_rfl
theorem k_call_210 : callB Try.prog 210 = true := by kernel_rfl
theorem k_call_209 : callB Try.prog 209 = true := by kernel_rfl
theorem k_call_147 : callB Try.prog 147 = true := by kernel_rfl
theorem k_call_148 : callB Try.prog 148 = true := by kernel_rfl
theorem k_call_242 : callB Try.prog 242 = true := by kernel_rfl
theorem k_call_241 : callB Try.prog 241 = true := by kernel_rfl
theorem k_call_212 : callB Try.prog 212 = true := by kernel_rfl
theorem k_call_221 : callB Try.prog 221 = true := by kernel_rfl
theorem k_call_243 : callB Try.prog 243 = true := by kernel_rfl
theorem k_call_222 : callB Try.prog 222 = true := by kernel_rfl
theorem k_call_161 : callB Try.prog 161 = true := by kernel_rfl
theorem k_call_149 : callB Try.prog 149 = true := by kernel_rfl
theorem k_call_216 : callB Try.prog 216 = true := by kernel_rfl
theorem k_call_153 : callB Try.prog 153 = true := by kernel_rfl
theorem k_call_214 : callB Try.prog 214 = true := by kernel_rfl
theorem k_call_213 : callB Try.prog 213 = true := by kernel_rfl
theorem k_call_150 : callB Try.prog 150 = true := by kernel_rfl
theorem k_call_151 : callB Try.prog 151 = true := by kernel_rfl
theorem k_call_80 : callB Try.prog 80 = true := by kernel_rfl
theorem k_call_81 : callB Try.prog 81 = true := by kernel_rfl
theorem k_call_218 : callB Try.prog 218 = true := by kernel_rfl
theorem k_call_215 : callB Try.prog 215 = true := by kernel_rfl
theorem k_call_152 : callB Try.prog 152 = true := by kernel_rfl
theorem k_call_82 : callB Try.prog 82 = true := by kernel_rfl
theorem k_call_217 : callB Try.prog 217 = true := by kernel_rfl
theorem k_call_154 : callB Try.prog 154 = true := by kernel_rfl
theorem k_call_219 : callB Try.prog 219 = true := by kernel_rfl
theorem k_call_155 : callB Try.prog 155 = true := by kernel_rfl
theorem k_call_83 : callB Try.prog 83 = true := by kernel_rfl
theorem k_call_156 : callB Try.prog 156 = true := by kernel_rfl
theorem k_call_220 : callB Try.prog 220 = true := by kernel_rfl
theorem k_call_159 : callB Try.prog 159 = true := by kernel_rfl
theorem k_call_158 : callB Try.prog 158 = true := by kernel_rfl
theorem k_call_157 : callB Try.prog 157 = true := by kernel_rfl
theorem k_call_84 : callB Try.prog 84 = true := by kernel_rfl
theorem k_call_162 : callB Try.prog 162 = true := by kernel_rfl
theorem k_call_160 : callB Try.prog 160 = true := by kernel_rfl
theorem k_call_85 : callB Try.prog 85 = true := by kernel_rfl
theorem k_call_32 : callB Try.prog 32 = true := by kernel_rfl
theorem k_call_86 : callB Try.prog 86 = true := by kernel_rfl
theorem k_call_33 : callB Try.prog 33 = true := by kernel_rfl
theorem k_und_4 : Try.prog.underlying 4 = some .bool := by kernel_rfl
theorem k_call_223 : callB Try.prog 223 = true := by kernel_rfl
theorem k_call_163 : callB Try.prog 163 = true := by kernel_rfl
theorem k_call_87 : callB Try.prog 87 = true := by kernel_rfl
theorem k_call_34 : callB Try.prog 34 = true := by kernel_rfl
theorem k_call_88 : callB Try.prog 88 = true := by kernel_rfl
theorem k_call_35 : callB Try.prog 35 = true := by kernel_rfl
theorem k_call_36 : callB Try.prog 36 = true := by kernel_rfl
theorem k_call_37 : callB Try.prog 37 = true := by kernel_rfl
end Go.VK
