/- Closed facts on the types. -/
import Derived.Test.YtmonoeihfeikeaaGreatGatesCommuteFn
import Derived.Test.YtmonoeihfeikeaaGreatChecked
namespace Go.VK
open Go.RowKit
open Go.Proofs
abbrev vi (x : Int) : Value := .int .i64 x
abbrev aD (b : Nat) : Option Addr := some ⟨b, 0, none⟩
abbrev kD_ (x : TDyadic) : List Value := [vi x.Num.A, vi x.Num.B, vi x.Num.C, vi x.Num.D, vi x.Exp]
abbrev gD_ (x : TDyadic) : Value := .agg #[vi x.Num.A, vi x.Num.B, vi x.Num.C, vi x.Num.D, vi x.Exp]
abbrev kR_ (x : TRing) : List Value := [vi x.A, vi x.B, vi x.C, vi x.D]
abbrev gR_ (x : TRing) : Value := .agg #[vi x.A, vi x.B, vi x.C, vi x.D]
abbrev kM_ (m : TMatrix) (B : Option Addr) (c : Nat) : List Value := [vi m.Rows, vi m.Cols, .slice B m.Cells.length c]
abbrev gM_ (m : TMatrix) (B : Option Addr) (c : Nat) : Value := .agg #[vi m.Rows, vi m.Cols, .slice B m.Cells.length c]
abbrev kZ_ : List Value := [vi 0, vi 0, vi 0, vi 0, vi 0]
abbrev gZ_ : Value := .agg #[vi 0, vi 0, vi 0, vi 0, vi 0]
abbrev kN_ : List Value := [vi 0, vi 0, .slice none 0 0]
abbrev gN_ : Value := .agg #[vi 0, vi 0, .slice none 0 0]
theorem lB {n m : Nat} (h : Nat.ble n m = true) : n ≤ m := Nat.le_of_ble_eq_true h
theorem mAr {α : Type} {b : α} {xs : List α} (ys : List α) (h : b ∈ xs) : b ∈ ys ++ xs := List.mem_append_right ys h
theorem mAl {α : Type} {b : α} {xs : List α} (ys : List α) (h : b ∈ xs) : b ∈ xs ++ ys := List.mem_append_left ys h
theorem mOd {α : Type} {b : α} {i : Nat} {xs : List α} (h : b ∈ xs.drop i) : b ∈ xs := List.mem_of_mem_drop h
section
variable {P : Program} {n : Nat} {N : FW} {f : Nat → Value} {w0 w : World} {ops : Array Oper} {rest : List Oper} {o : Oper} {S : World → Prop} {M : List Nat} {L : List Ob} {R : List Ro}
theorem rq (i t : Nat) {fuel : Nat} {listed : Array Bool} {v : Value} (hi : ops[i]? = some o) (hS : S w) (hy : ∀ w', S w' → Y P n f w' o v) (k : RA P n ops N S fuel (listed.setIfInBounds i true) (upd f t v) w)
    (hg : o.guard = none := by exact rfl) (hd : o.dst = some t := by exact rfl) (hs : Region.noSelect ops = true := by kernel_rfl) (hf : Region.free .any ops listed i = true := by kernel_rfl)
    (hr : (Region.ready .any ops listed).contains i = true := by kernel_rfl) : RA P n ops N S (fuel + 1) listed f w := ra_q i t hi hg hd hs hf hr hS hy k
theorem rA (rs : List Nat) {fuel : Nat} {listed : Array Bool} (h : AllR P n ops N S fuel listed f w rs) (hr : Region.ready .any ops listed = rs := by kernel_rfl) (hne : rs.isEmpty = false := by exact rfl) : RA P n ops N S (fuel + 1) listed f w := ra_all hr hne h
theorem sQ (t : Nat) {v : Value} (h : Y P n f w o v) (k : RW P n ops N rest (upd f t v) w) (hg : o.guard = none := by exact rfl) (hd : o.dst = some t := by exact rfl) : RW P n ops N (o :: rest) f w := sq t hg hd h k
theorem uT_ {j : Nat} (t : Nat) {b : Bool} (h : (ops.toList[j]?).bind (·.dst) = some t := by kernel_rfl) (hb : ev n f (.tmp t) = .bool b := by exact rfl) : Wt (gd n f ops j) true b := wt_t (gd_of h hb)
theorem uF_ {j : Nat} (t : Nat) {b : Bool} (h : (ops.toList[j]?).bind (·.dst) = some t := by kernel_rfl) (hb : ev n f (.tmp t) = .bool b := by exact rfl) : Wt (gd n f ops j) false (!b) := wt_f (gd_of h hb)
theorem s0 {S : Value → World → Prop} (h : Ys P n f w o S) (k : ∀ v w', S v w' → RW P n ops N rest f w') (hg : o.guard = none := by exact rfl) (hd : o.dst = none := by exact rfl) : RW P n ops N (o :: rest) f w := ss0 hg hd h k
theorem sS (t : Nat) {S : Value → World → Prop} (h : Ys P n f w o S) (k : ∀ v w', S v w' → RW P n ops N rest (upd f t v) w') (hg : o.guard = none := by exact rfl) (hd : o.dst = some t := by exact rfl) : RW P n ops N (o :: rest) f w := ss t hg hd h k
theorem ST.se (hS : ST w0 M w L R) (is : List Nat) (hn : decide is.Nodup = true := by exact rfl) (hb : is.all (fun i => (L[i]?).isSome) = true := by exact rfl) : ST w0 M w (is.filterMap fun i => L[i]?) R := hS.sel is hn hb
theorem ST.sN (hS : ST w0 M w L R) (is : List Nat) (hn : decide is.Nodup = true := by exact rfl) (hb : is.all (fun i => (L[i]?).isSome) = true := by exact rfl) : ST w0 M w (is.filterMap fun i => L[i]?) [] := ST.subR (hS.sel is hn hb) (fun _ h => by cases h)
end
theorem k_zero_26 : (Tryz.prog.info? 26).map (·.zero) = some (some (.agg #[.int .i64 0, .slice none 0 0])) := by kernel_rfl
theorem k_sl_43_3 : sliceB Tryz.prog 43 3 = true := by kernel_rfl
theorem k_sz_3_1 : sizeB Tryz.prog 3 1 = true := by kernel_rfl
theorem k_zc_3 : (Tryz.prog.info? 3).map (fun i => i.zero.map (fun z => z.cells.toList)) = some (some [.int .i64 0]) := by kernel_rfl
theorem k_sc_3 : scalB Tryz.prog 3 = true := by kernel_rfl
theorem k_int_3_i64 : intB Tryz.prog 3 .i64 = true := by kernel_rfl
theorem k_us_3 : (Tryz.prog.underlying 3).isSome = true := by kernel_rfl
theorem k_pl_26 : placesB Tryz.prog 26 [(0, 1), (1, 1)] = true := by kernel_rfl
theorem k_sz_26_2 : sizeB Tryz.prog 26 2 = true := by kernel_rfl
theorem k_fd_26_1_1_24 : fieldB Tryz.prog 26 1 1 24 = true := by kernel_rfl
theorem k_sz_24_1 : sizeB Tryz.prog 24 1 = true := by kernel_rfl
theorem k_sc_24 : scalB Tryz.prog 24 = true := by kernel_rfl
theorem k_zero_67 : (Tryz.prog.info? 67).map (·.zero) = some (some (.agg #[.int .i64 0, .int .i64 0, .int .i64 0])) := by kernel_rfl
theorem k_pl_67 : placesB Tryz.prog 67 [(0, 1), (1, 1), (2, 1)] = true := by kernel_rfl
theorem k_sz_67_3 : sizeB Tryz.prog 67 3 = true := by kernel_rfl
theorem k_fd_67_0_0_3 : fieldB Tryz.prog 67 0 0 3 = true := by kernel_rfl
theorem k_ag_67 : aggB Tryz.prog 67 = true := by kernel_rfl
theorem k_fd_67_1_1_3 : fieldB Tryz.prog 67 1 1 3 = true := by kernel_rfl
theorem k_call_69 : callB Tryz.prog 69 = true := by kernel_rfl
theorem k_fd_67_2_2_3 : fieldB Tryz.prog 67 2 2 3 = true := by kernel_rfl
theorem k_sl_24_67 : sliceB Tryz.prog 24 67 = true := by kernel_rfl
theorem k_zc_67 : (Tryz.prog.info? 67).map (fun i => i.zero.map (fun z => z.cells.toList)) = some (some [.int .i64 0, .int .i64 0, .int .i64 0]) := by kernel_rfl
theorem k_by_67_24 : bytesB Tryz.prog 67 24 = true := by kernel_rfl
theorem k_ag_26 : aggB Tryz.prog 26 = true := by kernel_rfl
theorem k_fd_26_0_0_3 : fieldB Tryz.prog 26 0 0 3 = true := by kernel_rfl
theorem k_zero_30 : (Tryz.prog.info? 30).map (·.zero) = some (some (.agg #[.int .i64 0, .int .i64 0, .slice none 0 0])) := by kernel_rfl
theorem k_call_65 : callB Tryz.prog 65 = true := by kernel_rfl
theorem k_call_116 : callB Tryz.prog 116 = true := by kernel_rfl
theorem k_call_111 : callB Tryz.prog 111 = true := by kernel_rfl
theorem k_call_72 : callB Tryz.prog 72 = true := by kernel_rfl
theorem k_call_75 : callB Tryz.prog 75 = true := by kernel_rfl
theorem k_call_74 : callB Tryz.prog 74 = true := by kernel_rfl
theorem k_call_31 : callB Tryz.prog 31 = true := by kernel_rfl
theorem k_pl_30 : placesB Tryz.prog 30 [(0, 1), (1, 1), (2, 1)] = true := by kernel_rfl
theorem k_sz_30_3 : sizeB Tryz.prog 30 3 = true := by kernel_rfl
theorem k_ag_30 : aggB Tryz.prog 30 = true := by kernel_rfl
theorem k_call_117 : callB Tryz.prog 117 = true := by kernel_rfl
theorem k_zero_63 : (Tryz.prog.info? 63).map (·.zero) = some (some (.agg #[.int .i64 0, .int .i64 0, .int .i64 0, .int .i64 0, .int .i64 0])) := by kernel_rfl
theorem k_sz_63_5 : sizeB Tryz.prog 63 5 = true := by kernel_rfl
theorem k_fd_30_2_2_28 : fieldB Tryz.prog 30 2 2 28 = true := by kernel_rfl
theorem k_sz_28_1 : sizeB Tryz.prog 28 1 = true := by kernel_rfl
theorem k_sc_28 : scalB Tryz.prog 28 = true := by kernel_rfl
theorem k_ag_63 : aggB Tryz.prog 63 = true := by kernel_rfl
theorem k_sl_28_63 : sliceB Tryz.prog 28 63 = true := by kernel_rfl
theorem k_zc_63 : (Tryz.prog.info? 63).map (fun i => i.zero.map (fun z => z.cells.toList)) = some (some [.int .i64 0, .int .i64 0, .int .i64 0, .int .i64 0, .int .i64 0]) := by kernel_rfl
theorem k_by_63_40 : bytesB Tryz.prog 63 40 = true := by kernel_rfl
theorem k_zero_61 : (Tryz.prog.info? 61).map (·.zero) = some (some (.agg #[.int .i64 0, .int .i64 0, .int .i64 0, .int .i64 0])) := by kernel_rfl
theorem k_pl_61 : placesB Tryz.prog 61 [(0, 1), (1, 1), (2, 1), (3, 1)] = true := by kernel_rfl
theorem k_pl_63 : placesB Tryz.prog 63 [(0, 4), (4, 1)] = true := by kernel_rfl
theorem k_call_78 : callB Tryz.prog 78 = true := by kernel_rfl
theorem k_call_77 : callB Tryz.prog 77 = true := by kernel_rfl
theorem k_call_76 : callB Tryz.prog 76 = true := by kernel_rfl
theorem k_call_32 : callB Tryz.prog 32 = true := by kernel_rfl
theorem k_ag_61 : aggB Tryz.prog 61 = true := by kernel_rfl
theorem k_sz_61_4 : sizeB Tryz.prog 61 4 = true := by kernel_rfl
theorem k_fd_61_0_0_3 : fieldB Tryz.prog 61 0 0 3 = true := by kernel_rfl
theorem k_call_175 : callB Tryz.prog 175 = true := by kernel_rfl
theorem k_fd_61_1_1_3 : fieldB Tryz.prog 61 1 1 3 = true := by kernel_rfl
theorem k_fd_61_2_2_3 : fieldB Tryz.prog 61 2 2 3 = true := by kernel_rfl
theorem k_fd_61_3_3_3 : fieldB Tryz.prog 61 3 3 3 = true := by kernel_rfl
theorem k_call_152 : callB Tryz.prog 152 = true := by kernel_rfl
theorem k_call_106 : callB Tryz.prog 106 = true := by kernel_rfl
theorem k_call_68 : callB Tryz.prog 68 = true := by kernel_rfl
theorem k_call_121 : callB Tryz.prog 121 = true := by kernel_rfl
theorem k_call_122 : callB Tryz.prog 122 = true := by kernel_rfl
theorem k_call_119 : callB Tryz.prog 119 = true := by kernel_rfl
theorem k_call_120 : callB Tryz.prog 120 = true := by kernel_rfl
theorem k_map_170_3_3 : mapB Tryz.prog 170 3 3 = true := by kernel_rfl
theorem k_fd_63_0_0_61 : fieldB Tryz.prog 63 0 0 61 = true := by kernel_rfl
theorem k_zero_3 : (Tryz.prog.info? 3).map (·.zero) = some (some (.int .i64 0)) := by kernel_rfl
theorem k_call_123 : callB Tryz.prog 123 = true := by kernel_rfl
theorem k_call_118 : callB Tryz.prog 118 = true := by kernel_rfl
theorem k_call_79 : callB Tryz.prog 79 = true := by kernel_rfl
theorem k_fd_30_0_0_3 : fieldB Tryz.prog 30 0 0 3 = true := by kernel_rfl
theorem k_fd_30_1_1_3 : fieldB Tryz.prog 30 1 1 3 = true := by kernel_rfl
theorem k_call_168 : callB Tryz.prog 168 = true := by kernel_rfl
theorem k_fd_63_1_4_3 : fieldB Tryz.prog 63 1 4 3 = true := by kernel_rfl
theorem k_call_169 : callB Tryz.prog 169 = true := by kernel_rfl
theorem k_call_140 : callB Tryz.prog 140 = true := by kernel_rfl
theorem k_call_139 : callB Tryz.prog 139 = true := by kernel_rfl
theorem k_call_138 : callB Tryz.prog 138 = true := by kernel_rfl
theorem k_call_89 : callB Tryz.prog 89 = true := by kernel_rfl
theorem k_sl_196_61 : sliceB Tryz.prog 196 61 = true := by kernel_rfl
theorem k_zc_61 : (Tryz.prog.info? 61).map (fun i => i.zero.map (fun z => z.cells.toList)) = some (some [.int .i64 0, .int .i64 0, .int .i64 0, .int .i64 0]) := by kernel_rfl
theorem k_by_61_32 : bytesB Tryz.prog 61 32 = true := by kernel_rfl
theorem k_call_179 : callB Tryz.prog 179 = true := by kernel_rfl
theorem k_call_160 : callB Tryz.prog 160 = true := by kernel_rfl
theorem k_call_180 : callB Tryz.prog 180 = true := by kernel_rfl
theorem k_call_161 : callB Tryz.prog 161 = true := by kernel_rfl
theorem k_call_105 : callB Tryz.prog 105 = true := by kernel_rfl
theorem k_call_125 : callB Tryz.prog 125 = true := by kernel_rfl
theorem k_call_192 : callB Tryz.prog 192 = true := by kernel_rfl
theorem k_call_181 : callB Tryz.prog 181 = true := by kernel_rfl
theorem k_call_163 : callB Tryz.prog 163 = true := by kernel_rfl
theorem k_call_162 : callB Tryz.prog 162 = true := by kernel_rfl
theorem k_call_126 : callB Tryz.prog 126 = true := by kernel_rfl
theorem k_call_124 : callB Tryz.prog 124 = true := by kernel_rfl
theorem k_call_80 : callB Tryz.prog 80 = true := by kernel_rfl
theorem k_call_33 : callB Tryz.prog 33 = true := by kernel_rfl
theorem k_call_8 : callB Tryz.prog 8 = true := by kernel_rfl
theorem k_call_70 : callB Tryz.prog 70 = true := by kernel_rfl
theorem k_zero_75 : (Tryz.prog.info? 75).map (·.zero) = some (some (.agg #[.bool false])) := by kernel_rfl
theorem k_pl_75 : placesB Tryz.prog 75 [(0, 1)] = true := by kernel_rfl
theorem k_int_53_u64 : intB Tryz.prog 53 .u64 = true := by kernel_rfl
theorem k_call_128 : callB Tryz.prog 128 = true := by kernel_rfl
theorem k_call_82 : callB Tryz.prog 82 = true := by kernel_rfl
theorem k_fd_75_0_0_4 : fieldB Tryz.prog 75 0 0 4 = true := by kernel_rfl
theorem k_sz_4_1 : sizeB Tryz.prog 4 1 = true := by kernel_rfl
theorem k_sc_4 : scalB Tryz.prog 4 = true := by kernel_rfl
theorem k_call_164 : callB Tryz.prog 164 = true := by kernel_rfl
theorem k_call_193 : callB Tryz.prog 193 = true := by kernel_rfl
theorem k_call_182 : callB Tryz.prog 182 = true := by kernel_rfl
theorem k_call_165 : callB Tryz.prog 165 = true := by kernel_rfl
theorem k_call_127 : callB Tryz.prog 127 = true := by kernel_rfl
theorem k_call_166 : callB Tryz.prog 166 = true := by kernel_rfl
theorem k_call_130 : callB Tryz.prog 130 = true := by kernel_rfl
theorem k_call_131 : callB Tryz.prog 131 = true := by kernel_rfl
theorem k_call_133 : callB Tryz.prog 133 = true := by kernel_rfl
theorem k_call_167 : callB Tryz.prog 167 = true := by kernel_rfl
theorem k_call_136 : callB Tryz.prog 136 = true := by kernel_rfl
theorem k_call_132 : callB Tryz.prog 132 = true := by kernel_rfl
theorem k_call_134 : callB Tryz.prog 134 = true := by kernel_rfl
theorem k_call_135 : callB Tryz.prog 135 = true := by kernel_rfl
theorem k_call_86 : callB Tryz.prog 86 = true := by kernel_rfl
theorem k_call_85 : callB Tryz.prog 85 = true := by kernel_rfl
theorem k_call_81 : callB Tryz.prog 81 = true := by kernel_rfl
theorem k_call_39 : callB Tryz.prog 39 = true := by kernel_rfl
theorem k_und_4 : Tryz.prog.underlying 4 = some .bool := by kernel_rfl
theorem k_st_63 : structB Tryz.prog 63 [(61, 0), (3, 4)] = true := by kernel_rfl
theorem k_ho_63 : Tryz.prog.stoodInHeld 63 = false := by kernel_rfl
theorem k_st_61 : structB Tryz.prog 61 [(3, 0), (3, 1), (3, 2), (3, 3)] = true := by kernel_rfl
theorem k_ho_61 : Tryz.prog.stoodInHeld 61 = false := by kernel_rfl
theorem k_eg_63 : Tryz.prog.eqGuardType Tryz.prog.depth 63 = false := by kernel_rfl
theorem k_call_10 : callB Tryz.prog 10 = true := by kernel_rfl
theorem k_call_129 : callB Tryz.prog 129 = true := by kernel_rfl
theorem k_call_142 : callB Tryz.prog 142 = true := by kernel_rfl
theorem k_call_91 : callB Tryz.prog 91 = true := by kernel_rfl
theorem k_sz_43_1 : sizeB Tryz.prog 43 1 = true := by kernel_rfl
theorem k_sc_43 : scalB Tryz.prog 43 = true := by kernel_rfl
theorem k_by_3_8 : bytesB Tryz.prog 3 8 = true := by kernel_rfl
theorem k_call_170 : callB Tryz.prog 170 = true := by kernel_rfl
theorem k_call_144 : callB Tryz.prog 144 = true := by kernel_rfl
theorem k_ag_65 : aggB Tryz.prog 65 = true := by kernel_rfl
theorem k_sz_65_3 : sizeB Tryz.prog 65 3 = true := by kernel_rfl
theorem k_fd_65_0_0_3 : fieldB Tryz.prog 65 0 0 3 = true := by kernel_rfl
theorem k_fd_65_1_1_3 : fieldB Tryz.prog 65 1 1 3 = true := by kernel_rfl
theorem k_fd_65_2_2_3 : fieldB Tryz.prog 65 2 2 3 = true := by kernel_rfl
theorem k_call_153 : callB Tryz.prog 153 = true := by kernel_rfl
theorem k_call_108 : callB Tryz.prog 108 = true := by kernel_rfl
theorem k_call_107 : callB Tryz.prog 107 = true := by kernel_rfl
theorem k_call_109 : callB Tryz.prog 109 = true := by kernel_rfl
theorem k_call_154 : callB Tryz.prog 154 = true := by kernel_rfl
theorem k_call_110 : callB Tryz.prog 110 = true := by kernel_rfl
theorem k_call_71 : callB Tryz.prog 71 = true := by kernel_rfl
theorem k_call_28 : callB Tryz.prog 28 = true := by kernel_rfl
theorem k_call_27 : callB Tryz.prog 27 = true := by kernel_rfl
theorem k_call_114 : callB Tryz.prog 114 = true := by kernel_rfl
theorem k_call_176 : callB Tryz.prog 176 = true := by kernel_rfl
theorem k_call_156 : callB Tryz.prog 156 = true := by kernel_rfl
theorem k_call_155 : callB Tryz.prog 155 = true := by kernel_rfl
theorem k_call_112 : callB Tryz.prog 112 = true := by kernel_rfl
theorem k_sl_184_43 : sliceB Tryz.prog 184 43 = true := by kernel_rfl
theorem k_zc_43 : (Tryz.prog.info? 43).map (fun i => i.zero.map (fun z => z.cells.toList)) = some (some [.slice none 0 0]) := by kernel_rfl
theorem k_call_177 : callB Tryz.prog 177 = true := by kernel_rfl
theorem k_call_157 : callB Tryz.prog 157 = true := by kernel_rfl
theorem k_call_158 : callB Tryz.prog 158 = true := by kernel_rfl
theorem k_call_159 : callB Tryz.prog 159 = true := by kernel_rfl
theorem k_call_113 : callB Tryz.prog 113 = true := by kernel_rfl
theorem k_call_115 : callB Tryz.prog 115 = true := by kernel_rfl
theorem k_call_73 : callB Tryz.prog 73 = true := by kernel_rfl
theorem k_call_29 : callB Tryz.prog 29 = true := by kernel_rfl
end Go.VK
