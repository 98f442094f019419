/- Closed facts on the types. -/
import Derived.Test.YtbhancgonaleoaaGreatDoorMatrixOfFormFn
import Derived.Test.YtbhancgonaleoaaGreatDoorChecked
namespace Go.VK
open Go.RowKit
open Go.Proofs
abbrev vi (x : Int) : Value := .int .i64 x
abbrev aD (b : Nat) : Option Addr := some ⟨b, 0, none⟩
abbrev kD_ (x : TDyadic) : List Value := [vi x.Num.A, vi x.Num.B, vi x.Num.C, vi x.Num.D, vi x.Exp]
abbrev gD_ (x : TDyadic) : Value := .agg #[vi x.Num.A, vi x.Num.B, vi x.Num.C, vi x.Num.D, vi x.Exp]
abbrev kR_ (x : TRing) : List Value := [vi x.A, vi x.B, vi x.C, vi x.D]
abbrev gR_ (x : TRing) : Value := .agg #[vi x.A, vi x.B, vi x.C, vi x.D]
abbrev kM_ (m : TMatrix) (B : Option Addr) (c : Nat) : List Value := [vi m.Rows, vi m.Cols, .slice B m.Cells.length c]
abbrev gM_ (m : TMatrix) (B : Option Addr) (c : Nat) : Value := .agg #[vi m.Rows, vi m.Cols, .slice B m.Cells.length c]
abbrev kB_ (m : TBloch) (B : Option Addr) (c : Nat) : List Value := [.slice B m.Cells.length c]
abbrev gB_ (m : TBloch) (B : Option Addr) (c : Nat) : Value := .agg #[.slice B m.Cells.length c]
abbrev kZ_ : List Value := [vi 0, vi 0, vi 0, vi 0, vi 0]
abbrev gZ_ : Value := .agg #[vi 0, vi 0, vi 0, vi 0, vi 0]
abbrev kN_ : List Value := [vi 0, vi 0, .slice none 0 0]
abbrev gN_ : Value := .agg #[vi 0, vi 0, .slice none 0 0]
theorem lB {n m : Nat} (h : Nat.ble n m = true) : n ≤ m := Nat.le_of_ble_eq_true h
theorem mAr {α : Type} {b : α} {xs : List α} (ys : List α) (h : b ∈ xs) : b ∈ ys ++ xs := List.mem_append_right ys h
theorem mAl {α : Type} {b : α} {xs : List α} (ys : List α) (h : b ∈ xs) : b ∈ xs ++ ys := List.mem_append_left ys h
theorem mOd {α : Type} {b : α} {i : Nat} {xs : List α} (h : b ∈ xs.drop i) : b ∈ xs := List.mem_of_mem_drop h
section
variable {P : Program} {n : Nat} {N : FW} {f : Nat → Value} {w0 w : World} {ops : Array Oper} {rest : List Oper} {o : Oper} {S : World → Prop} {M : List Nat} {L : List Ob} {R : List Ro}
theorem rq (i t : Nat) {fuel : Nat} {listed : Array Bool} {v : Value} (hi : ops[i]? = some o) (hS : S w) (hy : ∀ w', S w' → Y P n f w' o v) (k : RA P n ops N S fuel (listed.setIfInBounds i true) (upd f t v) w)
    (hg : o.guard = none := by exact rfl) (hd : o.dst = some t := by exact rfl) (hs : Region.noSelect ops = true := by kernel_rfl) (hf : Region.free .any ops listed i = true := by kernel_rfl)
    (hr : (Region.ready .any ops listed).contains i = true := by kernel_rfl) : RA P n ops N S (fuel + 1) listed f w := ra_q i t hi hg hd hs hf hr hS hy k
theorem rA (rs : List Nat) {fuel : Nat} {listed : Array Bool} (h : AllR P n ops N S fuel listed f w rs) (hr : Region.ready .any ops listed = rs := by kernel_rfl) (hne : rs.isEmpty = false := by exact rfl) : RA P n ops N S (fuel + 1) listed f w := ra_all hr hne h
theorem sQ (t : Nat) {v : Value} (h : Y P n f w o v) (k : RW P n ops N rest (upd f t v) w) (hg : o.guard = none := by exact rfl) (hd : o.dst = some t := by exact rfl) : RW P n ops N (o :: rest) f w := sq t hg hd h k
theorem uT_ {j : Nat} (t : Nat) {b : Bool} (h : (ops.toList[j]?).bind (·.dst) = some t := by kernel_rfl) (hb : ev n f (.tmp t) = .bool b := by exact rfl) : Wt (gd n f ops j) true b := wt_t (gd_of h hb)
theorem uF_ {j : Nat} (t : Nat) {b : Bool} (h : (ops.toList[j]?).bind (·.dst) = some t := by kernel_rfl) (hb : ev n f (.tmp t) = .bool b := by exact rfl) : Wt (gd n f ops j) false (!b) := wt_f (gd_of h hb)
theorem s0 {S : Value → World → Prop} (h : Ys P n f w o S) (k : ∀ v w', S v w' → RW P n ops N rest f w') (hg : o.guard = none := by exact rfl) (hd : o.dst = none := by exact rfl) : RW P n ops N (o :: rest) f w := ss0 hg hd h k
theorem sS (t : Nat) {S : Value → World → Prop} (h : Ys P n f w o S) (k : ∀ v w', S v w' → RW P n ops N rest (upd f t v) w') (hg : o.guard = none := by exact rfl) (hd : o.dst = some t := by exact rfl) : RW P n ops N (o :: rest) f w := ss t hg hd h k
theorem ST.se (hS : ST w0 M w L R) (is : List Nat) (hn : decide is.Nodup = true := by exact rfl) (hb : is.all (fun i => (L[i]?).isSome) = true := by exact rfl) : ST w0 M w (is.filterMap fun i => L[i]?) R := hS.sel is hn hb
theorem ST.sN (hS : ST w0 M w L R) (is : List Nat) (hn : decide is.Nodup = true := by exact rfl) (hb : is.all (fun i => (L[i]?).isSome) = true := by exact rfl) : ST w0 M w (is.filterMap fun i => L[i]?) [] := ST.subR (hS.sel is hn hb) (fun _ h => by cases h)
end
theorem k_sz_24_1 : sizeB Tryz.prog 24 1 = true := by kernel_rfl
theorem k_fd_24_0_0_22 : fieldB Tryz.prog 24 0 0 22 = true := by kernel_rfl
theorem k_sz_22_1 : sizeB Tryz.prog 22 1 = true := by kernel_rfl
theorem k_sl_22_96 : sliceB Tryz.prog 22 96 = true := by kernel_rfl
theorem k_zero_30 : (Tryz.prog.info? 30).map (·.zero) = some (some (.agg #[.slice none 0 0])) := by kernel_rfl
theorem k_sl_28_65 : sliceB Tryz.prog 28 65 = true := by kernel_rfl
theorem k_sz_65_5 : sizeB Tryz.prog 65 5 = true := by kernel_rfl
theorem k_by_65_40 : bytesB Tryz.prog 65 40 = true := by kernel_rfl
theorem k_zero_65 : (Tryz.prog.info? 65).map (·.zero) = some (some (.agg #[.int .i64 0, .int .i64 0, .int .i64 0, .int .i64 0, .int .i64 0])) := by kernel_rfl
theorem k_sz_96_5 : sizeB Tryz.prog 96 5 = true := by kernel_rfl
theorem k_fd_96_0_0_94 : fieldB Tryz.prog 96 0 0 94 = true := by kernel_rfl
theorem k_sz_94_4 : sizeB Tryz.prog 94 4 = true := by kernel_rfl
theorem k_zero_63 : (Tryz.prog.info? 63).map (·.zero) = some (some (.agg #[.int .i64 0, .int .i64 0, .int .i64 0, .int .i64 0])) := by kernel_rfl
theorem k_fd_94_0_0_3 : fieldB Tryz.prog 94 0 0 3 = true := by kernel_rfl
theorem k_sz_3_1 : sizeB Tryz.prog 3 1 = true := by kernel_rfl
theorem k_sc_3 : scalB Tryz.prog 3 = true := by kernel_rfl
theorem k_fd_63_0_0_3 : fieldB Tryz.prog 63 0 0 3 = true := by kernel_rfl
theorem k_fd_94_1_1_3 : fieldB Tryz.prog 94 1 1 3 = true := by kernel_rfl
theorem k_fd_63_1_1_3 : fieldB Tryz.prog 63 1 1 3 = true := by kernel_rfl
theorem k_fd_94_2_2_3 : fieldB Tryz.prog 94 2 2 3 = true := by kernel_rfl
theorem k_fd_63_2_2_3 : fieldB Tryz.prog 63 2 2 3 = true := by kernel_rfl
theorem k_fd_94_3_3_3 : fieldB Tryz.prog 94 3 3 3 = true := by kernel_rfl
theorem k_fd_63_3_3_3 : fieldB Tryz.prog 63 3 3 3 = true := by kernel_rfl
theorem k_ag_63 : aggB Tryz.prog 63 = true := by kernel_rfl
theorem k_sz_63_4 : sizeB Tryz.prog 63 4 = true := by kernel_rfl
theorem k_fd_65_0_0_63 : fieldB Tryz.prog 65 0 0 63 = true := by kernel_rfl
theorem k_fd_96_1_4_3 : fieldB Tryz.prog 96 1 4 3 = true := by kernel_rfl
theorem k_fd_65_1_4_3 : fieldB Tryz.prog 65 1 4 3 = true := by kernel_rfl
theorem k_ag_65 : aggB Tryz.prog 65 = true := by kernel_rfl
theorem k_fd_30_0_0_28 : fieldB Tryz.prog 30 0 0 28 = true := by kernel_rfl
theorem k_sz_28_1 : sizeB Tryz.prog 28 1 = true := by kernel_rfl
theorem k_ag_30 : aggB Tryz.prog 30 = true := by kernel_rfl
theorem k_sz_30_1 : sizeB Tryz.prog 30 1 = true := by kernel_rfl
theorem k_sc_28 : scalB Tryz.prog 28 = true := by kernel_rfl
theorem k_sl_150_3 : sliceB Tryz.prog 150 3 = true := by kernel_rfl
theorem k_zc_3 : (Tryz.prog.info? 3).map (fun i => i.zero.map (fun z => z.cells.toList)) = some (some [.int .i64 0]) := by kernel_rfl
theorem k_call_71 : callB Tryz.prog 71 = true := by kernel_rfl
theorem k_call_123 : callB Tryz.prog 123 = true := by kernel_rfl
theorem k_call_89 : callB Tryz.prog 89 = true := by kernel_rfl
theorem k_call_90 : callB Tryz.prog 90 = true := by kernel_rfl
theorem k_zero_82 : (Tryz.prog.info? 82).map (·.zero) = some (some (.agg #[.bool false])) := by kernel_rfl
theorem k_pl_82 : placesB Tryz.prog 82 [(0, 1)] = true := by kernel_rfl
theorem k_zc_65 : (Tryz.prog.info? 65).map (fun i => i.zero.map (fun z => z.cells.toList)) = some (some [.int .i64 0, .int .i64 0, .int .i64 0, .int .i64 0, .int .i64 0]) := by kernel_rfl
theorem k_pl_65 : placesB Tryz.prog 65 [(0, 4), (4, 1)] = true := by kernel_rfl
theorem k_fd_82_0_0_4 : fieldB Tryz.prog 82 0 0 4 = true := by kernel_rfl
theorem k_sz_4_1 : sizeB Tryz.prog 4 1 = true := by kernel_rfl
theorem k_pl_63 : placesB Tryz.prog 63 [(0, 1), (1, 1), (2, 1), (3, 1)] = true := by kernel_rfl
theorem k_call_94 : callB Tryz.prog 94 = true := by kernel_rfl
theorem k_call_124 : callB Tryz.prog 124 = true := by kernel_rfl
theorem k_call_93 : callB Tryz.prog 93 = true := by kernel_rfl
theorem k_call_92 : callB Tryz.prog 92 = true := by kernel_rfl
theorem k_call_91 : callB Tryz.prog 91 = true := by kernel_rfl
theorem k_call_95 : callB Tryz.prog 95 = true := by kernel_rfl
theorem k_call_48 : callB Tryz.prog 48 = true := by kernel_rfl
theorem k_call_50 : callB Tryz.prog 50 = true := by kernel_rfl
theorem k_call_96 : callB Tryz.prog 96 = true := by kernel_rfl
theorem k_call_51 : callB Tryz.prog 51 = true := by kernel_rfl
theorem k_sc_4 : scalB Tryz.prog 4 = true := by kernel_rfl
theorem k_pl_30 : placesB Tryz.prog 30 [(0, 1)] = true := by kernel_rfl
theorem k_call_97 : callB Tryz.prog 97 = true := by kernel_rfl
theorem k_call_54 : callB Tryz.prog 54 = true := by kernel_rfl
theorem k_st_65 : structB Tryz.prog 65 [(63, 0), (3, 4)] = true := by kernel_rfl
theorem k_ho_65 : Tryz.prog.stoodInHeld 65 = false := by kernel_rfl
theorem k_int_3_i64 : intB Tryz.prog 3 .i64 = true := by kernel_rfl
theorem k_st_63 : structB Tryz.prog 63 [(3, 0), (3, 1), (3, 2), (3, 3)] = true := by kernel_rfl
theorem k_ho_63 : Tryz.prog.stoodInHeld 63 = false := by kernel_rfl
theorem k_eg_65 : Tryz.prog.eqGuardType Tryz.prog.depth 65 = false := by kernel_rfl
theorem k_call_52 : callB Tryz.prog 52 = true := by kernel_rfl
theorem k_sl_57_9 : sliceB Tryz.prog 57 9 = true := by kernel_rfl
theorem k_sz_9_1 : sizeB Tryz.prog 9 1 = true := by kernel_rfl
theorem k_zc_9 : (Tryz.prog.info? 9).map (fun i => i.zero.map (fun z => z.cells.toList)) = some (some [.string (bstr ([] : List UInt8))]) := by kernel_rfl
theorem k_sc_9 : scalB Tryz.prog 9 = true := by kernel_rfl
theorem k_zero_48 : (Tryz.prog.info? 48).map (·.zero) = some (some (.agg #[.int .i64 0, .int .i64 0, .slice none 0 0])) := by kernel_rfl
theorem k_zero_39 : (Tryz.prog.info? 39).map (·.zero) = some (some (.agg #[.int .i64 0, .slice none 0 0])) := by kernel_rfl
theorem k_pl_39 : placesB Tryz.prog 39 [(0, 1), (1, 1)] = true := by kernel_rfl
theorem k_sz_39_2 : sizeB Tryz.prog 39 2 = true := by kernel_rfl
theorem k_str_9 : strB Tryz.prog 9 = true := by kernel_rfl
theorem k_fd_39_1_1_37 : fieldB Tryz.prog 39 1 1 37 = true := by kernel_rfl
theorem k_sz_37_1 : sizeB Tryz.prog 37 1 = true := by kernel_rfl
theorem k_sc_37 : scalB Tryz.prog 37 = true := by kernel_rfl
theorem k_zero_70 : (Tryz.prog.info? 70).map (·.zero) = some (some (.agg #[.int .i64 0, .int .i64 0, .int .i64 0])) := by kernel_rfl
theorem k_pl_70 : placesB Tryz.prog 70 [(0, 1), (1, 1), (2, 1)] = true := by kernel_rfl
theorem k_sl_37_70 : sliceB Tryz.prog 37 70 = true := by kernel_rfl
theorem k_sz_70_3 : sizeB Tryz.prog 70 3 = true := by kernel_rfl
theorem k_zc_70 : (Tryz.prog.info? 70).map (fun i => i.zero.map (fun z => z.cells.toList)) = some (some [.int .i64 0, .int .i64 0, .int .i64 0]) := by kernel_rfl
theorem k_by_70_24 : bytesB Tryz.prog 70 24 = true := by kernel_rfl
theorem k_ag_39 : aggB Tryz.prog 39 = true := by kernel_rfl
theorem k_fd_39_0_0_3 : fieldB Tryz.prog 39 0 0 3 = true := by kernel_rfl
theorem k_us_3 : (Tryz.prog.underlying 3).isSome = true := by kernel_rfl
theorem k_int_115_u64 : intB Tryz.prog 115 .u64 = true := by kernel_rfl
theorem k_pl_48 : placesB Tryz.prog 48 [(0, 1), (1, 1), (2, 1)] = true := by kernel_rfl
theorem k_sz_48_3 : sizeB Tryz.prog 48 3 = true := by kernel_rfl
theorem k_fd_48_2_2_28 : fieldB Tryz.prog 48 2 2 28 = true := by kernel_rfl
theorem k_ag_48 : aggB Tryz.prog 48 = true := by kernel_rfl
theorem k_ag_70 : aggB Tryz.prog 70 = true := by kernel_rfl
theorem k_fd_70_0_0_3 : fieldB Tryz.prog 70 0 0 3 = true := by kernel_rfl
theorem k_fd_70_1_1_3 : fieldB Tryz.prog 70 1 1 3 = true := by kernel_rfl
theorem k_call_151 : callB Tryz.prog 151 = true := by kernel_rfl
theorem k_fd_70_2_2_3 : fieldB Tryz.prog 70 2 2 3 = true := by kernel_rfl
theorem k_call_125 : callB Tryz.prog 125 = true := by kernel_rfl
theorem k_call_140 : callB Tryz.prog 140 = true := by kernel_rfl
theorem k_fd_48_0_0_3 : fieldB Tryz.prog 48 0 0 3 = true := by kernel_rfl
theorem k_fd_48_1_1_3 : fieldB Tryz.prog 48 1 1 3 = true := by kernel_rfl
theorem k_call_114 : callB Tryz.prog 114 = true := by kernel_rfl
theorem k_call_98 : callB Tryz.prog 98 = true := by kernel_rfl
theorem k_call_79 : callB Tryz.prog 79 = true := by kernel_rfl
theorem k_call_78 : callB Tryz.prog 78 = true := by kernel_rfl
theorem k_call_39 : callB Tryz.prog 39 = true := by kernel_rfl
theorem k_call_57 : callB Tryz.prog 57 = true := by kernel_rfl
theorem k_call_145 : callB Tryz.prog 145 = true := by kernel_rfl
theorem k_call_126 : callB Tryz.prog 126 = true := by kernel_rfl
theorem k_call_99 : callB Tryz.prog 99 = true := by kernel_rfl
theorem k_call_100 : callB Tryz.prog 100 = true := by kernel_rfl
theorem k_call_56 : callB Tryz.prog 56 = true := by kernel_rfl
theorem k_sl_130_30 : sliceB Tryz.prog 130 30 = true := by kernel_rfl
theorem k_by_9_16 : bytesB Tryz.prog 9 16 = true := by kernel_rfl
theorem k_zero_9 : (Tryz.prog.info? 9).map (·.zero) = some (some (.string ⟨#[]⟩)) := by kernel_rfl
theorem k_zc_30 : (Tryz.prog.info? 30).map (fun i => i.zero.map (fun z => z.cells.toList)) = some (some [.slice none 0 0]) := by kernel_rfl
theorem k_by_30_24 : bytesB Tryz.prog 30 24 = true := by kernel_rfl
theorem k_call_55 : callB Tryz.prog 55 = true := by kernel_rfl
theorem k_call_102 : callB Tryz.prog 102 = true := by kernel_rfl
theorem k_call_73 : callB Tryz.prog 73 = true := by kernel_rfl
theorem k_call_142 : callB Tryz.prog 142 = true := by kernel_rfl
theorem k_call_119 : callB Tryz.prog 119 = true := by kernel_rfl
theorem k_call_120 : callB Tryz.prog 120 = true := by kernel_rfl
theorem k_call_83 : callB Tryz.prog 83 = true := by kernel_rfl
theorem k_call_59 : callB Tryz.prog 59 = true := by kernel_rfl
theorem k_sl_169_63 : sliceB Tryz.prog 169 63 = true := by kernel_rfl
theorem k_zc_63 : (Tryz.prog.info? 63).map (fun i => i.zero.map (fun z => z.cells.toList)) = some (some [.int .i64 0, .int .i64 0, .int .i64 0, .int .i64 0]) := by kernel_rfl
theorem k_by_63_32 : bytesB Tryz.prog 63 32 = true := by kernel_rfl
theorem k_call_143 : callB Tryz.prog 143 = true := by kernel_rfl
theorem k_call_121 : callB Tryz.prog 121 = true := by kernel_rfl
theorem k_call_144 : callB Tryz.prog 144 = true := by kernel_rfl
theorem k_call_122 : callB Tryz.prog 122 = true := by kernel_rfl
theorem k_call_86 : callB Tryz.prog 86 = true := by kernel_rfl
theorem k_call_152 : callB Tryz.prog 152 = true := by kernel_rfl
theorem k_call_146 : callB Tryz.prog 146 = true := by kernel_rfl
theorem k_call_128 : callB Tryz.prog 128 = true := by kernel_rfl
theorem k_call_127 : callB Tryz.prog 127 = true := by kernel_rfl
theorem k_call_103 : callB Tryz.prog 103 = true := by kernel_rfl
theorem k_call_62 : callB Tryz.prog 62 = true := by kernel_rfl
theorem k_call_65 : callB Tryz.prog 65 = true := by kernel_rfl
theorem k_call_66 : callB Tryz.prog 66 = true := by kernel_rfl
theorem k_sl_58_28 : sliceB Tryz.prog 58 28 = true := by kernel_rfl
theorem k_zc_28 : (Tryz.prog.info? 28).map (fun i => i.zero.map (fun z => z.cells.toList)) = some (some [.slice none 0 0]) := by kernel_rfl
theorem k_call_131 : callB Tryz.prog 131 = true := by kernel_rfl
theorem k_call_113 : callB Tryz.prog 113 = true := by kernel_rfl
theorem k_call_117 : callB Tryz.prog 117 = true := by kernel_rfl
theorem k_call_88 : callB Tryz.prog 88 = true := by kernel_rfl
theorem k_call_42 : callB Tryz.prog 42 = true := by kernel_rfl
theorem k_call_133 : callB Tryz.prog 133 = true := by kernel_rfl
theorem k_call_134 : callB Tryz.prog 134 = true := by kernel_rfl
theorem k_call_132 : callB Tryz.prog 132 = true := by kernel_rfl
theorem k_map_163_3_3 : mapB Tryz.prog 163 3 3 = true := by kernel_rfl
theorem k_zero_3 : (Tryz.prog.info? 3).map (·.zero) = some (some (.int .i64 0)) := by kernel_rfl
theorem k_call_135 : callB Tryz.prog 135 = true := by kernel_rfl
theorem k_call_130 : callB Tryz.prog 130 = true := by kernel_rfl
theorem k_call_84 : callB Tryz.prog 84 = true := by kernel_rfl
theorem k_call_106 : callB Tryz.prog 106 = true := by kernel_rfl
theorem k_call_118 : callB Tryz.prog 118 = true := by kernel_rfl
theorem k_call_82 : callB Tryz.prog 82 = true := by kernel_rfl
theorem k_call_87 : callB Tryz.prog 87 = true := by kernel_rfl
theorem k_call_154 : callB Tryz.prog 154 = true := by kernel_rfl
theorem k_call_149 : callB Tryz.prog 149 = true := by kernel_rfl
theorem k_call_148 : callB Tryz.prog 148 = true := by kernel_rfl
theorem k_call_137 : callB Tryz.prog 137 = true := by kernel_rfl
theorem k_call_141 : callB Tryz.prog 141 = true := by kernel_rfl
theorem k_call_116 : callB Tryz.prog 116 = true := by kernel_rfl
theorem k_call_115 : callB Tryz.prog 115 = true := by kernel_rfl
theorem k_call_80 : callB Tryz.prog 80 = true := by kernel_rfl
theorem k_call_29 : callB Tryz.prog 29 = true := by kernel_rfl
theorem k_call_153 : callB Tryz.prog 153 = true := by kernel_rfl
theorem k_call_147 : callB Tryz.prog 147 = true := by kernel_rfl
theorem k_call_136 : callB Tryz.prog 136 = true := by kernel_rfl
theorem k_zero_167 : (Tryz.prog.info? 167).map (·.zero) = some (some (.agg #[.int .i64 0, .int .i64 0, .int .i64 0])) := by kernel_rfl
theorem k_ar_167_3_3 : arrB Tryz.prog 167 3 3 = true := by kernel_rfl
theorem k_sz_167_3 : sizeB Tryz.prog 167 3 = true := by kernel_rfl
theorem k_call_150 : callB Tryz.prog 150 = true := by kernel_rfl
theorem k_call_138 : callB Tryz.prog 138 = true := by kernel_rfl
theorem k_call_107 : callB Tryz.prog 107 = true := by kernel_rfl
theorem k_call_67 : callB Tryz.prog 67 = true := by kernel_rfl
theorem k_zero_28 : (Tryz.prog.info? 28).map (·.zero) = some (some (.slice none 0 0)) := by kernel_rfl
theorem k_call_108 : callB Tryz.prog 108 = true := by kernel_rfl
theorem k_call_69 : callB Tryz.prog 69 = true := by kernel_rfl
theorem k_call_68 : callB Tryz.prog 68 = true := by kernel_rfl
theorem k_by_28_24 : bytesB Tryz.prog 28 24 = true := by kernel_rfl
theorem k_call_28 : callB Tryz.prog 28 = true := by kernel_rfl
theorem k_und_4 : Tryz.prog.underlying 4 = some .bool := by kernel_rfl
theorem k_call_109 : callB Tryz.prog 109 = true := by kernel_rfl
theorem k_call_70 : callB Tryz.prog 70 = true := by kernel_rfl
theorem k_call_30 : callB Tryz.prog 30 = true := by kernel_rfl
theorem k_ag_35 : aggB Tryz.prog 35 = true := by kernel_rfl
theorem k_sz_35_3 : sizeB Tryz.prog 35 3 = true := by kernel_rfl
theorem k_fd_35_0_0_9 : fieldB Tryz.prog 35 0 0 9 = true := by kernel_rfl
theorem k_call_11 : callB Tryz.prog 11 = true := by kernel_rfl
theorem k_zero_42 : (Tryz.prog.info? 42).map (·.zero) = some (some (.agg #[.string ⟨#[]⟩, .int .i64 0, .int .i64 0])) := by kernel_rfl
theorem k_fd_42_0_0_9 : fieldB Tryz.prog 42 0 0 9 = true := by kernel_rfl
theorem k_fd_35_1_1_3 : fieldB Tryz.prog 35 1 1 3 = true := by kernel_rfl
theorem k_fd_42_1_1_3 : fieldB Tryz.prog 42 1 1 3 = true := by kernel_rfl
theorem k_fd_35_2_2_3 : fieldB Tryz.prog 35 2 2 3 = true := by kernel_rfl
theorem k_fd_42_2_2_3 : fieldB Tryz.prog 42 2 2 3 = true := by kernel_rfl
theorem k_ag_42 : aggB Tryz.prog 42 = true := by kernel_rfl
theorem k_sz_42_3 : sizeB Tryz.prog 42 3 = true := by kernel_rfl
theorem k_call_13 : callB Tryz.prog 13 = true := by kernel_rfl
theorem k_call_31 : callB Tryz.prog 31 = true := by kernel_rfl
theorem k_call_72 : callB Tryz.prog 72 = true := by kernel_rfl
theorem k_call_32 : callB Tryz.prog 32 = true := by kernel_rfl
theorem k_call_33 : callB Tryz.prog 33 = true := by kernel_rfl
theorem k_call_110 : callB Tryz.prog 110 = true := by kernel_rfl
theorem k_call_74 : callB Tryz.prog 74 = true := by kernel_rfl
theorem k_call_75 : callB Tryz.prog 75 = true := by kernel_rfl
theorem k_call_34 : callB Tryz.prog 34 = true := by kernel_rfl
theorem k_call_139 : callB Tryz.prog 139 = true := by kernel_rfl
theorem k_call_112 : callB Tryz.prog 112 = true := by kernel_rfl
theorem k_call_111 : callB Tryz.prog 111 = true := by kernel_rfl
theorem k_call_76 : callB Tryz.prog 76 = true := by kernel_rfl
theorem k_call_18 : callB Tryz.prog 18 = true := by kernel_rfl
theorem k_call_81 : callB Tryz.prog 81 = true := by kernel_rfl
theorem k_call_40 : callB Tryz.prog 40 = true := by kernel_rfl
theorem k_call_85 : callB Tryz.prog 85 = true := by kernel_rfl
theorem k_call_41 : callB Tryz.prog 41 = true := by kernel_rfl
theorem k_call_19 : callB Tryz.prog 19 = true := by kernel_rfl
theorem k_call_20 : callB Tryz.prog 20 = true := by kernel_rfl
theorem k_call_43 : callB Tryz.prog 43 = true := by kernel_rfl
theorem k_call_21 : callB Tryz.prog 21 = true := by kernel_rfl
theorem k_call_44 : callB Tryz.prog 44 = true := by kernel_rfl
theorem k_call_22 : callB Tryz.prog 22 = true := by kernel_rfl
end Go.VK
