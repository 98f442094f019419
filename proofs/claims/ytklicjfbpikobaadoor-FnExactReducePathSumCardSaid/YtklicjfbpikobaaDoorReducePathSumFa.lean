/- Closed facts on the types. -/
import Derived.Test.YtklicjfbpikobaaDoorReducePathSumFn
import Derived.Test.YtklicjfbpikobaaDoorChecked
namespace Go.VK
open Go.RowKit
open Go.Proofs
abbrev vi (x : Int) : Value := .int .i64 x
abbrev aD (b : Nat) : Option Addr := some ⟨b, 0, none⟩
abbrev kZ_ : List Value := [vi 0, vi 0, vi 0, vi 0, vi 0]
abbrev gZ_ : Value := .agg #[vi 0, vi 0, vi 0, vi 0, vi 0]
abbrev kN_ : List Value := [vi 0, vi 0, .slice none 0 0]
abbrev gN_ : Value := .agg #[vi 0, vi 0, .slice none 0 0]
theorem lB {n m : Nat} (h : Nat.ble n m = true) : n ≤ m := Nat.le_of_ble_eq_true h
theorem mAr {α : Type} {b : α} {xs : List α} (ys : List α) (h : b ∈ xs) : b ∈ ys ++ xs := List.mem_append_right ys h
theorem mAl {α : Type} {b : α} {xs : List α} (ys : List α) (h : b ∈ xs) : b ∈ xs ++ ys := List.mem_append_left ys h
theorem mOd {α : Type} {b : α} {i : Nat} {xs : List α} (h : b ∈ xs.drop i) : b ∈ xs := List.mem_of_mem_drop h
section
variable {P : Program} {n : Nat} {N : FW} {f : Nat → Value} {w0 w : World} {ops : Array Oper} {rest : List Oper} {o : Oper} {S : World → Prop} {M : List Nat} {L : List Ob} {R : List Ro}
theorem rq (i t : Nat) {fuel : Nat} {listed : Array Bool} {v : Value} (hi : ops[i]? = some o) (hS : S w) (hy : ∀ w', S w' → Y P n f w' o v) (k : RA P n ops N S fuel (listed.setIfInBounds i true) (upd f t v) w)
    (hg : o.guard = none := by exact rfl) (hd : o.dst = some t := by exact rfl) (hs : Region.noSelect ops = true := by kernel_rfl) (hf : Region.free .any ops listed i = true := by kernel_rfl)
    (hr : (Region.ready .any ops listed).contains i = true := by kernel_rfl) : RA P n ops N S (fuel + 1) listed f w := ra_q i t hi hg hd hs hf hr hS hy k
theorem rA (rs : List Nat) {fuel : Nat} {listed : Array Bool} (h : AllR P n ops N S fuel listed f w rs) (hr : Region.ready .any ops listed = rs := by kernel_rfl) (hne : rs.isEmpty = false := by exact rfl) : RA P n ops N S (fuel + 1) listed f w := ra_all hr hne h
theorem sQ (t : Nat) {v : Value} (h : Y P n f w o v) (k : RW P n ops N rest (upd f t v) w) (hg : o.guard = none := by exact rfl) (hd : o.dst = some t := by exact rfl) : RW P n ops N (o :: rest) f w := sq t hg hd h k
theorem uT_ {j : Nat} (t : Nat) {b : Bool} (h : (ops.toList[j]?).bind (·.dst) = some t := by kernel_rfl) (hb : ev n f (.tmp t) = .bool b := by exact rfl) : Wt (gd n f ops j) true b := wt_t (gd_of h hb)
theorem uF_ {j : Nat} (t : Nat) {b : Bool} (h : (ops.toList[j]?).bind (·.dst) = some t := by kernel_rfl) (hb : ev n f (.tmp t) = .bool b := by exact rfl) : Wt (gd n f ops j) false (!b) := wt_f (gd_of h hb)
theorem s0 {S : Value → World → Prop} (h : Ys P n f w o S) (k : ∀ v w', S v w' → RW P n ops N rest f w') (hg : o.guard = none := by exact rfl) (hd : o.dst = none := by exact rfl) : RW P n ops N (o :: rest) f w := ss0 hg hd h k
theorem sS (t : Nat) {S : Value → World → Prop} (h : Ys P n f w o S) (k : ∀ v w', S v w' → RW P n ops N rest (upd f t v) w') (hg : o.guard = none := by exact rfl) (hd : o.dst = some t := by exact rfl) : RW P n ops N (o :: rest) f w := ss t hg hd h k
theorem ST.se (hS : ST w0 M w L R) (is : List Nat) (hn : decide is.Nodup = true := by exact rfl) (hb : is.all (fun i => (L[i]?).isSome) = true := by exact rfl) : ST w0 M w (is.filterMap fun i => L[i]?) R := hS.sel is hn hb
theorem ST.sN (hS : ST w0 M w L R) (is : List Nat) (hn : decide is.Nodup = true := by exact rfl) (hb : is.all (fun i => (L[i]?).isSome) = true := by exact rfl) : ST w0 M w (is.filterMap fun i => L[i]?) [] := ST.subR (hS.sel is hn hb) (fun _ h => by cases h)
end
theorem k_ag_25 : aggB Tryd.prog 25 = true := by kernel_rfl
theorem k_sz_25_6 : sizeB Tryd.prog 25 6 = true := by kernel_rfl
theorem k_fd_25_4_4_22 : fieldB Tryd.prog 25 4 4 22 = true := by kernel_rfl
theorem k_sz_22_1 : sizeB Tryd.prog 22 1 = true := by kernel_rfl
theorem k_sc_22 : scalB Tryd.prog 22 = true := by kernel_rfl
theorem k_sl_22_73 : sliceB Tryd.prog 22 73 = true := by kernel_rfl
theorem k_call_14 : callB Tryd.prog 14 = true := by kernel_rfl
theorem k_fd_25_5_5_23 : fieldB Tryd.prog 25 5 5 23 = true := by kernel_rfl
theorem k_sz_23_1 : sizeB Tryd.prog 23 1 = true := by kernel_rfl
theorem k_sc_23 : scalB Tryd.prog 23 = true := by kernel_rfl
theorem k_sl_23_75 : sliceB Tryd.prog 23 75 = true := by kernel_rfl
theorem k_call_15 : callB Tryd.prog 15 = true := by kernel_rfl
theorem k_call_5 : callB Tryd.prog 5 = true := by kernel_rfl
theorem k_zero_30 : (Tryd.prog.info? 30).map (·.zero) = some (some (.agg #[.int .i64 0, .int .i64 0, .int .i64 0, .int .i64 0, .slice none 0 0, .slice none 0 0])) := by kernel_rfl
theorem k_fd_25_0_0_3 : fieldB Tryd.prog 25 0 0 3 = true := by kernel_rfl
theorem k_sz_3_1 : sizeB Tryd.prog 3 1 = true := by kernel_rfl
theorem k_sc_3 : scalB Tryd.prog 3 = true := by kernel_rfl
theorem k_fd_30_0_0_3 : fieldB Tryd.prog 30 0 0 3 = true := by kernel_rfl
theorem k_fd_25_1_1_3 : fieldB Tryd.prog 25 1 1 3 = true := by kernel_rfl
theorem k_fd_30_1_1_3 : fieldB Tryd.prog 30 1 1 3 = true := by kernel_rfl
theorem k_fd_25_2_2_3 : fieldB Tryd.prog 25 2 2 3 = true := by kernel_rfl
theorem k_fd_30_2_2_3 : fieldB Tryd.prog 30 2 2 3 = true := by kernel_rfl
theorem k_fd_25_3_3_3 : fieldB Tryd.prog 25 3 3 3 = true := by kernel_rfl
theorem k_fd_30_3_3_3 : fieldB Tryd.prog 30 3 3 3 = true := by kernel_rfl
theorem k_sl_27_56 : sliceB Tryd.prog 27 56 = true := by kernel_rfl
theorem k_sz_56_2 : sizeB Tryd.prog 56 2 = true := by kernel_rfl
theorem k_by_56_16 : bytesB Tryd.prog 56 16 = true := by kernel_rfl
theorem k_zero_56 : (Tryd.prog.info? 56).map (·.zero) = some (some (.agg #[.int .i64 0, .int .i64 0])) := by kernel_rfl
theorem k_sz_73_2 : sizeB Tryd.prog 73 2 = true := by kernel_rfl
theorem k_ag_73 : aggB Tryd.prog 73 = true := by kernel_rfl
theorem k_fd_73_0_0_3 : fieldB Tryd.prog 73 0 0 3 = true := by kernel_rfl
theorem k_fd_56_0_0_3 : fieldB Tryd.prog 56 0 0 3 = true := by kernel_rfl
theorem k_fd_73_1_1_3 : fieldB Tryd.prog 73 1 1 3 = true := by kernel_rfl
theorem k_fd_56_1_1_3 : fieldB Tryd.prog 56 1 1 3 = true := by kernel_rfl
theorem k_ag_56 : aggB Tryd.prog 56 = true := by kernel_rfl
theorem k_call_42 : callB Tryd.prog 42 = true := by kernel_rfl
theorem k_call_18 : callB Tryd.prog 18 = true := by kernel_rfl
theorem k_fd_30_4_4_27 : fieldB Tryd.prog 30 4 4 27 = true := by kernel_rfl
theorem k_sz_27_1 : sizeB Tryd.prog 27 1 = true := by kernel_rfl
theorem k_sl_28_44 : sliceB Tryd.prog 28 44 = true := by kernel_rfl
theorem k_sz_44_2 : sizeB Tryd.prog 44 2 = true := by kernel_rfl
theorem k_by_44_16 : bytesB Tryd.prog 44 16 = true := by kernel_rfl
theorem k_zero_44 : (Tryd.prog.info? 44).map (·.zero) = some (some (.agg #[.int .i64 0, .int .i64 0])) := by kernel_rfl
theorem k_sz_75_2 : sizeB Tryd.prog 75 2 = true := by kernel_rfl
theorem k_ag_75 : aggB Tryd.prog 75 = true := by kernel_rfl
theorem k_fd_75_0_0_3 : fieldB Tryd.prog 75 0 0 3 = true := by kernel_rfl
theorem k_fd_44_0_0_3 : fieldB Tryd.prog 44 0 0 3 = true := by kernel_rfl
theorem k_fd_75_1_1_3 : fieldB Tryd.prog 75 1 1 3 = true := by kernel_rfl
theorem k_fd_44_1_1_3 : fieldB Tryd.prog 44 1 1 3 = true := by kernel_rfl
theorem k_ag_44 : aggB Tryd.prog 44 = true := by kernel_rfl
theorem k_call_43 : callB Tryd.prog 43 = true := by kernel_rfl
theorem k_call_19 : callB Tryd.prog 19 = true := by kernel_rfl
theorem k_fd_30_5_5_28 : fieldB Tryd.prog 30 5 5 28 = true := by kernel_rfl
theorem k_sz_28_1 : sizeB Tryd.prog 28 1 = true := by kernel_rfl
theorem k_ag_30 : aggB Tryd.prog 30 = true := by kernel_rfl
theorem k_sz_30_6 : sizeB Tryd.prog 30 6 = true := by kernel_rfl
theorem k_call_7 : callB Tryd.prog 7 = true := by kernel_rfl
theorem k_call_34 : callB Tryd.prog 34 = true := by kernel_rfl
theorem k_sc_28 : scalB Tryd.prog 28 = true := by kernel_rfl
theorem k_sc_27 : scalB Tryd.prog 27 = true := by kernel_rfl
theorem k_us_3 : (Tryd.prog.underlying 3).isSome = true := by kernel_rfl
theorem k_int_59_u64 : intB Tryd.prog 59 .u64 = true := by kernel_rfl
theorem k_sl_60_3 : sliceB Tryd.prog 60 3 = true := by kernel_rfl
theorem k_zc_3 : (Tryd.prog.info? 3).map (fun i => i.zero.map (fun z => z.cells.toList)) = some (some [.int .i64 0]) := by kernel_rfl
theorem k_by_3_8 : bytesB Tryd.prog 3 8 = true := by kernel_rfl
theorem k_zero_3 : (Tryd.prog.info? 3).map (·.zero) = some (some (.int .i64 0)) := by kernel_rfl
theorem k_call_35 : callB Tryd.prog 35 = true := by kernel_rfl
theorem k_call_16 : callB Tryd.prog 16 = true := by kernel_rfl
theorem k_pl_30 : placesB Tryd.prog 30 [(0, 1), (1, 1), (2, 1), (3, 1), (4, 1), (5, 1)] = true := by kernel_rfl
theorem k_call_36 : callB Tryd.prog 36 = true := by kernel_rfl
theorem k_pl_44 : placesB Tryd.prog 44 [(0, 1), (1, 1)] = true := by kernel_rfl
theorem k_zero_68 : (Tryd.prog.info? 68).map (·.zero) = some (some (.agg #[.int .i64 0, .slice none 0 0])) := by kernel_rfl
theorem k_pl_68 : placesB Tryd.prog 68 [(0, 1), (1, 1)] = true := by kernel_rfl
theorem k_fd_68_0_0_3 : fieldB Tryd.prog 68 0 0 3 = true := by kernel_rfl
theorem k_fd_68_1_1_27 : fieldB Tryd.prog 68 1 1 27 = true := by kernel_rfl
theorem k_zc_56 : (Tryd.prog.info? 56).map (fun i => i.zero.map (fun z => z.cells.toList)) = some (some [.int .i64 0, .int .i64 0]) := by kernel_rfl
theorem k_pl_56 : placesB Tryd.prog 56 [(0, 1), (1, 1)] = true := by kernel_rfl
theorem k_call_38 : callB Tryd.prog 38 = true := by kernel_rfl
theorem k_call_39 : callB Tryd.prog 39 = true := by kernel_rfl
theorem k_call_40 : callB Tryd.prog 40 = true := by kernel_rfl
theorem k_zc_44 : (Tryd.prog.info? 44).map (fun i => i.zero.map (fun z => z.cells.toList)) = some (some [.int .i64 0, .int .i64 0]) := by kernel_rfl
theorem k_call_41 : callB Tryd.prog 41 = true := by kernel_rfl
theorem k_call_37 : callB Tryd.prog 37 = true := by kernel_rfl
theorem k_call_17 : callB Tryd.prog 17 = true := by kernel_rfl
theorem k_call_44 : callB Tryd.prog 44 = true := by kernel_rfl
theorem k_us_91 : (Tryd.prog.underlying 91).isSome = true := by kernel_rfl
theorem k_int_3_i64 : intB Tryd.prog 3 .i64 = true := by kernel_rfl
theorem k_call_65 : callB Tryd.prog 65 = true := by kernel_rfl
theorem k_call_57 : callB Tryd.prog 57 = true := by kernel_rfl
theorem k_call_45 : callB Tryd.prog 45 = true := by kernel_rfl
theorem k_call_48 : callB Tryd.prog 48 = true := by kernel_rfl
theorem k_call_47 : callB Tryd.prog 47 = true := by kernel_rfl
theorem k_call_46 : callB Tryd.prog 46 = true := by kernel_rfl
theorem k_call_21 : callB Tryd.prog 21 = true := by kernel_rfl
theorem k_call_20 : callB Tryd.prog 20 = true := by kernel_rfl
theorem k_call_22 : callB Tryd.prog 22 = true := by kernel_rfl
theorem k_call_49 : callB Tryd.prog 49 = true := by kernel_rfl
theorem k_sz_5_1 : sizeB Tryd.prog 5 1 = true := by kernel_rfl
theorem k_ar_98_64_5 : arrB Tryd.prog 98 64 5 = true := by kernel_rfl
theorem k_sc_5 : scalB Tryd.prog 5 = true := by kernel_rfl
theorem k_us_5 : (Tryd.prog.underlying 5).isSome = true := by kernel_rfl
theorem k_call_59 : callB Tryd.prog 59 = true := by kernel_rfl
theorem k_call_50 : callB Tryd.prog 50 = true := by kernel_rfl
theorem k_call_53 : callB Tryd.prog 53 = true := by kernel_rfl
theorem k_call_51 : callB Tryd.prog 51 = true := by kernel_rfl
theorem k_map_93_3_3 : mapB Tryd.prog 93 3 3 = true := by kernel_rfl
theorem k_call_60 : callB Tryd.prog 60 = true := by kernel_rfl
theorem k_call_63 : callB Tryd.prog 63 = true := by kernel_rfl
theorem k_call_66 : callB Tryd.prog 66 = true := by kernel_rfl
theorem k_call_61 : callB Tryd.prog 61 = true := by kernel_rfl
theorem k_call_67 : callB Tryd.prog 67 = true := by kernel_rfl
theorem k_call_62 : callB Tryd.prog 62 = true := by kernel_rfl
theorem k_call_52 : callB Tryd.prog 52 = true := by kernel_rfl
theorem k_zero_84 : (Tryd.prog.info? 84).map (·.zero) = some (some (.agg #[.int .i64 0, .int .i64 0, .int .i64 0, .int .i64 0, .int .i64 0, .int .i64 0, .int .i64 0])) := by kernel_rfl
theorem k_ar_84_7_3 : arrB Tryd.prog 84 7 3 = true := by kernel_rfl
theorem k_call_54 : callB Tryd.prog 54 = true := by kernel_rfl
theorem k_call_23 : callB Tryd.prog 23 = true := by kernel_rfl
theorem k_call_8 : callB Tryd.prog 8 = true := by kernel_rfl
theorem k_call_55 : callB Tryd.prog 55 = true := by kernel_rfl
theorem k_call_24 : callB Tryd.prog 24 = true := by kernel_rfl
theorem k_call_56 : callB Tryd.prog 56 = true := by kernel_rfl
theorem k_call_25 : callB Tryd.prog 25 = true := by kernel_rfl
theorem k_call_9 : callB Tryd.prog 9 = true := by kernel_rfl
theorem k_und_4 : Tryd.prog.underlying 4 = some .bool := by kernel_rfl
theorem k_call_26 : callB Tryd.prog 26 = true := by kernel_rfl
theorem k_call_27 : callB Tryd.prog 27 = true := by kernel_rfl
theorem k_call_10 : callB Tryd.prog 10 = true := by kernel_rfl
theorem k_call_28 : callB Tryd.prog 28 = true := by kernel_rfl
theorem k_call_29 : callB Tryd.prog 29 = true := by kernel_rfl
theorem k_call_11 : callB Tryd.prog 11 = true := by kernel_rfl
theorem k_call_30 : callB Tryd.prog 30 = true := by kernel_rfl
theorem k_call_31 : callB Tryd.prog 31 = true := by kernel_rfl
theorem k_call_12 : callB Tryd.prog 12 = true := by kernel_rfl
theorem k_call_32 : callB Tryd.prog 32 = true := by kernel_rfl
theorem k_call_33 : callB Tryd.prog 33 = true := by kernel_rfl
theorem k_call_13 : callB Tryd.prog 13 = true := by kernel_rfl
theorem k_int_5_u8 : intB Tryd.prog 5 .u8 = true := by kernel_rfl
theorem k_ar_97_32_5 : arrB Tryd.prog 97 32 5 = true := by kernel_rfl
theorem k_sz_97_32 : sizeB Tryd.prog 97 32 = true := by kernel_rfl
theorem k_sz_98_64 : sizeB Tryd.prog 98 64 = true := by kernel_rfl
end Go.VK
