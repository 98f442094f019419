/- Closed facts on the types. -/
import Derived.Test.YtoladcammhboiaaDoorCliffordWordFn
import Derived.Test.YtoladcammhboiaaDoorChecked
namespace Go.VK
open Go.RowKit
open Go.Proofs
abbrev vi (x : Int) : Value := .int .i64 x
abbrev aD (b : Nat) : Option Addr := some ⟨b, 0, none⟩
theorem k_call_6 : callB Tryd.prog 6 = true := by kernel_rfl
theorem k_sl_26_9 : sliceB Tryd.prog 26 9 = true := by kernel_rfl
theorem k_sz_9_1 : sizeB Tryd.prog 9 1 = true := by kernel_rfl
theorem k_zc_9 : (Tryd.prog.info? 9).map (fun i => i.zero.map (fun z => z.cells.toList)) = some (some [.string (bstr ([] : List UInt8))]) := by kernel_rfl
theorem k_sc_9 : scalB Tryd.prog 9 = true := by kernel_rfl
theorem k_zero_38 : (Tryd.prog.info? 38).map (·.zero) = some (some (.agg #[.int .i64 0, .int .i64 0, .slice none 0 0])) := by kernel_rfl
theorem k_zero_62 : (Tryd.prog.info? 62).map (·.zero) = some (some (.agg #[.int .i64 0, .slice none 0 0])) := by kernel_rfl
theorem k_pl_62 : placesB Tryd.prog 62 [(0, 1), (1, 1)] = true := by kernel_rfl
theorem k_sz_62_2 : sizeB Tryd.prog 62 2 = true := by kernel_rfl
theorem k_str_9 : strB Tryd.prog 9 = true := by kernel_rfl
theorem k_fd_62_1_1_60 : fieldB Tryd.prog 62 1 1 60 = true := by kernel_rfl
theorem k_sz_60_1 : sizeB Tryd.prog 60 1 = true := by kernel_rfl
theorem k_sc_60 : scalB Tryd.prog 60 = true := by kernel_rfl
theorem k_zero_64 : (Tryd.prog.info? 64).map (·.zero) = some (some (.agg #[.int .i64 0, .int .i64 0, .int .i64 0])) := by kernel_rfl
theorem k_pl_64 : placesB Tryd.prog 64 [(0, 1), (1, 1), (2, 1)] = true := by kernel_rfl
theorem k_sl_60_64 : sliceB Tryd.prog 60 64 = true := by kernel_rfl
theorem k_sz_64_3 : sizeB Tryd.prog 64 3 = true := by kernel_rfl
theorem k_zc_64 : (Tryd.prog.info? 64).map (fun i => i.zero.map (fun z => z.cells.toList)) = some (some [.int .i64 0, .int .i64 0, .int .i64 0]) := by kernel_rfl
theorem k_by_64_24 : bytesB Tryd.prog 64 24 = true := by kernel_rfl
theorem k_ag_62 : aggB Tryd.prog 62 = true := by kernel_rfl
theorem k_zero_55 : (Tryd.prog.info? 55).map (·.zero) = some (some (.agg #[.bool false])) := by kernel_rfl
theorem k_pl_55 : placesB Tryd.prog 55 [(0, 1)] = true := by kernel_rfl
theorem k_fd_62_0_0_3 : fieldB Tryd.prog 62 0 0 3 = true := by kernel_rfl
theorem k_sz_3_1 : sizeB Tryd.prog 3 1 = true := by kernel_rfl
theorem k_sc_3 : scalB Tryd.prog 3 = true := by kernel_rfl
theorem k_us_3 : (Tryd.prog.underlying 3).isSome = true := by kernel_rfl
theorem k_int_77_u64 : intB Tryd.prog 77 .u64 = true := by kernel_rfl
theorem k_sl_32_44 : sliceB Tryd.prog 32 44 = true := by kernel_rfl
theorem k_sz_44_5 : sizeB Tryd.prog 44 5 = true := by kernel_rfl
theorem k_by_44_40 : bytesB Tryd.prog 44 40 = true := by kernel_rfl
theorem k_zero_44 : (Tryd.prog.info? 44).map (·.zero) = some (some (.agg #[.int .i64 0, .int .i64 0, .int .i64 0, .int .i64 0, .int .i64 0])) := by kernel_rfl
theorem k_pl_38 : placesB Tryd.prog 38 [(0, 1), (1, 1), (2, 1)] = true := by kernel_rfl
theorem k_sz_38_3 : sizeB Tryd.prog 38 3 = true := by kernel_rfl
theorem k_fd_38_2_2_32 : fieldB Tryd.prog 38 2 2 32 = true := by kernel_rfl
theorem k_sz_32_1 : sizeB Tryd.prog 32 1 = true := by kernel_rfl
theorem k_sc_32 : scalB Tryd.prog 32 = true := by kernel_rfl
theorem k_zero_42 : (Tryd.prog.info? 42).map (·.zero) = some (some (.agg #[.int .i64 0, .int .i64 0, .int .i64 0, .int .i64 0])) := by kernel_rfl
theorem k_pl_42 : placesB Tryd.prog 42 [(0, 1), (1, 1), (2, 1), (3, 1)] = true := by kernel_rfl
theorem k_fd_42_3_3_3 : fieldB Tryd.prog 42 3 3 3 = true := by kernel_rfl
theorem k_fd_42_0_0_3 : fieldB Tryd.prog 42 0 0 3 = true := by kernel_rfl
theorem k_fd_42_1_1_3 : fieldB Tryd.prog 42 1 1 3 = true := by kernel_rfl
theorem k_fd_42_2_2_3 : fieldB Tryd.prog 42 2 2 3 = true := by kernel_rfl
theorem k_sz_42_4 : sizeB Tryd.prog 42 4 = true := by kernel_rfl
theorem k_ag_42 : aggB Tryd.prog 42 = true := by kernel_rfl
theorem k_call_78 : callB Tryd.prog 78 = true := by kernel_rfl
theorem k_pl_44 : placesB Tryd.prog 44 [(0, 4), (4, 1)] = true := by kernel_rfl
theorem k_ag_44 : aggB Tryd.prog 44 = true := by kernel_rfl
theorem k_call_57 : callB Tryd.prog 57 = true := by kernel_rfl
theorem k_ag_38 : aggB Tryd.prog 38 = true := by kernel_rfl
theorem k_ag_64 : aggB Tryd.prog 64 = true := by kernel_rfl
theorem k_fd_55_0_0_4 : fieldB Tryd.prog 55 0 0 4 = true := by kernel_rfl
theorem k_sz_4_1 : sizeB Tryd.prog 4 1 = true := by kernel_rfl
theorem k_sc_4 : scalB Tryd.prog 4 = true := by kernel_rfl
theorem k_fd_64_0_0_3 : fieldB Tryd.prog 64 0 0 3 = true := by kernel_rfl
theorem k_fd_64_1_1_3 : fieldB Tryd.prog 64 1 1 3 = true := by kernel_rfl
theorem k_call_90 : callB Tryd.prog 90 = true := by kernel_rfl
theorem k_fd_64_2_2_3 : fieldB Tryd.prog 64 2 2 3 = true := by kernel_rfl
theorem k_fd_44_0_0_42 : fieldB Tryd.prog 44 0 0 42 = true := by kernel_rfl
theorem k_fd_44_1_4_3 : fieldB Tryd.prog 44 1 4 3 = true := by kernel_rfl
theorem k_call_79 : callB Tryd.prog 79 = true := by kernel_rfl
theorem k_zc_44 : (Tryd.prog.info? 44).map (fun i => i.zero.map (fun z => z.cells.toList)) = some (some [.int .i64 0, .int .i64 0, .int .i64 0, .int .i64 0, .int .i64 0]) := by kernel_rfl
theorem k_call_58 : callB Tryd.prog 58 = true := by kernel_rfl
theorem k_sl_92_3 : sliceB Tryd.prog 92 3 = true := by kernel_rfl
theorem k_zc_3 : (Tryd.prog.info? 3).map (fun i => i.zero.map (fun z => z.cells.toList)) = some (some [.int .i64 0]) := by kernel_rfl
theorem k_call_31 : callB Tryd.prog 31 = true := by kernel_rfl
theorem k_call_81 : callB Tryd.prog 81 = true := by kernel_rfl
theorem k_fd_38_0_0_3 : fieldB Tryd.prog 38 0 0 3 = true := by kernel_rfl
theorem k_fd_38_1_1_3 : fieldB Tryd.prog 38 1 1 3 = true := by kernel_rfl
theorem k_call_80 : callB Tryd.prog 80 = true := by kernel_rfl
theorem k_call_60 : callB Tryd.prog 60 = true := by kernel_rfl
theorem k_call_61 : callB Tryd.prog 61 = true := by kernel_rfl
theorem k_call_34 : callB Tryd.prog 34 = true := by kernel_rfl
theorem k_call_62 : callB Tryd.prog 62 = true := by kernel_rfl
theorem k_call_37 : callB Tryd.prog 37 = true := by kernel_rfl
theorem k_call_33 : callB Tryd.prog 33 = true := by kernel_rfl
theorem k_call_35 : callB Tryd.prog 35 = true := by kernel_rfl
theorem k_call_36 : callB Tryd.prog 36 = true := by kernel_rfl
theorem k_call_24 : callB Tryd.prog 24 = true := by kernel_rfl
theorem k_call_23 : callB Tryd.prog 23 = true := by kernel_rfl
theorem k_call_63 : callB Tryd.prog 63 = true := by kernel_rfl
theorem k_call_20 : callB Tryd.prog 20 = true := by kernel_rfl
theorem k_call_39 : callB Tryd.prog 39 = true := by kernel_rfl
theorem k_call_38 : callB Tryd.prog 38 = true := by kernel_rfl
theorem k_call_25 : callB Tryd.prog 25 = true := by kernel_rfl
theorem k_call_11 : callB Tryd.prog 11 = true := by kernel_rfl
theorem k_zero_34 : (Tryd.prog.info? 34).map (·.zero) = some (some (.agg #[.slice none 0 0])) := by kernel_rfl
theorem k_call_59 : callB Tryd.prog 59 = true := by kernel_rfl
theorem k_call_32 : callB Tryd.prog 32 = true := by kernel_rfl
theorem k_call_21 : callB Tryd.prog 21 = true := by kernel_rfl
theorem k_call_22 : callB Tryd.prog 22 = true := by kernel_rfl
theorem k_fd_34_0_0_32 : fieldB Tryd.prog 34 0 0 32 = true := by kernel_rfl
theorem k_pl_34 : placesB Tryd.prog 34 [(0, 1)] = true := by kernel_rfl
theorem k_sz_34_1 : sizeB Tryd.prog 34 1 = true := by kernel_rfl
theorem k_ag_34 : aggB Tryd.prog 34 = true := by kernel_rfl
theorem k_call_10 : callB Tryd.prog 10 = true := by kernel_rfl
theorem k_sl_31_34 : sliceB Tryd.prog 31 34 = true := by kernel_rfl
theorem k_st_44 : structB Tryd.prog 44 [(42, 0), (3, 4)] = true := by kernel_rfl
theorem k_ho_44 : Tryd.prog.stoodInHeld 44 = false := by kernel_rfl
theorem k_int_3_i64 : intB Tryd.prog 3 .i64 = true := by kernel_rfl
theorem k_st_42 : structB Tryd.prog 42 [(3, 0), (3, 1), (3, 2), (3, 3)] = true := by kernel_rfl
theorem k_ho_42 : Tryd.prog.stoodInHeld 42 = false := by kernel_rfl
theorem k_eg_44 : Tryd.prog.eqGuardType Tryd.prog.depth 44 = false := by kernel_rfl
theorem k_call_12 : callB Tryd.prog 12 = true := by kernel_rfl
theorem k_by_9_16 : bytesB Tryd.prog 9 16 = true := by kernel_rfl
theorem k_zero_9 : (Tryd.prog.info? 9).map (·.zero) = some (some (.string ⟨#[]⟩)) := by kernel_rfl
theorem k_zc_34 : (Tryd.prog.info? 34).map (fun i => i.zero.map (fun z => z.cells.toList)) = some (some [.slice none 0 0]) := by kernel_rfl
theorem k_by_34_24 : bytesB Tryd.prog 34 24 = true := by kernel_rfl
theorem k_call_7 : callB Tryd.prog 7 = true := by kernel_rfl
theorem k_call_4 : callB Tryd.prog 4 = true := by kernel_rfl
theorem k_call_14 : callB Tryd.prog 14 = true := by kernel_rfl
theorem k_call_13 : callB Tryd.prog 13 = true := by kernel_rfl
theorem k_sl_28_32 : sliceB Tryd.prog 28 32 = true := by kernel_rfl
theorem k_zc_32 : (Tryd.prog.info? 32).map (fun i => i.zero.map (fun z => z.cells.toList)) = some (some [.slice none 0 0]) := by kernel_rfl
theorem k_call_9 : callB Tryd.prog 9 = true := by kernel_rfl
theorem k_call_44 : callB Tryd.prog 44 = true := by kernel_rfl
theorem k_call_40 : callB Tryd.prog 40 = true := by kernel_rfl
theorem k_call_64 : callB Tryd.prog 64 = true := by kernel_rfl
theorem k_call_88 : callB Tryd.prog 88 = true := by kernel_rfl
theorem k_call_74 : callB Tryd.prog 74 = true := by kernel_rfl
theorem k_call_65 : callB Tryd.prog 65 = true := by kernel_rfl
theorem k_call_43 : callB Tryd.prog 43 = true := by kernel_rfl
theorem k_call_46 : callB Tryd.prog 46 = true := by kernel_rfl
theorem k_call_47 : callB Tryd.prog 47 = true := by kernel_rfl
theorem k_call_45 : callB Tryd.prog 45 = true := by kernel_rfl
theorem k_map_96_3_3 : mapB Tryd.prog 96 3 3 = true := by kernel_rfl
theorem k_zero_3 : (Tryd.prog.info? 3).map (·.zero) = some (some (.int .i64 0)) := by kernel_rfl
theorem k_call_48 : callB Tryd.prog 48 = true := by kernel_rfl
theorem k_call_42 : callB Tryd.prog 42 = true := by kernel_rfl
theorem k_call_41 : callB Tryd.prog 41 = true := by kernel_rfl
theorem k_call_26 : callB Tryd.prog 26 = true := by kernel_rfl
theorem k_call_91 : callB Tryd.prog 91 = true := by kernel_rfl
theorem k_call_75 : callB Tryd.prog 75 = true := by kernel_rfl
theorem k_call_53 : callB Tryd.prog 53 = true := by kernel_rfl
theorem k_call_83 : callB Tryd.prog 83 = true := by kernel_rfl
theorem k_call_82 : callB Tryd.prog 82 = true := by kernel_rfl
theorem k_call_66 : callB Tryd.prog 66 = true := by kernel_rfl
theorem k_call_70 : callB Tryd.prog 70 = true := by kernel_rfl
theorem k_sl_113_42 : sliceB Tryd.prog 113 42 = true := by kernel_rfl
theorem k_zc_42 : (Tryd.prog.info? 42).map (fun i => i.zero.map (fun z => z.cells.toList)) = some (some [.int .i64 0, .int .i64 0, .int .i64 0, .int .i64 0]) := by kernel_rfl
theorem k_by_42_32 : bytesB Tryd.prog 42 32 = true := by kernel_rfl
theorem k_call_73 : callB Tryd.prog 73 = true := by kernel_rfl
theorem k_call_86 : callB Tryd.prog 86 = true := by kernel_rfl
theorem k_call_69 : callB Tryd.prog 69 = true := by kernel_rfl
theorem k_call_68 : callB Tryd.prog 68 = true := by kernel_rfl
theorem k_call_50 : callB Tryd.prog 50 = true := by kernel_rfl
theorem k_call_52 : callB Tryd.prog 52 = true := by kernel_rfl
theorem k_call_76 : callB Tryd.prog 76 = true := by kernel_rfl
theorem k_call_54 : callB Tryd.prog 54 = true := by kernel_rfl
theorem k_call_28 : callB Tryd.prog 28 = true := by kernel_rfl
theorem k_call_89 : callB Tryd.prog 89 = true := by kernel_rfl
theorem k_call_77 : callB Tryd.prog 77 = true := by kernel_rfl
theorem k_call_56 : callB Tryd.prog 56 = true := by kernel_rfl
theorem k_call_55 : callB Tryd.prog 55 = true := by kernel_rfl
theorem k_call_29 : callB Tryd.prog 29 = true := by kernel_rfl
theorem k_call_87 : callB Tryd.prog 87 = true := by kernel_rfl
theorem k_call_71 : callB Tryd.prog 71 = true := by kernel_rfl
theorem k_call_92 : callB Tryd.prog 92 = true := by kernel_rfl
theorem k_call_84 : callB Tryd.prog 84 = true := by kernel_rfl
theorem k_call_19 : callB Tryd.prog 19 = true := by kernel_rfl
theorem k_call_85 : callB Tryd.prog 85 = true := by kernel_rfl
theorem k_call_67 : callB Tryd.prog 67 = true := by kernel_rfl
theorem k_call_49 : callB Tryd.prog 49 = true := by kernel_rfl
theorem k_zero_101 : (Tryd.prog.info? 101).map (·.zero) = some (some (.agg #[.int .i64 0, .int .i64 0, .int .i64 0])) := by kernel_rfl
theorem k_ar_101_3_3 : arrB Tryd.prog 101 3 3 = true := by kernel_rfl
theorem k_sz_101_3 : sizeB Tryd.prog 101 3 = true := by kernel_rfl
theorem k_call_72 : callB Tryd.prog 72 = true := by kernel_rfl
theorem k_call_51 : callB Tryd.prog 51 = true := by kernel_rfl
theorem k_call_27 : callB Tryd.prog 27 = true := by kernel_rfl
theorem k_call_15 : callB Tryd.prog 15 = true := by kernel_rfl
theorem k_call_16 : callB Tryd.prog 16 = true := by kernel_rfl
theorem k_zero_32 : (Tryd.prog.info? 32).map (·.zero) = some (some (.slice none 0 0)) := by kernel_rfl
theorem k_call_30 : callB Tryd.prog 30 = true := by kernel_rfl
theorem k_call_18 : callB Tryd.prog 18 = true := by kernel_rfl
theorem k_call_17 : callB Tryd.prog 17 = true := by kernel_rfl
theorem k_by_32_24 : bytesB Tryd.prog 32 24 = true := by kernel_rfl
theorem k_call_8 : callB Tryd.prog 8 = true := by kernel_rfl
theorem k_call_5 : callB Tryd.prog 5 = true := by kernel_rfl
theorem k_und_4 : Tryd.prog.underlying 4 = some .bool := by kernel_rfl
end Go.VK
