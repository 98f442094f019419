/- Closed facts on the types. -/
import Derived.Test.YtbhancgonaleoaaDoorLeastTCountFn
import Derived.Test.YtbhancgonaleoaaDoorChecked
namespace Go.VK
open Go.RowKit
open Go.Proofs
abbrev vi (x : Int) : Value := .int .i64 x
theorem k_ag_24 : aggB Tryd.prog 24 = true := by kernel_rfl
theorem k_sz_24_3 : sizeB Tryd.prog 24 3 = true := by kernel_rfl
theorem k_fd_24_2_2_22 : fieldB Tryd.prog 24 2 2 22 = true := by kernel_rfl
theorem k_sz_22_1 : sizeB Tryd.prog 22 1 = true := by kernel_rfl
theorem k_sc_22 : scalB Tryd.prog 22 = true := by kernel_rfl
theorem k_sl_22_67 : sliceB Tryd.prog 22 67 = true := by kernel_rfl
theorem k_call_16 : callB Tryd.prog 16 = true := by kernel_rfl
theorem k_call_5 : callB Tryd.prog 5 = true := by kernel_rfl
theorem k_zero_32 : (Tryd.prog.info? 32).map (·.zero) = some (some (.agg #[.int .i64 0, .int .i64 0, .slice none 0 0])) := by kernel_rfl
theorem k_fd_24_0_0_3 : fieldB Tryd.prog 24 0 0 3 = true := by kernel_rfl
theorem k_sz_3_1 : sizeB Tryd.prog 3 1 = true := by kernel_rfl
theorem k_sc_3 : scalB Tryd.prog 3 = true := by kernel_rfl
theorem k_fd_32_0_0_3 : fieldB Tryd.prog 32 0 0 3 = true := by kernel_rfl
theorem k_fd_24_1_1_3 : fieldB Tryd.prog 24 1 1 3 = true := by kernel_rfl
theorem k_fd_32_1_1_3 : fieldB Tryd.prog 32 1 1 3 = true := by kernel_rfl
theorem k_sl_26_49 : sliceB Tryd.prog 26 49 = true := by kernel_rfl
theorem k_sz_49_5 : sizeB Tryd.prog 49 5 = true := by kernel_rfl
theorem k_by_49_40 : bytesB Tryd.prog 49 40 = true := by kernel_rfl
theorem k_zero_49 : (Tryd.prog.info? 49).map (·.zero) = some (some (.agg #[.int .i64 0, .int .i64 0, .int .i64 0, .int .i64 0, .int .i64 0])) := by kernel_rfl
theorem k_sz_67_5 : sizeB Tryd.prog 67 5 = true := by kernel_rfl
theorem k_ag_67 : aggB Tryd.prog 67 = true := by kernel_rfl
theorem k_fd_67_0_0_65 : fieldB Tryd.prog 67 0 0 65 = true := by kernel_rfl
theorem k_sz_65_4 : sizeB Tryd.prog 65 4 = true := by kernel_rfl
theorem k_ag_65 : aggB Tryd.prog 65 = true := by kernel_rfl
theorem k_zero_47 : (Tryd.prog.info? 47).map (·.zero) = some (some (.agg #[.int .i64 0, .int .i64 0, .int .i64 0, .int .i64 0])) := by kernel_rfl
theorem k_fd_65_0_0_3 : fieldB Tryd.prog 65 0 0 3 = true := by kernel_rfl
theorem k_fd_47_0_0_3 : fieldB Tryd.prog 47 0 0 3 = true := by kernel_rfl
theorem k_fd_65_1_1_3 : fieldB Tryd.prog 65 1 1 3 = true := by kernel_rfl
theorem k_fd_47_1_1_3 : fieldB Tryd.prog 47 1 1 3 = true := by kernel_rfl
theorem k_fd_65_2_2_3 : fieldB Tryd.prog 65 2 2 3 = true := by kernel_rfl
theorem k_fd_47_2_2_3 : fieldB Tryd.prog 47 2 2 3 = true := by kernel_rfl
theorem k_fd_65_3_3_3 : fieldB Tryd.prog 65 3 3 3 = true := by kernel_rfl
theorem k_fd_47_3_3_3 : fieldB Tryd.prog 47 3 3 3 = true := by kernel_rfl
theorem k_ag_47 : aggB Tryd.prog 47 = true := by kernel_rfl
theorem k_sz_47_4 : sizeB Tryd.prog 47 4 = true := by kernel_rfl
theorem k_call_57 : callB Tryd.prog 57 = true := by kernel_rfl
theorem k_fd_49_0_0_47 : fieldB Tryd.prog 49 0 0 47 = true := by kernel_rfl
theorem k_fd_67_1_4_3 : fieldB Tryd.prog 67 1 4 3 = true := by kernel_rfl
theorem k_fd_49_1_4_3 : fieldB Tryd.prog 49 1 4 3 = true := by kernel_rfl
theorem k_ag_49 : aggB Tryd.prog 49 = true := by kernel_rfl
theorem k_call_34 : callB Tryd.prog 34 = true := by kernel_rfl
theorem k_call_19 : callB Tryd.prog 19 = true := by kernel_rfl
theorem k_fd_32_2_2_26 : fieldB Tryd.prog 32 2 2 26 = true := by kernel_rfl
theorem k_sz_26_1 : sizeB Tryd.prog 26 1 = true := by kernel_rfl
theorem k_ag_32 : aggB Tryd.prog 32 = true := by kernel_rfl
theorem k_sz_32_3 : sizeB Tryd.prog 32 3 = true := by kernel_rfl
theorem k_call_7 : callB Tryd.prog 7 = true := by kernel_rfl
theorem k_zero_28 : (Tryd.prog.info? 28).map (·.zero) = some (some (.agg #[.slice none 0 0])) := by kernel_rfl
theorem k_sl_102_3 : sliceB Tryd.prog 102 3 = true := by kernel_rfl
theorem k_zc_3 : (Tryd.prog.info? 3).map (fun i => i.zero.map (fun z => z.cells.toList)) = some (some [.int .i64 0]) := by kernel_rfl
theorem k_call_99 : callB Tryd.prog 99 = true := by kernel_rfl
theorem k_call_79 : callB Tryd.prog 79 = true := by kernel_rfl
theorem k_sc_26 : scalB Tryd.prog 26 = true := by kernel_rfl
theorem k_call_100 : callB Tryd.prog 100 = true := by kernel_rfl
theorem k_call_103 : callB Tryd.prog 103 = true := by kernel_rfl
theorem k_call_84 : callB Tryd.prog 84 = true := by kernel_rfl
theorem k_call_85 : callB Tryd.prog 85 = true := by kernel_rfl
theorem k_call_80 : callB Tryd.prog 80 = true := by kernel_rfl
theorem k_call_47 : callB Tryd.prog 47 = true := by kernel_rfl
theorem k_zero_59 : (Tryd.prog.info? 59).map (·.zero) = some (some (.agg #[.bool false])) := by kernel_rfl
theorem k_pl_59 : placesB Tryd.prog 59 [(0, 1)] = true := by kernel_rfl
theorem k_pl_32 : placesB Tryd.prog 32 [(0, 1), (1, 1), (2, 1)] = true := by kernel_rfl
theorem k_pl_47 : placesB Tryd.prog 47 [(0, 1), (1, 1), (2, 1), (3, 1)] = true := by kernel_rfl
theorem k_pl_49 : placesB Tryd.prog 49 [(0, 4), (4, 1)] = true := by kernel_rfl
theorem k_call_83 : callB Tryd.prog 83 = true := by kernel_rfl
theorem k_zc_49 : (Tryd.prog.info? 49).map (fun i => i.zero.map (fun z => z.cells.toList)) = some (some [.int .i64 0, .int .i64 0, .int .i64 0, .int .i64 0, .int .i64 0]) := by kernel_rfl
theorem k_call_51 : callB Tryd.prog 51 = true := by kernel_rfl
theorem k_fd_59_0_0_4 : fieldB Tryd.prog 59 0 0 4 = true := by kernel_rfl
theorem k_sz_4_1 : sizeB Tryd.prog 4 1 = true := by kernel_rfl
theorem k_sc_4 : scalB Tryd.prog 4 = true := by kernel_rfl
theorem k_call_53 : callB Tryd.prog 53 = true := by kernel_rfl
theorem k_call_86 : callB Tryd.prog 86 = true := by kernel_rfl
theorem k_call_56 : callB Tryd.prog 56 = true := by kernel_rfl
theorem k_call_52 : callB Tryd.prog 52 = true := by kernel_rfl
theorem k_call_54 : callB Tryd.prog 54 = true := by kernel_rfl
theorem k_call_55 : callB Tryd.prog 55 = true := by kernel_rfl
theorem k_call_33 : callB Tryd.prog 33 = true := by kernel_rfl
theorem k_call_32 : callB Tryd.prog 32 = true := by kernel_rfl
theorem k_call_31 : callB Tryd.prog 31 = true := by kernel_rfl
theorem k_call_29 : callB Tryd.prog 29 = true := by kernel_rfl
theorem k_call_101 : callB Tryd.prog 101 = true := by kernel_rfl
theorem k_call_81 : callB Tryd.prog 81 = true := by kernel_rfl
theorem k_st_49 : structB Tryd.prog 49 [(47, 0), (3, 4)] = true := by kernel_rfl
theorem k_ho_49 : Tryd.prog.stoodInHeld 49 = false := by kernel_rfl
theorem k_int_3_i64 : intB Tryd.prog 3 .i64 = true := by kernel_rfl
theorem k_st_47 : structB Tryd.prog 47 [(3, 0), (3, 1), (3, 2), (3, 3)] = true := by kernel_rfl
theorem k_ho_47 : Tryd.prog.stoodInHeld 47 = false := by kernel_rfl
theorem k_eg_49 : Tryd.prog.eqGuardType Tryd.prog.depth 49 = false := by kernel_rfl
theorem k_call_49 : callB Tryd.prog 49 = true := by kernel_rfl
theorem k_call_48 : callB Tryd.prog 48 = true := by kernel_rfl
theorem k_call_28 : callB Tryd.prog 28 = true := by kernel_rfl
theorem k_call_17 : callB Tryd.prog 17 = true := by kernel_rfl
theorem k_pl_28 : placesB Tryd.prog 28 [(0, 1)] = true := by kernel_rfl
theorem k_sz_28_1 : sizeB Tryd.prog 28 1 = true := by kernel_rfl
theorem k_ag_28 : aggB Tryd.prog 28 = true := by kernel_rfl
theorem k_call_102 : callB Tryd.prog 102 = true := by kernel_rfl
theorem k_call_82 : callB Tryd.prog 82 = true := by kernel_rfl
theorem k_call_50 : callB Tryd.prog 50 = true := by kernel_rfl
theorem k_call_30 : callB Tryd.prog 30 = true := by kernel_rfl
theorem k_fd_28_0_0_26 : fieldB Tryd.prog 28 0 0 26 = true := by kernel_rfl
theorem k_call_18 : callB Tryd.prog 18 = true := by kernel_rfl
theorem k_call_6 : callB Tryd.prog 6 = true := by kernel_rfl
theorem k_call_87 : callB Tryd.prog 87 = true := by kernel_rfl
theorem k_call_58 : callB Tryd.prog 58 = true := by kernel_rfl
theorem k_call_88 : callB Tryd.prog 88 = true := by kernel_rfl
theorem k_call_104 : callB Tryd.prog 104 = true := by kernel_rfl
theorem k_call_89 : callB Tryd.prog 89 = true := by kernel_rfl
theorem k_call_90 : callB Tryd.prog 90 = true := by kernel_rfl
theorem k_call_61 : callB Tryd.prog 61 = true := by kernel_rfl
theorem k_call_60 : callB Tryd.prog 60 = true := by kernel_rfl
theorem k_call_59 : callB Tryd.prog 59 = true := by kernel_rfl
theorem k_call_35 : callB Tryd.prog 35 = true := by kernel_rfl
theorem k_call_40 : callB Tryd.prog 40 = true := by kernel_rfl
theorem k_sl_113_47 : sliceB Tryd.prog 113 47 = true := by kernel_rfl
theorem k_zc_47 : (Tryd.prog.info? 47).map (fun i => i.zero.map (fun z => z.cells.toList)) = some (some [.int .i64 0, .int .i64 0, .int .i64 0, .int .i64 0]) := by kernel_rfl
theorem k_by_47_32 : bytesB Tryd.prog 47 32 = true := by kernel_rfl
theorem k_call_94 : callB Tryd.prog 94 = true := by kernel_rfl
theorem k_call_64 : callB Tryd.prog 64 = true := by kernel_rfl
theorem k_call_39 : callB Tryd.prog 39 = true := by kernel_rfl
theorem k_call_38 : callB Tryd.prog 38 = true := by kernel_rfl
theorem k_call_37 : callB Tryd.prog 37 = true := by kernel_rfl
theorem k_call_21 : callB Tryd.prog 21 = true := by kernel_rfl
theorem k_call_76 : callB Tryd.prog 76 = true := by kernel_rfl
theorem k_call_98 : callB Tryd.prog 98 = true := by kernel_rfl
theorem k_call_77 : callB Tryd.prog 77 = true := by kernel_rfl
theorem k_call_44 : callB Tryd.prog 44 = true := by kernel_rfl
theorem k_call_106 : callB Tryd.prog 106 = true := by kernel_rfl
theorem k_call_105 : callB Tryd.prog 105 = true := by kernel_rfl
theorem k_call_97 : callB Tryd.prog 97 = true := by kernel_rfl
theorem k_call_96 : callB Tryd.prog 96 = true := by kernel_rfl
theorem k_call_75 : callB Tryd.prog 75 = true := by kernel_rfl
theorem k_call_74 : callB Tryd.prog 74 = true := by kernel_rfl
theorem k_call_42 : callB Tryd.prog 42 = true := by kernel_rfl
theorem k_call_92 : callB Tryd.prog 92 = true := by kernel_rfl
theorem k_call_91 : callB Tryd.prog 91 = true := by kernel_rfl
theorem k_call_62 : callB Tryd.prog 62 = true := by kernel_rfl
theorem k_call_93 : callB Tryd.prog 93 = true := by kernel_rfl
theorem k_call_63 : callB Tryd.prog 63 = true := by kernel_rfl
theorem k_call_36 : callB Tryd.prog 36 = true := by kernel_rfl
theorem k_call_20 : callB Tryd.prog 20 = true := by kernel_rfl
theorem k_zero_72 : (Tryd.prog.info? 72).map (·.zero) = some (some (.agg #[.int .i64 0, .int .i64 0, .int .i64 0])) := by kernel_rfl
theorem k_ar_72_3_3 : arrB Tryd.prog 72 3 3 = true := by kernel_rfl
theorem k_sz_72_3 : sizeB Tryd.prog 72 3 = true := by kernel_rfl
theorem k_zero_75 : (Tryd.prog.info? 75).map (·.zero) = some (some (.agg #[.int .i64 0, .int .i64 0, .int .i64 0])) := by kernel_rfl
theorem k_pl_75 : placesB Tryd.prog 75 [(0, 1), (1, 1), (2, 1)] = true := by kernel_rfl
theorem k_ag_75 : aggB Tryd.prog 75 = true := by kernel_rfl
theorem k_sz_75_3 : sizeB Tryd.prog 75 3 = true := by kernel_rfl
theorem k_fd_75_0_0_3 : fieldB Tryd.prog 75 0 0 3 = true := by kernel_rfl
theorem k_fd_75_1_1_3 : fieldB Tryd.prog 75 1 1 3 = true := by kernel_rfl
theorem k_fd_75_2_2_3 : fieldB Tryd.prog 75 2 2 3 = true := by kernel_rfl
theorem k_call_68 : callB Tryd.prog 68 = true := by kernel_rfl
theorem k_call_65 : callB Tryd.prog 65 = true := by kernel_rfl
theorem k_call_95 : callB Tryd.prog 95 = true := by kernel_rfl
theorem k_call_67 : callB Tryd.prog 67 = true := by kernel_rfl
theorem k_call_71 : callB Tryd.prog 71 = true := by kernel_rfl
theorem k_call_72 : callB Tryd.prog 72 = true := by kernel_rfl
theorem k_call_69 : callB Tryd.prog 69 = true := by kernel_rfl
theorem k_call_70 : callB Tryd.prog 70 = true := by kernel_rfl
theorem k_map_108_3_3 : mapB Tryd.prog 108 3 3 = true := by kernel_rfl
theorem k_zero_3 : (Tryd.prog.info? 3).map (·.zero) = some (some (.int .i64 0)) := by kernel_rfl
theorem k_call_73 : callB Tryd.prog 73 = true := by kernel_rfl
theorem k_call_66 : callB Tryd.prog 66 = true := by kernel_rfl
theorem k_call_41 : callB Tryd.prog 41 = true := by kernel_rfl
theorem k_call_43 : callB Tryd.prog 43 = true := by kernel_rfl
theorem k_call_22 : callB Tryd.prog 22 = true := by kernel_rfl
theorem k_call_8 : callB Tryd.prog 8 = true := by kernel_rfl
theorem k_call_78 : callB Tryd.prog 78 = true := by kernel_rfl
theorem k_call_45 : callB Tryd.prog 45 = true := by kernel_rfl
theorem k_call_23 : callB Tryd.prog 23 = true := by kernel_rfl
theorem k_und_4 : Tryd.prog.underlying 4 = some .bool := by kernel_rfl
theorem k_call_10 : callB Tryd.prog 10 = true := by kernel_rfl
theorem k_call_46 : callB Tryd.prog 46 = true := by kernel_rfl
theorem k_call_26 : callB Tryd.prog 26 = true := by kernel_rfl
theorem k_call_14 : callB Tryd.prog 14 = true := by kernel_rfl
theorem k_call_27 : callB Tryd.prog 27 = true := by kernel_rfl
theorem k_call_15 : callB Tryd.prog 15 = true := by kernel_rfl
end Go.VK
