/- Closed facts on the types. -/
import Derived.Test.YtklicjfbpikobaaPathSumOfFn
import Derived.Test.YtklicjfbpikobaaChecked
namespace Go.VK
open Go.RowKit
open Go.Proofs
theorem k_sz_24_3 : sizeB Try.prog 24 3 = true := by kernel_rfl
theorem k_fd_24_1_1_22 : fieldB Try.prog 24 1 1 22 = true := by kernel_rfl
theorem k_sz_22_1 : sizeB Try.prog 22 1 = true := by kernel_rfl
theorem k_sl_22_118 : sliceB Try.prog 22 118 = true := by kernel_rfl
theorem k_fd_24_2_2_22 : fieldB Try.prog 24 2 2 22 = true := by kernel_rfl
theorem k_fd_24_0_0_3 : fieldB Try.prog 24 0 0 3 = true := by kernel_rfl
theorem k_sz_3_1 : sizeB Try.prog 3 1 = true := by kernel_rfl
theorem k_sc_3 : scalB Try.prog 3 = true := by kernel_rfl
theorem k_sz_118_3 : sizeB Try.prog 118 3 = true := by kernel_rfl
theorem k_fd_118_0_0_3 : fieldB Try.prog 118 0 0 3 = true := by kernel_rfl
theorem k_fd_118_1_1_3 : fieldB Try.prog 118 1 1 3 = true := by kernel_rfl
theorem k_fd_118_2_2_3 : fieldB Try.prog 118 2 2 3 = true := by kernel_rfl
theorem k_zero_28 : (Try.prog.info? 28).map (·.zero) = some (some (.agg #[.int .i64 0, .slice none 0 0])) := by kernel_rfl
theorem k_call_50 : callB Try.prog 50 = true := by kernel_rfl
theorem k_us_3 : (Try.prog.underlying 3).isSome = true := by kernel_rfl
theorem k_int_92_u64 : intB Try.prog 92 .u64 = true := by kernel_rfl
theorem k_int_3_i64 : intB Try.prog 3 .i64 = true := by kernel_rfl
theorem k_und_4 : Try.prog.underlying 4 = some .bool := by kernel_rfl
theorem k_sz_28_2 : sizeB Try.prog 28 2 = true := by kernel_rfl
theorem k_ag_28 : aggB Try.prog 28 = true := by kernel_rfl
theorem k_zero_76 : (Try.prog.info? 76).map (·.zero) = some (some (.agg #[.int .i64 0, .int .i64 0, .int .i64 0])) := by kernel_rfl
theorem k_sz_76_3 : sizeB Try.prog 76 3 = true := by kernel_rfl
theorem k_ag_76 : aggB Try.prog 76 = true := by kernel_rfl
theorem k_fd_76_1_1_3 : fieldB Try.prog 76 1 1 3 = true := by kernel_rfl
theorem k_fd_76_2_2_3 : fieldB Try.prog 76 2 2 3 = true := by kernel_rfl
theorem k_fd_76_0_0_3 : fieldB Try.prog 76 0 0 3 = true := by kernel_rfl
theorem k_sz_26_1 : sizeB Try.prog 26 1 = true := by kernel_rfl
theorem k_sc_26 : scalB Try.prog 26 = true := by kernel_rfl
theorem k_sl_26_76 : sliceB Try.prog 26 76 = true := by kernel_rfl
theorem k_by_76_24 : bytesB Try.prog 76 24 = true := by kernel_rfl
theorem k_fd_28_1_1_26 : fieldB Try.prog 28 1 1 26 = true := by kernel_rfl
theorem k_zero_3 : (Try.prog.info? 3).map (·.zero) = some (some (.int .i64 0)) := by kernel_rfl
theorem k_call_73 : callB Try.prog 73 = true := by kernel_rfl
theorem k_fd_28_0_0_3 : fieldB Try.prog 28 0 0 3 = true := by kernel_rfl
theorem k_call_138 : callB Try.prog 138 = true := by kernel_rfl
theorem k_call_139 : callB Try.prog 139 = true := by kernel_rfl
theorem k_call_115 : callB Try.prog 115 = true := by kernel_rfl
theorem k_call_114 : callB Try.prog 114 = true := by kernel_rfl
theorem k_call_113 : callB Try.prog 113 = true := by kernel_rfl
theorem k_call_66 : callB Try.prog 66 = true := by kernel_rfl
theorem k_call_85 : callB Try.prog 85 = true := by kernel_rfl
theorem k_call_37 : callB Try.prog 37 = true := by kernel_rfl
theorem k_call_11 : callB Try.prog 11 = true := by kernel_rfl
theorem k_call_40 : callB Try.prog 40 = true := by kernel_rfl
theorem k_call_14 : callB Try.prog 14 = true := by kernel_rfl
theorem k_ag_42 : aggB Try.prog 42 = true := by kernel_rfl
theorem k_sz_42_2 : sizeB Try.prog 42 2 = true := by kernel_rfl
theorem k_fd_42_1_1_40 : fieldB Try.prog 42 1 1 40 = true := by kernel_rfl
theorem k_sz_40_1 : sizeB Try.prog 40 1 = true := by kernel_rfl
theorem k_sc_40 : scalB Try.prog 40 = true := by kernel_rfl
theorem k_sl_40_134 : sliceB Try.prog 40 134 = true := by kernel_rfl
theorem k_call_42 : callB Try.prog 42 = true := by kernel_rfl
theorem k_call_16 : callB Try.prog 16 = true := by kernel_rfl
theorem k_fd_42_0_0_3 : fieldB Try.prog 42 0 0 3 = true := by kernel_rfl
theorem k_sz_134_3 : sizeB Try.prog 134 3 = true := by kernel_rfl
theorem k_ag_134 : aggB Try.prog 134 = true := by kernel_rfl
theorem k_fd_134_0_0_3 : fieldB Try.prog 134 0 0 3 = true := by kernel_rfl
theorem k_fd_134_1_1_3 : fieldB Try.prog 134 1 1 3 = true := by kernel_rfl
theorem k_fd_134_2_2_3 : fieldB Try.prog 134 2 2 3 = true := by kernel_rfl
theorem k_call_91 : callB Try.prog 91 = true := by kernel_rfl
theorem k_call_45 : callB Try.prog 45 = true := by kernel_rfl
theorem k_call_18 : callB Try.prog 18 = true := by kernel_rfl
theorem k_call_109 : callB Try.prog 109 = true := by kernel_rfl
theorem k_call_64 : callB Try.prog 64 = true := by kernel_rfl
theorem k_sz_50_6 : sizeB Try.prog 50 6 = true := by kernel_rfl
theorem k_fd_50_4_4_47 : fieldB Try.prog 50 4 4 47 = true := by kernel_rfl
theorem k_sz_47_1 : sizeB Try.prog 47 1 = true := by kernel_rfl
theorem k_sl_47_146 : sliceB Try.prog 47 146 = true := by kernel_rfl
theorem k_fd_50_5_5_48 : fieldB Try.prog 50 5 5 48 = true := by kernel_rfl
theorem k_sz_48_1 : sizeB Try.prog 48 1 = true := by kernel_rfl
theorem k_sl_48_52 : sliceB Try.prog 48 52 = true := by kernel_rfl
theorem k_zero_57 : (Try.prog.info? 57).map (·.zero) = some (some (.agg #[.int .i64 0, .int .i64 0, .int .i64 0, .int .i64 0, .slice none 0 0, .slice none 0 0])) := by kernel_rfl
theorem k_fd_50_0_0_3 : fieldB Try.prog 50 0 0 3 = true := by kernel_rfl
theorem k_fd_57_0_0_3 : fieldB Try.prog 57 0 0 3 = true := by kernel_rfl
theorem k_fd_50_1_1_3 : fieldB Try.prog 50 1 1 3 = true := by kernel_rfl
theorem k_fd_57_1_1_3 : fieldB Try.prog 57 1 1 3 = true := by kernel_rfl
theorem k_fd_50_2_2_3 : fieldB Try.prog 50 2 2 3 = true := by kernel_rfl
theorem k_fd_57_2_2_3 : fieldB Try.prog 57 2 2 3 = true := by kernel_rfl
theorem k_fd_50_3_3_3 : fieldB Try.prog 50 3 3 3 = true := by kernel_rfl
theorem k_fd_57_3_3_3 : fieldB Try.prog 57 3 3 3 = true := by kernel_rfl
theorem k_sl_54_136 : sliceB Try.prog 54 136 = true := by kernel_rfl
theorem k_sz_136_2 : sizeB Try.prog 136 2 = true := by kernel_rfl
theorem k_by_136_16 : bytesB Try.prog 136 16 = true := by kernel_rfl
theorem k_zero_136 : (Try.prog.info? 136).map (·.zero) = some (some (.agg #[.int .i64 0, .int .i64 0])) := by kernel_rfl
theorem k_sz_146_2 : sizeB Try.prog 146 2 = true := by kernel_rfl
theorem k_fd_146_0_0_3 : fieldB Try.prog 146 0 0 3 = true := by kernel_rfl
theorem k_fd_136_0_0_3 : fieldB Try.prog 136 0 0 3 = true := by kernel_rfl
theorem k_fd_146_1_1_3 : fieldB Try.prog 146 1 1 3 = true := by kernel_rfl
theorem k_fd_136_1_1_3 : fieldB Try.prog 136 1 1 3 = true := by kernel_rfl
theorem k_ag_136 : aggB Try.prog 136 = true := by kernel_rfl
theorem k_fd_57_4_4_54 : fieldB Try.prog 57 4 4 54 = true := by kernel_rfl
theorem k_sz_54_1 : sizeB Try.prog 54 1 = true := by kernel_rfl
theorem k_sl_55_61 : sliceB Try.prog 55 61 = true := by kernel_rfl
theorem k_sz_61_2 : sizeB Try.prog 61 2 = true := by kernel_rfl
theorem k_by_61_16 : bytesB Try.prog 61 16 = true := by kernel_rfl
theorem k_zero_61 : (Try.prog.info? 61).map (·.zero) = some (some (.agg #[.int .i64 0, .int .i64 0])) := by kernel_rfl
theorem k_sz_52_2 : sizeB Try.prog 52 2 = true := by kernel_rfl
theorem k_fd_52_0_0_3 : fieldB Try.prog 52 0 0 3 = true := by kernel_rfl
theorem k_fd_61_0_0_3 : fieldB Try.prog 61 0 0 3 = true := by kernel_rfl
theorem k_fd_52_1_1_3 : fieldB Try.prog 52 1 1 3 = true := by kernel_rfl
theorem k_fd_61_1_1_3 : fieldB Try.prog 61 1 1 3 = true := by kernel_rfl
theorem k_ag_61 : aggB Try.prog 61 = true := by kernel_rfl
theorem k_fd_57_5_5_55 : fieldB Try.prog 57 5 5 55 = true := by kernel_rfl
theorem k_sz_55_1 : sizeB Try.prog 55 1 = true := by kernel_rfl
theorem k_ag_57 : aggB Try.prog 57 = true := by kernel_rfl
theorem k_sz_57_6 : sizeB Try.prog 57 6 = true := by kernel_rfl
theorem k_sc_55 : scalB Try.prog 55 = true := by kernel_rfl
theorem k_sc_54 : scalB Try.prog 54 = true := by kernel_rfl
theorem k_sl_137_3 : sliceB Try.prog 137 3 = true := by kernel_rfl
theorem k_zc_3 : (Try.prog.info? 3).map (fun i => i.zero.map (fun z => z.cells.toList)) = some (some [.int .i64 0]) := by kernel_rfl
theorem k_by_3_8 : bytesB Try.prog 3 8 = true := by kernel_rfl
theorem k_call_96 : callB Try.prog 96 = true := by kernel_rfl
theorem k_pl_57 : placesB Try.prog 57 [(0, 1), (1, 1), (2, 1), (3, 1), (4, 1), (5, 1)] = true := by kernel_rfl
theorem k_zero_141 : (Try.prog.info? 141).map (·.zero) = some (some (.agg #[.int .i64 0, .slice none 0 0])) := by kernel_rfl
theorem k_pl_141 : placesB Try.prog 141 [(0, 1), (1, 1)] = true := by kernel_rfl
theorem k_fd_141_0_0_3 : fieldB Try.prog 141 0 0 3 = true := by kernel_rfl
theorem k_fd_141_1_1_54 : fieldB Try.prog 141 1 1 54 = true := by kernel_rfl
theorem k_zc_136 : (Try.prog.info? 136).map (fun i => i.zero.map (fun z => z.cells.toList)) = some (some [.int .i64 0, .int .i64 0]) := by kernel_rfl
theorem k_pl_136 : placesB Try.prog 136 [(0, 1), (1, 1)] = true := by kernel_rfl
theorem k_call_97 : callB Try.prog 97 = true := by kernel_rfl
theorem k_pl_61 : placesB Try.prog 61 [(0, 1), (1, 1)] = true := by kernel_rfl
theorem k_call_99 : callB Try.prog 99 = true := by kernel_rfl
theorem k_zc_61 : (Try.prog.info? 61).map (fun i => i.zero.map (fun z => z.cells.toList)) = some (some [.int .i64 0, .int .i64 0]) := by kernel_rfl
theorem k_map_105_3_3 : mapB Try.prog 105 3 3 = true := by kernel_rfl
theorem k_call_105 : callB Try.prog 105 = true := by kernel_rfl
theorem k_call_136 : callB Try.prog 136 = true := by kernel_rfl
theorem k_call_104 : callB Try.prog 104 = true := by kernel_rfl
theorem k_call_119 : callB Try.prog 119 = true := by kernel_rfl
theorem k_call_68 : callB Try.prog 68 = true := by kernel_rfl
theorem k_call_107 : callB Try.prog 107 = true := by kernel_rfl
theorem k_call_58 : callB Try.prog 58 = true := by kernel_rfl
theorem k_call_108 : callB Try.prog 108 = true := by kernel_rfl
theorem k_call_59 : callB Try.prog 59 = true := by kernel_rfl
theorem k_call_25 : callB Try.prog 25 = true := by kernel_rfl
theorem k_call_60 : callB Try.prog 60 = true := by kernel_rfl
theorem k_call_61 : callB Try.prog 61 = true := by kernel_rfl
theorem k_call_26 : callB Try.prog 26 = true := by kernel_rfl
theorem k_call_62 : callB Try.prog 62 = true := by kernel_rfl
theorem k_call_63 : callB Try.prog 63 = true := by kernel_rfl
theorem k_call_27 : callB Try.prog 27 = true := by kernel_rfl
theorem k_call_110 : callB Try.prog 110 = true := by kernel_rfl
theorem k_call_111 : callB Try.prog 111 = true := by kernel_rfl
theorem k_call_112 : callB Try.prog 112 = true := by kernel_rfl
theorem k_call_65 : callB Try.prog 65 = true := by kernel_rfl
theorem k_call_28 : callB Try.prog 28 = true := by kernel_rfl
theorem k_zero_107 : (Try.prog.info? 107).map (·.zero) = some (some (.agg #[.int .i64 0, .int .i64 0, .int .i64 0, .int .i64 0, .slice none 0 0, .slice none 0 0, .map none, .slice none 0 0])) := by kernel_rfl
theorem k_pl_107 : placesB Try.prog 107 [(0, 6), (6, 1), (7, 1)] = true := by kernel_rfl
theorem k_fd_107_2_7_55 : fieldB Try.prog 107 2 7 55 = true := by kernel_rfl
theorem k_fd_107_0_0_57 : fieldB Try.prog 107 0 0 57 = true := by kernel_rfl
theorem k_fd_107_1_6_105 : fieldB Try.prog 107 1 6 105 = true := by kernel_rfl
theorem k_sz_105_1 : sizeB Try.prog 105 1 = true := by kernel_rfl
theorem k_sc_105 : scalB Try.prog 105 = true := by kernel_rfl
theorem k_call_117 : callB Try.prog 117 = true := by kernel_rfl
theorem k_call_116 : callB Try.prog 116 = true := by kernel_rfl
theorem k_call_118 : callB Try.prog 118 = true := by kernel_rfl
theorem k_call_67 : callB Try.prog 67 = true := by kernel_rfl
theorem k_call_29 : callB Try.prog 29 = true := by kernel_rfl
end Go.VK
