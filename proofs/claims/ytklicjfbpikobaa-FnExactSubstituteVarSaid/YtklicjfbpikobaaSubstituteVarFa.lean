/- Closed facts on the types. -/
import Derived.Test.YtklicjfbpikobaaSubstituteVarFn
import Derived.Test.YtklicjfbpikobaaChecked
namespace Go.VK
open Go.RowKit
open Go.Proofs
theorem k_sz_24_3 : sizeB Try.prog 24 3 = true := by kernel_rfl
theorem k_fd_24_1_1_22 : fieldB Try.prog 24 1 1 22 = true := by kernel_rfl
theorem k_sz_22_1 : sizeB Try.prog 22 1 = true := by kernel_rfl
theorem k_sl_22_118 : sliceB Try.prog 22 118 = true := by kernel_rfl
theorem k_fd_24_2_2_22 : fieldB Try.prog 24 2 2 22 = true := by kernel_rfl
theorem k_fd_24_0_0_3 : fieldB Try.prog 24 0 0 3 = true := by kernel_rfl
theorem k_sz_3_1 : sizeB Try.prog 3 1 = true := by kernel_rfl
theorem k_sc_3 : scalB Try.prog 3 = true := by kernel_rfl
theorem k_sz_118_3 : sizeB Try.prog 118 3 = true := by kernel_rfl
theorem k_fd_118_0_0_3 : fieldB Try.prog 118 0 0 3 = true := by kernel_rfl
theorem k_fd_118_1_1_3 : fieldB Try.prog 118 1 1 3 = true := by kernel_rfl
theorem k_fd_118_2_2_3 : fieldB Try.prog 118 2 2 3 = true := by kernel_rfl
theorem k_call_50 : callB Try.prog 50 = true := by kernel_rfl
theorem k_us_3 : (Try.prog.underlying 3).isSome = true := by kernel_rfl
theorem k_int_92_u64 : intB Try.prog 92 .u64 = true := by kernel_rfl
theorem k_int_3_i64 : intB Try.prog 3 .i64 = true := by kernel_rfl
theorem k_und_4 : Try.prog.underlying 4 = some .bool := by kernel_rfl
theorem k_zero_3 : (Try.prog.info? 3).map (·.zero) = some (some (.int .i64 0)) := by kernel_rfl
theorem k_call_73 : callB Try.prog 73 = true := by kernel_rfl
theorem k_us_179 : (Try.prog.underlying 179).isSome = true := by kernel_rfl
theorem k_call_145 : callB Try.prog 145 = true := by kernel_rfl
theorem k_call_129 : callB Try.prog 129 = true := by kernel_rfl
theorem k_sz_42_2 : sizeB Try.prog 42 2 = true := by kernel_rfl
theorem k_fd_42_1_1_40 : fieldB Try.prog 42 1 1 40 = true := by kernel_rfl
theorem k_sz_40_1 : sizeB Try.prog 40 1 = true := by kernel_rfl
theorem k_sl_40_134 : sliceB Try.prog 40 134 = true := by kernel_rfl
theorem k_fd_42_0_0_3 : fieldB Try.prog 42 0 0 3 = true := by kernel_rfl
theorem k_sz_134_3 : sizeB Try.prog 134 3 = true := by kernel_rfl
theorem k_fd_134_0_0_3 : fieldB Try.prog 134 0 0 3 = true := by kernel_rfl
theorem k_fd_134_1_1_3 : fieldB Try.prog 134 1 1 3 = true := by kernel_rfl
theorem k_fd_134_2_2_3 : fieldB Try.prog 134 2 2 3 = true := by kernel_rfl
theorem k_ag_50 : aggB Try.prog 50 = true := by kernel_rfl
theorem k_sz_50_6 : sizeB Try.prog 50 6 = true := by kernel_rfl
theorem k_fd_50_4_4_47 : fieldB Try.prog 50 4 4 47 = true := by kernel_rfl
theorem k_sz_47_1 : sizeB Try.prog 47 1 = true := by kernel_rfl
theorem k_sc_47 : scalB Try.prog 47 = true := by kernel_rfl
theorem k_sl_47_146 : sliceB Try.prog 47 146 = true := by kernel_rfl
theorem k_call_47 : callB Try.prog 47 = true := by kernel_rfl
theorem k_fd_50_5_5_48 : fieldB Try.prog 50 5 5 48 = true := by kernel_rfl
theorem k_sz_48_1 : sizeB Try.prog 48 1 = true := by kernel_rfl
theorem k_sc_48 : scalB Try.prog 48 = true := by kernel_rfl
theorem k_sl_48_52 : sliceB Try.prog 48 52 = true := by kernel_rfl
theorem k_call_48 : callB Try.prog 48 = true := by kernel_rfl
theorem k_call_20 : callB Try.prog 20 = true := by kernel_rfl
theorem k_zero_57 : (Try.prog.info? 57).map (·.zero) = some (some (.agg #[.int .i64 0, .int .i64 0, .int .i64 0, .int .i64 0, .slice none 0 0, .slice none 0 0])) := by kernel_rfl
theorem k_fd_50_0_0_3 : fieldB Try.prog 50 0 0 3 = true := by kernel_rfl
theorem k_fd_57_0_0_3 : fieldB Try.prog 57 0 0 3 = true := by kernel_rfl
theorem k_fd_50_1_1_3 : fieldB Try.prog 50 1 1 3 = true := by kernel_rfl
theorem k_fd_57_1_1_3 : fieldB Try.prog 57 1 1 3 = true := by kernel_rfl
theorem k_fd_50_2_2_3 : fieldB Try.prog 50 2 2 3 = true := by kernel_rfl
theorem k_fd_57_2_2_3 : fieldB Try.prog 57 2 2 3 = true := by kernel_rfl
theorem k_fd_50_3_3_3 : fieldB Try.prog 50 3 3 3 = true := by kernel_rfl
theorem k_fd_57_3_3_3 : fieldB Try.prog 57 3 3 3 = true := by kernel_rfl
theorem k_sl_54_136 : sliceB Try.prog 54 136 = true := by kernel_rfl
theorem k_sz_136_2 : sizeB Try.prog 136 2 = true := by kernel_rfl
theorem k_by_136_16 : bytesB Try.prog 136 16 = true := by kernel_rfl
theorem k_zero_136 : (Try.prog.info? 136).map (·.zero) = some (some (.agg #[.int .i64 0, .int .i64 0])) := by kernel_rfl
theorem k_sz_146_2 : sizeB Try.prog 146 2 = true := by kernel_rfl
theorem k_ag_146 : aggB Try.prog 146 = true := by kernel_rfl
theorem k_fd_146_0_0_3 : fieldB Try.prog 146 0 0 3 = true := by kernel_rfl
theorem k_fd_136_0_0_3 : fieldB Try.prog 136 0 0 3 = true := by kernel_rfl
theorem k_fd_146_1_1_3 : fieldB Try.prog 146 1 1 3 = true := by kernel_rfl
theorem k_fd_136_1_1_3 : fieldB Try.prog 136 1 1 3 = true := by kernel_rfl
theorem k_ag_136 : aggB Try.prog 136 = true := by kernel_rfl
theorem k_call_100 : callB Try.prog 100 = true := by kernel_rfl
theorem k_call_52 : callB Try.prog 52 = true := by kernel_rfl
theorem k_fd_57_4_4_54 : fieldB Try.prog 57 4 4 54 = true := by kernel_rfl
theorem k_sz_54_1 : sizeB Try.prog 54 1 = true := by kernel_rfl
theorem k_sl_55_61 : sliceB Try.prog 55 61 = true := by kernel_rfl
theorem k_sz_61_2 : sizeB Try.prog 61 2 = true := by kernel_rfl
theorem k_by_61_16 : bytesB Try.prog 61 16 = true := by kernel_rfl
theorem k_zero_61 : (Try.prog.info? 61).map (·.zero) = some (some (.agg #[.int .i64 0, .int .i64 0])) := by kernel_rfl
theorem k_sz_52_2 : sizeB Try.prog 52 2 = true := by kernel_rfl
theorem k_ag_52 : aggB Try.prog 52 = true := by kernel_rfl
theorem k_fd_52_0_0_3 : fieldB Try.prog 52 0 0 3 = true := by kernel_rfl
theorem k_fd_61_0_0_3 : fieldB Try.prog 61 0 0 3 = true := by kernel_rfl
theorem k_fd_52_1_1_3 : fieldB Try.prog 52 1 1 3 = true := by kernel_rfl
theorem k_fd_61_1_1_3 : fieldB Try.prog 61 1 1 3 = true := by kernel_rfl
theorem k_ag_61 : aggB Try.prog 61 = true := by kernel_rfl
theorem k_call_23 : callB Try.prog 23 = true := by kernel_rfl
theorem k_call_53 : callB Try.prog 53 = true := by kernel_rfl
theorem k_fd_57_5_5_55 : fieldB Try.prog 57 5 5 55 = true := by kernel_rfl
theorem k_sz_55_1 : sizeB Try.prog 55 1 = true := by kernel_rfl
theorem k_ag_57 : aggB Try.prog 57 = true := by kernel_rfl
theorem k_sz_57_6 : sizeB Try.prog 57 6 = true := by kernel_rfl
theorem k_sc_55 : scalB Try.prog 55 = true := by kernel_rfl
theorem k_sc_54 : scalB Try.prog 54 = true := by kernel_rfl
theorem k_sl_137_3 : sliceB Try.prog 137 3 = true := by kernel_rfl
theorem k_zc_3 : (Try.prog.info? 3).map (fun i => i.zero.map (fun z => z.cells.toList)) = some (some [.int .i64 0]) := by kernel_rfl
theorem k_by_3_8 : bytesB Try.prog 3 8 = true := by kernel_rfl
theorem k_call_96 : callB Try.prog 96 = true := by kernel_rfl
theorem k_call_49 : callB Try.prog 49 = true := by kernel_rfl
theorem k_pl_57 : placesB Try.prog 57 [(0, 1), (1, 1), (2, 1), (3, 1), (4, 1), (5, 1)] = true := by kernel_rfl
theorem k_zero_141 : (Try.prog.info? 141).map (·.zero) = some (some (.agg #[.int .i64 0, .slice none 0 0])) := by kernel_rfl
theorem k_pl_141 : placesB Try.prog 141 [(0, 1), (1, 1)] = true := by kernel_rfl
theorem k_fd_141_0_0_3 : fieldB Try.prog 141 0 0 3 = true := by kernel_rfl
theorem k_fd_141_1_1_54 : fieldB Try.prog 141 1 1 54 = true := by kernel_rfl
theorem k_zc_136 : (Try.prog.info? 136).map (fun i => i.zero.map (fun z => z.cells.toList)) = some (some [.int .i64 0, .int .i64 0]) := by kernel_rfl
theorem k_pl_136 : placesB Try.prog 136 [(0, 1), (1, 1)] = true := by kernel_rfl
theorem k_call_98 : callB Try.prog 98 = true := by kernel_rfl
theorem k_call_97 : callB Try.prog 97 = true := by kernel_rfl
theorem k_pl_61 : placesB Try.prog 61 [(0, 1), (1, 1)] = true := by kernel_rfl
theorem k_call_99 : callB Try.prog 99 = true := by kernel_rfl
theorem k_zc_61 : (Try.prog.info? 61).map (fun i => i.zero.map (fun z => z.cells.toList)) = some (some [.int .i64 0, .int .i64 0]) := by kernel_rfl
theorem k_call_51 : callB Try.prog 51 = true := by kernel_rfl
theorem k_call_22 : callB Try.prog 22 = true := by kernel_rfl
theorem k_call_21 : callB Try.prog 21 = true := by kernel_rfl
theorem k_call_101 : callB Try.prog 101 = true := by kernel_rfl
theorem k_call_135 : callB Try.prog 135 = true := by kernel_rfl
theorem k_call_56 : callB Try.prog 56 = true := by kernel_rfl
theorem k_call_103 : callB Try.prog 103 = true := by kernel_rfl
theorem k_call_102 : callB Try.prog 102 = true := by kernel_rfl
theorem k_call_54 : callB Try.prog 54 = true := by kernel_rfl
theorem k_call_55 : callB Try.prog 55 = true := by kernel_rfl
theorem k_map_105_3_3 : mapB Try.prog 105 3 3 = true := by kernel_rfl
theorem k_call_105 : callB Try.prog 105 = true := by kernel_rfl
theorem k_call_136 : callB Try.prog 136 = true := by kernel_rfl
theorem k_call_104 : callB Try.prog 104 = true := by kernel_rfl
theorem k_call_119 : callB Try.prog 119 = true := by kernel_rfl
theorem k_call_68 : callB Try.prog 68 = true := by kernel_rfl
theorem k_call_137 : callB Try.prog 137 = true := by kernel_rfl
theorem k_call_106 : callB Try.prog 106 = true := by kernel_rfl
theorem k_call_57 : callB Try.prog 57 = true := by kernel_rfl
theorem k_call_24 : callB Try.prog 24 = true := by kernel_rfl
theorem k_call_107 : callB Try.prog 107 = true := by kernel_rfl
theorem k_call_58 : callB Try.prog 58 = true := by kernel_rfl
theorem k_call_108 : callB Try.prog 108 = true := by kernel_rfl
theorem k_call_59 : callB Try.prog 59 = true := by kernel_rfl
theorem k_call_25 : callB Try.prog 25 = true := by kernel_rfl
theorem k_call_60 : callB Try.prog 60 = true := by kernel_rfl
theorem k_call_61 : callB Try.prog 61 = true := by kernel_rfl
theorem k_call_26 : callB Try.prog 26 = true := by kernel_rfl
theorem k_call_62 : callB Try.prog 62 = true := by kernel_rfl
theorem k_call_63 : callB Try.prog 63 = true := by kernel_rfl
theorem k_call_27 : callB Try.prog 27 = true := by kernel_rfl
end Go.VK
