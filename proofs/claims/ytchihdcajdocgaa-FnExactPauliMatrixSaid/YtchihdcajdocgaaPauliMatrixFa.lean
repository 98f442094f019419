/- Closed facts on the types. -/
import Derived.Test.YtchihdcajdocgaaPauliMatrixFn
import Derived.Test.YtchihdcajdocgaaChecked
namespace Go.VK
open Go.RowKit
open Go.Proofs
theorem k_ag_23 : aggB Try.prog 23 = true := by kernel_rfl
theorem k_sz_23_3 : sizeB Try.prog 23 3 = true := by kernel_rfl
theorem k_zero_29 : (Try.prog.info? 29).map (·.zero) = some (some (.agg #[.int .i64 0, .int .i64 0, .int .i64 0])) := by kernel_rfl
theorem k_fd_23_0_0_3 : fieldB Try.prog 23 0 0 3 = true := by kernel_rfl
theorem k_sz_3_1 : sizeB Try.prog 3 1 = true := by kernel_rfl
theorem k_sc_3 : scalB Try.prog 3 = true := by kernel_rfl
theorem k_fd_29_0_0_3 : fieldB Try.prog 29 0 0 3 = true := by kernel_rfl
theorem k_fd_23_1_1_3 : fieldB Try.prog 23 1 1 3 = true := by kernel_rfl
theorem k_fd_29_1_1_3 : fieldB Try.prog 29 1 1 3 = true := by kernel_rfl
theorem k_fd_23_2_2_3 : fieldB Try.prog 23 2 2 3 = true := by kernel_rfl
theorem k_fd_29_2_2_3 : fieldB Try.prog 29 2 2 3 = true := by kernel_rfl
theorem k_ag_29 : aggB Try.prog 29 = true := by kernel_rfl
theorem k_sz_29_3 : sizeB Try.prog 29 3 = true := by kernel_rfl
theorem k_call_8 : callB Try.prog 8 = true := by kernel_rfl
theorem k_zero_26 : (Try.prog.info? 26).map (·.zero) = some (some (.agg #[.int .i64 0, .int .i64 0, .slice none 0 0])) := by kernel_rfl
theorem k_call_96 : callB Try.prog 96 = true := by kernel_rfl
theorem k_us_3 : (Try.prog.underlying 3).isSome = true := by kernel_rfl
theorem k_int_63_u64 : intB Try.prog 63 .u64 = true := by kernel_rfl
theorem k_call_40 : callB Try.prog 40 = true := by kernel_rfl
theorem k_pl_26 : placesB Try.prog 26 [(0, 1), (1, 1), (2, 1)] = true := by kernel_rfl
theorem k_sz_26_3 : sizeB Try.prog 26 3 = true := by kernel_rfl
theorem k_ag_26 : aggB Try.prog 26 = true := by kernel_rfl
theorem k_zero_122 : (Try.prog.info? 122).map (·.zero) = some (some (.agg #[.int .i64 0, .slice none 0 0])) := by kernel_rfl
theorem k_pl_122 : placesB Try.prog 122 [(0, 1), (1, 1)] = true := by kernel_rfl
theorem k_sz_122_2 : sizeB Try.prog 122 2 = true := by kernel_rfl
theorem k_fd_122_1_1_120 : fieldB Try.prog 122 1 1 120 = true := by kernel_rfl
theorem k_sz_120_1 : sizeB Try.prog 120 1 = true := by kernel_rfl
theorem k_sc_120 : scalB Try.prog 120 = true := by kernel_rfl
theorem k_zero_124 : (Try.prog.info? 124).map (·.zero) = some (some (.agg #[.int .i64 0, .int .i64 0, .int .i64 0])) := by kernel_rfl
theorem k_pl_124 : placesB Try.prog 124 [(0, 1), (1, 1), (2, 1)] = true := by kernel_rfl
theorem k_sl_120_124 : sliceB Try.prog 120 124 = true := by kernel_rfl
theorem k_sz_124_3 : sizeB Try.prog 124 3 = true := by kernel_rfl
theorem k_zc_124 : (Try.prog.info? 124).map (fun i => i.zero.map (fun z => z.cells.toList)) = some (some [.int .i64 0, .int .i64 0, .int .i64 0]) := by kernel_rfl
theorem k_by_124_24 : bytesB Try.prog 124 24 = true := by kernel_rfl
theorem k_sl_48_3 : sliceB Try.prog 48 3 = true := by kernel_rfl
theorem k_zc_3 : (Try.prog.info? 3).map (fun i => i.zero.map (fun z => z.cells.toList)) = some (some [.int .i64 0]) := by kernel_rfl
theorem k_call_97 : callB Try.prog 97 = true := by kernel_rfl
theorem k_ag_122 : aggB Try.prog 122 = true := by kernel_rfl
theorem k_zero_96 : (Try.prog.info? 96).map (·.zero) = some (some (.agg #[.bool false])) := by kernel_rfl
theorem k_pl_96 : placesB Try.prog 96 [(0, 1)] = true := by kernel_rfl
theorem k_fd_122_0_0_3 : fieldB Try.prog 122 0 0 3 = true := by kernel_rfl
theorem k_sl_24_44 : sliceB Try.prog 24 44 = true := by kernel_rfl
theorem k_sz_44_5 : sizeB Try.prog 44 5 = true := by kernel_rfl
theorem k_by_44_40 : bytesB Try.prog 44 40 = true := by kernel_rfl
theorem k_zero_44 : (Try.prog.info? 44).map (·.zero) = some (some (.agg #[.int .i64 0, .int .i64 0, .int .i64 0, .int .i64 0, .int .i64 0])) := by kernel_rfl
theorem k_fd_26_2_2_24 : fieldB Try.prog 26 2 2 24 = true := by kernel_rfl
theorem k_sz_24_1 : sizeB Try.prog 24 1 = true := by kernel_rfl
theorem k_sc_24 : scalB Try.prog 24 = true := by kernel_rfl
theorem k_zero_42 : (Try.prog.info? 42).map (·.zero) = some (some (.agg #[.int .i64 0, .int .i64 0, .int .i64 0, .int .i64 0])) := by kernel_rfl
theorem k_pl_42 : placesB Try.prog 42 [(0, 1), (1, 1), (2, 1), (3, 1)] = true := by kernel_rfl
theorem k_fd_42_3_3_3 : fieldB Try.prog 42 3 3 3 = true := by kernel_rfl
theorem k_fd_42_0_0_3 : fieldB Try.prog 42 0 0 3 = true := by kernel_rfl
theorem k_fd_42_1_1_3 : fieldB Try.prog 42 1 1 3 = true := by kernel_rfl
theorem k_fd_42_2_2_3 : fieldB Try.prog 42 2 2 3 = true := by kernel_rfl
theorem k_sz_42_4 : sizeB Try.prog 42 4 = true := by kernel_rfl
theorem k_ag_42 : aggB Try.prog 42 = true := by kernel_rfl
theorem k_call_170 : callB Try.prog 170 = true := by kernel_rfl
theorem k_pl_44 : placesB Try.prog 44 [(0, 4), (4, 1)] = true := by kernel_rfl
theorem k_ag_44 : aggB Try.prog 44 = true := by kernel_rfl
theorem k_call_143 : callB Try.prog 143 = true := by kernel_rfl
theorem k_ag_124 : aggB Try.prog 124 = true := by kernel_rfl
theorem k_fd_96_0_0_4 : fieldB Try.prog 96 0 0 4 = true := by kernel_rfl
theorem k_sz_4_1 : sizeB Try.prog 4 1 = true := by kernel_rfl
theorem k_sc_4 : scalB Try.prog 4 = true := by kernel_rfl
theorem k_fd_124_0_0_3 : fieldB Try.prog 124 0 0 3 = true := by kernel_rfl
theorem k_fd_124_1_1_3 : fieldB Try.prog 124 1 1 3 = true := by kernel_rfl
theorem k_call_173 : callB Try.prog 173 = true := by kernel_rfl
theorem k_fd_124_2_2_3 : fieldB Try.prog 124 2 2 3 = true := by kernel_rfl
theorem k_fd_44_0_0_42 : fieldB Try.prog 44 0 0 42 = true := by kernel_rfl
theorem k_fd_44_1_4_3 : fieldB Try.prog 44 1 4 3 = true := by kernel_rfl
theorem k_call_176 : callB Try.prog 176 = true := by kernel_rfl
theorem k_zc_44 : (Try.prog.info? 44).map (fun i => i.zero.map (fun z => z.cells.toList)) = some (some [.int .i64 0, .int .i64 0, .int .i64 0, .int .i64 0, .int .i64 0]) := by kernel_rfl
theorem k_call_175 : callB Try.prog 175 = true := by kernel_rfl
theorem k_call_174 : callB Try.prog 174 = true := by kernel_rfl
theorem k_call_172 : callB Try.prog 172 = true := by kernel_rfl
theorem k_fd_26_0_0_3 : fieldB Try.prog 26 0 0 3 = true := by kernel_rfl
theorem k_fd_26_1_1_3 : fieldB Try.prog 26 1 1 3 = true := by kernel_rfl
theorem k_call_154 : callB Try.prog 154 = true := by kernel_rfl
theorem k_call_142 : callB Try.prog 142 = true := by kernel_rfl
theorem k_call_147 : callB Try.prog 147 = true := by kernel_rfl
theorem k_call_149 : callB Try.prog 149 = true := by kernel_rfl
theorem k_call_168 : callB Try.prog 168 = true := by kernel_rfl
theorem k_call_151 : callB Try.prog 151 = true := by kernel_rfl
theorem k_call_148 : callB Try.prog 148 = true := by kernel_rfl
theorem k_call_139 : callB Try.prog 139 = true := by kernel_rfl
theorem k_call_150 : callB Try.prog 150 = true := by kernel_rfl
theorem k_call_117 : callB Try.prog 117 = true := by kernel_rfl
theorem k_call_116 : callB Try.prog 116 = true := by kernel_rfl
theorem k_call_166 : callB Try.prog 166 = true := by kernel_rfl
theorem k_call_63 : callB Try.prog 63 = true := by kernel_rfl
theorem k_call_109 : callB Try.prog 109 = true := by kernel_rfl
theorem k_call_133 : callB Try.prog 133 = true := by kernel_rfl
theorem k_call_98 : callB Try.prog 98 = true := by kernel_rfl
theorem k_call_41 : callB Try.prog 41 = true := by kernel_rfl
theorem k_call_7 : callB Try.prog 7 = true := by kernel_rfl
theorem k_call_82 : callB Try.prog 82 = true := by kernel_rfl
theorem k_call_42 : callB Try.prog 42 = true := by kernel_rfl
theorem k_call_99 : callB Try.prog 99 = true := by kernel_rfl
theorem k_call_167 : callB Try.prog 167 = true := by kernel_rfl
theorem k_call_134 : callB Try.prog 134 = true := by kernel_rfl
theorem k_call_100 : callB Try.prog 100 = true := by kernel_rfl
theorem k_call_45 : callB Try.prog 45 = true := by kernel_rfl
theorem k_str_9 : strB Try.prog 9 = true := by kernel_rfl
theorem k_map_132_5_3 : mapB Try.prog 132 5 3 = true := by kernel_rfl
theorem k_int_5_u8 : intB Try.prog 5 .u8 = true := by kernel_rfl
theorem k_zero_3 : (Try.prog.info? 3).map (·.zero) = some (some (.int .i64 0)) := by kernel_rfl
theorem k_call_104 : callB Try.prog 104 = true := by kernel_rfl
theorem k_call_67 : callB Try.prog 67 = true := by kernel_rfl
theorem k_map_152_3_3 : mapB Try.prog 152 3 3 = true := by kernel_rfl
theorem k_int_3_i64 : intB Try.prog 3 .i64 = true := by kernel_rfl
theorem k_call_105 : callB Try.prog 105 = true := by kernel_rfl
theorem k_sl_171_42 : sliceB Try.prog 171 42 = true := by kernel_rfl
theorem k_zc_42 : (Try.prog.info? 42).map (fun i => i.zero.map (fun z => z.cells.toList)) = some (some [.int .i64 0, .int .i64 0, .int .i64 0, .int .i64 0]) := by kernel_rfl
theorem k_by_42_32 : bytesB Try.prog 42 32 = true := by kernel_rfl
theorem k_call_135 : callB Try.prog 135 = true := by kernel_rfl
theorem k_call_101 : callB Try.prog 101 = true := by kernel_rfl
theorem k_call_136 : callB Try.prog 136 = true := by kernel_rfl
theorem k_call_102 : callB Try.prog 102 = true := by kernel_rfl
theorem k_call_137 : callB Try.prog 137 = true := by kernel_rfl
theorem k_call_103 : callB Try.prog 103 = true := by kernel_rfl
theorem k_call_48 : callB Try.prog 48 = true := by kernel_rfl
theorem k_call_49 : callB Try.prog 49 = true := by kernel_rfl
theorem k_call_47 : callB Try.prog 47 = true := by kernel_rfl
theorem k_call_46 : callB Try.prog 46 = true := by kernel_rfl
theorem k_call_44 : callB Try.prog 44 = true := by kernel_rfl
theorem k_call_43 : callB Try.prog 43 = true := by kernel_rfl
theorem k_call_9 : callB Try.prog 9 = true := by kernel_rfl
theorem k_call_138 : callB Try.prog 138 = true := by kernel_rfl
theorem k_call_106 : callB Try.prog 106 = true := by kernel_rfl
theorem k_call_50 : callB Try.prog 50 = true := by kernel_rfl
theorem k_call_10 : callB Try.prog 10 = true := by kernel_rfl
theorem k_und_4 : Try.prog.underlying 4 = some .bool := by kernel_rfl
theorem k_call_51 : callB Try.prog 51 = true := by kernel_rfl
theorem k_call_11 : callB Try.prog 11 = true := by kernel_rfl
theorem k_call_52 : callB Try.prog 52 = true := by kernel_rfl
theorem k_call_12 : callB Try.prog 12 = true := by kernel_rfl
end Go.VK
