/- Closed facts on the types. -/
import Derived.Test.YtbhancgonaleoaaStateAfterFn
import Derived.Test.YtbhancgonaleoaaChecked
namespace Go.VK
open Go.RowKit
open Go.Proofs
theorem k_ag_24 : aggB Try.prog 24 = true := by kernel_rfl
theorem k_sz_24_2 : sizeB Try.prog 24 2 = true := by kernel_rfl
theorem k_fd_24_1_1_22 : fieldB Try.prog 24 1 1 22 = true := by kernel_rfl
theorem k_sz_22_1 : sizeB Try.prog 22 1 = true := by kernel_rfl
theorem k_sc_22 : scalB Try.prog 22 = true := by kernel_rfl
theorem k_sl_22_119 : sliceB Try.prog 22 119 = true := by kernel_rfl
theorem k_call_27 : callB Try.prog 27 = true := by kernel_rfl
theorem k_call_7 : callB Try.prog 7 = true := by kernel_rfl
theorem k_zero_33 : (Try.prog.info? 33).map (·.zero) = some (some (.agg #[.int .i64 0, .slice none 0 0])) := by kernel_rfl
theorem k_fd_24_0_0_3 : fieldB Try.prog 24 0 0 3 = true := by kernel_rfl
theorem k_sz_3_1 : sizeB Try.prog 3 1 = true := by kernel_rfl
theorem k_sc_3 : scalB Try.prog 3 = true := by kernel_rfl
theorem k_fd_33_0_0_3 : fieldB Try.prog 33 0 0 3 = true := by kernel_rfl
theorem k_sl_31_109 : sliceB Try.prog 31 109 = true := by kernel_rfl
theorem k_sz_109_3 : sizeB Try.prog 109 3 = true := by kernel_rfl
theorem k_by_109_24 : bytesB Try.prog 109 24 = true := by kernel_rfl
theorem k_zero_109 : (Try.prog.info? 109).map (·.zero) = some (some (.agg #[.int .i64 0, .int .i64 0, .int .i64 0])) := by kernel_rfl
theorem k_sz_119_3 : sizeB Try.prog 119 3 = true := by kernel_rfl
theorem k_ag_119 : aggB Try.prog 119 = true := by kernel_rfl
theorem k_fd_119_0_0_3 : fieldB Try.prog 119 0 0 3 = true := by kernel_rfl
theorem k_fd_109_0_0_3 : fieldB Try.prog 109 0 0 3 = true := by kernel_rfl
theorem k_fd_119_1_1_3 : fieldB Try.prog 119 1 1 3 = true := by kernel_rfl
theorem k_fd_109_1_1_3 : fieldB Try.prog 109 1 1 3 = true := by kernel_rfl
theorem k_fd_119_2_2_3 : fieldB Try.prog 119 2 2 3 = true := by kernel_rfl
theorem k_fd_109_2_2_3 : fieldB Try.prog 109 2 2 3 = true := by kernel_rfl
theorem k_ag_109 : aggB Try.prog 109 = true := by kernel_rfl
theorem k_call_78 : callB Try.prog 78 = true := by kernel_rfl
theorem k_call_34 : callB Try.prog 34 = true := by kernel_rfl
theorem k_fd_33_1_1_31 : fieldB Try.prog 33 1 1 31 = true := by kernel_rfl
theorem k_sz_31_1 : sizeB Try.prog 31 1 = true := by kernel_rfl
theorem k_ag_33 : aggB Try.prog 33 = true := by kernel_rfl
theorem k_sz_33_2 : sizeB Try.prog 33 2 = true := by kernel_rfl
theorem k_call_9 : callB Try.prog 9 = true := by kernel_rfl
theorem k_zero_28 : (Try.prog.info? 28).map (·.zero) = some (some (.agg #[.int .i64 0, .int .i64 0, .slice none 0 0])) := by kernel_rfl
theorem k_call_29 : callB Try.prog 29 = true := by kernel_rfl
theorem k_sc_31 : scalB Try.prog 31 = true := by kernel_rfl
theorem k_call_74 : callB Try.prog 74 = true := by kernel_rfl
theorem k_call_28 : callB Try.prog 28 = true := by kernel_rfl
theorem k_us_3 : (Try.prog.underlying 3).isSome = true := by kernel_rfl
theorem k_int_66_u64 : intB Try.prog 66 .u64 = true := by kernel_rfl
theorem k_pl_28 : placesB Try.prog 28 [(0, 1), (1, 1), (2, 1)] = true := by kernel_rfl
theorem k_sz_28_3 : sizeB Try.prog 28 3 = true := by kernel_rfl
theorem k_ag_28 : aggB Try.prog 28 = true := by kernel_rfl
theorem k_zero_69 : (Try.prog.info? 69).map (·.zero) = some (some (.agg #[.bool false])) := by kernel_rfl
theorem k_pl_69 : placesB Try.prog 69 [(0, 1)] = true := by kernel_rfl
theorem k_sl_26_116 : sliceB Try.prog 26 116 = true := by kernel_rfl
theorem k_sz_116_5 : sizeB Try.prog 116 5 = true := by kernel_rfl
theorem k_by_116_40 : bytesB Try.prog 116 40 = true := by kernel_rfl
theorem k_zero_116 : (Try.prog.info? 116).map (·.zero) = some (some (.agg #[.int .i64 0, .int .i64 0, .int .i64 0, .int .i64 0, .int .i64 0])) := by kernel_rfl
theorem k_fd_28_2_2_26 : fieldB Try.prog 28 2 2 26 = true := by kernel_rfl
theorem k_sz_26_1 : sizeB Try.prog 26 1 = true := by kernel_rfl
theorem k_sc_26 : scalB Try.prog 26 = true := by kernel_rfl
theorem k_zero_114 : (Try.prog.info? 114).map (·.zero) = some (some (.agg #[.int .i64 0, .int .i64 0, .int .i64 0, .int .i64 0])) := by kernel_rfl
theorem k_pl_114 : placesB Try.prog 114 [(0, 1), (1, 1), (2, 1), (3, 1)] = true := by kernel_rfl
theorem k_fd_114_3_3_3 : fieldB Try.prog 114 3 3 3 = true := by kernel_rfl
theorem k_fd_114_0_0_3 : fieldB Try.prog 114 0 0 3 = true := by kernel_rfl
theorem k_fd_114_1_1_3 : fieldB Try.prog 114 1 1 3 = true := by kernel_rfl
theorem k_fd_114_2_2_3 : fieldB Try.prog 114 2 2 3 = true := by kernel_rfl
theorem k_sz_114_4 : sizeB Try.prog 114 4 = true := by kernel_rfl
theorem k_ag_114 : aggB Try.prog 114 = true := by kernel_rfl
theorem k_call_119 : callB Try.prog 119 = true := by kernel_rfl
theorem k_pl_116 : placesB Try.prog 116 [(0, 4), (4, 1)] = true := by kernel_rfl
theorem k_ag_116 : aggB Try.prog 116 = true := by kernel_rfl
theorem k_call_77 : callB Try.prog 77 = true := by kernel_rfl
theorem k_fd_28_0_0_3 : fieldB Try.prog 28 0 0 3 = true := by kernel_rfl
theorem k_fd_28_1_1_3 : fieldB Try.prog 28 1 1 3 = true := by kernel_rfl
theorem k_zc_116 : (Try.prog.info? 116).map (fun i => i.zero.map (fun z => z.cells.toList)) = some (some [.int .i64 0, .int .i64 0, .int .i64 0, .int .i64 0, .int .i64 0]) := by kernel_rfl
theorem k_fd_69_0_0_4 : fieldB Try.prog 69 0 0 4 = true := by kernel_rfl
theorem k_sz_4_1 : sizeB Try.prog 4 1 = true := by kernel_rfl
theorem k_sc_4 : scalB Try.prog 4 = true := by kernel_rfl
theorem k_call_151 : callB Try.prog 151 = true := by kernel_rfl
theorem k_fd_116_0_0_114 : fieldB Try.prog 116 0 0 114 = true := by kernel_rfl
theorem k_fd_116_1_4_3 : fieldB Try.prog 116 1 4 3 = true := by kernel_rfl
theorem k_call_187 : callB Try.prog 187 = true := by kernel_rfl
theorem k_call_171 : callB Try.prog 171 = true := by kernel_rfl
theorem k_sl_41_3 : sliceB Try.prog 41 3 = true := by kernel_rfl
theorem k_zc_3 : (Try.prog.info? 3).map (fun i => i.zero.map (fun z => z.cells.toList)) = some (some [.int .i64 0]) := by kernel_rfl
theorem k_call_152 : callB Try.prog 152 = true := by kernel_rfl
theorem k_call_118 : callB Try.prog 118 = true := by kernel_rfl
theorem k_call_137 : callB Try.prog 137 = true := by kernel_rfl
theorem k_call_168 : callB Try.prog 168 = true := by kernel_rfl
theorem k_call_169 : callB Try.prog 169 = true := by kernel_rfl
theorem k_call_147 : callB Try.prog 147 = true := by kernel_rfl
theorem k_call_170 : callB Try.prog 170 = true := by kernel_rfl
theorem k_call_150 : callB Try.prog 150 = true := by kernel_rfl
theorem k_call_146 : callB Try.prog 146 = true := by kernel_rfl
theorem k_call_148 : callB Try.prog 148 = true := by kernel_rfl
theorem k_call_149 : callB Try.prog 149 = true := by kernel_rfl
theorem k_call_117 : callB Try.prog 117 = true := by kernel_rfl
theorem k_call_116 : callB Try.prog 116 = true := by kernel_rfl
theorem k_call_76 : callB Try.prog 76 = true := by kernel_rfl
theorem k_call_75 : callB Try.prog 75 = true := by kernel_rfl
theorem k_call_33 : callB Try.prog 33 = true := by kernel_rfl
theorem k_call_32 : callB Try.prog 32 = true := by kernel_rfl
theorem k_call_31 : callB Try.prog 31 = true := by kernel_rfl
theorem k_call_30 : callB Try.prog 30 = true := by kernel_rfl
theorem k_call_8 : callB Try.prog 8 = true := by kernel_rfl
theorem k_call_36 : callB Try.prog 36 = true := by kernel_rfl
theorem k_call_120 : callB Try.prog 120 = true := by kernel_rfl
theorem k_call_121 : callB Try.prog 121 = true := by kernel_rfl
theorem k_call_81 : callB Try.prog 81 = true := by kernel_rfl
theorem k_call_80 : callB Try.prog 80 = true := by kernel_rfl
theorem k_call_79 : callB Try.prog 79 = true := by kernel_rfl
theorem k_call_35 : callB Try.prog 35 = true := by kernel_rfl
theorem k_call_122 : callB Try.prog 122 = true := by kernel_rfl
theorem k_call_84 : callB Try.prog 84 = true := by kernel_rfl
theorem k_call_83 : callB Try.prog 83 = true := by kernel_rfl
theorem k_call_82 : callB Try.prog 82 = true := by kernel_rfl
theorem k_call_37 : callB Try.prog 37 = true := by kernel_rfl
theorem k_call_153 : callB Try.prog 153 = true := by kernel_rfl
theorem k_call_172 : callB Try.prog 172 = true := by kernel_rfl
theorem k_call_154 : callB Try.prog 154 = true := by kernel_rfl
theorem k_call_155 : callB Try.prog 155 = true := by kernel_rfl
theorem k_call_125 : callB Try.prog 125 = true := by kernel_rfl
theorem k_call_124 : callB Try.prog 124 = true := by kernel_rfl
theorem k_call_123 : callB Try.prog 123 = true := by kernel_rfl
theorem k_call_85 : callB Try.prog 85 = true := by kernel_rfl
theorem k_call_87 : callB Try.prog 87 = true := by kernel_rfl
theorem k_call_86 : callB Try.prog 86 = true := by kernel_rfl
theorem k_call_38 : callB Try.prog 38 = true := by kernel_rfl
theorem k_call_156 : callB Try.prog 156 = true := by kernel_rfl
theorem k_call_127 : callB Try.prog 127 = true := by kernel_rfl
theorem k_call_130 : callB Try.prog 130 = true := by kernel_rfl
theorem k_call_131 : callB Try.prog 131 = true := by kernel_rfl
theorem k_call_128 : callB Try.prog 128 = true := by kernel_rfl
theorem k_call_129 : callB Try.prog 129 = true := by kernel_rfl
theorem k_map_170_3_3 : mapB Try.prog 170 3 3 = true := by kernel_rfl
theorem k_int_3_i64 : intB Try.prog 3 .i64 = true := by kernel_rfl
theorem k_zero_3 : (Try.prog.info? 3).map (·.zero) = some (some (.int .i64 0)) := by kernel_rfl
theorem k_call_132 : callB Try.prog 132 = true := by kernel_rfl
theorem k_call_126 : callB Try.prog 126 = true := by kernel_rfl
theorem k_call_88 : callB Try.prog 88 = true := by kernel_rfl
theorem k_sl_191_114 : sliceB Try.prog 191 114 = true := by kernel_rfl
theorem k_zc_114 : (Try.prog.info? 114).map (fun i => i.zero.map (fun z => z.cells.toList)) = some (some [.int .i64 0, .int .i64 0, .int .i64 0, .int .i64 0]) := by kernel_rfl
theorem k_by_114_32 : bytesB Try.prog 114 32 = true := by kernel_rfl
theorem k_call_173 : callB Try.prog 173 = true := by kernel_rfl
theorem k_call_157 : callB Try.prog 157 = true := by kernel_rfl
theorem k_call_174 : callB Try.prog 174 = true := by kernel_rfl
theorem k_call_158 : callB Try.prog 158 = true := by kernel_rfl
theorem k_call_134 : callB Try.prog 134 = true := by kernel_rfl
theorem k_call_188 : callB Try.prog 188 = true := by kernel_rfl
theorem k_call_175 : callB Try.prog 175 = true := by kernel_rfl
theorem k_call_160 : callB Try.prog 160 = true := by kernel_rfl
theorem k_call_159 : callB Try.prog 159 = true := by kernel_rfl
theorem k_call_135 : callB Try.prog 135 = true := by kernel_rfl
theorem k_call_133 : callB Try.prog 133 = true := by kernel_rfl
theorem k_call_89 : callB Try.prog 89 = true := by kernel_rfl
theorem k_call_39 : callB Try.prog 39 = true := by kernel_rfl
theorem k_call_10 : callB Try.prog 10 = true := by kernel_rfl
theorem k_call_136 : callB Try.prog 136 = true := by kernel_rfl
theorem k_call_90 : callB Try.prog 90 = true := by kernel_rfl
theorem k_call_40 : callB Try.prog 40 = true := by kernel_rfl
theorem k_call_11 : callB Try.prog 11 = true := by kernel_rfl
theorem k_und_4 : Try.prog.underlying 4 = some .bool := by kernel_rfl
theorem k_call_91 : callB Try.prog 91 = true := by kernel_rfl
theorem k_call_41 : callB Try.prog 41 = true := by kernel_rfl
theorem k_call_12 : callB Try.prog 12 = true := by kernel_rfl
theorem k_call_42 : callB Try.prog 42 = true := by kernel_rfl
theorem k_call_13 : callB Try.prog 13 = true := by kernel_rfl
theorem k_call_43 : callB Try.prog 43 = true := by kernel_rfl
theorem k_call_14 : callB Try.prog 14 = true := by kernel_rfl
theorem k_call_44 : callB Try.prog 44 = true := by kernel_rfl
theorem k_call_15 : callB Try.prog 15 = true := by kernel_rfl
end Go.VK
