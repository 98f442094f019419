/- Closed facts on the types. -/
import Derived.Test.YtpeokafglhdpcaaQubitWeightFn
import Derived.Test.YtpeokafglhdpcaaChecked
namespace Go.VK
open Go.RowKit
open Go.Proofs
theorem k_sz_120_4 : sizeB Try.prog 120 4 = true := by kernel_rfl
theorem k_fd_120_0_0_3 : fieldB Try.prog 120 0 0 3 = true := by kernel_rfl
theorem k_sz_3_1 : sizeB Try.prog 3 1 = true := by kernel_rfl
theorem k_sc_3 : scalB Try.prog 3 = true := by kernel_rfl
theorem k_fd_120_1_1_3 : fieldB Try.prog 120 1 1 3 = true := by kernel_rfl
theorem k_fd_120_2_2_3 : fieldB Try.prog 120 2 2 3 = true := by kernel_rfl
theorem k_fd_120_3_3_3 : fieldB Try.prog 120 3 3 3 = true := by kernel_rfl
theorem k_zero_26 : (Try.prog.info? 26).map (·.zero) = some (some (.agg #[.int .i64 0, .int .i64 0, .slice none 0 0])) := by kernel_rfl
theorem k_pl_26 : placesB Try.prog 26 [(0, 1), (1, 1), (2, 1)] = true := by kernel_rfl
theorem k_sz_26_3 : sizeB Try.prog 26 3 = true := by kernel_rfl
theorem k_ag_26 : aggB Try.prog 26 = true := by kernel_rfl
theorem k_zero_113 : (Try.prog.info? 113).map (·.zero) = some (some (.agg #[.bool false])) := by kernel_rfl
theorem k_pl_113 : placesB Try.prog 113 [(0, 1)] = true := by kernel_rfl
theorem k_sl_24_83 : sliceB Try.prog 24 83 = true := by kernel_rfl
theorem k_sz_83_5 : sizeB Try.prog 83 5 = true := by kernel_rfl
theorem k_by_83_40 : bytesB Try.prog 83 40 = true := by kernel_rfl
theorem k_zero_83 : (Try.prog.info? 83).map (·.zero) = some (some (.agg #[.int .i64 0, .int .i64 0, .int .i64 0, .int .i64 0, .int .i64 0])) := by kernel_rfl
theorem k_fd_26_2_2_24 : fieldB Try.prog 26 2 2 24 = true := by kernel_rfl
theorem k_sz_24_1 : sizeB Try.prog 24 1 = true := by kernel_rfl
theorem k_sc_24 : scalB Try.prog 24 = true := by kernel_rfl
theorem k_zero_81 : (Try.prog.info? 81).map (·.zero) = some (some (.agg #[.int .i64 0, .int .i64 0, .int .i64 0, .int .i64 0])) := by kernel_rfl
theorem k_pl_81 : placesB Try.prog 81 [(0, 1), (1, 1), (2, 1), (3, 1)] = true := by kernel_rfl
theorem k_fd_81_3_3_3 : fieldB Try.prog 81 3 3 3 = true := by kernel_rfl
theorem k_fd_81_0_0_3 : fieldB Try.prog 81 0 0 3 = true := by kernel_rfl
theorem k_fd_81_1_1_3 : fieldB Try.prog 81 1 1 3 = true := by kernel_rfl
theorem k_fd_81_2_2_3 : fieldB Try.prog 81 2 2 3 = true := by kernel_rfl
theorem k_sz_81_4 : sizeB Try.prog 81 4 = true := by kernel_rfl
theorem k_ag_81 : aggB Try.prog 81 = true := by kernel_rfl
theorem k_call_219 : callB Try.prog 219 = true := by kernel_rfl
theorem k_pl_83 : placesB Try.prog 83 [(0, 4), (4, 1)] = true := by kernel_rfl
theorem k_ag_83 : aggB Try.prog 83 = true := by kernel_rfl
theorem k_call_138 : callB Try.prog 138 = true := by kernel_rfl
theorem k_call_67 : callB Try.prog 67 = true := by kernel_rfl
theorem k_call_104 : callB Try.prog 104 = true := by kernel_rfl
theorem k_fd_26_0_0_3 : fieldB Try.prog 26 0 0 3 = true := by kernel_rfl
theorem k_fd_26_1_1_3 : fieldB Try.prog 26 1 1 3 = true := by kernel_rfl
theorem k_zc_83 : (Try.prog.info? 83).map (fun i => i.zero.map (fun z => z.cells.toList)) = some (some [.int .i64 0, .int .i64 0, .int .i64 0, .int .i64 0, .int .i64 0]) := by kernel_rfl
theorem k_fd_83_1_4_3 : fieldB Try.prog 83 1 4 3 = true := by kernel_rfl
theorem k_fd_113_0_0_4 : fieldB Try.prog 113 0 0 4 = true := by kernel_rfl
theorem k_sz_4_1 : sizeB Try.prog 4 1 = true := by kernel_rfl
theorem k_fd_83_0_0_81 : fieldB Try.prog 83 0 0 81 = true := by kernel_rfl
theorem k_sl_42_3 : sliceB Try.prog 42 3 = true := by kernel_rfl
theorem k_zc_3 : (Try.prog.info? 3).map (fun i => i.zero.map (fun z => z.cells.toList)) = some (some [.int .i64 0]) := by kernel_rfl
theorem k_call_273 : callB Try.prog 273 = true := by kernel_rfl
theorem k_call_235 : callB Try.prog 235 = true := by kernel_rfl
theorem k_call_236 : callB Try.prog 236 = true := by kernel_rfl
theorem k_call_181 : callB Try.prog 181 = true := by kernel_rfl
theorem k_call_245 : callB Try.prog 245 = true := by kernel_rfl
theorem k_call_184 : callB Try.prog 184 = true := by kernel_rfl
theorem k_call_180 : callB Try.prog 180 = true := by kernel_rfl
theorem k_call_182 : callB Try.prog 182 = true := by kernel_rfl
theorem k_call_112 : callB Try.prog 112 = true := by kernel_rfl
theorem k_call_183 : callB Try.prog 183 = true := by kernel_rfl
theorem k_call_111 : callB Try.prog 111 = true := by kernel_rfl
theorem k_call_220 : callB Try.prog 220 = true := by kernel_rfl
theorem k_call_139 : callB Try.prog 139 = true := by kernel_rfl
theorem k_sc_4 : scalB Try.prog 4 = true := by kernel_rfl
theorem k_call_107 : callB Try.prog 107 = true := by kernel_rfl
theorem k_call_169 : callB Try.prog 169 = true := by kernel_rfl
theorem k_call_142 : callB Try.prog 142 = true := by kernel_rfl
theorem k_call_141 : callB Try.prog 141 = true := by kernel_rfl
theorem k_call_140 : callB Try.prog 140 = true := by kernel_rfl
theorem k_call_72 : callB Try.prog 72 = true := by kernel_rfl
theorem k_call_274 : callB Try.prog 274 = true := by kernel_rfl
theorem k_call_239 : callB Try.prog 239 = true := by kernel_rfl
theorem k_call_242 : callB Try.prog 242 = true := by kernel_rfl
theorem k_sl_287_81 : sliceB Try.prog 287 81 = true := by kernel_rfl
theorem k_zc_81 : (Try.prog.info? 81).map (fun i => i.zero.map (fun z => z.cells.toList)) = some (some [.int .i64 0, .int .i64 0, .int .i64 0, .int .i64 0]) := by kernel_rfl
theorem k_by_81_32 : bytesB Try.prog 81 32 = true := by kernel_rfl
theorem k_call_247 : callB Try.prog 247 = true := by kernel_rfl
theorem k_call_222 : callB Try.prog 222 = true := by kernel_rfl
theorem k_call_240 : callB Try.prog 240 = true := by kernel_rfl
theorem k_call_172 : callB Try.prog 172 = true := by kernel_rfl
theorem k_call_269 : callB Try.prog 269 = true := by kernel_rfl
theorem k_call_223 : callB Try.prog 223 = true := by kernel_rfl
theorem k_call_176 : callB Try.prog 176 = true := by kernel_rfl
theorem k_call_146 : callB Try.prog 146 = true := by kernel_rfl
theorem k_call_221 : callB Try.prog 221 = true := by kernel_rfl
theorem k_call_238 : callB Try.prog 238 = true := by kernel_rfl
theorem k_call_171 : callB Try.prog 171 = true := by kernel_rfl
theorem k_call_170 : callB Try.prog 170 = true := by kernel_rfl
theorem k_call_99 : callB Try.prog 99 = true := by kernel_rfl
theorem k_call_147 : callB Try.prog 147 = true := by kernel_rfl
theorem k_call_275 : callB Try.prog 275 = true := by kernel_rfl
theorem k_call_246 : callB Try.prog 246 = true := by kernel_rfl
theorem k_call_187 : callB Try.prog 187 = true := by kernel_rfl
theorem k_call_186 : callB Try.prog 186 = true := by kernel_rfl
theorem k_call_116 : callB Try.prog 116 = true := by kernel_rfl
theorem k_call_145 : callB Try.prog 145 = true := by kernel_rfl
theorem k_call_75 : callB Try.prog 75 = true := by kernel_rfl
theorem k_call_109 : callB Try.prog 109 = true := by kernel_rfl
theorem k_call_44 : callB Try.prog 44 = true := by kernel_rfl
theorem k_und_4 : Try.prog.underlying 4 = some .bool := by kernel_rfl
theorem k_ag_41 : aggB Try.prog 41 = true := by kernel_rfl
theorem k_sz_41_2 : sizeB Try.prog 41 2 = true := by kernel_rfl
theorem k_fd_41_1_1_39 : fieldB Try.prog 41 1 1 39 = true := by kernel_rfl
theorem k_sz_39_1 : sizeB Try.prog 39 1 = true := by kernel_rfl
theorem k_sc_39 : scalB Try.prog 39 = true := by kernel_rfl
theorem k_sl_39_201 : sliceB Try.prog 39 201 = true := by kernel_rfl
theorem k_call_81 : callB Try.prog 81 = true := by kernel_rfl
theorem k_call_24 : callB Try.prog 24 = true := by kernel_rfl
theorem k_zero_57 : (Try.prog.info? 57).map (·.zero) = some (some (.agg #[.int .i64 0, .slice none 0 0])) := by kernel_rfl
theorem k_fd_41_0_0_3 : fieldB Try.prog 41 0 0 3 = true := by kernel_rfl
theorem k_fd_57_0_0_3 : fieldB Try.prog 57 0 0 3 = true := by kernel_rfl
theorem k_sl_55_171 : sliceB Try.prog 55 171 = true := by kernel_rfl
theorem k_sz_171_3 : sizeB Try.prog 171 3 = true := by kernel_rfl
theorem k_by_171_24 : bytesB Try.prog 171 24 = true := by kernel_rfl
theorem k_zero_171 : (Try.prog.info? 171).map (·.zero) = some (some (.agg #[.int .i64 0, .int .i64 0, .int .i64 0])) := by kernel_rfl
theorem k_sz_201_3 : sizeB Try.prog 201 3 = true := by kernel_rfl
theorem k_ag_201 : aggB Try.prog 201 = true := by kernel_rfl
theorem k_fd_201_0_0_3 : fieldB Try.prog 201 0 0 3 = true := by kernel_rfl
theorem k_fd_171_0_0_3 : fieldB Try.prog 171 0 0 3 = true := by kernel_rfl
theorem k_fd_201_1_1_3 : fieldB Try.prog 201 1 1 3 = true := by kernel_rfl
theorem k_fd_171_1_1_3 : fieldB Try.prog 171 1 1 3 = true := by kernel_rfl
theorem k_fd_201_2_2_3 : fieldB Try.prog 201 2 2 3 = true := by kernel_rfl
theorem k_fd_171_2_2_3 : fieldB Try.prog 171 2 2 3 = true := by kernel_rfl
theorem k_ag_171 : aggB Try.prog 171 = true := by kernel_rfl
theorem k_call_156 : callB Try.prog 156 = true := by kernel_rfl
theorem k_call_87 : callB Try.prog 87 = true := by kernel_rfl
theorem k_fd_57_1_1_55 : fieldB Try.prog 57 1 1 55 = true := by kernel_rfl
theorem k_sz_55_1 : sizeB Try.prog 55 1 = true := by kernel_rfl
theorem k_ag_57 : aggB Try.prog 57 = true := by kernel_rfl
theorem k_sz_57_2 : sizeB Try.prog 57 2 = true := by kernel_rfl
theorem k_zero_3 : (Try.prog.info? 3).map (·.zero) = some (some (.int .i64 0)) := by kernel_rfl
theorem k_sc_55 : scalB Try.prog 55 = true := by kernel_rfl
theorem k_call_212 : callB Try.prog 212 = true := by kernel_rfl
theorem k_call_133 : callB Try.prog 133 = true := by kernel_rfl
theorem k_sz_69_3 : sizeB Try.prog 69 3 = true := by kernel_rfl
theorem k_fd_69_2_2_67 : fieldB Try.prog 69 2 2 67 = true := by kernel_rfl
theorem k_sz_67_1 : sizeB Try.prog 67 1 = true := by kernel_rfl
theorem k_sl_67_215 : sliceB Try.prog 67 215 = true := by kernel_rfl
theorem k_fd_69_0_0_3 : fieldB Try.prog 69 0 0 3 = true := by kernel_rfl
theorem k_fd_69_1_1_3 : fieldB Try.prog 69 1 1 3 = true := by kernel_rfl
theorem k_sz_215_5 : sizeB Try.prog 215 5 = true := by kernel_rfl
theorem k_fd_215_0_0_213 : fieldB Try.prog 215 0 0 213 = true := by kernel_rfl
theorem k_sz_213_4 : sizeB Try.prog 213 4 = true := by kernel_rfl
theorem k_fd_213_0_0_3 : fieldB Try.prog 213 0 0 3 = true := by kernel_rfl
theorem k_fd_213_1_1_3 : fieldB Try.prog 213 1 1 3 = true := by kernel_rfl
theorem k_fd_213_2_2_3 : fieldB Try.prog 213 2 2 3 = true := by kernel_rfl
theorem k_fd_213_3_3_3 : fieldB Try.prog 213 3 3 3 = true := by kernel_rfl
theorem k_fd_215_1_4_3 : fieldB Try.prog 215 1 4 3 = true := by kernel_rfl
theorem k_int_3_i64 : intB Try.prog 3 .i64 = true := by kernel_rfl
theorem k_call_28 : callB Try.prog 28 = true := by kernel_rfl
theorem k_us_3 : (Try.prog.underlying 3).isSome = true := by kernel_rfl
theorem k_int_181_u64 : intB Try.prog 181 .u64 = true := by kernel_rfl
theorem k_call_110 : callB Try.prog 110 = true := by kernel_rfl
theorem k_call_281 : callB Try.prog 281 = true := by kernel_rfl
theorem k_call_262 : callB Try.prog 262 = true := by kernel_rfl
theorem k_call_214 : callB Try.prog 214 = true := by kernel_rfl
theorem k_call_213 : callB Try.prog 213 = true := by kernel_rfl
theorem k_call_135 : callB Try.prog 135 = true := by kernel_rfl
theorem k_call_134 : callB Try.prog 134 = true := by kernel_rfl
theorem k_call_263 : callB Try.prog 263 = true := by kernel_rfl
theorem k_call_264 : callB Try.prog 264 = true := by kernel_rfl
theorem k_call_217 : callB Try.prog 217 = true := by kernel_rfl
theorem k_call_216 : callB Try.prog 216 = true := by kernel_rfl
theorem k_call_215 : callB Try.prog 215 = true := by kernel_rfl
theorem k_call_136 : callB Try.prog 136 = true := by kernel_rfl
theorem k_call_115 : callB Try.prog 115 = true := by kernel_rfl
theorem k_call_267 : callB Try.prog 267 = true := by kernel_rfl
theorem k_call_266 : callB Try.prog 266 = true := by kernel_rfl
theorem k_map_295_3_3 : mapB Try.prog 295 3 3 = true := by kernel_rfl
theorem k_call_268 : callB Try.prog 268 = true := by kernel_rfl
theorem k_call_265 : callB Try.prog 265 = true := by kernel_rfl
theorem k_call_218 : callB Try.prog 218 = true := by kernel_rfl
theorem k_call_137 : callB Try.prog 137 = true := by kernel_rfl
theorem k_call_164 : callB Try.prog 164 = true := by kernel_rfl
theorem k_call_93 : callB Try.prog 93 = true := by kernel_rfl
theorem k_call_32 : callB Try.prog 32 = true := by kernel_rfl
theorem k_call_177 : callB Try.prog 177 = true := by kernel_rfl
theorem k_call_103 : callB Try.prog 103 = true := by kernel_rfl
theorem k_call_185 : callB Try.prog 185 = true := by kernel_rfl
theorem k_call_113 : callB Try.prog 113 = true := by kernel_rfl
theorem k_call_114 : callB Try.prog 114 = true := by kernel_rfl
theorem k_call_243 : callB Try.prog 243 = true := by kernel_rfl
theorem k_call_178 : callB Try.prog 178 = true := by kernel_rfl
theorem k_call_106 : callB Try.prog 106 = true := by kernel_rfl
theorem k_call_244 : callB Try.prog 244 = true := by kernel_rfl
theorem k_call_179 : callB Try.prog 179 = true := by kernel_rfl
theorem k_call_108 : callB Try.prog 108 = true := by kernel_rfl
theorem k_call_45 : callB Try.prog 45 = true := by kernel_rfl
theorem k_call_46 : callB Try.prog 46 = true := by kernel_rfl
end Go.VK
