/- Closed facts on the types. -/
import Derived.Test.YtoladcammhboiaaRouteCircuitFn
import Derived.Test.YtoladcammhboiaaChecked
namespace Go.VK
open Go.RowKit
open Go.Proofs
theorem k_sz_24_1 : sizeB Try.prog 24 1 = true := by kernel_rfl
theorem k_fd_24_0_0_22 : fieldB Try.prog 24 0 0 22 = true := by kernel_rfl
theorem k_sz_22_1 : sizeB Try.prog 22 1 = true := by kernel_rfl
theorem k_sl_22_245 : sliceB Try.prog 22 245 = true := by kernel_rfl
theorem k_sz_245_5 : sizeB Try.prog 245 5 = true := by kernel_rfl
theorem k_fd_245_0_0_243 : fieldB Try.prog 245 0 0 243 = true := by kernel_rfl
theorem k_sz_243_4 : sizeB Try.prog 243 4 = true := by kernel_rfl
theorem k_fd_243_0_0_3 : fieldB Try.prog 243 0 0 3 = true := by kernel_rfl
theorem k_sz_3_1 : sizeB Try.prog 3 1 = true := by kernel_rfl
theorem k_sc_3 : scalB Try.prog 3 = true := by kernel_rfl
theorem k_fd_243_1_1_3 : fieldB Try.prog 243 1 1 3 = true := by kernel_rfl
theorem k_fd_243_2_2_3 : fieldB Try.prog 243 2 2 3 = true := by kernel_rfl
theorem k_fd_243_3_3_3 : fieldB Try.prog 243 3 3 3 = true := by kernel_rfl
theorem k_fd_245_1_4_3 : fieldB Try.prog 245 1 4 3 = true := by kernel_rfl
theorem k_sl_59_3 : sliceB Try.prog 59 3 = true := by kernel_rfl
theorem k_zc_3 : (Try.prog.info? 3).map (fun i => i.zero.map (fun z => z.cells.toList)) = some (some [.int .i64 0]) := by kernel_rfl
theorem k_call_201 : callB Try.prog 201 = true := by kernel_rfl
theorem k_sz_4_1 : sizeB Try.prog 4 1 = true := by kernel_rfl
theorem k_sc_4 : scalB Try.prog 4 = true := by kernel_rfl
theorem k_int_3_i64 : intB Try.prog 3 .i64 = true := by kernel_rfl
theorem k_call_130 : callB Try.prog 130 = true := by kernel_rfl
theorem k_und_4 : Try.prog.underlying 4 = some .bool := by kernel_rfl
theorem k_sz_35_3 : sizeB Try.prog 35 3 = true := by kernel_rfl
theorem k_fd_35_0_0_3 : fieldB Try.prog 35 0 0 3 = true := by kernel_rfl
theorem k_fd_35_1_1_3 : fieldB Try.prog 35 1 1 3 = true := by kernel_rfl
theorem k_fd_35_2_2_3 : fieldB Try.prog 35 2 2 3 = true := by kernel_rfl
theorem k_zero_104 : (Try.prog.info? 104).map (·.zero) = some (some (.agg #[.int .i64 0, .slice none 0 0])) := by kernel_rfl
theorem k_pl_104 : placesB Try.prog 104 [(0, 1), (1, 1)] = true := by kernel_rfl
theorem k_sz_104_2 : sizeB Try.prog 104 2 = true := by kernel_rfl
theorem k_fd_104_1_1_102 : fieldB Try.prog 104 1 1 102 = true := by kernel_rfl
theorem k_sz_102_1 : sizeB Try.prog 102 1 = true := by kernel_rfl
theorem k_sc_102 : scalB Try.prog 102 = true := by kernel_rfl
theorem k_zero_213 : (Try.prog.info? 213).map (·.zero) = some (some (.agg #[.int .i64 0, .int .i64 0, .int .i64 0])) := by kernel_rfl
theorem k_pl_213 : placesB Try.prog 213 [(0, 1), (1, 1), (2, 1)] = true := by kernel_rfl
theorem k_sl_102_213 : sliceB Try.prog 102 213 = true := by kernel_rfl
theorem k_sz_213_3 : sizeB Try.prog 213 3 = true := by kernel_rfl
theorem k_zc_213 : (Try.prog.info? 213).map (fun i => i.zero.map (fun z => z.cells.toList)) = some (some [.int .i64 0, .int .i64 0, .int .i64 0]) := by kernel_rfl
theorem k_by_213_24 : bytesB Try.prog 213 24 = true := by kernel_rfl
theorem k_ag_104 : aggB Try.prog 104 = true := by kernel_rfl
theorem k_fd_104_0_0_3 : fieldB Try.prog 104 0 0 3 = true := by kernel_rfl
theorem k_ag_213 : aggB Try.prog 213 = true := by kernel_rfl
theorem k_fd_213_0_0_3 : fieldB Try.prog 213 0 0 3 = true := by kernel_rfl
theorem k_fd_213_1_1_3 : fieldB Try.prog 213 1 1 3 = true := by kernel_rfl
theorem k_fd_213_2_2_3 : fieldB Try.prog 213 2 2 3 = true := by kernel_rfl
theorem k_zero_3 : (Try.prog.info? 3).map (·.zero) = some (some (.int .i64 0)) := by kernel_rfl
theorem k_call_297 : callB Try.prog 297 = true := by kernel_rfl
theorem k_by_3_8 : bytesB Try.prog 3 8 = true := by kernel_rfl
theorem k_sz_59_1 : sizeB Try.prog 59 1 = true := by kernel_rfl
theorem k_sc_59 : scalB Try.prog 59 = true := by kernel_rfl
theorem k_call_235 : callB Try.prog 235 = true := by kernel_rfl
theorem k_call_303 : callB Try.prog 303 = true := by kernel_rfl
theorem k_call_249 : callB Try.prog 249 = true := by kernel_rfl
theorem k_call_224 : callB Try.prog 224 = true := by kernel_rfl
theorem k_ag_86 : aggB Try.prog 86 = true := by kernel_rfl
theorem k_sz_86_2 : sizeB Try.prog 86 2 = true := by kernel_rfl
theorem k_fd_86_1_1_84 : fieldB Try.prog 86 1 1 84 = true := by kernel_rfl
theorem k_sz_84_1 : sizeB Try.prog 84 1 = true := by kernel_rfl
theorem k_sc_84 : scalB Try.prog 84 = true := by kernel_rfl
theorem k_sl_84_279 : sliceB Try.prog 84 279 = true := by kernel_rfl
theorem k_call_144 : callB Try.prog 144 = true := by kernel_rfl
theorem k_call_51 : callB Try.prog 51 = true := by kernel_rfl
theorem k_ag_89 : aggB Try.prog 89 = true := by kernel_rfl
theorem k_sz_89_2 : sizeB Try.prog 89 2 = true := by kernel_rfl
theorem k_fd_89_1_1_87 : fieldB Try.prog 89 1 1 87 = true := by kernel_rfl
theorem k_sz_87_1 : sizeB Try.prog 87 1 = true := by kernel_rfl
theorem k_sc_87 : scalB Try.prog 87 = true := by kernel_rfl
theorem k_sl_87_281 : sliceB Try.prog 87 281 = true := by kernel_rfl
theorem k_call_145 : callB Try.prog 145 = true := by kernel_rfl
theorem k_call_52 : callB Try.prog 52 = true := by kernel_rfl
theorem k_ag_92 : aggB Try.prog 92 = true := by kernel_rfl
theorem k_sz_92_2 : sizeB Try.prog 92 2 = true := by kernel_rfl
theorem k_fd_92_0_0_59 : fieldB Try.prog 92 0 0 59 = true := by kernel_rfl
theorem k_call_146 : callB Try.prog 146 = true := by kernel_rfl
theorem k_fd_92_1_1_90 : fieldB Try.prog 92 1 1 90 = true := by kernel_rfl
theorem k_sz_90_1 : sizeB Try.prog 90 1 = true := by kernel_rfl
theorem k_sc_90 : scalB Try.prog 90 = true := by kernel_rfl
theorem k_sl_90_283 : sliceB Try.prog 90 283 = true := by kernel_rfl
theorem k_call_147 : callB Try.prog 147 = true := by kernel_rfl
theorem k_call_53 : callB Try.prog 53 = true := by kernel_rfl
theorem k_zero_100 : (Try.prog.info? 100).map (·.zero) = some (some (.agg #[.int .i64 0, .slice none 0 0])) := by kernel_rfl
theorem k_fd_86_0_0_3 : fieldB Try.prog 86 0 0 3 = true := by kernel_rfl
theorem k_fd_100_0_0_3 : fieldB Try.prog 100 0 0 3 = true := by kernel_rfl
theorem k_sl_98_277 : sliceB Try.prog 98 277 = true := by kernel_rfl
theorem k_sz_277_2 : sizeB Try.prog 277 2 = true := by kernel_rfl
theorem k_by_277_16 : bytesB Try.prog 277 16 = true := by kernel_rfl
theorem k_zero_277 : (Try.prog.info? 277).map (·.zero) = some (some (.agg #[.int .i64 0, .int .i64 0])) := by kernel_rfl
theorem k_sz_279_2 : sizeB Try.prog 279 2 = true := by kernel_rfl
theorem k_ag_279 : aggB Try.prog 279 = true := by kernel_rfl
theorem k_fd_279_0_0_3 : fieldB Try.prog 279 0 0 3 = true := by kernel_rfl
theorem k_fd_277_0_0_3 : fieldB Try.prog 277 0 0 3 = true := by kernel_rfl
theorem k_fd_279_1_1_3 : fieldB Try.prog 279 1 1 3 = true := by kernel_rfl
theorem k_fd_277_1_1_3 : fieldB Try.prog 277 1 1 3 = true := by kernel_rfl
theorem k_ag_277 : aggB Try.prog 277 = true := by kernel_rfl
theorem k_call_239 : callB Try.prog 239 = true := by kernel_rfl
theorem k_call_150 : callB Try.prog 150 = true := by kernel_rfl
theorem k_fd_100_1_1_98 : fieldB Try.prog 100 1 1 98 = true := by kernel_rfl
theorem k_sz_98_1 : sizeB Try.prog 98 1 = true := by kernel_rfl
theorem k_ag_100 : aggB Try.prog 100 = true := by kernel_rfl
theorem k_sz_100_2 : sizeB Try.prog 100 2 = true := by kernel_rfl
theorem k_fd_89_0_0_3 : fieldB Try.prog 89 0 0 3 = true := by kernel_rfl
theorem k_sz_281_3 : sizeB Try.prog 281 3 = true := by kernel_rfl
theorem k_ag_281 : aggB Try.prog 281 = true := by kernel_rfl
theorem k_fd_281_0_0_3 : fieldB Try.prog 281 0 0 3 = true := by kernel_rfl
theorem k_fd_281_1_1_3 : fieldB Try.prog 281 1 1 3 = true := by kernel_rfl
theorem k_fd_281_2_2_3 : fieldB Try.prog 281 2 2 3 = true := by kernel_rfl
theorem k_call_240 : callB Try.prog 240 = true := by kernel_rfl
theorem k_call_151 : callB Try.prog 151 = true := by kernel_rfl
theorem k_zero_108 : (Try.prog.info? 108).map (·.zero) = some (some (.agg #[.slice none 0 0, .slice none 0 0])) := by kernel_rfl
theorem k_call_152 : callB Try.prog 152 = true := by kernel_rfl
theorem k_fd_108_0_0_59 : fieldB Try.prog 108 0 0 59 = true := by kernel_rfl
theorem k_sl_106_211 : sliceB Try.prog 106 211 = true := by kernel_rfl
theorem k_sz_211_3 : sizeB Try.prog 211 3 = true := by kernel_rfl
theorem k_by_211_24 : bytesB Try.prog 211 24 = true := by kernel_rfl
theorem k_zero_211 : (Try.prog.info? 211).map (·.zero) = some (some (.agg #[.int .i64 0, .int .i64 0, .int .i64 0])) := by kernel_rfl
theorem k_sz_283_3 : sizeB Try.prog 283 3 = true := by kernel_rfl
theorem k_ag_283 : aggB Try.prog 283 = true := by kernel_rfl
theorem k_fd_283_0_0_3 : fieldB Try.prog 283 0 0 3 = true := by kernel_rfl
theorem k_fd_211_0_0_3 : fieldB Try.prog 211 0 0 3 = true := by kernel_rfl
theorem k_fd_283_1_1_3 : fieldB Try.prog 283 1 1 3 = true := by kernel_rfl
theorem k_fd_211_1_1_3 : fieldB Try.prog 211 1 1 3 = true := by kernel_rfl
theorem k_fd_283_2_2_3 : fieldB Try.prog 283 2 2 3 = true := by kernel_rfl
theorem k_fd_211_2_2_3 : fieldB Try.prog 211 2 2 3 = true := by kernel_rfl
theorem k_ag_211 : aggB Try.prog 211 = true := by kernel_rfl
theorem k_call_241 : callB Try.prog 241 = true := by kernel_rfl
theorem k_call_153 : callB Try.prog 153 = true := by kernel_rfl
theorem k_fd_108_1_1_106 : fieldB Try.prog 108 1 1 106 = true := by kernel_rfl
theorem k_sz_106_1 : sizeB Try.prog 106 1 = true := by kernel_rfl
theorem k_ag_108 : aggB Try.prog 108 = true := by kernel_rfl
theorem k_sz_108_2 : sizeB Try.prog 108 2 = true := by kernel_rfl
theorem k_sc_98 : scalB Try.prog 98 = true := by kernel_rfl
theorem k_call_232 : callB Try.prog 232 = true := by kernel_rfl
theorem k_call_310 : callB Try.prog 310 = true := by kernel_rfl
theorem k_call_233 : callB Try.prog 233 = true := by kernel_rfl
theorem k_call_148 : callB Try.prog 148 = true := by kernel_rfl
theorem k_call_234 : callB Try.prog 234 = true := by kernel_rfl
theorem k_sl_199_4 : sliceB Try.prog 199 4 = true := by kernel_rfl
theorem k_by_4_1 : bytesB Try.prog 4 1 = true := by kernel_rfl
theorem k_zero_4 : (Try.prog.info? 4).map (·.zero) = some (some (.bool false)) := by kernel_rfl
theorem k_sc_106 : scalB Try.prog 106 = true := by kernel_rfl
theorem k_call_236 : callB Try.prog 236 = true := by kernel_rfl
theorem k_call_162 : callB Try.prog 162 = true := by kernel_rfl
theorem k_call_163 : callB Try.prog 163 = true := by kernel_rfl
theorem k_call_311 : callB Try.prog 311 = true := by kernel_rfl
theorem k_call_237 : callB Try.prog 237 = true := by kernel_rfl
theorem k_call_238 : callB Try.prog 238 = true := by kernel_rfl
theorem k_call_149 : callB Try.prog 149 = true := by kernel_rfl
theorem k_call_55 : callB Try.prog 55 = true := by kernel_rfl
theorem k_call_56 : callB Try.prog 56 = true := by kernel_rfl
theorem k_call_57 : callB Try.prog 57 = true := by kernel_rfl
theorem k_call_312 : callB Try.prog 312 = true := by kernel_rfl
theorem k_call_242 : callB Try.prog 242 = true := by kernel_rfl
theorem k_call_336 : callB Try.prog 336 = true := by kernel_rfl
theorem k_call_250 : callB Try.prog 250 = true := by kernel_rfl
theorem k_call_315 : callB Try.prog 315 = true := by kernel_rfl
theorem k_call_314 : callB Try.prog 314 = true := by kernel_rfl
theorem k_call_313 : callB Try.prog 313 = true := by kernel_rfl
theorem k_call_243 : callB Try.prog 243 = true := by kernel_rfl
theorem k_call_154 : callB Try.prog 154 = true := by kernel_rfl
theorem k_zero_201 : (Try.prog.info? 201).map (·.zero) = some (some (.agg #[.int .i64 0, .slice none 0 0, .int .i64 0, .slice none 0 0, .slice none 0 0, .slice none 0 0])) := by kernel_rfl
theorem k_call_337 : callB Try.prog 337 = true := by kernel_rfl
theorem k_call_316 : callB Try.prog 316 = true := by kernel_rfl
theorem k_call_244 : callB Try.prog 244 = true := by kernel_rfl
theorem k_pl_201 : placesB Try.prog 201 [(0, 2), (2, 2), (4, 1), (5, 1)] = true := by kernel_rfl
theorem k_sz_201_6 : sizeB Try.prog 201 6 = true := by kernel_rfl
theorem k_ag_201 : aggB Try.prog 201 = true := by kernel_rfl
theorem k_call_164 : callB Try.prog 164 = true := by kernel_rfl
theorem k_fd_201_0_0_100 : fieldB Try.prog 201 0 0 100 = true := by kernel_rfl
theorem k_pl_277 : placesB Try.prog 277 [(0, 1), (1, 1)] = true := by kernel_rfl
theorem k_st_277 : structB Try.prog 277 [(3, 0), (3, 1)] = true := by kernel_rfl
theorem k_ho_277 : Try.prog.stoodInHeld 277 = false := by kernel_rfl
theorem k_eg_277 : Try.prog.eqGuardType Try.prog.depth 277 = false := by kernel_rfl
theorem k_call_338 : callB Try.prog 338 = true := by kernel_rfl
theorem k_call_318 : callB Try.prog 318 = true := by kernel_rfl
theorem k_call_251 : callB Try.prog 251 = true := by kernel_rfl
theorem k_fd_201_2_4_59 : fieldB Try.prog 201 2 4 59 = true := by kernel_rfl
theorem k_call_252 : callB Try.prog 252 = true := by kernel_rfl
theorem k_fd_201_1_2_104 : fieldB Try.prog 201 1 2 104 = true := by kernel_rfl
theorem k_fd_201_3_5_199 : fieldB Try.prog 201 3 5 199 = true := by kernel_rfl
theorem k_sz_199_1 : sizeB Try.prog 199 1 = true := by kernel_rfl
theorem k_sc_199 : scalB Try.prog 199 = true := by kernel_rfl
theorem k_call_339 : callB Try.prog 339 = true := by kernel_rfl
theorem k_call_340 : callB Try.prog 340 = true := by kernel_rfl
theorem k_call_319 : callB Try.prog 319 = true := by kernel_rfl
theorem k_call_253 : callB Try.prog 253 = true := by kernel_rfl
theorem k_call_254 : callB Try.prog 254 = true := by kernel_rfl
theorem k_call_166 : callB Try.prog 166 = true := by kernel_rfl
theorem k_call_317 : callB Try.prog 317 = true := by kernel_rfl
theorem k_call_245 : callB Try.prog 245 = true := by kernel_rfl
theorem k_call_155 : callB Try.prog 155 = true := by kernel_rfl
theorem k_call_58 : callB Try.prog 58 = true := by kernel_rfl
theorem k_call_246 : callB Try.prog 246 = true := by kernel_rfl
theorem k_call_156 : callB Try.prog 156 = true := by kernel_rfl
theorem k_call_59 : callB Try.prog 59 = true := by kernel_rfl
theorem k_call_247 : callB Try.prog 247 = true := by kernel_rfl
theorem k_call_157 : callB Try.prog 157 = true := by kernel_rfl
theorem k_call_60 : callB Try.prog 60 = true := by kernel_rfl
theorem k_call_64 : callB Try.prog 64 = true := by kernel_rfl
theorem k_call_248 : callB Try.prog 248 = true := by kernel_rfl
theorem k_call_158 : callB Try.prog 158 = true := by kernel_rfl
theorem k_call_61 : callB Try.prog 61 = true := by kernel_rfl
theorem k_call_159 : callB Try.prog 159 = true := by kernel_rfl
theorem k_call_65 : callB Try.prog 65 = true := by kernel_rfl
theorem k_call_160 : callB Try.prog 160 = true := by kernel_rfl
theorem k_call_66 : callB Try.prog 66 = true := by kernel_rfl
theorem k_call_68 : callB Try.prog 68 = true := by kernel_rfl
theorem k_call_161 : callB Try.prog 161 = true := by kernel_rfl
theorem k_call_67 : callB Try.prog 67 = true := by kernel_rfl
theorem k_call_70 : callB Try.prog 70 = true := by kernel_rfl
theorem k_call_165 : callB Try.prog 165 = true := by kernel_rfl
theorem k_call_167 : callB Try.prog 167 = true := by kernel_rfl
theorem k_call_71 : callB Try.prog 71 = true := by kernel_rfl
theorem k_call_168 : callB Try.prog 168 = true := by kernel_rfl
theorem k_call_72 : callB Try.prog 72 = true := by kernel_rfl
end Go.VK
