/- Closed facts on the types. -/
import Derived.Test.YtoladcammhboiaaParityOfFn
import Derived.Test.YtoladcammhboiaaChecked
namespace Go.VK
open Go.RowKit
open Go.Proofs
theorem k_ag_24 : aggB Try.prog 24 = true := by kernel_rfl
theorem k_sz_24_1 : sizeB Try.prog 24 1 = true := by kernel_rfl
theorem k_fd_24_0_0_22 : fieldB Try.prog 24 0 0 22 = true := by kernel_rfl
theorem k_sz_22_1 : sizeB Try.prog 22 1 = true := by kernel_rfl
theorem k_sc_22 : scalB Try.prog 22 = true := by kernel_rfl
theorem k_sl_22_245 : sliceB Try.prog 22 245 = true := by kernel_rfl
theorem k_call_81 : callB Try.prog 81 = true := by kernel_rfl
theorem k_call_13 : callB Try.prog 13 = true := by kernel_rfl
theorem k_zero_30 : (Try.prog.info? 30).map (·.zero) = some (some (.agg #[.slice none 0 0])) := by kernel_rfl
theorem k_sl_28_55 : sliceB Try.prog 28 55 = true := by kernel_rfl
theorem k_sz_55_5 : sizeB Try.prog 55 5 = true := by kernel_rfl
theorem k_by_55_40 : bytesB Try.prog 55 40 = true := by kernel_rfl
theorem k_zero_55 : (Try.prog.info? 55).map (·.zero) = some (some (.agg #[.int .i64 0, .int .i64 0, .int .i64 0, .int .i64 0, .int .i64 0])) := by kernel_rfl
theorem k_sz_245_5 : sizeB Try.prog 245 5 = true := by kernel_rfl
theorem k_ag_245 : aggB Try.prog 245 = true := by kernel_rfl
theorem k_fd_245_0_0_243 : fieldB Try.prog 245 0 0 243 = true := by kernel_rfl
theorem k_sz_243_4 : sizeB Try.prog 243 4 = true := by kernel_rfl
theorem k_ag_243 : aggB Try.prog 243 = true := by kernel_rfl
theorem k_zero_53 : (Try.prog.info? 53).map (·.zero) = some (some (.agg #[.int .i64 0, .int .i64 0, .int .i64 0, .int .i64 0])) := by kernel_rfl
theorem k_fd_243_0_0_3 : fieldB Try.prog 243 0 0 3 = true := by kernel_rfl
theorem k_sz_3_1 : sizeB Try.prog 3 1 = true := by kernel_rfl
theorem k_sc_3 : scalB Try.prog 3 = true := by kernel_rfl
theorem k_fd_53_0_0_3 : fieldB Try.prog 53 0 0 3 = true := by kernel_rfl
theorem k_fd_243_1_1_3 : fieldB Try.prog 243 1 1 3 = true := by kernel_rfl
theorem k_fd_53_1_1_3 : fieldB Try.prog 53 1 1 3 = true := by kernel_rfl
theorem k_fd_243_2_2_3 : fieldB Try.prog 243 2 2 3 = true := by kernel_rfl
theorem k_fd_53_2_2_3 : fieldB Try.prog 53 2 2 3 = true := by kernel_rfl
theorem k_fd_243_3_3_3 : fieldB Try.prog 243 3 3 3 = true := by kernel_rfl
theorem k_fd_53_3_3_3 : fieldB Try.prog 53 3 3 3 = true := by kernel_rfl
theorem k_ag_53 : aggB Try.prog 53 = true := by kernel_rfl
theorem k_sz_53_4 : sizeB Try.prog 53 4 = true := by kernel_rfl
theorem k_call_285 : callB Try.prog 285 = true := by kernel_rfl
theorem k_fd_55_0_0_53 : fieldB Try.prog 55 0 0 53 = true := by kernel_rfl
theorem k_fd_245_1_4_3 : fieldB Try.prog 245 1 4 3 = true := by kernel_rfl
theorem k_fd_55_1_4_3 : fieldB Try.prog 55 1 4 3 = true := by kernel_rfl
theorem k_ag_55 : aggB Try.prog 55 = true := by kernel_rfl
theorem k_call_191 : callB Try.prog 191 = true := by kernel_rfl
theorem k_call_84 : callB Try.prog 84 = true := by kernel_rfl
theorem k_fd_30_0_0_28 : fieldB Try.prog 30 0 0 28 = true := by kernel_rfl
theorem k_sz_28_1 : sizeB Try.prog 28 1 = true := by kernel_rfl
theorem k_ag_30 : aggB Try.prog 30 = true := by kernel_rfl
theorem k_sz_30_1 : sizeB Try.prog 30 1 = true := by kernel_rfl
theorem k_call_15 : callB Try.prog 15 = true := by kernel_rfl
theorem k_sc_28 : scalB Try.prog 28 = true := by kernel_rfl
theorem k_sl_59_3 : sliceB Try.prog 59 3 = true := by kernel_rfl
theorem k_zc_3 : (Try.prog.info? 3).map (fun i => i.zero.map (fun z => z.cells.toList)) = some (some [.int .i64 0]) := by kernel_rfl
theorem k_call_201 : callB Try.prog 201 = true := by kernel_rfl
theorem k_call_300 : callB Try.prog 300 = true := by kernel_rfl
theorem k_call_276 : callB Try.prog 276 = true := by kernel_rfl
theorem k_call_277 : callB Try.prog 277 = true := by kernel_rfl
theorem k_call_180 : callB Try.prog 180 = true := by kernel_rfl
theorem k_zero_165 : (Try.prog.info? 165).map (·.zero) = some (some (.agg #[.bool false])) := by kernel_rfl
theorem k_pl_165 : placesB Try.prog 165 [(0, 1)] = true := by kernel_rfl
theorem k_zc_55 : (Try.prog.info? 55).map (fun i => i.zero.map (fun z => z.cells.toList)) = some (some [.int .i64 0, .int .i64 0, .int .i64 0, .int .i64 0, .int .i64 0]) := by kernel_rfl
theorem k_pl_55 : placesB Try.prog 55 [(0, 4), (4, 1)] = true := by kernel_rfl
theorem k_fd_165_0_0_4 : fieldB Try.prog 165 0 0 4 = true := by kernel_rfl
theorem k_sz_4_1 : sizeB Try.prog 4 1 = true := by kernel_rfl
theorem k_pl_53 : placesB Try.prog 53 [(0, 1), (1, 1), (2, 1), (3, 1)] = true := by kernel_rfl
theorem k_call_281 : callB Try.prog 281 = true := by kernel_rfl
theorem k_call_331 : callB Try.prog 331 = true := by kernel_rfl
theorem k_call_280 : callB Try.prog 280 = true := by kernel_rfl
theorem k_call_279 : callB Try.prog 279 = true := by kernel_rfl
theorem k_call_278 : callB Try.prog 278 = true := by kernel_rfl
theorem k_call_282 : callB Try.prog 282 = true := by kernel_rfl
theorem k_call_183 : callB Try.prog 183 = true := by kernel_rfl
theorem k_call_185 : callB Try.prog 185 = true := by kernel_rfl
theorem k_call_182 : callB Try.prog 182 = true := by kernel_rfl
theorem k_call_181 : callB Try.prog 181 = true := by kernel_rfl
theorem k_call_283 : callB Try.prog 283 = true := by kernel_rfl
theorem k_call_186 : callB Try.prog 186 = true := by kernel_rfl
theorem k_call_184 : callB Try.prog 184 = true := by kernel_rfl
theorem k_sc_4 : scalB Try.prog 4 = true := by kernel_rfl
theorem k_pl_30 : placesB Try.prog 30 [(0, 1)] = true := by kernel_rfl
theorem k_call_284 : callB Try.prog 284 = true := by kernel_rfl
theorem k_call_189 : callB Try.prog 189 = true := by kernel_rfl
theorem k_st_55 : structB Try.prog 55 [(53, 0), (3, 4)] = true := by kernel_rfl
theorem k_ho_55 : Try.prog.stoodInHeld 55 = false := by kernel_rfl
theorem k_int_3_i64 : intB Try.prog 3 .i64 = true := by kernel_rfl
theorem k_st_53 : structB Try.prog 53 [(3, 0), (3, 1), (3, 2), (3, 3)] = true := by kernel_rfl
theorem k_ho_53 : Try.prog.stoodInHeld 53 = false := by kernel_rfl
theorem k_eg_55 : Try.prog.eqGuardType Try.prog.depth 55 = false := by kernel_rfl
theorem k_call_188 : callB Try.prog 188 = true := by kernel_rfl
theorem k_call_187 : callB Try.prog 187 = true := by kernel_rfl
theorem k_call_82 : callB Try.prog 82 = true := by kernel_rfl
theorem k_call_190 : callB Try.prog 190 = true := by kernel_rfl
theorem k_call_83 : callB Try.prog 83 = true := by kernel_rfl
theorem k_call_14 : callB Try.prog 14 = true := by kernel_rfl
theorem k_call_286 : callB Try.prog 286 = true := by kernel_rfl
theorem k_call_130 : callB Try.prog 130 = true := by kernel_rfl
theorem k_call_334 : callB Try.prog 334 = true := by kernel_rfl
theorem k_call_292 : callB Try.prog 292 = true := by kernel_rfl
theorem k_call_293 : callB Try.prog 293 = true := by kernel_rfl
theorem k_call_207 : callB Try.prog 207 = true := by kernel_rfl
theorem k_call_194 : callB Try.prog 194 = true := by kernel_rfl
theorem k_call_193 : callB Try.prog 193 = true := by kernel_rfl
theorem k_call_192 : callB Try.prog 192 = true := by kernel_rfl
theorem k_sl_341_53 : sliceB Try.prog 341 53 = true := by kernel_rfl
theorem k_zc_53 : (Try.prog.info? 53).map (fun i => i.zero.map (fun z => z.cells.toList)) = some (some [.int .i64 0, .int .i64 0, .int .i64 0, .int .i64 0]) := by kernel_rfl
theorem k_by_53_32 : bytesB Try.prog 53 32 = true := by kernel_rfl
theorem k_call_289 : callB Try.prog 289 = true := by kernel_rfl
theorem k_call_206 : callB Try.prog 206 = true := by kernel_rfl
theorem k_call_294 : callB Try.prog 294 = true := by kernel_rfl
theorem k_call_208 : callB Try.prog 208 = true := by kernel_rfl
theorem k_call_95 : callB Try.prog 95 = true := by kernel_rfl
theorem k_call_199 : callB Try.prog 199 = true := by kernel_rfl
theorem k_call_87 : callB Try.prog 87 = true := by kernel_rfl
theorem k_call_215 : callB Try.prog 215 = true := by kernel_rfl
theorem k_call_214 : callB Try.prog 214 = true := by kernel_rfl
theorem k_call_108 : callB Try.prog 108 = true := by kernel_rfl
theorem k_call_196 : callB Try.prog 196 = true := by kernel_rfl
theorem k_call_195 : callB Try.prog 195 = true := by kernel_rfl
theorem k_call_332 : callB Try.prog 332 = true := by kernel_rfl
theorem k_call_288 : callB Try.prog 288 = true := by kernel_rfl
theorem k_call_287 : callB Try.prog 287 = true := by kernel_rfl
theorem k_call_197 : callB Try.prog 197 = true := by kernel_rfl
theorem k_call_115 : callB Try.prog 115 = true := by kernel_rfl
theorem k_call_198 : callB Try.prog 198 = true := by kernel_rfl
theorem k_call_85 : callB Try.prog 85 = true := by kernel_rfl
theorem k_sl_45_5 : sliceB Try.prog 45 5 = true := by kernel_rfl
theorem k_sz_5_1 : sizeB Try.prog 5 1 = true := by kernel_rfl
theorem k_zc_5 : (Try.prog.info? 5).map (fun i => i.zero.map (fun z => z.cells.toList)) = some (some [.int .u8 0]) := by kernel_rfl
theorem k_call_86 : callB Try.prog 86 = true := by kernel_rfl
theorem k_us_3 : (Try.prog.underlying 3).isSome = true := by kernel_rfl
theorem k_int_5_u8 : intB Try.prog 5 .u8 = true := by kernel_rfl
theorem k_by_5_1 : bytesB Try.prog 5 1 = true := by kernel_rfl
theorem k_zero_5 : (Try.prog.info? 5).map (·.zero) = some (some (.int .u8 0)) := by kernel_rfl
theorem k_str_9 : strB Try.prog 9 = true := by kernel_rfl
theorem k_call_16 : callB Try.prog 16 = true := by kernel_rfl
theorem k_und_4 : Try.prog.underlying 4 = some .bool := by kernel_rfl
theorem k_call_290 : callB Try.prog 290 = true := by kernel_rfl
theorem k_call_200 : callB Try.prog 200 = true := by kernel_rfl
theorem k_call_88 : callB Try.prog 88 = true := by kernel_rfl
theorem k_call_17 : callB Try.prog 17 = true := by kernel_rfl
theorem k_sz_35_3 : sizeB Try.prog 35 3 = true := by kernel_rfl
theorem k_fd_35_0_0_3 : fieldB Try.prog 35 0 0 3 = true := by kernel_rfl
theorem k_fd_35_1_1_3 : fieldB Try.prog 35 1 1 3 = true := by kernel_rfl
theorem k_fd_35_2_2_3 : fieldB Try.prog 35 2 2 3 = true := by kernel_rfl
end Go.VK
