/- Closed facts on the types. -/
import Derived.Test.YthfilimbhhijaaaEqualPhasesFn
import Derived.Test.YthfilimbhhijaaaChecked
namespace Go.VK
open Go.RowKit
open Go.Proofs
theorem k_sz_24_1 : sizeB Try.prog 24 1 = true := by kernel_rfl
theorem k_fd_24_0_0_22 : fieldB Try.prog 24 0 0 22 = true := by kernel_rfl
theorem k_sz_22_1 : sizeB Try.prog 22 1 = true := by kernel_rfl
theorem k_sl_22_158 : sliceB Try.prog 22 158 = true := by kernel_rfl
theorem k_sz_158_5 : sizeB Try.prog 158 5 = true := by kernel_rfl
theorem k_fd_158_0_0_156 : fieldB Try.prog 158 0 0 156 = true := by kernel_rfl
theorem k_sz_156_4 : sizeB Try.prog 156 4 = true := by kernel_rfl
theorem k_fd_156_0_0_3 : fieldB Try.prog 156 0 0 3 = true := by kernel_rfl
theorem k_sz_3_1 : sizeB Try.prog 3 1 = true := by kernel_rfl
theorem k_sc_3 : scalB Try.prog 3 = true := by kernel_rfl
theorem k_fd_156_1_1_3 : fieldB Try.prog 156 1 1 3 = true := by kernel_rfl
theorem k_fd_156_2_2_3 : fieldB Try.prog 156 2 2 3 = true := by kernel_rfl
theorem k_fd_156_3_3_3 : fieldB Try.prog 156 3 3 3 = true := by kernel_rfl
theorem k_fd_158_1_4_3 : fieldB Try.prog 158 1 4 3 = true := by kernel_rfl
theorem k_sl_34_3 : sliceB Try.prog 34 3 = true := by kernel_rfl
theorem k_zc_3 : (Try.prog.info? 3).map (fun i => i.zero.map (fun z => z.cells.toList)) = some (some [.int .i64 0]) := by kernel_rfl
theorem k_call_140 : callB Try.prog 140 = true := by kernel_rfl
theorem k_call_191 : callB Try.prog 191 = true := by kernel_rfl
theorem k_int_3_i64 : intB Try.prog 3 .i64 = true := by kernel_rfl
theorem k_call_145 : callB Try.prog 145 = true := by kernel_rfl
theorem k_und_4 : Try.prog.underlying 4 = some .bool := by kernel_rfl
theorem k_ag_38 : aggB Try.prog 38 = true := by kernel_rfl
theorem k_sz_38_4 : sizeB Try.prog 38 4 = true := by kernel_rfl
theorem k_fd_38_2_2_33 : fieldB Try.prog 38 2 2 33 = true := by kernel_rfl
theorem k_sz_33_1 : sizeB Try.prog 33 1 = true := by kernel_rfl
theorem k_sc_33 : scalB Try.prog 33 = true := by kernel_rfl
theorem k_sl_33_167 : sliceB Try.prog 33 167 = true := by kernel_rfl
theorem k_call_70 : callB Try.prog 70 = true := by kernel_rfl
theorem k_fd_38_3_3_36 : fieldB Try.prog 38 3 3 36 = true := by kernel_rfl
theorem k_sz_36_1 : sizeB Try.prog 36 1 = true := by kernel_rfl
theorem k_ag_36 : aggB Try.prog 36 = true := by kernel_rfl
theorem k_fd_36_0_0_34 : fieldB Try.prog 36 0 0 34 = true := by kernel_rfl
theorem k_sz_34_1 : sizeB Try.prog 34 1 = true := by kernel_rfl
theorem k_sc_34 : scalB Try.prog 34 = true := by kernel_rfl
theorem k_call_139 : callB Try.prog 139 = true := by kernel_rfl
theorem k_call_71 : callB Try.prog 71 = true := by kernel_rfl
theorem k_call_20 : callB Try.prog 20 = true := by kernel_rfl
theorem k_zero_45 : (Try.prog.info? 45).map (·.zero) = some (some (.agg #[.int .i64 0, .int .i64 0, .slice none 0 0, .slice none 0 0])) := by kernel_rfl
theorem k_fd_38_0_0_3 : fieldB Try.prog 38 0 0 3 = true := by kernel_rfl
theorem k_fd_45_0_0_3 : fieldB Try.prog 45 0 0 3 = true := by kernel_rfl
theorem k_fd_38_1_1_3 : fieldB Try.prog 38 1 1 3 = true := by kernel_rfl
theorem k_fd_45_1_1_3 : fieldB Try.prog 45 1 1 3 = true := by kernel_rfl
theorem k_sl_40_112 : sliceB Try.prog 40 112 = true := by kernel_rfl
theorem k_sz_112_2 : sizeB Try.prog 112 2 = true := by kernel_rfl
theorem k_by_112_16 : bytesB Try.prog 112 16 = true := by kernel_rfl
theorem k_zero_112 : (Try.prog.info? 112).map (·.zero) = some (some (.agg #[.int .i64 0, .int .i64 0])) := by kernel_rfl
theorem k_sz_167_2 : sizeB Try.prog 167 2 = true := by kernel_rfl
theorem k_ag_167 : aggB Try.prog 167 = true := by kernel_rfl
theorem k_fd_167_0_0_3 : fieldB Try.prog 167 0 0 3 = true := by kernel_rfl
theorem k_fd_112_0_0_3 : fieldB Try.prog 112 0 0 3 = true := by kernel_rfl
theorem k_fd_167_1_1_3 : fieldB Try.prog 167 1 1 3 = true := by kernel_rfl
theorem k_fd_112_1_1_3 : fieldB Try.prog 112 1 1 3 = true := by kernel_rfl
theorem k_ag_112 : aggB Try.prog 112 = true := by kernel_rfl
theorem k_call_143 : callB Try.prog 143 = true := by kernel_rfl
theorem k_call_74 : callB Try.prog 74 = true := by kernel_rfl
theorem k_fd_45_2_2_40 : fieldB Try.prog 45 2 2 40 = true := by kernel_rfl
theorem k_sz_40_1 : sizeB Try.prog 40 1 = true := by kernel_rfl
theorem k_zero_43 : (Try.prog.info? 43).map (·.zero) = some (some (.agg #[.slice none 0 0])) := by kernel_rfl
theorem k_by_3_8 : bytesB Try.prog 3 8 = true := by kernel_rfl
theorem k_zero_3 : (Try.prog.info? 3).map (·.zero) = some (some (.int .i64 0)) := by kernel_rfl
theorem k_call_144 : callB Try.prog 144 = true := by kernel_rfl
theorem k_fd_43_0_0_34 : fieldB Try.prog 43 0 0 34 = true := by kernel_rfl
theorem k_ag_43 : aggB Try.prog 43 = true := by kernel_rfl
theorem k_sz_43_1 : sizeB Try.prog 43 1 = true := by kernel_rfl
theorem k_call_75 : callB Try.prog 75 = true := by kernel_rfl
theorem k_fd_45_3_3_43 : fieldB Try.prog 45 3 3 43 = true := by kernel_rfl
theorem k_ag_45 : aggB Try.prog 45 = true := by kernel_rfl
theorem k_sz_45_4 : sizeB Try.prog 45 4 = true := by kernel_rfl
theorem k_call_22 : callB Try.prog 22 = true := by kernel_rfl
theorem k_us_3 : (Try.prog.underlying 3).isSome = true := by kernel_rfl
theorem k_int_148_u64 : intB Try.prog 148 .u64 = true := by kernel_rfl
theorem k_call_204 : callB Try.prog 204 = true := by kernel_rfl
theorem k_call_192 : callB Try.prog 192 = true := by kernel_rfl
theorem k_call_141 : callB Try.prog 141 = true := by kernel_rfl
theorem k_sc_40 : scalB Try.prog 40 = true := by kernel_rfl
theorem k_call_72 : callB Try.prog 72 = true := by kernel_rfl
theorem k_call_142 : callB Try.prog 142 = true := by kernel_rfl
theorem k_pl_112 : placesB Try.prog 112 [(0, 1), (1, 1)] = true := by kernel_rfl
theorem k_zc_112 : (Try.prog.info? 112).map (fun i => i.zero.map (fun z => z.cells.toList)) = some (some [.int .i64 0, .int .i64 0]) := by kernel_rfl
theorem k_call_89 : callB Try.prog 89 = true := by kernel_rfl
theorem k_call_73 : callB Try.prog 73 = true := by kernel_rfl
theorem k_call_146 : callB Try.prog 146 = true := by kernel_rfl
theorem k_call_209 : callB Try.prog 209 = true := by kernel_rfl
theorem k_call_194 : callB Try.prog 194 = true := by kernel_rfl
theorem k_call_205 : callB Try.prog 205 = true := by kernel_rfl
theorem k_call_210 : callB Try.prog 210 = true := by kernel_rfl
theorem k_call_211 : callB Try.prog 211 = true := by kernel_rfl
theorem k_call_193 : callB Try.prog 193 = true := by kernel_rfl
theorem k_call_195 : callB Try.prog 195 = true := by kernel_rfl
theorem k_call_147 : callB Try.prog 147 = true := by kernel_rfl
theorem k_call_76 : callB Try.prog 76 = true := by kernel_rfl
theorem k_zero_108 : (Try.prog.info? 108).map (·.zero) = some (some (.agg #[.int .i64 0, .int .i64 0, .int .i64 0, .int .i64 0, .int .i64 0, .int .i64 0, .int .i64 0, .int .i64 0, .int .i64 0, .int .i64 0, .int .i64 0, .int .i64 0, .int .i64 0, .int .i64 0, .int .i64 0, .int .i64 0, .int .i64 0, .int .i64 0, .int .i64 0, .int .i64 0, .int .i64 0, .int .i64 0, .int .i64 0, .int .i64 0, .int .i64 0, .int .i64 0, .int .i64 0, .int .i64 0, .int .i64 0, .int .i64 0, .int .i64 0, .int .i64 0])) := by kernel_rfl
theorem k_ar_108_32_3 : arrB Try.prog 108 32 3 = true := by kernel_rfl
theorem k_sz_108_32 : sizeB Try.prog 108 32 = true := by kernel_rfl
theorem k_us_206 : (Try.prog.underlying 206).isSome = true := by kernel_rfl
theorem k_call_197 : callB Try.prog 197 = true := by kernel_rfl
theorem k_call_148 : callB Try.prog 148 = true := by kernel_rfl
theorem k_call_77 : callB Try.prog 77 = true := by kernel_rfl
theorem k_zero_110 : (Try.prog.info? 110).map (·.zero) = some (some (.agg #[.int .i64 0, .int .i64 0, .int .i64 0, .int .i64 0])) := by kernel_rfl
theorem k_ar_110_4_3 : arrB Try.prog 110 4 3 = true := by kernel_rfl
theorem k_call_78 : callB Try.prog 78 = true := by kernel_rfl
theorem k_ag_108 : aggB Try.prog 108 = true := by kernel_rfl
theorem k_call_79 : callB Try.prog 79 = true := by kernel_rfl
theorem k_call_23 : callB Try.prog 23 = true := by kernel_rfl
theorem k_call_80 : callB Try.prog 80 = true := by kernel_rfl
theorem k_call_24 : callB Try.prog 24 = true := by kernel_rfl
theorem k_call_149 : callB Try.prog 149 = true := by kernel_rfl
theorem k_call_81 : callB Try.prog 81 = true := by kernel_rfl
theorem k_call_25 : callB Try.prog 25 = true := by kernel_rfl
theorem k_st_112 : structB Try.prog 112 [(3, 0), (3, 1)] = true := by kernel_rfl
theorem k_ho_112 : Try.prog.stoodInHeld 112 = false := by kernel_rfl
theorem k_eg_112 : Try.prog.eqGuardType Try.prog.depth 112 = false := by kernel_rfl
theorem k_call_83 : callB Try.prog 83 = true := by kernel_rfl
theorem k_call_84 : callB Try.prog 84 = true := by kernel_rfl
theorem k_call_29 : callB Try.prog 29 = true := by kernel_rfl
theorem k_call_85 : callB Try.prog 85 = true := by kernel_rfl
theorem k_call_86 : callB Try.prog 86 = true := by kernel_rfl
theorem k_call_30 : callB Try.prog 30 = true := by kernel_rfl
theorem k_sz_58_3 : sizeB Try.prog 58 3 = true := by kernel_rfl
theorem k_fd_58_2_2_22 : fieldB Try.prog 58 2 2 22 = true := by kernel_rfl
theorem k_fd_58_0_0_3 : fieldB Try.prog 58 0 0 3 = true := by kernel_rfl
theorem k_fd_58_1_1_3 : fieldB Try.prog 58 1 1 3 = true := by kernel_rfl
theorem k_sz_69_3 : sizeB Try.prog 69 3 = true := by kernel_rfl
theorem k_fd_69_0_0_3 : fieldB Try.prog 69 0 0 3 = true := by kernel_rfl
theorem k_fd_69_1_1_3 : fieldB Try.prog 69 1 1 3 = true := by kernel_rfl
theorem k_fd_69_2_2_3 : fieldB Try.prog 69 2 2 3 = true := by kernel_rfl
end Go.VK
