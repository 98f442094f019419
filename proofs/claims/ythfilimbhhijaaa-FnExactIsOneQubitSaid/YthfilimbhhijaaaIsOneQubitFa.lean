/- Closed facts on the types. -/
import Derived.Test.YthfilimbhhijaaaIsOneQubitFn
import Derived.Test.YthfilimbhhijaaaChecked
namespace Go.VK
open Go.RowKit
open Go.Proofs
theorem k_sz_24_1 : sizeB Try.prog 24 1 = true := by kernel_rfl
theorem k_fd_24_0_0_22 : fieldB Try.prog 24 0 0 22 = true := by kernel_rfl
theorem k_sz_22_1 : sizeB Try.prog 22 1 = true := by kernel_rfl
theorem k_sc_22 : scalB Try.prog 22 = true := by kernel_rfl
theorem k_sl_22_158 : sliceB Try.prog 22 158 = true := by kernel_rfl
theorem k_call_58 : callB Try.prog 58 = true := by kernel_rfl
theorem k_sl_27_91 : sliceB Try.prog 27 91 = true := by kernel_rfl
theorem k_sz_91_5 : sizeB Try.prog 91 5 = true := by kernel_rfl
theorem k_by_91_40 : bytesB Try.prog 91 40 = true := by kernel_rfl
theorem k_zero_91 : (Try.prog.info? 91).map (·.zero) = some (some (.agg #[.int .i64 0, .int .i64 0, .int .i64 0, .int .i64 0, .int .i64 0])) := by kernel_rfl
theorem k_sz_158_5 : sizeB Try.prog 158 5 = true := by kernel_rfl
theorem k_ag_158 : aggB Try.prog 158 = true := by kernel_rfl
theorem k_fd_158_0_0_156 : fieldB Try.prog 158 0 0 156 = true := by kernel_rfl
theorem k_sz_156_4 : sizeB Try.prog 156 4 = true := by kernel_rfl
theorem k_ag_156 : aggB Try.prog 156 = true := by kernel_rfl
theorem k_zero_89 : (Try.prog.info? 89).map (·.zero) = some (some (.agg #[.int .i64 0, .int .i64 0, .int .i64 0, .int .i64 0])) := by kernel_rfl
theorem k_fd_156_0_0_3 : fieldB Try.prog 156 0 0 3 = true := by kernel_rfl
theorem k_sz_3_1 : sizeB Try.prog 3 1 = true := by kernel_rfl
theorem k_sc_3 : scalB Try.prog 3 = true := by kernel_rfl
theorem k_fd_89_0_0_3 : fieldB Try.prog 89 0 0 3 = true := by kernel_rfl
theorem k_fd_156_1_1_3 : fieldB Try.prog 156 1 1 3 = true := by kernel_rfl
theorem k_fd_89_1_1_3 : fieldB Try.prog 89 1 1 3 = true := by kernel_rfl
theorem k_fd_156_2_2_3 : fieldB Try.prog 156 2 2 3 = true := by kernel_rfl
theorem k_fd_89_2_2_3 : fieldB Try.prog 89 2 2 3 = true := by kernel_rfl
theorem k_fd_156_3_3_3 : fieldB Try.prog 156 3 3 3 = true := by kernel_rfl
theorem k_fd_89_3_3_3 : fieldB Try.prog 89 3 3 3 = true := by kernel_rfl
theorem k_ag_89 : aggB Try.prog 89 = true := by kernel_rfl
theorem k_sz_89_4 : sizeB Try.prog 89 4 = true := by kernel_rfl
theorem k_call_184 : callB Try.prog 184 = true := by kernel_rfl
theorem k_fd_91_0_0_89 : fieldB Try.prog 91 0 0 89 = true := by kernel_rfl
theorem k_fd_158_1_4_3 : fieldB Try.prog 158 1 4 3 = true := by kernel_rfl
theorem k_fd_91_1_4_3 : fieldB Try.prog 91 1 4 3 = true := by kernel_rfl
theorem k_ag_91 : aggB Try.prog 91 = true := by kernel_rfl
theorem k_call_132 : callB Try.prog 132 = true := by kernel_rfl
theorem k_call_60 : callB Try.prog 60 = true := by kernel_rfl
theorem k_sz_27_1 : sizeB Try.prog 27 1 = true := by kernel_rfl
theorem k_sc_27 : scalB Try.prog 27 = true := by kernel_rfl
theorem k_sl_34_3 : sliceB Try.prog 34 3 = true := by kernel_rfl
theorem k_zc_3 : (Try.prog.info? 3).map (fun i => i.zero.map (fun z => z.cells.toList)) = some (some [.int .i64 0]) := by kernel_rfl
theorem k_call_140 : callB Try.prog 140 = true := by kernel_rfl
theorem k_call_191 : callB Try.prog 191 = true := by kernel_rfl
theorem k_call_175 : callB Try.prog 175 = true := by kernel_rfl
theorem k_call_176 : callB Try.prog 176 = true := by kernel_rfl
theorem k_call_124 : callB Try.prog 124 = true := by kernel_rfl
theorem k_zero_126 : (Try.prog.info? 126).map (·.zero) = some (some (.agg #[.bool false])) := by kernel_rfl
theorem k_pl_126 : placesB Try.prog 126 [(0, 1)] = true := by kernel_rfl
theorem k_zc_91 : (Try.prog.info? 91).map (fun i => i.zero.map (fun z => z.cells.toList)) = some (some [.int .i64 0, .int .i64 0, .int .i64 0, .int .i64 0, .int .i64 0]) := by kernel_rfl
theorem k_pl_91 : placesB Try.prog 91 [(0, 4), (4, 1)] = true := by kernel_rfl
theorem k_fd_126_0_0_4 : fieldB Try.prog 126 0 0 4 = true := by kernel_rfl
theorem k_sz_4_1 : sizeB Try.prog 4 1 = true := by kernel_rfl
theorem k_pl_89 : placesB Try.prog 89 [(0, 1), (1, 1), (2, 1), (3, 1)] = true := by kernel_rfl
theorem k_call_180 : callB Try.prog 180 = true := by kernel_rfl
theorem k_call_207 : callB Try.prog 207 = true := by kernel_rfl
theorem k_call_179 : callB Try.prog 179 = true := by kernel_rfl
theorem k_call_178 : callB Try.prog 178 = true := by kernel_rfl
theorem k_call_177 : callB Try.prog 177 = true := by kernel_rfl
theorem k_call_181 : callB Try.prog 181 = true := by kernel_rfl
theorem k_call_125 : callB Try.prog 125 = true := by kernel_rfl
theorem k_call_127 : callB Try.prog 127 = true := by kernel_rfl
theorem k_sc_4 : scalB Try.prog 4 = true := by kernel_rfl
theorem k_call_183 : callB Try.prog 183 = true := by kernel_rfl
theorem k_call_131 : callB Try.prog 131 = true := by kernel_rfl
theorem k_st_91 : structB Try.prog 91 [(89, 0), (3, 4)] = true := by kernel_rfl
theorem k_ho_91 : Try.prog.stoodInHeld 91 = false := by kernel_rfl
theorem k_int_3_i64 : intB Try.prog 3 .i64 = true := by kernel_rfl
theorem k_st_89 : structB Try.prog 89 [(3, 0), (3, 1), (3, 2), (3, 3)] = true := by kernel_rfl
theorem k_ho_89 : Try.prog.stoodInHeld 89 = false := by kernel_rfl
theorem k_eg_91 : Try.prog.eqGuardType Try.prog.depth 91 = false := by kernel_rfl
theorem k_call_133 : callB Try.prog 133 = true := by kernel_rfl
theorem k_call_145 : callB Try.prog 145 = true := by kernel_rfl
theorem k_call_208 : callB Try.prog 208 = true := by kernel_rfl
theorem k_call_185 : callB Try.prog 185 = true := by kernel_rfl
theorem k_call_186 : callB Try.prog 186 = true := by kernel_rfl
theorem k_call_134 : callB Try.prog 134 = true := by kernel_rfl
theorem k_call_61 : callB Try.prog 61 = true := by kernel_rfl
theorem k_sl_214_89 : sliceB Try.prog 214 89 = true := by kernel_rfl
theorem k_zc_89 : (Try.prog.info? 89).map (fun i => i.zero.map (fun z => z.cells.toList)) = some (some [.int .i64 0, .int .i64 0, .int .i64 0, .int .i64 0]) := by kernel_rfl
theorem k_by_89_32 : bytesB Try.prog 89 32 = true := by kernel_rfl
theorem k_call_202 : callB Try.prog 202 = true := by kernel_rfl
theorem k_call_166 : callB Try.prog 166 = true := by kernel_rfl
theorem k_call_203 : callB Try.prog 203 = true := by kernel_rfl
theorem k_call_167 : callB Try.prog 167 = true := by kernel_rfl
theorem k_call_112 : callB Try.prog 112 = true := by kernel_rfl
theorem k_call_169 : callB Try.prog 169 = true := by kernel_rfl
theorem k_call_119 : callB Try.prog 119 = true := by kernel_rfl
theorem k_call_188 : callB Try.prog 188 = true := by kernel_rfl
theorem k_call_187 : callB Try.prog 187 = true := by kernel_rfl
theorem k_call_135 : callB Try.prog 135 = true := by kernel_rfl
theorem k_call_67 : callB Try.prog 67 = true := by kernel_rfl
theorem k_und_4 : Try.prog.underlying 4 = some .bool := by kernel_rfl
theorem k_call_190 : callB Try.prog 190 = true := by kernel_rfl
theorem k_call_138 : callB Try.prog 138 = true := by kernel_rfl
theorem k_call_69 : callB Try.prog 69 = true := by kernel_rfl
theorem k_ag_58 : aggB Try.prog 58 = true := by kernel_rfl
theorem k_sz_58_3 : sizeB Try.prog 58 3 = true := by kernel_rfl
theorem k_fd_58_2_2_22 : fieldB Try.prog 58 2 2 22 = true := by kernel_rfl
theorem k_call_34 : callB Try.prog 34 = true := by kernel_rfl
theorem k_zero_62 : (Try.prog.info? 62).map (·.zero) = some (some (.agg #[.int .i64 0, .int .i64 0, .slice none 0 0])) := by kernel_rfl
theorem k_fd_58_0_0_3 : fieldB Try.prog 58 0 0 3 = true := by kernel_rfl
theorem k_fd_62_0_0_3 : fieldB Try.prog 62 0 0 3 = true := by kernel_rfl
theorem k_fd_58_1_1_3 : fieldB Try.prog 58 1 1 3 = true := by kernel_rfl
theorem k_fd_62_1_1_3 : fieldB Try.prog 62 1 1 3 = true := by kernel_rfl
theorem k_fd_62_2_2_27 : fieldB Try.prog 62 2 2 27 = true := by kernel_rfl
theorem k_ag_62 : aggB Try.prog 62 = true := by kernel_rfl
theorem k_sz_62_3 : sizeB Try.prog 62 3 = true := by kernel_rfl
theorem k_call_36 : callB Try.prog 36 = true := by kernel_rfl
theorem k_call_198 : callB Try.prog 198 = true := by kernel_rfl
theorem k_call_152 : callB Try.prog 152 = true := by kernel_rfl
theorem k_call_94 : callB Try.prog 94 = true := by kernel_rfl
theorem k_pl_62 : placesB Try.prog 62 [(0, 1), (1, 1), (2, 1)] = true := by kernel_rfl
theorem k_call_199 : callB Try.prog 199 = true := by kernel_rfl
theorem k_call_153 : callB Try.prog 153 = true := by kernel_rfl
theorem k_call_96 : callB Try.prog 96 = true := by kernel_rfl
theorem k_call_95 : callB Try.prog 95 = true := by kernel_rfl
theorem k_call_98 : callB Try.prog 98 = true := by kernel_rfl
theorem k_call_97 : callB Try.prog 97 = true := by kernel_rfl
theorem k_call_35 : callB Try.prog 35 = true := by kernel_rfl
theorem k_call_154 : callB Try.prog 154 = true := by kernel_rfl
theorem k_call_155 : callB Try.prog 155 = true := by kernel_rfl
theorem k_call_99 : callB Try.prog 99 = true := by kernel_rfl
theorem k_call_158 : callB Try.prog 158 = true := by kernel_rfl
theorem k_call_200 : callB Try.prog 200 = true := by kernel_rfl
theorem k_call_157 : callB Try.prog 157 = true := by kernel_rfl
theorem k_call_156 : callB Try.prog 156 = true := by kernel_rfl
theorem k_call_109 : callB Try.prog 109 = true := by kernel_rfl
theorem k_call_100 : callB Try.prog 100 = true := by kernel_rfl
theorem k_call_159 : callB Try.prog 159 = true := by kernel_rfl
theorem k_call_101 : callB Try.prog 101 = true := by kernel_rfl
theorem k_call_160 : callB Try.prog 160 = true := by kernel_rfl
theorem k_call_102 : callB Try.prog 102 = true := by kernel_rfl
theorem k_call_161 : callB Try.prog 161 = true := by kernel_rfl
theorem k_call_103 : callB Try.prog 103 = true := by kernel_rfl
theorem k_call_37 : callB Try.prog 37 = true := by kernel_rfl
theorem k_call_38 : callB Try.prog 38 = true := by kernel_rfl
theorem k_call_118 : callB Try.prog 118 = true := by kernel_rfl
theorem k_call_46 : callB Try.prog 46 = true := by kernel_rfl
theorem k_call_47 : callB Try.prog 47 = true := by kernel_rfl
end Go.VK
