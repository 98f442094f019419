/- Closed facts on the types. -/
import Derived.Test.YtchihdcajdocgaaLMatricesFn
import Derived.Test.YtchihdcajdocgaaChecked
namespace Go.VK
open Go.RowKit
open Go.Proofs
theorem k_sz_23_3 : sizeB Try.prog 23 3 = true := by kernel_rfl
theorem k_fd_23_0_0_3 : fieldB Try.prog 23 0 0 3 = true := by kernel_rfl
theorem k_sz_3_1 : sizeB Try.prog 3 1 = true := by kernel_rfl
theorem k_sc_3 : scalB Try.prog 3 = true := by kernel_rfl
theorem k_fd_23_1_1_3 : fieldB Try.prog 23 1 1 3 = true := by kernel_rfl
theorem k_fd_23_2_2_3 : fieldB Try.prog 23 2 2 3 = true := by kernel_rfl
theorem k_zero_26 : (Try.prog.info? 26).map (·.zero) = some (some (.agg #[.int .i64 0, .int .i64 0, .slice none 0 0])) := by kernel_rfl
theorem k_call_96 : callB Try.prog 96 = true := by kernel_rfl
theorem k_us_3 : (Try.prog.underlying 3).isSome = true := by kernel_rfl
theorem k_pl_26 : placesB Try.prog 26 [(0, 1), (1, 1), (2, 1)] = true := by kernel_rfl
theorem k_sz_26_3 : sizeB Try.prog 26 3 = true := by kernel_rfl
theorem k_ag_26 : aggB Try.prog 26 = true := by kernel_rfl
theorem k_sl_48_3 : sliceB Try.prog 48 3 = true := by kernel_rfl
theorem k_zc_3 : (Try.prog.info? 3).map (fun i => i.zero.map (fun z => z.cells.toList)) = some (some [.int .i64 0]) := by kernel_rfl
theorem k_zero_96 : (Try.prog.info? 96).map (·.zero) = some (some (.agg #[.bool false])) := by kernel_rfl
theorem k_pl_96 : placesB Try.prog 96 [(0, 1)] = true := by kernel_rfl
theorem k_sl_24_44 : sliceB Try.prog 24 44 = true := by kernel_rfl
theorem k_sz_44_5 : sizeB Try.prog 44 5 = true := by kernel_rfl
theorem k_by_44_40 : bytesB Try.prog 44 40 = true := by kernel_rfl
theorem k_zero_44 : (Try.prog.info? 44).map (·.zero) = some (some (.agg #[.int .i64 0, .int .i64 0, .int .i64 0, .int .i64 0, .int .i64 0])) := by kernel_rfl
theorem k_fd_26_2_2_24 : fieldB Try.prog 26 2 2 24 = true := by kernel_rfl
theorem k_sz_24_1 : sizeB Try.prog 24 1 = true := by kernel_rfl
theorem k_sc_24 : scalB Try.prog 24 = true := by kernel_rfl
theorem k_zero_42 : (Try.prog.info? 42).map (·.zero) = some (some (.agg #[.int .i64 0, .int .i64 0, .int .i64 0, .int .i64 0])) := by kernel_rfl
theorem k_pl_42 : placesB Try.prog 42 [(0, 1), (1, 1), (2, 1), (3, 1)] = true := by kernel_rfl
theorem k_fd_42_3_3_3 : fieldB Try.prog 42 3 3 3 = true := by kernel_rfl
theorem k_fd_42_0_0_3 : fieldB Try.prog 42 0 0 3 = true := by kernel_rfl
theorem k_fd_42_1_1_3 : fieldB Try.prog 42 1 1 3 = true := by kernel_rfl
theorem k_fd_42_2_2_3 : fieldB Try.prog 42 2 2 3 = true := by kernel_rfl
theorem k_sz_42_4 : sizeB Try.prog 42 4 = true := by kernel_rfl
theorem k_ag_42 : aggB Try.prog 42 = true := by kernel_rfl
theorem k_call_170 : callB Try.prog 170 = true := by kernel_rfl
theorem k_pl_44 : placesB Try.prog 44 [(0, 4), (4, 1)] = true := by kernel_rfl
theorem k_ag_44 : aggB Try.prog 44 = true := by kernel_rfl
theorem k_call_143 : callB Try.prog 143 = true := by kernel_rfl
theorem k_fd_96_0_0_4 : fieldB Try.prog 96 0 0 4 = true := by kernel_rfl
theorem k_sz_4_1 : sizeB Try.prog 4 1 = true := by kernel_rfl
theorem k_sc_4 : scalB Try.prog 4 = true := by kernel_rfl
theorem k_fd_44_0_0_42 : fieldB Try.prog 44 0 0 42 = true := by kernel_rfl
theorem k_fd_44_1_4_3 : fieldB Try.prog 44 1 4 3 = true := by kernel_rfl
theorem k_zc_44 : (Try.prog.info? 44).map (fun i => i.zero.map (fun z => z.cells.toList)) = some (some [.int .i64 0, .int .i64 0, .int .i64 0, .int .i64 0, .int .i64 0]) := by kernel_rfl
theorem k_fd_26_0_0_3 : fieldB Try.prog 26 0 0 3 = true := by kernel_rfl
theorem k_fd_26_1_1_3 : fieldB Try.prog 26 1 1 3 = true := by kernel_rfl
theorem k_call_154 : callB Try.prog 154 = true := by kernel_rfl
theorem k_call_142 : callB Try.prog 142 = true := by kernel_rfl
theorem k_call_147 : callB Try.prog 147 = true := by kernel_rfl
theorem k_call_149 : callB Try.prog 149 = true := by kernel_rfl
theorem k_call_168 : callB Try.prog 168 = true := by kernel_rfl
theorem k_call_151 : callB Try.prog 151 = true := by kernel_rfl
theorem k_call_148 : callB Try.prog 148 = true := by kernel_rfl
theorem k_call_139 : callB Try.prog 139 = true := by kernel_rfl
theorem k_call_150 : callB Try.prog 150 = true := by kernel_rfl
theorem k_call_117 : callB Try.prog 117 = true := by kernel_rfl
theorem k_call_116 : callB Try.prog 116 = true := by kernel_rfl
theorem k_call_63 : callB Try.prog 63 = true := by kernel_rfl
theorem k_call_109 : callB Try.prog 109 = true := by kernel_rfl
theorem k_call_82 : callB Try.prog 82 = true := by kernel_rfl
theorem k_call_99 : callB Try.prog 99 = true := by kernel_rfl
theorem k_call_167 : callB Try.prog 167 = true := by kernel_rfl
theorem k_call_134 : callB Try.prog 134 = true := by kernel_rfl
theorem k_int_5_u8 : intB Try.prog 5 .u8 = true := by kernel_rfl
theorem k_call_67 : callB Try.prog 67 = true := by kernel_rfl
theorem k_int_3_i64 : intB Try.prog 3 .i64 = true := by kernel_rfl
theorem k_sl_171_42 : sliceB Try.prog 171 42 = true := by kernel_rfl
theorem k_zc_42 : (Try.prog.info? 42).map (fun i => i.zero.map (fun z => z.cells.toList)) = some (some [.int .i64 0, .int .i64 0, .int .i64 0, .int .i64 0]) := by kernel_rfl
theorem k_by_42_32 : bytesB Try.prog 42 32 = true := by kernel_rfl
theorem k_call_135 : callB Try.prog 135 = true := by kernel_rfl
theorem k_call_101 : callB Try.prog 101 = true := by kernel_rfl
theorem k_call_136 : callB Try.prog 136 = true := by kernel_rfl
theorem k_call_102 : callB Try.prog 102 = true := by kernel_rfl
theorem k_call_137 : callB Try.prog 137 = true := by kernel_rfl
theorem k_call_103 : callB Try.prog 103 = true := by kernel_rfl
theorem k_call_46 : callB Try.prog 46 = true := by kernel_rfl
theorem k_call_43 : callB Try.prog 43 = true := by kernel_rfl
theorem k_und_4 : Try.prog.underlying 4 = some .bool := by kernel_rfl
theorem k_sl_34_5 : sliceB Try.prog 34 5 = true := by kernel_rfl
theorem k_call_13 : callB Try.prog 13 = true := by kernel_rfl
theorem k_zero_87 : (Try.prog.info? 87).map (·.zero) = some (some (.agg #[.slice none 0 0, .int .i64 0, .int .u64 0])) := by kernel_rfl
theorem k_pl_87 : placesB Try.prog 87 [(0, 1), (1, 1), (2, 1)] = true := by kernel_rfl
theorem k_fd_87_1_1_3 : fieldB Try.prog 87 1 1 3 = true := by kernel_rfl
theorem k_fd_87_0_0_34 : fieldB Try.prog 87 0 0 34 = true := by kernel_rfl
theorem k_sz_34_1 : sizeB Try.prog 34 1 = true := by kernel_rfl
theorem k_sc_34 : scalB Try.prog 34 = true := by kernel_rfl
theorem k_sz_5_1 : sizeB Try.prog 5 1 = true := by kernel_rfl
theorem k_sc_5 : scalB Try.prog 5 = true := by kernel_rfl
theorem k_us_5 : (Try.prog.underlying 5).isSome = true := by kernel_rfl
theorem k_fd_87_2_2_85 : fieldB Try.prog 87 2 2 85 = true := by kernel_rfl
theorem k_sz_85_1 : sizeB Try.prog 85 1 = true := by kernel_rfl
theorem k_sc_85 : scalB Try.prog 85 = true := by kernel_rfl
theorem k_int_85_u64 : intB Try.prog 85 .u64 = true := by kernel_rfl
theorem k_us_85 : (Try.prog.underlying 85).isSome = true := by kernel_rfl
theorem k_call_119 : callB Try.prog 119 = true := by kernel_rfl
theorem k_call_69 : callB Try.prog 69 = true := by kernel_rfl
theorem k_call_53 : callB Try.prog 53 = true := by kernel_rfl
theorem k_call_140 : callB Try.prog 140 = true := by kernel_rfl
theorem k_call_107 : callB Try.prog 107 = true := by kernel_rfl
theorem k_call_54 : callB Try.prog 54 = true := by kernel_rfl
theorem k_call_55 : callB Try.prog 55 = true := by kernel_rfl
theorem k_call_169 : callB Try.prog 169 = true := by kernel_rfl
theorem k_call_141 : callB Try.prog 141 = true := by kernel_rfl
theorem k_call_108 : callB Try.prog 108 = true := by kernel_rfl
theorem k_call_56 : callB Try.prog 56 = true := by kernel_rfl
theorem k_call_14 : callB Try.prog 14 = true := by kernel_rfl
theorem k_call_144 : callB Try.prog 144 = true := by kernel_rfl
theorem k_call_111 : callB Try.prog 111 = true := by kernel_rfl
theorem k_call_110 : callB Try.prog 110 = true := by kernel_rfl
theorem k_call_57 : callB Try.prog 57 = true := by kernel_rfl
theorem k_call_59 : callB Try.prog 59 = true := by kernel_rfl
theorem k_call_171 : callB Try.prog 171 = true := by kernel_rfl
theorem k_call_145 : callB Try.prog 145 = true := by kernel_rfl
theorem k_call_113 : callB Try.prog 113 = true := by kernel_rfl
theorem k_call_112 : callB Try.prog 112 = true := by kernel_rfl
theorem k_call_60 : callB Try.prog 60 = true := by kernel_rfl
theorem k_call_58 : callB Try.prog 58 = true := by kernel_rfl
theorem k_call_15 : callB Try.prog 15 = true := by kernel_rfl
theorem k_call_146 : callB Try.prog 146 = true := by kernel_rfl
theorem k_call_114 : callB Try.prog 114 = true := by kernel_rfl
theorem k_call_115 : callB Try.prog 115 = true := by kernel_rfl
theorem k_call_61 : callB Try.prog 61 = true := by kernel_rfl
theorem k_call_62 : callB Try.prog 62 = true := by kernel_rfl
theorem k_call_16 : callB Try.prog 16 = true := by kernel_rfl
theorem k_st_44 : structB Try.prog 44 [(42, 0), (3, 4)] = true := by kernel_rfl
theorem k_ho_44 : Try.prog.stoodInHeld 44 = false := by kernel_rfl
theorem k_st_42 : structB Try.prog 42 [(3, 0), (3, 1), (3, 2), (3, 3)] = true := by kernel_rfl
theorem k_ho_42 : Try.prog.stoodInHeld 42 = false := by kernel_rfl
theorem k_eg_44 : Try.prog.eqGuardType Try.prog.depth 44 = false := by kernel_rfl
theorem k_call_17 : callB Try.prog 17 = true := by kernel_rfl
theorem k_call_118 : callB Try.prog 118 = true := by kernel_rfl
theorem k_call_65 : callB Try.prog 65 = true := by kernel_rfl
theorem k_call_64 : callB Try.prog 64 = true := by kernel_rfl
theorem k_call_18 : callB Try.prog 18 = true := by kernel_rfl
theorem k_call_66 : callB Try.prog 66 = true := by kernel_rfl
theorem k_call_19 : callB Try.prog 19 = true := by kernel_rfl
theorem k_call_20 : callB Try.prog 20 = true := by kernel_rfl
theorem k_call_21 : callB Try.prog 21 = true := by kernel_rfl
theorem k_call_68 : callB Try.prog 68 = true := by kernel_rfl
theorem k_call_22 : callB Try.prog 22 = true := by kernel_rfl
end Go.VK
