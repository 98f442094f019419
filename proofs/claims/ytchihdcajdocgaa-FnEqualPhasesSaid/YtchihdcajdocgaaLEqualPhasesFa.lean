/- Closed facts on the types. -/
import Derived.Test.YtchihdcajdocgaaLEqualPhasesFn
import Derived.Test.YtchihdcajdocgaaChecked
namespace Go.VK
open Go.RowKit
open Go.Proofs
theorem k_sz_23_3 : sizeB Try.prog 23 3 = true := by kernel_rfl
theorem k_fd_23_0_0_3 : fieldB Try.prog 23 0 0 3 = true := by kernel_rfl
theorem k_sz_3_1 : sizeB Try.prog 3 1 = true := by kernel_rfl
theorem k_sc_3 : scalB Try.prog 3 = true := by kernel_rfl
theorem k_fd_23_1_1_3 : fieldB Try.prog 23 1 1 3 = true := by kernel_rfl
theorem k_fd_23_2_2_3 : fieldB Try.prog 23 2 2 3 = true := by kernel_rfl
theorem k_call_96 : callB Try.prog 96 = true := by kernel_rfl
theorem k_us_3 : (Try.prog.underlying 3).isSome = true := by kernel_rfl
theorem k_int_63_u64 : intB Try.prog 63 .u64 = true := by kernel_rfl
theorem k_sl_48_3 : sliceB Try.prog 48 3 = true := by kernel_rfl
theorem k_zc_3 : (Try.prog.info? 3).map (fun i => i.zero.map (fun z => z.cells.toList)) = some (some [.int .i64 0]) := by kernel_rfl
theorem k_call_154 : callB Try.prog 154 = true := by kernel_rfl
theorem k_call_82 : callB Try.prog 82 = true := by kernel_rfl
theorem k_int_5_u8 : intB Try.prog 5 .u8 = true := by kernel_rfl
theorem k_zero_3 : (Try.prog.info? 3).map (·.zero) = some (some (.int .i64 0)) := by kernel_rfl
theorem k_int_3_i64 : intB Try.prog 3 .i64 = true := by kernel_rfl
theorem k_und_4 : Try.prog.underlying 4 = some .bool := by kernel_rfl
theorem k_sl_34_5 : sliceB Try.prog 34 5 = true := by kernel_rfl
theorem k_zero_87 : (Try.prog.info? 87).map (·.zero) = some (some (.agg #[.slice none 0 0, .int .i64 0, .int .u64 0])) := by kernel_rfl
theorem k_pl_87 : placesB Try.prog 87 [(0, 1), (1, 1), (2, 1)] = true := by kernel_rfl
theorem k_fd_87_1_1_3 : fieldB Try.prog 87 1 1 3 = true := by kernel_rfl
theorem k_fd_87_0_0_34 : fieldB Try.prog 87 0 0 34 = true := by kernel_rfl
theorem k_sz_34_1 : sizeB Try.prog 34 1 = true := by kernel_rfl
theorem k_sc_34 : scalB Try.prog 34 = true := by kernel_rfl
theorem k_sz_5_1 : sizeB Try.prog 5 1 = true := by kernel_rfl
theorem k_sc_5 : scalB Try.prog 5 = true := by kernel_rfl
theorem k_us_5 : (Try.prog.underlying 5).isSome = true := by kernel_rfl
theorem k_fd_87_2_2_85 : fieldB Try.prog 87 2 2 85 = true := by kernel_rfl
theorem k_sz_85_1 : sizeB Try.prog 85 1 = true := by kernel_rfl
theorem k_sc_85 : scalB Try.prog 85 = true := by kernel_rfl
theorem k_int_85_u64 : intB Try.prog 85 .u64 = true := by kernel_rfl
theorem k_us_85 : (Try.prog.underlying 85).isSome = true := by kernel_rfl
theorem k_call_119 : callB Try.prog 119 = true := by kernel_rfl
theorem k_call_69 : callB Try.prog 69 = true := by kernel_rfl
theorem k_call_53 : callB Try.prog 53 = true := by kernel_rfl
theorem k_call_55 : callB Try.prog 55 = true := by kernel_rfl
theorem k_zero_52 : (Try.prog.info? 52).map (·.zero) = some (some (.agg #[.int .i64 0, .int .i64 0, .slice none 0 0, .slice none 0 0])) := by kernel_rfl
theorem k_by_3_8 : bytesB Try.prog 3 8 = true := by kernel_rfl
theorem k_zero_104 : (Try.prog.info? 104).map (·.zero) = some (some (.agg #[.int .i64 0, .int .i64 0])) := by kernel_rfl
theorem k_pl_104 : placesB Try.prog 104 [(0, 1), (1, 1)] = true := by kernel_rfl
theorem k_sl_47_104 : sliceB Try.prog 47 104 = true := by kernel_rfl
theorem k_sz_104_2 : sizeB Try.prog 104 2 = true := by kernel_rfl
theorem k_zc_104 : (Try.prog.info? 104).map (fun i => i.zero.map (fun z => z.cells.toList)) = some (some [.int .i64 0, .int .i64 0]) := by kernel_rfl
theorem k_by_104_16 : bytesB Try.prog 104 16 = true := by kernel_rfl
theorem k_call_79 : callB Try.prog 79 = true := by kernel_rfl
theorem k_zero_50 : (Try.prog.info? 50).map (·.zero) = some (some (.agg #[.slice none 0 0])) := by kernel_rfl
theorem k_fd_50_0_0_48 : fieldB Try.prog 50 0 0 48 = true := by kernel_rfl
theorem k_sz_48_1 : sizeB Try.prog 48 1 = true := by kernel_rfl
theorem k_sc_48 : scalB Try.prog 48 = true := by kernel_rfl
theorem k_ag_50 : aggB Try.prog 50 = true := by kernel_rfl
theorem k_sz_50_1 : sizeB Try.prog 50 1 = true := by kernel_rfl
theorem k_call_152 : callB Try.prog 152 = true := by kernel_rfl
theorem k_call_165 : callB Try.prog 165 = true := by kernel_rfl
theorem k_pl_50 : placesB Try.prog 50 [(0, 1)] = true := by kernel_rfl
theorem k_call_153 : callB Try.prog 153 = true := by kernel_rfl
theorem k_call_120 : callB Try.prog 120 = true := by kernel_rfl
theorem k_pl_52 : placesB Try.prog 52 [(0, 1), (1, 1), (2, 1), (3, 1)] = true := by kernel_rfl
theorem k_sz_52_4 : sizeB Try.prog 52 4 = true := by kernel_rfl
theorem k_ag_52 : aggB Try.prog 52 = true := by kernel_rfl
theorem k_call_70 : callB Try.prog 70 = true := by kernel_rfl
theorem k_fd_52_1_1_3 : fieldB Try.prog 52 1 1 3 = true := by kernel_rfl
theorem k_fd_52_2_2_47 : fieldB Try.prog 52 2 2 47 = true := by kernel_rfl
theorem k_sz_47_1 : sizeB Try.prog 47 1 = true := by kernel_rfl
theorem k_sc_47 : scalB Try.prog 47 = true := by kernel_rfl
theorem k_call_121 : callB Try.prog 121 = true := by kernel_rfl
theorem k_fd_52_3_3_50 : fieldB Try.prog 52 3 3 50 = true := by kernel_rfl
theorem k_fd_52_0_0_3 : fieldB Try.prog 52 0 0 3 = true := by kernel_rfl
theorem k_call_71 : callB Try.prog 71 = true := by kernel_rfl
theorem k_ag_104 : aggB Try.prog 104 = true := by kernel_rfl
theorem k_fd_104_0_0_3 : fieldB Try.prog 104 0 0 3 = true := by kernel_rfl
theorem k_fd_104_1_1_3 : fieldB Try.prog 104 1 1 3 = true := by kernel_rfl
theorem k_call_84 : callB Try.prog 84 = true := by kernel_rfl
theorem k_call_158 : callB Try.prog 158 = true := by kernel_rfl
theorem k_call_126 : callB Try.prog 126 = true := by kernel_rfl
theorem k_call_156 : callB Try.prog 156 = true := by kernel_rfl
theorem k_call_159 : callB Try.prog 159 = true := by kernel_rfl
theorem k_call_160 : callB Try.prog 160 = true := by kernel_rfl
theorem k_call_125 : callB Try.prog 125 = true := by kernel_rfl
theorem k_call_127 : callB Try.prog 127 = true := by kernel_rfl
theorem k_call_85 : callB Try.prog 85 = true := by kernel_rfl
theorem k_call_30 : callB Try.prog 30 = true := by kernel_rfl
theorem k_zero_102 : (Try.prog.info? 102).map (·.zero) = some (some (.agg #[.int .i64 0, .int .i64 0, .int .i64 0, .int .i64 0, .int .i64 0, .int .i64 0, .int .i64 0, .int .i64 0, .int .i64 0, .int .i64 0, .int .i64 0, .int .i64 0, .int .i64 0, .int .i64 0, .int .i64 0, .int .i64 0, .int .i64 0, .int .i64 0, .int .i64 0, .int .i64 0, .int .i64 0, .int .i64 0, .int .i64 0, .int .i64 0, .int .i64 0, .int .i64 0, .int .i64 0, .int .i64 0, .int .i64 0, .int .i64 0, .int .i64 0, .int .i64 0])) := by kernel_rfl
theorem k_ar_102_32_3 : arrB Try.prog 102 32 3 = true := by kernel_rfl
theorem k_sz_102_32 : sizeB Try.prog 102 32 = true := by kernel_rfl
theorem k_call_72 : callB Try.prog 72 = true := by kernel_rfl
theorem k_ag_102 : aggB Try.prog 102 = true := by kernel_rfl
theorem k_call_75 : callB Try.prog 75 = true := by kernel_rfl
theorem k_call_155 : callB Try.prog 155 = true := by kernel_rfl
theorem k_call_122 : callB Try.prog 122 = true := by kernel_rfl
theorem k_call_76 : callB Try.prog 76 = true := by kernel_rfl
theorem k_call_77 : callB Try.prog 77 = true := by kernel_rfl
theorem k_call_123 : callB Try.prog 123 = true := by kernel_rfl
theorem k_st_104 : structB Try.prog 104 [(3, 0), (3, 1)] = true := by kernel_rfl
theorem k_ho_104 : Try.prog.stoodInHeld 104 = false := by kernel_rfl
theorem k_eg_104 : Try.prog.eqGuardType Try.prog.depth 104 = false := by kernel_rfl
theorem k_call_39 : callB Try.prog 39 = true := by kernel_rfl
theorem k_call_29 : callB Try.prog 29 = true := by kernel_rfl
theorem k_call_162 : callB Try.prog 162 = true := by kernel_rfl
theorem k_call_128 : callB Try.prog 128 = true := by kernel_rfl
theorem k_call_86 : callB Try.prog 86 = true := by kernel_rfl
theorem k_call_31 : callB Try.prog 31 = true := by kernel_rfl
theorem k_call_132 : callB Try.prog 132 = true := by kernel_rfl
theorem k_call_164 : callB Try.prog 164 = true := by kernel_rfl
theorem k_call_163 : callB Try.prog 163 = true := by kernel_rfl
theorem k_call_130 : callB Try.prog 130 = true := by kernel_rfl
theorem k_call_129 : callB Try.prog 129 = true := by kernel_rfl
theorem k_call_87 : callB Try.prog 87 = true := by kernel_rfl
theorem k_call_131 : callB Try.prog 131 = true := by kernel_rfl
theorem k_call_88 : callB Try.prog 88 = true := by kernel_rfl
theorem k_call_33 : callB Try.prog 33 = true := by kernel_rfl
theorem k_call_95 : callB Try.prog 95 = true := by kernel_rfl
theorem k_zero_119 : (Try.prog.info? 119).map (·.zero) = some (some (.agg #[.int .i64 0, .int .i64 0, .int .i64 0, .int .i64 0])) := by kernel_rfl
theorem k_ar_119_4_3 : arrB Try.prog 119 4 3 = true := by kernel_rfl
theorem k_call_37 : callB Try.prog 37 = true := by kernel_rfl
theorem k_call_89 : callB Try.prog 89 = true := by kernel_rfl
theorem k_call_90 : callB Try.prog 90 = true := by kernel_rfl
theorem k_call_34 : callB Try.prog 34 = true := by kernel_rfl
theorem k_call_91 : callB Try.prog 91 = true := by kernel_rfl
theorem k_call_93 : callB Try.prog 93 = true := by kernel_rfl
theorem k_call_92 : callB Try.prog 92 = true := by kernel_rfl
theorem k_call_35 : callB Try.prog 35 = true := by kernel_rfl
theorem k_call_94 : callB Try.prog 94 = true := by kernel_rfl
theorem k_call_36 : callB Try.prog 36 = true := by kernel_rfl
theorem k_call_38 : callB Try.prog 38 = true := by kernel_rfl
end Go.VK
