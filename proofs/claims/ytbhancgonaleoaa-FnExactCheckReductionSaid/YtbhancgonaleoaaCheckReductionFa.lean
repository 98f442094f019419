/- Closed facts on the types. -/
import Derived.Test.YtbhancgonaleoaaCheckReductionFn
import Derived.Test.YtbhancgonaleoaaChecked
namespace Go.VK
open Go.RowKit
open Go.Proofs
theorem k_sz_24_2 : sizeB Try.prog 24 2 = true := by kernel_rfl
theorem k_fd_24_1_1_22 : fieldB Try.prog 24 1 1 22 = true := by kernel_rfl
theorem k_sz_22_1 : sizeB Try.prog 22 1 = true := by kernel_rfl
theorem k_sl_22_119 : sliceB Try.prog 22 119 = true := by kernel_rfl
theorem k_fd_24_0_0_3 : fieldB Try.prog 24 0 0 3 = true := by kernel_rfl
theorem k_sz_3_1 : sizeB Try.prog 3 1 = true := by kernel_rfl
theorem k_sc_3 : scalB Try.prog 3 = true := by kernel_rfl
theorem k_sz_119_3 : sizeB Try.prog 119 3 = true := by kernel_rfl
theorem k_fd_119_0_0_3 : fieldB Try.prog 119 0 0 3 = true := by kernel_rfl
theorem k_fd_119_1_1_3 : fieldB Try.prog 119 1 1 3 = true := by kernel_rfl
theorem k_fd_119_2_2_3 : fieldB Try.prog 119 2 2 3 = true := by kernel_rfl
theorem k_call_29 : callB Try.prog 29 = true := by kernel_rfl
theorem k_us_3 : (Try.prog.underlying 3).isSome = true := by kernel_rfl
theorem k_int_66_u64 : intB Try.prog 66 .u64 = true := by kernel_rfl
theorem k_sl_41_3 : sliceB Try.prog 41 3 = true := by kernel_rfl
theorem k_zc_3 : (Try.prog.info? 3).map (fun i => i.zero.map (fun z => z.cells.toList)) = some (some [.int .i64 0]) := by kernel_rfl
theorem k_call_137 : callB Try.prog 137 = true := by kernel_rfl
theorem k_call_36 : callB Try.prog 36 = true := by kernel_rfl
theorem k_int_3_i64 : intB Try.prog 3 .i64 = true := by kernel_rfl
theorem k_zero_3 : (Try.prog.info? 3).map (·.zero) = some (some (.int .i64 0)) := by kernel_rfl
theorem k_und_4 : Try.prog.underlying 4 = some .bool := by kernel_rfl
theorem k_ag_45 : aggB Try.prog 45 = true := by kernel_rfl
theorem k_sz_45_4 : sizeB Try.prog 45 4 = true := by kernel_rfl
theorem k_fd_45_2_2_40 : fieldB Try.prog 45 2 2 40 = true := by kernel_rfl
theorem k_sz_40_1 : sizeB Try.prog 40 1 = true := by kernel_rfl
theorem k_sc_40 : scalB Try.prog 40 = true := by kernel_rfl
theorem k_sl_40_137 : sliceB Try.prog 40 137 = true := by kernel_rfl
theorem k_call_45 : callB Try.prog 45 = true := by kernel_rfl
theorem k_fd_45_3_3_43 : fieldB Try.prog 45 3 3 43 = true := by kernel_rfl
theorem k_sz_43_1 : sizeB Try.prog 43 1 = true := by kernel_rfl
theorem k_ag_43 : aggB Try.prog 43 = true := by kernel_rfl
theorem k_fd_43_0_0_41 : fieldB Try.prog 43 0 0 41 = true := by kernel_rfl
theorem k_sz_41_1 : sizeB Try.prog 41 1 = true := by kernel_rfl
theorem k_sc_41 : scalB Try.prog 41 = true := by kernel_rfl
theorem k_call_92 : callB Try.prog 92 = true := by kernel_rfl
theorem k_call_46 : callB Try.prog 46 = true := by kernel_rfl
theorem k_call_16 : callB Try.prog 16 = true := by kernel_rfl
theorem k_zero_50 : (Try.prog.info? 50).map (·.zero) = some (some (.agg #[.int .i64 0, .int .i64 0, .slice none 0 0, .slice none 0 0])) := by kernel_rfl
theorem k_fd_45_0_0_3 : fieldB Try.prog 45 0 0 3 = true := by kernel_rfl
theorem k_fd_50_0_0_3 : fieldB Try.prog 50 0 0 3 = true := by kernel_rfl
theorem k_fd_45_1_1_3 : fieldB Try.prog 45 1 1 3 = true := by kernel_rfl
theorem k_fd_50_1_1_3 : fieldB Try.prog 50 1 1 3 = true := by kernel_rfl
theorem k_sl_47_95 : sliceB Try.prog 47 95 = true := by kernel_rfl
theorem k_sz_95_2 : sizeB Try.prog 95 2 = true := by kernel_rfl
theorem k_by_95_16 : bytesB Try.prog 95 16 = true := by kernel_rfl
theorem k_zero_95 : (Try.prog.info? 95).map (·.zero) = some (some (.agg #[.int .i64 0, .int .i64 0])) := by kernel_rfl
theorem k_sz_137_2 : sizeB Try.prog 137 2 = true := by kernel_rfl
theorem k_ag_137 : aggB Try.prog 137 = true := by kernel_rfl
theorem k_fd_137_0_0_3 : fieldB Try.prog 137 0 0 3 = true := by kernel_rfl
theorem k_fd_95_0_0_3 : fieldB Try.prog 95 0 0 3 = true := by kernel_rfl
theorem k_fd_137_1_1_3 : fieldB Try.prog 137 1 1 3 = true := by kernel_rfl
theorem k_fd_95_1_1_3 : fieldB Try.prog 95 1 1 3 = true := by kernel_rfl
theorem k_ag_95 : aggB Try.prog 95 = true := by kernel_rfl
theorem k_call_100 : callB Try.prog 100 = true := by kernel_rfl
theorem k_call_51 : callB Try.prog 51 = true := by kernel_rfl
theorem k_fd_50_2_2_47 : fieldB Try.prog 50 2 2 47 = true := by kernel_rfl
theorem k_sz_47_1 : sizeB Try.prog 47 1 = true := by kernel_rfl
theorem k_zero_48 : (Try.prog.info? 48).map (·.zero) = some (some (.agg #[.slice none 0 0])) := by kernel_rfl
theorem k_by_3_8 : bytesB Try.prog 3 8 = true := by kernel_rfl
theorem k_call_101 : callB Try.prog 101 = true := by kernel_rfl
theorem k_fd_48_0_0_41 : fieldB Try.prog 48 0 0 41 = true := by kernel_rfl
theorem k_ag_48 : aggB Try.prog 48 = true := by kernel_rfl
theorem k_sz_48_1 : sizeB Try.prog 48 1 = true := by kernel_rfl
theorem k_call_52 : callB Try.prog 52 = true := by kernel_rfl
theorem k_fd_50_3_3_48 : fieldB Try.prog 50 3 3 48 = true := by kernel_rfl
theorem k_ag_50 : aggB Try.prog 50 = true := by kernel_rfl
theorem k_sz_50_4 : sizeB Try.prog 50 4 = true := by kernel_rfl
theorem k_call_18 : callB Try.prog 18 = true := by kernel_rfl
theorem k_call_99 : callB Try.prog 99 = true := by kernel_rfl
theorem k_call_138 : callB Try.prog 138 = true := by kernel_rfl
theorem k_call_93 : callB Try.prog 93 = true := by kernel_rfl
theorem k_sc_47 : scalB Try.prog 47 = true := by kernel_rfl
theorem k_call_47 : callB Try.prog 47 = true := by kernel_rfl
theorem k_call_97 : callB Try.prog 97 = true := by kernel_rfl
theorem k_call_139 : callB Try.prog 139 = true := by kernel_rfl
theorem k_call_95 : callB Try.prog 95 = true := by kernel_rfl
theorem k_call_94 : callB Try.prog 94 = true := by kernel_rfl
theorem k_call_49 : callB Try.prog 49 = true := by kernel_rfl
theorem k_call_48 : callB Try.prog 48 = true := by kernel_rfl
theorem k_pl_50 : placesB Try.prog 50 [(0, 1), (1, 1), (2, 1), (3, 1)] = true := by kernel_rfl
theorem k_call_96 : callB Try.prog 96 = true := by kernel_rfl
theorem k_pl_95 : placesB Try.prog 95 [(0, 1), (1, 1)] = true := by kernel_rfl
theorem k_zc_95 : (Try.prog.info? 95).map (fun i => i.zero.map (fun z => z.cells.toList)) = some (some [.int .i64 0, .int .i64 0]) := by kernel_rfl
theorem k_pl_48 : placesB Try.prog 48 [(0, 1)] = true := by kernel_rfl
theorem k_call_98 : callB Try.prog 98 = true := by kernel_rfl
theorem k_call_50 : callB Try.prog 50 = true := by kernel_rfl
theorem k_call_102 : callB Try.prog 102 = true := by kernel_rfl
theorem k_us_180 : (Try.prog.underlying 180).isSome = true := by kernel_rfl
theorem k_call_167 : callB Try.prog 167 = true := by kernel_rfl
theorem k_call_145 : callB Try.prog 145 = true := by kernel_rfl
theorem k_call_111 : callB Try.prog 111 = true := by kernel_rfl
theorem k_call_57 : callB Try.prog 57 = true := by kernel_rfl
theorem k_call_141 : callB Try.prog 141 = true := by kernel_rfl
theorem k_call_104 : callB Try.prog 104 = true := by kernel_rfl
theorem k_call_140 : callB Try.prog 140 = true := by kernel_rfl
theorem k_call_103 : callB Try.prog 103 = true := by kernel_rfl
theorem k_call_53 : callB Try.prog 53 = true := by kernel_rfl
theorem k_call_105 : callB Try.prog 105 = true := by kernel_rfl
theorem k_call_163 : callB Try.prog 163 = true := by kernel_rfl
theorem k_call_143 : callB Try.prog 143 = true := by kernel_rfl
theorem k_call_164 : callB Try.prog 164 = true := by kernel_rfl
theorem k_call_165 : callB Try.prog 165 = true := by kernel_rfl
theorem k_call_142 : callB Try.prog 142 = true := by kernel_rfl
theorem k_call_144 : callB Try.prog 144 = true := by kernel_rfl
theorem k_call_106 : callB Try.prog 106 = true := by kernel_rfl
theorem k_call_54 : callB Try.prog 54 = true := by kernel_rfl
theorem k_zero_93 : (Try.prog.info? 93).map (·.zero) = some (some (.agg #[.int .i64 0, .int .i64 0, .int .i64 0, .int .i64 0, .int .i64 0, .int .i64 0, .int .i64 0, .int .i64 0, .int .i64 0, .int .i64 0, .int .i64 0, .int .i64 0, .int .i64 0, .int .i64 0, .int .i64 0, .int .i64 0, .int .i64 0, .int .i64 0, .int .i64 0, .int .i64 0, .int .i64 0, .int .i64 0, .int .i64 0, .int .i64 0, .int .i64 0, .int .i64 0, .int .i64 0, .int .i64 0, .int .i64 0, .int .i64 0, .int .i64 0, .int .i64 0])) := by kernel_rfl
theorem k_ar_93_32_3 : arrB Try.prog 93 32 3 = true := by kernel_rfl
theorem k_sz_93_32 : sizeB Try.prog 93 32 = true := by kernel_rfl
theorem k_call_55 : callB Try.prog 55 = true := by kernel_rfl
theorem k_ag_93 : aggB Try.prog 93 = true := by kernel_rfl
theorem k_call_56 : callB Try.prog 56 = true := by kernel_rfl
theorem k_call_19 : callB Try.prog 19 = true := by kernel_rfl
theorem k_call_107 : callB Try.prog 107 = true := by kernel_rfl
theorem k_call_58 : callB Try.prog 58 = true := by kernel_rfl
theorem k_call_108 : callB Try.prog 108 = true := by kernel_rfl
theorem k_call_59 : callB Try.prog 59 = true := by kernel_rfl
theorem k_call_20 : callB Try.prog 20 = true := by kernel_rfl
theorem k_call_65 : callB Try.prog 65 = true := by kernel_rfl
theorem k_call_64 : callB Try.prog 64 = true := by kernel_rfl
theorem k_call_67 : callB Try.prog 67 = true := by kernel_rfl
theorem k_call_66 : callB Try.prog 66 = true := by kernel_rfl
theorem k_call_112 : callB Try.prog 112 = true := by kernel_rfl
theorem k_st_95 : structB Try.prog 95 [(3, 0), (3, 1)] = true := by kernel_rfl
theorem k_ho_95 : Try.prog.stoodInHeld 95 = false := by kernel_rfl
theorem k_eg_95 : Try.prog.eqGuardType Try.prog.depth 95 = false := by kernel_rfl
theorem k_call_113 : callB Try.prog 113 = true := by kernel_rfl
theorem k_call_68 : callB Try.prog 68 = true := by kernel_rfl
theorem k_call_69 : callB Try.prog 69 = true := by kernel_rfl
theorem k_call_70 : callB Try.prog 70 = true := by kernel_rfl
theorem k_call_25 : callB Try.prog 25 = true := by kernel_rfl
theorem k_call_71 : callB Try.prog 71 = true := by kernel_rfl
theorem k_call_114 : callB Try.prog 114 = true := by kernel_rfl
theorem k_call_115 : callB Try.prog 115 = true := by kernel_rfl
theorem k_call_72 : callB Try.prog 72 = true := by kernel_rfl
theorem k_call_73 : callB Try.prog 73 = true := by kernel_rfl
theorem k_call_26 : callB Try.prog 26 = true := by kernel_rfl
end Go.VK
