/- Closed facts on the types. -/
import Derived.Test.YtedbkfnhbliefaaPhasePolyOfFn
import Derived.Test.YtedbkfnhbliefaaChecked
namespace Go.VK
open Go.RowKit
open Go.Proofs
theorem k_ag_24 : aggB Try.prog 24 = true := by kernel_rfl
theorem k_sz_24_2 : sizeB Try.prog 24 2 = true := by kernel_rfl
theorem k_fd_24_1_1_22 : fieldB Try.prog 24 1 1 22 = true := by kernel_rfl
theorem k_sz_22_1 : sizeB Try.prog 22 1 = true := by kernel_rfl
theorem k_sc_22 : scalB Try.prog 22 = true := by kernel_rfl
theorem k_sl_22_69 : sliceB Try.prog 22 69 = true := by kernel_rfl
theorem k_call_13 : callB Try.prog 13 = true := by kernel_rfl
theorem k_call_4 : callB Try.prog 4 = true := by kernel_rfl
theorem k_zero_36 : (Try.prog.info? 36).map (·.zero) = some (some (.agg #[.int .i64 0, .slice none 0 0])) := by kernel_rfl
theorem k_fd_24_0_0_3 : fieldB Try.prog 24 0 0 3 = true := by kernel_rfl
theorem k_sz_3_1 : sizeB Try.prog 3 1 = true := by kernel_rfl
theorem k_sc_3 : scalB Try.prog 3 = true := by kernel_rfl
theorem k_fd_36_0_0_3 : fieldB Try.prog 36 0 0 3 = true := by kernel_rfl
theorem k_sl_34_48 : sliceB Try.prog 34 48 = true := by kernel_rfl
theorem k_sz_48_3 : sizeB Try.prog 48 3 = true := by kernel_rfl
theorem k_by_48_24 : bytesB Try.prog 48 24 = true := by kernel_rfl
theorem k_zero_48 : (Try.prog.info? 48).map (·.zero) = some (some (.agg #[.int .i64 0, .int .i64 0, .int .i64 0])) := by kernel_rfl
theorem k_sz_69_3 : sizeB Try.prog 69 3 = true := by kernel_rfl
theorem k_ag_69 : aggB Try.prog 69 = true := by kernel_rfl
theorem k_fd_69_0_0_3 : fieldB Try.prog 69 0 0 3 = true := by kernel_rfl
theorem k_fd_48_0_0_3 : fieldB Try.prog 48 0 0 3 = true := by kernel_rfl
theorem k_fd_69_1_1_3 : fieldB Try.prog 69 1 1 3 = true := by kernel_rfl
theorem k_fd_48_1_1_3 : fieldB Try.prog 48 1 1 3 = true := by kernel_rfl
theorem k_fd_69_2_2_3 : fieldB Try.prog 69 2 2 3 = true := by kernel_rfl
theorem k_fd_48_2_2_3 : fieldB Try.prog 48 2 2 3 = true := by kernel_rfl
theorem k_ag_48 : aggB Try.prog 48 = true := by kernel_rfl
theorem k_call_36 : callB Try.prog 36 = true := by kernel_rfl
theorem k_call_19 : callB Try.prog 19 = true := by kernel_rfl
theorem k_fd_36_1_1_34 : fieldB Try.prog 36 1 1 34 = true := by kernel_rfl
theorem k_sz_34_1 : sizeB Try.prog 34 1 = true := by kernel_rfl
theorem k_ag_36 : aggB Try.prog 36 = true := by kernel_rfl
theorem k_sz_36_2 : sizeB Try.prog 36 2 = true := by kernel_rfl
theorem k_call_6 : callB Try.prog 6 = true := by kernel_rfl
theorem k_zero_31 : (Try.prog.info? 31).map (·.zero) = some (some (.agg #[.int .i64 0, .int .i64 0, .slice none 0 0, .slice none 0 0])) := by kernel_rfl
theorem k_call_33 : callB Try.prog 33 = true := by kernel_rfl
theorem k_sc_34 : scalB Try.prog 34 = true := by kernel_rfl
theorem k_call_34 : callB Try.prog 34 = true := by kernel_rfl
theorem k_call_14 : callB Try.prog 14 = true := by kernel_rfl
theorem k_pl_31 : placesB Try.prog 31 [(0, 1), (1, 1), (2, 1), (3, 1)] = true := by kernel_rfl
theorem k_sz_31_4 : sizeB Try.prog 31 4 = true := by kernel_rfl
theorem k_ag_31 : aggB Try.prog 31 = true := by kernel_rfl
theorem k_us_3 : (Try.prog.underlying 3).isSome = true := by kernel_rfl
theorem k_int_45_u64 : intB Try.prog 45 .u64 = true := by kernel_rfl
theorem k_sl_27_3 : sliceB Try.prog 27 3 = true := by kernel_rfl
theorem k_by_3_8 : bytesB Try.prog 3 8 = true := by kernel_rfl
theorem k_zero_3 : (Try.prog.info? 3).map (·.zero) = some (some (.int .i64 0)) := by kernel_rfl
theorem k_zero_29 : (Try.prog.info? 29).map (·.zero) = some (some (.agg #[.slice none 0 0])) := by kernel_rfl
theorem k_fd_29_0_0_27 : fieldB Try.prog 29 0 0 27 = true := by kernel_rfl
theorem k_sz_27_1 : sizeB Try.prog 27 1 = true := by kernel_rfl
theorem k_sc_27 : scalB Try.prog 27 = true := by kernel_rfl
theorem k_zc_3 : (Try.prog.info? 3).map (fun i => i.zero.map (fun z => z.cells.toList)) = some (some [.int .i64 0]) := by kernel_rfl
theorem k_ag_29 : aggB Try.prog 29 = true := by kernel_rfl
theorem k_sz_29_1 : sizeB Try.prog 29 1 = true := by kernel_rfl
theorem k_call_15 : callB Try.prog 15 = true := by kernel_rfl
theorem k_call_35 : callB Try.prog 35 = true := by kernel_rfl
theorem k_pl_29 : placesB Try.prog 29 [(0, 1)] = true := by kernel_rfl
theorem k_call_16 : callB Try.prog 16 = true := by kernel_rfl
theorem k_fd_31_1_1_3 : fieldB Try.prog 31 1 1 3 = true := by kernel_rfl
theorem k_call_17 : callB Try.prog 17 = true := by kernel_rfl
theorem k_zero_67 : (Try.prog.info? 67).map (·.zero) = some (some (.agg #[.int .i64 0, .int .i64 0])) := by kernel_rfl
theorem k_pl_67 : placesB Try.prog 67 [(0, 1), (1, 1)] = true := by kernel_rfl
theorem k_sl_26_67 : sliceB Try.prog 26 67 = true := by kernel_rfl
theorem k_sz_67_2 : sizeB Try.prog 67 2 = true := by kernel_rfl
theorem k_zc_67 : (Try.prog.info? 67).map (fun i => i.zero.map (fun z => z.cells.toList)) = some (some [.int .i64 0, .int .i64 0]) := by kernel_rfl
theorem k_by_67_16 : bytesB Try.prog 67 16 = true := by kernel_rfl
theorem k_call_18 : callB Try.prog 18 = true := by kernel_rfl
theorem k_fd_31_2_2_26 : fieldB Try.prog 31 2 2 26 = true := by kernel_rfl
theorem k_sz_26_1 : sizeB Try.prog 26 1 = true := by kernel_rfl
theorem k_fd_31_3_3_29 : fieldB Try.prog 31 3 3 29 = true := by kernel_rfl
theorem k_call_5 : callB Try.prog 5 = true := by kernel_rfl
theorem k_call_37 : callB Try.prog 37 = true := by kernel_rfl
theorem k_call_46 : callB Try.prog 46 = true := by kernel_rfl
theorem k_call_47 : callB Try.prog 47 = true := by kernel_rfl
theorem k_call_40 : callB Try.prog 40 = true := by kernel_rfl
theorem k_call_39 : callB Try.prog 39 = true := by kernel_rfl
theorem k_call_38 : callB Try.prog 38 = true := by kernel_rfl
theorem k_call_20 : callB Try.prog 20 = true := by kernel_rfl
theorem k_zero_54 : (Try.prog.info? 54).map (·.zero) = some (some (.agg #[.int .i64 0, .int .i64 0, .int .i64 0, .int .i64 0, .int .i64 0, .int .i64 0, .int .i64 0, .int .i64 0, .int .i64 0, .int .i64 0, .int .i64 0, .int .i64 0, .int .i64 0, .int .i64 0, .int .i64 0, .int .i64 0, .int .i64 0, .int .i64 0, .int .i64 0, .int .i64 0, .int .i64 0, .int .i64 0, .int .i64 0, .int .i64 0, .int .i64 0, .int .i64 0, .int .i64 0, .int .i64 0, .int .i64 0, .int .i64 0, .int .i64 0, .int .i64 0])) := by kernel_rfl
theorem k_ar_54_32_3 : arrB Try.prog 54 32 3 = true := by kernel_rfl
theorem k_sz_54_32 : sizeB Try.prog 54 32 = true := by kernel_rfl
theorem k_call_21 : callB Try.prog 21 = true := by kernel_rfl
theorem k_call_22 : callB Try.prog 22 = true := by kernel_rfl
theorem k_call_23 : callB Try.prog 23 = true := by kernel_rfl
theorem k_ag_54 : aggB Try.prog 54 = true := by kernel_rfl
theorem k_call_24 : callB Try.prog 24 = true := by kernel_rfl
theorem k_call_7 : callB Try.prog 7 = true := by kernel_rfl
theorem k_fd_31_0_0_3 : fieldB Try.prog 31 0 0 3 = true := by kernel_rfl
theorem k_sc_26 : scalB Try.prog 26 = true := by kernel_rfl
theorem k_ag_67 : aggB Try.prog 67 = true := by kernel_rfl
theorem k_fd_67_0_0_3 : fieldB Try.prog 67 0 0 3 = true := by kernel_rfl
theorem k_fd_67_1_1_3 : fieldB Try.prog 67 1 1 3 = true := by kernel_rfl
theorem k_call_41 : callB Try.prog 41 = true := by kernel_rfl
theorem k_call_25 : callB Try.prog 25 = true := by kernel_rfl
theorem k_call_42 : callB Try.prog 42 = true := by kernel_rfl
theorem k_call_26 : callB Try.prog 26 = true := by kernel_rfl
theorem k_call_8 : callB Try.prog 8 = true := by kernel_rfl
theorem k_und_4 : Try.prog.underlying 4 = some .bool := by kernel_rfl
theorem k_call_43 : callB Try.prog 43 = true := by kernel_rfl
theorem k_call_27 : callB Try.prog 27 = true := by kernel_rfl
theorem k_call_9 : callB Try.prog 9 = true := by kernel_rfl
theorem k_call_28 : callB Try.prog 28 = true := by kernel_rfl
theorem k_call_10 : callB Try.prog 10 = true := by kernel_rfl
theorem k_call_29 : callB Try.prog 29 = true := by kernel_rfl
theorem k_call_44 : callB Try.prog 44 = true := by kernel_rfl
theorem k_call_30 : callB Try.prog 30 = true := by kernel_rfl
theorem k_call_11 : callB Try.prog 11 = true := by kernel_rfl
theorem k_call_31 : callB Try.prog 31 = true := by kernel_rfl
theorem k_call_45 : callB Try.prog 45 = true := by kernel_rfl
theorem k_call_32 : callB Try.prog 32 = true := by kernel_rfl
theorem k_call_12 : callB Try.prog 12 = true := by kernel_rfl
theorem k_int_3_i64 : intB Try.prog 3 .i64 = true := by kernel_rfl
end Go.VK
