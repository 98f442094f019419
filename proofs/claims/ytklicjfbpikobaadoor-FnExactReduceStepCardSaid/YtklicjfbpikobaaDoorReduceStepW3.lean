/- Walks: each Go function returns what its Lean function says. By program. -/
import Derived.Test.YtklicjfbpikobaaDoorReduceStepFa
import Derived.Test.YtklicjfbpikobaaDoorReduceStepShelf
import Derived.Test.YtklicjfbpikobaaDoorLibT
import Derived.WalkKit
import Derived.Test.YtklicjfbpikobaaDoorReduceStepW2
set_option linter.unusedVariables false
set_option maxRecDepth 100000
set_option maxHeartbeats 4000000
namespace Go.VK
open Go.RowKit
open Go.Proofs
attribute [local irreducible] CW RW RA CV Y Yw Yc Ys RetOf
attribute [local irreducible] F_laws_szTermS F_laws_szAffineS F_laws_szPathSum F_spec_l1In F_spec_l1Set F_spec_l21Valid F_spec_l21Rule F_spec_l21Drop F_spec_l21Sum_add F_spec_l21Sum_times F_spec_l21Replace F_spec_l21Without F_spec_l21Step F_spec_ReduceStep F_laws_toTerm F_laws_toTermS F_laws_toAffine F_laws_toAffineS F_laws_toPathSum F_slices_IndexFunc_impl_Affine_impl_Affine F_slices_ContainsFunc_impl_Affine_impl_Affine F_impl_within F_math_bits_OnesCount64 F_math_bits_OnesCount F_impl_bitsIn F_impl_isAffine F_impl_IsValidPathSum_1 F_impl_IsValidPathSum F_impl_ReduceStep_1 F_impl_PathSum_around F_math_bits_TrailingZeros64 F_math_bits_TrailingZeros F_impl_dropped F_impl_PathSum_without F_impl_polyOf F_impl_polynomial_add F_impl_bitsOf F_impl_polynomial_expand F_impl_polynomial_terms F_impl_PathSum_stripped F_impl_PathSum_substituted F_impl_PathSum_ruled F_impl_ReduceStep F_laws_eqTerm F_laws_eqTermS F_laws_eqAffine F_laws_eqAffineS F_laws_eqPathSum F_laws_markTermS F_laws_markAffineS F_laws_markPathSum F_laws_heldTermS F_laws_heldAffineS F_laws_heldPathSum F_laws_FnExactReduceStep
theorem c_math_bits_OnesCount64 (x : Int)  (w0 : World)  (hS : ST w0 [] w0 [] []) {r_ : Int} (hF : F_math_bits_OnesCount64 x = some r_) :
    CV Tryd.prog 65 #[.int .u64 x] w0 (fun v w' => v = .int .i64 r_ ∧ ST w0 [] w' [] []) := by
  unfold F_math_bits_OnesCount64 at hF
  refine cv_of_cw 35 Tryd.func65 rfl Tryd.ntmps65 rfl ?_
  refine cw_seq ?_
  refine cw_region ?_
  refine sq 2 rfl rfl (Y_assign (v := .int .i64 0) rfl rfl) ?_
  refine rw_nil ?_
  refine cw_seq ?_
  refine cw_region ?_
  refine sq 3 rfl rfl (Y_move (v := .int .u64 x) rfl rfl) ?_
  refine sq 4 rfl rfl (Y_shr (k := .u64) (a := x) (k' := .u64) (b := 1) rfl rfl rfl (by decide)) ?_
  refine sq 5 rfl rfl (Y_band (k := .u64) (a := (shrK .u64 x 1)) (b := 6148914691236517205) rfl rfl rfl) ?_
  refine sq 6 rfl rfl (Y_move (v := .int .u64 x) rfl rfl) ?_
  refine sq 7 rfl rfl (Y_band (k := .u64) (a := x) (b := 6148914691236517205) rfl rfl rfl) ?_
  refine sq 8 rfl rfl (Y_add (k := .u64) (a := (bits .and .u64 (shrK .u64 x 1) 6148914691236517205)) (b := (bits .and .u64 x 6148914691236517205)) rfl rfl rfl) ?_
  refine sq 0 rfl rfl (Y_assign (v := .int .u64 (IntKind.u64.wrap ((bits .and .u64 (shrK .u64 x 1) 6148914691236517205) + (bits .and .u64 x 6148914691236517205)))) rfl rfl) ?_
  refine rw_nil ?_
  refine cw_seq ?_
  refine cw_region ?_
  refine sq 9 rfl rfl (Y_move (v := .int .u64 (IntKind.u64.wrap ((bits .and .u64 (shrK .u64 x 1) 6148914691236517205) + (bits .and .u64 x 6148914691236517205)))) rfl rfl) ?_
  refine sq 10 rfl rfl (Y_shr (k := .u64) (a := (IntKind.u64.wrap ((bits .and .u64 (shrK .u64 x 1) 6148914691236517205) + (bits .and .u64 x 6148914691236517205)))) (k' := .u64) (b := 2) rfl rfl rfl (by decide)) ?_
  refine sq 11 rfl rfl (Y_band (k := .u64) (a := (shrK .u64 (IntKind.u64.wrap ((bits .and .u64 (shrK .u64 x 1) 6148914691236517205) + (bits .and .u64 x 6148914691236517205))) 2)) (b := 3689348814741910323) rfl rfl rfl) ?_
  refine sq 12 rfl rfl (Y_move (v := .int .u64 (IntKind.u64.wrap ((bits .and .u64 (shrK .u64 x 1) 6148914691236517205) + (bits .and .u64 x 6148914691236517205)))) rfl rfl) ?_
  refine sq 13 rfl rfl (Y_band (k := .u64) (a := (IntKind.u64.wrap ((bits .and .u64 (shrK .u64 x 1) 6148914691236517205) + (bits .and .u64 x 6148914691236517205)))) (b := 3689348814741910323) rfl rfl rfl) ?_
  refine sq 14 rfl rfl (Y_add (k := .u64) (a := (bits .and .u64 (shrK .u64 (IntKind.u64.wrap ((bits .and .u64 (shrK .u64 x 1) 6148914691236517205) + (bits .and .u64 x 6148914691236517205))) 2) 3689348814741910323)) (b := (bits .and .u64 (IntKind.u64.wrap ((bits .and .u64 (shrK .u64 x 1) 6148914691236517205) + (bits .and .u64 x 6148914691236517205))) 3689348814741910323)) rfl rfl rfl) ?_
  refine sq 0 rfl rfl (Y_assign (v := .int .u64 (IntKind.u64.wrap ((bits .and .u64 (shrK .u64 (IntKind.u64.wrap ((bits .and .u64 (shrK .u64 x 1) 6148914691236517205) + (bits .and .u64 x 6148914691236517205))) 2) 3689348814741910323) + (bits .and .u64 (IntKind.u64.wrap ((bits .and .u64 (shrK .u64 x 1) 6148914691236517205) + (bits .and .u64 x 6148914691236517205))) 3689348814741910323)))) rfl rfl) ?_
  refine rw_nil ?_
  refine cw_seq ?_
  refine cw_region ?_
  refine sq 15 rfl rfl (Y_move (v := .int .u64 (IntKind.u64.wrap ((bits .and .u64 (shrK .u64 (IntKind.u64.wrap ((bits .and .u64 (shrK .u64 x 1) 6148914691236517205) + (bits .and .u64 x 6148914691236517205))) 2) 3689348814741910323) + (bits .and .u64 (IntKind.u64.wrap ((bits .and .u64 (shrK .u64 x 1) 6148914691236517205) + (bits .and .u64 x 6148914691236517205))) 3689348814741910323)))) rfl rfl) ?_
  refine sq 16 rfl rfl (Y_shr (k := .u64) (a := (IntKind.u64.wrap ((bits .and .u64 (shrK .u64 (IntKind.u64.wrap ((bits .and .u64 (shrK .u64 x 1) 6148914691236517205) + (bits .and .u64 x 6148914691236517205))) 2) 3689348814741910323) + (bits .and .u64 (IntKind.u64.wrap ((bits .and .u64 (shrK .u64 x 1) 6148914691236517205) + (bits .and .u64 x 6148914691236517205))) 3689348814741910323)))) (k' := .u64) (b := 4) rfl rfl rfl (by decide)) ?_
  refine sq 17 rfl rfl (Y_move (v := .int .u64 (IntKind.u64.wrap ((bits .and .u64 (shrK .u64 (IntKind.u64.wrap ((bits .and .u64 (shrK .u64 x 1) 6148914691236517205) + (bits .and .u64 x 6148914691236517205))) 2) 3689348814741910323) + (bits .and .u64 (IntKind.u64.wrap ((bits .and .u64 (shrK .u64 x 1) 6148914691236517205) + (bits .and .u64 x 6148914691236517205))) 3689348814741910323)))) rfl rfl) ?_
  refine sq 18 rfl rfl (Y_add (k := .u64) (a := (shrK .u64 (IntKind.u64.wrap ((bits .and .u64 (shrK .u64 (IntKind.u64.wrap ((bits .and .u64 (shrK .u64 x 1) 6148914691236517205) + (bits .and .u64 x 6148914691236517205))) 2) 3689348814741910323) + (bits .and .u64 (IntKind.u64.wrap ((bits .and .u64 (shrK .u64 x 1) 6148914691236517205) + (bits .and .u64 x 6148914691236517205))) 3689348814741910323))) 4)) (b := (IntKind.u64.wrap ((bits .and .u64 (shrK .u64 (IntKind.u64.wrap ((bits .and .u64 (shrK .u64 x 1) 6148914691236517205) + (bits .and .u64 x 6148914691236517205))) 2) 3689348814741910323) + (bits .and .u64 (IntKind.u64.wrap ((bits .and .u64 (shrK .u64 x 1) 6148914691236517205) + (bits .and .u64 x 6148914691236517205))) 3689348814741910323)))) rfl rfl rfl) ?_
  refine sq 19 rfl rfl (Y_band (k := .u64) (a := (IntKind.u64.wrap ((shrK .u64 (IntKind.u64.wrap ((bits .and .u64 (shrK .u64 (IntKind.u64.wrap ((bits .and .u64 (shrK .u64 x 1) 6148914691236517205) + (bits .and .u64 x 6148914691236517205))) 2) 3689348814741910323) + (bits .and .u64 (IntKind.u64.wrap ((bits .and .u64 (shrK .u64 x 1) 6148914691236517205) + (bits .and .u64 x 6148914691236517205))) 3689348814741910323))) 4) + (IntKind.u64.wrap ((bits .and .u64 (shrK .u64 (IntKind.u64.wrap ((bits .and .u64 (shrK .u64 x 1) 6148914691236517205) + (bits .and .u64 x 6148914691236517205))) 2) 3689348814741910323) + (bits .and .u64 (IntKind.u64.wrap ((bits .and .u64 (shrK .u64 x 1) 6148914691236517205) + (bits .and .u64 x 6148914691236517205))) 3689348814741910323)))))) (b := 1085102592571150095) rfl rfl rfl) ?_
  refine sq 0 rfl rfl (Y_assign (v := .int .u64 (bits .and .u64 (IntKind.u64.wrap ((shrK .u64 (IntKind.u64.wrap ((bits .and .u64 (shrK .u64 (IntKind.u64.wrap ((bits .and .u64 (shrK .u64 x 1) 6148914691236517205) + (bits .and .u64 x 6148914691236517205))) 2) 3689348814741910323) + (bits .and .u64 (IntKind.u64.wrap ((bits .and .u64 (shrK .u64 x 1) 6148914691236517205) + (bits .and .u64 x 6148914691236517205))) 3689348814741910323))) 4) + (IntKind.u64.wrap ((bits .and .u64 (shrK .u64 (IntKind.u64.wrap ((bits .and .u64 (shrK .u64 x 1) 6148914691236517205) + (bits .and .u64 x 6148914691236517205))) 2) 3689348814741910323) + (bits .and .u64 (IntKind.u64.wrap ((bits .and .u64 (shrK .u64 x 1) 6148914691236517205) + (bits .and .u64 x 6148914691236517205))) 3689348814741910323))))) 1085102592571150095)) rfl rfl) ?_
  refine rw_nil ?_
  refine cw_seq ?_
  refine cw_region ?_
  refine sq 20 rfl rfl (Y_move (v := .int .u64 (bits .and .u64 (IntKind.u64.wrap ((shrK .u64 (IntKind.u64.wrap ((bits .and .u64 (shrK .u64 (IntKind.u64.wrap ((bits .and .u64 (shrK .u64 x 1) 6148914691236517205) + (bits .and .u64 x 6148914691236517205))) 2) 3689348814741910323) + (bits .and .u64 (IntKind.u64.wrap ((bits .and .u64 (shrK .u64 x 1) 6148914691236517205) + (bits .and .u64 x 6148914691236517205))) 3689348814741910323))) 4) + (IntKind.u64.wrap ((bits .and .u64 (shrK .u64 (IntKind.u64.wrap ((bits .and .u64 (shrK .u64 x 1) 6148914691236517205) + (bits .and .u64 x 6148914691236517205))) 2) 3689348814741910323) + (bits .and .u64 (IntKind.u64.wrap ((bits .and .u64 (shrK .u64 x 1) 6148914691236517205) + (bits .and .u64 x 6148914691236517205))) 3689348814741910323))))) 1085102592571150095)) rfl rfl) ?_
  refine sq 21 rfl rfl (Y_move (v := .int .u64 (bits .and .u64 (IntKind.u64.wrap ((shrK .u64 (IntKind.u64.wrap ((bits .and .u64 (shrK .u64 (IntKind.u64.wrap ((bits .and .u64 (shrK .u64 x 1) 6148914691236517205) + (bits .and .u64 x 6148914691236517205))) 2) 3689348814741910323) + (bits .and .u64 (IntKind.u64.wrap ((bits .and .u64 (shrK .u64 x 1) 6148914691236517205) + (bits .and .u64 x 6148914691236517205))) 3689348814741910323))) 4) + (IntKind.u64.wrap ((bits .and .u64 (shrK .u64 (IntKind.u64.wrap ((bits .and .u64 (shrK .u64 x 1) 6148914691236517205) + (bits .and .u64 x 6148914691236517205))) 2) 3689348814741910323) + (bits .and .u64 (IntKind.u64.wrap ((bits .and .u64 (shrK .u64 x 1) 6148914691236517205) + (bits .and .u64 x 6148914691236517205))) 3689348814741910323))))) 1085102592571150095)) rfl rfl) ?_
  refine sq 22 rfl rfl (Y_shr (k := .u64) (a := (bits .and .u64 (IntKind.u64.wrap ((shrK .u64 (IntKind.u64.wrap ((bits .and .u64 (shrK .u64 (IntKind.u64.wrap ((bits .and .u64 (shrK .u64 x 1) 6148914691236517205) + (bits .and .u64 x 6148914691236517205))) 2) 3689348814741910323) + (bits .and .u64 (IntKind.u64.wrap ((bits .and .u64 (shrK .u64 x 1) 6148914691236517205) + (bits .and .u64 x 6148914691236517205))) 3689348814741910323))) 4) + (IntKind.u64.wrap ((bits .and .u64 (shrK .u64 (IntKind.u64.wrap ((bits .and .u64 (shrK .u64 x 1) 6148914691236517205) + (bits .and .u64 x 6148914691236517205))) 2) 3689348814741910323) + (bits .and .u64 (IntKind.u64.wrap ((bits .and .u64 (shrK .u64 x 1) 6148914691236517205) + (bits .and .u64 x 6148914691236517205))) 3689348814741910323))))) 1085102592571150095)) (k' := .u64) (b := 8) rfl rfl rfl (by decide)) ?_
  refine sq 23 rfl rfl (Y_add (k := .u64) (a := (bits .and .u64 (IntKind.u64.wrap ((shrK .u64 (IntKind.u64.wrap ((bits .and .u64 (shrK .u64 (IntKind.u64.wrap ((bits .and .u64 (shrK .u64 x 1) 6148914691236517205) + (bits .and .u64 x 6148914691236517205))) 2) 3689348814741910323) + (bits .and .u64 (IntKind.u64.wrap ((bits .and .u64 (shrK .u64 x 1) 6148914691236517205) + (bits .and .u64 x 6148914691236517205))) 3689348814741910323))) 4) + (IntKind.u64.wrap ((bits .and .u64 (shrK .u64 (IntKind.u64.wrap ((bits .and .u64 (shrK .u64 x 1) 6148914691236517205) + (bits .and .u64 x 6148914691236517205))) 2) 3689348814741910323) + (bits .and .u64 (IntKind.u64.wrap ((bits .and .u64 (shrK .u64 x 1) 6148914691236517205) + (bits .and .u64 x 6148914691236517205))) 3689348814741910323))))) 1085102592571150095)) (b := (shrK .u64 (bits .and .u64 (IntKind.u64.wrap ((shrK .u64 (IntKind.u64.wrap ((bits .and .u64 (shrK .u64 (IntKind.u64.wrap ((bits .and .u64 (shrK .u64 x 1) 6148914691236517205) + (bits .and .u64 x 6148914691236517205))) 2) 3689348814741910323) + (bits .and .u64 (IntKind.u64.wrap ((bits .and .u64 (shrK .u64 x 1) 6148914691236517205) + (bits .and .u64 x 6148914691236517205))) 3689348814741910323))) 4) + (IntKind.u64.wrap ((bits .and .u64 (shrK .u64 (IntKind.u64.wrap ((bits .and .u64 (shrK .u64 x 1) 6148914691236517205) + (bits .and .u64 x 6148914691236517205))) 2) 3689348814741910323) + (bits .and .u64 (IntKind.u64.wrap ((bits .and .u64 (shrK .u64 x 1) 6148914691236517205) + (bits .and .u64 x 6148914691236517205))) 3689348814741910323))))) 1085102592571150095) 8)) rfl rfl rfl) ?_
  refine sq 0 rfl rfl (Y_assign (v := .int .u64 (IntKind.u64.wrap ((bits .and .u64 (IntKind.u64.wrap ((shrK .u64 (IntKind.u64.wrap ((bits .and .u64 (shrK .u64 (IntKind.u64.wrap ((bits .and .u64 (shrK .u64 x 1) 6148914691236517205) + (bits .and .u64 x 6148914691236517205))) 2) 3689348814741910323) + (bits .and .u64 (IntKind.u64.wrap ((bits .and .u64 (shrK .u64 x 1) 6148914691236517205) + (bits .and .u64 x 6148914691236517205))) 3689348814741910323))) 4) + (IntKind.u64.wrap ((bits .and .u64 (shrK .u64 (IntKind.u64.wrap ((bits .and .u64 (shrK .u64 x 1) 6148914691236517205) + (bits .and .u64 x 6148914691236517205))) 2) 3689348814741910323) + (bits .and .u64 (IntKind.u64.wrap ((bits .and .u64 (shrK .u64 x 1) 6148914691236517205) + (bits .and .u64 x 6148914691236517205))) 3689348814741910323))))) 1085102592571150095) + (shrK .u64 (bits .and .u64 (IntKind.u64.wrap ((shrK .u64 (IntKind.u64.wrap ((bits .and .u64 (shrK .u64 (IntKind.u64.wrap ((bits .and .u64 (shrK .u64 x 1) 6148914691236517205) + (bits .and .u64 x 6148914691236517205))) 2) 3689348814741910323) + (bits .and .u64 (IntKind.u64.wrap ((bits .and .u64 (shrK .u64 x 1) 6148914691236517205) + (bits .and .u64 x 6148914691236517205))) 3689348814741910323))) 4) + (IntKind.u64.wrap ((bits .and .u64 (shrK .u64 (IntKind.u64.wrap ((bits .and .u64 (shrK .u64 x 1) 6148914691236517205) + (bits .and .u64 x 6148914691236517205))) 2) 3689348814741910323) + (bits .and .u64 (IntKind.u64.wrap ((bits .and .u64 (shrK .u64 x 1) 6148914691236517205) + (bits .and .u64 x 6148914691236517205))) 3689348814741910323))))) 1085102592571150095) 8)))) rfl rfl) ?_
  refine rw_nil ?_
  refine cw_seq ?_
  refine cw_region ?_
  refine sq 24 rfl rfl (Y_move (v := .int .u64 (IntKind.u64.wrap ((bits .and .u64 (IntKind.u64.wrap ((shrK .u64 (IntKind.u64.wrap ((bits .and .u64 (shrK .u64 (IntKind.u64.wrap ((bits .and .u64 (shrK .u64 x 1) 6148914691236517205) + (bits .and .u64 x 6148914691236517205))) 2) 3689348814741910323) + (bits .and .u64 (IntKind.u64.wrap ((bits .and .u64 (shrK .u64 x 1) 6148914691236517205) + (bits .and .u64 x 6148914691236517205))) 3689348814741910323))) 4) + (IntKind.u64.wrap ((bits .and .u64 (shrK .u64 (IntKind.u64.wrap ((bits .and .u64 (shrK .u64 x 1) 6148914691236517205) + (bits .and .u64 x 6148914691236517205))) 2) 3689348814741910323) + (bits .and .u64 (IntKind.u64.wrap ((bits .and .u64 (shrK .u64 x 1) 6148914691236517205) + (bits .and .u64 x 6148914691236517205))) 3689348814741910323))))) 1085102592571150095) + (shrK .u64 (bits .and .u64 (IntKind.u64.wrap ((shrK .u64 (IntKind.u64.wrap ((bits .and .u64 (shrK .u64 (IntKind.u64.wrap ((bits .and .u64 (shrK .u64 x 1) 6148914691236517205) + (bits .and .u64 x 6148914691236517205))) 2) 3689348814741910323) + (bits .and .u64 (IntKind.u64.wrap ((bits .and .u64 (shrK .u64 x 1) 6148914691236517205) + (bits .and .u64 x 6148914691236517205))) 3689348814741910323))) 4) + (IntKind.u64.wrap ((bits .and .u64 (shrK .u64 (IntKind.u64.wrap ((bits .and .u64 (shrK .u64 x 1) 6148914691236517205) + (bits .and .u64 x 6148914691236517205))) 2) 3689348814741910323) + (bits .and .u64 (IntKind.u64.wrap ((bits .and .u64 (shrK .u64 x 1) 6148914691236517205) + (bits .and .u64 x 6148914691236517205))) 3689348814741910323))))) 1085102592571150095) 8)))) rfl rfl) ?_
  refine sq 25 rfl rfl (Y_move (v := .int .u64 (IntKind.u64.wrap ((bits .and .u64 (IntKind.u64.wrap ((shrK .u64 (IntKind.u64.wrap ((bits .and .u64 (shrK .u64 (IntKind.u64.wrap ((bits .and .u64 (shrK .u64 x 1) 6148914691236517205) + (bits .and .u64 x 6148914691236517205))) 2) 3689348814741910323) + (bits .and .u64 (IntKind.u64.wrap ((bits .and .u64 (shrK .u64 x 1) 6148914691236517205) + (bits .and .u64 x 6148914691236517205))) 3689348814741910323))) 4) + (IntKind.u64.wrap ((bits .and .u64 (shrK .u64 (IntKind.u64.wrap ((bits .and .u64 (shrK .u64 x 1) 6148914691236517205) + (bits .and .u64 x 6148914691236517205))) 2) 3689348814741910323) + (bits .and .u64 (IntKind.u64.wrap ((bits .and .u64 (shrK .u64 x 1) 6148914691236517205) + (bits .and .u64 x 6148914691236517205))) 3689348814741910323))))) 1085102592571150095) + (shrK .u64 (bits .and .u64 (IntKind.u64.wrap ((shrK .u64 (IntKind.u64.wrap ((bits .and .u64 (shrK .u64 (IntKind.u64.wrap ((bits .and .u64 (shrK .u64 x 1) 6148914691236517205) + (bits .and .u64 x 6148914691236517205))) 2) 3689348814741910323) + (bits .and .u64 (IntKind.u64.wrap ((bits .and .u64 (shrK .u64 x 1) 6148914691236517205) + (bits .and .u64 x 6148914691236517205))) 3689348814741910323))) 4) + (IntKind.u64.wrap ((bits .and .u64 (shrK .u64 (IntKind.u64.wrap ((bits .and .u64 (shrK .u64 x 1) 6148914691236517205) + (bits .and .u64 x 6148914691236517205))) 2) 3689348814741910323) + (bits .and .u64 (IntKind.u64.wrap ((bits .and .u64 (shrK .u64 x 1) 6148914691236517205) + (bits .and .u64 x 6148914691236517205))) 3689348814741910323))))) 1085102592571150095) 8)))) rfl rfl) ?_
  refine sq 26 rfl rfl (Y_shr (k := .u64) (a := (IntKind.u64.wrap ((bits .and .u64 (IntKind.u64.wrap ((shrK .u64 (IntKind.u64.wrap ((bits .and .u64 (shrK .u64 (IntKind.u64.wrap ((bits .and .u64 (shrK .u64 x 1) 6148914691236517205) + (bits .and .u64 x 6148914691236517205))) 2) 3689348814741910323) + (bits .and .u64 (IntKind.u64.wrap ((bits .and .u64 (shrK .u64 x 1) 6148914691236517205) + (bits .and .u64 x 6148914691236517205))) 3689348814741910323))) 4) + (IntKind.u64.wrap ((bits .and .u64 (shrK .u64 (IntKind.u64.wrap ((bits .and .u64 (shrK .u64 x 1) 6148914691236517205) + (bits .and .u64 x 6148914691236517205))) 2) 3689348814741910323) + (bits .and .u64 (IntKind.u64.wrap ((bits .and .u64 (shrK .u64 x 1) 6148914691236517205) + (bits .and .u64 x 6148914691236517205))) 3689348814741910323))))) 1085102592571150095) + (shrK .u64 (bits .and .u64 (IntKind.u64.wrap ((shrK .u64 (IntKind.u64.wrap ((bits .and .u64 (shrK .u64 (IntKind.u64.wrap ((bits .and .u64 (shrK .u64 x 1) 6148914691236517205) + (bits .and .u64 x 6148914691236517205))) 2) 3689348814741910323) + (bits .and .u64 (IntKind.u64.wrap ((bits .and .u64 (shrK .u64 x 1) 6148914691236517205) + (bits .and .u64 x 6148914691236517205))) 3689348814741910323))) 4) + (IntKind.u64.wrap ((bits .and .u64 (shrK .u64 (IntKind.u64.wrap ((bits .and .u64 (shrK .u64 x 1) 6148914691236517205) + (bits .and .u64 x 6148914691236517205))) 2) 3689348814741910323) + (bits .and .u64 (IntKind.u64.wrap ((bits .and .u64 (shrK .u64 x 1) 6148914691236517205) + (bits .and .u64 x 6148914691236517205))) 3689348814741910323))))) 1085102592571150095) 8)))) (k' := .u64) (b := 16) rfl rfl rfl (by decide)) ?_
  refine sq 27 rfl rfl (Y_add (k := .u64) (a := (IntKind.u64.wrap ((bits .and .u64 (IntKind.u64.wrap ((shrK .u64 (IntKind.u64.wrap ((bits .and .u64 (shrK .u64 (IntKind.u64.wrap ((bits .and .u64 (shrK .u64 x 1) 6148914691236517205) + (bits .and .u64 x 6148914691236517205))) 2) 3689348814741910323) + (bits .and .u64 (IntKind.u64.wrap ((bits .and .u64 (shrK .u64 x 1) 6148914691236517205) + (bits .and .u64 x 6148914691236517205))) 3689348814741910323))) 4) + (IntKind.u64.wrap ((bits .and .u64 (shrK .u64 (IntKind.u64.wrap ((bits .and .u64 (shrK .u64 x 1) 6148914691236517205) + (bits .and .u64 x 6148914691236517205))) 2) 3689348814741910323) + (bits .and .u64 (IntKind.u64.wrap ((bits .and .u64 (shrK .u64 x 1) 6148914691236517205) + (bits .and .u64 x 6148914691236517205))) 3689348814741910323))))) 1085102592571150095) + (shrK .u64 (bits .and .u64 (IntKind.u64.wrap ((shrK .u64 (IntKind.u64.wrap ((bits .and .u64 (shrK .u64 (IntKind.u64.wrap ((bits .and .u64 (shrK .u64 x 1) 6148914691236517205) + (bits .and .u64 x 6148914691236517205))) 2) 3689348814741910323) + (bits .and .u64 (IntKind.u64.wrap ((bits .and .u64 (shrK .u64 x 1) 6148914691236517205) + (bits .and .u64 x 6148914691236517205))) 3689348814741910323))) 4) + (IntKind.u64.wrap ((bits .and .u64 (shrK .u64 (IntKind.u64.wrap ((bits .and .u64 (shrK .u64 x 1) 6148914691236517205) + (bits .and .u64 x 6148914691236517205))) 2) 3689348814741910323) + (bits .and .u64 (IntKind.u64.wrap ((bits .and .u64 (shrK .u64 x 1) 6148914691236517205) + (bits .and .u64 x 6148914691236517205))) 3689348814741910323))))) 1085102592571150095) 8)))) (b := (shrK .u64 (IntKind.u64.wrap ((bits .and .u64 (IntKind.u64.wrap ((shrK .u64 (IntKind.u64.wrap ((bits .and .u64 (shrK .u64 (IntKind.u64.wrap ((bits .and .u64 (shrK .u64 x 1) 6148914691236517205) + (bits .and .u64 x 6148914691236517205))) 2) 3689348814741910323) + (bits .and .u64 (IntKind.u64.wrap ((bits .and .u64 (shrK .u64 x 1) 6148914691236517205) + (bits .and .u64 x 6148914691236517205))) 3689348814741910323))) 4) + (IntKind.u64.wrap ((bits .and .u64 (shrK .u64 (IntKind.u64.wrap ((bits .and .u64 (shrK .u64 x 1) 6148914691236517205) + (bits .and .u64 x 6148914691236517205))) 2) 3689348814741910323) + (bits .and .u64 (IntKind.u64.wrap ((bits .and .u64 (shrK .u64 x 1) 6148914691236517205) + (bits .and .u64 x 6148914691236517205))) 3689348814741910323))))) 1085102592571150095) + (shrK .u64 (bits .and .u64 (IntKind.u64.wrap ((shrK .u64 (IntKind.u64.wrap ((bits .and .u64 (shrK .u64 (IntKind.u64.wrap ((bits .and .u64 (shrK .u64 x 1) 6148914691236517205) + (bits .and .u64 x 6148914691236517205))) 2) 3689348814741910323) + (bits .and .u64 (IntKind.u64.wrap ((bits .and .u64 (shrK .u64 x 1) 6148914691236517205) + (bits .and .u64 x 6148914691236517205))) 3689348814741910323))) 4) + (IntKind.u64.wrap ((bits .and .u64 (shrK .u64 (IntKind.u64.wrap ((bits .and .u64 (shrK .u64 x 1) 6148914691236517205) + (bits .and .u64 x 6148914691236517205))) 2) 3689348814741910323) + (bits .and .u64 (IntKind.u64.wrap ((bits .and .u64 (shrK .u64 x 1) 6148914691236517205) + (bits .and .u64 x 6148914691236517205))) 3689348814741910323))))) 1085102592571150095) 8))) 16)) rfl rfl rfl) ?_
  refine sq 0 rfl rfl (Y_assign (v := .int .u64 (IntKind.u64.wrap ((IntKind.u64.wrap ((bits .and .u64 (IntKind.u64.wrap ((shrK .u64 (IntKind.u64.wrap ((bits .and .u64 (shrK .u64 (IntKind.u64.wrap ((bits .and .u64 (shrK .u64 x 1) 6148914691236517205) + (bits .and .u64 x 6148914691236517205))) 2) 3689348814741910323) + (bits .and .u64 (IntKind.u64.wrap ((bits .and .u64 (shrK .u64 x 1) 6148914691236517205) + (bits .and .u64 x 6148914691236517205))) 3689348814741910323))) 4) + (IntKind.u64.wrap ((bits .and .u64 (shrK .u64 (IntKind.u64.wrap ((bits .and .u64 (shrK .u64 x 1) 6148914691236517205) + (bits .and .u64 x 6148914691236517205))) 2) 3689348814741910323) + (bits .and .u64 (IntKind.u64.wrap ((bits .and .u64 (shrK .u64 x 1) 6148914691236517205) + (bits .and .u64 x 6148914691236517205))) 3689348814741910323))))) 1085102592571150095) + (shrK .u64 (bits .and .u64 (IntKind.u64.wrap ((shrK .u64 (IntKind.u64.wrap ((bits .and .u64 (shrK .u64 (IntKind.u64.wrap ((bits .and .u64 (shrK .u64 x 1) 6148914691236517205) + (bits .and .u64 x 6148914691236517205))) 2) 3689348814741910323) + (bits .and .u64 (IntKind.u64.wrap ((bits .and .u64 (shrK .u64 x 1) 6148914691236517205) + (bits .and .u64 x 6148914691236517205))) 3689348814741910323))) 4) + (IntKind.u64.wrap ((bits .and .u64 (shrK .u64 (IntKind.u64.wrap ((bits .and .u64 (shrK .u64 x 1) 6148914691236517205) + (bits .and .u64 x 6148914691236517205))) 2) 3689348814741910323) + (bits .and .u64 (IntKind.u64.wrap ((bits .and .u64 (shrK .u64 x 1) 6148914691236517205) + (bits .and .u64 x 6148914691236517205))) 3689348814741910323))))) 1085102592571150095) 8))) + (shrK .u64 (IntKind.u64.wrap ((bits .and .u64 (IntKind.u64.wrap ((shrK .u64 (IntKind.u64.wrap ((bits .and .u64 (shrK .u64 (IntKind.u64.wrap ((bits .and .u64 (shrK .u64 x 1) 6148914691236517205) + (bits .and .u64 x 6148914691236517205))) 2) 3689348814741910323) + (bits .and .u64 (IntKind.u64.wrap ((bits .and .u64 (shrK .u64 x 1) 6148914691236517205) + (bits .and .u64 x 6148914691236517205))) 3689348814741910323))) 4) + (IntKind.u64.wrap ((bits .and .u64 (shrK .u64 (IntKind.u64.wrap ((bits .and .u64 (shrK .u64 x 1) 6148914691236517205) + (bits .and .u64 x 6148914691236517205))) 2) 3689348814741910323) + (bits .and .u64 (IntKind.u64.wrap ((bits .and .u64 (shrK .u64 x 1) 6148914691236517205) + (bits .and .u64 x 6148914691236517205))) 3689348814741910323))))) 1085102592571150095) + (shrK .u64 (bits .and .u64 (IntKind.u64.wrap ((shrK .u64 (IntKind.u64.wrap ((bits .and .u64 (shrK .u64 (IntKind.u64.wrap ((bits .and .u64 (shrK .u64 x 1) 6148914691236517205) + (bits .and .u64 x 6148914691236517205))) 2) 3689348814741910323) + (bits .and .u64 (IntKind.u64.wrap ((bits .and .u64 (shrK .u64 x 1) 6148914691236517205) + (bits .and .u64 x 6148914691236517205))) 3689348814741910323))) 4) + (IntKind.u64.wrap ((bits .and .u64 (shrK .u64 (IntKind.u64.wrap ((bits .and .u64 (shrK .u64 x 1) 6148914691236517205) + (bits .and .u64 x 6148914691236517205))) 2) 3689348814741910323) + (bits .and .u64 (IntKind.u64.wrap ((bits .and .u64 (shrK .u64 x 1) 6148914691236517205) + (bits .and .u64 x 6148914691236517205))) 3689348814741910323))))) 1085102592571150095) 8))) 16)))) rfl rfl) ?_
  refine rw_nil ?_
  refine cw_seq ?_
  refine cw_region ?_
  refine sq 28 rfl rfl (Y_move (v := .int .u64 (IntKind.u64.wrap ((IntKind.u64.wrap ((bits .and .u64 (IntKind.u64.wrap ((shrK .u64 (IntKind.u64.wrap ((bits .and .u64 (shrK .u64 (IntKind.u64.wrap ((bits .and .u64 (shrK .u64 x 1) 6148914691236517205) + (bits .and .u64 x 6148914691236517205))) 2) 3689348814741910323) + (bits .and .u64 (IntKind.u64.wrap ((bits .and .u64 (shrK .u64 x 1) 6148914691236517205) + (bits .and .u64 x 6148914691236517205))) 3689348814741910323))) 4) + (IntKind.u64.wrap ((bits .and .u64 (shrK .u64 (IntKind.u64.wrap ((bits .and .u64 (shrK .u64 x 1) 6148914691236517205) + (bits .and .u64 x 6148914691236517205))) 2) 3689348814741910323) + (bits .and .u64 (IntKind.u64.wrap ((bits .and .u64 (shrK .u64 x 1) 6148914691236517205) + (bits .and .u64 x 6148914691236517205))) 3689348814741910323))))) 1085102592571150095) + (shrK .u64 (bits .and .u64 (IntKind.u64.wrap ((shrK .u64 (IntKind.u64.wrap ((bits .and .u64 (shrK .u64 (IntKind.u64.wrap ((bits .and .u64 (shrK .u64 x 1) 6148914691236517205) + (bits .and .u64 x 6148914691236517205))) 2) 3689348814741910323) + (bits .and .u64 (IntKind.u64.wrap ((bits .and .u64 (shrK .u64 x 1) 6148914691236517205) + (bits .and .u64 x 6148914691236517205))) 3689348814741910323))) 4) + (IntKind.u64.wrap ((bits .and .u64 (shrK .u64 (IntKind.u64.wrap ((bits .and .u64 (shrK .u64 x 1) 6148914691236517205) + (bits .and .u64 x 6148914691236517205))) 2) 3689348814741910323) + (bits .and .u64 (IntKind.u64.wrap ((bits .and .u64 (shrK .u64 x 1) 6148914691236517205) + (bits .and .u64 x 6148914691236517205))) 3689348814741910323))))) 1085102592571150095) 8))) + (shrK .u64 (IntKind.u64.wrap ((bits .and .u64 (IntKind.u64.wrap ((shrK .u64 (IntKind.u64.wrap ((bits .and .u64 (shrK .u64 (IntKind.u64.wrap ((bits .and .u64 (shrK .u64 x 1) 6148914691236517205) + (bits .and .u64 x 6148914691236517205))) 2) 3689348814741910323) + (bits .and .u64 (IntKind.u64.wrap ((bits .and .u64 (shrK .u64 x 1) 6148914691236517205) + (bits .and .u64 x 6148914691236517205))) 3689348814741910323))) 4) + (IntKind.u64.wrap ((bits .and .u64 (shrK .u64 (IntKind.u64.wrap ((bits .and .u64 (shrK .u64 x 1) 6148914691236517205) + (bits .and .u64 x 6148914691236517205))) 2) 3689348814741910323) + (bits .and .u64 (IntKind.u64.wrap ((bits .and .u64 (shrK .u64 x 1) 6148914691236517205) + (bits .and .u64 x 6148914691236517205))) 3689348814741910323))))) 1085102592571150095) + (shrK .u64 (bits .and .u64 (IntKind.u64.wrap ((shrK .u64 (IntKind.u64.wrap ((bits .and .u64 (shrK .u64 (IntKind.u64.wrap ((bits .and .u64 (shrK .u64 x 1) 6148914691236517205) + (bits .and .u64 x 6148914691236517205))) 2) 3689348814741910323) + (bits .and .u64 (IntKind.u64.wrap ((bits .and .u64 (shrK .u64 x 1) 6148914691236517205) + (bits .and .u64 x 6148914691236517205))) 3689348814741910323))) 4) + (IntKind.u64.wrap ((bits .and .u64 (shrK .u64 (IntKind.u64.wrap ((bits .and .u64 (shrK .u64 x 1) 6148914691236517205) + (bits .and .u64 x 6148914691236517205))) 2) 3689348814741910323) + (bits .and .u64 (IntKind.u64.wrap ((bits .and .u64 (shrK .u64 x 1) 6148914691236517205) + (bits .and .u64 x 6148914691236517205))) 3689348814741910323))))) 1085102592571150095) 8))) 16)))) rfl rfl) ?_
  refine sq 29 rfl rfl (Y_move (v := .int .u64 (IntKind.u64.wrap ((IntKind.u64.wrap ((bits .and .u64 (IntKind.u64.wrap ((shrK .u64 (IntKind.u64.wrap ((bits .and .u64 (shrK .u64 (IntKind.u64.wrap ((bits .and .u64 (shrK .u64 x 1) 6148914691236517205) + (bits .and .u64 x 6148914691236517205))) 2) 3689348814741910323) + (bits .and .u64 (IntKind.u64.wrap ((bits .and .u64 (shrK .u64 x 1) 6148914691236517205) + (bits .and .u64 x 6148914691236517205))) 3689348814741910323))) 4) + (IntKind.u64.wrap ((bits .and .u64 (shrK .u64 (IntKind.u64.wrap ((bits .and .u64 (shrK .u64 x 1) 6148914691236517205) + (bits .and .u64 x 6148914691236517205))) 2) 3689348814741910323) + (bits .and .u64 (IntKind.u64.wrap ((bits .and .u64 (shrK .u64 x 1) 6148914691236517205) + (bits .and .u64 x 6148914691236517205))) 3689348814741910323))))) 1085102592571150095) + (shrK .u64 (bits .and .u64 (IntKind.u64.wrap ((shrK .u64 (IntKind.u64.wrap ((bits .and .u64 (shrK .u64 (IntKind.u64.wrap ((bits .and .u64 (shrK .u64 x 1) 6148914691236517205) + (bits .and .u64 x 6148914691236517205))) 2) 3689348814741910323) + (bits .and .u64 (IntKind.u64.wrap ((bits .and .u64 (shrK .u64 x 1) 6148914691236517205) + (bits .and .u64 x 6148914691236517205))) 3689348814741910323))) 4) + (IntKind.u64.wrap ((bits .and .u64 (shrK .u64 (IntKind.u64.wrap ((bits .and .u64 (shrK .u64 x 1) 6148914691236517205) + (bits .and .u64 x 6148914691236517205))) 2) 3689348814741910323) + (bits .and .u64 (IntKind.u64.wrap ((bits .and .u64 (shrK .u64 x 1) 6148914691236517205) + (bits .and .u64 x 6148914691236517205))) 3689348814741910323))))) 1085102592571150095) 8))) + (shrK .u64 (IntKind.u64.wrap ((bits .and .u64 (IntKind.u64.wrap ((shrK .u64 (IntKind.u64.wrap ((bits .and .u64 (shrK .u64 (IntKind.u64.wrap ((bits .and .u64 (shrK .u64 x 1) 6148914691236517205) + (bits .and .u64 x 6148914691236517205))) 2) 3689348814741910323) + (bits .and .u64 (IntKind.u64.wrap ((bits .and .u64 (shrK .u64 x 1) 6148914691236517205) + (bits .and .u64 x 6148914691236517205))) 3689348814741910323))) 4) + (IntKind.u64.wrap ((bits .and .u64 (shrK .u64 (IntKind.u64.wrap ((bits .and .u64 (shrK .u64 x 1) 6148914691236517205) + (bits .and .u64 x 6148914691236517205))) 2) 3689348814741910323) + (bits .and .u64 (IntKind.u64.wrap ((bits .and .u64 (shrK .u64 x 1) 6148914691236517205) + (bits .and .u64 x 6148914691236517205))) 3689348814741910323))))) 1085102592571150095) + (shrK .u64 (bits .and .u64 (IntKind.u64.wrap ((shrK .u64 (IntKind.u64.wrap ((bits .and .u64 (shrK .u64 (IntKind.u64.wrap ((bits .and .u64 (shrK .u64 x 1) 6148914691236517205) + (bits .and .u64 x 6148914691236517205))) 2) 3689348814741910323) + (bits .and .u64 (IntKind.u64.wrap ((bits .and .u64 (shrK .u64 x 1) 6148914691236517205) + (bits .and .u64 x 6148914691236517205))) 3689348814741910323))) 4) + (IntKind.u64.wrap ((bits .and .u64 (shrK .u64 (IntKind.u64.wrap ((bits .and .u64 (shrK .u64 x 1) 6148914691236517205) + (bits .and .u64 x 6148914691236517205))) 2) 3689348814741910323) + (bits .and .u64 (IntKind.u64.wrap ((bits .and .u64 (shrK .u64 x 1) 6148914691236517205) + (bits .and .u64 x 6148914691236517205))) 3689348814741910323))))) 1085102592571150095) 8))) 16)))) rfl rfl) ?_
  refine sq 30 rfl rfl (Y_shr (k := .u64) (a := (IntKind.u64.wrap ((IntKind.u64.wrap ((bits .and .u64 (IntKind.u64.wrap ((shrK .u64 (IntKind.u64.wrap ((bits .and .u64 (shrK .u64 (IntKind.u64.wrap ((bits .and .u64 (shrK .u64 x 1) 6148914691236517205) + (bits .and .u64 x 6148914691236517205))) 2) 3689348814741910323) + (bits .and .u64 (IntKind.u64.wrap ((bits .and .u64 (shrK .u64 x 1) 6148914691236517205) + (bits .and .u64 x 6148914691236517205))) 3689348814741910323))) 4) + (IntKind.u64.wrap ((bits .and .u64 (shrK .u64 (IntKind.u64.wrap ((bits .and .u64 (shrK .u64 x 1) 6148914691236517205) + (bits .and .u64 x 6148914691236517205))) 2) 3689348814741910323) + (bits .and .u64 (IntKind.u64.wrap ((bits .and .u64 (shrK .u64 x 1) 6148914691236517205) + (bits .and .u64 x 6148914691236517205))) 3689348814741910323))))) 1085102592571150095) + (shrK .u64 (bits .and .u64 (IntKind.u64.wrap ((shrK .u64 (IntKind.u64.wrap ((bits .and .u64 (shrK .u64 (IntKind.u64.wrap ((bits .and .u64 (shrK .u64 x 1) 6148914691236517205) + (bits .and .u64 x 6148914691236517205))) 2) 3689348814741910323) + (bits .and .u64 (IntKind.u64.wrap ((bits .and .u64 (shrK .u64 x 1) 6148914691236517205) + (bits .and .u64 x 6148914691236517205))) 3689348814741910323))) 4) + (IntKind.u64.wrap ((bits .and .u64 (shrK .u64 (IntKind.u64.wrap ((bits .and .u64 (shrK .u64 x 1) 6148914691236517205) + (bits .and .u64 x 6148914691236517205))) 2) 3689348814741910323) + (bits .and .u64 (IntKind.u64.wrap ((bits .and .u64 (shrK .u64 x 1) 6148914691236517205) + (bits .and .u64 x 6148914691236517205))) 3689348814741910323))))) 1085102592571150095) 8))) + (shrK .u64 (IntKind.u64.wrap ((bits .and .u64 (IntKind.u64.wrap ((shrK .u64 (IntKind.u64.wrap ((bits .and .u64 (shrK .u64 (IntKind.u64.wrap ((bits .and .u64 (shrK .u64 x 1) 6148914691236517205) + (bits .and .u64 x 6148914691236517205))) 2) 3689348814741910323) + (bits .and .u64 (IntKind.u64.wrap ((bits .and .u64 (shrK .u64 x 1) 6148914691236517205) + (bits .and .u64 x 6148914691236517205))) 3689348814741910323))) 4) + (IntKind.u64.wrap ((bits .and .u64 (shrK .u64 (IntKind.u64.wrap ((bits .and .u64 (shrK .u64 x 1) 6148914691236517205) + (bits .and .u64 x 6148914691236517205))) 2) 3689348814741910323) + (bits .and .u64 (IntKind.u64.wrap ((bits .and .u64 (shrK .u64 x 1) 6148914691236517205) + (bits .and .u64 x 6148914691236517205))) 3689348814741910323))))) 1085102592571150095) + (shrK .u64 (bits .and .u64 (IntKind.u64.wrap ((shrK .u64 (IntKind.u64.wrap ((bits .and .u64 (shrK .u64 (IntKind.u64.wrap ((bits .and .u64 (shrK .u64 x 1) 6148914691236517205) + (bits .and .u64 x 6148914691236517205))) 2) 3689348814741910323) + (bits .and .u64 (IntKind.u64.wrap ((bits .and .u64 (shrK .u64 x 1) 6148914691236517205) + (bits .and .u64 x 6148914691236517205))) 3689348814741910323))) 4) + (IntKind.u64.wrap ((bits .and .u64 (shrK .u64 (IntKind.u64.wrap ((bits .and .u64 (shrK .u64 x 1) 6148914691236517205) + (bits .and .u64 x 6148914691236517205))) 2) 3689348814741910323) + (bits .and .u64 (IntKind.u64.wrap ((bits .and .u64 (shrK .u64 x 1) 6148914691236517205) + (bits .and .u64 x 6148914691236517205))) 3689348814741910323))))) 1085102592571150095) 8))) 16)))) (k' := .u64) (b := 32) rfl rfl rfl (by decide)) ?_
  refine sq 31 rfl rfl (Y_add (k := .u64) (a := (IntKind.u64.wrap ((IntKind.u64.wrap ((bits .and .u64 (IntKind.u64.wrap ((shrK .u64 (IntKind.u64.wrap ((bits .and .u64 (shrK .u64 (IntKind.u64.wrap ((bits .and .u64 (shrK .u64 x 1) 6148914691236517205) + (bits .and .u64 x 6148914691236517205))) 2) 3689348814741910323) + (bits .and .u64 (IntKind.u64.wrap ((bits .and .u64 (shrK .u64 x 1) 6148914691236517205) + (bits .and .u64 x 6148914691236517205))) 3689348814741910323))) 4) + (IntKind.u64.wrap ((bits .and .u64 (shrK .u64 (IntKind.u64.wrap ((bits .and .u64 (shrK .u64 x 1) 6148914691236517205) + (bits .and .u64 x 6148914691236517205))) 2) 3689348814741910323) + (bits .and .u64 (IntKind.u64.wrap ((bits .and .u64 (shrK .u64 x 1) 6148914691236517205) + (bits .and .u64 x 6148914691236517205))) 3689348814741910323))))) 1085102592571150095) + (shrK .u64 (bits .and .u64 (IntKind.u64.wrap ((shrK .u64 (IntKind.u64.wrap ((bits .and .u64 (shrK .u64 (IntKind.u64.wrap ((bits .and .u64 (shrK .u64 x 1) 6148914691236517205) + (bits .and .u64 x 6148914691236517205))) 2) 3689348814741910323) + (bits .and .u64 (IntKind.u64.wrap ((bits .and .u64 (shrK .u64 x 1) 6148914691236517205) + (bits .and .u64 x 6148914691236517205))) 3689348814741910323))) 4) + (IntKind.u64.wrap ((bits .and .u64 (shrK .u64 (IntKind.u64.wrap ((bits .and .u64 (shrK .u64 x 1) 6148914691236517205) + (bits .and .u64 x 6148914691236517205))) 2) 3689348814741910323) + (bits .and .u64 (IntKind.u64.wrap ((bits .and .u64 (shrK .u64 x 1) 6148914691236517205) + (bits .and .u64 x 6148914691236517205))) 3689348814741910323))))) 1085102592571150095) 8))) + (shrK .u64 (IntKind.u64.wrap ((bits .and .u64 (IntKind.u64.wrap ((shrK .u64 (IntKind.u64.wrap ((bits .and .u64 (shrK .u64 (IntKind.u64.wrap ((bits .and .u64 (shrK .u64 x 1) 6148914691236517205) + (bits .and .u64 x 6148914691236517205))) 2) 3689348814741910323) + (bits .and .u64 (IntKind.u64.wrap ((bits .and .u64 (shrK .u64 x 1) 6148914691236517205) + (bits .and .u64 x 6148914691236517205))) 3689348814741910323))) 4) + (IntKind.u64.wrap ((bits .and .u64 (shrK .u64 (IntKind.u64.wrap ((bits .and .u64 (shrK .u64 x 1) 6148914691236517205) + (bits .and .u64 x 6148914691236517205))) 2) 3689348814741910323) + (bits .and .u64 (IntKind.u64.wrap ((bits .and .u64 (shrK .u64 x 1) 6148914691236517205) + (bits .and .u64 x 6148914691236517205))) 3689348814741910323))))) 1085102592571150095) + (shrK .u64 (bits .and .u64 (IntKind.u64.wrap ((shrK .u64 (IntKind.u64.wrap ((bits .and .u64 (shrK .u64 (IntKind.u64.wrap ((bits .and .u64 (shrK .u64 x 1) 6148914691236517205) + (bits .and .u64 x 6148914691236517205))) 2) 3689348814741910323) + (bits .and .u64 (IntKind.u64.wrap ((bits .and .u64 (shrK .u64 x 1) 6148914691236517205) + (bits .and .u64 x 6148914691236517205))) 3689348814741910323))) 4) + (IntKind.u64.wrap ((bits .and .u64 (shrK .u64 (IntKind.u64.wrap ((bits .and .u64 (shrK .u64 x 1) 6148914691236517205) + (bits .and .u64 x 6148914691236517205))) 2) 3689348814741910323) + (bits .and .u64 (IntKind.u64.wrap ((bits .and .u64 (shrK .u64 x 1) 6148914691236517205) + (bits .and .u64 x 6148914691236517205))) 3689348814741910323))))) 1085102592571150095) 8))) 16)))) (b := (shrK .u64 (IntKind.u64.wrap ((IntKind.u64.wrap ((bits .and .u64 (IntKind.u64.wrap ((shrK .u64 (IntKind.u64.wrap ((bits .and .u64 (shrK .u64 (IntKind.u64.wrap ((bits .and .u64 (shrK .u64 x 1) 6148914691236517205) + (bits .and .u64 x 6148914691236517205))) 2) 3689348814741910323) + (bits .and .u64 (IntKind.u64.wrap ((bits .and .u64 (shrK .u64 x 1) 6148914691236517205) + (bits .and .u64 x 6148914691236517205))) 3689348814741910323))) 4) + (IntKind.u64.wrap ((bits .and .u64 (shrK .u64 (IntKind.u64.wrap ((bits .and .u64 (shrK .u64 x 1) 6148914691236517205) + (bits .and .u64 x 6148914691236517205))) 2) 3689348814741910323) + (bits .and .u64 (IntKind.u64.wrap ((bits .and .u64 (shrK .u64 x 1) 6148914691236517205) + (bits .and .u64 x 6148914691236517205))) 3689348814741910323))))) 1085102592571150095) + (shrK .u64 (bits .and .u64 (IntKind.u64.wrap ((shrK .u64 (IntKind.u64.wrap ((bits .and .u64 (shrK .u64 (IntKind.u64.wrap ((bits .and .u64 (shrK .u64 x 1) 6148914691236517205) + (bits .and .u64 x 6148914691236517205))) 2) 3689348814741910323) + (bits .and .u64 (IntKind.u64.wrap ((bits .and .u64 (shrK .u64 x 1) 6148914691236517205) + (bits .and .u64 x 6148914691236517205))) 3689348814741910323))) 4) + (IntKind.u64.wrap ((bits .and .u64 (shrK .u64 (IntKind.u64.wrap ((bits .and .u64 (shrK .u64 x 1) 6148914691236517205) + (bits .and .u64 x 6148914691236517205))) 2) 3689348814741910323) + (bits .and .u64 (IntKind.u64.wrap ((bits .and .u64 (shrK .u64 x 1) 6148914691236517205) + (bits .and .u64 x 6148914691236517205))) 3689348814741910323))))) 1085102592571150095) 8))) + (shrK .u64 (IntKind.u64.wrap ((bits .and .u64 (IntKind.u64.wrap ((shrK .u64 (IntKind.u64.wrap ((bits .and .u64 (shrK .u64 (IntKind.u64.wrap ((bits .and .u64 (shrK .u64 x 1) 6148914691236517205) + (bits .and .u64 x 6148914691236517205))) 2) 3689348814741910323) + (bits .and .u64 (IntKind.u64.wrap ((bits .and .u64 (shrK .u64 x 1) 6148914691236517205) + (bits .and .u64 x 6148914691236517205))) 3689348814741910323))) 4) + (IntKind.u64.wrap ((bits .and .u64 (shrK .u64 (IntKind.u64.wrap ((bits .and .u64 (shrK .u64 x 1) 6148914691236517205) + (bits .and .u64 x 6148914691236517205))) 2) 3689348814741910323) + (bits .and .u64 (IntKind.u64.wrap ((bits .and .u64 (shrK .u64 x 1) 6148914691236517205) + (bits .and .u64 x 6148914691236517205))) 3689348814741910323))))) 1085102592571150095) + (shrK .u64 (bits .and .u64 (IntKind.u64.wrap ((shrK .u64 (IntKind.u64.wrap ((bits .and .u64 (shrK .u64 (IntKind.u64.wrap ((bits .and .u64 (shrK .u64 x 1) 6148914691236517205) + (bits .and .u64 x 6148914691236517205))) 2) 3689348814741910323) + (bits .and .u64 (IntKind.u64.wrap ((bits .and .u64 (shrK .u64 x 1) 6148914691236517205) + (bits .and .u64 x 6148914691236517205))) 3689348814741910323))) 4) + (IntKind.u64.wrap ((bits .and .u64 (shrK .u64 (IntKind.u64.wrap ((bits .and .u64 (shrK .u64 x 1) 6148914691236517205) + (bits .and .u64 x 6148914691236517205))) 2) 3689348814741910323) + (bits .and .u64 (IntKind.u64.wrap ((bits .and .u64 (shrK .u64 x 1) 6148914691236517205) + (bits .and .u64 x 6148914691236517205))) 3689348814741910323))))) 1085102592571150095) 8))) 16))) 32)) rfl rfl rfl) ?_
  refine sq 0 rfl rfl (Y_assign (v := .int .u64 (IntKind.u64.wrap ((IntKind.u64.wrap ((IntKind.u64.wrap ((bits .and .u64 (IntKind.u64.wrap ((shrK .u64 (IntKind.u64.wrap ((bits .and .u64 (shrK .u64 (IntKind.u64.wrap ((bits .and .u64 (shrK .u64 x 1) 6148914691236517205) + (bits .and .u64 x 6148914691236517205))) 2) 3689348814741910323) + (bits .and .u64 (IntKind.u64.wrap ((bits .and .u64 (shrK .u64 x 1) 6148914691236517205) + (bits .and .u64 x 6148914691236517205))) 3689348814741910323))) 4) + (IntKind.u64.wrap ((bits .and .u64 (shrK .u64 (IntKind.u64.wrap ((bits .and .u64 (shrK .u64 x 1) 6148914691236517205) + (bits .and .u64 x 6148914691236517205))) 2) 3689348814741910323) + (bits .and .u64 (IntKind.u64.wrap ((bits .and .u64 (shrK .u64 x 1) 6148914691236517205) + (bits .and .u64 x 6148914691236517205))) 3689348814741910323))))) 1085102592571150095) + (shrK .u64 (bits .and .u64 (IntKind.u64.wrap ((shrK .u64 (IntKind.u64.wrap ((bits .and .u64 (shrK .u64 (IntKind.u64.wrap ((bits .and .u64 (shrK .u64 x 1) 6148914691236517205) + (bits .and .u64 x 6148914691236517205))) 2) 3689348814741910323) + (bits .and .u64 (IntKind.u64.wrap ((bits .and .u64 (shrK .u64 x 1) 6148914691236517205) + (bits .and .u64 x 6148914691236517205))) 3689348814741910323))) 4) + (IntKind.u64.wrap ((bits .and .u64 (shrK .u64 (IntKind.u64.wrap ((bits .and .u64 (shrK .u64 x 1) 6148914691236517205) + (bits .and .u64 x 6148914691236517205))) 2) 3689348814741910323) + (bits .and .u64 (IntKind.u64.wrap ((bits .and .u64 (shrK .u64 x 1) 6148914691236517205) + (bits .and .u64 x 6148914691236517205))) 3689348814741910323))))) 1085102592571150095) 8))) + (shrK .u64 (IntKind.u64.wrap ((bits .and .u64 (IntKind.u64.wrap ((shrK .u64 (IntKind.u64.wrap ((bits .and .u64 (shrK .u64 (IntKind.u64.wrap ((bits .and .u64 (shrK .u64 x 1) 6148914691236517205) + (bits .and .u64 x 6148914691236517205))) 2) 3689348814741910323) + (bits .and .u64 (IntKind.u64.wrap ((bits .and .u64 (shrK .u64 x 1) 6148914691236517205) + (bits .and .u64 x 6148914691236517205))) 3689348814741910323))) 4) + (IntKind.u64.wrap ((bits .and .u64 (shrK .u64 (IntKind.u64.wrap ((bits .and .u64 (shrK .u64 x 1) 6148914691236517205) + (bits .and .u64 x 6148914691236517205))) 2) 3689348814741910323) + (bits .and .u64 (IntKind.u64.wrap ((bits .and .u64 (shrK .u64 x 1) 6148914691236517205) + (bits .and .u64 x 6148914691236517205))) 3689348814741910323))))) 1085102592571150095) + (shrK .u64 (bits .and .u64 (IntKind.u64.wrap ((shrK .u64 (IntKind.u64.wrap ((bits .and .u64 (shrK .u64 (IntKind.u64.wrap ((bits .and .u64 (shrK .u64 x 1) 6148914691236517205) + (bits .and .u64 x 6148914691236517205))) 2) 3689348814741910323) + (bits .and .u64 (IntKind.u64.wrap ((bits .and .u64 (shrK .u64 x 1) 6148914691236517205) + (bits .and .u64 x 6148914691236517205))) 3689348814741910323))) 4) + (IntKind.u64.wrap ((bits .and .u64 (shrK .u64 (IntKind.u64.wrap ((bits .and .u64 (shrK .u64 x 1) 6148914691236517205) + (bits .and .u64 x 6148914691236517205))) 2) 3689348814741910323) + (bits .and .u64 (IntKind.u64.wrap ((bits .and .u64 (shrK .u64 x 1) 6148914691236517205) + (bits .and .u64 x 6148914691236517205))) 3689348814741910323))))) 1085102592571150095) 8))) 16))) + (shrK .u64 (IntKind.u64.wrap ((IntKind.u64.wrap ((bits .and .u64 (IntKind.u64.wrap ((shrK .u64 (IntKind.u64.wrap ((bits .and .u64 (shrK .u64 (IntKind.u64.wrap ((bits .and .u64 (shrK .u64 x 1) 6148914691236517205) + (bits .and .u64 x 6148914691236517205))) 2) 3689348814741910323) + (bits .and .u64 (IntKind.u64.wrap ((bits .and .u64 (shrK .u64 x 1) 6148914691236517205) + (bits .and .u64 x 6148914691236517205))) 3689348814741910323))) 4) + (IntKind.u64.wrap ((bits .and .u64 (shrK .u64 (IntKind.u64.wrap ((bits .and .u64 (shrK .u64 x 1) 6148914691236517205) + (bits .and .u64 x 6148914691236517205))) 2) 3689348814741910323) + (bits .and .u64 (IntKind.u64.wrap ((bits .and .u64 (shrK .u64 x 1) 6148914691236517205) + (bits .and .u64 x 6148914691236517205))) 3689348814741910323))))) 1085102592571150095) + (shrK .u64 (bits .and .u64 (IntKind.u64.wrap ((shrK .u64 (IntKind.u64.wrap ((bits .and .u64 (shrK .u64 (IntKind.u64.wrap ((bits .and .u64 (shrK .u64 x 1) 6148914691236517205) + (bits .and .u64 x 6148914691236517205))) 2) 3689348814741910323) + (bits .and .u64 (IntKind.u64.wrap ((bits .and .u64 (shrK .u64 x 1) 6148914691236517205) + (bits .and .u64 x 6148914691236517205))) 3689348814741910323))) 4) + (IntKind.u64.wrap ((bits .and .u64 (shrK .u64 (IntKind.u64.wrap ((bits .and .u64 (shrK .u64 x 1) 6148914691236517205) + (bits .and .u64 x 6148914691236517205))) 2) 3689348814741910323) + (bits .and .u64 (IntKind.u64.wrap ((bits .and .u64 (shrK .u64 x 1) 6148914691236517205) + (bits .and .u64 x 6148914691236517205))) 3689348814741910323))))) 1085102592571150095) 8))) + (shrK .u64 (IntKind.u64.wrap ((bits .and .u64 (IntKind.u64.wrap ((shrK .u64 (IntKind.u64.wrap ((bits .and .u64 (shrK .u64 (IntKind.u64.wrap ((bits .and .u64 (shrK .u64 x 1) 6148914691236517205) + (bits .and .u64 x 6148914691236517205))) 2) 3689348814741910323) + (bits .and .u64 (IntKind.u64.wrap ((bits .and .u64 (shrK .u64 x 1) 6148914691236517205) + (bits .and .u64 x 6148914691236517205))) 3689348814741910323))) 4) + (IntKind.u64.wrap ((bits .and .u64 (shrK .u64 (IntKind.u64.wrap ((bits .and .u64 (shrK .u64 x 1) 6148914691236517205) + (bits .and .u64 x 6148914691236517205))) 2) 3689348814741910323) + (bits .and .u64 (IntKind.u64.wrap ((bits .and .u64 (shrK .u64 x 1) 6148914691236517205) + (bits .and .u64 x 6148914691236517205))) 3689348814741910323))))) 1085102592571150095) + (shrK .u64 (bits .and .u64 (IntKind.u64.wrap ((shrK .u64 (IntKind.u64.wrap ((bits .and .u64 (shrK .u64 (IntKind.u64.wrap ((bits .and .u64 (shrK .u64 x 1) 6148914691236517205) + (bits .and .u64 x 6148914691236517205))) 2) 3689348814741910323) + (bits .and .u64 (IntKind.u64.wrap ((bits .and .u64 (shrK .u64 x 1) 6148914691236517205) + (bits .and .u64 x 6148914691236517205))) 3689348814741910323))) 4) + (IntKind.u64.wrap ((bits .and .u64 (shrK .u64 (IntKind.u64.wrap ((bits .and .u64 (shrK .u64 x 1) 6148914691236517205) + (bits .and .u64 x 6148914691236517205))) 2) 3689348814741910323) + (bits .and .u64 (IntKind.u64.wrap ((bits .and .u64 (shrK .u64 x 1) 6148914691236517205) + (bits .and .u64 x 6148914691236517205))) 3689348814741910323))))) 1085102592571150095) 8))) 16))) 32)))) rfl rfl) ?_
  refine rw_nil ?_
  refine cw_seq ?_
  refine cw_region ?_
  refine sq 32 rfl rfl (Y_move (v := .int .u64 (IntKind.u64.wrap ((IntKind.u64.wrap ((IntKind.u64.wrap ((bits .and .u64 (IntKind.u64.wrap ((shrK .u64 (IntKind.u64.wrap ((bits .and .u64 (shrK .u64 (IntKind.u64.wrap ((bits .and .u64 (shrK .u64 x 1) 6148914691236517205) + (bits .and .u64 x 6148914691236517205))) 2) 3689348814741910323) + (bits .and .u64 (IntKind.u64.wrap ((bits .and .u64 (shrK .u64 x 1) 6148914691236517205) + (bits .and .u64 x 6148914691236517205))) 3689348814741910323))) 4) + (IntKind.u64.wrap ((bits .and .u64 (shrK .u64 (IntKind.u64.wrap ((bits .and .u64 (shrK .u64 x 1) 6148914691236517205) + (bits .and .u64 x 6148914691236517205))) 2) 3689348814741910323) + (bits .and .u64 (IntKind.u64.wrap ((bits .and .u64 (shrK .u64 x 1) 6148914691236517205) + (bits .and .u64 x 6148914691236517205))) 3689348814741910323))))) 1085102592571150095) + (shrK .u64 (bits .and .u64 (IntKind.u64.wrap ((shrK .u64 (IntKind.u64.wrap ((bits .and .u64 (shrK .u64 (IntKind.u64.wrap ((bits .and .u64 (shrK .u64 x 1) 6148914691236517205) + (bits .and .u64 x 6148914691236517205))) 2) 3689348814741910323) + (bits .and .u64 (IntKind.u64.wrap ((bits .and .u64 (shrK .u64 x 1) 6148914691236517205) + (bits .and .u64 x 6148914691236517205))) 3689348814741910323))) 4) + (IntKind.u64.wrap ((bits .and .u64 (shrK .u64 (IntKind.u64.wrap ((bits .and .u64 (shrK .u64 x 1) 6148914691236517205) + (bits .and .u64 x 6148914691236517205))) 2) 3689348814741910323) + (bits .and .u64 (IntKind.u64.wrap ((bits .and .u64 (shrK .u64 x 1) 6148914691236517205) + (bits .and .u64 x 6148914691236517205))) 3689348814741910323))))) 1085102592571150095) 8))) + (shrK .u64 (IntKind.u64.wrap ((bits .and .u64 (IntKind.u64.wrap ((shrK .u64 (IntKind.u64.wrap ((bits .and .u64 (shrK .u64 (IntKind.u64.wrap ((bits .and .u64 (shrK .u64 x 1) 6148914691236517205) + (bits .and .u64 x 6148914691236517205))) 2) 3689348814741910323) + (bits .and .u64 (IntKind.u64.wrap ((bits .and .u64 (shrK .u64 x 1) 6148914691236517205) + (bits .and .u64 x 6148914691236517205))) 3689348814741910323))) 4) + (IntKind.u64.wrap ((bits .and .u64 (shrK .u64 (IntKind.u64.wrap ((bits .and .u64 (shrK .u64 x 1) 6148914691236517205) + (bits .and .u64 x 6148914691236517205))) 2) 3689348814741910323) + (bits .and .u64 (IntKind.u64.wrap ((bits .and .u64 (shrK .u64 x 1) 6148914691236517205) + (bits .and .u64 x 6148914691236517205))) 3689348814741910323))))) 1085102592571150095) + (shrK .u64 (bits .and .u64 (IntKind.u64.wrap ((shrK .u64 (IntKind.u64.wrap ((bits .and .u64 (shrK .u64 (IntKind.u64.wrap ((bits .and .u64 (shrK .u64 x 1) 6148914691236517205) + (bits .and .u64 x 6148914691236517205))) 2) 3689348814741910323) + (bits .and .u64 (IntKind.u64.wrap ((bits .and .u64 (shrK .u64 x 1) 6148914691236517205) + (bits .and .u64 x 6148914691236517205))) 3689348814741910323))) 4) + (IntKind.u64.wrap ((bits .and .u64 (shrK .u64 (IntKind.u64.wrap ((bits .and .u64 (shrK .u64 x 1) 6148914691236517205) + (bits .and .u64 x 6148914691236517205))) 2) 3689348814741910323) + (bits .and .u64 (IntKind.u64.wrap ((bits .and .u64 (shrK .u64 x 1) 6148914691236517205) + (bits .and .u64 x 6148914691236517205))) 3689348814741910323))))) 1085102592571150095) 8))) 16))) + (shrK .u64 (IntKind.u64.wrap ((IntKind.u64.wrap ((bits .and .u64 (IntKind.u64.wrap ((shrK .u64 (IntKind.u64.wrap ((bits .and .u64 (shrK .u64 (IntKind.u64.wrap ((bits .and .u64 (shrK .u64 x 1) 6148914691236517205) + (bits .and .u64 x 6148914691236517205))) 2) 3689348814741910323) + (bits .and .u64 (IntKind.u64.wrap ((bits .and .u64 (shrK .u64 x 1) 6148914691236517205) + (bits .and .u64 x 6148914691236517205))) 3689348814741910323))) 4) + (IntKind.u64.wrap ((bits .and .u64 (shrK .u64 (IntKind.u64.wrap ((bits .and .u64 (shrK .u64 x 1) 6148914691236517205) + (bits .and .u64 x 6148914691236517205))) 2) 3689348814741910323) + (bits .and .u64 (IntKind.u64.wrap ((bits .and .u64 (shrK .u64 x 1) 6148914691236517205) + (bits .and .u64 x 6148914691236517205))) 3689348814741910323))))) 1085102592571150095) + (shrK .u64 (bits .and .u64 (IntKind.u64.wrap ((shrK .u64 (IntKind.u64.wrap ((bits .and .u64 (shrK .u64 (IntKind.u64.wrap ((bits .and .u64 (shrK .u64 x 1) 6148914691236517205) + (bits .and .u64 x 6148914691236517205))) 2) 3689348814741910323) + (bits .and .u64 (IntKind.u64.wrap ((bits .and .u64 (shrK .u64 x 1) 6148914691236517205) + (bits .and .u64 x 6148914691236517205))) 3689348814741910323))) 4) + (IntKind.u64.wrap ((bits .and .u64 (shrK .u64 (IntKind.u64.wrap ((bits .and .u64 (shrK .u64 x 1) 6148914691236517205) + (bits .and .u64 x 6148914691236517205))) 2) 3689348814741910323) + (bits .and .u64 (IntKind.u64.wrap ((bits .and .u64 (shrK .u64 x 1) 6148914691236517205) + (bits .and .u64 x 6148914691236517205))) 3689348814741910323))))) 1085102592571150095) 8))) + (shrK .u64 (IntKind.u64.wrap ((bits .and .u64 (IntKind.u64.wrap ((shrK .u64 (IntKind.u64.wrap ((bits .and .u64 (shrK .u64 (IntKind.u64.wrap ((bits .and .u64 (shrK .u64 x 1) 6148914691236517205) + (bits .and .u64 x 6148914691236517205))) 2) 3689348814741910323) + (bits .and .u64 (IntKind.u64.wrap ((bits .and .u64 (shrK .u64 x 1) 6148914691236517205) + (bits .and .u64 x 6148914691236517205))) 3689348814741910323))) 4) + (IntKind.u64.wrap ((bits .and .u64 (shrK .u64 (IntKind.u64.wrap ((bits .and .u64 (shrK .u64 x 1) 6148914691236517205) + (bits .and .u64 x 6148914691236517205))) 2) 3689348814741910323) + (bits .and .u64 (IntKind.u64.wrap ((bits .and .u64 (shrK .u64 x 1) 6148914691236517205) + (bits .and .u64 x 6148914691236517205))) 3689348814741910323))))) 1085102592571150095) + (shrK .u64 (bits .and .u64 (IntKind.u64.wrap ((shrK .u64 (IntKind.u64.wrap ((bits .and .u64 (shrK .u64 (IntKind.u64.wrap ((bits .and .u64 (shrK .u64 x 1) 6148914691236517205) + (bits .and .u64 x 6148914691236517205))) 2) 3689348814741910323) + (bits .and .u64 (IntKind.u64.wrap ((bits .and .u64 (shrK .u64 x 1) 6148914691236517205) + (bits .and .u64 x 6148914691236517205))) 3689348814741910323))) 4) + (IntKind.u64.wrap ((bits .and .u64 (shrK .u64 (IntKind.u64.wrap ((bits .and .u64 (shrK .u64 x 1) 6148914691236517205) + (bits .and .u64 x 6148914691236517205))) 2) 3689348814741910323) + (bits .and .u64 (IntKind.u64.wrap ((bits .and .u64 (shrK .u64 x 1) 6148914691236517205) + (bits .and .u64 x 6148914691236517205))) 3689348814741910323))))) 1085102592571150095) 8))) 16))) 32)))) rfl rfl) ?_
  refine sq 33 rfl rfl (Y_conv (k := .u64) (a := (IntKind.u64.wrap ((IntKind.u64.wrap ((IntKind.u64.wrap ((bits .and .u64 (IntKind.u64.wrap ((shrK .u64 (IntKind.u64.wrap ((bits .and .u64 (shrK .u64 (IntKind.u64.wrap ((bits .and .u64 (shrK .u64 x 1) 6148914691236517205) + (bits .and .u64 x 6148914691236517205))) 2) 3689348814741910323) + (bits .and .u64 (IntKind.u64.wrap ((bits .and .u64 (shrK .u64 x 1) 6148914691236517205) + (bits .and .u64 x 6148914691236517205))) 3689348814741910323))) 4) + (IntKind.u64.wrap ((bits .and .u64 (shrK .u64 (IntKind.u64.wrap ((bits .and .u64 (shrK .u64 x 1) 6148914691236517205) + (bits .and .u64 x 6148914691236517205))) 2) 3689348814741910323) + (bits .and .u64 (IntKind.u64.wrap ((bits .and .u64 (shrK .u64 x 1) 6148914691236517205) + (bits .and .u64 x 6148914691236517205))) 3689348814741910323))))) 1085102592571150095) + (shrK .u64 (bits .and .u64 (IntKind.u64.wrap ((shrK .u64 (IntKind.u64.wrap ((bits .and .u64 (shrK .u64 (IntKind.u64.wrap ((bits .and .u64 (shrK .u64 x 1) 6148914691236517205) + (bits .and .u64 x 6148914691236517205))) 2) 3689348814741910323) + (bits .and .u64 (IntKind.u64.wrap ((bits .and .u64 (shrK .u64 x 1) 6148914691236517205) + (bits .and .u64 x 6148914691236517205))) 3689348814741910323))) 4) + (IntKind.u64.wrap ((bits .and .u64 (shrK .u64 (IntKind.u64.wrap ((bits .and .u64 (shrK .u64 x 1) 6148914691236517205) + (bits .and .u64 x 6148914691236517205))) 2) 3689348814741910323) + (bits .and .u64 (IntKind.u64.wrap ((bits .and .u64 (shrK .u64 x 1) 6148914691236517205) + (bits .and .u64 x 6148914691236517205))) 3689348814741910323))))) 1085102592571150095) 8))) + (shrK .u64 (IntKind.u64.wrap ((bits .and .u64 (IntKind.u64.wrap ((shrK .u64 (IntKind.u64.wrap ((bits .and .u64 (shrK .u64 (IntKind.u64.wrap ((bits .and .u64 (shrK .u64 x 1) 6148914691236517205) + (bits .and .u64 x 6148914691236517205))) 2) 3689348814741910323) + (bits .and .u64 (IntKind.u64.wrap ((bits .and .u64 (shrK .u64 x 1) 6148914691236517205) + (bits .and .u64 x 6148914691236517205))) 3689348814741910323))) 4) + (IntKind.u64.wrap ((bits .and .u64 (shrK .u64 (IntKind.u64.wrap ((bits .and .u64 (shrK .u64 x 1) 6148914691236517205) + (bits .and .u64 x 6148914691236517205))) 2) 3689348814741910323) + (bits .and .u64 (IntKind.u64.wrap ((bits .and .u64 (shrK .u64 x 1) 6148914691236517205) + (bits .and .u64 x 6148914691236517205))) 3689348814741910323))))) 1085102592571150095) + (shrK .u64 (bits .and .u64 (IntKind.u64.wrap ((shrK .u64 (IntKind.u64.wrap ((bits .and .u64 (shrK .u64 (IntKind.u64.wrap ((bits .and .u64 (shrK .u64 x 1) 6148914691236517205) + (bits .and .u64 x 6148914691236517205))) 2) 3689348814741910323) + (bits .and .u64 (IntKind.u64.wrap ((bits .and .u64 (shrK .u64 x 1) 6148914691236517205) + (bits .and .u64 x 6148914691236517205))) 3689348814741910323))) 4) + (IntKind.u64.wrap ((bits .and .u64 (shrK .u64 (IntKind.u64.wrap ((bits .and .u64 (shrK .u64 x 1) 6148914691236517205) + (bits .and .u64 x 6148914691236517205))) 2) 3689348814741910323) + (bits .and .u64 (IntKind.u64.wrap ((bits .and .u64 (shrK .u64 x 1) 6148914691236517205) + (bits .and .u64 x 6148914691236517205))) 3689348814741910323))))) 1085102592571150095) 8))) 16))) + (shrK .u64 (IntKind.u64.wrap ((IntKind.u64.wrap ((bits .and .u64 (IntKind.u64.wrap ((shrK .u64 (IntKind.u64.wrap ((bits .and .u64 (shrK .u64 (IntKind.u64.wrap ((bits .and .u64 (shrK .u64 x 1) 6148914691236517205) + (bits .and .u64 x 6148914691236517205))) 2) 3689348814741910323) + (bits .and .u64 (IntKind.u64.wrap ((bits .and .u64 (shrK .u64 x 1) 6148914691236517205) + (bits .and .u64 x 6148914691236517205))) 3689348814741910323))) 4) + (IntKind.u64.wrap ((bits .and .u64 (shrK .u64 (IntKind.u64.wrap ((bits .and .u64 (shrK .u64 x 1) 6148914691236517205) + (bits .and .u64 x 6148914691236517205))) 2) 3689348814741910323) + (bits .and .u64 (IntKind.u64.wrap ((bits .and .u64 (shrK .u64 x 1) 6148914691236517205) + (bits .and .u64 x 6148914691236517205))) 3689348814741910323))))) 1085102592571150095) + (shrK .u64 (bits .and .u64 (IntKind.u64.wrap ((shrK .u64 (IntKind.u64.wrap ((bits .and .u64 (shrK .u64 (IntKind.u64.wrap ((bits .and .u64 (shrK .u64 x 1) 6148914691236517205) + (bits .and .u64 x 6148914691236517205))) 2) 3689348814741910323) + (bits .and .u64 (IntKind.u64.wrap ((bits .and .u64 (shrK .u64 x 1) 6148914691236517205) + (bits .and .u64 x 6148914691236517205))) 3689348814741910323))) 4) + (IntKind.u64.wrap ((bits .and .u64 (shrK .u64 (IntKind.u64.wrap ((bits .and .u64 (shrK .u64 x 1) 6148914691236517205) + (bits .and .u64 x 6148914691236517205))) 2) 3689348814741910323) + (bits .and .u64 (IntKind.u64.wrap ((bits .and .u64 (shrK .u64 x 1) 6148914691236517205) + (bits .and .u64 x 6148914691236517205))) 3689348814741910323))))) 1085102592571150095) 8))) + (shrK .u64 (IntKind.u64.wrap ((bits .and .u64 (IntKind.u64.wrap ((shrK .u64 (IntKind.u64.wrap ((bits .and .u64 (shrK .u64 (IntKind.u64.wrap ((bits .and .u64 (shrK .u64 x 1) 6148914691236517205) + (bits .and .u64 x 6148914691236517205))) 2) 3689348814741910323) + (bits .and .u64 (IntKind.u64.wrap ((bits .and .u64 (shrK .u64 x 1) 6148914691236517205) + (bits .and .u64 x 6148914691236517205))) 3689348814741910323))) 4) + (IntKind.u64.wrap ((bits .and .u64 (shrK .u64 (IntKind.u64.wrap ((bits .and .u64 (shrK .u64 x 1) 6148914691236517205) + (bits .and .u64 x 6148914691236517205))) 2) 3689348814741910323) + (bits .and .u64 (IntKind.u64.wrap ((bits .and .u64 (shrK .u64 x 1) 6148914691236517205) + (bits .and .u64 x 6148914691236517205))) 3689348814741910323))))) 1085102592571150095) + (shrK .u64 (bits .and .u64 (IntKind.u64.wrap ((shrK .u64 (IntKind.u64.wrap ((bits .and .u64 (shrK .u64 (IntKind.u64.wrap ((bits .and .u64 (shrK .u64 x 1) 6148914691236517205) + (bits .and .u64 x 6148914691236517205))) 2) 3689348814741910323) + (bits .and .u64 (IntKind.u64.wrap ((bits .and .u64 (shrK .u64 x 1) 6148914691236517205) + (bits .and .u64 x 6148914691236517205))) 3689348814741910323))) 4) + (IntKind.u64.wrap ((bits .and .u64 (shrK .u64 (IntKind.u64.wrap ((bits .and .u64 (shrK .u64 x 1) 6148914691236517205) + (bits .and .u64 x 6148914691236517205))) 2) 3689348814741910323) + (bits .and .u64 (IntKind.u64.wrap ((bits .and .u64 (shrK .u64 x 1) 6148914691236517205) + (bits .and .u64 x 6148914691236517205))) 3689348814741910323))))) 1085102592571150095) 8))) 16))) 32)))) (T := 91) (T' := 3) k_us_91 k_int_3_i64 rfl rfl) ?_
  refine sq 34 rfl rfl (Y_band (k := .i64) (a := (IntKind.i64.wrap (IntKind.u64.wrap ((IntKind.u64.wrap ((IntKind.u64.wrap ((bits .and .u64 (IntKind.u64.wrap ((shrK .u64 (IntKind.u64.wrap ((bits .and .u64 (shrK .u64 (IntKind.u64.wrap ((bits .and .u64 (shrK .u64 x 1) 6148914691236517205) + (bits .and .u64 x 6148914691236517205))) 2) 3689348814741910323) + (bits .and .u64 (IntKind.u64.wrap ((bits .and .u64 (shrK .u64 x 1) 6148914691236517205) + (bits .and .u64 x 6148914691236517205))) 3689348814741910323))) 4) + (IntKind.u64.wrap ((bits .and .u64 (shrK .u64 (IntKind.u64.wrap ((bits .and .u64 (shrK .u64 x 1) 6148914691236517205) + (bits .and .u64 x 6148914691236517205))) 2) 3689348814741910323) + (bits .and .u64 (IntKind.u64.wrap ((bits .and .u64 (shrK .u64 x 1) 6148914691236517205) + (bits .and .u64 x 6148914691236517205))) 3689348814741910323))))) 1085102592571150095) + (shrK .u64 (bits .and .u64 (IntKind.u64.wrap ((shrK .u64 (IntKind.u64.wrap ((bits .and .u64 (shrK .u64 (IntKind.u64.wrap ((bits .and .u64 (shrK .u64 x 1) 6148914691236517205) + (bits .and .u64 x 6148914691236517205))) 2) 3689348814741910323) + (bits .and .u64 (IntKind.u64.wrap ((bits .and .u64 (shrK .u64 x 1) 6148914691236517205) + (bits .and .u64 x 6148914691236517205))) 3689348814741910323))) 4) + (IntKind.u64.wrap ((bits .and .u64 (shrK .u64 (IntKind.u64.wrap ((bits .and .u64 (shrK .u64 x 1) 6148914691236517205) + (bits .and .u64 x 6148914691236517205))) 2) 3689348814741910323) + (bits .and .u64 (IntKind.u64.wrap ((bits .and .u64 (shrK .u64 x 1) 6148914691236517205) + (bits .and .u64 x 6148914691236517205))) 3689348814741910323))))) 1085102592571150095) 8))) + (shrK .u64 (IntKind.u64.wrap ((bits .and .u64 (IntKind.u64.wrap ((shrK .u64 (IntKind.u64.wrap ((bits .and .u64 (shrK .u64 (IntKind.u64.wrap ((bits .and .u64 (shrK .u64 x 1) 6148914691236517205) + (bits .and .u64 x 6148914691236517205))) 2) 3689348814741910323) + (bits .and .u64 (IntKind.u64.wrap ((bits .and .u64 (shrK .u64 x 1) 6148914691236517205) + (bits .and .u64 x 6148914691236517205))) 3689348814741910323))) 4) + (IntKind.u64.wrap ((bits .and .u64 (shrK .u64 (IntKind.u64.wrap ((bits .and .u64 (shrK .u64 x 1) 6148914691236517205) + (bits .and .u64 x 6148914691236517205))) 2) 3689348814741910323) + (bits .and .u64 (IntKind.u64.wrap ((bits .and .u64 (shrK .u64 x 1) 6148914691236517205) + (bits .and .u64 x 6148914691236517205))) 3689348814741910323))))) 1085102592571150095) + (shrK .u64 (bits .and .u64 (IntKind.u64.wrap ((shrK .u64 (IntKind.u64.wrap ((bits .and .u64 (shrK .u64 (IntKind.u64.wrap ((bits .and .u64 (shrK .u64 x 1) 6148914691236517205) + (bits .and .u64 x 6148914691236517205))) 2) 3689348814741910323) + (bits .and .u64 (IntKind.u64.wrap ((bits .and .u64 (shrK .u64 x 1) 6148914691236517205) + (bits .and .u64 x 6148914691236517205))) 3689348814741910323))) 4) + (IntKind.u64.wrap ((bits .and .u64 (shrK .u64 (IntKind.u64.wrap ((bits .and .u64 (shrK .u64 x 1) 6148914691236517205) + (bits .and .u64 x 6148914691236517205))) 2) 3689348814741910323) + (bits .and .u64 (IntKind.u64.wrap ((bits .and .u64 (shrK .u64 x 1) 6148914691236517205) + (bits .and .u64 x 6148914691236517205))) 3689348814741910323))))) 1085102592571150095) 8))) 16))) + (shrK .u64 (IntKind.u64.wrap ((IntKind.u64.wrap ((bits .and .u64 (IntKind.u64.wrap ((shrK .u64 (IntKind.u64.wrap ((bits .and .u64 (shrK .u64 (IntKind.u64.wrap ((bits .and .u64 (shrK .u64 x 1) 6148914691236517205) + (bits .and .u64 x 6148914691236517205))) 2) 3689348814741910323) + (bits .and .u64 (IntKind.u64.wrap ((bits .and .u64 (shrK .u64 x 1) 6148914691236517205) + (bits .and .u64 x 6148914691236517205))) 3689348814741910323))) 4) + (IntKind.u64.wrap ((bits .and .u64 (shrK .u64 (IntKind.u64.wrap ((bits .and .u64 (shrK .u64 x 1) 6148914691236517205) + (bits .and .u64 x 6148914691236517205))) 2) 3689348814741910323) + (bits .and .u64 (IntKind.u64.wrap ((bits .and .u64 (shrK .u64 x 1) 6148914691236517205) + (bits .and .u64 x 6148914691236517205))) 3689348814741910323))))) 1085102592571150095) + (shrK .u64 (bits .and .u64 (IntKind.u64.wrap ((shrK .u64 (IntKind.u64.wrap ((bits .and .u64 (shrK .u64 (IntKind.u64.wrap ((bits .and .u64 (shrK .u64 x 1) 6148914691236517205) + (bits .and .u64 x 6148914691236517205))) 2) 3689348814741910323) + (bits .and .u64 (IntKind.u64.wrap ((bits .and .u64 (shrK .u64 x 1) 6148914691236517205) + (bits .and .u64 x 6148914691236517205))) 3689348814741910323))) 4) + (IntKind.u64.wrap ((bits .and .u64 (shrK .u64 (IntKind.u64.wrap ((bits .and .u64 (shrK .u64 x 1) 6148914691236517205) + (bits .and .u64 x 6148914691236517205))) 2) 3689348814741910323) + (bits .and .u64 (IntKind.u64.wrap ((bits .and .u64 (shrK .u64 x 1) 6148914691236517205) + (bits .and .u64 x 6148914691236517205))) 3689348814741910323))))) 1085102592571150095) 8))) + (shrK .u64 (IntKind.u64.wrap ((bits .and .u64 (IntKind.u64.wrap ((shrK .u64 (IntKind.u64.wrap ((bits .and .u64 (shrK .u64 (IntKind.u64.wrap ((bits .and .u64 (shrK .u64 x 1) 6148914691236517205) + (bits .and .u64 x 6148914691236517205))) 2) 3689348814741910323) + (bits .and .u64 (IntKind.u64.wrap ((bits .and .u64 (shrK .u64 x 1) 6148914691236517205) + (bits .and .u64 x 6148914691236517205))) 3689348814741910323))) 4) + (IntKind.u64.wrap ((bits .and .u64 (shrK .u64 (IntKind.u64.wrap ((bits .and .u64 (shrK .u64 x 1) 6148914691236517205) + (bits .and .u64 x 6148914691236517205))) 2) 3689348814741910323) + (bits .and .u64 (IntKind.u64.wrap ((bits .and .u64 (shrK .u64 x 1) 6148914691236517205) + (bits .and .u64 x 6148914691236517205))) 3689348814741910323))))) 1085102592571150095) + (shrK .u64 (bits .and .u64 (IntKind.u64.wrap ((shrK .u64 (IntKind.u64.wrap ((bits .and .u64 (shrK .u64 (IntKind.u64.wrap ((bits .and .u64 (shrK .u64 x 1) 6148914691236517205) + (bits .and .u64 x 6148914691236517205))) 2) 3689348814741910323) + (bits .and .u64 (IntKind.u64.wrap ((bits .and .u64 (shrK .u64 x 1) 6148914691236517205) + (bits .and .u64 x 6148914691236517205))) 3689348814741910323))) 4) + (IntKind.u64.wrap ((bits .and .u64 (shrK .u64 (IntKind.u64.wrap ((bits .and .u64 (shrK .u64 x 1) 6148914691236517205) + (bits .and .u64 x 6148914691236517205))) 2) 3689348814741910323) + (bits .and .u64 (IntKind.u64.wrap ((bits .and .u64 (shrK .u64 x 1) 6148914691236517205) + (bits .and .u64 x 6148914691236517205))) 3689348814741910323))))) 1085102592571150095) 8))) 16))) 32))))) (b := 127) rfl rfl rfl) ?_
  refine sq 2 rfl rfl (Y_assign (v := .int .i64 (bits .and .i64 (IntKind.i64.wrap (IntKind.u64.wrap ((IntKind.u64.wrap ((IntKind.u64.wrap ((bits .and .u64 (IntKind.u64.wrap ((shrK .u64 (IntKind.u64.wrap ((bits .and .u64 (shrK .u64 (IntKind.u64.wrap ((bits .and .u64 (shrK .u64 x 1) 6148914691236517205) + (bits .and .u64 x 6148914691236517205))) 2) 3689348814741910323) + (bits .and .u64 (IntKind.u64.wrap ((bits .and .u64 (shrK .u64 x 1) 6148914691236517205) + (bits .and .u64 x 6148914691236517205))) 3689348814741910323))) 4) + (IntKind.u64.wrap ((bits .and .u64 (shrK .u64 (IntKind.u64.wrap ((bits .and .u64 (shrK .u64 x 1) 6148914691236517205) + (bits .and .u64 x 6148914691236517205))) 2) 3689348814741910323) + (bits .and .u64 (IntKind.u64.wrap ((bits .and .u64 (shrK .u64 x 1) 6148914691236517205) + (bits .and .u64 x 6148914691236517205))) 3689348814741910323))))) 1085102592571150095) + (shrK .u64 (bits .and .u64 (IntKind.u64.wrap ((shrK .u64 (IntKind.u64.wrap ((bits .and .u64 (shrK .u64 (IntKind.u64.wrap ((bits .and .u64 (shrK .u64 x 1) 6148914691236517205) + (bits .and .u64 x 6148914691236517205))) 2) 3689348814741910323) + (bits .and .u64 (IntKind.u64.wrap ((bits .and .u64 (shrK .u64 x 1) 6148914691236517205) + (bits .and .u64 x 6148914691236517205))) 3689348814741910323))) 4) + (IntKind.u64.wrap ((bits .and .u64 (shrK .u64 (IntKind.u64.wrap ((bits .and .u64 (shrK .u64 x 1) 6148914691236517205) + (bits .and .u64 x 6148914691236517205))) 2) 3689348814741910323) + (bits .and .u64 (IntKind.u64.wrap ((bits .and .u64 (shrK .u64 x 1) 6148914691236517205) + (bits .and .u64 x 6148914691236517205))) 3689348814741910323))))) 1085102592571150095) 8))) + (shrK .u64 (IntKind.u64.wrap ((bits .and .u64 (IntKind.u64.wrap ((shrK .u64 (IntKind.u64.wrap ((bits .and .u64 (shrK .u64 (IntKind.u64.wrap ((bits .and .u64 (shrK .u64 x 1) 6148914691236517205) + (bits .and .u64 x 6148914691236517205))) 2) 3689348814741910323) + (bits .and .u64 (IntKind.u64.wrap ((bits .and .u64 (shrK .u64 x 1) 6148914691236517205) + (bits .and .u64 x 6148914691236517205))) 3689348814741910323))) 4) + (IntKind.u64.wrap ((bits .and .u64 (shrK .u64 (IntKind.u64.wrap ((bits .and .u64 (shrK .u64 x 1) 6148914691236517205) + (bits .and .u64 x 6148914691236517205))) 2) 3689348814741910323) + (bits .and .u64 (IntKind.u64.wrap ((bits .and .u64 (shrK .u64 x 1) 6148914691236517205) + (bits .and .u64 x 6148914691236517205))) 3689348814741910323))))) 1085102592571150095) + (shrK .u64 (bits .and .u64 (IntKind.u64.wrap ((shrK .u64 (IntKind.u64.wrap ((bits .and .u64 (shrK .u64 (IntKind.u64.wrap ((bits .and .u64 (shrK .u64 x 1) 6148914691236517205) + (bits .and .u64 x 6148914691236517205))) 2) 3689348814741910323) + (bits .and .u64 (IntKind.u64.wrap ((bits .and .u64 (shrK .u64 x 1) 6148914691236517205) + (bits .and .u64 x 6148914691236517205))) 3689348814741910323))) 4) + (IntKind.u64.wrap ((bits .and .u64 (shrK .u64 (IntKind.u64.wrap ((bits .and .u64 (shrK .u64 x 1) 6148914691236517205) + (bits .and .u64 x 6148914691236517205))) 2) 3689348814741910323) + (bits .and .u64 (IntKind.u64.wrap ((bits .and .u64 (shrK .u64 x 1) 6148914691236517205) + (bits .and .u64 x 6148914691236517205))) 3689348814741910323))))) 1085102592571150095) 8))) 16))) + (shrK .u64 (IntKind.u64.wrap ((IntKind.u64.wrap ((bits .and .u64 (IntKind.u64.wrap ((shrK .u64 (IntKind.u64.wrap ((bits .and .u64 (shrK .u64 (IntKind.u64.wrap ((bits .and .u64 (shrK .u64 x 1) 6148914691236517205) + (bits .and .u64 x 6148914691236517205))) 2) 3689348814741910323) + (bits .and .u64 (IntKind.u64.wrap ((bits .and .u64 (shrK .u64 x 1) 6148914691236517205) + (bits .and .u64 x 6148914691236517205))) 3689348814741910323))) 4) + (IntKind.u64.wrap ((bits .and .u64 (shrK .u64 (IntKind.u64.wrap ((bits .and .u64 (shrK .u64 x 1) 6148914691236517205) + (bits .and .u64 x 6148914691236517205))) 2) 3689348814741910323) + (bits .and .u64 (IntKind.u64.wrap ((bits .and .u64 (shrK .u64 x 1) 6148914691236517205) + (bits .and .u64 x 6148914691236517205))) 3689348814741910323))))) 1085102592571150095) + (shrK .u64 (bits .and .u64 (IntKind.u64.wrap ((shrK .u64 (IntKind.u64.wrap ((bits .and .u64 (shrK .u64 (IntKind.u64.wrap ((bits .and .u64 (shrK .u64 x 1) 6148914691236517205) + (bits .and .u64 x 6148914691236517205))) 2) 3689348814741910323) + (bits .and .u64 (IntKind.u64.wrap ((bits .and .u64 (shrK .u64 x 1) 6148914691236517205) + (bits .and .u64 x 6148914691236517205))) 3689348814741910323))) 4) + (IntKind.u64.wrap ((bits .and .u64 (shrK .u64 (IntKind.u64.wrap ((bits .and .u64 (shrK .u64 x 1) 6148914691236517205) + (bits .and .u64 x 6148914691236517205))) 2) 3689348814741910323) + (bits .and .u64 (IntKind.u64.wrap ((bits .and .u64 (shrK .u64 x 1) 6148914691236517205) + (bits .and .u64 x 6148914691236517205))) 3689348814741910323))))) 1085102592571150095) 8))) + (shrK .u64 (IntKind.u64.wrap ((bits .and .u64 (IntKind.u64.wrap ((shrK .u64 (IntKind.u64.wrap ((bits .and .u64 (shrK .u64 (IntKind.u64.wrap ((bits .and .u64 (shrK .u64 x 1) 6148914691236517205) + (bits .and .u64 x 6148914691236517205))) 2) 3689348814741910323) + (bits .and .u64 (IntKind.u64.wrap ((bits .and .u64 (shrK .u64 x 1) 6148914691236517205) + (bits .and .u64 x 6148914691236517205))) 3689348814741910323))) 4) + (IntKind.u64.wrap ((bits .and .u64 (shrK .u64 (IntKind.u64.wrap ((bits .and .u64 (shrK .u64 x 1) 6148914691236517205) + (bits .and .u64 x 6148914691236517205))) 2) 3689348814741910323) + (bits .and .u64 (IntKind.u64.wrap ((bits .and .u64 (shrK .u64 x 1) 6148914691236517205) + (bits .and .u64 x 6148914691236517205))) 3689348814741910323))))) 1085102592571150095) + (shrK .u64 (bits .and .u64 (IntKind.u64.wrap ((shrK .u64 (IntKind.u64.wrap ((bits .and .u64 (shrK .u64 (IntKind.u64.wrap ((bits .and .u64 (shrK .u64 x 1) 6148914691236517205) + (bits .and .u64 x 6148914691236517205))) 2) 3689348814741910323) + (bits .and .u64 (IntKind.u64.wrap ((bits .and .u64 (shrK .u64 x 1) 6148914691236517205) + (bits .and .u64 x 6148914691236517205))) 3689348814741910323))) 4) + (IntKind.u64.wrap ((bits .and .u64 (shrK .u64 (IntKind.u64.wrap ((bits .and .u64 (shrK .u64 x 1) 6148914691236517205) + (bits .and .u64 x 6148914691236517205))) 2) 3689348814741910323) + (bits .and .u64 (IntKind.u64.wrap ((bits .and .u64 (shrK .u64 x 1) 6148914691236517205) + (bits .and .u64 x 6148914691236517205))) 3689348814741910323))))) 1085102592571150095) 8))) 16))) 32)))) 127)) rfl rfl) ?_
  refine rw_nil ?_
  refine cw_ret ?_
  obtain rfl := some_inj hF
  exact ret1 Tryd.results65 (v1 := .int .i64 (bits .and .i64 (IntKind.i64.wrap (IntKind.u64.wrap ((IntKind.u64.wrap ((IntKind.u64.wrap ((bits .and .u64 (IntKind.u64.wrap ((shrK .u64 (IntKind.u64.wrap ((bits .and .u64 (shrK .u64 (IntKind.u64.wrap ((bits .and .u64 (shrK .u64 x 1) 6148914691236517205) + (bits .and .u64 x 6148914691236517205))) 2) 3689348814741910323) + (bits .and .u64 (IntKind.u64.wrap ((bits .and .u64 (shrK .u64 x 1) 6148914691236517205) + (bits .and .u64 x 6148914691236517205))) 3689348814741910323))) 4) + (IntKind.u64.wrap ((bits .and .u64 (shrK .u64 (IntKind.u64.wrap ((bits .and .u64 (shrK .u64 x 1) 6148914691236517205) + (bits .and .u64 x 6148914691236517205))) 2) 3689348814741910323) + (bits .and .u64 (IntKind.u64.wrap ((bits .and .u64 (shrK .u64 x 1) 6148914691236517205) + (bits .and .u64 x 6148914691236517205))) 3689348814741910323))))) 1085102592571150095) + (shrK .u64 (bits .and .u64 (IntKind.u64.wrap ((shrK .u64 (IntKind.u64.wrap ((bits .and .u64 (shrK .u64 (IntKind.u64.wrap ((bits .and .u64 (shrK .u64 x 1) 6148914691236517205) + (bits .and .u64 x 6148914691236517205))) 2) 3689348814741910323) + (bits .and .u64 (IntKind.u64.wrap ((bits .and .u64 (shrK .u64 x 1) 6148914691236517205) + (bits .and .u64 x 6148914691236517205))) 3689348814741910323))) 4) + (IntKind.u64.wrap ((bits .and .u64 (shrK .u64 (IntKind.u64.wrap ((bits .and .u64 (shrK .u64 x 1) 6148914691236517205) + (bits .and .u64 x 6148914691236517205))) 2) 3689348814741910323) + (bits .and .u64 (IntKind.u64.wrap ((bits .and .u64 (shrK .u64 x 1) 6148914691236517205) + (bits .and .u64 x 6148914691236517205))) 3689348814741910323))))) 1085102592571150095) 8))) + (shrK .u64 (IntKind.u64.wrap ((bits .and .u64 (IntKind.u64.wrap ((shrK .u64 (IntKind.u64.wrap ((bits .and .u64 (shrK .u64 (IntKind.u64.wrap ((bits .and .u64 (shrK .u64 x 1) 6148914691236517205) + (bits .and .u64 x 6148914691236517205))) 2) 3689348814741910323) + (bits .and .u64 (IntKind.u64.wrap ((bits .and .u64 (shrK .u64 x 1) 6148914691236517205) + (bits .and .u64 x 6148914691236517205))) 3689348814741910323))) 4) + (IntKind.u64.wrap ((bits .and .u64 (shrK .u64 (IntKind.u64.wrap ((bits .and .u64 (shrK .u64 x 1) 6148914691236517205) + (bits .and .u64 x 6148914691236517205))) 2) 3689348814741910323) + (bits .and .u64 (IntKind.u64.wrap ((bits .and .u64 (shrK .u64 x 1) 6148914691236517205) + (bits .and .u64 x 6148914691236517205))) 3689348814741910323))))) 1085102592571150095) + (shrK .u64 (bits .and .u64 (IntKind.u64.wrap ((shrK .u64 (IntKind.u64.wrap ((bits .and .u64 (shrK .u64 (IntKind.u64.wrap ((bits .and .u64 (shrK .u64 x 1) 6148914691236517205) + (bits .and .u64 x 6148914691236517205))) 2) 3689348814741910323) + (bits .and .u64 (IntKind.u64.wrap ((bits .and .u64 (shrK .u64 x 1) 6148914691236517205) + (bits .and .u64 x 6148914691236517205))) 3689348814741910323))) 4) + (IntKind.u64.wrap ((bits .and .u64 (shrK .u64 (IntKind.u64.wrap ((bits .and .u64 (shrK .u64 x 1) 6148914691236517205) + (bits .and .u64 x 6148914691236517205))) 2) 3689348814741910323) + (bits .and .u64 (IntKind.u64.wrap ((bits .and .u64 (shrK .u64 x 1) 6148914691236517205) + (bits .and .u64 x 6148914691236517205))) 3689348814741910323))))) 1085102592571150095) 8))) 16))) + (shrK .u64 (IntKind.u64.wrap ((IntKind.u64.wrap ((bits .and .u64 (IntKind.u64.wrap ((shrK .u64 (IntKind.u64.wrap ((bits .and .u64 (shrK .u64 (IntKind.u64.wrap ((bits .and .u64 (shrK .u64 x 1) 6148914691236517205) + (bits .and .u64 x 6148914691236517205))) 2) 3689348814741910323) + (bits .and .u64 (IntKind.u64.wrap ((bits .and .u64 (shrK .u64 x 1) 6148914691236517205) + (bits .and .u64 x 6148914691236517205))) 3689348814741910323))) 4) + (IntKind.u64.wrap ((bits .and .u64 (shrK .u64 (IntKind.u64.wrap ((bits .and .u64 (shrK .u64 x 1) 6148914691236517205) + (bits .and .u64 x 6148914691236517205))) 2) 3689348814741910323) + (bits .and .u64 (IntKind.u64.wrap ((bits .and .u64 (shrK .u64 x 1) 6148914691236517205) + (bits .and .u64 x 6148914691236517205))) 3689348814741910323))))) 1085102592571150095) + (shrK .u64 (bits .and .u64 (IntKind.u64.wrap ((shrK .u64 (IntKind.u64.wrap ((bits .and .u64 (shrK .u64 (IntKind.u64.wrap ((bits .and .u64 (shrK .u64 x 1) 6148914691236517205) + (bits .and .u64 x 6148914691236517205))) 2) 3689348814741910323) + (bits .and .u64 (IntKind.u64.wrap ((bits .and .u64 (shrK .u64 x 1) 6148914691236517205) + (bits .and .u64 x 6148914691236517205))) 3689348814741910323))) 4) + (IntKind.u64.wrap ((bits .and .u64 (shrK .u64 (IntKind.u64.wrap ((bits .and .u64 (shrK .u64 x 1) 6148914691236517205) + (bits .and .u64 x 6148914691236517205))) 2) 3689348814741910323) + (bits .and .u64 (IntKind.u64.wrap ((bits .and .u64 (shrK .u64 x 1) 6148914691236517205) + (bits .and .u64 x 6148914691236517205))) 3689348814741910323))))) 1085102592571150095) 8))) + (shrK .u64 (IntKind.u64.wrap ((bits .and .u64 (IntKind.u64.wrap ((shrK .u64 (IntKind.u64.wrap ((bits .and .u64 (shrK .u64 (IntKind.u64.wrap ((bits .and .u64 (shrK .u64 x 1) 6148914691236517205) + (bits .and .u64 x 6148914691236517205))) 2) 3689348814741910323) + (bits .and .u64 (IntKind.u64.wrap ((bits .and .u64 (shrK .u64 x 1) 6148914691236517205) + (bits .and .u64 x 6148914691236517205))) 3689348814741910323))) 4) + (IntKind.u64.wrap ((bits .and .u64 (shrK .u64 (IntKind.u64.wrap ((bits .and .u64 (shrK .u64 x 1) 6148914691236517205) + (bits .and .u64 x 6148914691236517205))) 2) 3689348814741910323) + (bits .and .u64 (IntKind.u64.wrap ((bits .and .u64 (shrK .u64 x 1) 6148914691236517205) + (bits .and .u64 x 6148914691236517205))) 3689348814741910323))))) 1085102592571150095) + (shrK .u64 (bits .and .u64 (IntKind.u64.wrap ((shrK .u64 (IntKind.u64.wrap ((bits .and .u64 (shrK .u64 (IntKind.u64.wrap ((bits .and .u64 (shrK .u64 x 1) 6148914691236517205) + (bits .and .u64 x 6148914691236517205))) 2) 3689348814741910323) + (bits .and .u64 (IntKind.u64.wrap ((bits .and .u64 (shrK .u64 x 1) 6148914691236517205) + (bits .and .u64 x 6148914691236517205))) 3689348814741910323))) 4) + (IntKind.u64.wrap ((bits .and .u64 (shrK .u64 (IntKind.u64.wrap ((bits .and .u64 (shrK .u64 x 1) 6148914691236517205) + (bits .and .u64 x 6148914691236517205))) 2) 3689348814741910323) + (bits .and .u64 (IntKind.u64.wrap ((bits .and .u64 (shrK .u64 x 1) 6148914691236517205) + (bits .and .u64 x 6148914691236517205))) 3689348814741910323))))) 1085102592571150095) 8))) 16))) 32)))) 127)) (resAt_tmp rfl) ⟨rfl, (ST.subR (R' := []) (hS.sel [] rfl rfl) (fun _ h => by cases h))⟩

theorem c_math_bits_OnesCount (x : Int)  (w0 : World)  (hS : ST w0 [] w0 [] []) {r_ : Int} (hF : F_math_bits_OnesCount x = some r_) :
    CV Tryd.prog 57 #[.int .u64 x] w0 (fun v w' => v = .int .i64 r_ ∧ ST w0 [] w' [] []) := by
  unfold F_math_bits_OnesCount at hF
  refine cv_of_cw 8 Tryd.func57 rfl Tryd.ntmps57 rfl ?_
  refine cw_seq ?_
  refine cw_region ?_
  refine sq 2 rfl rfl (Y_assign (v := .int .i64 0) rfl rfl) ?_
  refine rw_nil ?_
  refine cw_seq ?_
  refine cw_cond (b := false) rfl (fun h => by cases h) (fun _ => ?_)
  refine cw_skip ?_
  refine cw_seq ?_
  refine cw_region ?_
  refine sq 6 rfl rfl (Y_move (v := .int .u64 x) rfl rfl) ?_
  obtain ⟨r_1, hc, hF⟩ := bind_inv hF
  refine sc 7 rfl rfl (Yc_func (g := 65) (vs := [.int .u64 x]) k_call_65 rfl (mc rfl mn) (c_math_bits_OnesCount64 x _  (hS.inn0 [] rfl) hc)) ?_
  rintro _ w_ ⟨rfl, hd⟩
  have hS1 := hS.out00 hd
  refine sq 2 rfl rfl (Y_assign (v := .int .i64 r_1) rfl rfl) ?_
  refine rw_nil ?_
  refine cw_ret ?_
  obtain rfl := some_inj hF
  exact ret1 Tryd.results57 (v1 := .int .i64 r_1) (resAt_tmp rfl) ⟨rfl, (ST.subR (R' := []) (hS1.sel [] rfl rfl) (fun _ h => by cases h))⟩

theorem c_impl_bitsIn (mask : Int)  (w0 : World)  (hS : ST w0 [] w0 [] []) {r_ : Int} (hF : F_impl_bitsIn mask = some r_) :
    CV Tryd.prog 45 #[.int .i64 mask] w0 (fun v w' => v = .int .i64 r_ ∧ ST w0 [] w' [] []) := by
  unfold F_impl_bitsIn at hF
  refine cv_of_cw 6 Tryd.func45 rfl Tryd.ntmps45 rfl ?_
  refine cw_seq ?_
  refine cw_region ?_
  refine sq 2 rfl rfl (Y_assign (v := .int .i64 0) rfl rfl) ?_
  refine rw_nil ?_
  refine cw_seq ?_
  refine cw_region ?_
  refine sq 3 rfl rfl (Y_move (v := .int .i64 mask) rfl rfl) ?_
  refine sq 4 rfl rfl (Y_conv (k := .i64) (a := mask) (T := 3) (T' := 59) k_us_3 k_int_59_u64 rfl rfl) ?_
  obtain ⟨r_1, hc, hF⟩ := bind_inv hF
  refine sc 5 rfl rfl (Yc_func (g := 57) (vs := [.int .u64 (IntKind.u64.wrap mask)]) k_call_57 rfl (mc rfl mn) (c_math_bits_OnesCount (IntKind.u64.wrap mask) _  (hS.inn0 [] rfl) hc)) ?_
  rintro _ w_ ⟨rfl, hd⟩
  have hS1 := hS.out00 hd
  refine sq 2 rfl rfl (Y_assign (v := .int .i64 r_1) rfl rfl) ?_
  refine rw_nil ?_
  refine cw_ret ?_
  obtain rfl := some_inj hF
  exact ret1 Tryd.results45 (v1 := .int .i64 r_1) (resAt_tmp rfl) ⟨rfl, (ST.subR (R' := []) (hS1.sel [] rfl rfl) (fun _ h => by cases h))⟩

theorem c_impl_isAffine (a : TAffine) (n : Int)  (w0 : World)  (hS : ST w0 [] w0 [] []) {r_ : Bool} (hF : F_impl_isAffine a n = some r_) :
    CV Tryd.prog 47 #[.agg #[.int .i64 a.Mask, .int .i64 a.Turn], .int .i64 n] w0 (fun v w' => v = .bool r_ ∧ ST w0 [] w' [] []) := by
  unfold F_impl_isAffine at hF
  refine cv_of_cw 16 Tryd.func47 rfl Tryd.ntmps47 rfl ?_
  refine cw_seq ?_
  refine cw_region ?_
  refine ss 2 rfl rfl (Ys_box (T := 44) (v := .agg #[.int .i64 a.Mask, .int .i64 a.Turn]) (cs := [.int .i64 a.Mask, .int .i64 a.Turn]) (m := 2) hS rfl rfl rfl rfl) ?_
  rintro _ w_ ⟨b, rfl, hS1⟩
  refine sq 4 rfl rfl (Y_assign (v := .bool false) rfl rfl) ?_
  refine rw_nil ?_
  refine cw_seq ?_
  obtain ⟨hsh, hF⟩ := chk_inv hF
  obtain ⟨r_1, hc, hF⟩ := bind_inv hF
  obtain ⟨r_2, hc1, hF⟩ := bind_inv hF
  refine ra_start (ST.sel hS1 [0] rfl rfl).fn (by kernel_rfl) ?_
  have hS4 := hS1.drew
  refine ra_q 0 5 (v := pt (some ⟨b, 0, none⟩) 0) rfl rfl rfl (by kernel_rfl) (by kernel_rfl) (by kernel_rfl) (ST.sel hS4 [0] rfl rfl) (fun w' hw' => (Y_fieldAddr (B := some ⟨b, 0, none⟩) (i := 0) (s := 0) k_fd_44_0_0_3 k_sz_3_1 rfl rfl)) ?_
  refine ra_q 1 6 (v := .int .i64 a.Mask) rfl rfl rfl (by kernel_rfl) (by kernel_rfl) (by kernel_rfl) (ST.sel hS4 [0] rfl rfl) (fun w' hw' => (Y_load1 (B := some ⟨b, 0, none⟩) (i := 0) (cs := [.int .i64 a.Mask, .int .i64 a.Turn]) (v := .int .i64 a.Mask) k_sc_3 rfl rfl (ST.cf hw' (i := 0) rfl) rfl)) ?_
  refine ra_q 2 7 (v := .int .i64 n) rfl rfl rfl (by kernel_rfl) (by kernel_rfl) (by kernel_rfl) (ST.sel hS4 [0] rfl rfl) (fun w' hw' => (Y_move (v := .int .i64 n) rfl rfl)) ?_
  refine ra_q 3 8 (v := .int .i64 (shlK .i64 1 n)) rfl rfl rfl (by kernel_rfl) (by kernel_rfl) (by kernel_rfl) (ST.sel hS4 [0] rfl rfl) (fun w' hw' => (Y_shl (k := .i64) (a := 1) (k' := .i64) (b := n) rfl rfl rfl hsh)) ?_
  refine ra_q 4 9 (v := .int .i64 (IntKind.i64.wrap ((shlK .i64 1 n) - 1))) rfl rfl rfl (by kernel_rfl) (by kernel_rfl) (by kernel_rfl) (ST.sel hS4 [0] rfl rfl) (fun w' hw' => (Y_sub (k := .i64) (a := (shlK .i64 1 n)) (b := 1) rfl rfl rfl)) ?_
  refine ra_all (rs := [5]) (by kernel_rfl) rfl ?_
  refine ra_c 10 (i := 5) rfl rfl rfl (Yc_func (g := 44) (vs := [.int .i64 a.Mask, .int .i64 0, .int .i64 (IntKind.i64.wrap ((shlK .i64 1 n) - 1))]) k_call_44 rfl (mc rfl (mc rfl (mc rfl mn))) (c_impl_within a.Mask 0 (IntKind.i64.wrap ((shlK .i64 1 n) - 1)) _  (hS4.inn0 [] rfl) hc)) ?_ ?_
  · rintro _ w_1 ⟨rfl, hd⟩
    have hS5 := hS4.out00 hd
    refine ⟨(ST.sel hS5 [0] rfl rfl), ?_⟩
    refine ra_q 6 11 (v := .bool r_1) rfl rfl rfl (by kernel_rfl) (by kernel_rfl) (by kernel_rfl) (ST.sel hS5 [0] rfl rfl) (fun w' hw' => (Y_move (v := .bool r_1) rfl rfl)) ?_
    refine ra_gq 7 12 (B := r_1) (v := pt (some ⟨b, 0, none⟩) 1) rfl rfl rfl (wt_t (gd_of (t := 11) (by kernel_rfl) rfl)) (by kernel_rfl) (by kernel_rfl) (by kernel_rfl) (ST.sel hS5 [0] rfl rfl) (fun hg w' hw' => (Y_fieldAddr (B := some ⟨b, 0, none⟩) (i := 0) (s := 0) k_fd_44_1_1_3 k_sz_3_1 rfl rfl)) ?_
    refine ra_gq 8 13 (B := r_1) (v := .int .i64 a.Turn) rfl rfl rfl (wt_t (gd_of (t := 11) (by kernel_rfl) rfl)) (by kernel_rfl) (by kernel_rfl) (by kernel_rfl) (ST.sel hS5 [0] rfl rfl) (fun hg1 w' hw' => (Y_load1 (B := some ⟨b, 0, none⟩) (i := 1) (cs := [.int .i64 a.Mask, .int .i64 a.Turn]) (v := .int .i64 a.Turn) k_sc_3 rfl (gv_of (B := r_1) (v := pt (some ⟨b, 0, none⟩) 1) hg1) (ST.cf hw' (i := 0) rfl) rfl)) ?_
    refine ra_all (rs := [9]) (by kernel_rfl) rfl ?_
    refine ra_gc 14 (i := 9) (B := r_1) (v := .bool r_2) (F := hS5.fn) rfl rfl rfl (wt_t (gd_of (t := 11) (by kernel_rfl) rfl)) hS5 (fun hg2 => (Yc_func (g := 44) (vs := [.int .i64 a.Turn, .int .i64 0, .int .i64 1]) k_call_44 rfl (mc (gv_of (B := r_1) (v := .int .i64 a.Turn) hg2) (mc rfl (mc rfl mn))) (CV.mono (c_impl_within a.Turn 0 1 _  (hS5.inn0 [] rfl) (gb_inv hc1 hg2)) (by rintro _ _ ⟨rfl, h⟩; exact ⟨rfl, hS5.out00 h⟩)))) ?_ ?_
    · rintro w_2 hS6
      have hS6 : ST _ _ w_2 _ _ := hS6
      refine ⟨(ST.sel hS6 [0] rfl rfl), ?_⟩
      refine ra_q 10 15 (v := .bool (r_1 && r_2)) rfl rfl rfl (by kernel_rfl) (by kernel_rfl) (by kernel_rfl) (ST.sel hS6 [0] rfl rfl) (fun w' hw' => (Y_and (b := r_1) (z := r_2) rfl rfl rfl rfl)) ?_
      refine ra_q 11 4 (v := .bool (r_1 && r_2)) rfl rfl rfl (by kernel_rfl) (by kernel_rfl) (by kernel_rfl) (ST.sel hS6 [0] rfl rfl) (fun w' hw' => (Y_assign (v := .bool (r_1 && r_2)) rfl rfl)) ?_
      refine ra_done (by kernel_rfl) ?_
      refine cw_ret ?_
      obtain rfl := some_inj hF
      exact ret1 Tryd.results47 (v1 := .bool (r_1 && r_2)) (resAt_tmp rfl) ⟨rfl, (ST.subR (R' := []) (hS6.sel [] rfl rfl) (fun _ h => by cases h))⟩
    exact allR_nil
  exact allR_nil

theorem c_impl_IsValidPathSum_1 (a : TAffine) (p : Int) (B : Option Addr) (w0 : World)  (hS : ST w0 [] w0 [] [⟨B, [.int .i64 p]⟩]) {r_ : Bool} (hF : F_impl_IsValidPathSum_1 a p = some r_) :
    CV Tryd.prog 46 #[.agg #[.int .i64 a.Mask, .int .i64 a.Turn], pt B 0] w0 (fun v w' => v = .bool r_ ∧ ST w0 [] w' [] []) := by
  unfold F_impl_IsValidPathSum_1 at hF
  refine cv_of_cw 8 Tryd.func46 rfl Tryd.ntmps46 rfl ?_
  refine cw_seq ?_
  refine cw_region ?_
  refine ss 2 rfl rfl (Ys_box (T := 44) (v := .agg #[.int .i64 a.Mask, .int .i64 a.Turn]) (cs := [.int .i64 a.Mask, .int .i64 a.Turn]) (m := 2) hS rfl rfl rfl rfl) ?_
  rintro _ w_ ⟨b, rfl, hS1⟩
  refine sq 3 rfl rfl (Y_assign (v := .bool false) rfl rfl) ?_
  refine rw_nil ?_
  refine cw_seq ?_
  refine cw_region ?_
  refine sq 4 rfl rfl (Y_loadA (B := some ⟨b, 0, none⟩) (i := 0) (cs := [.int .i64 a.Mask, .int .i64 a.Turn]) (vs := [.int .i64 a.Mask, .int .i64 a.Turn]) k_ag_44 k_sz_44_2 rfl rfl (hS1.cf (i := 0) rfl) rfl rfl) ?_
  refine sq 5 rfl rfl (Y_load1 (B := B) (i := 0) (cs := [.int .i64 p]) (v := .int .i64 p) k_sc_3 rfl rfl (hS1.rf (i := 0) rfl) rfl) ?_
  obtain ⟨r_1, hc, hF⟩ := bind_inv hF
  refine sc 6 rfl rfl (Yc_func (g := 47) (vs := [.agg #[.int .i64 a.Mask, .int .i64 a.Turn], .int .i64 p]) k_call_47 rfl (mc rfl (mc rfl mn)) (c_impl_isAffine a p _  (hS1.inn0 [] rfl) hc)) ?_
  rintro _ w_1 ⟨rfl, hd⟩
  have hS2 := hS1.out00 hd
  refine sq 7 rfl rfl (Y_not (p := r_1) rfl rfl) ?_
  refine sq 3 rfl rfl (Y_assign (v := .bool (!r_1)) rfl rfl) ?_
  refine rw_nil ?_
  refine cw_ret ?_
  obtain rfl := some_inj hF
  exact ret1 Tryd.results46 (v1 := .bool (!r_1)) (resAt_tmp rfl) ⟨rfl, (ST.subR (R' := []) (hS2.sel [] rfl rfl) (fun _ h => by cases h))⟩

theorem c_impl_IsValidPathSum (p : TPathSum) (B : Option Addr) (c n : Nat) (B1 : Option Addr) (c1 n1 : Nat) (w0 : World) (hn : p.Terms.length = n) (hn1 : p.Out.length = n1) (hS : ST w0 [] w0 [] [⟨B, (p.Terms.flatMap enc_Term)⟩, ⟨B1, (p.Out.flatMap enc_Affine)⟩]) {r_ : Bool} (hF : F_impl_IsValidPathSum p = some r_) :
    CV Tryd.prog 20 #[.agg #[.int .i64 p.Ins, .int .i64 p.Vars, .int .i64 p.Root, .int .i64 p.Phase, .slice B n c, .slice B1 n1 c1]] w0 (fun v w' => v = .bool r_ ∧ ST w0 [] w' [] []) := by
  subst hn
  subst hn1
  unfold F_impl_IsValidPathSum at hF
  refine cv_of_cw 104 Tryd.func20 rfl Tryd.ntmps20 rfl ?_
  refine cw_seq ?_
  refine cw_region ?_
  refine ss 1 rfl rfl (Ys_box (T := 30) (v := .agg #[.int .i64 p.Ins, .int .i64 p.Vars, .int .i64 p.Root, .int .i64 p.Phase, .slice B p.Terms.length c, .slice B1 p.Out.length c1]) (cs := [.int .i64 p.Ins, .int .i64 p.Vars, .int .i64 p.Root, .int .i64 p.Phase, .slice B p.Terms.length c, .slice B1 p.Out.length c1]) (m := 6) hS rfl rfl rfl rfl) ?_
  rintro _ w_ ⟨b, rfl, hS1⟩
  refine sq 2 rfl rfl (Y_assign (v := .bool false) rfl rfl) ?_
  refine rw_nil ?_
  refine cw_seq ?_
  refine cw_seq ?_
  refine cw_region ?_
  refine sq 7 rfl rfl (Y_fieldAddr (B := some ⟨b, 0, none⟩) (i := 0) (s := 0) k_fd_30_0_0_3 k_sz_3_1 rfl rfl) ?_
  refine sq 8 rfl rfl (Y_load1 (B := some ⟨b, 0, none⟩) (i := 0) (cs := [.int .i64 p.Ins, .int .i64 p.Vars, .int .i64 p.Root, .int .i64 p.Phase, .slice B p.Terms.length c, .slice B1 p.Out.length c1]) (v := .int .i64 p.Ins) k_sc_3 rfl rfl (hS1.cf (i := 0) rfl) rfl) ?_
  obtain ⟨r_1, hc, hF⟩ := bind_inv hF
  refine sc 9 rfl rfl (Yc_func (g := 44) (vs := [.int .i64 p.Ins, .int .i64 1, .int .i64 5]) k_call_44 rfl (mc rfl (mc rfl (mc rfl mn))) (c_impl_within p.Ins 1 5 _  (hS1.inn0 [] rfl) hc)) ?_
  rintro _ w_1 ⟨rfl, hd⟩
  have hS2 := hS1.out00 hd
  refine sq 10 rfl rfl (Y_not (p := r_1) rfl rfl) ?_
  refine sq 11 rfl rfl (Y_move (v := .bool (!r_1)) rfl rfl) ?_
  refine sgq 12 (B := (!(!r_1))) (v := pt (some ⟨b, 0, none⟩) 1) rfl rfl (wt_f (gd_of (t := 11) (by kernel_rfl) rfl)) (fun hg => (Y_fieldAddr (B := some ⟨b, 0, none⟩) (i := 0) (s := 0) k_fd_30_1_1_3 k_sz_3_1 rfl rfl)) ?_
  refine sgq 13 (B := (!(!r_1))) (v := .int .i64 p.Vars) rfl rfl (wt_f (gd_of (t := 11) (by kernel_rfl) rfl)) (fun hg1 => (Y_load1 (B := some ⟨b, 0, none⟩) (i := 1) (cs := [.int .i64 p.Ins, .int .i64 p.Vars, .int .i64 p.Root, .int .i64 p.Phase, .slice B p.Terms.length c, .slice B1 p.Out.length c1]) (v := .int .i64 p.Vars) k_sc_3 rfl (gv_of (B := (!(!r_1))) (v := pt (some ⟨b, 0, none⟩) 1) hg1) (hS2.cf (i := 0) rfl) rfl)) ?_
  refine sgq 14 (B := (!(!r_1))) (v := pt (some ⟨b, 0, none⟩) 0) rfl rfl (wt_f (gd_of (t := 11) (by kernel_rfl) rfl)) (fun hg2 => (Y_fieldAddr (B := some ⟨b, 0, none⟩) (i := 0) (s := 0) k_fd_30_0_0_3 k_sz_3_1 rfl rfl)) ?_
  refine sgq 15 (B := (!(!r_1))) (v := .int .i64 p.Ins) rfl rfl (wt_f (gd_of (t := 11) (by kernel_rfl) rfl)) (fun hg3 => (Y_load1 (B := some ⟨b, 0, none⟩) (i := 0) (cs := [.int .i64 p.Ins, .int .i64 p.Vars, .int .i64 p.Root, .int .i64 p.Phase, .slice B p.Terms.length c, .slice B1 p.Out.length c1]) (v := .int .i64 p.Ins) k_sc_3 rfl (gv_of (B := (!(!r_1))) (v := pt (some ⟨b, 0, none⟩) 0) hg3) (hS2.cf (i := 0) rfl) rfl)) ?_
  refine sgq 16 (B := (!(!r_1))) (v := .int .i64 (IntKind.i64.wrap (24 - p.Ins))) rfl rfl (wt_f (gd_of (t := 11) (by kernel_rfl) rfl)) (fun hg4 => (Y_sub (k := .i64) (a := 24) (b := p.Ins) rfl rfl (gv_of (B := (!(!r_1))) (v := .int .i64 p.Ins) hg4))) ?_
  obtain ⟨r_2, hc1, hF⟩ := bind_inv hF
  refine sgc 17 (B := (!(!r_1))) (v := .bool r_2) (F := hS2.fn) rfl rfl (wt_f (gd_of (t := 11) (by kernel_rfl) rfl)) hS2 (fun hg5 => (Yc_func (g := 44) (vs := [.int .i64 p.Vars, .int .i64 0, .int .i64 (IntKind.i64.wrap (24 - p.Ins))]) k_call_44 rfl (mc (gv_of (B := (!(!r_1))) (v := .int .i64 p.Vars) hg5) (mc rfl (mc (gv_of (B := (!(!r_1))) (v := .int .i64 (IntKind.i64.wrap (24 - p.Ins))) hg5) mn))) (CV.mono (c_impl_within p.Vars 0 (IntKind.i64.wrap (24 - p.Ins)) _  (hS2.inn0 [] rfl) (gb_inv hc1 hg5)) (by rintro _ _ ⟨rfl, h⟩; exact ⟨rfl, hS2.out00 h⟩)))) ?_
  rintro w_2 hS3
  have hS3 : ST _ _ w_2 _ _ := hS3
  refine sgq 18 (B := (!(!r_1))) (v := .bool (!r_2)) rfl rfl (wt_f (gd_of (t := 11) (by kernel_rfl) rfl)) (fun hg6 => (Y_not (p := r_2) rfl (gv_of (B := (!(!r_1))) (v := .bool r_2) hg6))) ?_
  refine sq 19 rfl rfl (Y_or (b := (!r_1)) (z := (!r_2)) rfl rfl rfl rfl) ?_
  refine sq 20 rfl rfl (Y_move (v := .bool ((!r_1) || (!r_2))) rfl rfl) ?_
  refine sgq 21 (B := (!((!r_1) || (!r_2)))) (v := pt (some ⟨b, 0, none⟩) 2) rfl rfl (wt_f (gd_of (t := 20) (by kernel_rfl) rfl)) (fun hg7 => (Y_fieldAddr (B := some ⟨b, 0, none⟩) (i := 0) (s := 0) k_fd_30_2_2_3 k_sz_3_1 rfl rfl)) ?_
  refine sgq 22 (B := (!((!r_1) || (!r_2)))) (v := .int .i64 p.Root) rfl rfl (wt_f (gd_of (t := 20) (by kernel_rfl) rfl)) (fun hg8 => (Y_load1 (B := some ⟨b, 0, none⟩) (i := 2) (cs := [.int .i64 p.Ins, .int .i64 p.Vars, .int .i64 p.Root, .int .i64 p.Phase, .slice B p.Terms.length c, .slice B1 p.Out.length c1]) (v := .int .i64 p.Root) k_sc_3 rfl (gv_of (B := (!((!r_1) || (!r_2)))) (v := pt (some ⟨b, 0, none⟩) 2) hg8) (hS3.cf (i := 0) rfl) rfl)) ?_
  obtain ⟨r_3, hc2, hF⟩ := bind_inv hF
  refine sgc 23 (B := (!((!r_1) || (!r_2)))) (v := .bool r_3) (F := hS3.fn) rfl rfl (wt_f (gd_of (t := 20) (by kernel_rfl) rfl)) hS3 (fun hg9 => (Yc_func (g := 44) (vs := [.int .i64 p.Root, .int .i64 (-60), .int .i64 60]) k_call_44 rfl (mc (gv_of (B := (!((!r_1) || (!r_2)))) (v := .int .i64 p.Root) hg9) (mc rfl (mc rfl mn))) (CV.mono (c_impl_within p.Root (-60) 60 _  (hS3.inn0 [] rfl) (gb_inv hc2 hg9)) (by rintro _ _ ⟨rfl, h⟩; exact ⟨rfl, hS3.out00 h⟩)))) ?_
  rintro w_3 hS4
  have hS4 : ST _ _ w_3 _ _ := hS4
  refine sgq 24 (B := (!((!r_1) || (!r_2)))) (v := .bool (!r_3)) rfl rfl (wt_f (gd_of (t := 20) (by kernel_rfl) rfl)) (fun hg10 => (Y_not (p := r_3) rfl (gv_of (B := (!((!r_1) || (!r_2)))) (v := .bool r_3) hg10))) ?_
  refine sq 25 rfl rfl (Y_or (b := ((!r_1) || (!r_2))) (z := (!r_3)) rfl rfl rfl rfl) ?_
  refine sq 26 rfl rfl (Y_move (v := .bool (((!r_1) || (!r_2)) || (!r_3))) rfl rfl) ?_
  refine sgq 27 (B := (!(((!r_1) || (!r_2)) || (!r_3)))) (v := pt (some ⟨b, 0, none⟩) 3) rfl rfl (wt_f (gd_of (t := 26) (by kernel_rfl) rfl)) (fun hg11 => (Y_fieldAddr (B := some ⟨b, 0, none⟩) (i := 0) (s := 0) k_fd_30_3_3_3 k_sz_3_1 rfl rfl)) ?_
  refine sgq 28 (B := (!(((!r_1) || (!r_2)) || (!r_3)))) (v := .int .i64 p.Phase) rfl rfl (wt_f (gd_of (t := 26) (by kernel_rfl) rfl)) (fun hg12 => (Y_load1 (B := some ⟨b, 0, none⟩) (i := 3) (cs := [.int .i64 p.Ins, .int .i64 p.Vars, .int .i64 p.Root, .int .i64 p.Phase, .slice B p.Terms.length c, .slice B1 p.Out.length c1]) (v := .int .i64 p.Phase) k_sc_3 rfl (gv_of (B := (!(((!r_1) || (!r_2)) || (!r_3)))) (v := pt (some ⟨b, 0, none⟩) 3) hg12) (hS4.cf (i := 0) rfl) rfl)) ?_
  obtain ⟨r_4, hc3, hF⟩ := bind_inv hF
  refine sgc 29 (B := (!(((!r_1) || (!r_2)) || (!r_3)))) (v := .bool r_4) (F := hS4.fn) rfl rfl (wt_f (gd_of (t := 26) (by kernel_rfl) rfl)) hS4 (fun hg13 => (Yc_func (g := 44) (vs := [.int .i64 p.Phase, .int .i64 0, .int .i64 7]) k_call_44 rfl (mc (gv_of (B := (!(((!r_1) || (!r_2)) || (!r_3)))) (v := .int .i64 p.Phase) hg13) (mc rfl (mc rfl mn))) (CV.mono (c_impl_within p.Phase 0 7 _  (hS4.inn0 [] rfl) (gb_inv hc3 hg13)) (by rintro _ _ ⟨rfl, h⟩; exact ⟨rfl, hS4.out00 h⟩)))) ?_
  rintro w_4 hS5
  have hS5 : ST _ _ w_4 _ _ := hS5
  refine sgq 30 (B := (!(((!r_1) || (!r_2)) || (!r_3)))) (v := .bool (!r_4)) rfl rfl (wt_f (gd_of (t := 26) (by kernel_rfl) rfl)) (fun hg14 => (Y_not (p := r_4) rfl (gv_of (B := (!(((!r_1) || (!r_2)) || (!r_3)))) (v := .bool r_4) hg14))) ?_
  refine sq 31 rfl rfl (Y_or (b := (((!r_1) || (!r_2)) || (!r_3))) (z := (!r_4)) rfl rfl rfl rfl) ?_
  refine sq 32 rfl rfl (Y_move (v := .bool ((((!r_1) || (!r_2)) || (!r_3)) || (!r_4))) rfl rfl) ?_
  refine sgq 33 (B := (!((((!r_1) || (!r_2)) || (!r_3)) || (!r_4)))) (v := pt (some ⟨b, 0, none⟩) 5) rfl rfl (wt_f (gd_of (t := 32) (by kernel_rfl) rfl)) (fun hg15 => (Y_fieldAddr (B := some ⟨b, 0, none⟩) (i := 0) (s := 0) k_fd_30_5_5_28 k_sz_28_1 rfl rfl)) ?_
  refine sgq 34 (B := (!((((!r_1) || (!r_2)) || (!r_3)) || (!r_4)))) (v := .slice B1 p.Out.length c1) rfl rfl (wt_f (gd_of (t := 32) (by kernel_rfl) rfl)) (fun hg16 => (Y_load1 (B := some ⟨b, 0, none⟩) (i := 5) (cs := [.int .i64 p.Ins, .int .i64 p.Vars, .int .i64 p.Root, .int .i64 p.Phase, .slice B p.Terms.length c, .slice B1 p.Out.length c1]) (v := .slice B1 p.Out.length c1) k_sc_28 rfl (gv_of (B := (!((((!r_1) || (!r_2)) || (!r_3)) || (!r_4)))) (v := pt (some ⟨b, 0, none⟩) 5) hg16) (hS5.cf (i := 0) rfl) rfl)) ?_
  refine sgq 35 (B := (!((((!r_1) || (!r_2)) || (!r_3)) || (!r_4)))) (v := .int .i64 (p.Out.length : Int)) rfl rfl (wt_f (gd_of (t := 32) (by kernel_rfl) rfl)) (fun hg17 => (Y_len (B := B1) (m := p.Out.length) (c := c1) k_sl_28_44 rfl (gv_of (B := (!((((!r_1) || (!r_2)) || (!r_3)) || (!r_4)))) (v := .slice B1 p.Out.length c1) hg17))) ?_
  refine sgq 36 (B := (!((((!r_1) || (!r_2)) || (!r_3)) || (!r_4)))) (v := pt (some ⟨b, 0, none⟩) 0) rfl rfl (wt_f (gd_of (t := 32) (by kernel_rfl) rfl)) (fun hg18 => (Y_fieldAddr (B := some ⟨b, 0, none⟩) (i := 0) (s := 0) k_fd_30_0_0_3 k_sz_3_1 rfl rfl)) ?_
  refine sgq 37 (B := (!((((!r_1) || (!r_2)) || (!r_3)) || (!r_4)))) (v := .int .i64 p.Ins) rfl rfl (wt_f (gd_of (t := 32) (by kernel_rfl) rfl)) (fun hg19 => (Y_load1 (B := some ⟨b, 0, none⟩) (i := 0) (cs := [.int .i64 p.Ins, .int .i64 p.Vars, .int .i64 p.Root, .int .i64 p.Phase, .slice B p.Terms.length c, .slice B1 p.Out.length c1]) (v := .int .i64 p.Ins) k_sc_3 rfl (gv_of (B := (!((((!r_1) || (!r_2)) || (!r_3)) || (!r_4)))) (v := pt (some ⟨b, 0, none⟩) 0) hg19) (hS5.cf (i := 0) rfl) rfl)) ?_
  refine sgq 38 (B := (!((((!r_1) || (!r_2)) || (!r_3)) || (!r_4)))) (v := .bool ((p.Out.length : Int) != p.Ins)) rfl rfl (wt_f (gd_of (t := 32) (by kernel_rfl) rfl)) (fun hg20 => (Y_ne (k := .i64) (a := (p.Out.length : Int)) (b := p.Ins) rfl (gv_of (B := (!((((!r_1) || (!r_2)) || (!r_3)) || (!r_4)))) (v := .int .i64 (p.Out.length : Int)) hg20) (gv_of (B := (!((((!r_1) || (!r_2)) || (!r_3)) || (!r_4)))) (v := .int .i64 p.Ins) hg20))) ?_
  refine sq 39 rfl rfl (Y_or (b := ((((!r_1) || (!r_2)) || (!r_3)) || (!r_4))) (z := ((p.Out.length : Int) != p.Ins)) rfl rfl rfl rfl) ?_
  refine rw_nil ?_
  refine cw_cond (b := (((((!r_1) || (!r_2)) || (!r_3)) || (!r_4)) || ((p.Out.length : Int) != p.Ins))) rfl (fun hb => ?_) (fun hb => ?_)
  · skip
    have hF1 := ct hF hb
    refine cw_seq ?_
    refine cw_region ?_
    refine sq 2 rfl rfl (Y_assign (v := .bool false) rfl rfl) ?_
    refine rw_nil ?_
    refine cw_ret ?_
    obtain rfl := some_inj hF1
    exact ret1 Tryd.results20 (v1 := .bool false) (resAt_tmp rfl) ⟨rfl, (ST.subR (R' := []) (hS5.sel [] rfl rfl) (fun _ h => by cases h))⟩
  · skip
    have hF2 := cf' hF hb
    refine cw_skip ?_
    refine cw_seq ?_
    refine cw_region ?_
    refine sq 40 rfl rfl (Y_fieldAddr (B := some ⟨b, 0, none⟩) (i := 0) (s := 0) k_fd_30_0_0_3 k_sz_3_1 rfl rfl) ?_
    refine sq 41 rfl rfl (Y_load1 (B := some ⟨b, 0, none⟩) (i := 0) (cs := [.int .i64 p.Ins, .int .i64 p.Vars, .int .i64 p.Root, .int .i64 p.Phase, .slice B p.Terms.length c, .slice B1 p.Out.length c1]) (v := .int .i64 p.Ins) k_sc_3 rfl rfl (hS5.cf (i := 0) rfl) rfl) ?_
    refine sq 42 rfl rfl (Y_fieldAddr (B := some ⟨b, 0, none⟩) (i := 0) (s := 0) k_fd_30_1_1_3 k_sz_3_1 rfl rfl) ?_
    refine sq 43 rfl rfl (Y_load1 (B := some ⟨b, 0, none⟩) (i := 1) (cs := [.int .i64 p.Ins, .int .i64 p.Vars, .int .i64 p.Root, .int .i64 p.Phase, .slice B p.Terms.length c, .slice B1 p.Out.length c1]) (v := .int .i64 p.Vars) k_sc_3 rfl rfl (hS5.cf (i := 0) rfl) rfl) ?_
    refine sq 44 rfl rfl (Y_add (k := .i64) (a := p.Ins) (b := p.Vars) rfl rfl rfl) ?_
    refine ss 3 rfl rfl (Ys_alloc (T := 3) (cs := [.int .i64 0]) (m := 1) hS5 k_zero_3 rfl rfl rfl) ?_
    rintro _ w_5 ⟨b1, rfl, hS6⟩
    have hS6 : ST w0 [] _ [⟨some ⟨b, 0, none⟩, 30, [.int .i64 p.Ins, .int .i64 p.Vars, .int .i64 p.Root, .int .i64 p.Phase, .slice B p.Terms.length c, .slice B1 p.Out.length c1], 6⟩, ⟨some ⟨b1, 0, none⟩, 3, [.int .i64 0], 1⟩] [⟨B, (p.Terms.flatMap enc_Term)⟩, ⟨B1, (p.Out.flatMap enc_Affine)⟩] := hS6
    refine ss0 rfl rfl (Ys_store (i := 1) (s := 1) (B := some ⟨b1, 0, none⟩) (T' := 3) (v := .int .i64 (IntKind.i64.wrap (p.Ins + p.Vars))) (vs := [.int .i64 (IntKind.i64.wrap (p.Ins + p.Vars))]) (k := 0) (cs' := [.int .i64 (IntKind.i64.wrap (p.Ins + p.Vars))]) hS6 k_sz_3_1 rfl rfl rfl rfl rfl rfl rfl (Nat.le_of_ble_eq_true rfl) rfl rfl) ?_
    rintro _ w_6 ⟨rfl, hS7⟩
    have hS7 : ST w0 [] _ [⟨some ⟨b, 0, none⟩, 30, [.int .i64 p.Ins, .int .i64 p.Vars, .int .i64 p.Root, .int .i64 p.Phase, .slice B p.Terms.length c, .slice B1 p.Out.length c1], 6⟩, ⟨some ⟨b1, 0, none⟩, 3, [.int .i64 (IntKind.i64.wrap (p.Ins + p.Vars))], 1⟩] [⟨B, (p.Terms.flatMap enc_Term)⟩, ⟨B1, (p.Out.flatMap enc_Affine)⟩] := hS7
    refine rw_nil ?_
    refine cw_seq ?_
    refine cw_seq ?_
    refine cw_region ?_
    refine sq 45 rfl rfl (Y_fieldAddr (B := some ⟨b, 0, none⟩) (i := 0) (s := 0) k_fd_30_4_4_27 k_sz_27_1 rfl rfl) ?_
    refine sq 46 rfl rfl (Y_load1 (B := some ⟨b, 0, none⟩) (i := 4) (cs := [.int .i64 p.Ins, .int .i64 p.Vars, .int .i64 p.Root, .int .i64 p.Phase, .slice B p.Terms.length c, .slice B1 p.Out.length c1]) (v := .slice B p.Terms.length c) k_sc_27 rfl rfl (hS7.cf (i := 0) rfl) rfl) ?_
    refine sq 47 rfl rfl (Y_len (B := B) (m := p.Terms.length) (c := c) k_sl_27_56 rfl rfl) ?_
    refine sq 48 rfl rfl (Y_move (v := .int .i64 0) rfl rfl) ?_
    refine rw_nil ?_
    obtain ⟨hN, hF2⟩ := chk_inv hF2
    obtain ⟨z, hz, hF3⟩ := bind_inv hF2
    refine cw_block ?_
    refine cw_loop (fun k f w => ∃ (i : Nat), FF f [(1, pt (some ⟨b, 0, none⟩) 0), (3, pt (some ⟨b1, 0, none⟩) 0), (46, .slice B p.Terms.length c), (47, .int .i64 (p.Terms.length : Int)), (48, .int .i64 (i : Int))] ∧ ST w0 [] w [⟨some ⟨b, 0, none⟩, 30, [.int .i64 p.Ins, .int .i64 p.Vars, .int .i64 p.Root, .int .i64 p.Phase, .slice B p.Terms.length c, .slice B1 p.Out.length c1], 6⟩, ⟨some ⟨b1, 0, none⟩, 3, [.int .i64 (IntKind.i64.wrap (p.Ins + p.Vars))], 1⟩] [⟨B, (p.Terms.flatMap enc_Term)⟩, ⟨B1, (p.Out.flatMap enc_Affine)⟩] ∧ i + k = p.Terms.length ∧ forX (F_impl_IsValidPathSum_l1 p) k i () = some z) p.Terms.length ⟨0, (FF.cons rfl (FF.cons rfl (FF.cons rfl (FF.cons rfl (FF.cons rfl FF.nil))))), (hS7.sel [0, 1] rfl rfl), Nat.zero_add _, hz⟩ ?_
    rintro k_ f w ⟨i, hf, hS8, hik, hL⟩
    refine cw_seq ?_
    refine cw_region ?_
    refine sq 49 rfl rfl (Y_lt (k := .i64) (a := (i : Int)) (b := (p.Terms.length : Int)) rfl (hf.get 48 4 rfl) (hf.get 47 3 rfl)) ?_
    refine rw_nil ?_
    refine cw_seq ?_
    refine cw_cond (b := (decide ((i : Int) < (p.Terms.length : Int)))) rfl (fun hlt => ?_) (fun hlt => ?_)
    · skip
      have hlt1 : i < p.Terms.length := by have h := of_decide_eq_true hlt; omega
      obtain ⟨k_1, rfl⟩ : ∃ k2, k_ = k2 + 1 := ⟨k_ - 1, by omega⟩
      obtain ⟨y, hb1, hL1⟩ := forX_go hL
      unfold F_impl_IsValidPathSum_l1 at hb1
      refine cw_skip ?_
      refine cw_seq ?_
      refine cw_block ?_
      refine cw_seq ?_
      refine cw_region ?_
      refine sq 50 rfl rfl (Y_move (v := .int .i64 (i : Int)) rfl (hf.get 48 4 rfl)) ?_
      obtain ⟨x, hx, hb1⟩ := bind_inv hb1
      refine sq 51 rfl rfl (Y_index (B := B) (m := p.Terms.length) (c := c) (k := .i64) (i := (i : Int)) k_sl_27_56 k_sz_56_2 rfl (hf.get 46 2 rfl) (hf.get 48 4 rfl) (gi_isSome enc_Term_len rfl (hS8.rf (i := 0) rfl) hx) (getI_nn hx) (getI_ltI hx rfl)) ?_
      refine sq 52 rfl rfl (Y_loadA (B := B) (i := (i : Int).toNat * 2) (cs := (p.Terms.flatMap enc_Term)) (vs := [.int .i64 x.Mask, .int .i64 x.Coef]) k_ag_56 k_sz_56_2 rfl rfl (hS8.rf (i := 0) rfl) (enc_Term_len x) (gi_seg enc_Term_len hx)) ?_
      refine ss 5 rfl rfl (Ys_alloc (T := 56) (cs := [.int .i64 0, .int .i64 0]) (m := 2) hS8 k_zero_56 rfl rfl rfl) ?_
      rintro _ w_7 ⟨b2, rfl, hS9⟩
      have hS9 : ST w0 [] _ [⟨some ⟨b, 0, none⟩, 30, [.int .i64 p.Ins, .int .i64 p.Vars, .int .i64 p.Root, .int .i64 p.Phase, .slice B p.Terms.length c, .slice B1 p.Out.length c1], 6⟩, ⟨some ⟨b1, 0, none⟩, 3, [.int .i64 (IntKind.i64.wrap (p.Ins + p.Vars))], 1⟩, ⟨some ⟨b2, 0, none⟩, 56, [.int .i64 0, .int .i64 0], 2⟩] [⟨B, (p.Terms.flatMap enc_Term)⟩, ⟨B1, (p.Out.flatMap enc_Affine)⟩] := hS9
      refine sq 4 rfl rfl (Y_assign (v := .int .i64 (i : Int)) rfl rfl) ?_
      refine ss0 rfl rfl (Ys_store (i := 2) (s := 2) (B := some ⟨b2, 0, none⟩) (T' := 56) (v := .agg #[.int .i64 x.Mask, .int .i64 x.Coef]) (vs := [.int .i64 x.Mask, .int .i64 x.Coef]) (k := 0) (cs' := [.int .i64 x.Mask, .int .i64 x.Coef]) hS9 k_sz_56_2 rfl rfl rfl rfl rfl rfl rfl (Nat.le_of_ble_eq_true rfl) rfl rfl) ?_
      rintro _ w_8 ⟨rfl, hS10⟩
      have hS10 : ST w0 [] _ [⟨some ⟨b, 0, none⟩, 30, [.int .i64 p.Ins, .int .i64 p.Vars, .int .i64 p.Root, .int .i64 p.Phase, .slice B p.Terms.length c, .slice B1 p.Out.length c1], 6⟩, ⟨some ⟨b1, 0, none⟩, 3, [.int .i64 (IntKind.i64.wrap (p.Ins + p.Vars))], 1⟩, ⟨some ⟨b2, 0, none⟩, 56, [.int .i64 x.Mask, .int .i64 x.Coef], 2⟩] [⟨B, (p.Terms.flatMap enc_Term)⟩, ⟨B1, (p.Out.flatMap enc_Affine)⟩] := hS10
      refine rw_nil ?_
      refine cw_seq ?_
      refine cw_region ?_
      refine sq 53 rfl rfl (Y_fieldAddr (B := some ⟨b2, 0, none⟩) (i := 0) (s := 0) k_fd_56_0_0_3 k_sz_3_1 rfl rfl) ?_
      refine sq 54 rfl rfl (Y_load1 (B := some ⟨b2, 0, none⟩) (i := 0) (cs := [.int .i64 x.Mask, .int .i64 x.Coef]) (v := .int .i64 x.Mask) k_sc_3 rfl rfl (hS10.cf (i := 2) rfl) rfl) ?_
      obtain ⟨r_5, hc4, hb1⟩ := bind_inv hb1
      refine sc 55 rfl rfl (Yc_func (g := 45) (vs := [.int .i64 x.Mask]) k_call_45 rfl (mc rfl mn) (c_impl_bitsIn x.Mask _  (hS10.inn0 [] rfl) hc4)) ?_
      rintro _ w_9 ⟨rfl, hd1⟩
      have hS11 := hS10.out00 hd1
      have hS11 : ST w0 [] _ [⟨some ⟨b, 0, none⟩, 30, [.int .i64 p.Ins, .int .i64 p.Vars, .int .i64 p.Root, .int .i64 p.Phase, .slice B p.Terms.length c, .slice B1 p.Out.length c1], 6⟩, ⟨some ⟨b1, 0, none⟩, 3, [.int .i64 (IntKind.i64.wrap (p.Ins + p.Vars))], 1⟩, ⟨some ⟨b2, 0, none⟩, 56, [.int .i64 x.Mask, .int .i64 x.Coef], 2⟩] [⟨B, (p.Terms.flatMap enc_Term)⟩, ⟨B1, (p.Out.flatMap enc_Affine)⟩] := hS11
      refine sq 6 rfl rfl (Y_assign (v := .int .i64 r_5) rfl rfl) ?_
      refine rw_nil ?_
      refine cw_seq ?_
      obtain ⟨hsh, hb1⟩ := chk_inv hb1
      obtain ⟨r_6, hc5, hb1⟩ := bind_inv hb1
      obtain ⟨r_7, hc6, hb1⟩ := bind_inv hb1
      obtain ⟨hsh1, hb1⟩ := chk_inv hb1
      obtain ⟨hne, hb1⟩ := chk_inv hb1
      obtain ⟨x1, hx1, hb1⟩ := bind_inv hb1
      refine ra_start (ST.sel hS11 [0, 1, 2] rfl rfl).fn (by kernel_rfl) ?_
      have hS14 := hS11.drew
      refine ra_q 0 56 (v := pt (some ⟨b2, 0, none⟩) 0) rfl rfl rfl (by kernel_rfl) (by kernel_rfl) (by kernel_rfl) (ST.sel hS14 [0, 1, 2] rfl rfl) (fun w' hw' => (Y_fieldAddr (B := some ⟨b2, 0, none⟩) (i := 0) (s := 0) k_fd_56_0_0_3 k_sz_3_1 rfl rfl)) ?_
      refine ra_q 1 57 (v := .int .i64 x.Mask) rfl rfl rfl (by kernel_rfl) (by kernel_rfl) (by kernel_rfl) (ST.sel hS14 [0, 1, 2] rfl rfl) (fun w' hw' => (Y_load1 (B := some ⟨b2, 0, none⟩) (i := 0) (cs := [.int .i64 x.Mask, .int .i64 x.Coef]) (v := .int .i64 x.Mask) k_sc_3 rfl rfl (ST.cf hw' (i := 2) rfl) rfl)) ?_
      refine ra_q 2 58 (v := .int .i64 (IntKind.i64.wrap (p.Ins + p.Vars))) rfl rfl rfl (by kernel_rfl) (by kernel_rfl) (by kernel_rfl) (ST.sel hS14 [0, 1, 2] rfl rfl) (fun w' hw' => (Y_load1 (B := some ⟨b1, 0, none⟩) (i := 0) (cs := [.int .i64 (IntKind.i64.wrap (p.Ins + p.Vars))]) (v := .int .i64 (IntKind.i64.wrap (p.Ins + p.Vars))) k_sc_3 rfl (hf.get 3 1 rfl) (ST.cf hw' (i := 1) rfl) rfl)) ?_
      refine ra_q 3 59 (v := .int .i64 (shlK .i64 1 (IntKind.i64.wrap (p.Ins + p.Vars)))) rfl rfl rfl (by kernel_rfl) (by kernel_rfl) (by kernel_rfl) (ST.sel hS14 [0, 1, 2] rfl rfl) (fun w' hw' => (Y_shl (k := .i64) (a := 1) (k' := .i64) (b := (IntKind.i64.wrap (p.Ins + p.Vars))) rfl rfl rfl hsh)) ?_
      refine ra_q 4 60 (v := .int .i64 (IntKind.i64.wrap ((shlK .i64 1 (IntKind.i64.wrap (p.Ins + p.Vars))) - 1))) rfl rfl rfl (by kernel_rfl) (by kernel_rfl) (by kernel_rfl) (ST.sel hS14 [0, 1, 2] rfl rfl) (fun w' hw' => (Y_sub (k := .i64) (a := (shlK .i64 1 (IntKind.i64.wrap (p.Ins + p.Vars)))) (b := 1) rfl rfl rfl)) ?_
      refine ra_all (rs := [5]) (by kernel_rfl) rfl ?_
      refine ra_c 61 (i := 5) rfl rfl rfl (Yc_func (g := 44) (vs := [.int .i64 x.Mask, .int .i64 1, .int .i64 (IntKind.i64.wrap ((shlK .i64 1 (IntKind.i64.wrap (p.Ins + p.Vars))) - 1))]) k_call_44 rfl (mc rfl (mc rfl (mc rfl mn))) (c_impl_within x.Mask 1 (IntKind.i64.wrap ((shlK .i64 1 (IntKind.i64.wrap (p.Ins + p.Vars))) - 1)) _  (hS14.inn0 [] rfl) hc5)) ?_ ?_
      · rintro _ w_10 ⟨rfl, hd2⟩
        have hS15 := hS14.out00 hd2
        have hS15 : ST w0 [] _ [⟨some ⟨b, 0, none⟩, 30, [.int .i64 p.Ins, .int .i64 p.Vars, .int .i64 p.Root, .int .i64 p.Phase, .slice B p.Terms.length c, .slice B1 p.Out.length c1], 6⟩, ⟨some ⟨b1, 0, none⟩, 3, [.int .i64 (IntKind.i64.wrap (p.Ins + p.Vars))], 1⟩, ⟨some ⟨b2, 0, none⟩, 56, [.int .i64 x.Mask, .int .i64 x.Coef], 2⟩] [⟨B, (p.Terms.flatMap enc_Term)⟩, ⟨B1, (p.Out.flatMap enc_Affine)⟩] := hS15
        refine ⟨(ST.sel hS15 [0, 1, 2] rfl rfl), ?_⟩
        refine ra_q 6 62 (v := .bool (!r_6)) rfl rfl rfl (by kernel_rfl) (by kernel_rfl) (by kernel_rfl) (ST.sel hS15 [0, 1, 2] rfl rfl) (fun w' hw' => (Y_not (p := r_6) rfl rfl)) ?_
        refine ra_q 7 63 (v := .bool (!r_6)) rfl rfl rfl (by kernel_rfl) (by kernel_rfl) (by kernel_rfl) (ST.sel hS15 [0, 1, 2] rfl rfl) (fun w' hw' => (Y_move (v := .bool (!r_6)) rfl rfl)) ?_
        refine ra_gq 8 64 (B := (!(!r_6))) (v := .int .i64 r_5) rfl rfl rfl (wt_f (gd_of (t := 63) (by kernel_rfl) rfl)) (by kernel_rfl) (by kernel_rfl) (by kernel_rfl) (ST.sel hS15 [0, 1, 2] rfl rfl) (fun hg21 w' hw' => (Y_move (v := .int .i64 r_5) rfl rfl)) ?_
        refine ra_gq 9 65 (B := (!(!r_6))) (v := .bool (decide (3 < r_5))) rfl rfl rfl (wt_f (gd_of (t := 63) (by kernel_rfl) rfl)) (by kernel_rfl) (by kernel_rfl) (by kernel_rfl) (ST.sel hS15 [0, 1, 2] rfl rfl) (fun hg22 w' hw' => (Y_gt (k := .i64) (a := r_5) (b := 3) rfl (gv_of (B := (!(!r_6))) (v := .int .i64 r_5) hg22) rfl)) ?_
        refine ra_q 10 66 (v := .bool ((!r_6) || (decide (3 < r_5)))) rfl rfl rfl (by kernel_rfl) (by kernel_rfl) (by kernel_rfl) (ST.sel hS15 [0, 1, 2] rfl rfl) (fun w' hw' => (Y_or (b := (!r_6)) (z := (decide (3 < r_5))) rfl rfl rfl rfl)) ?_
        refine ra_q 11 67 (v := .bool ((!r_6) || (decide (3 < r_5)))) rfl rfl rfl (by kernel_rfl) (by kernel_rfl) (by kernel_rfl) (ST.sel hS15 [0, 1, 2] rfl rfl) (fun w' hw' => (Y_move (v := .bool ((!r_6) || (decide (3 < r_5)))) rfl rfl)) ?_
        refine ra_gq 12 68 (B := (!((!r_6) || (decide (3 < r_5))))) (v := pt (some ⟨b2, 0, none⟩) 1) rfl rfl rfl (wt_f (gd_of (t := 67) (by kernel_rfl) rfl)) (by kernel_rfl) (by kernel_rfl) (by kernel_rfl) (ST.sel hS15 [0, 1, 2] rfl rfl) (fun hg23 w' hw' => (Y_fieldAddr (B := some ⟨b2, 0, none⟩) (i := 0) (s := 0) k_fd_56_1_1_3 k_sz_3_1 rfl rfl)) ?_
        refine ra_gq 13 69 (B := (!((!r_6) || (decide (3 < r_5))))) (v := .int .i64 x.Coef) rfl rfl rfl (wt_f (gd_of (t := 67) (by kernel_rfl) rfl)) (by kernel_rfl) (by kernel_rfl) (by kernel_rfl) (ST.sel hS15 [0, 1, 2] rfl rfl) (fun hg24 w' hw' => (Y_load1 (B := some ⟨b2, 0, none⟩) (i := 1) (cs := [.int .i64 x.Mask, .int .i64 x.Coef]) (v := .int .i64 x.Coef) k_sc_3 rfl (gv_of (B := (!((!r_6) || (decide (3 < r_5))))) (v := pt (some ⟨b2, 0, none⟩) 1) hg24) (ST.cf hw' (i := 2) rfl) rfl)) ?_
        refine ra_all (rs := [14]) (by kernel_rfl) rfl ?_
        refine ra_gc 70 (i := 14) (B := (!((!r_6) || (decide (3 < r_5))))) (v := .bool r_7) (F := hS15.fn) rfl rfl rfl (wt_f (gd_of (t := 67) (by kernel_rfl) rfl)) hS15 (fun hg25 => (Yc_func (g := 44) (vs := [.int .i64 x.Coef, .int .i64 1, .int .i64 7]) k_call_44 rfl (mc (gv_of (B := (!((!r_6) || (decide (3 < r_5))))) (v := .int .i64 x.Coef) hg25) (mc rfl (mc rfl mn))) (CV.mono (c_impl_within x.Coef 1 7 _  (hS15.inn0 [] rfl) (gb_inv hc6 hg25)) (by rintro _ _ ⟨rfl, h⟩; exact ⟨rfl, hS15.out00 h⟩)))) ?_ ?_
        · rintro w_11 hS16
          have hS16 : ST _ _ w_11 _ _ := hS16
          refine ⟨(ST.sel hS16 [0, 1, 2] rfl rfl), ?_⟩
          refine ra_gq 15 71 (B := (!((!r_6) || (decide (3 < r_5))))) (v := .bool (!r_7)) rfl rfl rfl (wt_f (gd_of (t := 67) (by kernel_rfl) rfl)) (by kernel_rfl) (by kernel_rfl) (by kernel_rfl) (ST.sel hS16 [0, 1, 2] rfl rfl) (fun hg26 w' hw' => (Y_not (p := r_7) rfl (gv_of (B := (!((!r_6) || (decide (3 < r_5))))) (v := .bool r_7) hg26))) ?_
          refine ra_q 16 72 (v := .bool (((!r_6) || (decide (3 < r_5))) || (!r_7))) rfl rfl rfl (by kernel_rfl) (by kernel_rfl) (by kernel_rfl) (ST.sel hS16 [0, 1, 2] rfl rfl) (fun w' hw' => (Y_or (b := ((!r_6) || (decide (3 < r_5)))) (z := (!r_7)) rfl rfl rfl rfl)) ?_
          refine ra_q 17 73 (v := .bool (((!r_6) || (decide (3 < r_5))) || (!r_7))) rfl rfl rfl (by kernel_rfl) (by kernel_rfl) (by kernel_rfl) (ST.sel hS16 [0, 1, 2] rfl rfl) (fun w' hw' => (Y_move (v := .bool (((!r_6) || (decide (3 < r_5))) || (!r_7))) rfl rfl)) ?_
          refine ra_gq 18 74 (B := (!(((!r_6) || (decide (3 < r_5))) || (!r_7)))) (v := pt (some ⟨b2, 0, none⟩) 1) rfl rfl rfl (wt_f (gd_of (t := 73) (by kernel_rfl) rfl)) (by kernel_rfl) (by kernel_rfl) (by kernel_rfl) (ST.sel hS16 [0, 1, 2] rfl rfl) (fun hg27 w' hw' => (Y_fieldAddr (B := some ⟨b2, 0, none⟩) (i := 0) (s := 0) k_fd_56_1_1_3 k_sz_3_1 rfl rfl)) ?_
          refine ra_gq 19 75 (B := (!(((!r_6) || (decide (3 < r_5))) || (!r_7)))) (v := .int .i64 x.Coef) rfl rfl rfl (wt_f (gd_of (t := 73) (by kernel_rfl) rfl)) (by kernel_rfl) (by kernel_rfl) (by kernel_rfl) (ST.sel hS16 [0, 1, 2] rfl rfl) (fun hg28 w' hw' => (Y_load1 (B := some ⟨b2, 0, none⟩) (i := 1) (cs := [.int .i64 x.Mask, .int .i64 x.Coef]) (v := .int .i64 x.Coef) k_sc_3 rfl (gv_of (B := (!(((!r_6) || (decide (3 < r_5))) || (!r_7)))) (v := pt (some ⟨b2, 0, none⟩) 1) hg28) (ST.cf hw' (i := 2) rfl) rfl)) ?_
          refine ra_gq 20 76 (B := (!(((!r_6) || (decide (3 < r_5))) || (!r_7)))) (v := .int .i64 r_5) rfl rfl rfl (wt_f (gd_of (t := 73) (by kernel_rfl) rfl)) (by kernel_rfl) (by kernel_rfl) (by kernel_rfl) (ST.sel hS16 [0, 1, 2] rfl rfl) (fun hg29 w' hw' => (Y_move (v := .int .i64 r_5) rfl rfl)) ?_
          refine ra_gq 21 77 (B := (!(((!r_6) || (decide (3 < r_5))) || (!r_7)))) (v := .int .i64 (IntKind.i64.wrap (r_5 - 1))) rfl rfl rfl (wt_f (gd_of (t := 73) (by kernel_rfl) rfl)) (by kernel_rfl) (by kernel_rfl) (by kernel_rfl) (ST.sel hS16 [0, 1, 2] rfl rfl) (fun hg30 w' hw' => (Y_sub (k := .i64) (a := r_5) (b := 1) rfl (gv_of (B := (!(((!r_6) || (decide (3 < r_5))) || (!r_7)))) (v := .int .i64 r_5) hg30) rfl)) ?_
          refine ra_gq 22 78 (B := (!(((!r_6) || (decide (3 < r_5))) || (!r_7)))) (v := .int .i64 (shlK .i64 1 (IntKind.i64.wrap (r_5 - 1)))) rfl rfl rfl (wt_f (gd_of (t := 73) (by kernel_rfl) rfl)) (by kernel_rfl) (by kernel_rfl) (by kernel_rfl) (ST.sel hS16 [0, 1, 2] rfl rfl) (fun hg31 w' hw' => (Y_shl (k := .i64) (a := 1) (k' := .i64) (b := (IntKind.i64.wrap (r_5 - 1))) rfl rfl (gv_of (B := (!(((!r_6) || (decide (3 < r_5))) || (!r_7)))) (v := .int .i64 (IntKind.i64.wrap (r_5 - 1))) hg31) (hsh1 hg31))) ?_
          refine ra_gq 23 79 (B := (!(((!r_6) || (decide (3 < r_5))) || (!r_7)))) (v := .int .i64 (Int.tmod x.Coef (shlK .i64 1 (IntKind.i64.wrap (r_5 - 1))))) rfl rfl rfl (wt_f (gd_of (t := 73) (by kernel_rfl) rfl)) (by kernel_rfl) (by kernel_rfl) (by kernel_rfl) (ST.sel hS16 [0, 1, 2] rfl rfl) (fun hg32 w' hw' => (Y_rem (k := .i64) (a := x.Coef) (b := (shlK .i64 1 (IntKind.i64.wrap (r_5 - 1)))) rfl (gv_of (B := (!(((!r_6) || (decide (3 < r_5))) || (!r_7)))) (v := .int .i64 x.Coef) hg32) (gv_of (B := (!(((!r_6) || (decide (3 < r_5))) || (!r_7)))) (v := .int .i64 (shlK .i64 1 (IntKind.i64.wrap (r_5 - 1)))) hg32) (hne hg32))) ?_
          refine ra_gq 24 80 (B := (!(((!r_6) || (decide (3 < r_5))) || (!r_7)))) (v := .bool ((Int.tmod x.Coef (shlK .i64 1 (IntKind.i64.wrap (r_5 - 1)))) != 0)) rfl rfl rfl (wt_f (gd_of (t := 73) (by kernel_rfl) rfl)) (by kernel_rfl) (by kernel_rfl) (by kernel_rfl) (ST.sel hS16 [0, 1, 2] rfl rfl) (fun hg33 w' hw' => (Y_ne (k := .i64) (a := (Int.tmod x.Coef (shlK .i64 1 (IntKind.i64.wrap (r_5 - 1))))) (b := 0) rfl (gv_of (B := (!(((!r_6) || (decide (3 < r_5))) || (!r_7)))) (v := .int .i64 (Int.tmod x.Coef (shlK .i64 1 (IntKind.i64.wrap (r_5 - 1))))) hg33) rfl)) ?_
          refine ra_q 25 81 (v := .bool ((((!r_6) || (decide (3 < r_5))) || (!r_7)) || ((Int.tmod x.Coef (shlK .i64 1 (IntKind.i64.wrap (r_5 - 1)))) != 0))) rfl rfl rfl (by kernel_rfl) (by kernel_rfl) (by kernel_rfl) (ST.sel hS16 [0, 1, 2] rfl rfl) (fun w' hw' => (Y_or (b := (((!r_6) || (decide (3 < r_5))) || (!r_7))) (z := ((Int.tmod x.Coef (shlK .i64 1 (IntKind.i64.wrap (r_5 - 1)))) != 0)) rfl rfl rfl rfl)) ?_
          refine ra_q 26 82 (v := .bool ((((!r_6) || (decide (3 < r_5))) || (!r_7)) || ((Int.tmod x.Coef (shlK .i64 1 (IntKind.i64.wrap (r_5 - 1)))) != 0))) rfl rfl rfl (by kernel_rfl) (by kernel_rfl) (by kernel_rfl) (ST.sel hS16 [0, 1, 2] rfl rfl) (fun w' hw' => (Y_move (v := .bool ((((!r_6) || (decide (3 < r_5))) || (!r_7)) || ((Int.tmod x.Coef (shlK .i64 1 (IntKind.i64.wrap (r_5 - 1)))) != 0))) rfl rfl)) ?_
          refine ra_gq 27 83 (B := (!((((!r_6) || (decide (3 < r_5))) || (!r_7)) || ((Int.tmod x.Coef (shlK .i64 1 (IntKind.i64.wrap (r_5 - 1)))) != 0)))) (v := .int .i64 (i : Int)) rfl rfl rfl (wt_f (gd_of (t := 82) (by kernel_rfl) rfl)) (by kernel_rfl) (by kernel_rfl) (by kernel_rfl) (ST.sel hS16 [0, 1, 2] rfl rfl) (fun hg34 w' hw' => (Y_move (v := .int .i64 (i : Int)) rfl rfl)) ?_
          refine ra_gq 28 84 (B := (!((((!r_6) || (decide (3 < r_5))) || (!r_7)) || ((Int.tmod x.Coef (shlK .i64 1 (IntKind.i64.wrap (r_5 - 1)))) != 0)))) (v := .bool (decide (0 < (i : Int)))) rfl rfl rfl (wt_f (gd_of (t := 82) (by kernel_rfl) rfl)) (by kernel_rfl) (by kernel_rfl) (by kernel_rfl) (ST.sel hS16 [0, 1, 2] rfl rfl) (fun hg35 w' hw' => (Y_gt (k := .i64) (a := (i : Int)) (b := 0) rfl (gv_of (B := (!((((!r_6) || (decide (3 < r_5))) || (!r_7)) || ((Int.tmod x.Coef (shlK .i64 1 (IntKind.i64.wrap (r_5 - 1)))) != 0)))) (v := .int .i64 (i : Int)) hg35) rfl)) ?_
          refine ra_gq 29 85 (B := (!((((!r_6) || (decide (3 < r_5))) || (!r_7)) || ((Int.tmod x.Coef (shlK .i64 1 (IntKind.i64.wrap (r_5 - 1)))) != 0)))) (v := .bool (decide (0 < (i : Int)))) rfl rfl rfl (wt_f (gd_of (t := 82) (by kernel_rfl) rfl)) (by kernel_rfl) (by kernel_rfl) (by kernel_rfl) (ST.sel hS16 [0, 1, 2] rfl rfl) (fun hg36 w' hw' => (Y_move (v := .bool (decide (0 < (i : Int)))) rfl (gv_of (B := (!((((!r_6) || (decide (3 < r_5))) || (!r_7)) || ((Int.tmod x.Coef (shlK .i64 1 (IntKind.i64.wrap (r_5 - 1)))) != 0)))) (v := .bool (decide (0 < (i : Int)))) hg36))) ?_
          refine ra_gq 30 86 (B := ((!((((!r_6) || (decide (3 < r_5))) || (!r_7)) || ((Int.tmod x.Coef (shlK .i64 1 (IntKind.i64.wrap (r_5 - 1)))) != 0))) && (decide (0 < (i : Int))))) (v := pt (some ⟨b, 0, none⟩) 4) rfl rfl rfl (wt_gt (gd_of (t := 85) (by kernel_rfl) rfl)) (by kernel_rfl) (by kernel_rfl) (by kernel_rfl) (ST.sel hS16 [0, 1, 2] rfl rfl) (fun hg37 w' hw' => (Y_fieldAddr (B := some ⟨b, 0, none⟩) (i := 0) (s := 0) k_fd_30_4_4_27 k_sz_27_1 rfl (hf.get 1 0 rfl))) ?_
          refine ra_gq 31 87 (B := ((!((((!r_6) || (decide (3 < r_5))) || (!r_7)) || ((Int.tmod x.Coef (shlK .i64 1 (IntKind.i64.wrap (r_5 - 1)))) != 0))) && (decide (0 < (i : Int))))) (v := .slice B p.Terms.length c) rfl rfl rfl (wt_gt (gd_of (t := 85) (by kernel_rfl) rfl)) (by kernel_rfl) (by kernel_rfl) (by kernel_rfl) (ST.sel hS16 [0, 1, 2] rfl rfl) (fun hg38 w' hw' => (Y_load1 (B := some ⟨b, 0, none⟩) (i := 4) (cs := [.int .i64 p.Ins, .int .i64 p.Vars, .int .i64 p.Root, .int .i64 p.Phase, .slice B p.Terms.length c, .slice B1 p.Out.length c1]) (v := .slice B p.Terms.length c) k_sc_27 rfl (gv_of (B := ((!((((!r_6) || (decide (3 < r_5))) || (!r_7)) || ((Int.tmod x.Coef (shlK .i64 1 (IntKind.i64.wrap (r_5 - 1)))) != 0))) && (decide (0 < (i : Int))))) (v := pt (some ⟨b, 0, none⟩) 4) hg38) (ST.cf hw' (i := 0) rfl) rfl)) ?_
          refine ra_gq 32 88 (B := ((!((((!r_6) || (decide (3 < r_5))) || (!r_7)) || ((Int.tmod x.Coef (shlK .i64 1 (IntKind.i64.wrap (r_5 - 1)))) != 0))) && (decide (0 < (i : Int))))) (v := .int .i64 (i : Int)) rfl rfl rfl (wt_gt (gd_of (t := 85) (by kernel_rfl) rfl)) (by kernel_rfl) (by kernel_rfl) (by kernel_rfl) (ST.sel hS16 [0, 1, 2] rfl rfl) (fun hg39 w' hw' => (Y_move (v := .int .i64 (i : Int)) rfl rfl)) ?_
          refine ra_gq 33 89 (B := ((!((((!r_6) || (decide (3 < r_5))) || (!r_7)) || ((Int.tmod x.Coef (shlK .i64 1 (IntKind.i64.wrap (r_5 - 1)))) != 0))) && (decide (0 < (i : Int))))) (v := .int .i64 (IntKind.i64.wrap ((i : Int) - 1))) rfl rfl rfl (wt_gt (gd_of (t := 85) (by kernel_rfl) rfl)) (by kernel_rfl) (by kernel_rfl) (by kernel_rfl) (ST.sel hS16 [0, 1, 2] rfl rfl) (fun hg40 w' hw' => (Y_sub (k := .i64) (a := (i : Int)) (b := 1) rfl (gv_of (B := ((!((((!r_6) || (decide (3 < r_5))) || (!r_7)) || ((Int.tmod x.Coef (shlK .i64 1 (IntKind.i64.wrap (r_5 - 1)))) != 0))) && (decide (0 < (i : Int))))) (v := .int .i64 (i : Int)) hg40) rfl)) ?_
          refine ra_gq 34 90 (B := ((!((((!r_6) || (decide (3 < r_5))) || (!r_7)) || ((Int.tmod x.Coef (shlK .i64 1 (IntKind.i64.wrap (r_5 - 1)))) != 0))) && (decide (0 < (i : Int))))) (v := pt B ((IntKind.i64.wrap ((i : Int) - 1)).toNat * 2)) rfl rfl rfl (wt_gt (gd_of (t := 85) (by kernel_rfl) rfl)) (by kernel_rfl) (by kernel_rfl) (by kernel_rfl) (ST.sel hS16 [0, 1, 2] rfl rfl) (fun hg41 w' hw' => (Y_index (B := B) (m := p.Terms.length) (c := c) (k := .i64) (i := (IntKind.i64.wrap ((i : Int) - 1))) k_sl_27_56 k_sz_56_2 rfl (gv_of (B := ((!((((!r_6) || (decide (3 < r_5))) || (!r_7)) || ((Int.tmod x.Coef (shlK .i64 1 (IntKind.i64.wrap (r_5 - 1)))) != 0))) && (decide (0 < (i : Int))))) (v := .slice B p.Terms.length c) hg41) (gv_of (B := ((!((((!r_6) || (decide (3 < r_5))) || (!r_7)) || ((Int.tmod x.Coef (shlK .i64 1 (IntKind.i64.wrap (r_5 - 1)))) != 0))) && (decide (0 < (i : Int))))) (v := .int .i64 (IntKind.i64.wrap ((i : Int) - 1))) hg41) (gi_isSome enc_Term_len rfl (ST.rf hw' (i := 0) rfl) (gb_inv hx1 hg41)) (getI_nn (gb_inv hx1 hg41)) (getI_ltI (gb_inv hx1 hg41) rfl))) ?_
          refine ra_gq 35 91 (B := ((!((((!r_6) || (decide (3 < r_5))) || (!r_7)) || ((Int.tmod x.Coef (shlK .i64 1 (IntKind.i64.wrap (r_5 - 1)))) != 0))) && (decide (0 < (i : Int))))) (v := pt B ((IntKind.i64.wrap ((i : Int) - 1)).toNat * 2 + 0)) rfl rfl rfl (wt_gt (gd_of (t := 85) (by kernel_rfl) rfl)) (by kernel_rfl) (by kernel_rfl) (by kernel_rfl) (ST.sel hS16 [0, 1, 2] rfl rfl) (fun hg42 w' hw' => (Y_fieldAddr (B := B) (i := (IntKind.i64.wrap ((i : Int) - 1)).toNat * 2) (s := 0) k_fd_56_0_0_3 k_sz_3_1 rfl (gv_of (B := ((!((((!r_6) || (decide (3 < r_5))) || (!r_7)) || ((Int.tmod x.Coef (shlK .i64 1 (IntKind.i64.wrap (r_5 - 1)))) != 0))) && (decide (0 < (i : Int))))) (v := pt B ((IntKind.i64.wrap ((i : Int) - 1)).toNat * 2)) hg42))) ?_
          refine ra_gq 36 92 (B := ((!((((!r_6) || (decide (3 < r_5))) || (!r_7)) || ((Int.tmod x.Coef (shlK .i64 1 (IntKind.i64.wrap (r_5 - 1)))) != 0))) && (decide (0 < (i : Int))))) (v := .int .i64 x1.Mask) rfl rfl rfl (wt_gt (gd_of (t := 85) (by kernel_rfl) rfl)) (by kernel_rfl) (by kernel_rfl) (by kernel_rfl) (ST.sel hS16 [0, 1, 2] rfl rfl) (fun hg43 w' hw' => (Y_load1 (B := B) (i := (IntKind.i64.wrap ((i : Int) - 1)).toNat * 2 + 0) (cs := (p.Terms.flatMap enc_Term)) (v := .int .i64 x1.Mask) k_sc_3 rfl (gv_of (B := ((!((((!r_6) || (decide (3 < r_5))) || (!r_7)) || ((Int.tmod x.Coef (shlK .i64 1 (IntKind.i64.wrap (r_5 - 1)))) != 0))) && (decide (0 < (i : Int))))) (v := pt B ((IntKind.i64.wrap ((i : Int) - 1)).toNat * 2 + 0)) hg43) (ST.rf hw' (i := 0) rfl) (gi_at enc_Term_len (gb_inv hx1 hg43) rfl))) ?_
          refine ra_gq 37 93 (B := ((!((((!r_6) || (decide (3 < r_5))) || (!r_7)) || ((Int.tmod x.Coef (shlK .i64 1 (IntKind.i64.wrap (r_5 - 1)))) != 0))) && (decide (0 < (i : Int))))) (v := pt (some ⟨b2, 0, none⟩) 0) rfl rfl rfl (wt_gt (gd_of (t := 85) (by kernel_rfl) rfl)) (by kernel_rfl) (by kernel_rfl) (by kernel_rfl) (ST.sel hS16 [0, 1, 2] rfl rfl) (fun hg44 w' hw' => (Y_fieldAddr (B := some ⟨b2, 0, none⟩) (i := 0) (s := 0) k_fd_56_0_0_3 k_sz_3_1 rfl rfl)) ?_
          refine ra_gq 38 94 (B := ((!((((!r_6) || (decide (3 < r_5))) || (!r_7)) || ((Int.tmod x.Coef (shlK .i64 1 (IntKind.i64.wrap (r_5 - 1)))) != 0))) && (decide (0 < (i : Int))))) (v := .int .i64 x.Mask) rfl rfl rfl (wt_gt (gd_of (t := 85) (by kernel_rfl) rfl)) (by kernel_rfl) (by kernel_rfl) (by kernel_rfl) (ST.sel hS16 [0, 1, 2] rfl rfl) (fun hg45 w' hw' => (Y_load1 (B := some ⟨b2, 0, none⟩) (i := 0) (cs := [.int .i64 x.Mask, .int .i64 x.Coef]) (v := .int .i64 x.Mask) k_sc_3 rfl (gv_of (B := ((!((((!r_6) || (decide (3 < r_5))) || (!r_7)) || ((Int.tmod x.Coef (shlK .i64 1 (IntKind.i64.wrap (r_5 - 1)))) != 0))) && (decide (0 < (i : Int))))) (v := pt (some ⟨b2, 0, none⟩) 0) hg45) (ST.cf hw' (i := 2) rfl) rfl)) ?_
          refine ra_gq 39 95 (B := ((!((((!r_6) || (decide (3 < r_5))) || (!r_7)) || ((Int.tmod x.Coef (shlK .i64 1 (IntKind.i64.wrap (r_5 - 1)))) != 0))) && (decide (0 < (i : Int))))) (v := .bool (decide (x.Mask ≤ x1.Mask))) rfl rfl rfl (wt_gt (gd_of (t := 85) (by kernel_rfl) rfl)) (by kernel_rfl) (by kernel_rfl) (by kernel_rfl) (ST.sel hS16 [0, 1, 2] rfl rfl) (fun hg46 w' hw' => (Y_ge (k := .i64) (a := x1.Mask) (b := x.Mask) rfl (gv_of (B := ((!((((!r_6) || (decide (3 < r_5))) || (!r_7)) || ((Int.tmod x.Coef (shlK .i64 1 (IntKind.i64.wrap (r_5 - 1)))) != 0))) && (decide (0 < (i : Int))))) (v := .int .i64 x1.Mask) hg46) (gv_of (B := ((!((((!r_6) || (decide (3 < r_5))) || (!r_7)) || ((Int.tmod x.Coef (shlK .i64 1 (IntKind.i64.wrap (r_5 - 1)))) != 0))) && (decide (0 < (i : Int))))) (v := .int .i64 x.Mask) hg46))) ?_
          refine ra_gq 40 96 (B := (!((((!r_6) || (decide (3 < r_5))) || (!r_7)) || ((Int.tmod x.Coef (shlK .i64 1 (IntKind.i64.wrap (r_5 - 1)))) != 0)))) (v := .bool ((decide (0 < (i : Int))) && (decide (x.Mask ≤ x1.Mask)))) rfl rfl rfl (wt_f (gd_of (t := 82) (by kernel_rfl) rfl)) (by kernel_rfl) (by kernel_rfl) (by kernel_rfl) (ST.sel hS16 [0, 1, 2] rfl rfl) (fun hg47 w' hw' => (Y_and (b := (decide (0 < (i : Int)))) (z := (decide (x.Mask ≤ x1.Mask))) rfl (gv_of (B := (!((((!r_6) || (decide (3 < r_5))) || (!r_7)) || ((Int.tmod x.Coef (shlK .i64 1 (IntKind.i64.wrap (r_5 - 1)))) != 0)))) (v := .bool (decide (0 < (i : Int)))) hg47) (gv_and (B := (!((((!r_6) || (decide (3 < r_5))) || (!r_7)) || ((Int.tmod x.Coef (shlK .i64 1 (IntKind.i64.wrap (r_5 - 1)))) != 0)))) (C := (decide (0 < (i : Int)))) (v := .bool (decide (x.Mask ≤ x1.Mask))) hg47) rfl)) ?_
          refine ra_q 41 97 (v := .bool (((((!r_6) || (decide (3 < r_5))) || (!r_7)) || ((Int.tmod x.Coef (shlK .i64 1 (IntKind.i64.wrap (r_5 - 1)))) != 0)) || ((decide (0 < (i : Int))) && (decide (x.Mask ≤ x1.Mask))))) rfl rfl rfl (by kernel_rfl) (by kernel_rfl) (by kernel_rfl) (ST.sel hS16 [0, 1, 2] rfl rfl) (fun w' hw' => (Y_or (b := ((((!r_6) || (decide (3 < r_5))) || (!r_7)) || ((Int.tmod x.Coef (shlK .i64 1 (IntKind.i64.wrap (r_5 - 1)))) != 0))) (z := ((decide (0 < (i : Int))) && (decide (x.Mask ≤ x1.Mask)))) rfl rfl rfl rfl)) ?_
          refine ra_done (by kernel_rfl) ?_
          refine cw_cond (b := (((((!r_6) || (decide (3 < r_5))) || (!r_7)) || ((Int.tmod x.Coef (shlK .i64 1 (IntKind.i64.wrap (r_5 - 1)))) != 0)) || ((decide (0 < (i : Int))) && (decide (x.Mask ≤ x1.Mask))))) rfl (fun hb2 => ?_) (fun hb2 => ?_)
          · skip
            have hF4 := ct hb1 hb2
            refine cw_seq ?_
            refine cw_region ?_
            refine sq 2 rfl rfl (Y_assign (v := .bool false) rfl rfl) ?_
            refine rw_nil ?_
            refine cw_ret ?_
            obtain rfl := some_inj hF4
            obtain rfl := some_inj hL1
            obtain rfl := some_inj hF3
            exact ret1 Tryd.results20 (v1 := .bool false) (resAt_tmp rfl) ⟨rfl, (ST.subR (R' := []) (hS16.sel [] rfl rfl) (fun _ h => by cases h))⟩
          · skip
            have hF5 := cf' hb1 hb2
            refine cw_skip ?_
            refine cw_region ?_
            refine sq 98 rfl rfl (Y_add (k := .i64) (a := (i : Int)) (b := 1) rfl (hf.get 48 4 rfl) rfl) ?_
            refine sq 48 rfl rfl (Y_move (v := .int .i64 (IntKind.i64.wrap ((i : Int) + 1))) rfl rfl) ?_
            refine rw_nil ?_
            obtain rfl := some_inj hF5
            exact ⟨k_1, Nat.lt_succ_self _, i + 1, (FF.cons (hf.get 1 0 rfl) (FF.cons (hf.get 3 1 rfl) (FF.cons (hf.get 46 2 rfl) (FF.cons (hf.get 47 3 rfl) (FF.cons (congrArg (Value.int .i64) (wr_succ hlt1 hN)) FF.nil))))), (hS16.sel [0, 1] rfl rfl), (by omega), hL1⟩
        exact allR_nil
      exact allR_nil
    · skip
      obtain rfl : k_ = 0 := by have h := of_decide_eq_false hlt; omega
      refine cw_exit rfl ?_
      obtain rfl := some_inj hL
      refine cw_seq ?_
      refine cw_region ?_
      refine sq 99 rfl rfl (Y_fieldAddr (B := some ⟨b, 0, none⟩) (i := 0) (s := 0) k_fd_30_5_5_28 k_sz_28_1 rfl (hf.get 1 0 rfl)) ?_
      refine sq 100 rfl rfl (Y_load1 (B := some ⟨b, 0, none⟩) (i := 5) (cs := [.int .i64 p.Ins, .int .i64 p.Vars, .int .i64 p.Root, .int .i64 p.Phase, .slice B p.Terms.length c, .slice B1 p.Out.length c1]) (v := .slice B1 p.Out.length c1) k_sc_28 rfl rfl (hS8.cf (i := 0) rfl) rfl) ?_
      refine sq 101 rfl rfl (Y_makeFunc (cs := [pt (some ⟨b1, 0, none⟩) 0]) rfl rfl (mc (hf.get 3 1 rfl) mn)) ?_
      obtain ⟨r_8, hc7, hF3⟩ := bind_inv hF3
      refine sc 102 rfl rfl (Yc_func (g := 21) (vs := [.slice B1 p.Out.length c1, .func (.func 46) #[] #[pt (some ⟨b1, 0, none⟩) 0]]) k_call_21 rfl (mc rfl (mc rfl mn)) (c_slices_ContainsFunc_impl_Affine_impl_Affine p.Out (fun x_0 => F_impl_IsValidPathSum_1 x_0 (IntKind.i64.wrap (p.Ins + p.Vars))) B1 c1 p.Out.length 46 (#[pt (some ⟨b1, 0, none⟩) 0]) [⟨some ⟨b1, 0, none⟩, [.int .i64 (IntKind.i64.wrap (p.Ins + p.Vars))]⟩] _ rfl k_call_46 (fun w hw x_0 y_0 h_ => c_impl_IsValidPathSum_1 x_0 (IntKind.i64.wrap (p.Ins + p.Vars)) (some ⟨b1, 0, none⟩) w  hw h_) (hS8.inn0 [(true, 1), (false, 1)] rfl) hc7)) ?_
      rintro _ w_12 ⟨rfl, hd3⟩
      have hS17 := hS8.out00 hd3
      have hS17 : ST w0 [] _ [⟨some ⟨b, 0, none⟩, 30, [.int .i64 p.Ins, .int .i64 p.Vars, .int .i64 p.Root, .int .i64 p.Phase, .slice B p.Terms.length c, .slice B1 p.Out.length c1], 6⟩, ⟨some ⟨b1, 0, none⟩, 3, [.int .i64 (IntKind.i64.wrap (p.Ins + p.Vars))], 1⟩] [⟨B, (p.Terms.flatMap enc_Term)⟩, ⟨B1, (p.Out.flatMap enc_Affine)⟩] := hS17
      refine sq 103 rfl rfl (Y_not (p := r_8) rfl rfl) ?_
      refine sq 2 rfl rfl (Y_assign (v := .bool (!r_8)) rfl rfl) ?_
      refine rw_nil ?_
      refine cw_ret ?_
      obtain rfl := some_inj hF3
      exact ret1 Tryd.results20 (v1 := .bool (!r_8)) (resAt_tmp rfl) ⟨rfl, (ST.subR (R' := []) (hS17.sel [] rfl rfl) (fun _ h => by cases h))⟩

theorem c_impl_ReduceStep_1 (a : TAffine) (p : Int) (B : Option Addr) (w0 : World)  (hS : ST w0 [] w0 [] [⟨B, [.int .i64 p]⟩]) {r_ : Bool} (hF : F_impl_ReduceStep_1 a p = some r_) :
    CV Tryd.prog 22 #[.agg #[.int .i64 a.Mask, .int .i64 a.Turn], pt B 0] w0 (fun v w' => v = .bool r_ ∧ ST w0 [] w' [] []) := by
  unfold F_impl_ReduceStep_1 at hF
  refine cv_of_cw 10 Tryd.func22 rfl Tryd.ntmps22 rfl ?_
  refine cw_seq ?_
  refine cw_region ?_
  refine ss 2 rfl rfl (Ys_box (T := 44) (v := .agg #[.int .i64 a.Mask, .int .i64 a.Turn]) (cs := [.int .i64 a.Mask, .int .i64 a.Turn]) (m := 2) hS rfl rfl rfl rfl) ?_
  rintro _ w_ ⟨b, rfl, hS1⟩
  refine sq 3 rfl rfl (Y_assign (v := .bool false) rfl rfl) ?_
  refine rw_nil ?_
  refine cw_seq ?_
  refine cw_region ?_
  refine sq 4 rfl rfl (Y_fieldAddr (B := some ⟨b, 0, none⟩) (i := 0) (s := 0) k_fd_44_0_0_3 k_sz_3_1 rfl rfl) ?_
  refine sq 5 rfl rfl (Y_load1 (B := some ⟨b, 0, none⟩) (i := 0) (cs := [.int .i64 a.Mask, .int .i64 a.Turn]) (v := .int .i64 a.Mask) k_sc_3 rfl rfl (hS1.cf (i := 0) rfl) rfl) ?_
  refine sq 6 rfl rfl (Y_load1 (B := B) (i := 0) (cs := [.int .i64 p]) (v := .int .i64 p) k_sc_3 rfl rfl (hS1.rf (i := 0) rfl) rfl) ?_
  obtain ⟨hsh, hF⟩ := chk_inv hF
  refine sq 7 rfl rfl (Y_shr (k := .i64) (a := a.Mask) (k' := .i64) (b := p) rfl rfl rfl hsh) ?_
  refine sq 8 rfl rfl (Y_band (k := .i64) (a := (shrK .i64 a.Mask p)) (b := 1) rfl rfl rfl) ?_
  refine sq 9 rfl rfl (Y_eq (k := .i64) (a := (bits .and .i64 (shrK .i64 a.Mask p) 1)) (b := 1) rfl rfl rfl) ?_
  refine sq 3 rfl rfl (Y_assign (v := .bool ((bits .and .i64 (shrK .i64 a.Mask p) 1) == 1)) rfl rfl) ?_
  refine rw_nil ?_
  refine cw_ret ?_
  obtain rfl := some_inj hF
  exact ret1 Tryd.results22 (v1 := .bool ((bits .and .i64 (shrK .i64 a.Mask p) 1) == 1)) (resAt_tmp rfl) ⟨rfl, (ST.subR (R' := []) (hS1.sel [] rfl rfl) (fun _ h => by cases h))⟩

theorem c_impl_PathSum_around (p : TPathSum) (y : Int) (B : Option Addr) (c n : Nat) (B1 : Option Addr) (c1 n1 : Nat) (w0 : World) (hn : p.Terms.length = n) (hn1 : p.Out.length = n1) (hS : ST w0 [] w0 [] [⟨B, (p.Terms.flatMap enc_Term)⟩, ⟨B1, (p.Out.flatMap enc_Affine)⟩]) {r_ : Int} {r_1 : Int} {r_2 : Bool} {r_3 : Bool} (hF : F_impl_PathSum_around p y = some (r_, r_1, r_2, r_3)) :
    CV Tryd.prog 49 #[.agg #[.int .i64 p.Ins, .int .i64 p.Vars, .int .i64 p.Root, .int .i64 p.Phase, .slice B n c, .slice B1 n1 c1], .int .i64 y] w0 (fun v w' => v = .tuple #[.int .i64 r_, .int .i64 r_1, .bool r_2, .bool r_3] ∧ ST w0 [] w' [] []) := by
  subst hn
  subst hn1
  unfold F_impl_PathSum_around at hF
  refine cv_of_cw 55 Tryd.func49 rfl Tryd.ntmps49 rfl ?_
  refine cw_seq ?_
  refine cw_region ?_
  refine ss 2 rfl rfl (Ys_box (T := 30) (v := .agg #[.int .i64 p.Ins, .int .i64 p.Vars, .int .i64 p.Root, .int .i64 p.Phase, .slice B p.Terms.length c, .slice B1 p.Out.length c1]) (cs := [.int .i64 p.Ins, .int .i64 p.Vars, .int .i64 p.Root, .int .i64 p.Phase, .slice B p.Terms.length c, .slice B1 p.Out.length c1]) (m := 6) hS rfl rfl rfl rfl) ?_
  rintro _ w_ ⟨b, rfl, hS1⟩
  refine sq 4 rfl rfl (Y_assign (v := .int .i64 0) rfl rfl) ?_
  refine sq 5 rfl rfl (Y_assign (v := .int .i64 0) rfl rfl) ?_
  refine sq 6 rfl rfl (Y_assign (v := .bool false) rfl rfl) ?_
  refine sq 7 rfl rfl (Y_assign (v := .bool false) rfl rfl) ?_
  refine rw_nil ?_
  refine cw_seq ?_
  refine cw_region ?_
  refine sq 8 rfl rfl (Y_assign (v := .int .i64 0) rfl rfl) ?_
  refine sq 9 rfl rfl (Y_assign (v := .int .i64 0) rfl rfl) ?_
  refine sq 10 rfl rfl (Y_assign (v := .bool false) rfl rfl) ?_
  refine sq 11 rfl rfl (Y_assign (v := .bool true) rfl rfl) ?_
  refine rw_nil ?_
  refine cw_seq ?_
  refine cw_seq ?_
  refine cw_region ?_
  refine sq 15 rfl rfl (Y_fieldAddr (B := some ⟨b, 0, none⟩) (i := 0) (s := 0) k_fd_30_4_4_27 k_sz_27_1 rfl rfl) ?_
  refine sq 16 rfl rfl (Y_load1 (B := some ⟨b, 0, none⟩) (i := 4) (cs := [.int .i64 p.Ins, .int .i64 p.Vars, .int .i64 p.Root, .int .i64 p.Phase, .slice B p.Terms.length c, .slice B1 p.Out.length c1]) (v := .slice B p.Terms.length c) k_sc_27 rfl rfl (hS1.cf (i := 0) rfl) rfl) ?_
  refine sq 17 rfl rfl (Y_len (B := B) (m := p.Terms.length) (c := c) k_sl_27_56 rfl rfl) ?_
  refine sq 18 rfl rfl (Y_move (v := .int .i64 0) rfl rfl) ?_
  refine rw_nil ?_
  obtain ⟨hN, hF⟩ := chk_inv hF
  obtain ⟨z, hz, hF1⟩ := bind_inv hF
  refine cw_block ?_
  refine cw_loop (fun k f w => ∃ (i : Nat) (coef : Int) (set_ : Int) (any : Bool) (plain : Bool), FF f [(1, .int .i64 y), (8, .int .i64 coef), (9, .int .i64 set_), (10, .bool any), (11, .bool plain), (16, .slice B p.Terms.length c), (17, .int .i64 (p.Terms.length : Int)), (18, .int .i64 (i : Int))] ∧ ST w0 [] w [] [⟨B, (p.Terms.flatMap enc_Term)⟩, ⟨B1, (p.Out.flatMap enc_Affine)⟩] ∧ i + k = p.Terms.length ∧ forN (F_impl_PathSum_around_l1 p y) k i (coef, set_, any, plain) = some z) p.Terms.length ⟨0, 0, 0, false, true, (FF.cons rfl (FF.cons rfl (FF.cons rfl (FF.cons rfl (FF.cons rfl (FF.cons rfl (FF.cons rfl (FF.cons rfl FF.nil)))))))), (hS1.sel [] rfl rfl), Nat.zero_add _, hz⟩ ?_
  rintro k_ f w ⟨i, coef, set_, any, plain, hf, hS2, hik, hL⟩
  refine cw_seq ?_
  refine cw_region ?_
  refine sq 19 rfl rfl (Y_lt (k := .i64) (a := (i : Int)) (b := (p.Terms.length : Int)) rfl (hf.get 18 7 rfl) (hf.get 17 6 rfl)) ?_
  refine rw_nil ?_
  refine cw_seq ?_
  refine cw_cond (b := (decide ((i : Int) < (p.Terms.length : Int)))) rfl (fun hlt => ?_) (fun hlt => ?_)
  · skip
    have hlt1 : i < p.Terms.length := by have h := of_decide_eq_true hlt; omega
    obtain ⟨k_1, rfl⟩ : ∃ k2, k_ = k2 + 1 := ⟨k_ - 1, by omega⟩
    obtain ⟨y1, hb, hL1⟩ := forN_go hL
    unfold F_impl_PathSum_around_l1 at hb
    refine cw_skip ?_
    refine cw_seq ?_
    obtain ⟨z1, hz1, hF2⟩ := bind_inv hb
    refine cw_mid (fun f w => ∃ (coef1 : Int) (set_1 : Int) (any1 : Bool) (plain1 : Bool), (coef1, set_1, any1, plain1) = z1 ∧ FF f [(1, .int .i64 y), (8, .int .i64 coef1), (9, .int .i64 set_1), (10, .bool any1), (11, .bool plain1), (16, .slice B p.Terms.length c), (17, .int .i64 (p.Terms.length : Int)), (18, .int .i64 (i : Int))] ∧ ST w0 [] w [] [⟨B, (p.Terms.flatMap enc_Term)⟩, ⟨B1, (p.Out.flatMap enc_Affine)⟩]) ?_ ?_
    · skip
      refine cw_block ?_
      refine cw_seq ?_
      refine cw_region ?_
      obtain ⟨x, hx, hz1⟩ := bind_inv hz1
      refine sq 20 rfl rfl (Y_index (B := B) (m := p.Terms.length) (c := c) (k := .i64) (i := (i : Int)) k_sl_27_56 k_sz_56_2 rfl (hf.get 16 5 rfl) (hf.get 18 7 rfl) (gi_isSome enc_Term_len rfl (hS2.rf (i := 0) rfl) hx) (getI_nn hx) (getI_ltI hx rfl)) ?_
      refine sq 21 rfl rfl (Y_loadA (B := B) (i := (i : Int).toNat * 2) (cs := (p.Terms.flatMap enc_Term)) (vs := [.int .i64 x.Mask, .int .i64 x.Coef]) k_ag_56 k_sz_56_2 rfl rfl (hS2.rf (i := 0) rfl) (enc_Term_len x) (gi_seg enc_Term_len hx)) ?_
      refine ss 13 rfl rfl (Ys_alloc (T := 56) (cs := [.int .i64 0, .int .i64 0]) (m := 2) hS2 k_zero_56 rfl rfl rfl) ?_
      rintro _ w_1 ⟨b1, rfl, hS4⟩
      refine ss0 rfl rfl (Ys_store (i := 0) (s := 2) (B := some ⟨b1, 0, none⟩) (T' := 56) (v := .agg #[.int .i64 x.Mask, .int .i64 x.Coef]) (vs := [.int .i64 x.Mask, .int .i64 x.Coef]) (k := 0) (cs' := [.int .i64 x.Mask, .int .i64 x.Coef]) hS4 k_sz_56_2 rfl rfl rfl rfl rfl rfl rfl (Nat.le_of_ble_eq_true rfl) rfl rfl) ?_
      rintro _ w_2 ⟨rfl, hS5⟩
      refine rw_nil ?_
      refine cw_seq ?_
      refine cw_seq ?_
      refine cw_region ?_
      refine sq 22 rfl rfl (Y_fieldAddr (B := some ⟨b1, 0, none⟩) (i := 0) (s := 0) k_fd_56_0_0_3 k_sz_3_1 rfl rfl) ?_
      refine sq 23 rfl rfl (Y_load1 (B := some ⟨b1, 0, none⟩) (i := 0) (cs := [.int .i64 x.Mask, .int .i64 x.Coef]) (v := .int .i64 x.Mask) k_sc_3 rfl rfl (hS5.cf (i := 0) rfl) rfl) ?_
      refine sq 24 rfl rfl (Y_move (v := .int .i64 y) rfl (hf.get 1 0 rfl)) ?_
      obtain ⟨hsh, hz1⟩ := chk_inv hz1
      refine sq 25 rfl rfl (Y_shr (k := .i64) (a := x.Mask) (k' := .i64) (b := y) rfl rfl rfl hsh) ?_
      refine sq 26 rfl rfl (Y_band (k := .i64) (a := (shrK .i64 x.Mask y)) (b := 1) rfl rfl rfl) ?_
      refine sq 27 rfl rfl (Y_eq (k := .i64) (a := (bits .and .i64 (shrK .i64 x.Mask y) 1)) (b := 0) rfl rfl rfl) ?_
      refine rw_nil ?_
      refine cw_cond (b := ((bits .and .i64 (shrK .i64 x.Mask y) 1) == 0)) rfl (fun hb1 => ?_) (fun hb1 => ?_)
      · skip
        have hF3 := ct hz1 hb1
        refine cw_exit rfl ?_
        exact ⟨coef, set_, any, plain, (some_inj hF3), (FF.cons (hf.get 1 0 rfl) (FF.cons (hf.get 8 1 rfl) (FF.cons (hf.get 9 2 rfl) (FF.cons (hf.get 10 3 rfl) (FF.cons (hf.get 11 4 rfl) (FF.cons (hf.get 16 5 rfl) (FF.cons (hf.get 17 6 rfl) (FF.cons (hf.get 18 7 rfl) FF.nil)))))))), (hS5.sel [] rfl rfl)⟩
      · skip
        have hF4 := cf' hz1 hb1
        refine cw_skip ?_
        refine cw_seq ?_
        refine cw_region ?_
        refine sq 10 rfl rfl (Y_assign (v := .bool true) rfl rfl) ?_
        refine rw_nil ?_
        refine cw_seq ?_
        obtain ⟨hsh1, hF4⟩ := chk_inv hF4
        refine ra_start (ST.sel hS5 [0] rfl rfl).fn (by kernel_rfl) ?_
        have hS6 := hS5.drew
        refine ra_q 0 28 (v := pt (some ⟨b1, 0, none⟩) 0) rfl rfl rfl (by kernel_rfl) (by kernel_rfl) (by kernel_rfl) (ST.sel hS6 [0] rfl rfl) (fun w' hw' => (Y_fieldAddr (B := some ⟨b1, 0, none⟩) (i := 0) (s := 0) k_fd_56_0_0_3 k_sz_3_1 rfl rfl)) ?_
        refine ra_q 1 29 (v := .int .i64 x.Mask) rfl rfl rfl (by kernel_rfl) (by kernel_rfl) (by kernel_rfl) (ST.sel hS6 [0] rfl rfl) (fun w' hw' => (Y_load1 (B := some ⟨b1, 0, none⟩) (i := 0) (cs := [.int .i64 x.Mask, .int .i64 x.Coef]) (v := .int .i64 x.Mask) k_sc_3 rfl rfl (ST.cf hw' (i := 0) rfl) rfl)) ?_
        refine ra_q 2 30 (v := .int .i64 y) rfl rfl rfl (by kernel_rfl) (by kernel_rfl) (by kernel_rfl) (ST.sel hS6 [0] rfl rfl) (fun w' hw' => (Y_move (v := .int .i64 y) rfl (hf.get 1 0 rfl))) ?_
        refine ra_q 3 31 (v := .int .i64 (shlK .i64 1 y)) rfl rfl rfl (by kernel_rfl) (by kernel_rfl) (by kernel_rfl) (ST.sel hS6 [0] rfl rfl) (fun w' hw' => (Y_shl (k := .i64) (a := 1) (k' := .i64) (b := y) rfl rfl rfl hsh1)) ?_
        refine ra_q 4 32 (v := .int .i64 (bits .xor .i64 x.Mask (shlK .i64 1 y))) rfl rfl rfl (by kernel_rfl) (by kernel_rfl) (by kernel_rfl) (ST.sel hS6 [0] rfl rfl) (fun w' hw' => (Y_bxor (k := .i64) (a := x.Mask) (b := (shlK .i64 1 y)) rfl rfl rfl)) ?_
        refine ra_q 5 14 (v := .int .i64 (bits .xor .i64 x.Mask (shlK .i64 1 y))) rfl rfl rfl (by kernel_rfl) (by kernel_rfl) (by kernel_rfl) (ST.sel hS6 [0] rfl rfl) (fun w' hw' => (Y_assign (v := .int .i64 (bits .xor .i64 x.Mask (shlK .i64 1 y))) rfl rfl)) ?_
        refine ra_done (by kernel_rfl) ?_
        refine cw_seq ?_
        refine cw_region ?_
        refine sq 33 rfl rfl (Y_move (v := .int .i64 (bits .xor .i64 x.Mask (shlK .i64 1 y))) rfl rfl) ?_
        obtain ⟨r_4, hc, hF4⟩ := bind_inv hF4
        refine sc 34 rfl rfl (Yc_func (g := 45) (vs := [.int .i64 (bits .xor .i64 x.Mask (shlK .i64 1 y))]) k_call_45 rfl (mc rfl mn) (c_impl_bitsIn (bits .xor .i64 x.Mask (shlK .i64 1 y)) _  (hS6.inn0 [] rfl) hc)) ?_
        rintro _ w_3 ⟨rfl, hd⟩
        have hS7 := hS6.out00 hd
        refine rw_nil ?_
        refine cw_block ?_
        refine cw_seq ?_
        refine cw_region ?_
        refine sq 36 rfl rfl (Y_eq (k := .i64) (a := r_4) (b := 0) rfl rfl rfl) ?_
        refine sq 35 rfl rfl (Y_assign (v := .bool (r_4 == 0)) rfl rfl) ?_
        refine rw_nil ?_
        refine cw_cond (b := (r_4 == 0)) rfl (fun hb2 => ?_) (fun hb2 => ?_)
        · skip
          have hF5 := ct hF4 hb2
          refine cw_region ?_
          refine sq 37 rfl rfl (Y_fieldAddr (B := some ⟨b1, 0, none⟩) (i := 0) (s := 0) k_fd_56_1_1_3 k_sz_3_1 rfl rfl) ?_
          refine sq 38 rfl rfl (Y_load1 (B := some ⟨b1, 0, none⟩) (i := 1) (cs := [.int .i64 x.Mask, .int .i64 x.Coef]) (v := .int .i64 x.Coef) k_sc_3 rfl rfl (hS7.cf (i := 0) rfl) rfl) ?_
          refine sq 8 rfl rfl (Y_assign (v := .int .i64 x.Coef) rfl rfl) ?_
          refine rw_nil ?_
          exact ⟨x.Coef, set_, true, plain, (some_inj hF5), (FF.cons (hf.get 1 0 rfl) (FF.cons rfl (FF.cons (hf.get 9 2 rfl) (FF.cons rfl (FF.cons (hf.get 11 4 rfl) (FF.cons (hf.get 16 5 rfl) (FF.cons (hf.get 17 6 rfl) (FF.cons (hf.get 18 7 rfl) FF.nil)))))))), (hS7.sel [] rfl rfl)⟩
        · skip
          have hF6 := cf' hF4 hb2
          refine cw_seq ?_
          refine cw_region ?_
          refine sq 40 rfl rfl (Y_eq (k := .i64) (a := r_4) (b := 1) rfl rfl rfl) ?_
          refine sq 39 rfl rfl (Y_assign (v := .bool (r_4 == 1)) rfl rfl) ?_
          refine rw_nil ?_
          refine cw_cond (b := (r_4 == 1)) rfl (fun hb3 => ?_) (fun hb3 => ?_)
          · skip
            have hF7 := ct hF6 hb3
            refine cw_seq ?_
            refine cw_region ?_
            refine sq 41 rfl rfl (Y_move (v := .int .i64 set_) rfl (hf.get 9 2 rfl)) ?_
            refine sq 42 rfl rfl (Y_move (v := .int .i64 (bits .xor .i64 x.Mask (shlK .i64 1 y))) rfl rfl) ?_
            refine sq 43 rfl rfl (Y_bor (k := .i64) (a := set_) (b := (bits .xor .i64 x.Mask (shlK .i64 1 y))) rfl rfl rfl) ?_
            refine sq 9 rfl rfl (Y_assign (v := .int .i64 (bits .or .i64 set_ (bits .xor .i64 x.Mask (shlK .i64 1 y)))) rfl rfl) ?_
            refine rw_nil ?_
            refine cw_region ?_
            refine sq 44 rfl rfl (Y_move (v := .bool plain) rfl (hf.get 11 4 rfl)) ?_
            refine sq 45 rfl rfl (Y_move (v := .bool plain) rfl rfl) ?_
            refine sgq 46 (B := plain) (v := pt (some ⟨b1, 0, none⟩) 1) rfl rfl (wt_t (gd_of (t := 45) (by kernel_rfl) rfl)) (fun hg => (Y_fieldAddr (B := some ⟨b1, 0, none⟩) (i := 0) (s := 0) k_fd_56_1_1_3 k_sz_3_1 rfl rfl)) ?_
            refine sgq 47 (B := plain) (v := .int .i64 x.Coef) rfl rfl (wt_t (gd_of (t := 45) (by kernel_rfl) rfl)) (fun hg1 => (Y_load1 (B := some ⟨b1, 0, none⟩) (i := 1) (cs := [.int .i64 x.Mask, .int .i64 x.Coef]) (v := .int .i64 x.Coef) k_sc_3 rfl (gv_of (B := plain) (v := pt (some ⟨b1, 0, none⟩) 1) hg1) (hS7.cf (i := 0) rfl) rfl)) ?_
            refine sgq 48 (B := plain) (v := .bool (x.Coef == 4)) rfl rfl (wt_t (gd_of (t := 45) (by kernel_rfl) rfl)) (fun hg2 => (Y_eq (k := .i64) (a := x.Coef) (b := 4) rfl (gv_of (B := plain) (v := .int .i64 x.Coef) hg2) rfl)) ?_
            refine sq 49 rfl rfl (Y_and (b := plain) (z := (x.Coef == 4)) rfl rfl rfl rfl) ?_
            refine sq 11 rfl rfl (Y_assign (v := .bool (plain && (x.Coef == 4))) rfl rfl) ?_
            refine rw_nil ?_
            exact ⟨coef, (bits .or .i64 set_ (bits .xor .i64 x.Mask (shlK .i64 1 y))), true, (plain && (x.Coef == 4)), (some_inj hF7), (FF.cons (hf.get 1 0 rfl) (FF.cons (hf.get 8 1 rfl) (FF.cons rfl (FF.cons rfl (FF.cons rfl (FF.cons (hf.get 16 5 rfl) (FF.cons (hf.get 17 6 rfl) (FF.cons (hf.get 18 7 rfl) FF.nil)))))))), (hS7.sel [] rfl rfl)⟩
          · skip
            have hF8 := cf' hF6 hb3
            refine cw_region ?_
            refine sq 11 rfl rfl (Y_assign (v := .bool false) rfl rfl) ?_
            refine rw_nil ?_
            exact ⟨coef, set_, true, false, (some_inj hF8), (FF.cons (hf.get 1 0 rfl) (FF.cons (hf.get 8 1 rfl) (FF.cons (hf.get 9 2 rfl) (FF.cons rfl (FF.cons rfl (FF.cons (hf.get 16 5 rfl) (FF.cons (hf.get 17 6 rfl) (FF.cons (hf.get 18 7 rfl) FF.nil)))))))), (hS7.sel [] rfl rfl)⟩
    rintro f w ⟨coef1, set_1, any1, plain1, rfl, hf1, hS3⟩
    refine cw_region ?_
    refine sq 50 rfl rfl (Y_add (k := .i64) (a := (i : Int)) (b := 1) rfl (hf1.get 18 7 rfl) rfl) ?_
    refine sq 18 rfl rfl (Y_move (v := .int .i64 (IntKind.i64.wrap ((i : Int) + 1))) rfl rfl) ?_
    refine rw_nil ?_
    obtain rfl := some_inj hF2
    exact ⟨k_1, Nat.lt_succ_self _, i + 1, coef1, set_1, any1, plain1, (FF.cons (hf1.get 1 0 rfl) (FF.cons (hf1.get 8 1 rfl) (FF.cons (hf1.get 9 2 rfl) (FF.cons (hf1.get 10 3 rfl) (FF.cons (hf1.get 11 4 rfl) (FF.cons (hf1.get 16 5 rfl) (FF.cons (hf1.get 17 6 rfl) (FF.cons (congrArg (Value.int .i64) (wr_succ hlt1 hN)) FF.nil)))))))), (hS3.sel [] rfl rfl), (by omega), hL1⟩
  · skip
    obtain rfl : k_ = 0 := by have h := of_decide_eq_false hlt; omega
    refine cw_exit rfl ?_
    obtain rfl := some_inj hL
    refine cw_seq ?_
    refine cw_region ?_
    refine sq 51 rfl rfl (Y_move (v := .int .i64 coef) rfl (hf.get 8 1 rfl)) ?_
    refine sq 52 rfl rfl (Y_move (v := .int .i64 set_) rfl (hf.get 9 2 rfl)) ?_
    refine sq 53 rfl rfl (Y_move (v := .bool any) rfl (hf.get 10 3 rfl)) ?_
    refine sq 54 rfl rfl (Y_move (v := .bool plain) rfl (hf.get 11 4 rfl)) ?_
    refine sq 4 rfl rfl (Y_assign (v := .int .i64 coef) rfl rfl) ?_
    refine sq 5 rfl rfl (Y_assign (v := .int .i64 set_) rfl rfl) ?_
    refine sq 6 rfl rfl (Y_assign (v := .bool any) rfl rfl) ?_
    refine sq 7 rfl rfl (Y_assign (v := .bool plain) rfl rfl) ?_
    refine rw_nil ?_
    refine cw_ret ?_
    obtain ⟨rfl, rfl, rfl, rfl⟩ := pr4 (some_inj hF1)
    exact ret4 Tryd.results49 (v1 := .int .i64 coef) (resAt_tmp rfl) (v2 := .int .i64 set_) (resAt_tmp rfl) (v3 := .bool any) (resAt_tmp rfl) (v4 := .bool plain) (resAt_tmp rfl) ⟨rfl, (ST.subR (R' := []) (hS2.sel [] rfl rfl) (fun _ h => by cases h))⟩

theorem c_math_bits_TrailingZeros64 (x : Int)  (w0 : World)  (hS : ST w0 [] w0 [] [⟨(some ⟨1, 0, none⟩), (gl1.flatMap enc_u8)⟩]) {r_ : Int} (hF : F_math_bits_TrailingZeros64 x = some r_) :
    CV Tryd.prog 59 #[.int .u64 x] w0 (fun v w' => v = .int .i64 r_ ∧ ST w0 [] w' [] []) := by
  unfold F_math_bits_TrailingZeros64 at hF
  refine cv_of_cw 14 Tryd.func59 rfl Tryd.ntmps59 rfl ?_
  refine cw_seq ?_
  refine cw_region ?_
  refine sq 2 rfl rfl (Y_assign (v := .int .i64 0) rfl rfl) ?_
  refine rw_nil ?_
  refine cw_seq ?_
  refine cw_seq ?_
  refine cw_region ?_
  refine sq 3 rfl rfl (Y_move (v := .int .u64 x) rfl rfl) ?_
  refine sq 4 rfl rfl (Y_eq (k := .u64) (a := x) (b := 0) rfl rfl rfl) ?_
  refine rw_nil ?_
  refine cw_cond (b := (x == 0)) rfl (fun hb => ?_) (fun hb => ?_)
  · skip
    have hF1 := ct hF hb
    refine cw_seq ?_
    refine cw_region ?_
    refine sq 2 rfl rfl (Y_assign (v := .int .i64 64) rfl rfl) ?_
    refine rw_nil ?_
    refine cw_ret ?_
    obtain rfl := some_inj hF1
    exact ret1 Tryd.results59 (v1 := .int .i64 64) (resAt_tmp rfl) ⟨rfl, (ST.subR (R' := []) (hS.sel [] rfl rfl) (fun _ h => by cases h))⟩
  · skip
    have hF2 := cf' hF hb
    refine cw_skip ?_
    refine cw_seq ?_
    refine cw_region ?_
    refine sq 5 rfl rfl (Y_move (v := .int .u64 x) rfl rfl) ?_
    refine sq 6 rfl rfl (Y_move (v := .int .u64 x) rfl rfl) ?_
    refine sq 7 rfl rfl (Y_neg (k := .u64) (a := x) rfl rfl) ?_
    refine sq 8 rfl rfl (Y_band (k := .u64) (a := x) (b := (IntKind.u64.wrap (-x))) rfl rfl rfl) ?_
    refine sq 9 rfl rfl (Y_mul (k := .u64) (a := (bits .and .u64 x (IntKind.u64.wrap (-x)))) (b := 285870213051353865) rfl rfl rfl) ?_
    refine sq 10 rfl rfl (Y_shr (k := .u64) (a := (IntKind.u64.wrap ((bits .and .u64 x (IntKind.u64.wrap (-x))) * 285870213051353865))) (k' := .u64) (b := 58) rfl rfl rfl (by decide)) ?_
    obtain ⟨x1, hx, hF2⟩ := bind_inv hF2
    refine sq 11 rfl rfl (Y_indexArr0 (B := (some ⟨1, 0, none⟩)) (k := .u64) (i := (shrK .u64 (IntKind.u64.wrap ((bits .and .u64 x (IntKind.u64.wrap (-x))) * 285870213051353865)) 58)) k_ar_98_64_5 k_sz_5_1 rfl rfl rfl (getI_nn hx) (getI_ltI hx gl1_len)) ?_
    refine sq 12 rfl rfl (Y_load1 (B := (some ⟨1, 0, none⟩)) (i := (shrK .u64 (IntKind.u64.wrap ((bits .and .u64 x (IntKind.u64.wrap (-x))) * 285870213051353865)) 58).toNat * 1) (cs := (gl1.flatMap enc_u8)) (v := .int .u8 x1) k_sc_5 rfl rfl (hS.rf (i := 0) rfl) (gi_at0 enc_u8_len hx rfl)) ?_
    refine sq 13 rfl rfl (Y_conv (k := .u8) (a := x1) (T := 5) (T' := 3) k_us_5 k_int_3_i64 rfl rfl) ?_
    refine sq 2 rfl rfl (Y_assign (v := .int .i64 (IntKind.i64.wrap x1)) rfl rfl) ?_
    refine rw_nil ?_
    refine cw_ret ?_
    obtain rfl := some_inj hF2
    exact ret1 Tryd.results59 (v1 := .int .i64 (IntKind.i64.wrap x1)) (resAt_tmp rfl) ⟨rfl, (ST.subR (R' := []) (hS.sel [] rfl rfl) (fun _ h => by cases h))⟩

theorem c_math_bits_TrailingZeros (x : Int)  (w0 : World)  (hS : ST w0 [] w0 [] [⟨(some ⟨0, 0, none⟩), (gl0.flatMap enc_u8)⟩, ⟨(some ⟨1, 0, none⟩), (gl1.flatMap enc_u8)⟩]) {r_ : Int} (hF : F_math_bits_TrailingZeros x = some r_) :
    CV Tryd.prog 50 #[.int .u64 x] w0 (fun v w' => v = .int .i64 r_ ∧ ST w0 [] w' [] []) := by
  unfold F_math_bits_TrailingZeros at hF
  refine cv_of_cw 8 Tryd.func50 rfl Tryd.ntmps50 rfl ?_
  refine cw_seq ?_
  refine cw_region ?_
  refine sq 2 rfl rfl (Y_assign (v := .int .i64 0) rfl rfl) ?_
  refine rw_nil ?_
  refine cw_seq ?_
  refine cw_cond (b := false) rfl (fun h => by cases h) (fun _ => ?_)
  refine cw_skip ?_
  refine cw_seq ?_
  refine cw_region ?_
  refine sq 6 rfl rfl (Y_move (v := .int .u64 x) rfl rfl) ?_
  obtain ⟨r_1, hc, hF⟩ := bind_inv hF
  refine sc 7 rfl rfl (Yc_func (g := 59) (vs := [.int .u64 x]) k_call_59 rfl (mc rfl mn) (c_math_bits_TrailingZeros64 x _  (hS.inn0 [(true, 1)] rfl) hc)) ?_
  rintro _ w_ ⟨rfl, hd⟩
  have hS1 := hS.out00 hd
  refine sq 2 rfl rfl (Y_assign (v := .int .i64 r_1) rfl rfl) ?_
  refine rw_nil ?_
  refine cw_ret ?_
  obtain rfl := some_inj hF
  exact ret1 Tryd.results50 (v1 := .int .i64 r_1) (resAt_tmp rfl) ⟨rfl, (ST.subR (R' := []) (hS1.sel [] rfl rfl) (fun _ h => by cases h))⟩

theorem c_impl_dropped (mask : Int) (v_ : Int)  (w0 : World)  (hS : ST w0 [] w0 [] []) {r_ : Int} (hF : F_impl_dropped mask v_ = some r_) :
    CV Tryd.prog 53 #[.int .i64 mask, .int .i64 v_] w0 (fun v w' => v = .int .i64 r_ ∧ ST w0 [] w' [] []) := by
  unfold F_impl_dropped at hF
  refine cv_of_cw 17 Tryd.func53 rfl Tryd.ntmps53 rfl ?_
  refine cw_seq ?_
  refine cw_region ?_
  refine sq 4 rfl rfl (Y_assign (v := .int .i64 0) rfl rfl) ?_
  refine rw_nil ?_
  refine cw_seq ?_
  obtain ⟨hsh, hF⟩ := chk_inv hF
  obtain ⟨hsh1, hF⟩ := chk_inv hF
  obtain ⟨hsh2, hF⟩ := chk_inv hF
  refine ra_start (ST.sel hS [] rfl rfl).fn (by kernel_rfl) ?_
  have hS1 := hS.drew
  refine ra_q 0 5 (v := .int .i64 mask) rfl rfl rfl (by kernel_rfl) (by kernel_rfl) (by kernel_rfl) (ST.sel hS1 [] rfl rfl) (fun w' hw' => (Y_move (v := .int .i64 mask) rfl rfl)) ?_
  refine ra_q 1 6 (v := .int .i64 v_) rfl rfl rfl (by kernel_rfl) (by kernel_rfl) (by kernel_rfl) (ST.sel hS1 [] rfl rfl) (fun w' hw' => (Y_move (v := .int .i64 v_) rfl rfl)) ?_
  refine ra_q 2 7 (v := .int .i64 (shlK .i64 1 v_)) rfl rfl rfl (by kernel_rfl) (by kernel_rfl) (by kernel_rfl) (ST.sel hS1 [] rfl rfl) (fun w' hw' => (Y_shl (k := .i64) (a := 1) (k' := .i64) (b := v_) rfl rfl rfl hsh)) ?_
  refine ra_q 3 8 (v := .int .i64 (IntKind.i64.wrap ((shlK .i64 1 v_) - 1))) rfl rfl rfl (by kernel_rfl) (by kernel_rfl) (by kernel_rfl) (ST.sel hS1 [] rfl rfl) (fun w' hw' => (Y_sub (k := .i64) (a := (shlK .i64 1 v_)) (b := 1) rfl rfl rfl)) ?_
  refine ra_q 4 9 (v := .int .i64 (bits .and .i64 mask (IntKind.i64.wrap ((shlK .i64 1 v_) - 1)))) rfl rfl rfl (by kernel_rfl) (by kernel_rfl) (by kernel_rfl) (ST.sel hS1 [] rfl rfl) (fun w' hw' => (Y_band (k := .i64) (a := mask) (b := (IntKind.i64.wrap ((shlK .i64 1 v_) - 1))) rfl rfl rfl)) ?_
  refine ra_q 5 10 (v := .int .i64 mask) rfl rfl rfl (by kernel_rfl) (by kernel_rfl) (by kernel_rfl) (ST.sel hS1 [] rfl rfl) (fun w' hw' => (Y_move (v := .int .i64 mask) rfl rfl)) ?_
  refine ra_q 6 11 (v := .int .i64 v_) rfl rfl rfl (by kernel_rfl) (by kernel_rfl) (by kernel_rfl) (ST.sel hS1 [] rfl rfl) (fun w' hw' => (Y_move (v := .int .i64 v_) rfl rfl)) ?_
  refine ra_q 7 12 (v := .int .i64 (IntKind.i64.wrap (v_ + 1))) rfl rfl rfl (by kernel_rfl) (by kernel_rfl) (by kernel_rfl) (ST.sel hS1 [] rfl rfl) (fun w' hw' => (Y_add (k := .i64) (a := v_) (b := 1) rfl rfl rfl)) ?_
  refine ra_q 8 13 (v := .int .i64 (shrK .i64 mask (IntKind.i64.wrap (v_ + 1)))) rfl rfl rfl (by kernel_rfl) (by kernel_rfl) (by kernel_rfl) (ST.sel hS1 [] rfl rfl) (fun w' hw' => (Y_shr (k := .i64) (a := mask) (k' := .i64) (b := (IntKind.i64.wrap (v_ + 1))) rfl rfl rfl hsh1)) ?_
  refine ra_q 9 14 (v := .int .i64 v_) rfl rfl rfl (by kernel_rfl) (by kernel_rfl) (by kernel_rfl) (ST.sel hS1 [] rfl rfl) (fun w' hw' => (Y_move (v := .int .i64 v_) rfl rfl)) ?_
  refine ra_q 10 15 (v := .int .i64 (shlK .i64 (shrK .i64 mask (IntKind.i64.wrap (v_ + 1))) v_)) rfl rfl rfl (by kernel_rfl) (by kernel_rfl) (by kernel_rfl) (ST.sel hS1 [] rfl rfl) (fun w' hw' => (Y_shl (k := .i64) (a := (shrK .i64 mask (IntKind.i64.wrap (v_ + 1)))) (k' := .i64) (b := v_) rfl rfl rfl hsh2)) ?_
  refine ra_q 11 16 (v := .int .i64 (bits .or .i64 (bits .and .i64 mask (IntKind.i64.wrap ((shlK .i64 1 v_) - 1))) (shlK .i64 (shrK .i64 mask (IntKind.i64.wrap (v_ + 1))) v_))) rfl rfl rfl (by kernel_rfl) (by kernel_rfl) (by kernel_rfl) (ST.sel hS1 [] rfl rfl) (fun w' hw' => (Y_bor (k := .i64) (a := (bits .and .i64 mask (IntKind.i64.wrap ((shlK .i64 1 v_) - 1)))) (b := (shlK .i64 (shrK .i64 mask (IntKind.i64.wrap (v_ + 1))) v_)) rfl rfl rfl)) ?_
  refine ra_q 12 4 (v := .int .i64 (bits .or .i64 (bits .and .i64 mask (IntKind.i64.wrap ((shlK .i64 1 v_) - 1))) (shlK .i64 (shrK .i64 mask (IntKind.i64.wrap (v_ + 1))) v_))) rfl rfl rfl (by kernel_rfl) (by kernel_rfl) (by kernel_rfl) (ST.sel hS1 [] rfl rfl) (fun w' hw' => (Y_assign (v := .int .i64 (bits .or .i64 (bits .and .i64 mask (IntKind.i64.wrap ((shlK .i64 1 v_) - 1))) (shlK .i64 (shrK .i64 mask (IntKind.i64.wrap (v_ + 1))) v_))) rfl rfl)) ?_
  refine ra_done (by kernel_rfl) ?_
  refine cw_ret ?_
  obtain rfl := some_inj hF
  exact ret1 Tryd.results53 (v1 := .int .i64 (bits .or .i64 (bits .and .i64 mask (IntKind.i64.wrap ((shlK .i64 1 v_) - 1))) (shlK .i64 (shrK .i64 mask (IntKind.i64.wrap (v_ + 1))) v_))) (resAt_tmp rfl) ⟨rfl, (ST.subR (R' := []) (hS1.sel [] rfl rfl) (fun _ h => by cases h))⟩

theorem c_impl_PathSum_without (p : TPathSum) (v_ : Int) (B : Option Addr) (c n : Nat) (B1 : Option Addr) (c1 n1 : Nat) (w0 : World) (hn : p.Terms.length = n) (hn1 : p.Out.length = n1) (hS : ST w0 [] w0 [] [⟨B, (p.Terms.flatMap enc_Term)⟩, ⟨B1, (p.Out.flatMap enc_Affine)⟩]) {r_ : TPathSum} (hF : F_impl_PathSum_without p v_ = some r_) :
    CV Tryd.prog 51 #[.agg #[.int .i64 p.Ins, .int .i64 p.Vars, .int .i64 p.Root, .int .i64 p.Phase, .slice B n c, .slice B1 n1 c1], .int .i64 v_] w0 (fun v w' => ∃ (B2 : Option Addr) (c2 : Nat) (B3 : Option Addr) (c3 : Nat), v = .agg #[.int .i64 r_.Ins, .int .i64 r_.Vars, .int .i64 r_.Root, .int .i64 r_.Phase, .slice B2 r_.Terms.length c2, .slice B3 r_.Out.length c3] ∧ ST w0 [] w' [⟨B2, 56, (r_.Terms.flatMap enc_Term), c2 * 2⟩, ⟨B3, 44, (r_.Out.flatMap enc_Affine), c3 * 2⟩] []) := by
  subst hn
  subst hn1
  unfold F_impl_PathSum_without at hF
  refine cv_of_cw 58 Tryd.func51 rfl Tryd.ntmps51 rfl ?_
  refine cw_seq ?_
  refine cw_region ?_
  refine ss 2 rfl rfl (Ys_box (T := 30) (v := .agg #[.int .i64 p.Ins, .int .i64 p.Vars, .int .i64 p.Root, .int .i64 p.Phase, .slice B p.Terms.length c, .slice B1 p.Out.length c1]) (cs := [.int .i64 p.Ins, .int .i64 p.Vars, .int .i64 p.Root, .int .i64 p.Phase, .slice B p.Terms.length c, .slice B1 p.Out.length c1]) (m := 6) hS rfl rfl rfl rfl) ?_
  rintro _ w_ ⟨b, rfl, hS1⟩
  refine ss 4 rfl rfl (Ys_alloc (T := 30) (cs := [.int .i64 0, .int .i64 0, .int .i64 0, .int .i64 0, .slice none 0 0, .slice none 0 0]) (m := 6) hS1 k_zero_30 rfl rfl rfl) ?_
  rintro _ w_1 ⟨b1, rfl, hS2⟩
  have hS2 : ST w0 [] _ [⟨some ⟨b, 0, none⟩, 30, [.int .i64 p.Ins, .int .i64 p.Vars, .int .i64 p.Root, .int .i64 p.Phase, .slice B p.Terms.length c, .slice B1 p.Out.length c1], 6⟩, ⟨some ⟨b1, 0, none⟩, 30, [.int .i64 0, .int .i64 0, .int .i64 0, .int .i64 0, .slice none 0 0, .slice none 0 0], 6⟩] [⟨B, (p.Terms.flatMap enc_Term)⟩, ⟨B1, (p.Out.flatMap enc_Affine)⟩] := hS2
  refine rw_nil ?_
  refine cw_seq ?_
  refine cw_region ?_
  refine sq 10 rfl rfl (Y_loadA (B := some ⟨b, 0, none⟩) (i := 0) (cs := [.int .i64 p.Ins, .int .i64 p.Vars, .int .i64 p.Root, .int .i64 p.Phase, .slice B p.Terms.length c, .slice B1 p.Out.length c1]) (vs := [.int .i64 p.Ins, .int .i64 p.Vars, .int .i64 p.Root, .int .i64 p.Phase, .slice B p.Terms.length c, .slice B1 p.Out.length c1]) k_ag_30 k_sz_30_6 rfl rfl (hS2.cf (i := 0) rfl) rfl rfl) ?_
  refine ss 5 rfl rfl (Ys_alloc (T := 30) (cs := [.int .i64 0, .int .i64 0, .int .i64 0, .int .i64 0, .slice none 0 0, .slice none 0 0]) (m := 6) hS2 k_zero_30 rfl rfl rfl) ?_
  rintro _ w_2 ⟨b2, rfl, hS3⟩
  have hS3 : ST w0 [] _ [⟨some ⟨b, 0, none⟩, 30, [.int .i64 p.Ins, .int .i64 p.Vars, .int .i64 p.Root, .int .i64 p.Phase, .slice B p.Terms.length c, .slice B1 p.Out.length c1], 6⟩, ⟨some ⟨b1, 0, none⟩, 30, [.int .i64 0, .int .i64 0, .int .i64 0, .int .i64 0, .slice none 0 0, .slice none 0 0], 6⟩, ⟨some ⟨b2, 0, none⟩, 30, [.int .i64 0, .int .i64 0, .int .i64 0, .int .i64 0, .slice none 0 0, .slice none 0 0], 6⟩] [⟨B, (p.Terms.flatMap enc_Term)⟩, ⟨B1, (p.Out.flatMap enc_Affine)⟩] := hS3
  refine ss0 rfl rfl (Ys_store (i := 2) (s := 6) (B := some ⟨b2, 0, none⟩) (T' := 30) (v := .agg #[.int .i64 p.Ins, .int .i64 p.Vars, .int .i64 p.Root, .int .i64 p.Phase, .slice B p.Terms.length c, .slice B1 p.Out.length c1]) (vs := [.int .i64 p.Ins, .int .i64 p.Vars, .int .i64 p.Root, .int .i64 p.Phase, .slice B p.Terms.length c, .slice B1 p.Out.length c1]) (k := 0) (cs' := [.int .i64 p.Ins, .int .i64 p.Vars, .int .i64 p.Root, .int .i64 p.Phase, .slice B p.Terms.length c, .slice B1 p.Out.length c1]) hS3 k_sz_30_6 rfl rfl rfl rfl rfl rfl rfl (Nat.le_of_ble_eq_true rfl) rfl rfl) ?_
  rintro _ w_3 ⟨rfl, hS4⟩
  have hS4 : ST w0 [] _ [⟨some ⟨b, 0, none⟩, 30, [.int .i64 p.Ins, .int .i64 p.Vars, .int .i64 p.Root, .int .i64 p.Phase, .slice B p.Terms.length c, .slice B1 p.Out.length c1], 6⟩, ⟨some ⟨b1, 0, none⟩, 30, [.int .i64 0, .int .i64 0, .int .i64 0, .int .i64 0, .slice none 0 0, .slice none 0 0], 6⟩, ⟨some ⟨b2, 0, none⟩, 30, [.int .i64 p.Ins, .int .i64 p.Vars, .int .i64 p.Root, .int .i64 p.Phase, .slice B p.Terms.length c, .slice B1 p.Out.length c1], 6⟩] [⟨B, (p.Terms.flatMap enc_Term)⟩, ⟨B1, (p.Out.flatMap enc_Affine)⟩] := hS4
  refine rw_nil ?_
  refine cw_seq ?_
  refine cw_region ?_
  refine sq 11 rfl rfl (Y_fieldAddr (B := some ⟨b2, 0, none⟩) (i := 0) (s := 0) k_fd_30_1_1_3 k_sz_3_1 rfl rfl) ?_
  refine sq 12 rfl rfl (Y_load1 (B := some ⟨b2, 0, none⟩) (i := 1) (cs := [.int .i64 p.Ins, .int .i64 p.Vars, .int .i64 p.Root, .int .i64 p.Phase, .slice B p.Terms.length c, .slice B1 p.Out.length c1]) (v := .int .i64 p.Vars) k_sc_3 rfl rfl (hS4.cf (i := 2) rfl) rfl) ?_
  refine sq 13 rfl rfl (Y_sub (k := .i64) (a := p.Vars) (b := 1) rfl rfl rfl) ?_
  refine sq 14 rfl rfl (Y_fieldAddr (B := some ⟨b2, 0, none⟩) (i := 0) (s := 0) k_fd_30_1_1_3 k_sz_3_1 rfl rfl) ?_
  refine ss0 rfl rfl (Ys_store (i := 2) (s := 1) (B := some ⟨b2, 0, none⟩) (T' := 30) (v := .int .i64 (IntKind.i64.wrap (p.Vars - 1))) (vs := [.int .i64 (IntKind.i64.wrap (p.Vars - 1))]) (k := 1) (cs' := [.int .i64 p.Ins, .int .i64 (IntKind.i64.wrap (p.Vars - 1)), .int .i64 p.Root, .int .i64 p.Phase, .slice B p.Terms.length c, .slice B1 p.Out.length c1]) hS4 k_sz_3_1 rfl rfl rfl rfl rfl rfl rfl (Nat.le_of_ble_eq_true rfl) rfl rfl) ?_
  rintro _ w_4 ⟨rfl, hS5⟩
  have hS5 : ST w0 [] _ [⟨some ⟨b, 0, none⟩, 30, [.int .i64 p.Ins, .int .i64 p.Vars, .int .i64 p.Root, .int .i64 p.Phase, .slice B p.Terms.length c, .slice B1 p.Out.length c1], 6⟩, ⟨some ⟨b1, 0, none⟩, 30, [.int .i64 0, .int .i64 0, .int .i64 0, .int .i64 0, .slice none 0 0, .slice none 0 0], 6⟩, ⟨some ⟨b2, 0, none⟩, 30, [.int .i64 p.Ins, .int .i64 (IntKind.i64.wrap (p.Vars - 1)), .int .i64 p.Root, .int .i64 p.Phase, .slice B p.Terms.length c, .slice B1 p.Out.length c1], 6⟩] [⟨B, (p.Terms.flatMap enc_Term)⟩, ⟨B1, (p.Out.flatMap enc_Affine)⟩] := hS5
  refine rw_nil ?_
  refine cw_seq ?_
  refine cw_region ?_
  refine sq 15 rfl rfl (Y_fieldAddr (B := some ⟨b2, 0, none⟩) (i := 0) (s := 0) k_fd_30_4_4_27 k_sz_27_1 rfl rfl) ?_
  refine ss0 rfl rfl (Ys_store (i := 2) (s := 1) (B := some ⟨b2, 0, none⟩) (T' := 30) (v := .slice none 0 0) (vs := [.slice none 0 0]) (k := 4) (cs' := [.int .i64 p.Ins, .int .i64 (IntKind.i64.wrap (p.Vars - 1)), .int .i64 p.Root, .int .i64 p.Phase, .slice none 0 0, .slice B1 p.Out.length c1]) hS5 k_sz_27_1 rfl rfl rfl rfl rfl rfl rfl (Nat.le_of_ble_eq_true rfl) rfl rfl) ?_
  rintro _ w_5 ⟨rfl, hS6⟩
  have hS6 : ST w0 [] _ [⟨some ⟨b, 0, none⟩, 30, [.int .i64 p.Ins, .int .i64 p.Vars, .int .i64 p.Root, .int .i64 p.Phase, .slice B p.Terms.length c, .slice B1 p.Out.length c1], 6⟩, ⟨some ⟨b1, 0, none⟩, 30, [.int .i64 0, .int .i64 0, .int .i64 0, .int .i64 0, .slice none 0 0, .slice none 0 0], 6⟩, ⟨some ⟨b2, 0, none⟩, 30, [.int .i64 p.Ins, .int .i64 (IntKind.i64.wrap (p.Vars - 1)), .int .i64 p.Root, .int .i64 p.Phase, .slice none 0 0, .slice B1 p.Out.length c1], 6⟩] [⟨B, (p.Terms.flatMap enc_Term)⟩, ⟨B1, (p.Out.flatMap enc_Affine)⟩] := hS6
  refine sq 16 rfl rfl (Y_fieldAddr (B := some ⟨b2, 0, none⟩) (i := 0) (s := 0) k_fd_30_5_5_28 k_sz_28_1 rfl rfl) ?_
  refine ss0 rfl rfl (Ys_store (i := 2) (s := 1) (B := some ⟨b2, 0, none⟩) (T' := 30) (v := .slice none 0 0) (vs := [.slice none 0 0]) (k := 5) (cs' := [.int .i64 p.Ins, .int .i64 (IntKind.i64.wrap (p.Vars - 1)), .int .i64 p.Root, .int .i64 p.Phase, .slice none 0 0, .slice none 0 0]) hS6 k_sz_28_1 rfl rfl rfl rfl rfl rfl rfl (Nat.le_of_ble_eq_true rfl) rfl rfl) ?_
  rintro _ w_6 ⟨rfl, hS7⟩
  have hS7 : ST w0 [] _ [⟨some ⟨b, 0, none⟩, 30, [.int .i64 p.Ins, .int .i64 p.Vars, .int .i64 p.Root, .int .i64 p.Phase, .slice B p.Terms.length c, .slice B1 p.Out.length c1], 6⟩, ⟨some ⟨b1, 0, none⟩, 30, [.int .i64 0, .int .i64 0, .int .i64 0, .int .i64 0, .slice none 0 0, .slice none 0 0], 6⟩, ⟨some ⟨b2, 0, none⟩, 30, [.int .i64 p.Ins, .int .i64 (IntKind.i64.wrap (p.Vars - 1)), .int .i64 p.Root, .int .i64 p.Phase, .slice none 0 0, .slice none 0 0], 6⟩] [⟨B, (p.Terms.flatMap enc_Term)⟩, ⟨B1, (p.Out.flatMap enc_Affine)⟩] := hS7
  refine rw_nil ?_
  refine cw_seq ?_
  refine cw_seq ?_
  refine cw_region ?_
  refine sq 17 rfl rfl (Y_fieldAddr (B := some ⟨b, 0, none⟩) (i := 0) (s := 0) k_fd_30_4_4_27 k_sz_27_1 rfl rfl) ?_
  refine sq 18 rfl rfl (Y_load1 (B := some ⟨b, 0, none⟩) (i := 4) (cs := [.int .i64 p.Ins, .int .i64 p.Vars, .int .i64 p.Root, .int .i64 p.Phase, .slice B p.Terms.length c, .slice B1 p.Out.length c1]) (v := .slice B p.Terms.length c) k_sc_27 rfl rfl (hS7.cf (i := 0) rfl) rfl) ?_
  refine sq 19 rfl rfl (Y_len (B := B) (m := p.Terms.length) (c := c) k_sl_27_56 rfl rfl) ?_
  refine sq 20 rfl rfl (Y_move (v := .int .i64 0) rfl rfl) ?_
  refine rw_nil ?_
  obtain ⟨z, hz, hF1⟩ := bind_inv hF
  have hS9 := hS7.addNil 56
  refine cw_block ?_
  refine cw_loop (fun k f w => ∃ (Terms : List TTerm) (t : Int) (B4 : Option Addr) (c4 : Nat), FF f [(1, .int .i64 v_), (2, pt (some ⟨b, 0, none⟩) 0), (4, pt (some ⟨b1, 0, none⟩) 0), (5, pt (some ⟨b2, 0, none⟩) 0), (18, .slice B p.Terms.length c), (19, .int .i64 (p.Terms.length : Int)), (20, .int .i64 t)] ∧ ST w0 [] w [⟨some ⟨b, 0, none⟩, 30, [.int .i64 p.Ins, .int .i64 p.Vars, .int .i64 p.Root, .int .i64 p.Phase, .slice B p.Terms.length c, .slice B1 p.Out.length c1], 6⟩, ⟨some ⟨b1, 0, none⟩, 30, [.int .i64 0, .int .i64 0, .int .i64 0, .int .i64 0, .slice none 0 0, .slice none 0 0], 6⟩, ⟨some ⟨b2, 0, none⟩, 30, [.int .i64 p.Ins, .int .i64 (IntKind.i64.wrap (p.Vars - 1)), .int .i64 p.Root, .int .i64 p.Phase, .slice B4 Terms.length c4, .slice none 0 0], 6⟩, ⟨B4, 56, (Terms.flatMap enc_Term), c4 * 2⟩] [⟨B, (p.Terms.flatMap enc_Term)⟩, ⟨B1, (p.Out.flatMap enc_Affine)⟩] ∧ whX (F_impl_PathSum_without_l1 p v_) k (Terms, t) = some z) fuel ⟨[], 0, none, 0, (FF.cons rfl (FF.cons rfl (FF.cons rfl (FF.cons rfl (FF.cons rfl (FF.cons rfl (FF.cons rfl FF.nil))))))), (hS9.sel [0, 1, 2, 3] rfl rfl), hz⟩ ?_
  rintro k_ f w ⟨Terms, t, B4, c4, hf, hS8, hL⟩
  obtain ⟨k_1, y, rfl, hb, hL1⟩ := whX_go hL
  unfold F_impl_PathSum_without_l1 at hb
  refine cw_seq ?_
  refine cw_region ?_
  refine sq 21 rfl rfl (Y_lt (k := .i64) (a := t) (b := (p.Terms.length : Int)) rfl (hf.get 20 6 rfl) (hf.get 19 5 rfl)) ?_
  refine rw_nil ?_
  refine cw_seq ?_
  refine cw_cond (b := (decide (t < (p.Terms.length : Int)))) rfl (fun hb1 => ?_) (fun hb1 => ?_)
  · skip
    have hF2 := ct hb hb1
    refine cw_skip ?_
    refine cw_seq ?_
    refine cw_block ?_
    refine cw_seq ?_
    refine cw_region ?_
    obtain ⟨x, hx, hF2⟩ := bind_inv hF2
    refine sq 22 rfl rfl (Y_index (B := B) (m := p.Terms.length) (c := c) (k := .i64) (i := t) k_sl_27_56 k_sz_56_2 rfl (hf.get 18 4 rfl) (hf.get 20 6 rfl) (gi_isSome enc_Term_len rfl (hS8.rf (i := 0) rfl) hx) (getI_nn hx) (getI_ltI hx rfl)) ?_
    refine sq 23 rfl rfl (Y_loadA (B := B) (i := t.toNat * 2) (cs := (p.Terms.flatMap enc_Term)) (vs := [.int .i64 x.Mask, .int .i64 x.Coef]) k_ag_56 k_sz_56_2 rfl rfl (hS8.rf (i := 0) rfl) (enc_Term_len x) (gi_seg enc_Term_len hx)) ?_
    refine ss 7 rfl rfl (Ys_alloc (T := 56) (cs := [.int .i64 0, .int .i64 0]) (m := 2) hS8 k_zero_56 rfl rfl rfl) ?_
    rintro _ w_7 ⟨b3, rfl, hS10⟩
    have hS10 : ST w0 [] _ [⟨some ⟨b, 0, none⟩, 30, [.int .i64 p.Ins, .int .i64 p.Vars, .int .i64 p.Root, .int .i64 p.Phase, .slice B p.Terms.length c, .slice B1 p.Out.length c1], 6⟩, ⟨some ⟨b1, 0, none⟩, 30, [.int .i64 0, .int .i64 0, .int .i64 0, .int .i64 0, .slice none 0 0, .slice none 0 0], 6⟩, ⟨some ⟨b2, 0, none⟩, 30, [.int .i64 p.Ins, .int .i64 (IntKind.i64.wrap (p.Vars - 1)), .int .i64 p.Root, .int .i64 p.Phase, .slice B4 Terms.length c4, .slice none 0 0], 6⟩, ⟨B4, 56, (Terms.flatMap enc_Term), c4 * 2⟩, ⟨some ⟨b3, 0, none⟩, 56, [.int .i64 0, .int .i64 0], 2⟩] [⟨B, (p.Terms.flatMap enc_Term)⟩, ⟨B1, (p.Out.flatMap enc_Affine)⟩] := hS10
    refine ss0 rfl rfl (Ys_store (i := 4) (s := 2) (B := some ⟨b3, 0, none⟩) (T' := 56) (v := .agg #[.int .i64 x.Mask, .int .i64 x.Coef]) (vs := [.int .i64 x.Mask, .int .i64 x.Coef]) (k := 0) (cs' := [.int .i64 x.Mask, .int .i64 x.Coef]) hS10 k_sz_56_2 rfl rfl rfl rfl rfl rfl rfl (Nat.le_of_ble_eq_true rfl) rfl rfl) ?_
    rintro _ w_8 ⟨rfl, hS11⟩
    have hS11 : ST w0 [] _ [⟨some ⟨b, 0, none⟩, 30, [.int .i64 p.Ins, .int .i64 p.Vars, .int .i64 p.Root, .int .i64 p.Phase, .slice B p.Terms.length c, .slice B1 p.Out.length c1], 6⟩, ⟨some ⟨b1, 0, none⟩, 30, [.int .i64 0, .int .i64 0, .int .i64 0, .int .i64 0, .slice none 0 0, .slice none 0 0], 6⟩, ⟨some ⟨b2, 0, none⟩, 30, [.int .i64 p.Ins, .int .i64 (IntKind.i64.wrap (p.Vars - 1)), .int .i64 p.Root, .int .i64 p.Phase, .slice B4 Terms.length c4, .slice none 0 0], 6⟩, ⟨B4, 56, (Terms.flatMap enc_Term), c4 * 2⟩, ⟨some ⟨b3, 0, none⟩, 56, [.int .i64 x.Mask, .int .i64 x.Coef], 2⟩] [⟨B, (p.Terms.flatMap enc_Term)⟩, ⟨B1, (p.Out.flatMap enc_Affine)⟩] := hS11
    refine rw_nil ?_
    obtain ⟨r_1, hc, hF2⟩ := bind_inv hF2
    obtain ⟨hap, hF2⟩ := chk_inv hF2
    refine cw_mid (fun f w => ∃ (B6 : Option Addr) (c6 : Nat), FF f [(1, .int .i64 v_), (2, pt (some ⟨b, 0, none⟩) 0), (4, pt (some ⟨b1, 0, none⟩) 0), (5, pt (some ⟨b2, 0, none⟩) 0), (18, .slice B p.Terms.length c), (19, .int .i64 (p.Terms.length : Int)), (20, .int .i64 t)] ∧ ST w0 [] w [⟨some ⟨b, 0, none⟩, 30, [.int .i64 p.Ins, .int .i64 p.Vars, .int .i64 p.Root, .int .i64 p.Phase, .slice B p.Terms.length c, .slice B1 p.Out.length c1], 6⟩, ⟨some ⟨b1, 0, none⟩, 30, [.int .i64 0, .int .i64 0, .int .i64 0, .int .i64 0, .slice none 0 0, .slice none 0 0], 6⟩, ⟨some ⟨b2, 0, none⟩, 30, [.int .i64 p.Ins, .int .i64 (IntKind.i64.wrap (p.Vars - 1)), .int .i64 p.Root, .int .i64 p.Phase, .slice B6 ((Terms ++ [(TTerm.mk r_1 x.Coef)]).length) c6, .slice none 0 0], 6⟩, ⟨B6, 56, ((Terms ++ [(TTerm.mk r_1 x.Coef)]).flatMap enc_Term), c6 * 2⟩] [⟨B, (p.Terms.flatMap enc_Term)⟩, ⟨B1, (p.Out.flatMap enc_Affine)⟩]) ?_ ?_
    · skip
      refine ra_start (ST.sel hS11 [0, 1, 4] rfl rfl).fn (by kernel_rfl) ?_
      have hS14 := hS11.drew
      refine ra_q 0 24 (v := pt (some ⟨b2, 0, none⟩) 4) rfl rfl rfl (by kernel_rfl) (by kernel_rfl) (by kernel_rfl) (ST.sel hS14 [0, 1, 4] rfl rfl) (fun w' hw' => (Y_fieldAddr (B := some ⟨b2, 0, none⟩) (i := 0) (s := 0) k_fd_30_4_4_27 k_sz_27_1 rfl (hf.get 5 3 rfl))) ?_
      refine ra_q 2 26 (v := pt (some ⟨b3, 0, none⟩) 0) rfl rfl rfl (by kernel_rfl) (by kernel_rfl) (by kernel_rfl) (ST.sel hS14 [0, 1, 4] rfl rfl) (fun w' hw' => (Y_fieldAddr (B := some ⟨b3, 0, none⟩) (i := 0) (s := 0) k_fd_56_0_0_3 k_sz_3_1 rfl rfl)) ?_
      refine ra_q 3 27 (v := .int .i64 x.Mask) rfl rfl rfl (by kernel_rfl) (by kernel_rfl) (by kernel_rfl) (ST.sel hS14 [0, 1, 4] rfl rfl) (fun w' hw' => (Y_load1 (B := some ⟨b3, 0, none⟩) (i := 0) (cs := [.int .i64 x.Mask, .int .i64 x.Coef]) (v := .int .i64 x.Mask) k_sc_3 rfl rfl (ST.cf hw' (i := 2) rfl) rfl)) ?_
      refine ra_q 4 28 (v := .int .i64 v_) rfl rfl rfl (by kernel_rfl) (by kernel_rfl) (by kernel_rfl) (ST.sel hS14 [0, 1, 4] rfl rfl) (fun w' hw' => (Y_move (v := .int .i64 v_) rfl (hf.get 1 0 rfl))) ?_
      refine ra_q 6 30 (v := pt (some ⟨b3, 0, none⟩) 1) rfl rfl rfl (by kernel_rfl) (by kernel_rfl) (by kernel_rfl) (ST.sel hS14 [0, 1, 4] rfl rfl) (fun w' hw' => (Y_fieldAddr (B := some ⟨b3, 0, none⟩) (i := 0) (s := 0) k_fd_56_1_1_3 k_sz_3_1 rfl rfl)) ?_
      refine ra_q 7 31 (v := .int .i64 x.Coef) rfl rfl rfl (by kernel_rfl) (by kernel_rfl) (by kernel_rfl) (ST.sel hS14 [0, 1, 4] rfl rfl) (fun w' hw' => (Y_load1 (B := some ⟨b3, 0, none⟩) (i := 1) (cs := [.int .i64 x.Mask, .int .i64 x.Coef]) (v := .int .i64 x.Coef) k_sc_3 rfl rfl (ST.cf hw' (i := 2) rfl) rfl)) ?_
      refine ra_all (rs := [1, 5]) (by kernel_rfl) rfl ?_
      refine ra_y 25 (i := 1) (v := .slice B4 Terms.length c4) rfl rfl rfl (Y_load1 (B := some ⟨b2, 0, none⟩) (i := 4) (cs := [.int .i64 p.Ins, .int .i64 (IntKind.i64.wrap (p.Vars - 1)), .int .i64 p.Root, .int .i64 p.Phase, .slice B4 Terms.length c4, .slice none 0 0]) (v := .slice B4 Terms.length c4) k_sc_27 rfl rfl (hS14.cf (i := 2) rfl) rfl) (ST.sel hS14 [0, 1, 4] rfl rfl) ?_ ?_
      · skip
        refine ra_all (rs := [5]) (by kernel_rfl) rfl ?_
        refine ra_c 29 (i := 5) rfl rfl rfl (Yc_func (g := 53) (vs := [.int .i64 x.Mask, .int .i64 v_]) k_call_53 rfl (mc rfl (mc rfl mn)) (c_impl_dropped x.Mask v_ _  (hS14.inn0 [] rfl) hc)) ?_ ?_
        · rintro _ w_9 ⟨rfl, hd⟩
          have hS15 := hS14.out00 hd
          have hS15 : ST w0 [] _ [⟨some ⟨b, 0, none⟩, 30, [.int .i64 p.Ins, .int .i64 p.Vars, .int .i64 p.Root, .int .i64 p.Phase, .slice B p.Terms.length c, .slice B1 p.Out.length c1], 6⟩, ⟨some ⟨b1, 0, none⟩, 30, [.int .i64 0, .int .i64 0, .int .i64 0, .int .i64 0, .slice none 0 0, .slice none 0 0], 6⟩, ⟨some ⟨b2, 0, none⟩, 30, [.int .i64 p.Ins, .int .i64 (IntKind.i64.wrap (p.Vars - 1)), .int .i64 p.Root, .int .i64 p.Phase, .slice B4 Terms.length c4, .slice none 0 0], 6⟩, ⟨B4, 56, (Terms.flatMap enc_Term), c4 * 2⟩, ⟨some ⟨b3, 0, none⟩, 56, [.int .i64 x.Mask, .int .i64 x.Coef], 2⟩] [⟨B, (p.Terms.flatMap enc_Term)⟩, ⟨B1, (p.Out.flatMap enc_Affine)⟩] := hS15
          refine ⟨(ST.sel hS15 [0, 1, 4] rfl rfl), ?_⟩
          refine ra_q 8 32 (v := .agg #[.int .i64 r_1, .int .i64 x.Coef]) rfl rfl rfl (by kernel_rfl) (by kernel_rfl) (by kernel_rfl) (ST.sel hS15 [0, 1, 4] rfl rfl) (fun w' hw' => (Y_buildS (zs := [.int .i64 0, .int .i64 0]) (vs := [(0, .int .i64 r_1), (1, .int .i64 x.Coef)]) (cs := [.int .i64 r_1, .int .i64 x.Coef]) k_pl_56 k_zero_56 rfl (mpc rfl (mpc rfl mpn)) rfl)) ?_
          refine ra_all (rs := [9]) (by kernel_rfl) rfl ?_
          refine ra_s 33 (i := 9) rfl rfl rfl (Ys_bslice (s := 2) (len := 1) (vs := [(0, .agg #[.int .i64 r_1, .int .i64 x.Coef])]) (cs := [.int .i64 r_1, .int .i64 x.Coef]) (zs := [.int .i64 0, .int .i64 0]) (m := 2) hS15 k_sl_27_56 k_sz_56_2 k_zc_56 rfl (mpc rfl mpn) rfl rfl rfl (by kernel_rfl) (by kernel_rfl) rfl) ?_ ?_
          · rintro _ w_10 ⟨b4, rfl, hS16⟩
            have hS16 : ST w0 [] _ [⟨some ⟨b, 0, none⟩, 30, [.int .i64 p.Ins, .int .i64 p.Vars, .int .i64 p.Root, .int .i64 p.Phase, .slice B p.Terms.length c, .slice B1 p.Out.length c1], 6⟩, ⟨some ⟨b1, 0, none⟩, 30, [.int .i64 0, .int .i64 0, .int .i64 0, .int .i64 0, .slice none 0 0, .slice none 0 0], 6⟩, ⟨some ⟨b2, 0, none⟩, 30, [.int .i64 p.Ins, .int .i64 (IntKind.i64.wrap (p.Vars - 1)), .int .i64 p.Root, .int .i64 p.Phase, .slice B4 Terms.length c4, .slice none 0 0], 6⟩, ⟨B4, 56, (Terms.flatMap enc_Term), c4 * 2⟩, ⟨some ⟨b3, 0, none⟩, 56, [.int .i64 x.Mask, .int .i64 x.Coef], 2⟩, ⟨some ⟨b4, 0, none⟩, 56, ([(TTerm.mk r_1 x.Coef)].flatMap enc_Term), 1 * 2⟩] [⟨B, (p.Terms.flatMap enc_Term)⟩, ⟨B1, (p.Out.flatMap enc_Affine)⟩] := hS16
            refine ⟨(ST.sel hS16 [0, 1, 4] rfl rfl), ?_⟩
            refine ra_all (rs := [10]) (by kernel_rfl) rfl ?_
            refine ra_s 34 (i := 10) rfl rfl rfl (Ys_append (s := 2) (by' := 16) (i := 3) (nn := Terms.length) (c := c4) (k := 1) (len := (Terms ++ [(TTerm.mk r_1 x.Coef)]).length) (B := B4) (xs := ([(TTerm.mk r_1 x.Coef)].flatMap enc_Term)) (cs' := ((Terms ++ [(TTerm.mk r_1 x.Coef)]).flatMap enc_Term)) hS16 k_sl_27_56 k_sz_56_2 k_by_56_16 k_zero_56 rfl (by decide) rfl rfl rfl rfl (fm_lenn (l := Terms) enc_Term_len rfl) rfl (hS16.cf (i := 5) rfl) (fm_lenn (l := [(TTerm.mk r_1 x.Coef)]) enc_Term_len rfl) (fm_one' (enc := enc_Term) enc_Term_one [(TTerm.mk r_1 x.Coef)]) (by have := hap; omega) (by have := hap; simp only [maxLen]; omega) (fm_app _ _) (app_len (l := Terms) (l' := [(TTerm.mk r_1 x.Coef)]) rfl rfl)) ?_ ?_
            · rintro _ w_11 ⟨B5, c5, rfl, hS17⟩
              have hS17 : ST w0 [] _ [⟨some ⟨b, 0, none⟩, 30, [.int .i64 p.Ins, .int .i64 p.Vars, .int .i64 p.Root, .int .i64 p.Phase, .slice B p.Terms.length c, .slice B1 p.Out.length c1], 6⟩, ⟨some ⟨b1, 0, none⟩, 30, [.int .i64 0, .int .i64 0, .int .i64 0, .int .i64 0, .slice none 0 0, .slice none 0 0], 6⟩, ⟨some ⟨b2, 0, none⟩, 30, [.int .i64 p.Ins, .int .i64 (IntKind.i64.wrap (p.Vars - 1)), .int .i64 p.Root, .int .i64 p.Phase, .slice B4 Terms.length c4, .slice none 0 0], 6⟩, ⟨B5, 56, ((Terms ++ [(TTerm.mk r_1 x.Coef)]).flatMap enc_Term), c5 * 2⟩, ⟨some ⟨b3, 0, none⟩, 56, [.int .i64 x.Mask, .int .i64 x.Coef], 2⟩, ⟨some ⟨b4, 0, none⟩, 56, ([(TTerm.mk r_1 x.Coef)].flatMap enc_Term), 1 * 2⟩] [⟨B, (p.Terms.flatMap enc_Term)⟩, ⟨B1, (p.Out.flatMap enc_Affine)⟩] := hS17
              refine ⟨(ST.sel hS17 [0, 1, 4] rfl rfl), ?_⟩
              refine ra_q 11 35 (v := pt (some ⟨b2, 0, none⟩) 4) rfl rfl rfl (by kernel_rfl) (by kernel_rfl) (by kernel_rfl) (ST.sel hS17 [0, 1, 4] rfl rfl) (fun w' hw' => (Y_fieldAddr (B := some ⟨b2, 0, none⟩) (i := 0) (s := 0) k_fd_30_4_4_27 k_sz_27_1 rfl (hf.get 5 3 rfl))) ?_
              refine ra_all (rs := [12]) (by kernel_rfl) rfl ?_
              refine ra_s0 (i := 12) rfl rfl rfl (Ys_store (i := 2) (s := 1) (B := some ⟨b2, 0, none⟩) (T' := 30) (v := .slice B5 ((Terms ++ [(TTerm.mk r_1 x.Coef)]).length) c5) (vs := [.slice B5 ((Terms ++ [(TTerm.mk r_1 x.Coef)]).length) c5]) (k := 4) (cs' := [.int .i64 p.Ins, .int .i64 (IntKind.i64.wrap (p.Vars - 1)), .int .i64 p.Root, .int .i64 p.Phase, .slice B5 ((Terms ++ [(TTerm.mk r_1 x.Coef)]).length) c5, .slice none 0 0]) hS17 k_sz_27_1 rfl rfl rfl rfl rfl rfl rfl (Nat.le_of_ble_eq_true rfl) rfl rfl) ?_ ?_
              · rintro _ w_12 ⟨rfl, hS18⟩
                have hS18 : ST w0 [] _ [⟨some ⟨b, 0, none⟩, 30, [.int .i64 p.Ins, .int .i64 p.Vars, .int .i64 p.Root, .int .i64 p.Phase, .slice B p.Terms.length c, .slice B1 p.Out.length c1], 6⟩, ⟨some ⟨b1, 0, none⟩, 30, [.int .i64 0, .int .i64 0, .int .i64 0, .int .i64 0, .slice none 0 0, .slice none 0 0], 6⟩, ⟨some ⟨b2, 0, none⟩, 30, [.int .i64 p.Ins, .int .i64 (IntKind.i64.wrap (p.Vars - 1)), .int .i64 p.Root, .int .i64 p.Phase, .slice B5 ((Terms ++ [(TTerm.mk r_1 x.Coef)]).length) c5, .slice none 0 0], 6⟩, ⟨B5, 56, ((Terms ++ [(TTerm.mk r_1 x.Coef)]).flatMap enc_Term), c5 * 2⟩, ⟨some ⟨b3, 0, none⟩, 56, [.int .i64 x.Mask, .int .i64 x.Coef], 2⟩, ⟨some ⟨b4, 0, none⟩, 56, ([(TTerm.mk r_1 x.Coef)].flatMap enc_Term), 1 * 2⟩] [⟨B, (p.Terms.flatMap enc_Term)⟩, ⟨B1, (p.Out.flatMap enc_Affine)⟩] := hS18
                refine ⟨(ST.sel hS18 [0, 1, 4] rfl rfl), ?_⟩
                refine ra_done (by kernel_rfl) ?_
                exact ⟨B5, c5, (FF.cons (hf.get 1 0 rfl) (FF.cons (hf.get 2 1 rfl) (FF.cons (hf.get 4 2 rfl) (FF.cons (hf.get 5 3 rfl) (FF.cons (hf.get 18 4 rfl) (FF.cons (hf.get 19 5 rfl) (FF.cons (hf.get 20 6 rfl) FF.nil))))))), (hS18.sel [0, 1, 2, 3] rfl rfl)⟩
              exact allR_nil
            exact allR_nil
          exact allR_nil
        exact allR_nil
      refine ra_c 29 (i := 5) rfl rfl rfl (Yc_func (g := 53) (vs := [.int .i64 x.Mask, .int .i64 v_]) k_call_53 rfl (mc rfl (mc rfl mn)) (c_impl_dropped x.Mask v_ _  (hS14.inn0 [] rfl) hc)) ?_ ?_
      · rintro _ w_13 ⟨rfl, hd1⟩
        have hS19 := hS14.out00 hd1
        have hS19 : ST w0 [] _ [⟨some ⟨b, 0, none⟩, 30, [.int .i64 p.Ins, .int .i64 p.Vars, .int .i64 p.Root, .int .i64 p.Phase, .slice B p.Terms.length c, .slice B1 p.Out.length c1], 6⟩, ⟨some ⟨b1, 0, none⟩, 30, [.int .i64 0, .int .i64 0, .int .i64 0, .int .i64 0, .slice none 0 0, .slice none 0 0], 6⟩, ⟨some ⟨b2, 0, none⟩, 30, [.int .i64 p.Ins, .int .i64 (IntKind.i64.wrap (p.Vars - 1)), .int .i64 p.Root, .int .i64 p.Phase, .slice B4 Terms.length c4, .slice none 0 0], 6⟩, ⟨B4, 56, (Terms.flatMap enc_Term), c4 * 2⟩, ⟨some ⟨b3, 0, none⟩, 56, [.int .i64 x.Mask, .int .i64 x.Coef], 2⟩] [⟨B, (p.Terms.flatMap enc_Term)⟩, ⟨B1, (p.Out.flatMap enc_Affine)⟩] := hS19
        refine ⟨(ST.sel hS19 [0, 1, 4] rfl rfl), ?_⟩
        refine ra_q 8 32 (v := .agg #[.int .i64 r_1, .int .i64 x.Coef]) rfl rfl rfl (by kernel_rfl) (by kernel_rfl) (by kernel_rfl) (ST.sel hS19 [0, 1, 4] rfl rfl) (fun w' hw' => (Y_buildS (zs := [.int .i64 0, .int .i64 0]) (vs := [(0, .int .i64 r_1), (1, .int .i64 x.Coef)]) (cs := [.int .i64 r_1, .int .i64 x.Coef]) k_pl_56 k_zero_56 rfl (mpc rfl (mpc rfl mpn)) rfl)) ?_
        refine ra_all (rs := [1, 9]) (by kernel_rfl) rfl ?_
        refine ra_y 25 (i := 1) (v := .slice B4 Terms.length c4) rfl rfl rfl (Y_load1 (B := some ⟨b2, 0, none⟩) (i := 4) (cs := [.int .i64 p.Ins, .int .i64 (IntKind.i64.wrap (p.Vars - 1)), .int .i64 p.Root, .int .i64 p.Phase, .slice B4 Terms.length c4, .slice none 0 0]) (v := .slice B4 Terms.length c4) k_sc_27 rfl rfl (hS19.cf (i := 2) rfl) rfl) (ST.sel hS19 [0, 1, 4] rfl rfl) ?_ ?_
        · skip
          refine ra_all (rs := [9]) (by kernel_rfl) rfl ?_
          refine ra_s 33 (i := 9) rfl rfl rfl (Ys_bslice (s := 2) (len := 1) (vs := [(0, .agg #[.int .i64 r_1, .int .i64 x.Coef])]) (cs := [.int .i64 r_1, .int .i64 x.Coef]) (zs := [.int .i64 0, .int .i64 0]) (m := 2) hS19 k_sl_27_56 k_sz_56_2 k_zc_56 rfl (mpc rfl mpn) rfl rfl rfl (by kernel_rfl) (by kernel_rfl) rfl) ?_ ?_
          · rintro _ w_14 ⟨b4, rfl, hS20⟩
            have hS20 : ST w0 [] _ [⟨some ⟨b, 0, none⟩, 30, [.int .i64 p.Ins, .int .i64 p.Vars, .int .i64 p.Root, .int .i64 p.Phase, .slice B p.Terms.length c, .slice B1 p.Out.length c1], 6⟩, ⟨some ⟨b1, 0, none⟩, 30, [.int .i64 0, .int .i64 0, .int .i64 0, .int .i64 0, .slice none 0 0, .slice none 0 0], 6⟩, ⟨some ⟨b2, 0, none⟩, 30, [.int .i64 p.Ins, .int .i64 (IntKind.i64.wrap (p.Vars - 1)), .int .i64 p.Root, .int .i64 p.Phase, .slice B4 Terms.length c4, .slice none 0 0], 6⟩, ⟨B4, 56, (Terms.flatMap enc_Term), c4 * 2⟩, ⟨some ⟨b3, 0, none⟩, 56, [.int .i64 x.Mask, .int .i64 x.Coef], 2⟩, ⟨some ⟨b4, 0, none⟩, 56, ([(TTerm.mk r_1 x.Coef)].flatMap enc_Term), 1 * 2⟩] [⟨B, (p.Terms.flatMap enc_Term)⟩, ⟨B1, (p.Out.flatMap enc_Affine)⟩] := hS20
            refine ⟨(ST.sel hS20 [0, 1, 4] rfl rfl), ?_⟩
            refine ra_all (rs := [10]) (by kernel_rfl) rfl ?_
            refine ra_s 34 (i := 10) rfl rfl rfl (Ys_append (s := 2) (by' := 16) (i := 3) (nn := Terms.length) (c := c4) (k := 1) (len := (Terms ++ [(TTerm.mk r_1 x.Coef)]).length) (B := B4) (xs := ([(TTerm.mk r_1 x.Coef)].flatMap enc_Term)) (cs' := ((Terms ++ [(TTerm.mk r_1 x.Coef)]).flatMap enc_Term)) hS20 k_sl_27_56 k_sz_56_2 k_by_56_16 k_zero_56 rfl (by decide) rfl rfl rfl rfl (fm_lenn (l := Terms) enc_Term_len rfl) rfl (hS20.cf (i := 5) rfl) (fm_lenn (l := [(TTerm.mk r_1 x.Coef)]) enc_Term_len rfl) (fm_one' (enc := enc_Term) enc_Term_one [(TTerm.mk r_1 x.Coef)]) (by have := hap; omega) (by have := hap; simp only [maxLen]; omega) (fm_app _ _) (app_len (l := Terms) (l' := [(TTerm.mk r_1 x.Coef)]) rfl rfl)) ?_ ?_
            · rintro _ w_15 ⟨B5, c5, rfl, hS21⟩
              have hS21 : ST w0 [] _ [⟨some ⟨b, 0, none⟩, 30, [.int .i64 p.Ins, .int .i64 p.Vars, .int .i64 p.Root, .int .i64 p.Phase, .slice B p.Terms.length c, .slice B1 p.Out.length c1], 6⟩, ⟨some ⟨b1, 0, none⟩, 30, [.int .i64 0, .int .i64 0, .int .i64 0, .int .i64 0, .slice none 0 0, .slice none 0 0], 6⟩, ⟨some ⟨b2, 0, none⟩, 30, [.int .i64 p.Ins, .int .i64 (IntKind.i64.wrap (p.Vars - 1)), .int .i64 p.Root, .int .i64 p.Phase, .slice B4 Terms.length c4, .slice none 0 0], 6⟩, ⟨B5, 56, ((Terms ++ [(TTerm.mk r_1 x.Coef)]).flatMap enc_Term), c5 * 2⟩, ⟨some ⟨b3, 0, none⟩, 56, [.int .i64 x.Mask, .int .i64 x.Coef], 2⟩, ⟨some ⟨b4, 0, none⟩, 56, ([(TTerm.mk r_1 x.Coef)].flatMap enc_Term), 1 * 2⟩] [⟨B, (p.Terms.flatMap enc_Term)⟩, ⟨B1, (p.Out.flatMap enc_Affine)⟩] := hS21
              refine ⟨(ST.sel hS21 [0, 1, 4] rfl rfl), ?_⟩
              refine ra_q 11 35 (v := pt (some ⟨b2, 0, none⟩) 4) rfl rfl rfl (by kernel_rfl) (by kernel_rfl) (by kernel_rfl) (ST.sel hS21 [0, 1, 4] rfl rfl) (fun w' hw' => (Y_fieldAddr (B := some ⟨b2, 0, none⟩) (i := 0) (s := 0) k_fd_30_4_4_27 k_sz_27_1 rfl (hf.get 5 3 rfl))) ?_
              refine ra_all (rs := [12]) (by kernel_rfl) rfl ?_
              refine ra_s0 (i := 12) rfl rfl rfl (Ys_store (i := 2) (s := 1) (B := some ⟨b2, 0, none⟩) (T' := 30) (v := .slice B5 ((Terms ++ [(TTerm.mk r_1 x.Coef)]).length) c5) (vs := [.slice B5 ((Terms ++ [(TTerm.mk r_1 x.Coef)]).length) c5]) (k := 4) (cs' := [.int .i64 p.Ins, .int .i64 (IntKind.i64.wrap (p.Vars - 1)), .int .i64 p.Root, .int .i64 p.Phase, .slice B5 ((Terms ++ [(TTerm.mk r_1 x.Coef)]).length) c5, .slice none 0 0]) hS21 k_sz_27_1 rfl rfl rfl rfl rfl rfl rfl (Nat.le_of_ble_eq_true rfl) rfl rfl) ?_ ?_
              · rintro _ w_16 ⟨rfl, hS22⟩
                have hS22 : ST w0 [] _ [⟨some ⟨b, 0, none⟩, 30, [.int .i64 p.Ins, .int .i64 p.Vars, .int .i64 p.Root, .int .i64 p.Phase, .slice B p.Terms.length c, .slice B1 p.Out.length c1], 6⟩, ⟨some ⟨b1, 0, none⟩, 30, [.int .i64 0, .int .i64 0, .int .i64 0, .int .i64 0, .slice none 0 0, .slice none 0 0], 6⟩, ⟨some ⟨b2, 0, none⟩, 30, [.int .i64 p.Ins, .int .i64 (IntKind.i64.wrap (p.Vars - 1)), .int .i64 p.Root, .int .i64 p.Phase, .slice B5 ((Terms ++ [(TTerm.mk r_1 x.Coef)]).length) c5, .slice none 0 0], 6⟩, ⟨B5, 56, ((Terms ++ [(TTerm.mk r_1 x.Coef)]).flatMap enc_Term), c5 * 2⟩, ⟨some ⟨b3, 0, none⟩, 56, [.int .i64 x.Mask, .int .i64 x.Coef], 2⟩, ⟨some ⟨b4, 0, none⟩, 56, ([(TTerm.mk r_1 x.Coef)].flatMap enc_Term), 1 * 2⟩] [⟨B, (p.Terms.flatMap enc_Term)⟩, ⟨B1, (p.Out.flatMap enc_Affine)⟩] := hS22
                refine ⟨(ST.sel hS22 [0, 1, 4] rfl rfl), ?_⟩
                refine ra_done (by kernel_rfl) ?_
                exact ⟨B5, c5, (FF.cons (hf.get 1 0 rfl) (FF.cons (hf.get 2 1 rfl) (FF.cons (hf.get 4 2 rfl) (FF.cons (hf.get 5 3 rfl) (FF.cons (hf.get 18 4 rfl) (FF.cons (hf.get 19 5 rfl) (FF.cons (hf.get 20 6 rfl) FF.nil))))))), (hS22.sel [0, 1, 2, 3] rfl rfl)⟩
              exact allR_nil
            exact allR_nil
          exact allR_nil
        refine ra_s 33 (i := 9) rfl rfl rfl (Ys_bslice (s := 2) (len := 1) (vs := [(0, .agg #[.int .i64 r_1, .int .i64 x.Coef])]) (cs := [.int .i64 r_1, .int .i64 x.Coef]) (zs := [.int .i64 0, .int .i64 0]) (m := 2) hS19 k_sl_27_56 k_sz_56_2 k_zc_56 rfl (mpc rfl mpn) rfl rfl rfl (by kernel_rfl) (by kernel_rfl) rfl) ?_ ?_
        · rintro _ w_17 ⟨b4, rfl, hS23⟩
          have hS23 : ST w0 [] _ [⟨some ⟨b, 0, none⟩, 30, [.int .i64 p.Ins, .int .i64 p.Vars, .int .i64 p.Root, .int .i64 p.Phase, .slice B p.Terms.length c, .slice B1 p.Out.length c1], 6⟩, ⟨some ⟨b1, 0, none⟩, 30, [.int .i64 0, .int .i64 0, .int .i64 0, .int .i64 0, .slice none 0 0, .slice none 0 0], 6⟩, ⟨some ⟨b2, 0, none⟩, 30, [.int .i64 p.Ins, .int .i64 (IntKind.i64.wrap (p.Vars - 1)), .int .i64 p.Root, .int .i64 p.Phase, .slice B4 Terms.length c4, .slice none 0 0], 6⟩, ⟨B4, 56, (Terms.flatMap enc_Term), c4 * 2⟩, ⟨some ⟨b3, 0, none⟩, 56, [.int .i64 x.Mask, .int .i64 x.Coef], 2⟩, ⟨some ⟨b4, 0, none⟩, 56, ([(TTerm.mk r_1 x.Coef)].flatMap enc_Term), 1 * 2⟩] [⟨B, (p.Terms.flatMap enc_Term)⟩, ⟨B1, (p.Out.flatMap enc_Affine)⟩] := hS23
          refine ⟨(ST.sel hS23 [0, 1, 4] rfl rfl), ?_⟩
          refine ra_all (rs := [1]) (by kernel_rfl) rfl ?_
          refine ra_y 25 (i := 1) (v := .slice B4 Terms.length c4) rfl rfl rfl (Y_load1 (B := some ⟨b2, 0, none⟩) (i := 4) (cs := [.int .i64 p.Ins, .int .i64 (IntKind.i64.wrap (p.Vars - 1)), .int .i64 p.Root, .int .i64 p.Phase, .slice B4 Terms.length c4, .slice none 0 0]) (v := .slice B4 Terms.length c4) k_sc_27 rfl rfl (hS23.cf (i := 2) rfl) rfl) (ST.sel hS23 [0, 1, 4] rfl rfl) ?_ ?_
          · skip
            refine ra_all (rs := [10]) (by kernel_rfl) rfl ?_
            refine ra_s 34 (i := 10) rfl rfl rfl (Ys_append (s := 2) (by' := 16) (i := 3) (nn := Terms.length) (c := c4) (k := 1) (len := (Terms ++ [(TTerm.mk r_1 x.Coef)]).length) (B := B4) (xs := ([(TTerm.mk r_1 x.Coef)].flatMap enc_Term)) (cs' := ((Terms ++ [(TTerm.mk r_1 x.Coef)]).flatMap enc_Term)) hS23 k_sl_27_56 k_sz_56_2 k_by_56_16 k_zero_56 rfl (by decide) rfl rfl rfl rfl (fm_lenn (l := Terms) enc_Term_len rfl) rfl (hS23.cf (i := 5) rfl) (fm_lenn (l := [(TTerm.mk r_1 x.Coef)]) enc_Term_len rfl) (fm_one' (enc := enc_Term) enc_Term_one [(TTerm.mk r_1 x.Coef)]) (by have := hap; omega) (by have := hap; simp only [maxLen]; omega) (fm_app _ _) (app_len (l := Terms) (l' := [(TTerm.mk r_1 x.Coef)]) rfl rfl)) ?_ ?_
            · rintro _ w_18 ⟨B5, c5, rfl, hS24⟩
              have hS24 : ST w0 [] _ [⟨some ⟨b, 0, none⟩, 30, [.int .i64 p.Ins, .int .i64 p.Vars, .int .i64 p.Root, .int .i64 p.Phase, .slice B p.Terms.length c, .slice B1 p.Out.length c1], 6⟩, ⟨some ⟨b1, 0, none⟩, 30, [.int .i64 0, .int .i64 0, .int .i64 0, .int .i64 0, .slice none 0 0, .slice none 0 0], 6⟩, ⟨some ⟨b2, 0, none⟩, 30, [.int .i64 p.Ins, .int .i64 (IntKind.i64.wrap (p.Vars - 1)), .int .i64 p.Root, .int .i64 p.Phase, .slice B4 Terms.length c4, .slice none 0 0], 6⟩, ⟨B5, 56, ((Terms ++ [(TTerm.mk r_1 x.Coef)]).flatMap enc_Term), c5 * 2⟩, ⟨some ⟨b3, 0, none⟩, 56, [.int .i64 x.Mask, .int .i64 x.Coef], 2⟩, ⟨some ⟨b4, 0, none⟩, 56, ([(TTerm.mk r_1 x.Coef)].flatMap enc_Term), 1 * 2⟩] [⟨B, (p.Terms.flatMap enc_Term)⟩, ⟨B1, (p.Out.flatMap enc_Affine)⟩] := hS24
              refine ⟨(ST.sel hS24 [0, 1, 4] rfl rfl), ?_⟩
              refine ra_q 11 35 (v := pt (some ⟨b2, 0, none⟩) 4) rfl rfl rfl (by kernel_rfl) (by kernel_rfl) (by kernel_rfl) (ST.sel hS24 [0, 1, 4] rfl rfl) (fun w' hw' => (Y_fieldAddr (B := some ⟨b2, 0, none⟩) (i := 0) (s := 0) k_fd_30_4_4_27 k_sz_27_1 rfl (hf.get 5 3 rfl))) ?_
              refine ra_all (rs := [12]) (by kernel_rfl) rfl ?_
              refine ra_s0 (i := 12) rfl rfl rfl (Ys_store (i := 2) (s := 1) (B := some ⟨b2, 0, none⟩) (T' := 30) (v := .slice B5 ((Terms ++ [(TTerm.mk r_1 x.Coef)]).length) c5) (vs := [.slice B5 ((Terms ++ [(TTerm.mk r_1 x.Coef)]).length) c5]) (k := 4) (cs' := [.int .i64 p.Ins, .int .i64 (IntKind.i64.wrap (p.Vars - 1)), .int .i64 p.Root, .int .i64 p.Phase, .slice B5 ((Terms ++ [(TTerm.mk r_1 x.Coef)]).length) c5, .slice none 0 0]) hS24 k_sz_27_1 rfl rfl rfl rfl rfl rfl rfl (Nat.le_of_ble_eq_true rfl) rfl rfl) ?_ ?_
              · rintro _ w_19 ⟨rfl, hS25⟩
                have hS25 : ST w0 [] _ [⟨some ⟨b, 0, none⟩, 30, [.int .i64 p.Ins, .int .i64 p.Vars, .int .i64 p.Root, .int .i64 p.Phase, .slice B p.Terms.length c, .slice B1 p.Out.length c1], 6⟩, ⟨some ⟨b1, 0, none⟩, 30, [.int .i64 0, .int .i64 0, .int .i64 0, .int .i64 0, .slice none 0 0, .slice none 0 0], 6⟩, ⟨some ⟨b2, 0, none⟩, 30, [.int .i64 p.Ins, .int .i64 (IntKind.i64.wrap (p.Vars - 1)), .int .i64 p.Root, .int .i64 p.Phase, .slice B5 ((Terms ++ [(TTerm.mk r_1 x.Coef)]).length) c5, .slice none 0 0], 6⟩, ⟨B5, 56, ((Terms ++ [(TTerm.mk r_1 x.Coef)]).flatMap enc_Term), c5 * 2⟩, ⟨some ⟨b3, 0, none⟩, 56, [.int .i64 x.Mask, .int .i64 x.Coef], 2⟩, ⟨some ⟨b4, 0, none⟩, 56, ([(TTerm.mk r_1 x.Coef)].flatMap enc_Term), 1 * 2⟩] [⟨B, (p.Terms.flatMap enc_Term)⟩, ⟨B1, (p.Out.flatMap enc_Affine)⟩] := hS25
                refine ⟨(ST.sel hS25 [0, 1, 4] rfl rfl), ?_⟩
                refine ra_done (by kernel_rfl) ?_
                exact ⟨B5, c5, (FF.cons (hf.get 1 0 rfl) (FF.cons (hf.get 2 1 rfl) (FF.cons (hf.get 4 2 rfl) (FF.cons (hf.get 5 3 rfl) (FF.cons (hf.get 18 4 rfl) (FF.cons (hf.get 19 5 rfl) (FF.cons (hf.get 20 6 rfl) FF.nil))))))), (hS25.sel [0, 1, 2, 3] rfl rfl)⟩
              exact allR_nil
            exact allR_nil
          exact allR_nil
        exact allR_nil
      exact allR_nil
    rintro f w ⟨B6, c6, hf1, hS13⟩
    refine cw_region ?_
    refine sq 36 rfl rfl (Y_add (k := .i64) (a := t) (b := 1) rfl (hf1.get 20 6 rfl) rfl) ?_
    refine sq 20 rfl rfl (Y_move (v := .int .i64 (IntKind.i64.wrap (t + 1))) rfl rfl) ?_
    refine rw_nil ?_
    obtain rfl := some_inj hF2
    exact ⟨k_1, Nat.lt_succ_self _, (Terms ++ [(TTerm.mk r_1 x.Coef)]), (IntKind.i64.wrap (t + 1)), B6, c6, (FF.cons (hf1.get 1 0 rfl) (FF.cons (hf1.get 2 1 rfl) (FF.cons (hf1.get 4 2 rfl) (FF.cons (hf1.get 5 3 rfl) (FF.cons (hf1.get 18 4 rfl) (FF.cons (hf1.get 19 5 rfl) (FF.cons rfl FF.nil))))))), (hS13.sel [0, 1, 2, 3] rfl rfl), hL1⟩
  · skip
    have hF3 := cf' hb hb1
    refine cw_exit rfl ?_
    obtain rfl := some_inj hF3
    obtain rfl := some_inj hL1
    refine cw_seq ?_
    refine cw_seq ?_
    refine cw_region ?_
    refine sq 37 rfl rfl (Y_fieldAddr (B := some ⟨b, 0, none⟩) (i := 0) (s := 0) k_fd_30_5_5_28 k_sz_28_1 rfl (hf.get 2 1 rfl)) ?_
    refine sq 38 rfl rfl (Y_load1 (B := some ⟨b, 0, none⟩) (i := 5) (cs := [.int .i64 p.Ins, .int .i64 p.Vars, .int .i64 p.Root, .int .i64 p.Phase, .slice B p.Terms.length c, .slice B1 p.Out.length c1]) (v := .slice B1 p.Out.length c1) k_sc_28 rfl rfl (hS8.cf (i := 0) rfl) rfl) ?_
    refine sq 39 rfl rfl (Y_len (B := B1) (m := p.Out.length) (c := c1) k_sl_28_44 rfl rfl) ?_
    refine sq 40 rfl rfl (Y_move (v := .int .i64 0) rfl rfl) ?_
    refine rw_nil ?_
    obtain ⟨z1, hz1, hF4⟩ := bind_inv hF1
    have hS27 := hS8.addNil 44
    refine cw_block ?_
    refine cw_loop (fun k f w => ∃ (Out : List TAffine) (t1 : Int) (B7 : Option Addr) (c7 : Nat), FF f [(1, .int .i64 v_), (4, pt (some ⟨b1, 0, none⟩) 0), (5, pt (some ⟨b2, 0, none⟩) 0), (38, .slice B1 p.Out.length c1), (39, .int .i64 (p.Out.length : Int)), (40, .int .i64 t1)] ∧ ST w0 [] w [⟨some ⟨b1, 0, none⟩, 30, [.int .i64 0, .int .i64 0, .int .i64 0, .int .i64 0, .slice none 0 0, .slice none 0 0], 6⟩, ⟨some ⟨b2, 0, none⟩, 30, [.int .i64 p.Ins, .int .i64 (IntKind.i64.wrap (p.Vars - 1)), .int .i64 p.Root, .int .i64 p.Phase, .slice B4 Terms.length c4, .slice B7 Out.length c7], 6⟩, ⟨B4, 56, (Terms.flatMap enc_Term), c4 * 2⟩, ⟨B7, 44, (Out.flatMap enc_Affine), c7 * 2⟩] [⟨B, (p.Terms.flatMap enc_Term)⟩, ⟨B1, (p.Out.flatMap enc_Affine)⟩] ∧ whX (F_impl_PathSum_without_l2 p v_) k (Out, t1) = some z1) fuel ⟨[], 0, none, 0, (FF.cons (hf.get 1 0 rfl) (FF.cons (hf.get 4 2 rfl) (FF.cons (hf.get 5 3 rfl) (FF.cons rfl (FF.cons rfl (FF.cons rfl FF.nil)))))), (hS27.sel [1, 2, 3, 4] rfl rfl), hz1⟩ ?_
    rintro k_2 f w ⟨Out, t1, B7, c7, hf2, hS26, hL2⟩
    obtain ⟨k_3, y1, rfl, hb2, hL3⟩ := whX_go hL2
    unfold F_impl_PathSum_without_l2 at hb2
    refine cw_seq ?_
    refine cw_region ?_
    refine sq 41 rfl rfl (Y_lt (k := .i64) (a := t1) (b := (p.Out.length : Int)) rfl (hf2.get 40 5 rfl) (hf2.get 39 4 rfl)) ?_
    refine rw_nil ?_
    refine cw_seq ?_
    refine cw_cond (b := (decide (t1 < (p.Out.length : Int)))) rfl (fun hb3 => ?_) (fun hb3 => ?_)
    · skip
      have hF5 := ct hb2 hb3
      refine cw_skip ?_
      refine cw_seq ?_
      refine cw_block ?_
      refine cw_seq ?_
      refine cw_region ?_
      obtain ⟨x1, hx1, hF5⟩ := bind_inv hF5
      refine sq 42 rfl rfl (Y_index (B := B1) (m := p.Out.length) (c := c1) (k := .i64) (i := t1) k_sl_28_44 k_sz_44_2 rfl (hf2.get 38 3 rfl) (hf2.get 40 5 rfl) (gi_isSome enc_Affine_len rfl (hS26.rf (i := 1) rfl) hx1) (getI_nn hx1) (getI_ltI hx1 rfl)) ?_
      refine sq 43 rfl rfl (Y_loadA (B := B1) (i := t1.toNat * 2) (cs := (p.Out.flatMap enc_Affine)) (vs := [.int .i64 x1.Mask, .int .i64 x1.Turn]) k_ag_44 k_sz_44_2 rfl rfl (hS26.rf (i := 1) rfl) (enc_Affine_len x1) (gi_seg enc_Affine_len hx1)) ?_
      refine ss 9 rfl rfl (Ys_alloc (T := 44) (cs := [.int .i64 0, .int .i64 0]) (m := 2) hS26 k_zero_44 rfl rfl rfl) ?_
      rintro _ w_20 ⟨b5, rfl, hS28⟩
      have hS28 : ST w0 [] _ [⟨some ⟨b1, 0, none⟩, 30, [.int .i64 0, .int .i64 0, .int .i64 0, .int .i64 0, .slice none 0 0, .slice none 0 0], 6⟩, ⟨some ⟨b2, 0, none⟩, 30, [.int .i64 p.Ins, .int .i64 (IntKind.i64.wrap (p.Vars - 1)), .int .i64 p.Root, .int .i64 p.Phase, .slice B4 Terms.length c4, .slice B7 Out.length c7], 6⟩, ⟨B4, 56, (Terms.flatMap enc_Term), c4 * 2⟩, ⟨B7, 44, (Out.flatMap enc_Affine), c7 * 2⟩, ⟨some ⟨b5, 0, none⟩, 44, [.int .i64 0, .int .i64 0], 2⟩] [⟨B, (p.Terms.flatMap enc_Term)⟩, ⟨B1, (p.Out.flatMap enc_Affine)⟩] := hS28
      refine ss0 rfl rfl (Ys_store (i := 4) (s := 2) (B := some ⟨b5, 0, none⟩) (T' := 44) (v := .agg #[.int .i64 x1.Mask, .int .i64 x1.Turn]) (vs := [.int .i64 x1.Mask, .int .i64 x1.Turn]) (k := 0) (cs' := [.int .i64 x1.Mask, .int .i64 x1.Turn]) hS28 k_sz_44_2 rfl rfl rfl rfl rfl rfl rfl (Nat.le_of_ble_eq_true rfl) rfl rfl) ?_
      rintro _ w_21 ⟨rfl, hS29⟩
      have hS29 : ST w0 [] _ [⟨some ⟨b1, 0, none⟩, 30, [.int .i64 0, .int .i64 0, .int .i64 0, .int .i64 0, .slice none 0 0, .slice none 0 0], 6⟩, ⟨some ⟨b2, 0, none⟩, 30, [.int .i64 p.Ins, .int .i64 (IntKind.i64.wrap (p.Vars - 1)), .int .i64 p.Root, .int .i64 p.Phase, .slice B4 Terms.length c4, .slice B7 Out.length c7], 6⟩, ⟨B4, 56, (Terms.flatMap enc_Term), c4 * 2⟩, ⟨B7, 44, (Out.flatMap enc_Affine), c7 * 2⟩, ⟨some ⟨b5, 0, none⟩, 44, [.int .i64 x1.Mask, .int .i64 x1.Turn], 2⟩] [⟨B, (p.Terms.flatMap enc_Term)⟩, ⟨B1, (p.Out.flatMap enc_Affine)⟩] := hS29
      refine rw_nil ?_
      obtain ⟨r_2, hc1, hF5⟩ := bind_inv hF5
      obtain ⟨hap1, hF5⟩ := chk_inv hF5
      refine cw_mid (fun f w => ∃ (B9 : Option Addr) (c9 : Nat), FF f [(1, .int .i64 v_), (4, pt (some ⟨b1, 0, none⟩) 0), (5, pt (some ⟨b2, 0, none⟩) 0), (38, .slice B1 p.Out.length c1), (39, .int .i64 (p.Out.length : Int)), (40, .int .i64 t1)] ∧ ST w0 [] w [⟨some ⟨b1, 0, none⟩, 30, [.int .i64 0, .int .i64 0, .int .i64 0, .int .i64 0, .slice none 0 0, .slice none 0 0], 6⟩, ⟨some ⟨b2, 0, none⟩, 30, [.int .i64 p.Ins, .int .i64 (IntKind.i64.wrap (p.Vars - 1)), .int .i64 p.Root, .int .i64 p.Phase, .slice B4 Terms.length c4, .slice B9 ((Out ++ [(TAffine.mk r_2 x1.Turn)]).length) c9], 6⟩, ⟨B4, 56, (Terms.flatMap enc_Term), c4 * 2⟩, ⟨B9, 44, ((Out ++ [(TAffine.mk r_2 x1.Turn)]).flatMap enc_Affine), c9 * 2⟩] [⟨B, (p.Terms.flatMap enc_Term)⟩, ⟨B1, (p.Out.flatMap enc_Affine)⟩]) ?_ ?_
      · skip
        refine ra_start (ST.sel hS29 [0, 2, 4] rfl rfl).fn (by kernel_rfl) ?_
        have hS32 := hS29.drew
        refine ra_q 0 44 (v := pt (some ⟨b2, 0, none⟩) 5) rfl rfl rfl (by kernel_rfl) (by kernel_rfl) (by kernel_rfl) (ST.sel hS32 [0, 2, 4] rfl rfl) (fun w' hw' => (Y_fieldAddr (B := some ⟨b2, 0, none⟩) (i := 0) (s := 0) k_fd_30_5_5_28 k_sz_28_1 rfl (hf2.get 5 2 rfl))) ?_
        refine ra_q 2 46 (v := pt (some ⟨b5, 0, none⟩) 0) rfl rfl rfl (by kernel_rfl) (by kernel_rfl) (by kernel_rfl) (ST.sel hS32 [0, 2, 4] rfl rfl) (fun w' hw' => (Y_fieldAddr (B := some ⟨b5, 0, none⟩) (i := 0) (s := 0) k_fd_44_0_0_3 k_sz_3_1 rfl rfl)) ?_
        refine ra_q 3 47 (v := .int .i64 x1.Mask) rfl rfl rfl (by kernel_rfl) (by kernel_rfl) (by kernel_rfl) (ST.sel hS32 [0, 2, 4] rfl rfl) (fun w' hw' => (Y_load1 (B := some ⟨b5, 0, none⟩) (i := 0) (cs := [.int .i64 x1.Mask, .int .i64 x1.Turn]) (v := .int .i64 x1.Mask) k_sc_3 rfl rfl (ST.cf hw' (i := 2) rfl) rfl)) ?_
        refine ra_q 4 48 (v := .int .i64 v_) rfl rfl rfl (by kernel_rfl) (by kernel_rfl) (by kernel_rfl) (ST.sel hS32 [0, 2, 4] rfl rfl) (fun w' hw' => (Y_move (v := .int .i64 v_) rfl (hf2.get 1 0 rfl))) ?_
        refine ra_q 6 50 (v := pt (some ⟨b5, 0, none⟩) 1) rfl rfl rfl (by kernel_rfl) (by kernel_rfl) (by kernel_rfl) (ST.sel hS32 [0, 2, 4] rfl rfl) (fun w' hw' => (Y_fieldAddr (B := some ⟨b5, 0, none⟩) (i := 0) (s := 0) k_fd_44_1_1_3 k_sz_3_1 rfl rfl)) ?_
        refine ra_q 7 51 (v := .int .i64 x1.Turn) rfl rfl rfl (by kernel_rfl) (by kernel_rfl) (by kernel_rfl) (ST.sel hS32 [0, 2, 4] rfl rfl) (fun w' hw' => (Y_load1 (B := some ⟨b5, 0, none⟩) (i := 1) (cs := [.int .i64 x1.Mask, .int .i64 x1.Turn]) (v := .int .i64 x1.Turn) k_sc_3 rfl rfl (ST.cf hw' (i := 2) rfl) rfl)) ?_
        refine ra_all (rs := [1, 5]) (by kernel_rfl) rfl ?_
        refine ra_y 45 (i := 1) (v := .slice B7 Out.length c7) rfl rfl rfl (Y_load1 (B := some ⟨b2, 0, none⟩) (i := 5) (cs := [.int .i64 p.Ins, .int .i64 (IntKind.i64.wrap (p.Vars - 1)), .int .i64 p.Root, .int .i64 p.Phase, .slice B4 Terms.length c4, .slice B7 Out.length c7]) (v := .slice B7 Out.length c7) k_sc_28 rfl rfl (hS32.cf (i := 1) rfl) rfl) (ST.sel hS32 [0, 2, 4] rfl rfl) ?_ ?_
        · skip
          refine ra_all (rs := [5]) (by kernel_rfl) rfl ?_
          refine ra_c 49 (i := 5) rfl rfl rfl (Yc_func (g := 53) (vs := [.int .i64 x1.Mask, .int .i64 v_]) k_call_53 rfl (mc rfl (mc rfl mn)) (c_impl_dropped x1.Mask v_ _  (hS32.inn0 [] rfl) hc1)) ?_ ?_
          · rintro _ w_22 ⟨rfl, hd2⟩
            have hS33 := hS32.out00 hd2
            have hS33 : ST w0 [] _ [⟨some ⟨b1, 0, none⟩, 30, [.int .i64 0, .int .i64 0, .int .i64 0, .int .i64 0, .slice none 0 0, .slice none 0 0], 6⟩, ⟨some ⟨b2, 0, none⟩, 30, [.int .i64 p.Ins, .int .i64 (IntKind.i64.wrap (p.Vars - 1)), .int .i64 p.Root, .int .i64 p.Phase, .slice B4 Terms.length c4, .slice B7 Out.length c7], 6⟩, ⟨B4, 56, (Terms.flatMap enc_Term), c4 * 2⟩, ⟨B7, 44, (Out.flatMap enc_Affine), c7 * 2⟩, ⟨some ⟨b5, 0, none⟩, 44, [.int .i64 x1.Mask, .int .i64 x1.Turn], 2⟩] [⟨B, (p.Terms.flatMap enc_Term)⟩, ⟨B1, (p.Out.flatMap enc_Affine)⟩] := hS33
            refine ⟨(ST.sel hS33 [0, 2, 4] rfl rfl), ?_⟩
            refine ra_q 8 52 (v := .agg #[.int .i64 r_2, .int .i64 x1.Turn]) rfl rfl rfl (by kernel_rfl) (by kernel_rfl) (by kernel_rfl) (ST.sel hS33 [0, 2, 4] rfl rfl) (fun w' hw' => (Y_buildS (zs := [.int .i64 0, .int .i64 0]) (vs := [(0, .int .i64 r_2), (1, .int .i64 x1.Turn)]) (cs := [.int .i64 r_2, .int .i64 x1.Turn]) k_pl_44 k_zero_44 rfl (mpc rfl (mpc rfl mpn)) rfl)) ?_
            refine ra_all (rs := [9]) (by kernel_rfl) rfl ?_
            refine ra_s 53 (i := 9) rfl rfl rfl (Ys_bslice (s := 2) (len := 1) (vs := [(0, .agg #[.int .i64 r_2, .int .i64 x1.Turn])]) (cs := [.int .i64 r_2, .int .i64 x1.Turn]) (zs := [.int .i64 0, .int .i64 0]) (m := 2) hS33 k_sl_28_44 k_sz_44_2 k_zc_44 rfl (mpc rfl mpn) rfl rfl rfl (by kernel_rfl) (by kernel_rfl) rfl) ?_ ?_
            · rintro _ w_23 ⟨b6, rfl, hS34⟩
              have hS34 : ST w0 [] _ [⟨some ⟨b1, 0, none⟩, 30, [.int .i64 0, .int .i64 0, .int .i64 0, .int .i64 0, .slice none 0 0, .slice none 0 0], 6⟩, ⟨some ⟨b2, 0, none⟩, 30, [.int .i64 p.Ins, .int .i64 (IntKind.i64.wrap (p.Vars - 1)), .int .i64 p.Root, .int .i64 p.Phase, .slice B4 Terms.length c4, .slice B7 Out.length c7], 6⟩, ⟨B4, 56, (Terms.flatMap enc_Term), c4 * 2⟩, ⟨B7, 44, (Out.flatMap enc_Affine), c7 * 2⟩, ⟨some ⟨b5, 0, none⟩, 44, [.int .i64 x1.Mask, .int .i64 x1.Turn], 2⟩, ⟨some ⟨b6, 0, none⟩, 44, ([(TAffine.mk r_2 x1.Turn)].flatMap enc_Affine), 1 * 2⟩] [⟨B, (p.Terms.flatMap enc_Term)⟩, ⟨B1, (p.Out.flatMap enc_Affine)⟩] := hS34
              refine ⟨(ST.sel hS34 [0, 2, 4] rfl rfl), ?_⟩
              refine ra_all (rs := [10]) (by kernel_rfl) rfl ?_
              refine ra_s 54 (i := 10) rfl rfl rfl (Ys_append (s := 2) (by' := 16) (i := 3) (nn := Out.length) (c := c7) (k := 1) (len := (Out ++ [(TAffine.mk r_2 x1.Turn)]).length) (B := B7) (xs := ([(TAffine.mk r_2 x1.Turn)].flatMap enc_Affine)) (cs' := ((Out ++ [(TAffine.mk r_2 x1.Turn)]).flatMap enc_Affine)) hS34 k_sl_28_44 k_sz_44_2 k_by_44_16 k_zero_44 rfl (by decide) rfl rfl rfl rfl (fm_lenn (l := Out) enc_Affine_len rfl) rfl (hS34.cf (i := 5) rfl) (fm_lenn (l := [(TAffine.mk r_2 x1.Turn)]) enc_Affine_len rfl) (fm_one' (enc := enc_Affine) enc_Affine_one [(TAffine.mk r_2 x1.Turn)]) (by have := hap1; omega) (by have := hap1; simp only [maxLen]; omega) (fm_app _ _) (app_len (l := Out) (l' := [(TAffine.mk r_2 x1.Turn)]) rfl rfl)) ?_ ?_
              · rintro _ w_24 ⟨B8, c8, rfl, hS35⟩
                have hS35 : ST w0 [] _ [⟨some ⟨b1, 0, none⟩, 30, [.int .i64 0, .int .i64 0, .int .i64 0, .int .i64 0, .slice none 0 0, .slice none 0 0], 6⟩, ⟨some ⟨b2, 0, none⟩, 30, [.int .i64 p.Ins, .int .i64 (IntKind.i64.wrap (p.Vars - 1)), .int .i64 p.Root, .int .i64 p.Phase, .slice B4 Terms.length c4, .slice B7 Out.length c7], 6⟩, ⟨B4, 56, (Terms.flatMap enc_Term), c4 * 2⟩, ⟨B8, 44, ((Out ++ [(TAffine.mk r_2 x1.Turn)]).flatMap enc_Affine), c8 * 2⟩, ⟨some ⟨b5, 0, none⟩, 44, [.int .i64 x1.Mask, .int .i64 x1.Turn], 2⟩, ⟨some ⟨b6, 0, none⟩, 44, ([(TAffine.mk r_2 x1.Turn)].flatMap enc_Affine), 1 * 2⟩] [⟨B, (p.Terms.flatMap enc_Term)⟩, ⟨B1, (p.Out.flatMap enc_Affine)⟩] := hS35
                refine ⟨(ST.sel hS35 [0, 2, 4] rfl rfl), ?_⟩
                refine ra_q 11 55 (v := pt (some ⟨b2, 0, none⟩) 5) rfl rfl rfl (by kernel_rfl) (by kernel_rfl) (by kernel_rfl) (ST.sel hS35 [0, 2, 4] rfl rfl) (fun w' hw' => (Y_fieldAddr (B := some ⟨b2, 0, none⟩) (i := 0) (s := 0) k_fd_30_5_5_28 k_sz_28_1 rfl (hf2.get 5 2 rfl))) ?_
                refine ra_all (rs := [12]) (by kernel_rfl) rfl ?_
                refine ra_s0 (i := 12) rfl rfl rfl (Ys_store (i := 1) (s := 1) (B := some ⟨b2, 0, none⟩) (T' := 30) (v := .slice B8 ((Out ++ [(TAffine.mk r_2 x1.Turn)]).length) c8) (vs := [.slice B8 ((Out ++ [(TAffine.mk r_2 x1.Turn)]).length) c8]) (k := 5) (cs' := [.int .i64 p.Ins, .int .i64 (IntKind.i64.wrap (p.Vars - 1)), .int .i64 p.Root, .int .i64 p.Phase, .slice B4 Terms.length c4, .slice B8 ((Out ++ [(TAffine.mk r_2 x1.Turn)]).length) c8]) hS35 k_sz_28_1 rfl rfl rfl rfl rfl rfl rfl (Nat.le_of_ble_eq_true rfl) rfl rfl) ?_ ?_
                · rintro _ w_25 ⟨rfl, hS36⟩
                  have hS36 : ST w0 [] _ [⟨some ⟨b1, 0, none⟩, 30, [.int .i64 0, .int .i64 0, .int .i64 0, .int .i64 0, .slice none 0 0, .slice none 0 0], 6⟩, ⟨some ⟨b2, 0, none⟩, 30, [.int .i64 p.Ins, .int .i64 (IntKind.i64.wrap (p.Vars - 1)), .int .i64 p.Root, .int .i64 p.Phase, .slice B4 Terms.length c4, .slice B8 ((Out ++ [(TAffine.mk r_2 x1.Turn)]).length) c8], 6⟩, ⟨B4, 56, (Terms.flatMap enc_Term), c4 * 2⟩, ⟨B8, 44, ((Out ++ [(TAffine.mk r_2 x1.Turn)]).flatMap enc_Affine), c8 * 2⟩, ⟨some ⟨b5, 0, none⟩, 44, [.int .i64 x1.Mask, .int .i64 x1.Turn], 2⟩, ⟨some ⟨b6, 0, none⟩, 44, ([(TAffine.mk r_2 x1.Turn)].flatMap enc_Affine), 1 * 2⟩] [⟨B, (p.Terms.flatMap enc_Term)⟩, ⟨B1, (p.Out.flatMap enc_Affine)⟩] := hS36
                  refine ⟨(ST.sel hS36 [0, 2, 4] rfl rfl), ?_⟩
                  refine ra_done (by kernel_rfl) ?_
                  exact ⟨B8, c8, (FF.cons (hf2.get 1 0 rfl) (FF.cons (hf2.get 4 1 rfl) (FF.cons (hf2.get 5 2 rfl) (FF.cons (hf2.get 38 3 rfl) (FF.cons (hf2.get 39 4 rfl) (FF.cons (hf2.get 40 5 rfl) FF.nil)))))), (hS36.sel [0, 1, 2, 3] rfl rfl)⟩
                exact allR_nil
              exact allR_nil
            exact allR_nil
          exact allR_nil
        refine ra_c 49 (i := 5) rfl rfl rfl (Yc_func (g := 53) (vs := [.int .i64 x1.Mask, .int .i64 v_]) k_call_53 rfl (mc rfl (mc rfl mn)) (c_impl_dropped x1.Mask v_ _  (hS32.inn0 [] rfl) hc1)) ?_ ?_
        · rintro _ w_26 ⟨rfl, hd3⟩
          have hS37 := hS32.out00 hd3
          have hS37 : ST w0 [] _ [⟨some ⟨b1, 0, none⟩, 30, [.int .i64 0, .int .i64 0, .int .i64 0, .int .i64 0, .slice none 0 0, .slice none 0 0], 6⟩, ⟨some ⟨b2, 0, none⟩, 30, [.int .i64 p.Ins, .int .i64 (IntKind.i64.wrap (p.Vars - 1)), .int .i64 p.Root, .int .i64 p.Phase, .slice B4 Terms.length c4, .slice B7 Out.length c7], 6⟩, ⟨B4, 56, (Terms.flatMap enc_Term), c4 * 2⟩, ⟨B7, 44, (Out.flatMap enc_Affine), c7 * 2⟩, ⟨some ⟨b5, 0, none⟩, 44, [.int .i64 x1.Mask, .int .i64 x1.Turn], 2⟩] [⟨B, (p.Terms.flatMap enc_Term)⟩, ⟨B1, (p.Out.flatMap enc_Affine)⟩] := hS37
          refine ⟨(ST.sel hS37 [0, 2, 4] rfl rfl), ?_⟩
          refine ra_q 8 52 (v := .agg #[.int .i64 r_2, .int .i64 x1.Turn]) rfl rfl rfl (by kernel_rfl) (by kernel_rfl) (by kernel_rfl) (ST.sel hS37 [0, 2, 4] rfl rfl) (fun w' hw' => (Y_buildS (zs := [.int .i64 0, .int .i64 0]) (vs := [(0, .int .i64 r_2), (1, .int .i64 x1.Turn)]) (cs := [.int .i64 r_2, .int .i64 x1.Turn]) k_pl_44 k_zero_44 rfl (mpc rfl (mpc rfl mpn)) rfl)) ?_
          refine ra_all (rs := [1, 9]) (by kernel_rfl) rfl ?_
          refine ra_y 45 (i := 1) (v := .slice B7 Out.length c7) rfl rfl rfl (Y_load1 (B := some ⟨b2, 0, none⟩) (i := 5) (cs := [.int .i64 p.Ins, .int .i64 (IntKind.i64.wrap (p.Vars - 1)), .int .i64 p.Root, .int .i64 p.Phase, .slice B4 Terms.length c4, .slice B7 Out.length c7]) (v := .slice B7 Out.length c7) k_sc_28 rfl rfl (hS37.cf (i := 1) rfl) rfl) (ST.sel hS37 [0, 2, 4] rfl rfl) ?_ ?_
          · skip
            refine ra_all (rs := [9]) (by kernel_rfl) rfl ?_
            refine ra_s 53 (i := 9) rfl rfl rfl (Ys_bslice (s := 2) (len := 1) (vs := [(0, .agg #[.int .i64 r_2, .int .i64 x1.Turn])]) (cs := [.int .i64 r_2, .int .i64 x1.Turn]) (zs := [.int .i64 0, .int .i64 0]) (m := 2) hS37 k_sl_28_44 k_sz_44_2 k_zc_44 rfl (mpc rfl mpn) rfl rfl rfl (by kernel_rfl) (by kernel_rfl) rfl) ?_ ?_
            · rintro _ w_27 ⟨b6, rfl, hS38⟩
              have hS38 : ST w0 [] _ [⟨some ⟨b1, 0, none⟩, 30, [.int .i64 0, .int .i64 0, .int .i64 0, .int .i64 0, .slice none 0 0, .slice none 0 0], 6⟩, ⟨some ⟨b2, 0, none⟩, 30, [.int .i64 p.Ins, .int .i64 (IntKind.i64.wrap (p.Vars - 1)), .int .i64 p.Root, .int .i64 p.Phase, .slice B4 Terms.length c4, .slice B7 Out.length c7], 6⟩, ⟨B4, 56, (Terms.flatMap enc_Term), c4 * 2⟩, ⟨B7, 44, (Out.flatMap enc_Affine), c7 * 2⟩, ⟨some ⟨b5, 0, none⟩, 44, [.int .i64 x1.Mask, .int .i64 x1.Turn], 2⟩, ⟨some ⟨b6, 0, none⟩, 44, ([(TAffine.mk r_2 x1.Turn)].flatMap enc_Affine), 1 * 2⟩] [⟨B, (p.Terms.flatMap enc_Term)⟩, ⟨B1, (p.Out.flatMap enc_Affine)⟩] := hS38
              refine ⟨(ST.sel hS38 [0, 2, 4] rfl rfl), ?_⟩
              refine ra_all (rs := [10]) (by kernel_rfl) rfl ?_
              refine ra_s 54 (i := 10) rfl rfl rfl (Ys_append (s := 2) (by' := 16) (i := 3) (nn := Out.length) (c := c7) (k := 1) (len := (Out ++ [(TAffine.mk r_2 x1.Turn)]).length) (B := B7) (xs := ([(TAffine.mk r_2 x1.Turn)].flatMap enc_Affine)) (cs' := ((Out ++ [(TAffine.mk r_2 x1.Turn)]).flatMap enc_Affine)) hS38 k_sl_28_44 k_sz_44_2 k_by_44_16 k_zero_44 rfl (by decide) rfl rfl rfl rfl (fm_lenn (l := Out) enc_Affine_len rfl) rfl (hS38.cf (i := 5) rfl) (fm_lenn (l := [(TAffine.mk r_2 x1.Turn)]) enc_Affine_len rfl) (fm_one' (enc := enc_Affine) enc_Affine_one [(TAffine.mk r_2 x1.Turn)]) (by have := hap1; omega) (by have := hap1; simp only [maxLen]; omega) (fm_app _ _) (app_len (l := Out) (l' := [(TAffine.mk r_2 x1.Turn)]) rfl rfl)) ?_ ?_
              · rintro _ w_28 ⟨B8, c8, rfl, hS39⟩
                have hS39 : ST w0 [] _ [⟨some ⟨b1, 0, none⟩, 30, [.int .i64 0, .int .i64 0, .int .i64 0, .int .i64 0, .slice none 0 0, .slice none 0 0], 6⟩, ⟨some ⟨b2, 0, none⟩, 30, [.int .i64 p.Ins, .int .i64 (IntKind.i64.wrap (p.Vars - 1)), .int .i64 p.Root, .int .i64 p.Phase, .slice B4 Terms.length c4, .slice B7 Out.length c7], 6⟩, ⟨B4, 56, (Terms.flatMap enc_Term), c4 * 2⟩, ⟨B8, 44, ((Out ++ [(TAffine.mk r_2 x1.Turn)]).flatMap enc_Affine), c8 * 2⟩, ⟨some ⟨b5, 0, none⟩, 44, [.int .i64 x1.Mask, .int .i64 x1.Turn], 2⟩, ⟨some ⟨b6, 0, none⟩, 44, ([(TAffine.mk r_2 x1.Turn)].flatMap enc_Affine), 1 * 2⟩] [⟨B, (p.Terms.flatMap enc_Term)⟩, ⟨B1, (p.Out.flatMap enc_Affine)⟩] := hS39
                refine ⟨(ST.sel hS39 [0, 2, 4] rfl rfl), ?_⟩
                refine ra_q 11 55 (v := pt (some ⟨b2, 0, none⟩) 5) rfl rfl rfl (by kernel_rfl) (by kernel_rfl) (by kernel_rfl) (ST.sel hS39 [0, 2, 4] rfl rfl) (fun w' hw' => (Y_fieldAddr (B := some ⟨b2, 0, none⟩) (i := 0) (s := 0) k_fd_30_5_5_28 k_sz_28_1 rfl (hf2.get 5 2 rfl))) ?_
                refine ra_all (rs := [12]) (by kernel_rfl) rfl ?_
                refine ra_s0 (i := 12) rfl rfl rfl (Ys_store (i := 1) (s := 1) (B := some ⟨b2, 0, none⟩) (T' := 30) (v := .slice B8 ((Out ++ [(TAffine.mk r_2 x1.Turn)]).length) c8) (vs := [.slice B8 ((Out ++ [(TAffine.mk r_2 x1.Turn)]).length) c8]) (k := 5) (cs' := [.int .i64 p.Ins, .int .i64 (IntKind.i64.wrap (p.Vars - 1)), .int .i64 p.Root, .int .i64 p.Phase, .slice B4 Terms.length c4, .slice B8 ((Out ++ [(TAffine.mk r_2 x1.Turn)]).length) c8]) hS39 k_sz_28_1 rfl rfl rfl rfl rfl rfl rfl (Nat.le_of_ble_eq_true rfl) rfl rfl) ?_ ?_
                · rintro _ w_29 ⟨rfl, hS40⟩
                  have hS40 : ST w0 [] _ [⟨some ⟨b1, 0, none⟩, 30, [.int .i64 0, .int .i64 0, .int .i64 0, .int .i64 0, .slice none 0 0, .slice none 0 0], 6⟩, ⟨some ⟨b2, 0, none⟩, 30, [.int .i64 p.Ins, .int .i64 (IntKind.i64.wrap (p.Vars - 1)), .int .i64 p.Root, .int .i64 p.Phase, .slice B4 Terms.length c4, .slice B8 ((Out ++ [(TAffine.mk r_2 x1.Turn)]).length) c8], 6⟩, ⟨B4, 56, (Terms.flatMap enc_Term), c4 * 2⟩, ⟨B8, 44, ((Out ++ [(TAffine.mk r_2 x1.Turn)]).flatMap enc_Affine), c8 * 2⟩, ⟨some ⟨b5, 0, none⟩, 44, [.int .i64 x1.Mask, .int .i64 x1.Turn], 2⟩, ⟨some ⟨b6, 0, none⟩, 44, ([(TAffine.mk r_2 x1.Turn)].flatMap enc_Affine), 1 * 2⟩] [⟨B, (p.Terms.flatMap enc_Term)⟩, ⟨B1, (p.Out.flatMap enc_Affine)⟩] := hS40
                  refine ⟨(ST.sel hS40 [0, 2, 4] rfl rfl), ?_⟩
                  refine ra_done (by kernel_rfl) ?_
                  exact ⟨B8, c8, (FF.cons (hf2.get 1 0 rfl) (FF.cons (hf2.get 4 1 rfl) (FF.cons (hf2.get 5 2 rfl) (FF.cons (hf2.get 38 3 rfl) (FF.cons (hf2.get 39 4 rfl) (FF.cons (hf2.get 40 5 rfl) FF.nil)))))), (hS40.sel [0, 1, 2, 3] rfl rfl)⟩
                exact allR_nil
              exact allR_nil
            exact allR_nil
          refine ra_s 53 (i := 9) rfl rfl rfl (Ys_bslice (s := 2) (len := 1) (vs := [(0, .agg #[.int .i64 r_2, .int .i64 x1.Turn])]) (cs := [.int .i64 r_2, .int .i64 x1.Turn]) (zs := [.int .i64 0, .int .i64 0]) (m := 2) hS37 k_sl_28_44 k_sz_44_2 k_zc_44 rfl (mpc rfl mpn) rfl rfl rfl (by kernel_rfl) (by kernel_rfl) rfl) ?_ ?_
          · rintro _ w_30 ⟨b6, rfl, hS41⟩
            have hS41 : ST w0 [] _ [⟨some ⟨b1, 0, none⟩, 30, [.int .i64 0, .int .i64 0, .int .i64 0, .int .i64 0, .slice none 0 0, .slice none 0 0], 6⟩, ⟨some ⟨b2, 0, none⟩, 30, [.int .i64 p.Ins, .int .i64 (IntKind.i64.wrap (p.Vars - 1)), .int .i64 p.Root, .int .i64 p.Phase, .slice B4 Terms.length c4, .slice B7 Out.length c7], 6⟩, ⟨B4, 56, (Terms.flatMap enc_Term), c4 * 2⟩, ⟨B7, 44, (Out.flatMap enc_Affine), c7 * 2⟩, ⟨some ⟨b5, 0, none⟩, 44, [.int .i64 x1.Mask, .int .i64 x1.Turn], 2⟩, ⟨some ⟨b6, 0, none⟩, 44, ([(TAffine.mk r_2 x1.Turn)].flatMap enc_Affine), 1 * 2⟩] [⟨B, (p.Terms.flatMap enc_Term)⟩, ⟨B1, (p.Out.flatMap enc_Affine)⟩] := hS41
            refine ⟨(ST.sel hS41 [0, 2, 4] rfl rfl), ?_⟩
            refine ra_all (rs := [1]) (by kernel_rfl) rfl ?_
            refine ra_y 45 (i := 1) (v := .slice B7 Out.length c7) rfl rfl rfl (Y_load1 (B := some ⟨b2, 0, none⟩) (i := 5) (cs := [.int .i64 p.Ins, .int .i64 (IntKind.i64.wrap (p.Vars - 1)), .int .i64 p.Root, .int .i64 p.Phase, .slice B4 Terms.length c4, .slice B7 Out.length c7]) (v := .slice B7 Out.length c7) k_sc_28 rfl rfl (hS41.cf (i := 1) rfl) rfl) (ST.sel hS41 [0, 2, 4] rfl rfl) ?_ ?_
            · skip
              refine ra_all (rs := [10]) (by kernel_rfl) rfl ?_
              refine ra_s 54 (i := 10) rfl rfl rfl (Ys_append (s := 2) (by' := 16) (i := 3) (nn := Out.length) (c := c7) (k := 1) (len := (Out ++ [(TAffine.mk r_2 x1.Turn)]).length) (B := B7) (xs := ([(TAffine.mk r_2 x1.Turn)].flatMap enc_Affine)) (cs' := ((Out ++ [(TAffine.mk r_2 x1.Turn)]).flatMap enc_Affine)) hS41 k_sl_28_44 k_sz_44_2 k_by_44_16 k_zero_44 rfl (by decide) rfl rfl rfl rfl (fm_lenn (l := Out) enc_Affine_len rfl) rfl (hS41.cf (i := 5) rfl) (fm_lenn (l := [(TAffine.mk r_2 x1.Turn)]) enc_Affine_len rfl) (fm_one' (enc := enc_Affine) enc_Affine_one [(TAffine.mk r_2 x1.Turn)]) (by have := hap1; omega) (by have := hap1; simp only [maxLen]; omega) (fm_app _ _) (app_len (l := Out) (l' := [(TAffine.mk r_2 x1.Turn)]) rfl rfl)) ?_ ?_
              · rintro _ w_31 ⟨B8, c8, rfl, hS42⟩
                have hS42 : ST w0 [] _ [⟨some ⟨b1, 0, none⟩, 30, [.int .i64 0, .int .i64 0, .int .i64 0, .int .i64 0, .slice none 0 0, .slice none 0 0], 6⟩, ⟨some ⟨b2, 0, none⟩, 30, [.int .i64 p.Ins, .int .i64 (IntKind.i64.wrap (p.Vars - 1)), .int .i64 p.Root, .int .i64 p.Phase, .slice B4 Terms.length c4, .slice B7 Out.length c7], 6⟩, ⟨B4, 56, (Terms.flatMap enc_Term), c4 * 2⟩, ⟨B8, 44, ((Out ++ [(TAffine.mk r_2 x1.Turn)]).flatMap enc_Affine), c8 * 2⟩, ⟨some ⟨b5, 0, none⟩, 44, [.int .i64 x1.Mask, .int .i64 x1.Turn], 2⟩, ⟨some ⟨b6, 0, none⟩, 44, ([(TAffine.mk r_2 x1.Turn)].flatMap enc_Affine), 1 * 2⟩] [⟨B, (p.Terms.flatMap enc_Term)⟩, ⟨B1, (p.Out.flatMap enc_Affine)⟩] := hS42
                refine ⟨(ST.sel hS42 [0, 2, 4] rfl rfl), ?_⟩
                refine ra_q 11 55 (v := pt (some ⟨b2, 0, none⟩) 5) rfl rfl rfl (by kernel_rfl) (by kernel_rfl) (by kernel_rfl) (ST.sel hS42 [0, 2, 4] rfl rfl) (fun w' hw' => (Y_fieldAddr (B := some ⟨b2, 0, none⟩) (i := 0) (s := 0) k_fd_30_5_5_28 k_sz_28_1 rfl (hf2.get 5 2 rfl))) ?_
                refine ra_all (rs := [12]) (by kernel_rfl) rfl ?_
                refine ra_s0 (i := 12) rfl rfl rfl (Ys_store (i := 1) (s := 1) (B := some ⟨b2, 0, none⟩) (T' := 30) (v := .slice B8 ((Out ++ [(TAffine.mk r_2 x1.Turn)]).length) c8) (vs := [.slice B8 ((Out ++ [(TAffine.mk r_2 x1.Turn)]).length) c8]) (k := 5) (cs' := [.int .i64 p.Ins, .int .i64 (IntKind.i64.wrap (p.Vars - 1)), .int .i64 p.Root, .int .i64 p.Phase, .slice B4 Terms.length c4, .slice B8 ((Out ++ [(TAffine.mk r_2 x1.Turn)]).length) c8]) hS42 k_sz_28_1 rfl rfl rfl rfl rfl rfl rfl (Nat.le_of_ble_eq_true rfl) rfl rfl) ?_ ?_
                · rintro _ w_32 ⟨rfl, hS43⟩
                  have hS43 : ST w0 [] _ [⟨some ⟨b1, 0, none⟩, 30, [.int .i64 0, .int .i64 0, .int .i64 0, .int .i64 0, .slice none 0 0, .slice none 0 0], 6⟩, ⟨some ⟨b2, 0, none⟩, 30, [.int .i64 p.Ins, .int .i64 (IntKind.i64.wrap (p.Vars - 1)), .int .i64 p.Root, .int .i64 p.Phase, .slice B4 Terms.length c4, .slice B8 ((Out ++ [(TAffine.mk r_2 x1.Turn)]).length) c8], 6⟩, ⟨B4, 56, (Terms.flatMap enc_Term), c4 * 2⟩, ⟨B8, 44, ((Out ++ [(TAffine.mk r_2 x1.Turn)]).flatMap enc_Affine), c8 * 2⟩, ⟨some ⟨b5, 0, none⟩, 44, [.int .i64 x1.Mask, .int .i64 x1.Turn], 2⟩, ⟨some ⟨b6, 0, none⟩, 44, ([(TAffine.mk r_2 x1.Turn)].flatMap enc_Affine), 1 * 2⟩] [⟨B, (p.Terms.flatMap enc_Term)⟩, ⟨B1, (p.Out.flatMap enc_Affine)⟩] := hS43
                  refine ⟨(ST.sel hS43 [0, 2, 4] rfl rfl), ?_⟩
                  refine ra_done (by kernel_rfl) ?_
                  exact ⟨B8, c8, (FF.cons (hf2.get 1 0 rfl) (FF.cons (hf2.get 4 1 rfl) (FF.cons (hf2.get 5 2 rfl) (FF.cons (hf2.get 38 3 rfl) (FF.cons (hf2.get 39 4 rfl) (FF.cons (hf2.get 40 5 rfl) FF.nil)))))), (hS43.sel [0, 1, 2, 3] rfl rfl)⟩
                exact allR_nil
              exact allR_nil
            exact allR_nil
          exact allR_nil
        exact allR_nil
      rintro f w ⟨B9, c9, hf3, hS31⟩
      refine cw_region ?_
      refine sq 56 rfl rfl (Y_add (k := .i64) (a := t1) (b := 1) rfl (hf3.get 40 5 rfl) rfl) ?_
      refine sq 40 rfl rfl (Y_move (v := .int .i64 (IntKind.i64.wrap (t1 + 1))) rfl rfl) ?_
      refine rw_nil ?_
      obtain rfl := some_inj hF5
      exact ⟨k_3, Nat.lt_succ_self _, (Out ++ [(TAffine.mk r_2 x1.Turn)]), (IntKind.i64.wrap (t1 + 1)), B9, c9, (FF.cons (hf3.get 1 0 rfl) (FF.cons (hf3.get 4 1 rfl) (FF.cons (hf3.get 5 2 rfl) (FF.cons (hf3.get 38 3 rfl) (FF.cons (hf3.get 39 4 rfl) (FF.cons rfl FF.nil)))))), (hS31.sel [0, 1, 2, 3] rfl rfl), hL3⟩
    · skip
      have hF6 := cf' hb2 hb3
      refine cw_exit rfl ?_
      obtain rfl := some_inj hF6
      obtain rfl := some_inj hL3
      refine cw_seq ?_
      refine cw_region ?_
      refine sq 57 rfl rfl (Y_loadA (B := some ⟨b2, 0, none⟩) (i := 0) (cs := [.int .i64 p.Ins, .int .i64 (IntKind.i64.wrap (p.Vars - 1)), .int .i64 p.Root, .int .i64 p.Phase, .slice B4 Terms.length c4, .slice B7 Out.length c7]) (vs := [.int .i64 p.Ins, .int .i64 (IntKind.i64.wrap (p.Vars - 1)), .int .i64 p.Root, .int .i64 p.Phase, .slice B4 Terms.length c4, .slice B7 Out.length c7]) k_ag_30 k_sz_30_6 rfl (hf2.get 5 2 rfl) (hS26.cf (i := 1) rfl) rfl rfl) ?_
      refine ss0 rfl rfl (Ys_store (i := 0) (s := 6) (B := some ⟨b1, 0, none⟩) (T' := 30) (v := .agg #[.int .i64 p.Ins, .int .i64 (IntKind.i64.wrap (p.Vars - 1)), .int .i64 p.Root, .int .i64 p.Phase, .slice B4 Terms.length c4, .slice B7 Out.length c7]) (vs := [.int .i64 p.Ins, .int .i64 (IntKind.i64.wrap (p.Vars - 1)), .int .i64 p.Root, .int .i64 p.Phase, .slice B4 Terms.length c4, .slice B7 Out.length c7]) (k := 0) (cs' := [.int .i64 p.Ins, .int .i64 (IntKind.i64.wrap (p.Vars - 1)), .int .i64 p.Root, .int .i64 p.Phase, .slice B4 Terms.length c4, .slice B7 Out.length c7]) hS26 k_sz_30_6 rfl (hf2.get 4 1 rfl) rfl rfl rfl rfl rfl (Nat.le_of_ble_eq_true rfl) rfl rfl) ?_
      rintro _ w_33 ⟨rfl, hS44⟩
      have hS44 : ST w0 [] _ [⟨some ⟨b1, 0, none⟩, 30, [.int .i64 p.Ins, .int .i64 (IntKind.i64.wrap (p.Vars - 1)), .int .i64 p.Root, .int .i64 p.Phase, .slice B4 Terms.length c4, .slice B7 Out.length c7], 6⟩, ⟨some ⟨b2, 0, none⟩, 30, [.int .i64 p.Ins, .int .i64 (IntKind.i64.wrap (p.Vars - 1)), .int .i64 p.Root, .int .i64 p.Phase, .slice B4 Terms.length c4, .slice B7 Out.length c7], 6⟩, ⟨B4, 56, (Terms.flatMap enc_Term), c4 * 2⟩, ⟨B7, 44, (Out.flatMap enc_Affine), c7 * 2⟩] [⟨B, (p.Terms.flatMap enc_Term)⟩, ⟨B1, (p.Out.flatMap enc_Affine)⟩] := hS44
      refine rw_nil ?_
      refine cw_ret ?_
      obtain rfl := some_inj hF4
      exact ret1 Tryd.results51 (v1 := .agg #[.int .i64 p.Ins, .int .i64 (IntKind.i64.wrap (p.Vars - 1)), .int .i64 p.Root, .int .i64 p.Phase, .slice B4 Terms.length c4, .slice B7 Out.length c7]) (resAt_cellA (B := some ⟨b1, 0, none⟩) (i := 0) (cs := [.int .i64 p.Ins, .int .i64 (IntKind.i64.wrap (p.Vars - 1)), .int .i64 p.Root, .int .i64 p.Phase, .slice B4 Terms.length c4, .slice B7 Out.length c7]) (vs := [.int .i64 p.Ins, .int .i64 (IntKind.i64.wrap (p.Vars - 1)), .int .i64 p.Root, .int .i64 p.Phase, .slice B4 Terms.length c4, .slice B7 Out.length c7]) (hf2.get 4 1 rfl) k_ag_30 k_sz_30_6 (hS44.cf (i := 0) rfl) rfl rfl) ⟨B4, c4, B7, c7, rfl, (ST.subR (R' := []) (hS44.sel [2, 3] rfl rfl) (fun _ h => by cases h))⟩

theorem c_impl_polyOf (p : TPathSum) (B : Option Addr) (c n : Nat) (B1 : Option Addr) (c1 n1 : Nat) (w0 : World) (hn : p.Terms.length = n) (hn1 : p.Out.length = n1) (hS : ST w0 [] w0 [] [⟨B, (p.Terms.flatMap enc_Term)⟩, ⟨B1, (p.Out.flatMap enc_Affine)⟩]) {r_ : List (Int × Int)} (hF : F_impl_polyOf p = some r_) :
    CV Tryd.prog 60 #[.agg #[.int .i64 p.Ins, .int .i64 p.Vars, .int .i64 p.Root, .int .i64 p.Phase, .slice B n c, .slice B1 n1 c1]] w0 (fun v w' => ∃ (g : Nat), v = .map (some g) ∧ ST w0 [] w' [⟨(some ⟨g, 0, none⟩), .mp (mpE (Value.int .i64) (Value.int .i64) r_), [], 0⟩] []) := by
  subst hn
  subst hn1
  unfold F_impl_polyOf at hF
  refine cv_of_cw 24 Tryd.func60 rfl Tryd.ntmps60 rfl ?_
  refine cw_seq ?_
  refine cw_region ?_
  refine ss 1 rfl rfl (Ys_box (T := 30) (v := .agg #[.int .i64 p.Ins, .int .i64 p.Vars, .int .i64 p.Root, .int .i64 p.Phase, .slice B p.Terms.length c, .slice B1 p.Out.length c1]) (cs := [.int .i64 p.Ins, .int .i64 p.Vars, .int .i64 p.Root, .int .i64 p.Phase, .slice B p.Terms.length c, .slice B1 p.Out.length c1]) (m := 6) hS rfl rfl rfl rfl) ?_
  rintro _ w_ ⟨b, rfl, hS1⟩
  refine sq 2 rfl rfl (Y_assign (v := (.map none)) rfl rfl) ?_
  refine rw_nil ?_
  refine cw_seq ?_
  refine cw_region ?_
  refine ss 6 rfl rfl (Ys_mkMap (T := 93) hS1 rfl) ?_
  rintro _ w_1 ⟨g1, rfl, hS2⟩
  have hS2 : ST w0 [] _ [⟨some ⟨b, 0, none⟩, 30, [.int .i64 p.Ins, .int .i64 p.Vars, .int .i64 p.Root, .int .i64 p.Phase, .slice B p.Terms.length c, .slice B1 p.Out.length c1], 6⟩, ⟨(some ⟨g1, 0, none⟩), .mp (mpE (Value.int .i64) (Value.int .i64) ([] : List (Int × Int))), [], 0⟩] [⟨B, (p.Terms.flatMap enc_Term)⟩, ⟨B1, (p.Out.flatMap enc_Affine)⟩] := hS2
  refine sq 7 rfl rfl (Y_fieldAddr (B := some ⟨b, 0, none⟩) (i := 0) (s := 0) k_fd_30_3_3_3 k_sz_3_1 rfl rfl) ?_
  refine sq 8 rfl rfl (Y_load1 (B := some ⟨b, 0, none⟩) (i := 3) (cs := [.int .i64 p.Ins, .int .i64 p.Vars, .int .i64 p.Root, .int .i64 p.Phase, .slice B p.Terms.length c, .slice B1 p.Out.length c1]) (v := .int .i64 p.Phase) k_sc_3 rfl rfl (hS2.cf (i := 0) rfl) rfl) ?_
  refine ss0 rfl rfl (Ys_mapIns (kE := (Value.int .i64)) (vE := (Value.int .i64)) (l := ([] : List (Int × Int))) (a := 0) (b := p.Phase) (g := g1) (i := 1) hS2 (keyInt k_int_3_i64) k_map_93_3_3 rfl rfl rfl rfl rfl rfl) ?_
  rintro _ w_2 ⟨rfl, hS3⟩
  have hS3 : ST w0 [] _ [⟨some ⟨b, 0, none⟩, 30, [.int .i64 p.Ins, .int .i64 p.Vars, .int .i64 p.Root, .int .i64 p.Phase, .slice B p.Terms.length c, .slice B1 p.Out.length c1], 6⟩, ⟨(some ⟨g1, 0, none⟩), .mp (mpE (Value.int .i64) (Value.int .i64) (mput ([] : List (Int × Int)) 0 p.Phase)), [], 0⟩] [⟨B, (p.Terms.flatMap enc_Term)⟩, ⟨B1, (p.Out.flatMap enc_Affine)⟩] := hS3
  refine sq 9 rfl rfl (Y_move (v := .map (some g1)) rfl rfl) ?_
  refine sq 3 rfl rfl (Y_assign (v := .map (some g1)) rfl rfl) ?_
  refine rw_nil ?_
  refine cw_seq ?_
  refine cw_seq ?_
  refine cw_region ?_
  refine sq 10 rfl rfl (Y_fieldAddr (B := some ⟨b, 0, none⟩) (i := 0) (s := 0) k_fd_30_4_4_27 k_sz_27_1 rfl rfl) ?_
  refine sq 11 rfl rfl (Y_load1 (B := some ⟨b, 0, none⟩) (i := 4) (cs := [.int .i64 p.Ins, .int .i64 p.Vars, .int .i64 p.Root, .int .i64 p.Phase, .slice B p.Terms.length c, .slice B1 p.Out.length c1]) (v := .slice B p.Terms.length c) k_sc_27 rfl rfl (hS3.cf (i := 0) rfl) rfl) ?_
  refine sq 12 rfl rfl (Y_len (B := B) (m := p.Terms.length) (c := c) k_sl_27_56 rfl rfl) ?_
  refine sq 13 rfl rfl (Y_move (v := .int .i64 0) rfl rfl) ?_
  refine rw_nil ?_
  obtain ⟨hN, hF⟩ := chk_inv hF
  obtain ⟨z, hz, hF1⟩ := bind_inv hF
  refine cw_block ?_
  refine cw_loop (fun k f w => ∃ (i : Nat) (out : List (Int × Int)), FF f [(3, .map (some g1)), (11, .slice B p.Terms.length c), (12, .int .i64 (p.Terms.length : Int)), (13, .int .i64 (i : Int))] ∧ ST w0 [] w [⟨(some ⟨g1, 0, none⟩), .mp (mpE (Value.int .i64) (Value.int .i64) out), [], 0⟩] [⟨B, (p.Terms.flatMap enc_Term)⟩, ⟨B1, (p.Out.flatMap enc_Affine)⟩] ∧ i + k = p.Terms.length ∧ forN (F_impl_polyOf_l1 p) k i out = some z) p.Terms.length ⟨0, (mput ([] : List (Int × Int)) 0 p.Phase), (FF.cons rfl (FF.cons rfl (FF.cons rfl (FF.cons rfl FF.nil)))), (hS3.sel [1] rfl rfl), Nat.zero_add _, hz⟩ ?_
  rintro k_ f w ⟨i, out, hf, hS4, hik, hL⟩
  refine cw_seq ?_
  refine cw_region ?_
  refine sq 14 rfl rfl (Y_lt (k := .i64) (a := (i : Int)) (b := (p.Terms.length : Int)) rfl (hf.get 13 3 rfl) (hf.get 12 2 rfl)) ?_
  refine rw_nil ?_
  refine cw_seq ?_
  refine cw_cond (b := (decide ((i : Int) < (p.Terms.length : Int)))) rfl (fun hlt => ?_) (fun hlt => ?_)
  · skip
    have hlt1 : i < p.Terms.length := by have h := of_decide_eq_true hlt; omega
    obtain ⟨k_1, rfl⟩ : ∃ k2, k_ = k2 + 1 := ⟨k_ - 1, by omega⟩
    obtain ⟨y, hb, hL1⟩ := forN_go hL
    unfold F_impl_polyOf_l1 at hb
    refine cw_skip ?_
    refine cw_seq ?_
    refine cw_block ?_
    refine cw_seq ?_
    refine cw_region ?_
    obtain ⟨x, hx, hb⟩ := bind_inv hb
    refine sq 15 rfl rfl (Y_index (B := B) (m := p.Terms.length) (c := c) (k := .i64) (i := (i : Int)) k_sl_27_56 k_sz_56_2 rfl (hf.get 11 1 rfl) (hf.get 13 3 rfl) (gi_isSome enc_Term_len rfl (hS4.rf (i := 0) rfl) hx) (getI_nn hx) (getI_ltI hx rfl)) ?_
    refine sq 16 rfl rfl (Y_loadA (B := B) (i := (i : Int).toNat * 2) (cs := (p.Terms.flatMap enc_Term)) (vs := [.int .i64 x.Mask, .int .i64 x.Coef]) k_ag_56 k_sz_56_2 rfl rfl (hS4.rf (i := 0) rfl) (enc_Term_len x) (gi_seg enc_Term_len hx)) ?_
    refine ss 5 rfl rfl (Ys_alloc (T := 56) (cs := [.int .i64 0, .int .i64 0]) (m := 2) hS4 k_zero_56 rfl rfl rfl) ?_
    rintro _ w_3 ⟨b1, rfl, hS5⟩
    have hS5 : ST w0 [] _ [⟨(some ⟨g1, 0, none⟩), .mp (mpE (Value.int .i64) (Value.int .i64) out), [], 0⟩, ⟨some ⟨b1, 0, none⟩, 56, [.int .i64 0, .int .i64 0], 2⟩] [⟨B, (p.Terms.flatMap enc_Term)⟩, ⟨B1, (p.Out.flatMap enc_Affine)⟩] := hS5
    refine ss0 rfl rfl (Ys_store (i := 1) (s := 2) (B := some ⟨b1, 0, none⟩) (T' := 56) (v := .agg #[.int .i64 x.Mask, .int .i64 x.Coef]) (vs := [.int .i64 x.Mask, .int .i64 x.Coef]) (k := 0) (cs' := [.int .i64 x.Mask, .int .i64 x.Coef]) hS5 k_sz_56_2 rfl rfl rfl rfl rfl rfl rfl (Nat.le_of_ble_eq_true rfl) rfl rfl) ?_
    rintro _ w_4 ⟨rfl, hS6⟩
    have hS6 : ST w0 [] _ [⟨(some ⟨g1, 0, none⟩), .mp (mpE (Value.int .i64) (Value.int .i64) out), [], 0⟩, ⟨some ⟨b1, 0, none⟩, 56, [.int .i64 x.Mask, .int .i64 x.Coef], 2⟩] [⟨B, (p.Terms.flatMap enc_Term)⟩, ⟨B1, (p.Out.flatMap enc_Affine)⟩] := hS6
    refine rw_nil ?_
    refine cw_region ?_
    refine sq 17 rfl rfl (Y_move (v := .map (some g1)) rfl (hf.get 3 0 rfl)) ?_
    refine sq 18 rfl rfl (Y_fieldAddr (B := some ⟨b1, 0, none⟩) (i := 0) (s := 0) k_fd_56_0_0_3 k_sz_3_1 rfl rfl) ?_
    refine sq 19 rfl rfl (Y_load1 (B := some ⟨b1, 0, none⟩) (i := 0) (cs := [.int .i64 x.Mask, .int .i64 x.Coef]) (v := .int .i64 x.Mask) k_sc_3 rfl rfl (hS6.cf (i := 1) rfl) rfl) ?_
    refine sq 20 rfl rfl (Y_fieldAddr (B := some ⟨b1, 0, none⟩) (i := 0) (s := 0) k_fd_56_1_1_3 k_sz_3_1 rfl rfl) ?_
    refine sq 21 rfl rfl (Y_load1 (B := some ⟨b1, 0, none⟩) (i := 1) (cs := [.int .i64 x.Mask, .int .i64 x.Coef]) (v := .int .i64 x.Coef) k_sc_3 rfl rfl (hS6.cf (i := 1) rfl) rfl) ?_
    refine ss0 rfl rfl (Ys_mapPut (kE := (Value.int .i64)) (vE := (Value.int .i64)) (l := out) (a := x.Mask) (b := x.Coef) (g := g1) (i := 0) hS6 (keyInt k_int_3_i64) k_map_93_3_3 rfl rfl rfl rfl rfl rfl) ?_
    rintro _ w_5 ⟨rfl, hS7⟩
    have hS7 : ST w0 [] _ [⟨(some ⟨g1, 0, none⟩), .mp (mpE (Value.int .i64) (Value.int .i64) (mput out x.Mask x.Coef)), [], 0⟩, ⟨some ⟨b1, 0, none⟩, 56, [.int .i64 x.Mask, .int .i64 x.Coef], 2⟩] [⟨B, (p.Terms.flatMap enc_Term)⟩, ⟨B1, (p.Out.flatMap enc_Affine)⟩] := hS7
    refine rw_nil ?_
    refine cw_region ?_
    refine sq 22 rfl rfl (Y_add (k := .i64) (a := (i : Int)) (b := 1) rfl (hf.get 13 3 rfl) rfl) ?_
    refine sq 13 rfl rfl (Y_move (v := .int .i64 (IntKind.i64.wrap ((i : Int) + 1))) rfl rfl) ?_
    refine rw_nil ?_
    obtain rfl := some_inj hb
    exact ⟨k_1, Nat.lt_succ_self _, i + 1, (mput out x.Mask x.Coef), (FF.cons (hf.get 3 0 rfl) (FF.cons (hf.get 11 1 rfl) (FF.cons (hf.get 12 2 rfl) (FF.cons (congrArg (Value.int .i64) (wr_succ hlt1 hN)) FF.nil)))), (hS7.sel [0] rfl rfl), (by omega), hL1⟩
  · skip
    obtain rfl : k_ = 0 := by have h := of_decide_eq_false hlt; omega
    refine cw_exit rfl ?_
    obtain rfl := some_inj hL
    refine cw_seq ?_
    refine cw_region ?_
    refine sq 23 rfl rfl (Y_move (v := .map (some g1)) rfl (hf.get 3 0 rfl)) ?_
    refine sq 2 rfl rfl (Y_assign (v := .map (some g1)) rfl rfl) ?_
    refine rw_nil ?_
    refine cw_ret ?_
    obtain rfl := some_inj hF1
    exact ret1 Tryd.results60 (v1 := .map (some g1)) (resAt_tmp rfl) ⟨g1, rfl, (ST.subR (R' := []) (hS4.sel [0] rfl rfl) (fun _ h => by cases h))⟩

theorem c_impl_polynomial_add (p : List (Int × Int)) (mask : Int) (coef : Int) (g : Nat) (w0 : World)  (hS : ST w0 (bl [⟨(some ⟨g, 0, none⟩), .mp (mpE (Value.int .i64) (Value.int .i64) p), [], 0⟩]) w0 [⟨(some ⟨g, 0, none⟩), .mp (mpE (Value.int .i64) (Value.int .i64) p), [], 0⟩] []) {m : List (Int × Int)} (hF : F_impl_polynomial_add p mask coef = some m) :
    CV Tryd.prog 63 #[.map (some g), .int .i64 mask, .int .i64 coef] w0 (fun v w' => v = .tuple #[] ∧ ST w0 (bl [⟨(some ⟨g, 0, none⟩), .mp (mpE (Value.int .i64) (Value.int .i64) p), [], 0⟩]) w' [⟨(some ⟨g, 0, none⟩), .mp (mpE (Value.int .i64) (Value.int .i64) m), [], 0⟩] []) := by
  unfold F_impl_polynomial_add at hF
  refine cv_of_cw 16 Tryd.func63 rfl Tryd.ntmps63 rfl ?_
  refine cw_region ?_
  refine sq 6 rfl rfl (Y_move (v := .map (some g)) rfl rfl) ?_
  refine sq 7 rfl rfl (Y_move (v := .int .i64 mask) rfl rfl) ?_
  refine sq 8 rfl rfl (Y_move (v := .map (some g)) rfl rfl) ?_
  refine sq 9 rfl rfl (Y_move (v := .int .i64 mask) rfl rfl) ?_
  refine sq 10 rfl rfl (Y_mapGet (kE := (Value.int .i64)) (vE := (Value.int .i64)) (l := p) (a := mask) (d := 0) (g := g) (i := 0) hS (keyInt k_int_3_i64) k_map_93_3_3 k_zero_3 rfl rfl rfl rfl) ?_
  refine sq 11 rfl rfl (Y_move (v := .int .i64 coef) rfl rfl) ?_
  refine sq 12 rfl rfl (Y_add (k := .i64) (a := (mgt p mask 0)) (b := coef) rfl rfl rfl) ?_
  refine sq 13 rfl rfl (Y_rem (k := .i64) (a := (IntKind.i64.wrap ((mgt p mask 0) + coef))) (b := 8) rfl rfl rfl (by decide)) ?_
  refine sq 14 rfl rfl (Y_add (k := .i64) (a := (Int.tmod (IntKind.i64.wrap ((mgt p mask 0) + coef)) 8)) (b := 8) rfl rfl rfl) ?_
  refine sq 15 rfl rfl (Y_rem (k := .i64) (a := (IntKind.i64.wrap ((Int.tmod (IntKind.i64.wrap ((mgt p mask 0) + coef)) 8) + 8))) (b := 8) rfl rfl rfl (by decide)) ?_
  refine ss0 rfl rfl (Ys_mapPut (kE := (Value.int .i64)) (vE := (Value.int .i64)) (l := p) (a := mask) (b := (Int.tmod (IntKind.i64.wrap ((Int.tmod (IntKind.i64.wrap ((mgt p mask 0) + coef)) 8) + 8)) 8)) (g := g) (i := 0) hS (keyInt k_int_3_i64) k_map_93_3_3 rfl rfl rfl rfl rfl rfl) ?_
  rintro _ w_ ⟨rfl, hS1⟩
  refine rw_nil ?_
  obtain rfl := some_inj hF
  exact ret0 Tryd.results63  ⟨rfl, (ST.subR (R' := []) (hS1.sel [0] rfl rfl) (fun _ h => by cases h))⟩
end Go.VK
