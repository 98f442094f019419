/- Walks: each Go function returns what its Lean function says. By program. -/
import Derived.Test.YtkmncijipedjaaaGreatLPhasePolynomialsFa
import Derived.Test.YtkmncijipedjaaaGreatLibU
import Derived.Test.YtkmncijipedjaaaGreatLPhasePolynomialsW3
set_option linter.unusedVariables false
set_option maxRecDepth 100000
set_option maxHeartbeats 4000000
namespace Go.VK
open Go.RowKit
open Go.Proofs
open Go.IntKind
attribute [local irreducible] CW RW RA CV Y Yw Yc Ys RetOf
attribute [local irreducible] F_impl_within F_impl_IsValidCircuit F_impl_PhasePolyOf F_spec_DrawPhasePolyOf F_spec_PhasePolyOf F_laws_qPoly F_impl_IsValidPhasePoly F_impl_PhaseCircuit F_impl_matrixOf F_impl_IdentityMatrix F_impl_phase F_impl_IsValidMatrix F_impl_Matrix_at F_impl_applied F_laws_qExact F_math_bits_OnesCount64 F_math_bits_OnesCount F_impl_parityOf F_impl_PhaseAt F_impl_ColumnOf_1 F_impl_ColumnOf F_impl_StateAfter F_laws_qReverse F_laws_qWeight F_impl_PhaseOf F_laws_FnPhasePolynomials
theorem c_math_bits_OnesCount64 (x : Int)  (w0 : World)  (hS : ST w0 [] w0 [] []) {r_ : Int} (hF : F_math_bits_OnesCount64 x = some r_) :
  CV Tryz.prog 287 #[.int .u64 x] w0 (fun v w' => v = vi r_ ∧ ST w0 [] w' [] []) := by
 unfold F_math_bits_OnesCount64 at hF
 refine cv_of_cw 35 Tryz.func287 rfl Tryz.ntmps287 rfl ?_
 refine cq (cr ?_)
 refine sQ 2 (yg (vi 0)) (rn (cq (cr ?_)))
 refine sQ 3 (ym (.int .u64 x)) <| sQ 4 (Y_shr (k := .u64) (a := x) (k' := .u64) (b := 1) rfl rfl rfl (by decide)) <| sQ 5 (Y_band (k := .u64) (a := (shrK .u64 x 1)) (b := 6148914691236517205) rfl rfl rfl) <| sQ 6 (ym (.int .u64 x)) <| sQ 7 (Y_band (k := .u64) (a := x) (b := 6148914691236517205) rfl rfl rfl) <| sQ 8 (Y_add (k := .u64) (a := (bits .and .u64 (shrK .u64 x 1) 6148914691236517205)) (b := (bits .and .u64 x 6148914691236517205)) rfl rfl rfl) ?_
 refine sQ 0 (yg (.int .u64 (IntKind.u64.wrap ((bits .and .u64 (shrK .u64 x 1) 6148914691236517205) + (bits .and .u64 x 6148914691236517205))))) (rn (cq (cr ?_)))
 refine sQ 9 (ym (.int .u64 (IntKind.u64.wrap ((bits .and .u64 (shrK .u64 x 1) 6148914691236517205) + (bits .and .u64 x 6148914691236517205))))) <| sQ 10 (Y_shr (k := .u64) (a := (IntKind.u64.wrap ((bits .and .u64 (shrK .u64 x 1) 6148914691236517205) + (bits .and .u64 x 6148914691236517205)))) (k' := .u64) (b := 2) rfl rfl rfl (by decide)) <| sQ 11 (Y_band (k := .u64) (a := (shrK .u64 (IntKind.u64.wrap ((bits .and .u64 (shrK .u64 x 1) 6148914691236517205) + (bits .and .u64 x 6148914691236517205))) 2)) (b := 3689348814741910323) rfl rfl rfl) <| sQ 12 (ym (.int .u64 (IntKind.u64.wrap ((bits .and .u64 (shrK .u64 x 1) 6148914691236517205) + (bits .and .u64 x 6148914691236517205))))) <| sQ 13 (Y_band (k := .u64) (a := (IntKind.u64.wrap ((bits .and .u64 (shrK .u64 x 1) 6148914691236517205) + (bits .and .u64 x 6148914691236517205)))) (b := 3689348814741910323) rfl rfl rfl) <| sQ 14 (Y_add (k := .u64) (a := (bits .and .u64 (shrK .u64 (IntKind.u64.wrap ((bits .and .u64 (shrK .u64 x 1) 6148914691236517205) + (bits .and .u64 x 6148914691236517205))) 2) 3689348814741910323)) (b := (bits .and .u64 (IntKind.u64.wrap ((bits .and .u64 (shrK .u64 x 1) 6148914691236517205) + (bits .and .u64 x 6148914691236517205))) 3689348814741910323)) rfl rfl rfl) ?_
 refine sQ 0 (yg (.int .u64 (IntKind.u64.wrap ((bits .and .u64 (shrK .u64 (IntKind.u64.wrap ((bits .and .u64 (shrK .u64 x 1) 6148914691236517205) + (bits .and .u64 x 6148914691236517205))) 2) 3689348814741910323) + (bits .and .u64 (IntKind.u64.wrap ((bits .and .u64 (shrK .u64 x 1) 6148914691236517205) + (bits .and .u64 x 6148914691236517205))) 3689348814741910323))))) (rn (cq (cr ?_)))
 refine sQ 15 (ym (.int .u64 (IntKind.u64.wrap ((bits .and .u64 (shrK .u64 (IntKind.u64.wrap ((bits .and .u64 (shrK .u64 x 1) 6148914691236517205) + (bits .and .u64 x 6148914691236517205))) 2) 3689348814741910323) + (bits .and .u64 (IntKind.u64.wrap ((bits .and .u64 (shrK .u64 x 1) 6148914691236517205) + (bits .and .u64 x 6148914691236517205))) 3689348814741910323))))) <| sQ 16 (Y_shr (k := .u64) (a := (IntKind.u64.wrap ((bits .and .u64 (shrK .u64 (IntKind.u64.wrap ((bits .and .u64 (shrK .u64 x 1) 6148914691236517205) + (bits .and .u64 x 6148914691236517205))) 2) 3689348814741910323) + (bits .and .u64 (IntKind.u64.wrap ((bits .and .u64 (shrK .u64 x 1) 6148914691236517205) + (bits .and .u64 x 6148914691236517205))) 3689348814741910323)))) (k' := .u64) (b := 4) rfl rfl rfl (by decide)) <| sQ 17 (ym (.int .u64 (IntKind.u64.wrap ((bits .and .u64 (shrK .u64 (IntKind.u64.wrap ((bits .and .u64 (shrK .u64 x 1) 6148914691236517205) + (bits .and .u64 x 6148914691236517205))) 2) 3689348814741910323) + (bits .and .u64 (IntKind.u64.wrap ((bits .and .u64 (shrK .u64 x 1) 6148914691236517205) + (bits .and .u64 x 6148914691236517205))) 3689348814741910323))))) <| sQ 18 (Y_add (k := .u64) (a := (shrK .u64 (IntKind.u64.wrap ((bits .and .u64 (shrK .u64 (IntKind.u64.wrap ((bits .and .u64 (shrK .u64 x 1) 6148914691236517205) + (bits .and .u64 x 6148914691236517205))) 2) 3689348814741910323) + (bits .and .u64 (IntKind.u64.wrap ((bits .and .u64 (shrK .u64 x 1) 6148914691236517205) + (bits .and .u64 x 6148914691236517205))) 3689348814741910323))) 4)) (b := (IntKind.u64.wrap ((bits .and .u64 (shrK .u64 (IntKind.u64.wrap ((bits .and .u64 (shrK .u64 x 1) 6148914691236517205) + (bits .and .u64 x 6148914691236517205))) 2) 3689348814741910323) + (bits .and .u64 (IntKind.u64.wrap ((bits .and .u64 (shrK .u64 x 1) 6148914691236517205) + (bits .and .u64 x 6148914691236517205))) 3689348814741910323)))) rfl rfl rfl) <| sQ 19 (Y_band (k := .u64) (a := (IntKind.u64.wrap ((shrK .u64 (IntKind.u64.wrap ((bits .and .u64 (shrK .u64 (IntKind.u64.wrap ((bits .and .u64 (shrK .u64 x 1) 6148914691236517205) + (bits .and .u64 x 6148914691236517205))) 2) 3689348814741910323) + (bits .and .u64 (IntKind.u64.wrap ((bits .and .u64 (shrK .u64 x 1) 6148914691236517205) + (bits .and .u64 x 6148914691236517205))) 3689348814741910323))) 4) + (IntKind.u64.wrap ((bits .and .u64 (shrK .u64 (IntKind.u64.wrap ((bits .and .u64 (shrK .u64 x 1) 6148914691236517205) + (bits .and .u64 x 6148914691236517205))) 2) 3689348814741910323) + (bits .and .u64 (IntKind.u64.wrap ((bits .and .u64 (shrK .u64 x 1) 6148914691236517205) + (bits .and .u64 x 6148914691236517205))) 3689348814741910323)))))) (b := 1085102592571150095) rfl rfl rfl) <| sQ 0 (yg (.int .u64 (bits .and .u64 (IntKind.u64.wrap ((shrK .u64 (IntKind.u64.wrap ((bits .and .u64 (shrK .u64 (IntKind.u64.wrap ((bits .and .u64 (shrK .u64 x 1) 6148914691236517205) + (bits .and .u64 x 6148914691236517205))) 2) 3689348814741910323) + (bits .and .u64 (IntKind.u64.wrap ((bits .and .u64 (shrK .u64 x 1) 6148914691236517205) + (bits .and .u64 x 6148914691236517205))) 3689348814741910323))) 4) + (IntKind.u64.wrap ((bits .and .u64 (shrK .u64 (IntKind.u64.wrap ((bits .and .u64 (shrK .u64 x 1) 6148914691236517205) + (bits .and .u64 x 6148914691236517205))) 2) 3689348814741910323) + (bits .and .u64 (IntKind.u64.wrap ((bits .and .u64 (shrK .u64 x 1) 6148914691236517205) + (bits .and .u64 x 6148914691236517205))) 3689348814741910323))))) 1085102592571150095))) (rn (cq (cr ?_)))
 refine sQ 20 (ym (.int .u64 (bits .and .u64 (IntKind.u64.wrap ((shrK .u64 (IntKind.u64.wrap ((bits .and .u64 (shrK .u64 (IntKind.u64.wrap ((bits .and .u64 (shrK .u64 x 1) 6148914691236517205) + (bits .and .u64 x 6148914691236517205))) 2) 3689348814741910323) + (bits .and .u64 (IntKind.u64.wrap ((bits .and .u64 (shrK .u64 x 1) 6148914691236517205) + (bits .and .u64 x 6148914691236517205))) 3689348814741910323))) 4) + (IntKind.u64.wrap ((bits .and .u64 (shrK .u64 (IntKind.u64.wrap ((bits .and .u64 (shrK .u64 x 1) 6148914691236517205) + (bits .and .u64 x 6148914691236517205))) 2) 3689348814741910323) + (bits .and .u64 (IntKind.u64.wrap ((bits .and .u64 (shrK .u64 x 1) 6148914691236517205) + (bits .and .u64 x 6148914691236517205))) 3689348814741910323))))) 1085102592571150095))) <| sQ 21 (ym (.int .u64 (bits .and .u64 (IntKind.u64.wrap ((shrK .u64 (IntKind.u64.wrap ((bits .and .u64 (shrK .u64 (IntKind.u64.wrap ((bits .and .u64 (shrK .u64 x 1) 6148914691236517205) + (bits .and .u64 x 6148914691236517205))) 2) 3689348814741910323) + (bits .and .u64 (IntKind.u64.wrap ((bits .and .u64 (shrK .u64 x 1) 6148914691236517205) + (bits .and .u64 x 6148914691236517205))) 3689348814741910323))) 4) + (IntKind.u64.wrap ((bits .and .u64 (shrK .u64 (IntKind.u64.wrap ((bits .and .u64 (shrK .u64 x 1) 6148914691236517205) + (bits .and .u64 x 6148914691236517205))) 2) 3689348814741910323) + (bits .and .u64 (IntKind.u64.wrap ((bits .and .u64 (shrK .u64 x 1) 6148914691236517205) + (bits .and .u64 x 6148914691236517205))) 3689348814741910323))))) 1085102592571150095))) <| sQ 22 (Y_shr (k := .u64) (a := (bits .and .u64 (IntKind.u64.wrap ((shrK .u64 (IntKind.u64.wrap ((bits .and .u64 (shrK .u64 (IntKind.u64.wrap ((bits .and .u64 (shrK .u64 x 1) 6148914691236517205) + (bits .and .u64 x 6148914691236517205))) 2) 3689348814741910323) + (bits .and .u64 (IntKind.u64.wrap ((bits .and .u64 (shrK .u64 x 1) 6148914691236517205) + (bits .and .u64 x 6148914691236517205))) 3689348814741910323))) 4) + (IntKind.u64.wrap ((bits .and .u64 (shrK .u64 (IntKind.u64.wrap ((bits .and .u64 (shrK .u64 x 1) 6148914691236517205) + (bits .and .u64 x 6148914691236517205))) 2) 3689348814741910323) + (bits .and .u64 (IntKind.u64.wrap ((bits .and .u64 (shrK .u64 x 1) 6148914691236517205) + (bits .and .u64 x 6148914691236517205))) 3689348814741910323))))) 1085102592571150095)) (k' := .u64) (b := 8) rfl rfl rfl (by decide)) <| sQ 23 (Y_add (k := .u64) (a := (bits .and .u64 (IntKind.u64.wrap ((shrK .u64 (IntKind.u64.wrap ((bits .and .u64 (shrK .u64 (IntKind.u64.wrap ((bits .and .u64 (shrK .u64 x 1) 6148914691236517205) + (bits .and .u64 x 6148914691236517205))) 2) 3689348814741910323) + (bits .and .u64 (IntKind.u64.wrap ((bits .and .u64 (shrK .u64 x 1) 6148914691236517205) + (bits .and .u64 x 6148914691236517205))) 3689348814741910323))) 4) + (IntKind.u64.wrap ((bits .and .u64 (shrK .u64 (IntKind.u64.wrap ((bits .and .u64 (shrK .u64 x 1) 6148914691236517205) + (bits .and .u64 x 6148914691236517205))) 2) 3689348814741910323) + (bits .and .u64 (IntKind.u64.wrap ((bits .and .u64 (shrK .u64 x 1) 6148914691236517205) + (bits .and .u64 x 6148914691236517205))) 3689348814741910323))))) 1085102592571150095)) (b := (shrK .u64 (bits .and .u64 (IntKind.u64.wrap ((shrK .u64 (IntKind.u64.wrap ((bits .and .u64 (shrK .u64 (IntKind.u64.wrap ((bits .and .u64 (shrK .u64 x 1) 6148914691236517205) + (bits .and .u64 x 6148914691236517205))) 2) 3689348814741910323) + (bits .and .u64 (IntKind.u64.wrap ((bits .and .u64 (shrK .u64 x 1) 6148914691236517205) + (bits .and .u64 x 6148914691236517205))) 3689348814741910323))) 4) + (IntKind.u64.wrap ((bits .and .u64 (shrK .u64 (IntKind.u64.wrap ((bits .and .u64 (shrK .u64 x 1) 6148914691236517205) + (bits .and .u64 x 6148914691236517205))) 2) 3689348814741910323) + (bits .and .u64 (IntKind.u64.wrap ((bits .and .u64 (shrK .u64 x 1) 6148914691236517205) + (bits .and .u64 x 6148914691236517205))) 3689348814741910323))))) 1085102592571150095) 8)) rfl rfl rfl) <| sQ 0 (yg (.int .u64 (IntKind.u64.wrap ((bits .and .u64 (IntKind.u64.wrap ((shrK .u64 (IntKind.u64.wrap ((bits .and .u64 (shrK .u64 (IntKind.u64.wrap ((bits .and .u64 (shrK .u64 x 1) 6148914691236517205) + (bits .and .u64 x 6148914691236517205))) 2) 3689348814741910323) + (bits .and .u64 (IntKind.u64.wrap ((bits .and .u64 (shrK .u64 x 1) 6148914691236517205) + (bits .and .u64 x 6148914691236517205))) 3689348814741910323))) 4) + (IntKind.u64.wrap ((bits .and .u64 (shrK .u64 (IntKind.u64.wrap ((bits .and .u64 (shrK .u64 x 1) 6148914691236517205) + (bits .and .u64 x 6148914691236517205))) 2) 3689348814741910323) + (bits .and .u64 (IntKind.u64.wrap ((bits .and .u64 (shrK .u64 x 1) 6148914691236517205) + (bits .and .u64 x 6148914691236517205))) 3689348814741910323))))) 1085102592571150095) + (shrK .u64 (bits .and .u64 (IntKind.u64.wrap ((shrK .u64 (IntKind.u64.wrap ((bits .and .u64 (shrK .u64 (IntKind.u64.wrap ((bits .and .u64 (shrK .u64 x 1) 6148914691236517205) + (bits .and .u64 x 6148914691236517205))) 2) 3689348814741910323) + (bits .and .u64 (IntKind.u64.wrap ((bits .and .u64 (shrK .u64 x 1) 6148914691236517205) + (bits .and .u64 x 6148914691236517205))) 3689348814741910323))) 4) + (IntKind.u64.wrap ((bits .and .u64 (shrK .u64 (IntKind.u64.wrap ((bits .and .u64 (shrK .u64 x 1) 6148914691236517205) + (bits .and .u64 x 6148914691236517205))) 2) 3689348814741910323) + (bits .and .u64 (IntKind.u64.wrap ((bits .and .u64 (shrK .u64 x 1) 6148914691236517205) + (bits .and .u64 x 6148914691236517205))) 3689348814741910323))))) 1085102592571150095) 8))))) (rn (cq (cr ?_)))
 refine sQ 24 (ym (.int .u64 (IntKind.u64.wrap ((bits .and .u64 (IntKind.u64.wrap ((shrK .u64 (IntKind.u64.wrap ((bits .and .u64 (shrK .u64 (IntKind.u64.wrap ((bits .and .u64 (shrK .u64 x 1) 6148914691236517205) + (bits .and .u64 x 6148914691236517205))) 2) 3689348814741910323) + (bits .and .u64 (IntKind.u64.wrap ((bits .and .u64 (shrK .u64 x 1) 6148914691236517205) + (bits .and .u64 x 6148914691236517205))) 3689348814741910323))) 4) + (IntKind.u64.wrap ((bits .and .u64 (shrK .u64 (IntKind.u64.wrap ((bits .and .u64 (shrK .u64 x 1) 6148914691236517205) + (bits .and .u64 x 6148914691236517205))) 2) 3689348814741910323) + (bits .and .u64 (IntKind.u64.wrap ((bits .and .u64 (shrK .u64 x 1) 6148914691236517205) + (bits .and .u64 x 6148914691236517205))) 3689348814741910323))))) 1085102592571150095) + (shrK .u64 (bits .and .u64 (IntKind.u64.wrap ((shrK .u64 (IntKind.u64.wrap ((bits .and .u64 (shrK .u64 (IntKind.u64.wrap ((bits .and .u64 (shrK .u64 x 1) 6148914691236517205) + (bits .and .u64 x 6148914691236517205))) 2) 3689348814741910323) + (bits .and .u64 (IntKind.u64.wrap ((bits .and .u64 (shrK .u64 x 1) 6148914691236517205) + (bits .and .u64 x 6148914691236517205))) 3689348814741910323))) 4) + (IntKind.u64.wrap ((bits .and .u64 (shrK .u64 (IntKind.u64.wrap ((bits .and .u64 (shrK .u64 x 1) 6148914691236517205) + (bits .and .u64 x 6148914691236517205))) 2) 3689348814741910323) + (bits .and .u64 (IntKind.u64.wrap ((bits .and .u64 (shrK .u64 x 1) 6148914691236517205) + (bits .and .u64 x 6148914691236517205))) 3689348814741910323))))) 1085102592571150095) 8))))) <| sQ 25 (ym (.int .u64 (IntKind.u64.wrap ((bits .and .u64 (IntKind.u64.wrap ((shrK .u64 (IntKind.u64.wrap ((bits .and .u64 (shrK .u64 (IntKind.u64.wrap ((bits .and .u64 (shrK .u64 x 1) 6148914691236517205) + (bits .and .u64 x 6148914691236517205))) 2) 3689348814741910323) + (bits .and .u64 (IntKind.u64.wrap ((bits .and .u64 (shrK .u64 x 1) 6148914691236517205) + (bits .and .u64 x 6148914691236517205))) 3689348814741910323))) 4) + (IntKind.u64.wrap ((bits .and .u64 (shrK .u64 (IntKind.u64.wrap ((bits .and .u64 (shrK .u64 x 1) 6148914691236517205) + (bits .and .u64 x 6148914691236517205))) 2) 3689348814741910323) + (bits .and .u64 (IntKind.u64.wrap ((bits .and .u64 (shrK .u64 x 1) 6148914691236517205) + (bits .and .u64 x 6148914691236517205))) 3689348814741910323))))) 1085102592571150095) + (shrK .u64 (bits .and .u64 (IntKind.u64.wrap ((shrK .u64 (IntKind.u64.wrap ((bits .and .u64 (shrK .u64 (IntKind.u64.wrap ((bits .and .u64 (shrK .u64 x 1) 6148914691236517205) + (bits .and .u64 x 6148914691236517205))) 2) 3689348814741910323) + (bits .and .u64 (IntKind.u64.wrap ((bits .and .u64 (shrK .u64 x 1) 6148914691236517205) + (bits .and .u64 x 6148914691236517205))) 3689348814741910323))) 4) + (IntKind.u64.wrap ((bits .and .u64 (shrK .u64 (IntKind.u64.wrap ((bits .and .u64 (shrK .u64 x 1) 6148914691236517205) + (bits .and .u64 x 6148914691236517205))) 2) 3689348814741910323) + (bits .and .u64 (IntKind.u64.wrap ((bits .and .u64 (shrK .u64 x 1) 6148914691236517205) + (bits .and .u64 x 6148914691236517205))) 3689348814741910323))))) 1085102592571150095) 8))))) <| sQ 26 (Y_shr (k := .u64) (a := (IntKind.u64.wrap ((bits .and .u64 (IntKind.u64.wrap ((shrK .u64 (IntKind.u64.wrap ((bits .and .u64 (shrK .u64 (IntKind.u64.wrap ((bits .and .u64 (shrK .u64 x 1) 6148914691236517205) + (bits .and .u64 x 6148914691236517205))) 2) 3689348814741910323) + (bits .and .u64 (IntKind.u64.wrap ((bits .and .u64 (shrK .u64 x 1) 6148914691236517205) + (bits .and .u64 x 6148914691236517205))) 3689348814741910323))) 4) + (IntKind.u64.wrap ((bits .and .u64 (shrK .u64 (IntKind.u64.wrap ((bits .and .u64 (shrK .u64 x 1) 6148914691236517205) + (bits .and .u64 x 6148914691236517205))) 2) 3689348814741910323) + (bits .and .u64 (IntKind.u64.wrap ((bits .and .u64 (shrK .u64 x 1) 6148914691236517205) + (bits .and .u64 x 6148914691236517205))) 3689348814741910323))))) 1085102592571150095) + (shrK .u64 (bits .and .u64 (IntKind.u64.wrap ((shrK .u64 (IntKind.u64.wrap ((bits .and .u64 (shrK .u64 (IntKind.u64.wrap ((bits .and .u64 (shrK .u64 x 1) 6148914691236517205) + (bits .and .u64 x 6148914691236517205))) 2) 3689348814741910323) + (bits .and .u64 (IntKind.u64.wrap ((bits .and .u64 (shrK .u64 x 1) 6148914691236517205) + (bits .and .u64 x 6148914691236517205))) 3689348814741910323))) 4) + (IntKind.u64.wrap ((bits .and .u64 (shrK .u64 (IntKind.u64.wrap ((bits .and .u64 (shrK .u64 x 1) 6148914691236517205) + (bits .and .u64 x 6148914691236517205))) 2) 3689348814741910323) + (bits .and .u64 (IntKind.u64.wrap ((bits .and .u64 (shrK .u64 x 1) 6148914691236517205) + (bits .and .u64 x 6148914691236517205))) 3689348814741910323))))) 1085102592571150095) 8)))) (k' := .u64) (b := 16) rfl rfl rfl (by decide)) <| sQ 27 (Y_add (k := .u64) (a := (IntKind.u64.wrap ((bits .and .u64 (IntKind.u64.wrap ((shrK .u64 (IntKind.u64.wrap ((bits .and .u64 (shrK .u64 (IntKind.u64.wrap ((bits .and .u64 (shrK .u64 x 1) 6148914691236517205) + (bits .and .u64 x 6148914691236517205))) 2) 3689348814741910323) + (bits .and .u64 (IntKind.u64.wrap ((bits .and .u64 (shrK .u64 x 1) 6148914691236517205) + (bits .and .u64 x 6148914691236517205))) 3689348814741910323))) 4) + (IntKind.u64.wrap ((bits .and .u64 (shrK .u64 (IntKind.u64.wrap ((bits .and .u64 (shrK .u64 x 1) 6148914691236517205) + (bits .and .u64 x 6148914691236517205))) 2) 3689348814741910323) + (bits .and .u64 (IntKind.u64.wrap ((bits .and .u64 (shrK .u64 x 1) 6148914691236517205) + (bits .and .u64 x 6148914691236517205))) 3689348814741910323))))) 1085102592571150095) + (shrK .u64 (bits .and .u64 (IntKind.u64.wrap ((shrK .u64 (IntKind.u64.wrap ((bits .and .u64 (shrK .u64 (IntKind.u64.wrap ((bits .and .u64 (shrK .u64 x 1) 6148914691236517205) + (bits .and .u64 x 6148914691236517205))) 2) 3689348814741910323) + (bits .and .u64 (IntKind.u64.wrap ((bits .and .u64 (shrK .u64 x 1) 6148914691236517205) + (bits .and .u64 x 6148914691236517205))) 3689348814741910323))) 4) + (IntKind.u64.wrap ((bits .and .u64 (shrK .u64 (IntKind.u64.wrap ((bits .and .u64 (shrK .u64 x 1) 6148914691236517205) + (bits .and .u64 x 6148914691236517205))) 2) 3689348814741910323) + (bits .and .u64 (IntKind.u64.wrap ((bits .and .u64 (shrK .u64 x 1) 6148914691236517205) + (bits .and .u64 x 6148914691236517205))) 3689348814741910323))))) 1085102592571150095) 8)))) (b := (shrK .u64 (IntKind.u64.wrap ((bits .and .u64 (IntKind.u64.wrap ((shrK .u64 (IntKind.u64.wrap ((bits .and .u64 (shrK .u64 (IntKind.u64.wrap ((bits .and .u64 (shrK .u64 x 1) 6148914691236517205) + (bits .and .u64 x 6148914691236517205))) 2) 3689348814741910323) + (bits .and .u64 (IntKind.u64.wrap ((bits .and .u64 (shrK .u64 x 1) 6148914691236517205) + (bits .and .u64 x 6148914691236517205))) 3689348814741910323))) 4) + (IntKind.u64.wrap ((bits .and .u64 (shrK .u64 (IntKind.u64.wrap ((bits .and .u64 (shrK .u64 x 1) 6148914691236517205) + (bits .and .u64 x 6148914691236517205))) 2) 3689348814741910323) + (bits .and .u64 (IntKind.u64.wrap ((bits .and .u64 (shrK .u64 x 1) 6148914691236517205) + (bits .and .u64 x 6148914691236517205))) 3689348814741910323))))) 1085102592571150095) + (shrK .u64 (bits .and .u64 (IntKind.u64.wrap ((shrK .u64 (IntKind.u64.wrap ((bits .and .u64 (shrK .u64 (IntKind.u64.wrap ((bits .and .u64 (shrK .u64 x 1) 6148914691236517205) + (bits .and .u64 x 6148914691236517205))) 2) 3689348814741910323) + (bits .and .u64 (IntKind.u64.wrap ((bits .and .u64 (shrK .u64 x 1) 6148914691236517205) + (bits .and .u64 x 6148914691236517205))) 3689348814741910323))) 4) + (IntKind.u64.wrap ((bits .and .u64 (shrK .u64 (IntKind.u64.wrap ((bits .and .u64 (shrK .u64 x 1) 6148914691236517205) + (bits .and .u64 x 6148914691236517205))) 2) 3689348814741910323) + (bits .and .u64 (IntKind.u64.wrap ((bits .and .u64 (shrK .u64 x 1) 6148914691236517205) + (bits .and .u64 x 6148914691236517205))) 3689348814741910323))))) 1085102592571150095) 8))) 16)) rfl rfl rfl) <| sQ 0 (yg (.int .u64 (IntKind.u64.wrap ((IntKind.u64.wrap ((bits .and .u64 (IntKind.u64.wrap ((shrK .u64 (IntKind.u64.wrap ((bits .and .u64 (shrK .u64 (IntKind.u64.wrap ((bits .and .u64 (shrK .u64 x 1) 6148914691236517205) + (bits .and .u64 x 6148914691236517205))) 2) 3689348814741910323) + (bits .and .u64 (IntKind.u64.wrap ((bits .and .u64 (shrK .u64 x 1) 6148914691236517205) + (bits .and .u64 x 6148914691236517205))) 3689348814741910323))) 4) + (IntKind.u64.wrap ((bits .and .u64 (shrK .u64 (IntKind.u64.wrap ((bits .and .u64 (shrK .u64 x 1) 6148914691236517205) + (bits .and .u64 x 6148914691236517205))) 2) 3689348814741910323) + (bits .and .u64 (IntKind.u64.wrap ((bits .and .u64 (shrK .u64 x 1) 6148914691236517205) + (bits .and .u64 x 6148914691236517205))) 3689348814741910323))))) 1085102592571150095) + (shrK .u64 (bits .and .u64 (IntKind.u64.wrap ((shrK .u64 (IntKind.u64.wrap ((bits .and .u64 (shrK .u64 (IntKind.u64.wrap ((bits .and .u64 (shrK .u64 x 1) 6148914691236517205) + (bits .and .u64 x 6148914691236517205))) 2) 3689348814741910323) + (bits .and .u64 (IntKind.u64.wrap ((bits .and .u64 (shrK .u64 x 1) 6148914691236517205) + (bits .and .u64 x 6148914691236517205))) 3689348814741910323))) 4) + (IntKind.u64.wrap ((bits .and .u64 (shrK .u64 (IntKind.u64.wrap ((bits .and .u64 (shrK .u64 x 1) 6148914691236517205) + (bits .and .u64 x 6148914691236517205))) 2) 3689348814741910323) + (bits .and .u64 (IntKind.u64.wrap ((bits .and .u64 (shrK .u64 x 1) 6148914691236517205) + (bits .and .u64 x 6148914691236517205))) 3689348814741910323))))) 1085102592571150095) 8))) + (shrK .u64 (IntKind.u64.wrap ((bits .and .u64 (IntKind.u64.wrap ((shrK .u64 (IntKind.u64.wrap ((bits .and .u64 (shrK .u64 (IntKind.u64.wrap ((bits .and .u64 (shrK .u64 x 1) 6148914691236517205) + (bits .and .u64 x 6148914691236517205))) 2) 3689348814741910323) + (bits .and .u64 (IntKind.u64.wrap ((bits .and .u64 (shrK .u64 x 1) 6148914691236517205) + (bits .and .u64 x 6148914691236517205))) 3689348814741910323))) 4) + (IntKind.u64.wrap ((bits .and .u64 (shrK .u64 (IntKind.u64.wrap ((bits .and .u64 (shrK .u64 x 1) 6148914691236517205) + (bits .and .u64 x 6148914691236517205))) 2) 3689348814741910323) + (bits .and .u64 (IntKind.u64.wrap ((bits .and .u64 (shrK .u64 x 1) 6148914691236517205) + (bits .and .u64 x 6148914691236517205))) 3689348814741910323))))) 1085102592571150095) + (shrK .u64 (bits .and .u64 (IntKind.u64.wrap ((shrK .u64 (IntKind.u64.wrap ((bits .and .u64 (shrK .u64 (IntKind.u64.wrap ((bits .and .u64 (shrK .u64 x 1) 6148914691236517205) + (bits .and .u64 x 6148914691236517205))) 2) 3689348814741910323) + (bits .and .u64 (IntKind.u64.wrap ((bits .and .u64 (shrK .u64 x 1) 6148914691236517205) + (bits .and .u64 x 6148914691236517205))) 3689348814741910323))) 4) + (IntKind.u64.wrap ((bits .and .u64 (shrK .u64 (IntKind.u64.wrap ((bits .and .u64 (shrK .u64 x 1) 6148914691236517205) + (bits .and .u64 x 6148914691236517205))) 2) 3689348814741910323) + (bits .and .u64 (IntKind.u64.wrap ((bits .and .u64 (shrK .u64 x 1) 6148914691236517205) + (bits .and .u64 x 6148914691236517205))) 3689348814741910323))))) 1085102592571150095) 8))) 16))))) (rn (cq (cr ?_)))
 refine sQ 28 (ym (.int .u64 (IntKind.u64.wrap ((IntKind.u64.wrap ((bits .and .u64 (IntKind.u64.wrap ((shrK .u64 (IntKind.u64.wrap ((bits .and .u64 (shrK .u64 (IntKind.u64.wrap ((bits .and .u64 (shrK .u64 x 1) 6148914691236517205) + (bits .and .u64 x 6148914691236517205))) 2) 3689348814741910323) + (bits .and .u64 (IntKind.u64.wrap ((bits .and .u64 (shrK .u64 x 1) 6148914691236517205) + (bits .and .u64 x 6148914691236517205))) 3689348814741910323))) 4) + (IntKind.u64.wrap ((bits .and .u64 (shrK .u64 (IntKind.u64.wrap ((bits .and .u64 (shrK .u64 x 1) 6148914691236517205) + (bits .and .u64 x 6148914691236517205))) 2) 3689348814741910323) + (bits .and .u64 (IntKind.u64.wrap ((bits .and .u64 (shrK .u64 x 1) 6148914691236517205) + (bits .and .u64 x 6148914691236517205))) 3689348814741910323))))) 1085102592571150095) + (shrK .u64 (bits .and .u64 (IntKind.u64.wrap ((shrK .u64 (IntKind.u64.wrap ((bits .and .u64 (shrK .u64 (IntKind.u64.wrap ((bits .and .u64 (shrK .u64 x 1) 6148914691236517205) + (bits .and .u64 x 6148914691236517205))) 2) 3689348814741910323) + (bits .and .u64 (IntKind.u64.wrap ((bits .and .u64 (shrK .u64 x 1) 6148914691236517205) + (bits .and .u64 x 6148914691236517205))) 3689348814741910323))) 4) + (IntKind.u64.wrap ((bits .and .u64 (shrK .u64 (IntKind.u64.wrap ((bits .and .u64 (shrK .u64 x 1) 6148914691236517205) + (bits .and .u64 x 6148914691236517205))) 2) 3689348814741910323) + (bits .and .u64 (IntKind.u64.wrap ((bits .and .u64 (shrK .u64 x 1) 6148914691236517205) + (bits .and .u64 x 6148914691236517205))) 3689348814741910323))))) 1085102592571150095) 8))) + (shrK .u64 (IntKind.u64.wrap ((bits .and .u64 (IntKind.u64.wrap ((shrK .u64 (IntKind.u64.wrap ((bits .and .u64 (shrK .u64 (IntKind.u64.wrap ((bits .and .u64 (shrK .u64 x 1) 6148914691236517205) + (bits .and .u64 x 6148914691236517205))) 2) 3689348814741910323) + (bits .and .u64 (IntKind.u64.wrap ((bits .and .u64 (shrK .u64 x 1) 6148914691236517205) + (bits .and .u64 x 6148914691236517205))) 3689348814741910323))) 4) + (IntKind.u64.wrap ((bits .and .u64 (shrK .u64 (IntKind.u64.wrap ((bits .and .u64 (shrK .u64 x 1) 6148914691236517205) + (bits .and .u64 x 6148914691236517205))) 2) 3689348814741910323) + (bits .and .u64 (IntKind.u64.wrap ((bits .and .u64 (shrK .u64 x 1) 6148914691236517205) + (bits .and .u64 x 6148914691236517205))) 3689348814741910323))))) 1085102592571150095) + (shrK .u64 (bits .and .u64 (IntKind.u64.wrap ((shrK .u64 (IntKind.u64.wrap ((bits .and .u64 (shrK .u64 (IntKind.u64.wrap ((bits .and .u64 (shrK .u64 x 1) 6148914691236517205) + (bits .and .u64 x 6148914691236517205))) 2) 3689348814741910323) + (bits .and .u64 (IntKind.u64.wrap ((bits .and .u64 (shrK .u64 x 1) 6148914691236517205) + (bits .and .u64 x 6148914691236517205))) 3689348814741910323))) 4) + (IntKind.u64.wrap ((bits .and .u64 (shrK .u64 (IntKind.u64.wrap ((bits .and .u64 (shrK .u64 x 1) 6148914691236517205) + (bits .and .u64 x 6148914691236517205))) 2) 3689348814741910323) + (bits .and .u64 (IntKind.u64.wrap ((bits .and .u64 (shrK .u64 x 1) 6148914691236517205) + (bits .and .u64 x 6148914691236517205))) 3689348814741910323))))) 1085102592571150095) 8))) 16))))) <| sQ 29 (ym (.int .u64 (IntKind.u64.wrap ((IntKind.u64.wrap ((bits .and .u64 (IntKind.u64.wrap ((shrK .u64 (IntKind.u64.wrap ((bits .and .u64 (shrK .u64 (IntKind.u64.wrap ((bits .and .u64 (shrK .u64 x 1) 6148914691236517205) + (bits .and .u64 x 6148914691236517205))) 2) 3689348814741910323) + (bits .and .u64 (IntKind.u64.wrap ((bits .and .u64 (shrK .u64 x 1) 6148914691236517205) + (bits .and .u64 x 6148914691236517205))) 3689348814741910323))) 4) + (IntKind.u64.wrap ((bits .and .u64 (shrK .u64 (IntKind.u64.wrap ((bits .and .u64 (shrK .u64 x 1) 6148914691236517205) + (bits .and .u64 x 6148914691236517205))) 2) 3689348814741910323) + (bits .and .u64 (IntKind.u64.wrap ((bits .and .u64 (shrK .u64 x 1) 6148914691236517205) + (bits .and .u64 x 6148914691236517205))) 3689348814741910323))))) 1085102592571150095) + (shrK .u64 (bits .and .u64 (IntKind.u64.wrap ((shrK .u64 (IntKind.u64.wrap ((bits .and .u64 (shrK .u64 (IntKind.u64.wrap ((bits .and .u64 (shrK .u64 x 1) 6148914691236517205) + (bits .and .u64 x 6148914691236517205))) 2) 3689348814741910323) + (bits .and .u64 (IntKind.u64.wrap ((bits .and .u64 (shrK .u64 x 1) 6148914691236517205) + (bits .and .u64 x 6148914691236517205))) 3689348814741910323))) 4) + (IntKind.u64.wrap ((bits .and .u64 (shrK .u64 (IntKind.u64.wrap ((bits .and .u64 (shrK .u64 x 1) 6148914691236517205) + (bits .and .u64 x 6148914691236517205))) 2) 3689348814741910323) + (bits .and .u64 (IntKind.u64.wrap ((bits .and .u64 (shrK .u64 x 1) 6148914691236517205) + (bits .and .u64 x 6148914691236517205))) 3689348814741910323))))) 1085102592571150095) 8))) + (shrK .u64 (IntKind.u64.wrap ((bits .and .u64 (IntKind.u64.wrap ((shrK .u64 (IntKind.u64.wrap ((bits .and .u64 (shrK .u64 (IntKind.u64.wrap ((bits .and .u64 (shrK .u64 x 1) 6148914691236517205) + (bits .and .u64 x 6148914691236517205))) 2) 3689348814741910323) + (bits .and .u64 (IntKind.u64.wrap ((bits .and .u64 (shrK .u64 x 1) 6148914691236517205) + (bits .and .u64 x 6148914691236517205))) 3689348814741910323))) 4) + (IntKind.u64.wrap ((bits .and .u64 (shrK .u64 (IntKind.u64.wrap ((bits .and .u64 (shrK .u64 x 1) 6148914691236517205) + (bits .and .u64 x 6148914691236517205))) 2) 3689348814741910323) + (bits .and .u64 (IntKind.u64.wrap ((bits .and .u64 (shrK .u64 x 1) 6148914691236517205) + (bits .and .u64 x 6148914691236517205))) 3689348814741910323))))) 1085102592571150095) + (shrK .u64 (bits .and .u64 (IntKind.u64.wrap ((shrK .u64 (IntKind.u64.wrap ((bits .and .u64 (shrK .u64 (IntKind.u64.wrap ((bits .and .u64 (shrK .u64 x 1) 6148914691236517205) + (bits .and .u64 x 6148914691236517205))) 2) 3689348814741910323) + (bits .and .u64 (IntKind.u64.wrap ((bits .and .u64 (shrK .u64 x 1) 6148914691236517205) + (bits .and .u64 x 6148914691236517205))) 3689348814741910323))) 4) + (IntKind.u64.wrap ((bits .and .u64 (shrK .u64 (IntKind.u64.wrap ((bits .and .u64 (shrK .u64 x 1) 6148914691236517205) + (bits .and .u64 x 6148914691236517205))) 2) 3689348814741910323) + (bits .and .u64 (IntKind.u64.wrap ((bits .and .u64 (shrK .u64 x 1) 6148914691236517205) + (bits .and .u64 x 6148914691236517205))) 3689348814741910323))))) 1085102592571150095) 8))) 16))))) <| sQ 30 (Y_shr (k := .u64) (a := (IntKind.u64.wrap ((IntKind.u64.wrap ((bits .and .u64 (IntKind.u64.wrap ((shrK .u64 (IntKind.u64.wrap ((bits .and .u64 (shrK .u64 (IntKind.u64.wrap ((bits .and .u64 (shrK .u64 x 1) 6148914691236517205) + (bits .and .u64 x 6148914691236517205))) 2) 3689348814741910323) + (bits .and .u64 (IntKind.u64.wrap ((bits .and .u64 (shrK .u64 x 1) 6148914691236517205) + (bits .and .u64 x 6148914691236517205))) 3689348814741910323))) 4) + (IntKind.u64.wrap ((bits .and .u64 (shrK .u64 (IntKind.u64.wrap ((bits .and .u64 (shrK .u64 x 1) 6148914691236517205) + (bits .and .u64 x 6148914691236517205))) 2) 3689348814741910323) + (bits .and .u64 (IntKind.u64.wrap ((bits .and .u64 (shrK .u64 x 1) 6148914691236517205) + (bits .and .u64 x 6148914691236517205))) 3689348814741910323))))) 1085102592571150095) + (shrK .u64 (bits .and .u64 (IntKind.u64.wrap ((shrK .u64 (IntKind.u64.wrap ((bits .and .u64 (shrK .u64 (IntKind.u64.wrap ((bits .and .u64 (shrK .u64 x 1) 6148914691236517205) + (bits .and .u64 x 6148914691236517205))) 2) 3689348814741910323) + (bits .and .u64 (IntKind.u64.wrap ((bits .and .u64 (shrK .u64 x 1) 6148914691236517205) + (bits .and .u64 x 6148914691236517205))) 3689348814741910323))) 4) + (IntKind.u64.wrap ((bits .and .u64 (shrK .u64 (IntKind.u64.wrap ((bits .and .u64 (shrK .u64 x 1) 6148914691236517205) + (bits .and .u64 x 6148914691236517205))) 2) 3689348814741910323) + (bits .and .u64 (IntKind.u64.wrap ((bits .and .u64 (shrK .u64 x 1) 6148914691236517205) + (bits .and .u64 x 6148914691236517205))) 3689348814741910323))))) 1085102592571150095) 8))) + (shrK .u64 (IntKind.u64.wrap ((bits .and .u64 (IntKind.u64.wrap ((shrK .u64 (IntKind.u64.wrap ((bits .and .u64 (shrK .u64 (IntKind.u64.wrap ((bits .and .u64 (shrK .u64 x 1) 6148914691236517205) + (bits .and .u64 x 6148914691236517205))) 2) 3689348814741910323) + (bits .and .u64 (IntKind.u64.wrap ((bits .and .u64 (shrK .u64 x 1) 6148914691236517205) + (bits .and .u64 x 6148914691236517205))) 3689348814741910323))) 4) + (IntKind.u64.wrap ((bits .and .u64 (shrK .u64 (IntKind.u64.wrap ((bits .and .u64 (shrK .u64 x 1) 6148914691236517205) + (bits .and .u64 x 6148914691236517205))) 2) 3689348814741910323) + (bits .and .u64 (IntKind.u64.wrap ((bits .and .u64 (shrK .u64 x 1) 6148914691236517205) + (bits .and .u64 x 6148914691236517205))) 3689348814741910323))))) 1085102592571150095) + (shrK .u64 (bits .and .u64 (IntKind.u64.wrap ((shrK .u64 (IntKind.u64.wrap ((bits .and .u64 (shrK .u64 (IntKind.u64.wrap ((bits .and .u64 (shrK .u64 x 1) 6148914691236517205) + (bits .and .u64 x 6148914691236517205))) 2) 3689348814741910323) + (bits .and .u64 (IntKind.u64.wrap ((bits .and .u64 (shrK .u64 x 1) 6148914691236517205) + (bits .and .u64 x 6148914691236517205))) 3689348814741910323))) 4) + (IntKind.u64.wrap ((bits .and .u64 (shrK .u64 (IntKind.u64.wrap ((bits .and .u64 (shrK .u64 x 1) 6148914691236517205) + (bits .and .u64 x 6148914691236517205))) 2) 3689348814741910323) + (bits .and .u64 (IntKind.u64.wrap ((bits .and .u64 (shrK .u64 x 1) 6148914691236517205) + (bits .and .u64 x 6148914691236517205))) 3689348814741910323))))) 1085102592571150095) 8))) 16)))) (k' := .u64) (b := 32) rfl rfl rfl (by decide)) <| sQ 31 (Y_add (k := .u64) (a := (IntKind.u64.wrap ((IntKind.u64.wrap ((bits .and .u64 (IntKind.u64.wrap ((shrK .u64 (IntKind.u64.wrap ((bits .and .u64 (shrK .u64 (IntKind.u64.wrap ((bits .and .u64 (shrK .u64 x 1) 6148914691236517205) + (bits .and .u64 x 6148914691236517205))) 2) 3689348814741910323) + (bits .and .u64 (IntKind.u64.wrap ((bits .and .u64 (shrK .u64 x 1) 6148914691236517205) + (bits .and .u64 x 6148914691236517205))) 3689348814741910323))) 4) + (IntKind.u64.wrap ((bits .and .u64 (shrK .u64 (IntKind.u64.wrap ((bits .and .u64 (shrK .u64 x 1) 6148914691236517205) + (bits .and .u64 x 6148914691236517205))) 2) 3689348814741910323) + (bits .and .u64 (IntKind.u64.wrap ((bits .and .u64 (shrK .u64 x 1) 6148914691236517205) + (bits .and .u64 x 6148914691236517205))) 3689348814741910323))))) 1085102592571150095) + (shrK .u64 (bits .and .u64 (IntKind.u64.wrap ((shrK .u64 (IntKind.u64.wrap ((bits .and .u64 (shrK .u64 (IntKind.u64.wrap ((bits .and .u64 (shrK .u64 x 1) 6148914691236517205) + (bits .and .u64 x 6148914691236517205))) 2) 3689348814741910323) + (bits .and .u64 (IntKind.u64.wrap ((bits .and .u64 (shrK .u64 x 1) 6148914691236517205) + (bits .and .u64 x 6148914691236517205))) 3689348814741910323))) 4) + (IntKind.u64.wrap ((bits .and .u64 (shrK .u64 (IntKind.u64.wrap ((bits .and .u64 (shrK .u64 x 1) 6148914691236517205) + (bits .and .u64 x 6148914691236517205))) 2) 3689348814741910323) + (bits .and .u64 (IntKind.u64.wrap ((bits .and .u64 (shrK .u64 x 1) 6148914691236517205) + (bits .and .u64 x 6148914691236517205))) 3689348814741910323))))) 1085102592571150095) 8))) + (shrK .u64 (IntKind.u64.wrap ((bits .and .u64 (IntKind.u64.wrap ((shrK .u64 (IntKind.u64.wrap ((bits .and .u64 (shrK .u64 (IntKind.u64.wrap ((bits .and .u64 (shrK .u64 x 1) 6148914691236517205) + (bits .and .u64 x 6148914691236517205))) 2) 3689348814741910323) + (bits .and .u64 (IntKind.u64.wrap ((bits .and .u64 (shrK .u64 x 1) 6148914691236517205) + (bits .and .u64 x 6148914691236517205))) 3689348814741910323))) 4) + (IntKind.u64.wrap ((bits .and .u64 (shrK .u64 (IntKind.u64.wrap ((bits .and .u64 (shrK .u64 x 1) 6148914691236517205) + (bits .and .u64 x 6148914691236517205))) 2) 3689348814741910323) + (bits .and .u64 (IntKind.u64.wrap ((bits .and .u64 (shrK .u64 x 1) 6148914691236517205) + (bits .and .u64 x 6148914691236517205))) 3689348814741910323))))) 1085102592571150095) + (shrK .u64 (bits .and .u64 (IntKind.u64.wrap ((shrK .u64 (IntKind.u64.wrap ((bits .and .u64 (shrK .u64 (IntKind.u64.wrap ((bits .and .u64 (shrK .u64 x 1) 6148914691236517205) + (bits .and .u64 x 6148914691236517205))) 2) 3689348814741910323) + (bits .and .u64 (IntKind.u64.wrap ((bits .and .u64 (shrK .u64 x 1) 6148914691236517205) + (bits .and .u64 x 6148914691236517205))) 3689348814741910323))) 4) + (IntKind.u64.wrap ((bits .and .u64 (shrK .u64 (IntKind.u64.wrap ((bits .and .u64 (shrK .u64 x 1) 6148914691236517205) + (bits .and .u64 x 6148914691236517205))) 2) 3689348814741910323) + (bits .and .u64 (IntKind.u64.wrap ((bits .and .u64 (shrK .u64 x 1) 6148914691236517205) + (bits .and .u64 x 6148914691236517205))) 3689348814741910323))))) 1085102592571150095) 8))) 16)))) (b := (shrK .u64 (IntKind.u64.wrap ((IntKind.u64.wrap ((bits .and .u64 (IntKind.u64.wrap ((shrK .u64 (IntKind.u64.wrap ((bits .and .u64 (shrK .u64 (IntKind.u64.wrap ((bits .and .u64 (shrK .u64 x 1) 6148914691236517205) + (bits .and .u64 x 6148914691236517205))) 2) 3689348814741910323) + (bits .and .u64 (IntKind.u64.wrap ((bits .and .u64 (shrK .u64 x 1) 6148914691236517205) + (bits .and .u64 x 6148914691236517205))) 3689348814741910323))) 4) + (IntKind.u64.wrap ((bits .and .u64 (shrK .u64 (IntKind.u64.wrap ((bits .and .u64 (shrK .u64 x 1) 6148914691236517205) + (bits .and .u64 x 6148914691236517205))) 2) 3689348814741910323) + (bits .and .u64 (IntKind.u64.wrap ((bits .and .u64 (shrK .u64 x 1) 6148914691236517205) + (bits .and .u64 x 6148914691236517205))) 3689348814741910323))))) 1085102592571150095) + (shrK .u64 (bits .and .u64 (IntKind.u64.wrap ((shrK .u64 (IntKind.u64.wrap ((bits .and .u64 (shrK .u64 (IntKind.u64.wrap ((bits .and .u64 (shrK .u64 x 1) 6148914691236517205) + (bits .and .u64 x 6148914691236517205))) 2) 3689348814741910323) + (bits .and .u64 (IntKind.u64.wrap ((bits .and .u64 (shrK .u64 x 1) 6148914691236517205) + (bits .and .u64 x 6148914691236517205))) 3689348814741910323))) 4) + (IntKind.u64.wrap ((bits .and .u64 (shrK .u64 (IntKind.u64.wrap ((bits .and .u64 (shrK .u64 x 1) 6148914691236517205) + (bits .and .u64 x 6148914691236517205))) 2) 3689348814741910323) + (bits .and .u64 (IntKind.u64.wrap ((bits .and .u64 (shrK .u64 x 1) 6148914691236517205) + (bits .and .u64 x 6148914691236517205))) 3689348814741910323))))) 1085102592571150095) 8))) + (shrK .u64 (IntKind.u64.wrap ((bits .and .u64 (IntKind.u64.wrap ((shrK .u64 (IntKind.u64.wrap ((bits .and .u64 (shrK .u64 (IntKind.u64.wrap ((bits .and .u64 (shrK .u64 x 1) 6148914691236517205) + (bits .and .u64 x 6148914691236517205))) 2) 3689348814741910323) + (bits .and .u64 (IntKind.u64.wrap ((bits .and .u64 (shrK .u64 x 1) 6148914691236517205) + (bits .and .u64 x 6148914691236517205))) 3689348814741910323))) 4) + (IntKind.u64.wrap ((bits .and .u64 (shrK .u64 (IntKind.u64.wrap ((bits .and .u64 (shrK .u64 x 1) 6148914691236517205) + (bits .and .u64 x 6148914691236517205))) 2) 3689348814741910323) + (bits .and .u64 (IntKind.u64.wrap ((bits .and .u64 (shrK .u64 x 1) 6148914691236517205) + (bits .and .u64 x 6148914691236517205))) 3689348814741910323))))) 1085102592571150095) + (shrK .u64 (bits .and .u64 (IntKind.u64.wrap ((shrK .u64 (IntKind.u64.wrap ((bits .and .u64 (shrK .u64 (IntKind.u64.wrap ((bits .and .u64 (shrK .u64 x 1) 6148914691236517205) + (bits .and .u64 x 6148914691236517205))) 2) 3689348814741910323) + (bits .and .u64 (IntKind.u64.wrap ((bits .and .u64 (shrK .u64 x 1) 6148914691236517205) + (bits .and .u64 x 6148914691236517205))) 3689348814741910323))) 4) + (IntKind.u64.wrap ((bits .and .u64 (shrK .u64 (IntKind.u64.wrap ((bits .and .u64 (shrK .u64 x 1) 6148914691236517205) + (bits .and .u64 x 6148914691236517205))) 2) 3689348814741910323) + (bits .and .u64 (IntKind.u64.wrap ((bits .and .u64 (shrK .u64 x 1) 6148914691236517205) + (bits .and .u64 x 6148914691236517205))) 3689348814741910323))))) 1085102592571150095) 8))) 16))) 32)) rfl rfl rfl) <| sQ 0 (yg (.int .u64 (IntKind.u64.wrap ((IntKind.u64.wrap ((IntKind.u64.wrap ((bits .and .u64 (IntKind.u64.wrap ((shrK .u64 (IntKind.u64.wrap ((bits .and .u64 (shrK .u64 (IntKind.u64.wrap ((bits .and .u64 (shrK .u64 x 1) 6148914691236517205) + (bits .and .u64 x 6148914691236517205))) 2) 3689348814741910323) + (bits .and .u64 (IntKind.u64.wrap ((bits .and .u64 (shrK .u64 x 1) 6148914691236517205) + (bits .and .u64 x 6148914691236517205))) 3689348814741910323))) 4) + (IntKind.u64.wrap ((bits .and .u64 (shrK .u64 (IntKind.u64.wrap ((bits .and .u64 (shrK .u64 x 1) 6148914691236517205) + (bits .and .u64 x 6148914691236517205))) 2) 3689348814741910323) + (bits .and .u64 (IntKind.u64.wrap ((bits .and .u64 (shrK .u64 x 1) 6148914691236517205) + (bits .and .u64 x 6148914691236517205))) 3689348814741910323))))) 1085102592571150095) + (shrK .u64 (bits .and .u64 (IntKind.u64.wrap ((shrK .u64 (IntKind.u64.wrap ((bits .and .u64 (shrK .u64 (IntKind.u64.wrap ((bits .and .u64 (shrK .u64 x 1) 6148914691236517205) + (bits .and .u64 x 6148914691236517205))) 2) 3689348814741910323) + (bits .and .u64 (IntKind.u64.wrap ((bits .and .u64 (shrK .u64 x 1) 6148914691236517205) + (bits .and .u64 x 6148914691236517205))) 3689348814741910323))) 4) + (IntKind.u64.wrap ((bits .and .u64 (shrK .u64 (IntKind.u64.wrap ((bits .and .u64 (shrK .u64 x 1) 6148914691236517205) + (bits .and .u64 x 6148914691236517205))) 2) 3689348814741910323) + (bits .and .u64 (IntKind.u64.wrap ((bits .and .u64 (shrK .u64 x 1) 6148914691236517205) + (bits .and .u64 x 6148914691236517205))) 3689348814741910323))))) 1085102592571150095) 8))) + (shrK .u64 (IntKind.u64.wrap ((bits .and .u64 (IntKind.u64.wrap ((shrK .u64 (IntKind.u64.wrap ((bits .and .u64 (shrK .u64 (IntKind.u64.wrap ((bits .and .u64 (shrK .u64 x 1) 6148914691236517205) + (bits .and .u64 x 6148914691236517205))) 2) 3689348814741910323) + (bits .and .u64 (IntKind.u64.wrap ((bits .and .u64 (shrK .u64 x 1) 6148914691236517205) + (bits .and .u64 x 6148914691236517205))) 3689348814741910323))) 4) + (IntKind.u64.wrap ((bits .and .u64 (shrK .u64 (IntKind.u64.wrap ((bits .and .u64 (shrK .u64 x 1) 6148914691236517205) + (bits .and .u64 x 6148914691236517205))) 2) 3689348814741910323) + (bits .and .u64 (IntKind.u64.wrap ((bits .and .u64 (shrK .u64 x 1) 6148914691236517205) + (bits .and .u64 x 6148914691236517205))) 3689348814741910323))))) 1085102592571150095) + (shrK .u64 (bits .and .u64 (IntKind.u64.wrap ((shrK .u64 (IntKind.u64.wrap ((bits .and .u64 (shrK .u64 (IntKind.u64.wrap ((bits .and .u64 (shrK .u64 x 1) 6148914691236517205) + (bits .and .u64 x 6148914691236517205))) 2) 3689348814741910323) + (bits .and .u64 (IntKind.u64.wrap ((bits .and .u64 (shrK .u64 x 1) 6148914691236517205) + (bits .and .u64 x 6148914691236517205))) 3689348814741910323))) 4) + (IntKind.u64.wrap ((bits .and .u64 (shrK .u64 (IntKind.u64.wrap ((bits .and .u64 (shrK .u64 x 1) 6148914691236517205) + (bits .and .u64 x 6148914691236517205))) 2) 3689348814741910323) + (bits .and .u64 (IntKind.u64.wrap ((bits .and .u64 (shrK .u64 x 1) 6148914691236517205) + (bits .and .u64 x 6148914691236517205))) 3689348814741910323))))) 1085102592571150095) 8))) 16))) + (shrK .u64 (IntKind.u64.wrap ((IntKind.u64.wrap ((bits .and .u64 (IntKind.u64.wrap ((shrK .u64 (IntKind.u64.wrap ((bits .and .u64 (shrK .u64 (IntKind.u64.wrap ((bits .and .u64 (shrK .u64 x 1) 6148914691236517205) + (bits .and .u64 x 6148914691236517205))) 2) 3689348814741910323) + (bits .and .u64 (IntKind.u64.wrap ((bits .and .u64 (shrK .u64 x 1) 6148914691236517205) + (bits .and .u64 x 6148914691236517205))) 3689348814741910323))) 4) + (IntKind.u64.wrap ((bits .and .u64 (shrK .u64 (IntKind.u64.wrap ((bits .and .u64 (shrK .u64 x 1) 6148914691236517205) + (bits .and .u64 x 6148914691236517205))) 2) 3689348814741910323) + (bits .and .u64 (IntKind.u64.wrap ((bits .and .u64 (shrK .u64 x 1) 6148914691236517205) + (bits .and .u64 x 6148914691236517205))) 3689348814741910323))))) 1085102592571150095) + (shrK .u64 (bits .and .u64 (IntKind.u64.wrap ((shrK .u64 (IntKind.u64.wrap ((bits .and .u64 (shrK .u64 (IntKind.u64.wrap ((bits .and .u64 (shrK .u64 x 1) 6148914691236517205) + (bits .and .u64 x 6148914691236517205))) 2) 3689348814741910323) + (bits .and .u64 (IntKind.u64.wrap ((bits .and .u64 (shrK .u64 x 1) 6148914691236517205) + (bits .and .u64 x 6148914691236517205))) 3689348814741910323))) 4) + (IntKind.u64.wrap ((bits .and .u64 (shrK .u64 (IntKind.u64.wrap ((bits .and .u64 (shrK .u64 x 1) 6148914691236517205) + (bits .and .u64 x 6148914691236517205))) 2) 3689348814741910323) + (bits .and .u64 (IntKind.u64.wrap ((bits .and .u64 (shrK .u64 x 1) 6148914691236517205) + (bits .and .u64 x 6148914691236517205))) 3689348814741910323))))) 1085102592571150095) 8))) + (shrK .u64 (IntKind.u64.wrap ((bits .and .u64 (IntKind.u64.wrap ((shrK .u64 (IntKind.u64.wrap ((bits .and .u64 (shrK .u64 (IntKind.u64.wrap ((bits .and .u64 (shrK .u64 x 1) 6148914691236517205) + (bits .and .u64 x 6148914691236517205))) 2) 3689348814741910323) + (bits .and .u64 (IntKind.u64.wrap ((bits .and .u64 (shrK .u64 x 1) 6148914691236517205) + (bits .and .u64 x 6148914691236517205))) 3689348814741910323))) 4) + (IntKind.u64.wrap ((bits .and .u64 (shrK .u64 (IntKind.u64.wrap ((bits .and .u64 (shrK .u64 x 1) 6148914691236517205) + (bits .and .u64 x 6148914691236517205))) 2) 3689348814741910323) + (bits .and .u64 (IntKind.u64.wrap ((bits .and .u64 (shrK .u64 x 1) 6148914691236517205) + (bits .and .u64 x 6148914691236517205))) 3689348814741910323))))) 1085102592571150095) + (shrK .u64 (bits .and .u64 (IntKind.u64.wrap ((shrK .u64 (IntKind.u64.wrap ((bits .and .u64 (shrK .u64 (IntKind.u64.wrap ((bits .and .u64 (shrK .u64 x 1) 6148914691236517205) + (bits .and .u64 x 6148914691236517205))) 2) 3689348814741910323) + (bits .and .u64 (IntKind.u64.wrap ((bits .and .u64 (shrK .u64 x 1) 6148914691236517205) + (bits .and .u64 x 6148914691236517205))) 3689348814741910323))) 4) + (IntKind.u64.wrap ((bits .and .u64 (shrK .u64 (IntKind.u64.wrap ((bits .and .u64 (shrK .u64 x 1) 6148914691236517205) + (bits .and .u64 x 6148914691236517205))) 2) 3689348814741910323) + (bits .and .u64 (IntKind.u64.wrap ((bits .and .u64 (shrK .u64 x 1) 6148914691236517205) + (bits .and .u64 x 6148914691236517205))) 3689348814741910323))))) 1085102592571150095) 8))) 16))) 32))))) (rn (cq (cr ?_)))
 refine sQ 32 (ym (.int .u64 (IntKind.u64.wrap ((IntKind.u64.wrap ((IntKind.u64.wrap ((bits .and .u64 (IntKind.u64.wrap ((shrK .u64 (IntKind.u64.wrap ((bits .and .u64 (shrK .u64 (IntKind.u64.wrap ((bits .and .u64 (shrK .u64 x 1) 6148914691236517205) + (bits .and .u64 x 6148914691236517205))) 2) 3689348814741910323) + (bits .and .u64 (IntKind.u64.wrap ((bits .and .u64 (shrK .u64 x 1) 6148914691236517205) + (bits .and .u64 x 6148914691236517205))) 3689348814741910323))) 4) + (IntKind.u64.wrap ((bits .and .u64 (shrK .u64 (IntKind.u64.wrap ((bits .and .u64 (shrK .u64 x 1) 6148914691236517205) + (bits .and .u64 x 6148914691236517205))) 2) 3689348814741910323) + (bits .and .u64 (IntKind.u64.wrap ((bits .and .u64 (shrK .u64 x 1) 6148914691236517205) + (bits .and .u64 x 6148914691236517205))) 3689348814741910323))))) 1085102592571150095) + (shrK .u64 (bits .and .u64 (IntKind.u64.wrap ((shrK .u64 (IntKind.u64.wrap ((bits .and .u64 (shrK .u64 (IntKind.u64.wrap ((bits .and .u64 (shrK .u64 x 1) 6148914691236517205) + (bits .and .u64 x 6148914691236517205))) 2) 3689348814741910323) + (bits .and .u64 (IntKind.u64.wrap ((bits .and .u64 (shrK .u64 x 1) 6148914691236517205) + (bits .and .u64 x 6148914691236517205))) 3689348814741910323))) 4) + (IntKind.u64.wrap ((bits .and .u64 (shrK .u64 (IntKind.u64.wrap ((bits .and .u64 (shrK .u64 x 1) 6148914691236517205) + (bits .and .u64 x 6148914691236517205))) 2) 3689348814741910323) + (bits .and .u64 (IntKind.u64.wrap ((bits .and .u64 (shrK .u64 x 1) 6148914691236517205) + (bits .and .u64 x 6148914691236517205))) 3689348814741910323))))) 1085102592571150095) 8))) + (shrK .u64 (IntKind.u64.wrap ((bits .and .u64 (IntKind.u64.wrap ((shrK .u64 (IntKind.u64.wrap ((bits .and .u64 (shrK .u64 (IntKind.u64.wrap ((bits .and .u64 (shrK .u64 x 1) 6148914691236517205) + (bits .and .u64 x 6148914691236517205))) 2) 3689348814741910323) + (bits .and .u64 (IntKind.u64.wrap ((bits .and .u64 (shrK .u64 x 1) 6148914691236517205) + (bits .and .u64 x 6148914691236517205))) 3689348814741910323))) 4) + (IntKind.u64.wrap ((bits .and .u64 (shrK .u64 (IntKind.u64.wrap ((bits .and .u64 (shrK .u64 x 1) 6148914691236517205) + (bits .and .u64 x 6148914691236517205))) 2) 3689348814741910323) + (bits .and .u64 (IntKind.u64.wrap ((bits .and .u64 (shrK .u64 x 1) 6148914691236517205) + (bits .and .u64 x 6148914691236517205))) 3689348814741910323))))) 1085102592571150095) + (shrK .u64 (bits .and .u64 (IntKind.u64.wrap ((shrK .u64 (IntKind.u64.wrap ((bits .and .u64 (shrK .u64 (IntKind.u64.wrap ((bits .and .u64 (shrK .u64 x 1) 6148914691236517205) + (bits .and .u64 x 6148914691236517205))) 2) 3689348814741910323) + (bits .and .u64 (IntKind.u64.wrap ((bits .and .u64 (shrK .u64 x 1) 6148914691236517205) + (bits .and .u64 x 6148914691236517205))) 3689348814741910323))) 4) + (IntKind.u64.wrap ((bits .and .u64 (shrK .u64 (IntKind.u64.wrap ((bits .and .u64 (shrK .u64 x 1) 6148914691236517205) + (bits .and .u64 x 6148914691236517205))) 2) 3689348814741910323) + (bits .and .u64 (IntKind.u64.wrap ((bits .and .u64 (shrK .u64 x 1) 6148914691236517205) + (bits .and .u64 x 6148914691236517205))) 3689348814741910323))))) 1085102592571150095) 8))) 16))) + (shrK .u64 (IntKind.u64.wrap ((IntKind.u64.wrap ((bits .and .u64 (IntKind.u64.wrap ((shrK .u64 (IntKind.u64.wrap ((bits .and .u64 (shrK .u64 (IntKind.u64.wrap ((bits .and .u64 (shrK .u64 x 1) 6148914691236517205) + (bits .and .u64 x 6148914691236517205))) 2) 3689348814741910323) + (bits .and .u64 (IntKind.u64.wrap ((bits .and .u64 (shrK .u64 x 1) 6148914691236517205) + (bits .and .u64 x 6148914691236517205))) 3689348814741910323))) 4) + (IntKind.u64.wrap ((bits .and .u64 (shrK .u64 (IntKind.u64.wrap ((bits .and .u64 (shrK .u64 x 1) 6148914691236517205) + (bits .and .u64 x 6148914691236517205))) 2) 3689348814741910323) + (bits .and .u64 (IntKind.u64.wrap ((bits .and .u64 (shrK .u64 x 1) 6148914691236517205) + (bits .and .u64 x 6148914691236517205))) 3689348814741910323))))) 1085102592571150095) + (shrK .u64 (bits .and .u64 (IntKind.u64.wrap ((shrK .u64 (IntKind.u64.wrap ((bits .and .u64 (shrK .u64 (IntKind.u64.wrap ((bits .and .u64 (shrK .u64 x 1) 6148914691236517205) + (bits .and .u64 x 6148914691236517205))) 2) 3689348814741910323) + (bits .and .u64 (IntKind.u64.wrap ((bits .and .u64 (shrK .u64 x 1) 6148914691236517205) + (bits .and .u64 x 6148914691236517205))) 3689348814741910323))) 4) + (IntKind.u64.wrap ((bits .and .u64 (shrK .u64 (IntKind.u64.wrap ((bits .and .u64 (shrK .u64 x 1) 6148914691236517205) + (bits .and .u64 x 6148914691236517205))) 2) 3689348814741910323) + (bits .and .u64 (IntKind.u64.wrap ((bits .and .u64 (shrK .u64 x 1) 6148914691236517205) + (bits .and .u64 x 6148914691236517205))) 3689348814741910323))))) 1085102592571150095) 8))) + (shrK .u64 (IntKind.u64.wrap ((bits .and .u64 (IntKind.u64.wrap ((shrK .u64 (IntKind.u64.wrap ((bits .and .u64 (shrK .u64 (IntKind.u64.wrap ((bits .and .u64 (shrK .u64 x 1) 6148914691236517205) + (bits .and .u64 x 6148914691236517205))) 2) 3689348814741910323) + (bits .and .u64 (IntKind.u64.wrap ((bits .and .u64 (shrK .u64 x 1) 6148914691236517205) + (bits .and .u64 x 6148914691236517205))) 3689348814741910323))) 4) + (IntKind.u64.wrap ((bits .and .u64 (shrK .u64 (IntKind.u64.wrap ((bits .and .u64 (shrK .u64 x 1) 6148914691236517205) + (bits .and .u64 x 6148914691236517205))) 2) 3689348814741910323) + (bits .and .u64 (IntKind.u64.wrap ((bits .and .u64 (shrK .u64 x 1) 6148914691236517205) + (bits .and .u64 x 6148914691236517205))) 3689348814741910323))))) 1085102592571150095) + (shrK .u64 (bits .and .u64 (IntKind.u64.wrap ((shrK .u64 (IntKind.u64.wrap ((bits .and .u64 (shrK .u64 (IntKind.u64.wrap ((bits .and .u64 (shrK .u64 x 1) 6148914691236517205) + (bits .and .u64 x 6148914691236517205))) 2) 3689348814741910323) + (bits .and .u64 (IntKind.u64.wrap ((bits .and .u64 (shrK .u64 x 1) 6148914691236517205) + (bits .and .u64 x 6148914691236517205))) 3689348814741910323))) 4) + (IntKind.u64.wrap ((bits .and .u64 (shrK .u64 (IntKind.u64.wrap ((bits .and .u64 (shrK .u64 x 1) 6148914691236517205) + (bits .and .u64 x 6148914691236517205))) 2) 3689348814741910323) + (bits .and .u64 (IntKind.u64.wrap ((bits .and .u64 (shrK .u64 x 1) 6148914691236517205) + (bits .and .u64 x 6148914691236517205))) 3689348814741910323))))) 1085102592571150095) 8))) 16))) 32))))) <| sQ 33 (Y_conv (k := .u64) (a := (IntKind.u64.wrap ((IntKind.u64.wrap ((IntKind.u64.wrap ((bits .and .u64 (IntKind.u64.wrap ((shrK .u64 (IntKind.u64.wrap ((bits .and .u64 (shrK .u64 (IntKind.u64.wrap ((bits .and .u64 (shrK .u64 x 1) 6148914691236517205) + (bits .and .u64 x 6148914691236517205))) 2) 3689348814741910323) + (bits .and .u64 (IntKind.u64.wrap ((bits .and .u64 (shrK .u64 x 1) 6148914691236517205) + (bits .and .u64 x 6148914691236517205))) 3689348814741910323))) 4) + (IntKind.u64.wrap ((bits .and .u64 (shrK .u64 (IntKind.u64.wrap ((bits .and .u64 (shrK .u64 x 1) 6148914691236517205) + (bits .and .u64 x 6148914691236517205))) 2) 3689348814741910323) + (bits .and .u64 (IntKind.u64.wrap ((bits .and .u64 (shrK .u64 x 1) 6148914691236517205) + (bits .and .u64 x 6148914691236517205))) 3689348814741910323))))) 1085102592571150095) + (shrK .u64 (bits .and .u64 (IntKind.u64.wrap ((shrK .u64 (IntKind.u64.wrap ((bits .and .u64 (shrK .u64 (IntKind.u64.wrap ((bits .and .u64 (shrK .u64 x 1) 6148914691236517205) + (bits .and .u64 x 6148914691236517205))) 2) 3689348814741910323) + (bits .and .u64 (IntKind.u64.wrap ((bits .and .u64 (shrK .u64 x 1) 6148914691236517205) + (bits .and .u64 x 6148914691236517205))) 3689348814741910323))) 4) + (IntKind.u64.wrap ((bits .and .u64 (shrK .u64 (IntKind.u64.wrap ((bits .and .u64 (shrK .u64 x 1) 6148914691236517205) + (bits .and .u64 x 6148914691236517205))) 2) 3689348814741910323) + (bits .and .u64 (IntKind.u64.wrap ((bits .and .u64 (shrK .u64 x 1) 6148914691236517205) + (bits .and .u64 x 6148914691236517205))) 3689348814741910323))))) 1085102592571150095) 8))) + (shrK .u64 (IntKind.u64.wrap ((bits .and .u64 (IntKind.u64.wrap ((shrK .u64 (IntKind.u64.wrap ((bits .and .u64 (shrK .u64 (IntKind.u64.wrap ((bits .and .u64 (shrK .u64 x 1) 6148914691236517205) + (bits .and .u64 x 6148914691236517205))) 2) 3689348814741910323) + (bits .and .u64 (IntKind.u64.wrap ((bits .and .u64 (shrK .u64 x 1) 6148914691236517205) + (bits .and .u64 x 6148914691236517205))) 3689348814741910323))) 4) + (IntKind.u64.wrap ((bits .and .u64 (shrK .u64 (IntKind.u64.wrap ((bits .and .u64 (shrK .u64 x 1) 6148914691236517205) + (bits .and .u64 x 6148914691236517205))) 2) 3689348814741910323) + (bits .and .u64 (IntKind.u64.wrap ((bits .and .u64 (shrK .u64 x 1) 6148914691236517205) + (bits .and .u64 x 6148914691236517205))) 3689348814741910323))))) 1085102592571150095) + (shrK .u64 (bits .and .u64 (IntKind.u64.wrap ((shrK .u64 (IntKind.u64.wrap ((bits .and .u64 (shrK .u64 (IntKind.u64.wrap ((bits .and .u64 (shrK .u64 x 1) 6148914691236517205) + (bits .and .u64 x 6148914691236517205))) 2) 3689348814741910323) + (bits .and .u64 (IntKind.u64.wrap ((bits .and .u64 (shrK .u64 x 1) 6148914691236517205) + (bits .and .u64 x 6148914691236517205))) 3689348814741910323))) 4) + (IntKind.u64.wrap ((bits .and .u64 (shrK .u64 (IntKind.u64.wrap ((bits .and .u64 (shrK .u64 x 1) 6148914691236517205) + (bits .and .u64 x 6148914691236517205))) 2) 3689348814741910323) + (bits .and .u64 (IntKind.u64.wrap ((bits .and .u64 (shrK .u64 x 1) 6148914691236517205) + (bits .and .u64 x 6148914691236517205))) 3689348814741910323))))) 1085102592571150095) 8))) 16))) + (shrK .u64 (IntKind.u64.wrap ((IntKind.u64.wrap ((bits .and .u64 (IntKind.u64.wrap ((shrK .u64 (IntKind.u64.wrap ((bits .and .u64 (shrK .u64 (IntKind.u64.wrap ((bits .and .u64 (shrK .u64 x 1) 6148914691236517205) + (bits .and .u64 x 6148914691236517205))) 2) 3689348814741910323) + (bits .and .u64 (IntKind.u64.wrap ((bits .and .u64 (shrK .u64 x 1) 6148914691236517205) + (bits .and .u64 x 6148914691236517205))) 3689348814741910323))) 4) + (IntKind.u64.wrap ((bits .and .u64 (shrK .u64 (IntKind.u64.wrap ((bits .and .u64 (shrK .u64 x 1) 6148914691236517205) + (bits .and .u64 x 6148914691236517205))) 2) 3689348814741910323) + (bits .and .u64 (IntKind.u64.wrap ((bits .and .u64 (shrK .u64 x 1) 6148914691236517205) + (bits .and .u64 x 6148914691236517205))) 3689348814741910323))))) 1085102592571150095) + (shrK .u64 (bits .and .u64 (IntKind.u64.wrap ((shrK .u64 (IntKind.u64.wrap ((bits .and .u64 (shrK .u64 (IntKind.u64.wrap ((bits .and .u64 (shrK .u64 x 1) 6148914691236517205) + (bits .and .u64 x 6148914691236517205))) 2) 3689348814741910323) + (bits .and .u64 (IntKind.u64.wrap ((bits .and .u64 (shrK .u64 x 1) 6148914691236517205) + (bits .and .u64 x 6148914691236517205))) 3689348814741910323))) 4) + (IntKind.u64.wrap ((bits .and .u64 (shrK .u64 (IntKind.u64.wrap ((bits .and .u64 (shrK .u64 x 1) 6148914691236517205) + (bits .and .u64 x 6148914691236517205))) 2) 3689348814741910323) + (bits .and .u64 (IntKind.u64.wrap ((bits .and .u64 (shrK .u64 x 1) 6148914691236517205) + (bits .and .u64 x 6148914691236517205))) 3689348814741910323))))) 1085102592571150095) 8))) + (shrK .u64 (IntKind.u64.wrap ((bits .and .u64 (IntKind.u64.wrap ((shrK .u64 (IntKind.u64.wrap ((bits .and .u64 (shrK .u64 (IntKind.u64.wrap ((bits .and .u64 (shrK .u64 x 1) 6148914691236517205) + (bits .and .u64 x 6148914691236517205))) 2) 3689348814741910323) + (bits .and .u64 (IntKind.u64.wrap ((bits .and .u64 (shrK .u64 x 1) 6148914691236517205) + (bits .and .u64 x 6148914691236517205))) 3689348814741910323))) 4) + (IntKind.u64.wrap ((bits .and .u64 (shrK .u64 (IntKind.u64.wrap ((bits .and .u64 (shrK .u64 x 1) 6148914691236517205) + (bits .and .u64 x 6148914691236517205))) 2) 3689348814741910323) + (bits .and .u64 (IntKind.u64.wrap ((bits .and .u64 (shrK .u64 x 1) 6148914691236517205) + (bits .and .u64 x 6148914691236517205))) 3689348814741910323))))) 1085102592571150095) + (shrK .u64 (bits .and .u64 (IntKind.u64.wrap ((shrK .u64 (IntKind.u64.wrap ((bits .and .u64 (shrK .u64 (IntKind.u64.wrap ((bits .and .u64 (shrK .u64 x 1) 6148914691236517205) + (bits .and .u64 x 6148914691236517205))) 2) 3689348814741910323) + (bits .and .u64 (IntKind.u64.wrap ((bits .and .u64 (shrK .u64 x 1) 6148914691236517205) + (bits .and .u64 x 6148914691236517205))) 3689348814741910323))) 4) + (IntKind.u64.wrap ((bits .and .u64 (shrK .u64 (IntKind.u64.wrap ((bits .and .u64 (shrK .u64 x 1) 6148914691236517205) + (bits .and .u64 x 6148914691236517205))) 2) 3689348814741910323) + (bits .and .u64 (IntKind.u64.wrap ((bits .and .u64 (shrK .u64 x 1) 6148914691236517205) + (bits .and .u64 x 6148914691236517205))) 3689348814741910323))))) 1085102592571150095) 8))) 16))) 32)))) (T := 113) (T' := 3) K115 K28 rfl rfl) <| sQ 34 (Y_band (k := .i64) (a := (i64.wrap (IntKind.u64.wrap ((IntKind.u64.wrap ((IntKind.u64.wrap ((bits .and .u64 (IntKind.u64.wrap ((shrK .u64 (IntKind.u64.wrap ((bits .and .u64 (shrK .u64 (IntKind.u64.wrap ((bits .and .u64 (shrK .u64 x 1) 6148914691236517205) + (bits .and .u64 x 6148914691236517205))) 2) 3689348814741910323) + (bits .and .u64 (IntKind.u64.wrap ((bits .and .u64 (shrK .u64 x 1) 6148914691236517205) + (bits .and .u64 x 6148914691236517205))) 3689348814741910323))) 4) + (IntKind.u64.wrap ((bits .and .u64 (shrK .u64 (IntKind.u64.wrap ((bits .and .u64 (shrK .u64 x 1) 6148914691236517205) + (bits .and .u64 x 6148914691236517205))) 2) 3689348814741910323) + (bits .and .u64 (IntKind.u64.wrap ((bits .and .u64 (shrK .u64 x 1) 6148914691236517205) + (bits .and .u64 x 6148914691236517205))) 3689348814741910323))))) 1085102592571150095) + (shrK .u64 (bits .and .u64 (IntKind.u64.wrap ((shrK .u64 (IntKind.u64.wrap ((bits .and .u64 (shrK .u64 (IntKind.u64.wrap ((bits .and .u64 (shrK .u64 x 1) 6148914691236517205) + (bits .and .u64 x 6148914691236517205))) 2) 3689348814741910323) + (bits .and .u64 (IntKind.u64.wrap ((bits .and .u64 (shrK .u64 x 1) 6148914691236517205) + (bits .and .u64 x 6148914691236517205))) 3689348814741910323))) 4) + (IntKind.u64.wrap ((bits .and .u64 (shrK .u64 (IntKind.u64.wrap ((bits .and .u64 (shrK .u64 x 1) 6148914691236517205) + (bits .and .u64 x 6148914691236517205))) 2) 3689348814741910323) + (bits .and .u64 (IntKind.u64.wrap ((bits .and .u64 (shrK .u64 x 1) 6148914691236517205) + (bits .and .u64 x 6148914691236517205))) 3689348814741910323))))) 1085102592571150095) 8))) + (shrK .u64 (IntKind.u64.wrap ((bits .and .u64 (IntKind.u64.wrap ((shrK .u64 (IntKind.u64.wrap ((bits .and .u64 (shrK .u64 (IntKind.u64.wrap ((bits .and .u64 (shrK .u64 x 1) 6148914691236517205) + (bits .and .u64 x 6148914691236517205))) 2) 3689348814741910323) + (bits .and .u64 (IntKind.u64.wrap ((bits .and .u64 (shrK .u64 x 1) 6148914691236517205) + (bits .and .u64 x 6148914691236517205))) 3689348814741910323))) 4) + (IntKind.u64.wrap ((bits .and .u64 (shrK .u64 (IntKind.u64.wrap ((bits .and .u64 (shrK .u64 x 1) 6148914691236517205) + (bits .and .u64 x 6148914691236517205))) 2) 3689348814741910323) + (bits .and .u64 (IntKind.u64.wrap ((bits .and .u64 (shrK .u64 x 1) 6148914691236517205) + (bits .and .u64 x 6148914691236517205))) 3689348814741910323))))) 1085102592571150095) + (shrK .u64 (bits .and .u64 (IntKind.u64.wrap ((shrK .u64 (IntKind.u64.wrap ((bits .and .u64 (shrK .u64 (IntKind.u64.wrap ((bits .and .u64 (shrK .u64 x 1) 6148914691236517205) + (bits .and .u64 x 6148914691236517205))) 2) 3689348814741910323) + (bits .and .u64 (IntKind.u64.wrap ((bits .and .u64 (shrK .u64 x 1) 6148914691236517205) + (bits .and .u64 x 6148914691236517205))) 3689348814741910323))) 4) + (IntKind.u64.wrap ((bits .and .u64 (shrK .u64 (IntKind.u64.wrap ((bits .and .u64 (shrK .u64 x 1) 6148914691236517205) + (bits .and .u64 x 6148914691236517205))) 2) 3689348814741910323) + (bits .and .u64 (IntKind.u64.wrap ((bits .and .u64 (shrK .u64 x 1) 6148914691236517205) + (bits .and .u64 x 6148914691236517205))) 3689348814741910323))))) 1085102592571150095) 8))) 16))) + (shrK .u64 (IntKind.u64.wrap ((IntKind.u64.wrap ((bits .and .u64 (IntKind.u64.wrap ((shrK .u64 (IntKind.u64.wrap ((bits .and .u64 (shrK .u64 (IntKind.u64.wrap ((bits .and .u64 (shrK .u64 x 1) 6148914691236517205) + (bits .and .u64 x 6148914691236517205))) 2) 3689348814741910323) + (bits .and .u64 (IntKind.u64.wrap ((bits .and .u64 (shrK .u64 x 1) 6148914691236517205) + (bits .and .u64 x 6148914691236517205))) 3689348814741910323))) 4) + (IntKind.u64.wrap ((bits .and .u64 (shrK .u64 (IntKind.u64.wrap ((bits .and .u64 (shrK .u64 x 1) 6148914691236517205) + (bits .and .u64 x 6148914691236517205))) 2) 3689348814741910323) + (bits .and .u64 (IntKind.u64.wrap ((bits .and .u64 (shrK .u64 x 1) 6148914691236517205) + (bits .and .u64 x 6148914691236517205))) 3689348814741910323))))) 1085102592571150095) + (shrK .u64 (bits .and .u64 (IntKind.u64.wrap ((shrK .u64 (IntKind.u64.wrap ((bits .and .u64 (shrK .u64 (IntKind.u64.wrap ((bits .and .u64 (shrK .u64 x 1) 6148914691236517205) + (bits .and .u64 x 6148914691236517205))) 2) 3689348814741910323) + (bits .and .u64 (IntKind.u64.wrap ((bits .and .u64 (shrK .u64 x 1) 6148914691236517205) + (bits .and .u64 x 6148914691236517205))) 3689348814741910323))) 4) + (IntKind.u64.wrap ((bits .and .u64 (shrK .u64 (IntKind.u64.wrap ((bits .and .u64 (shrK .u64 x 1) 6148914691236517205) + (bits .and .u64 x 6148914691236517205))) 2) 3689348814741910323) + (bits .and .u64 (IntKind.u64.wrap ((bits .and .u64 (shrK .u64 x 1) 6148914691236517205) + (bits .and .u64 x 6148914691236517205))) 3689348814741910323))))) 1085102592571150095) 8))) + (shrK .u64 (IntKind.u64.wrap ((bits .and .u64 (IntKind.u64.wrap ((shrK .u64 (IntKind.u64.wrap ((bits .and .u64 (shrK .u64 (IntKind.u64.wrap ((bits .and .u64 (shrK .u64 x 1) 6148914691236517205) + (bits .and .u64 x 6148914691236517205))) 2) 3689348814741910323) + (bits .and .u64 (IntKind.u64.wrap ((bits .and .u64 (shrK .u64 x 1) 6148914691236517205) + (bits .and .u64 x 6148914691236517205))) 3689348814741910323))) 4) + (IntKind.u64.wrap ((bits .and .u64 (shrK .u64 (IntKind.u64.wrap ((bits .and .u64 (shrK .u64 x 1) 6148914691236517205) + (bits .and .u64 x 6148914691236517205))) 2) 3689348814741910323) + (bits .and .u64 (IntKind.u64.wrap ((bits .and .u64 (shrK .u64 x 1) 6148914691236517205) + (bits .and .u64 x 6148914691236517205))) 3689348814741910323))))) 1085102592571150095) + (shrK .u64 (bits .and .u64 (IntKind.u64.wrap ((shrK .u64 (IntKind.u64.wrap ((bits .and .u64 (shrK .u64 (IntKind.u64.wrap ((bits .and .u64 (shrK .u64 x 1) 6148914691236517205) + (bits .and .u64 x 6148914691236517205))) 2) 3689348814741910323) + (bits .and .u64 (IntKind.u64.wrap ((bits .and .u64 (shrK .u64 x 1) 6148914691236517205) + (bits .and .u64 x 6148914691236517205))) 3689348814741910323))) 4) + (IntKind.u64.wrap ((bits .and .u64 (shrK .u64 (IntKind.u64.wrap ((bits .and .u64 (shrK .u64 x 1) 6148914691236517205) + (bits .and .u64 x 6148914691236517205))) 2) 3689348814741910323) + (bits .and .u64 (IntKind.u64.wrap ((bits .and .u64 (shrK .u64 x 1) 6148914691236517205) + (bits .and .u64 x 6148914691236517205))) 3689348814741910323))))) 1085102592571150095) 8))) 16))) 32))))) (b := 127) rfl rfl rfl) <| sQ 2 (yg (vi (bits .and .i64 (i64.wrap (IntKind.u64.wrap ((IntKind.u64.wrap ((IntKind.u64.wrap ((bits .and .u64 (IntKind.u64.wrap ((shrK .u64 (IntKind.u64.wrap ((bits .and .u64 (shrK .u64 (IntKind.u64.wrap ((bits .and .u64 (shrK .u64 x 1) 6148914691236517205) + (bits .and .u64 x 6148914691236517205))) 2) 3689348814741910323) + (bits .and .u64 (IntKind.u64.wrap ((bits .and .u64 (shrK .u64 x 1) 6148914691236517205) + (bits .and .u64 x 6148914691236517205))) 3689348814741910323))) 4) + (IntKind.u64.wrap ((bits .and .u64 (shrK .u64 (IntKind.u64.wrap ((bits .and .u64 (shrK .u64 x 1) 6148914691236517205) + (bits .and .u64 x 6148914691236517205))) 2) 3689348814741910323) + (bits .and .u64 (IntKind.u64.wrap ((bits .and .u64 (shrK .u64 x 1) 6148914691236517205) + (bits .and .u64 x 6148914691236517205))) 3689348814741910323))))) 1085102592571150095) + (shrK .u64 (bits .and .u64 (IntKind.u64.wrap ((shrK .u64 (IntKind.u64.wrap ((bits .and .u64 (shrK .u64 (IntKind.u64.wrap ((bits .and .u64 (shrK .u64 x 1) 6148914691236517205) + (bits .and .u64 x 6148914691236517205))) 2) 3689348814741910323) + (bits .and .u64 (IntKind.u64.wrap ((bits .and .u64 (shrK .u64 x 1) 6148914691236517205) + (bits .and .u64 x 6148914691236517205))) 3689348814741910323))) 4) + (IntKind.u64.wrap ((bits .and .u64 (shrK .u64 (IntKind.u64.wrap ((bits .and .u64 (shrK .u64 x 1) 6148914691236517205) + (bits .and .u64 x 6148914691236517205))) 2) 3689348814741910323) + (bits .and .u64 (IntKind.u64.wrap ((bits .and .u64 (shrK .u64 x 1) 6148914691236517205) + (bits .and .u64 x 6148914691236517205))) 3689348814741910323))))) 1085102592571150095) 8))) + (shrK .u64 (IntKind.u64.wrap ((bits .and .u64 (IntKind.u64.wrap ((shrK .u64 (IntKind.u64.wrap ((bits .and .u64 (shrK .u64 (IntKind.u64.wrap ((bits .and .u64 (shrK .u64 x 1) 6148914691236517205) + (bits .and .u64 x 6148914691236517205))) 2) 3689348814741910323) + (bits .and .u64 (IntKind.u64.wrap ((bits .and .u64 (shrK .u64 x 1) 6148914691236517205) + (bits .and .u64 x 6148914691236517205))) 3689348814741910323))) 4) + (IntKind.u64.wrap ((bits .and .u64 (shrK .u64 (IntKind.u64.wrap ((bits .and .u64 (shrK .u64 x 1) 6148914691236517205) + (bits .and .u64 x 6148914691236517205))) 2) 3689348814741910323) + (bits .and .u64 (IntKind.u64.wrap ((bits .and .u64 (shrK .u64 x 1) 6148914691236517205) + (bits .and .u64 x 6148914691236517205))) 3689348814741910323))))) 1085102592571150095) + (shrK .u64 (bits .and .u64 (IntKind.u64.wrap ((shrK .u64 (IntKind.u64.wrap ((bits .and .u64 (shrK .u64 (IntKind.u64.wrap ((bits .and .u64 (shrK .u64 x 1) 6148914691236517205) + (bits .and .u64 x 6148914691236517205))) 2) 3689348814741910323) + (bits .and .u64 (IntKind.u64.wrap ((bits .and .u64 (shrK .u64 x 1) 6148914691236517205) + (bits .and .u64 x 6148914691236517205))) 3689348814741910323))) 4) + (IntKind.u64.wrap ((bits .and .u64 (shrK .u64 (IntKind.u64.wrap ((bits .and .u64 (shrK .u64 x 1) 6148914691236517205) + (bits .and .u64 x 6148914691236517205))) 2) 3689348814741910323) + (bits .and .u64 (IntKind.u64.wrap ((bits .and .u64 (shrK .u64 x 1) 6148914691236517205) + (bits .and .u64 x 6148914691236517205))) 3689348814741910323))))) 1085102592571150095) 8))) 16))) + (shrK .u64 (IntKind.u64.wrap ((IntKind.u64.wrap ((bits .and .u64 (IntKind.u64.wrap ((shrK .u64 (IntKind.u64.wrap ((bits .and .u64 (shrK .u64 (IntKind.u64.wrap ((bits .and .u64 (shrK .u64 x 1) 6148914691236517205) + (bits .and .u64 x 6148914691236517205))) 2) 3689348814741910323) + (bits .and .u64 (IntKind.u64.wrap ((bits .and .u64 (shrK .u64 x 1) 6148914691236517205) + (bits .and .u64 x 6148914691236517205))) 3689348814741910323))) 4) + (IntKind.u64.wrap ((bits .and .u64 (shrK .u64 (IntKind.u64.wrap ((bits .and .u64 (shrK .u64 x 1) 6148914691236517205) + (bits .and .u64 x 6148914691236517205))) 2) 3689348814741910323) + (bits .and .u64 (IntKind.u64.wrap ((bits .and .u64 (shrK .u64 x 1) 6148914691236517205) + (bits .and .u64 x 6148914691236517205))) 3689348814741910323))))) 1085102592571150095) + (shrK .u64 (bits .and .u64 (IntKind.u64.wrap ((shrK .u64 (IntKind.u64.wrap ((bits .and .u64 (shrK .u64 (IntKind.u64.wrap ((bits .and .u64 (shrK .u64 x 1) 6148914691236517205) + (bits .and .u64 x 6148914691236517205))) 2) 3689348814741910323) + (bits .and .u64 (IntKind.u64.wrap ((bits .and .u64 (shrK .u64 x 1) 6148914691236517205) + (bits .and .u64 x 6148914691236517205))) 3689348814741910323))) 4) + (IntKind.u64.wrap ((bits .and .u64 (shrK .u64 (IntKind.u64.wrap ((bits .and .u64 (shrK .u64 x 1) 6148914691236517205) + (bits .and .u64 x 6148914691236517205))) 2) 3689348814741910323) + (bits .and .u64 (IntKind.u64.wrap ((bits .and .u64 (shrK .u64 x 1) 6148914691236517205) + (bits .and .u64 x 6148914691236517205))) 3689348814741910323))))) 1085102592571150095) 8))) + (shrK .u64 (IntKind.u64.wrap ((bits .and .u64 (IntKind.u64.wrap ((shrK .u64 (IntKind.u64.wrap ((bits .and .u64 (shrK .u64 (IntKind.u64.wrap ((bits .and .u64 (shrK .u64 x 1) 6148914691236517205) + (bits .and .u64 x 6148914691236517205))) 2) 3689348814741910323) + (bits .and .u64 (IntKind.u64.wrap ((bits .and .u64 (shrK .u64 x 1) 6148914691236517205) + (bits .and .u64 x 6148914691236517205))) 3689348814741910323))) 4) + (IntKind.u64.wrap ((bits .and .u64 (shrK .u64 (IntKind.u64.wrap ((bits .and .u64 (shrK .u64 x 1) 6148914691236517205) + (bits .and .u64 x 6148914691236517205))) 2) 3689348814741910323) + (bits .and .u64 (IntKind.u64.wrap ((bits .and .u64 (shrK .u64 x 1) 6148914691236517205) + (bits .and .u64 x 6148914691236517205))) 3689348814741910323))))) 1085102592571150095) + (shrK .u64 (bits .and .u64 (IntKind.u64.wrap ((shrK .u64 (IntKind.u64.wrap ((bits .and .u64 (shrK .u64 (IntKind.u64.wrap ((bits .and .u64 (shrK .u64 x 1) 6148914691236517205) + (bits .and .u64 x 6148914691236517205))) 2) 3689348814741910323) + (bits .and .u64 (IntKind.u64.wrap ((bits .and .u64 (shrK .u64 x 1) 6148914691236517205) + (bits .and .u64 x 6148914691236517205))) 3689348814741910323))) 4) + (IntKind.u64.wrap ((bits .and .u64 (shrK .u64 (IntKind.u64.wrap ((bits .and .u64 (shrK .u64 x 1) 6148914691236517205) + (bits .and .u64 x 6148914691236517205))) 2) 3689348814741910323) + (bits .and .u64 (IntKind.u64.wrap ((bits .and .u64 (shrK .u64 x 1) 6148914691236517205) + (bits .and .u64 x 6148914691236517205))) 3689348814741910323))))) 1085102592571150095) 8))) 16))) 32)))) 127))) (rn (ct_ ?_))
 obtain rfl := sI hF
 exact ret1 Tryz.results287 (v1 := vi (bits .and .i64 (i64.wrap (IntKind.u64.wrap ((IntKind.u64.wrap ((IntKind.u64.wrap ((bits .and .u64 (IntKind.u64.wrap ((shrK .u64 (IntKind.u64.wrap ((bits .and .u64 (shrK .u64 (IntKind.u64.wrap ((bits .and .u64 (shrK .u64 x 1) 6148914691236517205) + (bits .and .u64 x 6148914691236517205))) 2) 3689348814741910323) + (bits .and .u64 (IntKind.u64.wrap ((bits .and .u64 (shrK .u64 x 1) 6148914691236517205) + (bits .and .u64 x 6148914691236517205))) 3689348814741910323))) 4) + (IntKind.u64.wrap ((bits .and .u64 (shrK .u64 (IntKind.u64.wrap ((bits .and .u64 (shrK .u64 x 1) 6148914691236517205) + (bits .and .u64 x 6148914691236517205))) 2) 3689348814741910323) + (bits .and .u64 (IntKind.u64.wrap ((bits .and .u64 (shrK .u64 x 1) 6148914691236517205) + (bits .and .u64 x 6148914691236517205))) 3689348814741910323))))) 1085102592571150095) + (shrK .u64 (bits .and .u64 (IntKind.u64.wrap ((shrK .u64 (IntKind.u64.wrap ((bits .and .u64 (shrK .u64 (IntKind.u64.wrap ((bits .and .u64 (shrK .u64 x 1) 6148914691236517205) + (bits .and .u64 x 6148914691236517205))) 2) 3689348814741910323) + (bits .and .u64 (IntKind.u64.wrap ((bits .and .u64 (shrK .u64 x 1) 6148914691236517205) + (bits .and .u64 x 6148914691236517205))) 3689348814741910323))) 4) + (IntKind.u64.wrap ((bits .and .u64 (shrK .u64 (IntKind.u64.wrap ((bits .and .u64 (shrK .u64 x 1) 6148914691236517205) + (bits .and .u64 x 6148914691236517205))) 2) 3689348814741910323) + (bits .and .u64 (IntKind.u64.wrap ((bits .and .u64 (shrK .u64 x 1) 6148914691236517205) + (bits .and .u64 x 6148914691236517205))) 3689348814741910323))))) 1085102592571150095) 8))) + (shrK .u64 (IntKind.u64.wrap ((bits .and .u64 (IntKind.u64.wrap ((shrK .u64 (IntKind.u64.wrap ((bits .and .u64 (shrK .u64 (IntKind.u64.wrap ((bits .and .u64 (shrK .u64 x 1) 6148914691236517205) + (bits .and .u64 x 6148914691236517205))) 2) 3689348814741910323) + (bits .and .u64 (IntKind.u64.wrap ((bits .and .u64 (shrK .u64 x 1) 6148914691236517205) + (bits .and .u64 x 6148914691236517205))) 3689348814741910323))) 4) + (IntKind.u64.wrap ((bits .and .u64 (shrK .u64 (IntKind.u64.wrap ((bits .and .u64 (shrK .u64 x 1) 6148914691236517205) + (bits .and .u64 x 6148914691236517205))) 2) 3689348814741910323) + (bits .and .u64 (IntKind.u64.wrap ((bits .and .u64 (shrK .u64 x 1) 6148914691236517205) + (bits .and .u64 x 6148914691236517205))) 3689348814741910323))))) 1085102592571150095) + (shrK .u64 (bits .and .u64 (IntKind.u64.wrap ((shrK .u64 (IntKind.u64.wrap ((bits .and .u64 (shrK .u64 (IntKind.u64.wrap ((bits .and .u64 (shrK .u64 x 1) 6148914691236517205) + (bits .and .u64 x 6148914691236517205))) 2) 3689348814741910323) + (bits .and .u64 (IntKind.u64.wrap ((bits .and .u64 (shrK .u64 x 1) 6148914691236517205) + (bits .and .u64 x 6148914691236517205))) 3689348814741910323))) 4) + (IntKind.u64.wrap ((bits .and .u64 (shrK .u64 (IntKind.u64.wrap ((bits .and .u64 (shrK .u64 x 1) 6148914691236517205) + (bits .and .u64 x 6148914691236517205))) 2) 3689348814741910323) + (bits .and .u64 (IntKind.u64.wrap ((bits .and .u64 (shrK .u64 x 1) 6148914691236517205) + (bits .and .u64 x 6148914691236517205))) 3689348814741910323))))) 1085102592571150095) 8))) 16))) + (shrK .u64 (IntKind.u64.wrap ((IntKind.u64.wrap ((bits .and .u64 (IntKind.u64.wrap ((shrK .u64 (IntKind.u64.wrap ((bits .and .u64 (shrK .u64 (IntKind.u64.wrap ((bits .and .u64 (shrK .u64 x 1) 6148914691236517205) + (bits .and .u64 x 6148914691236517205))) 2) 3689348814741910323) + (bits .and .u64 (IntKind.u64.wrap ((bits .and .u64 (shrK .u64 x 1) 6148914691236517205) + (bits .and .u64 x 6148914691236517205))) 3689348814741910323))) 4) + (IntKind.u64.wrap ((bits .and .u64 (shrK .u64 (IntKind.u64.wrap ((bits .and .u64 (shrK .u64 x 1) 6148914691236517205) + (bits .and .u64 x 6148914691236517205))) 2) 3689348814741910323) + (bits .and .u64 (IntKind.u64.wrap ((bits .and .u64 (shrK .u64 x 1) 6148914691236517205) + (bits .and .u64 x 6148914691236517205))) 3689348814741910323))))) 1085102592571150095) + (shrK .u64 (bits .and .u64 (IntKind.u64.wrap ((shrK .u64 (IntKind.u64.wrap ((bits .and .u64 (shrK .u64 (IntKind.u64.wrap ((bits .and .u64 (shrK .u64 x 1) 6148914691236517205) + (bits .and .u64 x 6148914691236517205))) 2) 3689348814741910323) + (bits .and .u64 (IntKind.u64.wrap ((bits .and .u64 (shrK .u64 x 1) 6148914691236517205) + (bits .and .u64 x 6148914691236517205))) 3689348814741910323))) 4) + (IntKind.u64.wrap ((bits .and .u64 (shrK .u64 (IntKind.u64.wrap ((bits .and .u64 (shrK .u64 x 1) 6148914691236517205) + (bits .and .u64 x 6148914691236517205))) 2) 3689348814741910323) + (bits .and .u64 (IntKind.u64.wrap ((bits .and .u64 (shrK .u64 x 1) 6148914691236517205) + (bits .and .u64 x 6148914691236517205))) 3689348814741910323))))) 1085102592571150095) 8))) + (shrK .u64 (IntKind.u64.wrap ((bits .and .u64 (IntKind.u64.wrap ((shrK .u64 (IntKind.u64.wrap ((bits .and .u64 (shrK .u64 (IntKind.u64.wrap ((bits .and .u64 (shrK .u64 x 1) 6148914691236517205) + (bits .and .u64 x 6148914691236517205))) 2) 3689348814741910323) + (bits .and .u64 (IntKind.u64.wrap ((bits .and .u64 (shrK .u64 x 1) 6148914691236517205) + (bits .and .u64 x 6148914691236517205))) 3689348814741910323))) 4) + (IntKind.u64.wrap ((bits .and .u64 (shrK .u64 (IntKind.u64.wrap ((bits .and .u64 (shrK .u64 x 1) 6148914691236517205) + (bits .and .u64 x 6148914691236517205))) 2) 3689348814741910323) + (bits .and .u64 (IntKind.u64.wrap ((bits .and .u64 (shrK .u64 x 1) 6148914691236517205) + (bits .and .u64 x 6148914691236517205))) 3689348814741910323))))) 1085102592571150095) + (shrK .u64 (bits .and .u64 (IntKind.u64.wrap ((shrK .u64 (IntKind.u64.wrap ((bits .and .u64 (shrK .u64 (IntKind.u64.wrap ((bits .and .u64 (shrK .u64 x 1) 6148914691236517205) + (bits .and .u64 x 6148914691236517205))) 2) 3689348814741910323) + (bits .and .u64 (IntKind.u64.wrap ((bits .and .u64 (shrK .u64 x 1) 6148914691236517205) + (bits .and .u64 x 6148914691236517205))) 3689348814741910323))) 4) + (IntKind.u64.wrap ((bits .and .u64 (shrK .u64 (IntKind.u64.wrap ((bits .and .u64 (shrK .u64 x 1) 6148914691236517205) + (bits .and .u64 x 6148914691236517205))) 2) 3689348814741910323) + (bits .and .u64 (IntKind.u64.wrap ((bits .and .u64 (shrK .u64 x 1) 6148914691236517205) + (bits .and .u64 x 6148914691236517205))) 3689348814741910323))))) 1085102592571150095) 8))) 16))) 32)))) 127)) (resAt_tmp rfl) ⟨rfl, (hS.sN [])⟩

theorem c_math_bits_OnesCount (x : Int)  (w0 : World)  (hS : ST w0 [] w0 [] []) {r_ : Int} (hF : F_math_bits_OnesCount x = some r_) :
  CV Tryz.prog 228 #[.int .u64 x] w0 (fun v w' => v = vi r_ ∧ ST w0 [] w' [] []) := by
 unfold F_math_bits_OnesCount at hF
 refine cv_of_cw 8 Tryz.func228 rfl Tryz.ntmps228 rfl ?_
 refine cq (cr ?_)
 refine sQ 2 (yg (vi 0)) (rn (cq ?_))
 refine cw_cond (b := false) rfl (fun h => by cases h) (fun _ => ?_)
 refine cw_skip (cq (cr ?_))
 refine sQ 6 (ym (.int .u64 x)) ?_
 obtain ⟨r_1, hc, hF⟩ := bI hF
 refine sc 7 rfl rfl (yC [.int .u64 x] k_call_287 (c_math_bits_OnesCount64 x _  (hS.inn0 [] rfl) hc)) ?_
 rintro _ w_ ⟨rfl, hd⟩
 have hS1 := hS.out00 hd
 refine sQ 2 (yg (vi r_1)) (rn (ct_ ?_))
 obtain rfl := sI hF
 exact ret1 Tryz.results228 (v1 := vi r_1) (resAt_tmp rfl) ⟨rfl, (hS1.sN [])⟩

theorem c_impl_parityOf (mask : Int)  (w0 : World)  (hS : ST w0 [] w0 [] []) {r_ : Int} (hF : F_impl_parityOf mask = some r_) :
  CV Tryz.prog 141 #[vi mask] w0 (fun v w' => v = vi r_ ∧ ST w0 [] w' [] []) := by
 unfold F_impl_parityOf at hF
 refine cv_of_cw 7 Tryz.func141 rfl Tryz.ntmps141 rfl ?_
 refine cq (cr ?_)
 refine sQ 2 (yg (vi 0)) (rn (cq (cr ?_)))
 refine sQ 3 (ym (vi mask)) <| sQ 4 (Y_conv (k := .i64) (a := mask) (T := 3) (T' := 77) K54 K59 rfl rfl) ?_
 obtain ⟨r_1, hc, hF⟩ := bI hF
 refine sc 5 rfl rfl (yC [.int .u64 (IntKind.u64.wrap mask)] k_call_228 (c_math_bits_OnesCount (IntKind.u64.wrap mask) _  (hS.inn0 [] rfl) hc)) ?_
 rintro _ w_ ⟨rfl, hd⟩
 have hS1 := hS.out00 hd
 refine sQ 6 (Y_rem (k := .i64) (a := r_1) (b := 2) rfl rfl rfl (by decide)) <| sQ 2 (yg (vi (Int.tmod r_1 2))) (rn (ct_ ?_))
 obtain rfl := sI hF
 exact ret1 Tryz.results141 (v1 := vi (Int.tmod r_1 2)) (resAt_tmp rfl) ⟨rfl, (hS1.sN [])⟩

theorem c_impl_PhaseAt (p : TPhasePoly) (bits_ : Int) (B : Option Addr) (c n : Nat) (B1 : Option Addr) (c1 n1 : Nat) (w0 : World) (hn : p.Terms.length = n) (hn1 : p.Out.Rows.length = n1) (hS : ST w0 [] w0 [] [⟨B, (p.Terms.flatMap enc_Term)⟩, ⟨B1, (p.Out.Rows.flatMap encI)⟩]) {r_ : Int} {r_1 : Bool} (hF : F_impl_PhaseAt p bits_ = some (r_, r_1)) :
  CV Tryz.prog 42 #[.agg #[vi p.Qubits, vi p.Phase, .slice B n c, .slice B1 n1 c1], vi bits_] w0 (fun v w' => v = .tuple #[vi r_, .bool r_1] ∧ ST w0 [] w' [] []) := by
 subst hn
 subst hn1
 unfold F_impl_PhaseAt at hF
 refine cv_of_cw 43 Tryz.func42 rfl Tryz.ntmps42 rfl ?_
 refine cq (cr ?_)
 refine sS 2 (yB 62 (.agg #[vi p.Qubits, vi p.Phase, .slice B p.Terms.length c, .slice B1 p.Out.Rows.length c1]) [vi p.Qubits, vi p.Phase, .slice B p.Terms.length c, .slice B1 p.Out.Rows.length c1] 4 hS) ?_
 rintro _ w_ ⟨b, rfl, hS1⟩
 refine sQ 4 (yg (vi 0)) <| sQ 5 (yg (.bool false)) (rn (cq (cq (cr ?_))))
 refine sQ 9 (yb (aD b) 0 [vi p.Qubits, vi p.Phase, .slice B p.Terms.length c, .slice B1 p.Out.Rows.length c1] K47 K20 (hS1.c 0)) ?_
 obtain ⟨r_2, hc, hF⟩ := bI hF
 refine sc 10 rfl rfl (yC [.agg #[vi p.Qubits, vi p.Phase, .slice B p.Terms.length c, .slice B1 p.Out.Rows.length c1]] k_call_97 (c_impl_IsValidPhasePoly p B c p.Terms.length B1 c1 p.Out.Rows.length _ rfl rfl (hS1.inn0 [(true, 0), (true, 1)] rfl) hc)) ?_
 rintro _ w_1 ⟨rfl, hd⟩
 have hS2 := hS1.out00 hd
 refine sQ 11 (Y_not (p := r_2) rfl rfl) <| sQ 12 (ym (.bool (!r_2))) ?_
 refine sgq 13 (B := (!(!r_2))) (v := vi bits_) rfl rfl (uF_ 12) (fun hg => (ym (vi bits_))) ?_
 refine sgq 14 (B := (!(!r_2))) (v := pt (aD b) 0) rfl rfl (uF_ 12) (fun hg1 => (yd (aD b) 0 0 K73 K0)) ?_
 refine sgq 15 (B := (!(!r_2))) (v := vi p.Qubits) rfl rfl (uF_ 12) (fun hg2 => (yl (aD b) 0 [vi p.Qubits, vi p.Phase, .slice B p.Terms.length c, .slice B1 p.Out.Rows.length c1] (vi p.Qubits) K1 (hS2.c 0) rfl (gv_of (v := pt (aD b) 0) hg2))) ?_
 obtain ⟨hsh, hF⟩ := chk_inv hF
 refine sgq 16 (B := (!(!r_2))) (v := vi (shlK .i64 1 p.Qubits)) rfl rfl (uF_ 12) (fun hg3 => (Y_shl (k := .i64) (a := 1) (k' := .i64) (b := p.Qubits) rfl rfl (gv_of (v := vi p.Qubits) hg3) (hsh hg3))) ?_
 refine sgq 17 (B := (!(!r_2))) (v := vi (i64.wrap ((shlK .i64 1 p.Qubits) - 1))) rfl rfl (uF_ 12) (fun hg4 => (yM (shlK .i64 1 p.Qubits) 1 rfl (gv_of (v := vi (shlK .i64 1 p.Qubits)) hg4))) ?_
 obtain ⟨r_3, hc1, hF⟩ := bI hF
 refine sgc 18 (B := (!(!r_2))) (v := .bool r_3) (F := hS2.fn) rfl rfl (uF_ 12) hS2 (fun hg5 => (yC [vi bits_, vi 0, vi (i64.wrap ((shlK .i64 1 p.Qubits) - 1))] K30 (CV.mono (c_impl_within bits_ 0 (i64.wrap ((shlK .i64 1 p.Qubits) - 1)) _  (hS2.inn0 [] rfl) (gb_inv hc1 hg5)) (by rintro _ _ ⟨rfl, h⟩; exact ⟨rfl, hS2.out00 h⟩)) rfl (mc (gv_of (v := vi bits_) hg5) (mc rfl (mc (gv_of (v := vi (i64.wrap ((shlK .i64 1 p.Qubits) - 1))) hg5) mn))))) ?_
 rintro w_2 hS3
 refine sgq 19 (B := (!(!r_2))) (v := .bool (!r_3)) rfl rfl (uF_ 12) (fun hg6 => (Y_not (p := r_3) rfl (gv_of (v := .bool r_3) hg6))) ?_
 refine sQ 20 (Y_or (b := (!r_2)) (z := (!r_3)) rfl rfl rfl rfl) (rn ?_)
 refine cw_cond (b := ((!r_2) || (!r_3))) rfl (fun hb => ?_) (fun hb => ?_)
 ·skip
  have hF1 := ct hF hb
  refine cq (cr ?_)
  refine sQ 4 (yg (vi 0)) <| sQ 5 (yg (.bool false)) (rn (ct_ ?_))
  obtain ⟨rfl, rfl⟩ := pr2 (sI hF1)
  exact ret2 Tryz.results42 (v1 := vi 0) (resAt_tmp rfl) (v2 := .bool false) (resAt_tmp rfl) ⟨rfl, (hS3.sN [])⟩
 ·skip
  have hF2 := cf' hF hb
  refine cw_skip (cq (cr ?_))
  refine sQ 21 (yd (aD b) 0 0 K61 K0) <| sQ 22 (yl (aD b) 1 [vi p.Qubits, vi p.Phase, .slice B p.Terms.length c, .slice B1 p.Out.Rows.length c1] (vi p.Phase) K1 (hS3.c 0)) <| sQ 6 (yg (vi p.Phase)) (rn (cq (cq (cr ?_))))
  refine sQ 23 (yd (aD b) 0 0 K71 K62) <| sQ 24 (yl (aD b) 2 [vi p.Qubits, vi p.Phase, .slice B p.Terms.length c, .slice B1 p.Out.Rows.length c1] (.slice B p.Terms.length c) K87 (hS3.c 0)) <| sQ 25 (Y_len (B := B) (m := p.Terms.length) (c := c) K40 rfl rfl) <| sQ 26 (ym (vi 0)) (rn ?_)
  obtain ⟨hN, hF2⟩ := chk_inv hF2
  obtain ⟨z, hz, hF3⟩ := bI hF2
  refine cw_block ?_
  refine cw_loop (fun k f w => ∃ (i : Nat) (e : Int), FF f [(1, vi bits_), (6, vi e), (24, .slice B p.Terms.length c), (25, vi (p.Terms.length : Int)), (26, vi (i : Int))] ∧ ST w0 [] w [] [⟨B, (p.Terms.flatMap enc_Term)⟩, ⟨B1, (p.Out.Rows.flatMap encI)⟩] ∧ i + k = p.Terms.length ∧ forN (F_impl_PhaseAt_l1 p bits_) k i e = some z) p.Terms.length ⟨0, p.Phase, (fc rfl (fc rfl (fc rfl (fc rfl (fc rfl fn_))))), (hS3.sel [] rfl rfl), Nat.zero_add _, hz⟩ ?_
  rintro k_ f w ⟨i, e, hf, hS4, hik, hL⟩
  refine cq (cr ?_)
  refine sQ 27 (yL (i : Int) (p.Terms.length : Int) rfl (hf.g 26 4) (hf.g 25 3)) (rn (cq ?_))
  refine cw_cond (b := (decide ((i : Int) < (p.Terms.length : Int)))) rfl (fun hlt => ?_) (fun hlt => ?_)
  ·skip
   have hlt1 : i < p.Terms.length := by have h := of_decide_eq_true hlt; omega
   obtain ⟨K7, rfl⟩ : ∃ k2, k_ = k2 + 1 := ⟨k_ - 1, by omega⟩
   obtain ⟨y, hb1, hL1⟩ := forN_go hL
   unfold F_impl_PhaseAt_l1 at hb1
   refine cw_skip (cq (cw_block (cq (cr ?_))))
   obtain ⟨x, hx, hb1⟩ := bI hb1
   refine sQ 28 (Y_index (B := B) (m := p.Terms.length) (c := c) (k := .i64) (i := (i : Int)) K40 K34 rfl (hf.g 24 2) (hf.g 26 4) (gi_isSome enc_Term_len rfl (hS4.rf (i := 0) rfl) hx) (getI_nn hx) (getI_ltI hx rfl)) <| sQ 29 (ya B ((i : Int).toNat * 2) (p.Terms.flatMap enc_Term) [vi x.Mask, vi x.Coef] K86 K34 (hS4.rf (i := 0) rfl) rfl rfl (enc_Term_len x) (gi_seg enc_Term_len hx)) ?_
   refine sS 8 (yN [vi 0, vi 0] 2 hS4 K70) ?_
   rintro _ w_3 ⟨b1, rfl, hS5⟩
   refine s0 (yT 0 2 (aD b1) 157 (.agg #[vi x.Mask, vi x.Coef]) [vi x.Mask, vi x.Coef] 0 hS5 K34) ?_
   rintro _ w_4 ⟨rfl, hS6⟩
   refine rn ?_
   obtain ⟨r_4, hc2, hb1⟩ := bI hb1
   refine ra_start (hS6.se [0]).fn (by kernel_rfl) ?_
   have hS8 := hS6.drew
   refine rq 0 30 (v := vi e) rfl (hS8.se [0]) (fun w' hw' => (ym (vi e) rfl (hf.g 6 1))) ?_
   refine rq 1 31 (v := pt (aD b1) 1) rfl (hS8.se [0]) (fun w' hw' => (yd (aD b1) 0 0 K116 K0)) ?_
   refine rq 2 32 (v := vi x.Coef) rfl (hS8.se [0]) (fun w' hw' => (yl (aD b1) 1 [vi x.Mask, vi x.Coef] (vi x.Coef) K1 (ST.cf hw' (i := 0) rfl))) ?_
   refine rq 3 33 (v := pt (aD b1) 0) rfl (hS8.se [0]) (fun w' hw' => (yd (aD b1) 0 0 K78 K0)) ?_
   refine rq 4 34 (v := vi x.Mask) rfl (hS8.se [0]) (fun w' hw' => (yl (aD b1) 0 [vi x.Mask, vi x.Coef] (vi x.Mask) K1 (ST.cf hw' (i := 0) rfl))) ?_
   refine rq 5 35 (v := vi bits_) rfl (hS8.se [0]) (fun w' hw' => (ym (vi bits_) rfl (hf.g 1 0))) ?_
   refine rq 6 36 (v := vi (bits .and .i64 x.Mask bits_)) rfl (hS8.se [0]) (fun w' hw' => (Y_band (k := .i64) (a := x.Mask) (b := bits_) rfl rfl rfl)) ?_
   refine rA [7] ?_
   refine rC 37 7 rfl (yC [vi (bits .and .i64 x.Mask bits_)] k_call_141 (c_impl_parityOf (bits .and .i64 x.Mask bits_) _  (hS8.inn0 [] rfl) hc2)) ?_ ?_
   ·rintro _ w_5 ⟨rfl, hd1⟩
    have hS9 := hS8.out00 hd1
    refine ⟨(hS9.se [0]), ?_⟩
    refine rq 8 38 (v := vi (i64.wrap (x.Coef * r_4))) rfl (hS9.se [0]) (fun w' hw' => (yX x.Coef r_4)) ?_
    refine rq 9 39 (v := vi (i64.wrap (e + (i64.wrap (x.Coef * r_4))))) rfl (hS9.se [0]) (fun w' hw' => (yP e (i64.wrap (x.Coef * r_4)))) ?_
    refine rq 10 6 (v := vi (i64.wrap (e + (i64.wrap (x.Coef * r_4))))) rfl (hS9.se [0]) (fun w' hw' => (yg (vi (i64.wrap (e + (i64.wrap (x.Coef * r_4))))))) ?_
    refine ra_done (by kernel_rfl) ?_
    refine cr ?_
    refine sQ 40 (yP (i : Int) 1 rfl (hf.g 26 4)) <| sQ 26 (ym (vi (i64.wrap ((i : Int) + 1)))) (rn ?_)
    obtain rfl := sI hb1
    exact ⟨K7, Nat.lt_succ_self _, i + 1, (i64.wrap (e + (i64.wrap (x.Coef * r_4)))), (fc (hf.g 1 0) (fc rfl (fc (hf.g 24 2) (fc (hf.g 25 3) (fc (congrArg (Value.int .i64) (wr_succ hlt1 hN)) fn_))))), (hS9.sel [] rfl rfl), (by omega), hL1⟩
   exact aN
  ·skip
   obtain rfl : k_ = 0 := by have h := of_decide_eq_false hlt; omega
   refine cw_exit rfl ?_
   obtain rfl := sI hL
   refine cq (cr ?_)
   refine sQ 41 (ym (vi e) rfl (hf.g 6 1)) <| sQ 42 (Y_rem (k := .i64) (a := e) (b := 8) rfl rfl rfl (by decide)) <| sQ 4 (yg (vi (Int.tmod e 8))) <| sQ 5 (yg (.bool true)) (rn (ct_ ?_))
   obtain ⟨rfl, rfl⟩ := pr2 (sI hF3)
   exact ret2 Tryz.results42 (v1 := vi (Int.tmod e 8)) (resAt_tmp rfl) (v2 := .bool true) (resAt_tmp rfl) ⟨rfl, (hS4.sN [])⟩

theorem c_impl_ColumnOf_1 (i : Int) (j : Int) (p : TMatrix) (p1 : Int) (B : Option Addr) (B1 : Option Addr) (c n : Nat) (B2 : Option Addr) (w0 : World) (hn : p.Cells.length = n) (hS : ST w0 [] w0 [] [⟨B, [vi p.Rows, vi p.Cols, .slice B1 n c]⟩, ⟨B1, (p.Cells.flatMap enc_Dyadic)⟩, ⟨B2, [vi p1]⟩]) {r_ : TDyadic} {r_1 : Bool} (hF : F_impl_ColumnOf_1 i j p p1 = some (r_, r_1)) :
  CV Tryz.prog 232 #[vi i, vi j, pt B 0, pt B2 0] w0 (fun v w' => v = .tuple #[gD_ r_, .bool r_1] ∧ ST w0 [] w' [] []) := by
 subst hn
 unfold F_impl_ColumnOf_1 at hF
 refine cv_of_cw 12 Tryz.func232 rfl Tryz.ntmps232 rfl ?_
 refine cq (cr ?_)
 refine sS 6 (yN kZ_ 5 hS K15) ?_
 rintro _ w_ ⟨b, rfl, hS1⟩
 refine sQ 7 (yg (.bool false)) (rn (cq (cr ?_)))
 refine sQ 8 (yb B 0 (kM_ p B1 c) K17 K8 (hS1.rf (i := 0) rfl)) <| sQ 9 (ym (vi i)) <| sQ 10 (yl B2 0 [vi p1] (vi p1) K1 (hS1.rf (i := 2) rfl)) ?_
 obtain ⟨r_2, hc, hF⟩ := bI hF
 refine sc 11 rfl rfl (yC [gM_ p B1 c, vi i, vi p1] K82 (c_impl_Matrix_at p i p1 B1 c p.Cells.length _ rfl (hS1.inn0 [(true, 1)] rfl) hc)) ?_
 rintro _ w_1 ⟨rfl, hd⟩
 have hS2 := hS1.out00 hd
 refine s0 (yT 0 5 (aD b) 90 (gD_ r_2) (kD_ r_2) 0 hS2 K4) ?_
 rintro _ w_2 ⟨rfl, hS3⟩
 refine sQ 7 (yg (.bool true)) (rn (ct_ ?_))
 obtain ⟨rfl, rfl⟩ := pr2 (sI hF)
 exact ret2 Tryz.results232 (v1 := gD_ r_2) (resAt_cellA (B := aD b) (i := 0) (cs := kD_ r_2) (vs := kD_ r_2) rfl K10 K4 (hS3.c 0) rfl rfl) (v2 := .bool true) (resAt_tmp rfl) ⟨rfl, (hS3.sN [])⟩

theorem c_impl_ColumnOf (m : TMatrix) (k_ : Int) (B : Option Addr) (c n : Nat) (w0 : World) (hn : m.Cells.length = n) (hS : ST w0 [] w0 [] [⟨B, (m.Cells.flatMap enc_Dyadic)⟩]) {r_ : TMatrix} {r_1 : Bool} (hF : F_impl_ColumnOf m k_ = some (r_, r_1)) :
  CV Tryz.prog 143 #[.agg #[vi m.Rows, vi m.Cols, .slice B n c], vi k_] w0 (fun v w' => ∃ (B1 : Option Addr) (c1 : Nat), v = .tuple #[gM_ r_ B1 c1, .bool r_1] ∧ ST w0 [] w' [⟨B1, 90, (r_.Cells.flatMap enc_Dyadic), c1 * 5⟩] []) := by
 subst hn
 unfold F_impl_ColumnOf at hF
 refine cv_of_cw 24 Tryz.func143 rfl Tryz.ntmps143 rfl ?_
 refine cq (cr ?_)
 refine sS 2 (yB 81 (gM_ m B c) (kM_ m B c) 3 hS) ?_
 rintro _ w_ ⟨b, rfl, hS1⟩
 refine sS 3 (yB 3 (vi k_) [vi k_] 1 hS1) ?_
 rintro _ w_1 ⟨b1, rfl, hS2⟩
 refine sS 4 (yN kN_ 3 hS2 K23) ?_
 rintro _ w_2 ⟨b2, rfl, hS3⟩
 refine sQ 5 (yg (.bool false)) (rn (cq (cq (cr ?_))))
 refine sQ 6 (yb (aD b) 0 (kM_ m B c) K17 K8 (hS3.c 0)) ?_
 obtain ⟨r_2, hc, hF⟩ := bI hF
 refine sc 7 rfl rfl (yC [gM_ m B c] K119 (c_impl_IsValidMatrix m B c m.Cells.length _ rfl (hS3.inn0 [(true, 0)] rfl) hc)) ?_
 rintro _ w_3 ⟨rfl, hd⟩
 have hS4 := hS3.out00 hd
 refine sQ 8 (Y_not (p := r_2) rfl rfl) <| sQ 9 (ym (.bool (!r_2))) ?_
 refine sgq 10 (B := (!(!r_2))) (v := vi k_) rfl rfl (uF_ 9) (fun hg => (yl (aD b1) 0 [vi k_] (vi k_) K1 (hS4.c 1))) ?_
 refine sgq 11 (B := (!(!r_2))) (v := pt (aD b) 1) rfl rfl (uF_ 9) (fun hg1 => (yd (aD b) 0 0 K64 K0)) ?_
 refine sgq 12 (B := (!(!r_2))) (v := vi m.Cols) rfl rfl (uF_ 9) (fun hg2 => (yl (aD b) 1 (kM_ m B c) (vi m.Cols) K1 (hS4.c 0) rfl (gv_of (v := pt (aD b) 1) hg2))) ?_
 refine sgq 13 (B := (!(!r_2))) (v := vi (i64.wrap (m.Cols - 1))) rfl rfl (uF_ 9) (fun hg3 => (yM m.Cols 1 rfl (gv_of (v := vi m.Cols) hg3))) ?_
 obtain ⟨r_3, hc1, hF⟩ := bI hF
 refine sgc 14 (B := (!(!r_2))) (v := .bool r_3) (F := hS4.fn) rfl rfl (uF_ 9) hS4 (fun hg4 => (yC [vi k_, vi 0, vi (i64.wrap (m.Cols - 1))] K30 (CV.mono (c_impl_within k_ 0 (i64.wrap (m.Cols - 1)) _  (hS4.inn0 [] rfl) (gb_inv hc1 hg4)) (by rintro _ _ ⟨rfl, h⟩; exact ⟨rfl, hS4.out00 h⟩)) rfl (mc (gv_of (v := vi k_) hg4) (mc rfl (mc (gv_of (v := vi (i64.wrap (m.Cols - 1))) hg4) mn))))) ?_
 rintro w_4 hS5
 refine sgq 15 (B := (!(!r_2))) (v := .bool (!r_3)) rfl rfl (uF_ 9) (fun hg5 => (Y_not (p := r_3) rfl (gv_of (v := .bool r_3) hg5))) ?_
 refine sQ 16 (Y_or (b := (!r_2)) (z := (!r_3)) rfl rfl rfl rfl) (rn ?_)
 refine cw_cond (b := ((!r_2) || (!r_3))) rfl (fun hb => ?_) (fun hb => ?_)
 ·skip
  have hF1 := ct hF hb
  refine cq (cr ?_)
  refine sQ 17 (Y_buildS (zs := kN_) (vs := []) (cs := kN_) K68 K23 rfl mpn rfl) ?_
  refine s0 (yT 2 3 (aD b2) 81 gN_ kN_ 0 hS5 K8) ?_
  rintro _ w_5 ⟨rfl, hS6⟩
  refine sQ 5 (yg (.bool false)) (rn (ct_ ?_))
  have hS7 := hS6.addNil 90
  obtain ⟨rfl, rfl⟩ := pr2 (sI hF1)
  exact ret2 Tryz.results143 (v1 := gN_) (resAt_cellA (B := aD b2) (i := 0) (cs := kN_) (vs := kN_) rfl K17 K8 (hS7.c 2) rfl rfl) (v2 := .bool false) (resAt_tmp rfl) ⟨none, 0, rfl, (hS7.sN [3])⟩
 ·skip
  have hF2 := cf' hF hb
  refine cw_skip (cq (cr ?_))
  refine sQ 18 (yd (aD b) 0 0 K75 K0) <| sQ 19 (yl (aD b) 0 (kM_ m B c) (vi m.Rows) K1 (hS5.c 0)) <| sQ 20 (Y_makeFunc (cs := [pt (aD b) 0, pt (aD b1) 0]) rfl rfl (mc rfl (mc rfl mn))) ?_
  obtain ⟨⟨r_4, r_5⟩, hc2, hF2⟩ := bI hF2
  refine sc 21 rfl rfl (yC [vi m.Rows, vi 1, .func (.func 232) #[] #[pt (aD b) 0, pt (aD b1) 0]] K106 (c_impl_matrixOf m.Rows 1 (fun x_0 x_1 => F_impl_ColumnOf_1 x_0 x_1 m k_) 232 (#[pt (aD b) 0, pt (aD b1) 0]) [⟨aD b, kM_ m B c⟩, ⟨B, (m.Cells.flatMap enc_Dyadic)⟩, ⟨aD b1, [vi k_]⟩] _ k_call_232 (fun w hw x_0 x_1 y_0 y_1 h_ => c_impl_ColumnOf_1 x_0 x_1 m k_ (aD b) B c m.Cells.length (aD b1) w rfl hw h_) (hS5.inn0 [(false, 0), (true, 0), (false, 1)] rfl) hc2)) ?_
  rintro _ w_6 ⟨B2, c2, rfl, hd1⟩
  have hS8 := hS5.out0 hd1
  refine sQ 22 (ye (gM_ r_4 B2 c2)) <| sQ 23 (ye (.bool r_5)) ?_
  refine s0 (yT 2 3 (aD b2) 81 (gM_ r_4 B2 c2) (kM_ r_4 B2 c2) 0 hS8 K8) ?_
  rintro _ w_7 ⟨rfl, hS9⟩
  refine sQ 5 (yg (.bool r_5)) (rn (ct_ ?_))
  obtain ⟨rfl, rfl⟩ := pr2 (sI hF2)
  exact ret2 Tryz.results143 (v1 := gM_ r_4 B2 c2) (resAt_cellA (B := aD b2) (i := 0) (cs := kM_ r_4 B2 c2) (vs := kM_ r_4 B2 c2) rfl K17 K8 (hS9.c 2) rfl rfl) (v2 := .bool r_5) (resAt_tmp rfl) ⟨B2, c2, rfl, (hS9.sN [3])⟩

theorem c_impl_StateAfter (c : TCircuit) (start : Int) (B : Option Addr) (c1 n : Nat) (w0 : World) (hn : c.Gates.length = n) (hS : ST w0 [] w0 [] [⟨B, (c.Gates.flatMap eN0)⟩]) {r_ : TMatrix} {r_1 : Bool} (hF : F_impl_StateAfter c start = some (r_, r_1)) :
  CV Tryz.prog 43 #[.agg #[vi c.Qubits, .slice B n c1], vi start] w0 (fun v w' => ∃ (B1 : Option Addr) (c2 : Nat), v = .tuple #[gM_ r_ B1 c2, .bool r_1] ∧ ST w0 [] w' [⟨B1, 90, (r_.Cells.flatMap enc_Dyadic), c2 * 5⟩] []) := by
 subst hn
 unfold F_impl_StateAfter at hF
 refine cv_of_cw 42 Tryz.func43 rfl Tryz.ntmps43 rfl ?_
 refine cq (cr ?_)
 refine sS 2 (yB 28 (.agg #[vi c.Qubits, .slice B c.Gates.length c1]) [vi c.Qubits, .slice B c.Gates.length c1] 2 hS) ?_
 rintro _ w_ ⟨b, rfl, hS1⟩
 refine sS 4 (yN kN_ 3 hS1 K23) ?_
 rintro _ w_1 ⟨b1, rfl, hS2⟩
 refine sQ 5 (yg (.bool false)) (rn (cq (cq (cr ?_))))
 refine sQ 10 (yb (aD b) 0 [vi c.Qubits, .slice B c.Gates.length c1] K22 K11 (hS2.c 0)) ?_
 obtain ⟨r_2, hc, hF⟩ := bI hF
 refine sc 11 rfl rfl (yC [.agg #[vi c.Qubits, .slice B c.Gates.length c1]] K93 (c_impl_IsValidCircuit c B c1 c.Gates.length _ rfl (hS2.inn0 [(true, 0)] rfl) hc)) ?_
 rintro _ w_2 ⟨rfl, hd⟩
 have hS3 := hS2.out00 hd
 refine sQ 12 (Y_not (p := r_2) rfl rfl) <| sQ 13 (ym (.bool (!r_2))) ?_
 refine sgq 14 (B := (!(!r_2))) (v := vi start) rfl rfl (uF_ 13) (fun hg => (ym (vi start))) ?_
 refine sgq 15 (B := (!(!r_2))) (v := pt (aD b) 0) rfl rfl (uF_ 13) (fun hg1 => (yd (aD b) 0 0 K31 K0)) ?_
 refine sgq 16 (B := (!(!r_2))) (v := vi c.Qubits) rfl rfl (uF_ 13) (fun hg2 => (yl (aD b) 0 [vi c.Qubits, .slice B c.Gates.length c1] (vi c.Qubits) K1 (hS3.c 0) rfl (gv_of (v := pt (aD b) 0) hg2))) ?_
 obtain ⟨hsh, hF⟩ := chk_inv hF
 refine sgq 17 (B := (!(!r_2))) (v := vi (shlK .i64 1 c.Qubits)) rfl rfl (uF_ 13) (fun hg3 => (Y_shl (k := .i64) (a := 1) (k' := .i64) (b := c.Qubits) rfl rfl (gv_of (v := vi c.Qubits) hg3) (hsh hg3))) ?_
 refine sgq 18 (B := (!(!r_2))) (v := vi (i64.wrap ((shlK .i64 1 c.Qubits) - 1))) rfl rfl (uF_ 13) (fun hg4 => (yM (shlK .i64 1 c.Qubits) 1 rfl (gv_of (v := vi (shlK .i64 1 c.Qubits)) hg4))) ?_
 obtain ⟨r_3, hc1, hF⟩ := bI hF
 refine sgc 19 (B := (!(!r_2))) (v := .bool r_3) (F := hS3.fn) rfl rfl (uF_ 13) hS3 (fun hg5 => (yC [vi start, vi 0, vi (i64.wrap ((shlK .i64 1 c.Qubits) - 1))] K30 (CV.mono (c_impl_within start 0 (i64.wrap ((shlK .i64 1 c.Qubits) - 1)) _  (hS3.inn0 [] rfl) (gb_inv hc1 hg5)) (by rintro _ _ ⟨rfl, h⟩; exact ⟨rfl, hS3.out00 h⟩)) rfl (mc (gv_of (v := vi start) hg5) (mc rfl (mc (gv_of (v := vi (i64.wrap ((shlK .i64 1 c.Qubits) - 1))) hg5) mn))))) ?_
 rintro w_3 hS4
 refine sgq 20 (B := (!(!r_2))) (v := .bool (!r_3)) rfl rfl (uF_ 13) (fun hg6 => (Y_not (p := r_3) rfl (gv_of (v := .bool r_3) hg6))) ?_
 refine sQ 21 (Y_or (b := (!r_2)) (z := (!r_3)) rfl rfl rfl rfl) (rn ?_)
 refine cw_cond (b := ((!r_2) || (!r_3))) rfl (fun hb => ?_) (fun hb => ?_)
 ·skip
  have hF1 := ct hF hb
  refine cq (cr ?_)
  refine sQ 22 (Y_buildS (zs := kN_) (vs := []) (cs := kN_) K68 K23 rfl mpn rfl) ?_
  refine s0 (yT 1 3 (aD b1) 81 gN_ kN_ 0 hS4 K8) ?_
  rintro _ w_4 ⟨rfl, hS5⟩
  refine sQ 5 (yg (.bool false)) (rn (ct_ ?_))
  have hS6 := hS5.addNil 90
  obtain ⟨rfl, rfl⟩ := pr2 (sI hF1)
  exact ret2 Tryz.results43 (v1 := gN_) (resAt_cellA (B := aD b1) (i := 0) (cs := kN_) (vs := kN_) rfl K17 K8 (hS6.c 1) rfl rfl) (v2 := .bool false) (resAt_tmp rfl) ⟨none, 0, rfl, (hS6.sN [2])⟩
 ·skip
  have hF2 := cf' hF hb
  refine cw_skip (cq (cr ?_))
  refine sQ 24 (yd (aD b) 0 0 K31 K0) <| sQ 25 (yl (aD b) 0 [vi c.Qubits, .slice B c.Gates.length c1] (vi c.Qubits) K1 (hS4.c 0)) ?_
  obtain ⟨hsh1, hF2⟩ := chk_inv hF2
  refine sQ 26 (Y_shl (k := .i64) (a := 1) (k' := .i64) (b := c.Qubits) rfl rfl rfl hsh1) ?_
  obtain ⟨⟨r_4, r_5⟩, hc2, hF2⟩ := bI hF2
  refine sc 27 rfl rfl (yC [vi (shlK .i64 1 c.Qubits)] k_call_142 (c_impl_IdentityMatrix (shlK .i64 1 c.Qubits) _  (hS4.inn0 [] rfl) hc2)) ?_
  rintro _ w_5 ⟨B2, c3, rfl, hd1⟩
  have hS7 := hS4.out0 hd1
  refine sQ 23 (ym (.tuple #[gM_ r_4 B2 c3, .bool r_5])) <| sQ 28 (ye (gM_ r_4 B2 c3)) <| sQ 29 (ye (.bool r_5)) ?_
  refine sS 6 (yN kN_ 3 hS7 K23) ?_
  rintro _ w_6 ⟨b2, rfl, hS8⟩
  refine s0 (yT 3 3 (aD b2) 81 (gM_ r_4 B2 c3) (kM_ r_4 B2 c3) 0 hS8 K8) ?_
  rintro _ w_7 ⟨rfl, hS9⟩
  refine sQ 7 (yg (.bool r_5)) (rn (cq (cr ?_)))
  refine sQ 31 (yb (aD b2) 0 (kM_ r_4 B2 c3) K17 K8 (hS9.c 3)) <| sQ 32 (ym (vi start)) ?_
  obtain ⟨⟨r_6, r_7⟩, hc3, hF2⟩ := bI hF2
  refine sc 33 rfl rfl (yC [gM_ r_4 B2 c3, vi start] k_call_143 (c_impl_ColumnOf r_4 start B2 c3 r_4.Cells.length _ rfl (hS9.inn0 [(false, 2)] rfl) hc3)) ?_
  rintro _ w_8 ⟨B3, c4, rfl, hd2⟩
  have hS10 := hS9.out0 hd2
  refine sQ 30 (ym (.tuple #[gM_ r_6 B3 c4, .bool r_7])) <| sQ 34 (ye (gM_ r_6 B3 c4)) <| sQ 35 (ye (.bool r_7)) ?_
  refine sS 8 (yN kN_ 3 hS10 K23) ?_
  rintro _ w_9 ⟨b3, rfl, hS11⟩
  refine s0 (yT 5 3 (aD b3) 81 (gM_ r_6 B3 c4) (kM_ r_6 B3 c4) 0 hS11 K8) ?_
  rintro _ w_10 ⟨rfl, hS12⟩
  refine sQ 9 (yg (.bool r_7)) (rn (cq (cr ?_)))
  refine sQ 36 (yb (aD b) 0 [vi c.Qubits, .slice B c.Gates.length c1] K22 K11 (hS12.c 0)) <| sQ 37 (yb (aD b3) 0 (kM_ r_6 B3 c4) K17 K8 (hS12.c 5)) <| sQ 38 (ym (.bool r_7)) ?_
  obtain ⟨⟨r_8, r_9⟩, hc4, hF2⟩ := bI hF2
  refine sc 39 rfl rfl (yC [.agg #[vi c.Qubits, .slice B c.Gates.length c1], gM_ r_6 B3 c4, .bool r_7] k_call_144 (c_impl_applied c r_6 r_7 B c1 c.Gates.length B3 c4 r_6.Cells.length _ rfl rfl (hS12.inn [false, false, false, false, true, false] rfl [(true, 0)] rfl) hc4)) ?_
  rintro _ w_11 ⟨B4, c5, rfl, hd3⟩
  have hS13 := hS12.out [false, false, false, false, true, false] rfl hd3
  refine sQ 40 (ye (gM_ r_8 B4 c5)) <| sQ 41 (ye (.bool r_9)) ?_
  refine s0 (yT 1 3 (aD b1) 81 (gM_ r_8 B4 c5) (kM_ r_8 B4 c5) 0 hS13 K8) ?_
  rintro _ w_12 ⟨rfl, hS14⟩
  refine sQ 5 (yg (.bool r_9)) (rn (ct_ ?_))
  obtain ⟨rfl, rfl⟩ := pr2 (sI hF2)
  exact ret2 Tryz.results43 (v1 := gM_ r_8 B4 c5) (resAt_cellA (B := aD b1) (i := 0) (cs := kM_ r_8 B4 c5) (vs := kM_ r_8 B4 c5) rfl K17 K8 (hS14.c 1) rfl rfl) (v2 := .bool r_9) (resAt_tmp rfl) ⟨B4, c5, rfl, (hS14.sN [5])⟩

theorem c_laws_qReverse (x : Int) (bits_ : Int)  (w0 : World)  (hS : ST w0 [] w0 [] []) {r_ : Int} (hF : F_laws_qReverse x bits_ = some r_) :
  CV Tryz.prog 44 #[vi x, vi bits_] w0 (fun v w' => v = vi r_ ∧ ST w0 [] w' [] []) := by
 unfold F_laws_qReverse at hF
 refine cv_of_cw 21 Tryz.func44 rfl Tryz.ntmps44 rfl ?_
 refine cq (cr ?_)
 refine sQ 4 (yg (vi 0)) (rn (cq (cr ?_)))
 refine sQ 5 (yg (vi 0)) (rn (cq (cq (cr ?_))))
 refine sQ 6 (yg (vi 0)) (rn ?_)
 obtain ⟨hN, hF⟩ := chk_inv hF
 obtain ⟨z, hz, hF1⟩ := bI hF
 refine cw_block ?_
 refine cw_loop (fun k f w => ∃ (k_ : Nat) (y : Int), FF f [(0, vi x), (1, vi bits_), (5, vi y), (6, vi (k_ : Int))] ∧ ST w0 [] w [] [] ∧ k_ + k = bits_.toNat ∧ forN (F_laws_qReverse_l1 x) k k_ y = some z) bits_.toNat ⟨0, 0, (fc rfl (fc rfl (fc rfl (fc rfl fn_)))), (hS.sel [] rfl rfl), Nat.zero_add _, hz⟩ ?_
 rintro K7 f w ⟨k_, y, hf, hS1, hik, hL⟩
 refine cq (cq (cr ?_))
 refine sQ 7 (ym (vi (k_ : Int)) rfl (hf.g 6 3)) <| sQ 8 (ym (vi bits_) rfl (hf.g 1 1)) <| sQ 9 (yL (k_ : Int) bits_) (rn ?_)
 refine cw_cond (b := (decide ((k_ : Int) < bits_))) rfl (fun hlt => ?_) (fun hlt => ?_)
 ·skip
  have hlt1 : k_ < bits_.toNat := by have h := of_decide_eq_true hlt; omega
  obtain ⟨K16, rfl⟩ : ∃ k2, K7 = k2 + 1 := ⟨K7 - 1, by omega⟩
  obtain ⟨y1, hb, hL1⟩ := forN_go hL
  unfold F_laws_qReverse_l1 at hb
  refine cw_skip (cq (cw_block (cr ?_)))
  refine sQ 12 (ym (vi y) rfl (hf.g 5 2)) <| sQ 13 (yX 2 y) <| sQ 14 (ym (vi x) rfl (hf.g 0 0)) <| sQ 15 (ym (vi (k_ : Int)) rfl (hf.g 6 3)) <| sQ 16 (Y_conv (k := .i64) (a := (k_ : Int)) (T := 3) (T' := 77) K54 K59 rfl rfl) ?_
  obtain ⟨hsh, hb⟩ := chk_inv hb
  refine sQ 17 (Y_shr (k := .i64) (a := x) (k' := .u64) (b := (IntKind.u64.wrap (k_ : Int))) rfl rfl rfl hsh) <| sQ 18 (Y_band (k := .i64) (a := (shrK .i64 x (IntKind.u64.wrap (k_ : Int)))) (b := 1) rfl rfl rfl) <| sQ 19 (yP (i64.wrap (2 * y)) (bits .and .i64 (shrK .i64 x (IntKind.u64.wrap (k_ : Int))) 1)) <| sQ 5 (yg (vi (i64.wrap ((i64.wrap (2 * y)) + (bits .and .i64 (shrK .i64 x (IntKind.u64.wrap (k_ : Int))) 1))))) (rn (cr ?_))
  refine sQ 10 (ym (vi (k_ : Int)) rfl (hf.g 6 3)) <| sQ 11 (yP (k_ : Int) 1) <| sQ 6 (yg (vi (i64.wrap ((k_ : Int) + 1)))) (rn ?_)
  obtain rfl := sI hb
  exact ⟨K16, Nat.lt_succ_self _, k_ + 1, (i64.wrap ((i64.wrap (2 * y)) + (bits .and .i64 (shrK .i64 x (IntKind.u64.wrap (k_ : Int))) 1))), (fc (hf.g 0 0) (fc (hf.g 1 1) (fc rfl (fc (congrArg (Value.int .i64) (wr_succ hlt1 hN)) fn_)))), (hS1.sel [] rfl rfl), (by omega), hL1⟩
 ·skip
  obtain rfl : K7 = 0 := by have h := of_decide_eq_false hlt; omega
  refine cw_exit rfl ?_
  obtain rfl := sI hL
  refine cq (cr ?_)
  refine sQ 20 (ym (vi y) rfl (hf.g 5 2)) <| sQ 4 (yg (vi y)) (rn (ct_ ?_))
  obtain rfl := sI hF1
  exact ret1 Tryz.results44 (v1 := vi y) (resAt_tmp rfl) ⟨rfl, (hS1.sN [])⟩

theorem c_laws_qWeight (n : Int)  (w0 : World)  (hS : ST w0 [] w0 [] []) {r_ : Int} (hF : F_laws_qWeight n = some r_) :
  CV Tryz.prog 45 #[vi n] w0 (fun v w' => v = vi r_ ∧ ST w0 [] w' [] []) := by
 unfold F_laws_qWeight at hF
 refine cv_of_cw 13 Tryz.func45 rfl Tryz.ntmps45 rfl ?_
 refine cq (cr ?_)
 refine sQ 2 (yg (vi 0)) (rn (cq (cr ?_)))
 refine sQ 3 (yg (vi 0)) (rn (cq ?_))
 obtain ⟨z, hz, hF1⟩ := bI hF
 refine cw_block ?_
 refine cw_loop (fun k f w => ∃ (n1 : Int) (k_ : Int), FF f [(0, vi n1), (3, vi k_)] ∧ ST w0 [] w [] [] ∧ whX F_laws_qWeight_l1 k (n1, k_) = some z) fuel ⟨n, 0, (fc rfl (fc rfl fn_)), (hS.sel [] rfl rfl), hz⟩ ?_
 rintro K7 f w ⟨n1, k_, hf, hS1, hL⟩
 obtain ⟨K16, y, rfl, hb, hL1⟩ := whX_go hL
 unfold F_laws_qWeight_l1 at hb
 refine cq (cq (cr ?_))
 refine sQ 4 (ym (vi n1) rfl (hf.g 0 0)) <| sQ 5 (Y_gt (k := .i64) (a := n1) (b := 0) rfl rfl rfl) (rn ?_)
 refine cw_cond (b := (decide (0 < n1))) rfl (fun hb1 => ?_) (fun hb1 => ?_)
 ·skip
  have hF2 := ct hb hb1
  refine cw_skip (cq (cw_block (cr ?_)))
  refine sQ 8 (ym (vi k_) rfl (hf.g 3 1)) <| sQ 9 (ym (vi n1) rfl (hf.g 0 0)) <| sQ 10 (Y_band (k := .i64) (a := n1) (b := 1) rfl rfl rfl) <| sQ 11 (yP k_ (bits .and .i64 n1 1)) <| sQ 3 (yg (vi (i64.wrap (k_ + (bits .and .i64 n1 1))))) (rn (cr ?_))
  refine sQ 6 (ym (vi n1) rfl (hf.g 0 0)) <| sQ 7 (Y_shr (k := .i64) (a := n1) (k' := .u64) (b := 1) rfl rfl rfl (by decide)) <| sQ 0 (yg (vi (shrK .i64 n1 1))) (rn ?_)
  obtain rfl := sI hF2
  exact ⟨K16, Nat.lt_succ_self _, (shrK .i64 n1 1), (i64.wrap (k_ + (bits .and .i64 n1 1))), (fc rfl (fc rfl fn_)), (hS1.sel [] rfl rfl), hL1⟩
 ·skip
  have hF3 := cf' hb hb1
  refine cw_exit rfl ?_
  obtain rfl := sI hF3
  obtain rfl := sI hL1
  refine cq (cr ?_)
  refine sQ 12 (ym (vi k_) rfl (hf.g 3 1)) <| sQ 2 (yg (vi k_)) (rn (ct_ ?_))
  obtain rfl := sI hF1
  exact ret1 Tryz.results45 (v1 := vi k_) (resAt_tmp rfl) ⟨rfl, (hS1.sN [])⟩

theorem c_impl_PhaseOf (x : TDyadic)  (w0 : World)  (hS : ST w0 [] w0 [] []) {r_ : Int} {r_1 : Bool} (hF : F_impl_PhaseOf x = some (r_, r_1)) :
  CV Tryz.prog 46 #[gD_ x] w0 (fun v w' => v = .tuple #[vi r_, .bool r_1] ∧ ST w0 [] w' [] []) := by
 unfold F_impl_PhaseOf at hF
 refine cv_of_cw 14 Tryz.func46 rfl Tryz.ntmps46 rfl ?_
 refine cq (cr ?_)
 refine sS 1 (yB 90 (gD_ x) (kD_ x) 5 hS) ?_
 rintro _ w_ ⟨b, rfl, hS1⟩
 refine sQ 2 (yg (vi 0)) <| sQ 3 (yg (.bool false)) (rn (cq (cq (cr ?_))))
 refine sQ 5 (ym (vi 0)) (rn ?_)
 obtain ⟨z, hz, hF1⟩ := bI hF
 refine cw_block ?_
 refine cw_loop (fun k f w => ∃ (i : Nat), FF f [(1, pt (aD b) 0), (5, vi (i : Int))] ∧ ST w0 [] w [⟨aD b, 90, kD_ x, 5⟩] [] ∧ i + k = 8 ∧ forX (F_impl_PhaseOf_l1 x) k i () = some z) 8 ⟨0, (fc rfl (fc rfl fn_)), (hS1.sel [0] rfl rfl), Nat.zero_add _, hz⟩ ?_
 rintro k_ f w ⟨i, hf, hS2, hik, hL⟩
 refine cq (cr ?_)
 refine sQ 6 (yL (i : Int) 8 rfl (hf.g 5 1)) (rn (cq ?_))
 refine cw_cond (b := (decide ((i : Int) < 8))) rfl (fun hlt => ?_) (fun hlt => ?_)
 ·skip
  have hlt1 : i < 8 := by have h := of_decide_eq_true hlt; omega
  obtain ⟨K7, rfl⟩ : ∃ k2, k_ = k2 + 1 := ⟨k_ - 1, by omega⟩
  obtain ⟨y, hb, hL1⟩ := forX_go hL
  unfold F_impl_PhaseOf_l1 at hb
  refine cw_skip (cq (cw_block (cq (cr ?_))))
  refine sQ 7 (ym (vi (i : Int)) rfl (hf.g 5 1)) <| sQ 4 (yg (vi (i : Int))) (rn (cq ?_))
  obtain ⟨r_2, hc, hb⟩ := bI hb
  refine ra_start (hS2.se [0]).fn (by kernel_rfl) ?_
  have hS4 := hS2.drew
  refine rq 0 8 (v := gD_ x) rfl (hS4.se [0]) (fun w' hw' => (yb (aD b) 0 (kD_ x) K10 K4 (ST.cf hw' (i := 0) rfl) rfl (hf.g 1 0))) ?_
  refine rq 1 9 (v := vi (i : Int)) rfl (hS4.se [0]) (fun w' hw' => (ym (vi (i : Int)))) ?_
  refine rA [2] ?_
  refine rC 10 2 rfl (yC [vi (i : Int)] K89 (c_impl_phase (i : Int) _  (hS4.inn0 [] rfl) hc)) ?_ ?_
  ·rintro _ w_1 ⟨rfl, hd⟩
   have hS5 := hS4.out00 hd
   refine ⟨(hS5.se [0]), ?_⟩
   refine rq 3 11 (v := .bool (((x.Num.A == r_2.Num.A) && ((x.Num.B == r_2.Num.B) && ((x.Num.C == r_2.Num.C) && ((x.Num.D == r_2.Num.D) && true)))) && ((x.Exp == r_2.Exp) && true))) rfl (hS5.se [0]) (fun w' hw' => (Y_eqA (xs := #[vi x.Num.A, vi x.Num.B, vi x.Num.C, vi x.Num.D, vi x.Exp]) (ys := #[vi r_2.Num.A, vi r_2.Num.B, vi r_2.Num.C, vi r_2.Num.D, vi r_2.Exp]) (b := (((x.Num.A == r_2.Num.A) && ((x.Num.B == r_2.Num.B) && ((x.Num.C == r_2.Num.C) && ((x.Num.D == r_2.Num.D) && true)))) && ((x.Exp == r_2.Exp) && true))) k_eg_90 rfl rfl rfl (eqr_struct (xs := kD_ x) (ys := kD_ r_2) k_st_90 k_ho_90 (pts_ag (us := kR_ x.Num) (vs := kR_ r_2.Num) K12 K6 rfl rfl (eqr_struct (xs := kR_ x.Num) (ys := kR_ r_2.Num) k_st_88 k_ho_88 (pts_sc K1 rfl rfl (eqr_int K28) (pts_sc K1 rfl rfl (eqr_int K28) (pts_sc K1 rfl rfl (eqr_int K28) (pts_sc K1 rfl rfl (eqr_int K28) pts_nil))))) (pts_sc K1 rfl rfl (eqr_int K28) pts_nil))))) ?_
   refine ra_done (by kernel_rfl) ?_
   refine cw_cond (b := (((x.Num.A == r_2.Num.A) && ((x.Num.B == r_2.Num.B) && ((x.Num.C == r_2.Num.C) && ((x.Num.D == r_2.Num.D) && true)))) && ((x.Exp == r_2.Exp) && true))) rfl (fun hb1 => ?_) (fun hb1 => ?_)
   ·skip
    have hF2 := ct hb hb1
    refine cq (cr ?_)
    refine sQ 12 (ym (vi (i : Int))) <| sQ 2 (yg (vi (i : Int))) <| sQ 3 (yg (.bool true)) (rn (ct_ ?_))
    obtain rfl := sI hF2
    obtain rfl := sI hL1
    obtain ⟨rfl, rfl⟩ := pr2 (sI hF1)
    exact ret2 Tryz.results46 (v1 := vi (i : Int)) (resAt_tmp rfl) (v2 := .bool true) (resAt_tmp rfl) ⟨rfl, (hS5.sN [])⟩
   ·skip
    have hF3 := cf' hb hb1
    refine cw_skip (cr ?_)
    refine sQ 13 (yP (i : Int) 1 rfl (hf.g 5 1)) <| sQ 5 (ym (vi (i64.wrap ((i : Int) + 1)))) (rn ?_)
    obtain rfl := sI hF3
    exact ⟨K7, Nat.lt_succ_self _, i + 1, (fc (hf.g 1 0) (fc (congrArg (Value.int .i64) (wr_succ hlt1 (show 8 ≤ 9223372036854775807 by decide))) fn_)), (hS5.sel [0] rfl rfl), (by omega), hL1⟩
  exact aN
 ·skip
  obtain rfl : k_ = 0 := by have h := of_decide_eq_false hlt; omega
  refine cw_exit rfl ?_
  obtain rfl := sI hL
  refine cq (cr ?_)
  refine sQ 2 (yg (vi 0)) <| sQ 3 (yg (.bool false)) (rn (ct_ ?_))
  obtain ⟨rfl, rfl⟩ := pr2 (sI hF1)
  exact ret2 Tryz.results46 (v1 := vi 0) (resAt_tmp rfl) (v2 := .bool false) (resAt_tmp rfl) ⟨rfl, (hS2.sN [])⟩

theorem c_laws_FnPhasePolynomials (code : List Int) (more : List Int) (B : Option Addr) (c n : Nat) (B1 : Option Addr) (c1 n1 : Nat) (w0 : World) (hn : code.length = n) (hn1 : more.length = n1) (hS : ST w0 [] w0 [] [⟨B, (code.flatMap enc_u8)⟩, ⟨B1, (more.flatMap enc_u8)⟩]) {r_ : Bool} (hF : F_laws_FnPhasePolynomials code more = some r_) :
  CV Tryz.prog 5 #[.slice B n c, .slice B1 n1 c1] w0 (fun v w' => v = .bool r_ ∧ ST w0 [] w' [] []) := by
 subst hn
 subst hn1
 unfold F_laws_FnPhasePolynomials at hF
 refine cv_of_cw 147 Tryz.func5 rfl Tryz.ntmps5 rfl ?_
 refine cq (cr ?_)
 refine sQ 4 (yg (.bool false)) (rn (cq (cq (cr ?_))))
 refine sQ 22 (ym (.slice B code.length c)) <| sQ 23 (Y_len (B := B) (m := code.length) (c := c) K85 rfl rfl) <| sQ 24 (ym (.slice B1 more.length c1)) <| sQ 25 (Y_len (B := B1) (m := more.length) (c := c1) K85 rfl rfl) <| sQ 26 (yP (code.length : Int) (more.length : Int)) <| sQ 27 (Y_gt (k := .i64) (a := (i64.wrap ((code.length : Int) + (more.length : Int)))) (b := 1048576) rfl rfl rfl) (rn ?_)
 refine cw_cond (b := (decide (1048576 < (i64.wrap ((code.length : Int) + (more.length : Int)))))) rfl (fun hb => ?_) (fun hb => ?_)
 ·skip
  have hF1 := ct hF hb
  refine cq (cr ?_)
  refine sQ 4 (yg (.bool true)) (rn (ct_ ?_))
  obtain rfl := sI hF1
  exact ret1 Tryz.results5 (v1 := .bool true) (resAt_tmp rfl) ⟨rfl, (hS.sN [])⟩
 ·skip
  have hF2 := cf' hF hb
  refine cw_skip (cq (cr ?_))
  refine sQ 28 (ym (.slice B code.length c)) ?_
  obtain ⟨r_1, hc, hF2⟩ := bI hF2
  refine sc 29 rfl rfl (yC [.slice B code.length c] k_call_37 (c_spec_DrawPhasePolyOf code B c code.length _ rfl (hS.inn0 [(true, 0)] rfl) hc)) ?_
  rintro _ w_ ⟨B2, c2, rfl, hd⟩
  have hS1 := hS.out0 hd
  refine sS 5 (yN [vi 0, .slice none 0 0] 2 hS1 K45) ?_
  rintro _ w_1 ⟨b, rfl, hS2⟩
  refine s0 (yT 1 2 (aD b) 28 (.agg #[vi r_1.Qubits, .slice B2 r_1.Gates.length c2]) [vi r_1.Qubits, .slice B2 r_1.Gates.length c2] 0 hS2 K11) ?_
  rintro _ w_2 ⟨rfl, hS3⟩
  refine rn (cq (cr ?_))
  refine sQ 31 (yb (aD b) 0 [vi r_1.Qubits, .slice B2 r_1.Gates.length c2] K22 K11 (hS3.c 1)) ?_
  obtain ⟨⟨r_2, r_3⟩, hc1, hF2⟩ := bI hF2
  refine sc 32 rfl rfl (yC [.agg #[vi r_1.Qubits, .slice B2 r_1.Gates.length c2]] k_call_32 (c_impl_PhasePolyOf r_1 B2 c2 r_1.Gates.length _ rfl (hS3.inn0 [(false, 0)] rfl) hc1)) ?_
  rintro _ w_3 ⟨B3, c3, B4, c4, rfl, hd1⟩
  have hS4 := hS3.out0 hd1
  refine sQ 30 (ym (.tuple #[.agg #[vi r_2.Qubits, vi r_2.Phase, .slice B3 r_2.Terms.length c3, .slice B4 r_2.Out.Rows.length c4], .bool r_3])) <| sQ 33 (ye (.agg #[vi r_2.Qubits, vi r_2.Phase, .slice B3 r_2.Terms.length c3, .slice B4 r_2.Out.Rows.length c4])) <| sQ 34 (ye (.bool r_3)) ?_
  refine sS 6 (yN [vi 0, vi 0, .slice none 0 0, .slice none 0 0] 4 hS4 K32) ?_
  rintro _ w_4 ⟨b1, rfl, hS5⟩
  have hS5 : ST w0 [] _ [⟨B2, 120, (r_1.Gates.flatMap eN0), c2 * 3⟩, ⟨aD b, 28, [vi r_1.Qubits, .slice B2 r_1.Gates.length c2], 2⟩, ⟨B3, 157, (r_2.Terms.flatMap enc_Term), c3 * 2⟩, ⟨B4, 3, (r_2.Out.Rows.flatMap encI), c4 * 1⟩, ⟨aD b1, 62, [vi 0, vi 0, .slice none 0 0, .slice none 0 0], 4⟩] [⟨B, (code.flatMap enc_u8)⟩, ⟨B1, (more.flatMap enc_u8)⟩] := hS5
  refine s0 (yT 4 4 (aD b1) 62 (.agg #[vi r_2.Qubits, vi r_2.Phase, .slice B3 r_2.Terms.length c3, .slice B4 r_2.Out.Rows.length c4]) [vi r_2.Qubits, vi r_2.Phase, .slice B3 r_2.Terms.length c3, .slice B4 r_2.Out.Rows.length c4] 0 hS5 K20) ?_
  rintro _ w_5 ⟨rfl, hS6⟩
  refine sQ 7 (yg (.bool r_3)) (rn (cq (cr ?_)))
  refine sQ 36 (yb (aD b) 0 [vi r_1.Qubits, .slice B2 r_1.Gates.length c2] K22 K11 (hS6.c 1)) ?_
  obtain ⟨⟨r_4, r_5⟩, hc2, hF2⟩ := bI hF2
  refine sc 37 rfl rfl (yC [.agg #[vi r_1.Qubits, .slice B2 r_1.Gates.length c2]] k_call_38 (c_spec_PhasePolyOf r_1 B2 c2 r_1.Gates.length _ rfl (hS6.inn0 [(false, 0)] rfl) hc2)) ?_
  rintro _ w_6 ⟨B5, c5, B6, c6, rfl, hd2⟩
  have hS7 := hS6.out0 hd2
  refine sQ 35 (ym (.tuple #[.agg #[vi r_4.Qubits, vi r_4.Phase, .slice B5 r_4.Terms.length c5, .slice B6 r_4.Out.Rows.length c6], .bool r_5])) <| sQ 38 (ye (.agg #[vi r_4.Qubits, vi r_4.Phase, .slice B5 r_4.Terms.length c5, .slice B6 r_4.Out.Rows.length c6])) <| sQ 39 (ye (.bool r_5)) ?_
  refine sS 8 (yN [vi 0, vi 0, .slice none 0 0, .slice none 0 0] 4 hS7 K32) ?_
  rintro _ w_7 ⟨b2, rfl, hS8⟩
  refine s0 (yT 7 4 (aD b2) 62 (.agg #[vi r_4.Qubits, vi r_4.Phase, .slice B5 r_4.Terms.length c5, .slice B6 r_4.Out.Rows.length c6]) [vi r_4.Qubits, vi r_4.Phase, .slice B5 r_4.Terms.length c5, .slice B6 r_4.Out.Rows.length c6] 0 hS8 K20) ?_
  rintro _ w_8 ⟨rfl, hS9⟩
  have hS9 : ST w0 [] _ [⟨B2, 120, (r_1.Gates.flatMap eN0), c2 * 3⟩, ⟨aD b, 28, [vi r_1.Qubits, .slice B2 r_1.Gates.length c2], 2⟩, ⟨B3, 157, (r_2.Terms.flatMap enc_Term), c3 * 2⟩, ⟨B4, 3, (r_2.Out.Rows.flatMap encI), c4 * 1⟩, ⟨aD b1, 62, [vi r_2.Qubits, vi r_2.Phase, .slice B3 r_2.Terms.length c3, .slice B4 r_2.Out.Rows.length c4], 4⟩, ⟨B5, 157, (r_4.Terms.flatMap enc_Term), c5 * 2⟩, ⟨B6, 3, (r_4.Out.Rows.flatMap encI), c6 * 1⟩, ⟨aD b2, 62, [vi r_4.Qubits, vi r_4.Phase, .slice B5 r_4.Terms.length c5, .slice B6 r_4.Out.Rows.length c6], 4⟩] [⟨B, (code.flatMap enc_u8)⟩, ⟨B1, (more.flatMap enc_u8)⟩] := hS9
  refine sQ 9 (yg (.bool r_5)) (rn (cq (cq (cr ?_))))
  refine sQ 40 (ym (.bool r_3)) <| sQ 41 (ym (.bool r_5)) <| sQ 42 (Y_bne (p := r_3) (q := r_5) k_und_4 rfl rfl rfl) <| sQ 43 (ym (.bool (!(r_3 == r_5)))) ?_
  refine sgq 44 (B := (!(!(r_3 == r_5)))) (v := .agg #[vi r_2.Qubits, vi r_2.Phase, .slice B3 r_2.Terms.length c3, .slice B4 r_2.Out.Rows.length c4]) rfl rfl (uF_ 43) (fun hg => (yb (aD b1) 0 [vi r_2.Qubits, vi r_2.Phase, .slice B3 r_2.Terms.length c3, .slice B4 r_2.Out.Rows.length c4] K47 K20 (hS9.c 4))) ?_
  refine sgq 45 (B := (!(!(r_3 == r_5)))) (v := .agg #[vi r_4.Qubits, vi r_4.Phase, .slice B5 r_4.Terms.length c5, .slice B6 r_4.Out.Rows.length c6]) rfl rfl (uF_ 43) (fun hg1 => (yb (aD b2) 0 [vi r_4.Qubits, vi r_4.Phase, .slice B5 r_4.Terms.length c5, .slice B6 r_4.Out.Rows.length c6] K47 K20 (hS9.c 7))) ?_
  obtain ⟨r_6, hc3, hF2⟩ := bI hF2
  refine sgc 46 (B := (!(!(r_3 == r_5)))) (v := .bool r_6) (F := hS9.fn) rfl rfl (uF_ 43) hS9 (fun hg2 => (yC [.agg #[vi r_2.Qubits, vi r_2.Phase, .slice B3 r_2.Terms.length c3, .slice B4 r_2.Out.Rows.length c4], .agg #[vi r_4.Qubits, vi r_4.Phase, .slice B5 r_4.Terms.length c5, .slice B6 r_4.Out.Rows.length c6]] k_call_39 (CV.mono (c_laws_qPoly r_2 r_4 B3 c3 r_2.Terms.length B4 c4 r_2.Out.Rows.length B5 c5 r_4.Terms.length B6 c6 r_4.Out.Rows.length _ rfl rfl rfl rfl (hS9.inn0 [(false, 2), (false, 3), (false, 5), (false, 6)] rfl) (gb_inv hc3 hg2)) (by rintro _ _ ⟨rfl, h⟩; exact ⟨rfl, hS9.out00 h⟩)) rfl (mc (gv_of (v := .agg #[vi r_2.Qubits, vi r_2.Phase, .slice B3 r_2.Terms.length c3, .slice B4 r_2.Out.Rows.length c4]) hg2) (mc (gv_of (v := .agg #[vi r_4.Qubits, vi r_4.Phase, .slice B5 r_4.Terms.length c5, .slice B6 r_4.Out.Rows.length c6]) hg2) mn)))) ?_
  rintro w_9 hS10
  refine sgq 47 (B := (!(!(r_3 == r_5)))) (v := .bool (!r_6)) rfl rfl (uF_ 43) (fun hg3 => (Y_not (p := r_6) rfl (gv_of (v := .bool r_6) hg3))) ?_
  refine sQ 48 (Y_or (b := (!(r_3 == r_5))) (z := (!r_6)) rfl rfl rfl rfl) (rn ?_)
  refine cw_cond (b := ((!(r_3 == r_5)) || (!r_6))) rfl (fun hb1 => ?_) (fun hb1 => ?_)
  ·skip
   have hF3 := ct hF2 hb1
   refine cq (cr ?_)
   refine sQ 4 (yg (.bool false)) (rn (ct_ ?_))
   obtain rfl := sI hF3
   exact ret1 Tryz.results5 (v1 := .bool false) (resAt_tmp rfl) ⟨rfl, (hS10.sN [])⟩
  ·skip
   have hF4 := cf' hF2 hb1
   refine cw_skip (cq (cq (cr ?_)))
   refine sQ 49 (ym (.bool r_3)) <| sQ 50 (Y_not (p := r_3) rfl rfl) <| sQ 51 (ym (.bool (!r_3))) ?_
   refine sgq 52 (B := (!(!r_3))) (v := pt (aD b) 0) rfl rfl (uF_ 51) (fun hg4 => (yd (aD b) 0 0 K31 K0)) ?_
   refine sgq 53 (B := (!(!r_3))) (v := vi r_1.Qubits) rfl rfl (uF_ 51) (fun hg5 => (yl (aD b) 0 [vi r_1.Qubits, .slice B2 r_1.Gates.length c2] (vi r_1.Qubits) K1 (hS10.c 1) rfl (gv_of (v := pt (aD b) 0) hg5))) ?_
   refine sgq 54 (B := (!(!r_3))) (v := .bool (decide (4 < r_1.Qubits))) rfl rfl (uF_ 51) (fun hg6 => (Y_gt (k := .i64) (a := r_1.Qubits) (b := 4) rfl (gv_of (v := vi r_1.Qubits) hg6) rfl)) ?_
   refine sQ 55 (Y_or (b := (!r_3)) (z := (decide (4 < r_1.Qubits))) rfl rfl rfl rfl) (rn ?_)
   refine cw_cond (b := ((!r_3) || (decide (4 < r_1.Qubits)))) rfl (fun hb2 => ?_) (fun hb2 => ?_)
   ·skip
    have hF5 := ct hF4 hb2
    refine cq (cr ?_)
    refine sQ 4 (yg (.bool true)) (rn (ct_ ?_))
    obtain rfl := sI hF5
    exact ret1 Tryz.results5 (v1 := .bool true) (resAt_tmp rfl) ⟨rfl, (hS10.sN [])⟩
   ·skip
    have hF6 := cf' hF4 hb2
    refine cw_skip (cq (cr ?_))
    refine sQ 57 (yb (aD b1) 0 [vi r_2.Qubits, vi r_2.Phase, .slice B3 r_2.Terms.length c3, .slice B4 r_2.Out.Rows.length c4] K47 K20 (hS10.c 4)) ?_
    obtain ⟨⟨r_7, r_8⟩, hc4, hF6⟩ := bI hF6
    refine sc 58 rfl rfl (yC [.agg #[vi r_2.Qubits, vi r_2.Phase, .slice B3 r_2.Terms.length c3, .slice B4 r_2.Out.Rows.length c4]] k_call_40 (c_impl_PhaseCircuit r_2 B3 c3 r_2.Terms.length B4 c4 r_2.Out.Rows.length _ rfl rfl (hS10.inn0 [(false, 2), (false, 3)] rfl) hc4)) ?_
    rintro _ w_10 ⟨B7, c7, rfl, hd3⟩
    have hS11 := hS10.out0 hd3
    refine sQ 56 (ym (.tuple #[.agg #[vi r_7.Qubits, .slice B7 r_7.Gates.length c7], .bool r_8])) <| sQ 59 (ye (.agg #[vi r_7.Qubits, .slice B7 r_7.Gates.length c7])) <| sQ 60 (ye (.bool r_8)) ?_
    refine sS 10 (yN [vi 0, .slice none 0 0] 2 hS11 K45) ?_
    rintro _ w_11 ⟨b3, rfl, hS12⟩
    refine s0 (yT 9 2 (aD b3) 28 (.agg #[vi r_7.Qubits, .slice B7 r_7.Gates.length c7]) [vi r_7.Qubits, .slice B7 r_7.Gates.length c7] 0 hS12 K11) ?_
    rintro _ w_12 ⟨rfl, hS13⟩
    have hS13 : ST w0 [] _ [⟨B2, 120, (r_1.Gates.flatMap eN0), c2 * 3⟩, ⟨aD b, 28, [vi r_1.Qubits, .slice B2 r_1.Gates.length c2], 2⟩, ⟨B3, 157, (r_2.Terms.flatMap enc_Term), c3 * 2⟩, ⟨B4, 3, (r_2.Out.Rows.flatMap encI), c4 * 1⟩, ⟨aD b1, 62, [vi r_2.Qubits, vi r_2.Phase, .slice B3 r_2.Terms.length c3, .slice B4 r_2.Out.Rows.length c4], 4⟩, ⟨B5, 157, (r_4.Terms.flatMap enc_Term), c5 * 2⟩, ⟨B6, 3, (r_4.Out.Rows.flatMap encI), c6 * 1⟩, ⟨aD b2, 62, [vi r_4.Qubits, vi r_4.Phase, .slice B5 r_4.Terms.length c5, .slice B6 r_4.Out.Rows.length c6], 4⟩, ⟨B7, 120, (r_7.Gates.flatMap eN0), c7 * 3⟩, ⟨aD b3, 28, [vi r_7.Qubits, .slice B7 r_7.Gates.length c7], 2⟩] [⟨B, (code.flatMap enc_u8)⟩, ⟨B1, (more.flatMap enc_u8)⟩] := hS13
    refine sQ 11 (yg (.bool r_8)) (rn (cq (cq (cr ?_))))
    refine sQ 61 (ym (.bool r_8)) <| sQ 62 (Y_not (p := r_8) rfl rfl) <| sQ 63 (ym (.bool (!r_8))) ?_
    refine sgq 64 (B := (!(!r_8))) (v := .agg #[vi r_1.Qubits, .slice B2 r_1.Gates.length c2]) rfl rfl (uF_ 63) (fun hg7 => (yb (aD b) 0 [vi r_1.Qubits, .slice B2 r_1.Gates.length c2] K22 K11 (hS13.c 1))) ?_
    refine sgq 65 (B := (!(!r_8))) (v := .agg #[vi r_7.Qubits, .slice B7 r_7.Gates.length c7]) rfl rfl (uF_ 63) (fun hg8 => (yb (aD b3) 0 [vi r_7.Qubits, .slice B7 r_7.Gates.length c7] K22 K11 (hS13.c 9))) ?_
    obtain ⟨r_9, hc5, hF6⟩ := bI hF6
    refine sgc 66 (B := (!(!r_8))) (v := .bool r_9) (F := hS13.fn) rfl rfl (uF_ 63) hS13 (fun hg9 => (yC [.agg #[vi r_1.Qubits, .slice B2 r_1.Gates.length c2], .agg #[vi r_7.Qubits, .slice B7 r_7.Gates.length c7]] k_call_41 (CV.mono (c_laws_qExact r_1 r_7 B2 c2 r_1.Gates.length B7 c7 r_7.Gates.length _ rfl rfl (hS13.inn0 [(false, 0), (false, 8)] rfl) (gb_inv hc5 hg9)) (by rintro _ _ ⟨rfl, h⟩; exact ⟨rfl, hS13.out00 h⟩)) rfl (mc (gv_of (v := .agg #[vi r_1.Qubits, .slice B2 r_1.Gates.length c2]) hg9) (mc (gv_of (v := .agg #[vi r_7.Qubits, .slice B7 r_7.Gates.length c7]) hg9) mn)))) ?_
    rintro w_13 hS14
    refine sgq 67 (B := (!(!r_8))) (v := .bool (!r_9)) rfl rfl (uF_ 63) (fun hg10 => (Y_not (p := r_9) rfl (gv_of (v := .bool r_9) hg10))) ?_
    refine sQ 68 (Y_or (b := (!r_8)) (z := (!r_9)) rfl rfl rfl rfl) (rn ?_)
    refine cw_cond (b := ((!r_8) || (!r_9))) rfl (fun hb3 => ?_) (fun hb3 => ?_)
    ·skip
     have hF7 := ct hF6 hb3
     refine cq (cr ?_)
     refine sQ 4 (yg (.bool false)) (rn (ct_ ?_))
     obtain rfl := sI hF7
     exact ret1 Tryz.results5 (v1 := .bool false) (resAt_tmp rfl) ⟨rfl, (hS14.sN [])⟩
    ·skip
     have hF8 := cf' hF6 hb3
     refine cw_skip (cq (cq (cr ?_)))
     refine sQ 12 (yg (vi 0)) (rn ?_)
     obtain ⟨hN, hF8⟩ := chk_inv hF8
     obtain ⟨z, hz, hF9⟩ := bI hF8
     refine cw_block ?_
     refine cw_loop (fun k f w => ∃ (bits_ : Nat), FF f [(5, pt (aD b) 0), (6, pt (aD b1) 0), (12, vi (bits_ : Int))] ∧ ST w0 [] w [⟨aD b, 28, [vi r_1.Qubits, .slice B2 r_1.Gates.length c2], 2⟩, ⟨B2, 120, (r_1.Gates.flatMap eN0), c2 * 3⟩, ⟨aD b1, 62, [vi r_2.Qubits, vi r_2.Phase, .slice B3 r_2.Terms.length c3, .slice B4 r_2.Out.Rows.length c4], 4⟩, ⟨B3, 157, (r_2.Terms.flatMap enc_Term), c3 * 2⟩, ⟨B4, 3, (r_2.Out.Rows.flatMap encI), c4 * 1⟩] [⟨B, (code.flatMap enc_u8)⟩, ⟨B1, (more.flatMap enc_u8)⟩] ∧ bits_ + k = (shlK .i64 1 (IntKind.u64.wrap r_1.Qubits)).toNat ∧ forX (F_laws_FnPhasePolynomials_l1 r_2 r_1) k bits_ () = some z) ((shlK .i64 1 (IntKind.u64.wrap r_1.Qubits)).toNat) ⟨0, (fc rfl (fc rfl (fc rfl fn_))), (hS14.sel [1, 0, 4, 2, 3] rfl rfl), Nat.zero_add _, hz⟩ ?_
     rintro k_ f w ⟨bits_, hf, hS15, hik, hL⟩
     refine cq (cq (cr ?_))
     refine sQ 69 (ym (vi (bits_ : Int)) rfl (hf.g 12 2)) <| sQ 70 (yd (aD b) 0 0 K31 K0 rfl (hf.g 5 0)) <| sQ 71 (yl (aD b) 0 [vi r_1.Qubits, .slice B2 r_1.Gates.length c2] (vi r_1.Qubits) K1 (hS15.c 0)) <| sQ 72 (Y_conv (k := .i64) (a := r_1.Qubits) (T := 3) (T' := 77) K54 K59 rfl rfl) <| sQ 73 (Y_shl (k := .i64) (a := 1) (k' := .u64) (b := (IntKind.u64.wrap r_1.Qubits)) rfl rfl rfl (Int.emod_nonneg _ (by decide))) <| sQ 74 (yL (bits_ : Int) (shlK .i64 1 (IntKind.u64.wrap r_1.Qubits))) (rn ?_)
     refine cw_cond (b := (decide ((bits_ : Int) < (shlK .i64 1 (IntKind.u64.wrap r_1.Qubits))))) rfl (fun hlt => ?_) (fun hlt => ?_)
     ·skip
      have hlt1 : bits_ < (shlK .i64 1 (IntKind.u64.wrap r_1.Qubits)).toNat := by have h := of_decide_eq_true hlt; omega
      obtain ⟨K7, rfl⟩ : ∃ k2, k_ = k2 + 1 := ⟨k_ - 1, by omega⟩
      obtain ⟨y, hb4, hL1⟩ := forX_go hL
      unfold F_laws_FnPhasePolynomials_l1 at hb4
      refine cw_skip (cq (cw_block (cq (cr ?_))))
      refine sQ 78 (yb (aD b1) 0 [vi r_2.Qubits, vi r_2.Phase, .slice B3 r_2.Terms.length c3, .slice B4 r_2.Out.Rows.length c4] K47 K20 (hS15.c 2) rfl (hf.g 6 1)) <| sQ 79 (ym (vi (bits_ : Int)) rfl (hf.g 12 2)) ?_
      obtain ⟨⟨r_10, r_11⟩, hc6, hb4⟩ := bI hb4
      refine sc 80 rfl rfl (yC [.agg #[vi r_2.Qubits, vi r_2.Phase, .slice B3 r_2.Terms.length c3, .slice B4 r_2.Out.Rows.length c4], vi (bits_ : Int)] k_call_42 (c_impl_PhaseAt r_2 (bits_ : Int) B3 c3 r_2.Terms.length B4 c4 r_2.Out.Rows.length _ rfl rfl (hS15.inn0 [(false, 3), (false, 4)] rfl) hc6)) ?_
      rintro _ w_14 ⟨rfl, hd4⟩
      have hS16 := hS15.out00 hd4
      refine sQ 77 (ym (.tuple #[vi r_10, .bool r_11])) <| sQ 81 (ye (vi r_10)) <| sQ 82 (ye (.bool r_11)) <| sQ 13 (yg (vi r_10)) <| sQ 14 (yg (.bool r_11)) (rn (cq ?_))
      obtain ⟨r_12, hc7, hb4⟩ := bI hb4
      obtain ⟨⟨r_13, r_14⟩, hc8, hb4⟩ := bI hb4
      refine cw_mid (fun f w => ∃ (B9 : Option Addr) (B10 : Option Addr) (c9 : Nat), FF f [(5, pt (aD b) 0), (6, pt (aD b1) 0), (12, vi (bits_ : Int)), (13, vi r_10), (14, .bool r_11), (15, pt B9 0), (16, .bool r_14)] ∧ ST w0 [] w [⟨aD b, 28, [vi r_1.Qubits, .slice B2 r_1.Gates.length c2], 2⟩, ⟨B2, 120, (r_1.Gates.flatMap eN0), c2 * 3⟩, ⟨aD b1, 62, [vi r_2.Qubits, vi r_2.Phase, .slice B3 r_2.Terms.length c3, .slice B4 r_2.Out.Rows.length c4], 4⟩, ⟨B3, 157, (r_2.Terms.flatMap enc_Term), c3 * 2⟩, ⟨B4, 3, (r_2.Out.Rows.flatMap encI), c4 * 1⟩, ⟨B9, 81, kM_ r_13 B10 c9, 3⟩, ⟨B10, 90, (r_13.Cells.flatMap enc_Dyadic), c9 * 5⟩] [⟨B, (code.flatMap enc_u8)⟩, ⟨B1, (more.flatMap enc_u8)⟩]) ?_ ?_
      ·skip
       refine ra_start (hS16.se [0, 1, 2, 3, 4]).fn (by kernel_rfl) ?_
       have hS20 := hS16.drew
       refine rq 0 84 (v := .agg #[vi r_1.Qubits, .slice B2 r_1.Gates.length c2]) rfl (hS20.se [0, 1, 2, 3, 4]) (fun w' hw' => (yb (aD b) 0 [vi r_1.Qubits, .slice B2 r_1.Gates.length c2] K22 K11 (ST.cf hw' (i := 0) rfl) rfl (hf.g 5 0))) ?_
       refine rq 1 85 (v := vi (bits_ : Int)) rfl (hS20.se [0, 1, 2, 3, 4]) (fun w' hw' => (ym (vi (bits_ : Int)) rfl (hf.g 12 2))) ?_
       refine rq 2 86 (v := pt (aD b) 0) rfl (hS20.se [0, 1, 2, 3, 4]) (fun w' hw' => (yd (aD b) 0 0 K31 K0 rfl (hf.g 5 0))) ?_
       refine rq 3 87 (v := vi r_1.Qubits) rfl (hS20.se [0, 1, 2, 3, 4]) (fun w' hw' => (yl (aD b) 0 [vi r_1.Qubits, .slice B2 r_1.Gates.length c2] (vi r_1.Qubits) K1 (ST.cf hw' (i := 0) rfl))) ?_
       refine rA [4, 9] ?_
       refine rC 88 4 rfl (yC [vi (bits_ : Int), vi r_1.Qubits] K120 (c_laws_qReverse (bits_ : Int) r_1.Qubits _  (hS20.inn0 [] rfl) hc7)) ?_ ?_
       ·rintro _ w_15 ⟨rfl, hd5⟩
        have hS21 := hS20.out00 hd5
        refine ⟨(hS21.se [0, 1, 2, 3, 4]), ?_⟩
        refine rA [5, 9] ?_
        refine rC 89 5 rfl (yC [.agg #[vi r_1.Qubits, .slice B2 r_1.Gates.length c2], vi r_12] K121 (c_impl_StateAfter r_1 r_12 B2 c2 r_1.Gates.length _ rfl (hS21.inn0 [(false, 1)] rfl) hc8)) ?_ ?_
        ·rintro _ w_16 ⟨B8, c8, rfl, hd6⟩
         have hS22 := hS21.out0 hd6
         have hS22 : ST w0 [] _ [⟨aD b, 28, [vi r_1.Qubits, .slice B2 r_1.Gates.length c2], 2⟩, ⟨B2, 120, (r_1.Gates.flatMap eN0), c2 * 3⟩, ⟨aD b1, 62, [vi r_2.Qubits, vi r_2.Phase, .slice B3 r_2.Terms.length c3, .slice B4 r_2.Out.Rows.length c4], 4⟩, ⟨B3, 157, (r_2.Terms.flatMap enc_Term), c3 * 2⟩, ⟨B4, 3, (r_2.Out.Rows.flatMap encI), c4 * 1⟩, ⟨B8, 90, (r_13.Cells.flatMap enc_Dyadic), c8 * 5⟩] [⟨B, (code.flatMap enc_u8)⟩, ⟨B1, (more.flatMap enc_u8)⟩] := hS22
         refine ⟨(hS22.se [0, 1, 2, 3, 4]), ?_⟩
         refine rq 6 83 (v := .tuple #[gM_ r_13 B8 c8, .bool r_14]) rfl (hS22.se [0, 1, 2, 3, 4]) (fun w' hw' => (ym (.tuple #[gM_ r_13 B8 c8, .bool r_14]))) ?_
         refine rq 7 90 (v := gM_ r_13 B8 c8) rfl (hS22.se [0, 1, 2, 3, 4]) (fun w' hw' => (ye (gM_ r_13 B8 c8))) ?_
         refine rq 8 91 (v := .bool r_14) rfl (hS22.se [0, 1, 2, 3, 4]) (fun w' hw' => (ye (.bool r_14))) ?_
         refine rA [9] ?_
         refine rS 15 9 rfl (yN kN_ 3 hS22 K23) ?_ ?_
         ·rintro _ w_17 ⟨b4, rfl, hS23⟩
          refine ⟨(hS23.se [0, 1, 2, 3, 4]), ?_⟩
          refine rA [10] ?_
          refine rZ 10 rfl (yT 6 3 (aD b4) 81 (gM_ r_13 B8 c8) (kM_ r_13 B8 c8) 0 hS23 K8) ?_ ?_
          ·rintro _ w_18 ⟨rfl, hS24⟩
           refine ⟨(hS24.se [0, 1, 2, 3, 4]), ?_⟩
           refine rq 11 16 (v := .bool r_14) rfl (hS24.se [0, 1, 2, 3, 4]) (fun w' hw' => (yg (.bool r_14))) ?_
           refine ra_done (by kernel_rfl) ?_
           exact ⟨aD b4, B8, c8, (fc (hf.g 5 0) (fc (hf.g 6 1) (fc (hf.g 12 2) (fc rfl (fc rfl (fc rfl (fc rfl fn_))))))), (hS24.sel [0, 1, 2, 3, 4, 6, 5] rfl rfl)⟩
          exact aN
         exact aN
        refine rS 15 9 rfl (yN kN_ 3 hS21 K23) ?_ ?_
        ·rintro _ w_19 ⟨b4, rfl, hS25⟩
         refine ⟨(hS25.se [0, 1, 2, 3, 4]), ?_⟩
         refine rA [5] ?_
         refine rC 89 5 rfl (yC [.agg #[vi r_1.Qubits, .slice B2 r_1.Gates.length c2], vi r_12] K121 (c_impl_StateAfter r_1 r_12 B2 c2 r_1.Gates.length _ rfl (hS25.inn0 [(false, 1)] rfl) hc8)) ?_ ?_
         ·rintro _ w_20 ⟨B8, c8, rfl, hd7⟩
          have hS26 := hS25.out0 hd7
          have hS26 : ST w0 [] _ [⟨aD b, 28, [vi r_1.Qubits, .slice B2 r_1.Gates.length c2], 2⟩, ⟨B2, 120, (r_1.Gates.flatMap eN0), c2 * 3⟩, ⟨aD b1, 62, [vi r_2.Qubits, vi r_2.Phase, .slice B3 r_2.Terms.length c3, .slice B4 r_2.Out.Rows.length c4], 4⟩, ⟨B3, 157, (r_2.Terms.flatMap enc_Term), c3 * 2⟩, ⟨B4, 3, (r_2.Out.Rows.flatMap encI), c4 * 1⟩, ⟨aD b4, 81, kN_, 3⟩, ⟨B8, 90, (r_13.Cells.flatMap enc_Dyadic), c8 * 5⟩] [⟨B, (code.flatMap enc_u8)⟩, ⟨B1, (more.flatMap enc_u8)⟩] := hS26
          refine ⟨(hS26.se [0, 1, 2, 3, 4]), ?_⟩
          refine rq 6 83 (v := .tuple #[gM_ r_13 B8 c8, .bool r_14]) rfl (hS26.se [0, 1, 2, 3, 4]) (fun w' hw' => (ym (.tuple #[gM_ r_13 B8 c8, .bool r_14]))) ?_
          refine rq 7 90 (v := gM_ r_13 B8 c8) rfl (hS26.se [0, 1, 2, 3, 4]) (fun w' hw' => (ye (gM_ r_13 B8 c8))) ?_
          refine rq 8 91 (v := .bool r_14) rfl (hS26.se [0, 1, 2, 3, 4]) (fun w' hw' => (ye (.bool r_14))) ?_
          refine rA [10] ?_
          refine rZ 10 rfl (yT 5 3 (aD b4) 81 (gM_ r_13 B8 c8) (kM_ r_13 B8 c8) 0 hS26 K8) ?_ ?_
          ·rintro _ w_21 ⟨rfl, hS27⟩
           refine ⟨(hS27.se [0, 1, 2, 3, 4]), ?_⟩
           refine rq 11 16 (v := .bool r_14) rfl (hS27.se [0, 1, 2, 3, 4]) (fun w' hw' => (yg (.bool r_14))) ?_
           refine ra_done (by kernel_rfl) ?_
           exact ⟨aD b4, B8, c8, (fc (hf.g 5 0) (fc (hf.g 6 1) (fc (hf.g 12 2) (fc rfl (fc rfl (fc rfl (fc rfl fn_))))))), (hS27.sel [0, 1, 2, 3, 4, 5, 6] rfl rfl)⟩
          exact aN
         exact aN
        exact aN
       refine rS 15 9 rfl (yN kN_ 3 hS20 K23) ?_ ?_
       ·rintro _ w_22 ⟨b4, rfl, hS28⟩
        refine ⟨(hS28.se [0, 1, 2, 3, 4]), ?_⟩
        refine rA [4] ?_
        refine rC 88 4 rfl (yC [vi (bits_ : Int), vi r_1.Qubits] K120 (c_laws_qReverse (bits_ : Int) r_1.Qubits _  (hS28.inn0 [] rfl) hc7)) ?_ ?_
        ·rintro _ w_23 ⟨rfl, hd8⟩
         have hS29 := hS28.out00 hd8
         refine ⟨(hS29.se [0, 1, 2, 3, 4]), ?_⟩
         refine rA [5] ?_
         refine rC 89 5 rfl (yC [.agg #[vi r_1.Qubits, .slice B2 r_1.Gates.length c2], vi r_12] K121 (c_impl_StateAfter r_1 r_12 B2 c2 r_1.Gates.length _ rfl (hS29.inn0 [(false, 1)] rfl) hc8)) ?_ ?_
         ·rintro _ w_24 ⟨B8, c8, rfl, hd9⟩
          have hS30 := hS29.out0 hd9
          have hS30 : ST w0 [] _ [⟨aD b, 28, [vi r_1.Qubits, .slice B2 r_1.Gates.length c2], 2⟩, ⟨B2, 120, (r_1.Gates.flatMap eN0), c2 * 3⟩, ⟨aD b1, 62, [vi r_2.Qubits, vi r_2.Phase, .slice B3 r_2.Terms.length c3, .slice B4 r_2.Out.Rows.length c4], 4⟩, ⟨B3, 157, (r_2.Terms.flatMap enc_Term), c3 * 2⟩, ⟨B4, 3, (r_2.Out.Rows.flatMap encI), c4 * 1⟩, ⟨aD b4, 81, kN_, 3⟩, ⟨B8, 90, (r_13.Cells.flatMap enc_Dyadic), c8 * 5⟩] [⟨B, (code.flatMap enc_u8)⟩, ⟨B1, (more.flatMap enc_u8)⟩] := hS30
          refine ⟨(hS30.se [0, 1, 2, 3, 4]), ?_⟩
          refine rq 6 83 (v := .tuple #[gM_ r_13 B8 c8, .bool r_14]) rfl (hS30.se [0, 1, 2, 3, 4]) (fun w' hw' => (ym (.tuple #[gM_ r_13 B8 c8, .bool r_14]))) ?_
          refine rq 7 90 (v := gM_ r_13 B8 c8) rfl (hS30.se [0, 1, 2, 3, 4]) (fun w' hw' => (ye (gM_ r_13 B8 c8))) ?_
          refine rq 8 91 (v := .bool r_14) rfl (hS30.se [0, 1, 2, 3, 4]) (fun w' hw' => (ye (.bool r_14))) ?_
          refine rA [10] ?_
          refine rZ 10 rfl (yT 5 3 (aD b4) 81 (gM_ r_13 B8 c8) (kM_ r_13 B8 c8) 0 hS30 K8) ?_ ?_
          ·rintro _ w_25 ⟨rfl, hS31⟩
           refine ⟨(hS31.se [0, 1, 2, 3, 4]), ?_⟩
           refine rq 11 16 (v := .bool r_14) rfl (hS31.se [0, 1, 2, 3, 4]) (fun w' hw' => (yg (.bool r_14))) ?_
           refine ra_done (by kernel_rfl) ?_
           exact ⟨aD b4, B8, c8, (fc (hf.g 5 0) (fc (hf.g 6 1) (fc (hf.g 12 2) (fc rfl (fc rfl (fc rfl (fc rfl fn_))))))), (hS31.sel [0, 1, 2, 3, 4, 5, 6] rfl rfl)⟩
          exact aN
         exact aN
        exact aN
       exact aN
      rintro f w ⟨B9, B10, c9, hf1, hS19⟩
      refine cq (cr ?_)
      refine sQ 17 (yg (vi 0)) (rn (cq (cq (cr ?_))))
      refine sQ 92 (yd (aD b1) 0 0 K66 K19 rfl (hf1.g 6 1)) <| sQ 93 (yd (aD b1) 3 0 K29 K14) <| sQ 94 (yl (aD b1) 3 [vi r_2.Qubits, vi r_2.Phase, .slice B3 r_2.Terms.length c3, .slice B4 r_2.Out.Rows.length c4] (.slice B4 r_2.Out.Rows.length c4) K13 (hS19.c 2)) <| sQ 95 (Y_len (B := B4) (m := r_2.Out.Rows.length) (c := c4) K2 rfl rfl) <| sQ 96 (ym (vi 0)) (rn ?_)
      obtain ⟨hN1, hb4⟩ := chk_inv hb4
      obtain ⟨z1, hz1, hF10⟩ := bI hb4
      refine cw_block ?_
      refine cw_loop (fun k f w => ∃ (i1 : Nat) (end_ : Int), FF f [(5, pt (aD b) 0), (6, pt (aD b1) 0), (12, vi (bits_ : Int)), (13, vi r_10), (14, .bool r_11), (15, pt B9 0), (16, .bool r_14), (17, vi end_), (94, .slice B4 r_2.Out.Rows.length c4), (95, vi (r_2.Out.Rows.length : Int)), (96, vi (i1 : Int))] ∧ ST w0 [] w [⟨aD b, 28, [vi r_1.Qubits, .slice B2 r_1.Gates.length c2], 2⟩, ⟨B2, 120, (r_1.Gates.flatMap eN0), c2 * 3⟩, ⟨aD b1, 62, [vi r_2.Qubits, vi r_2.Phase, .slice B3 r_2.Terms.length c3, .slice B4 r_2.Out.Rows.length c4], 4⟩, ⟨B3, 157, (r_2.Terms.flatMap enc_Term), c3 * 2⟩, ⟨B4, 3, (r_2.Out.Rows.flatMap encI), c4 * 1⟩, ⟨B9, 81, kM_ r_13 B10 c9, 3⟩, ⟨B10, 90, (r_13.Cells.flatMap enc_Dyadic), c9 * 5⟩] [⟨B, (code.flatMap enc_u8)⟩, ⟨B1, (more.flatMap enc_u8)⟩] ∧ i1 + k = r_2.Out.Rows.length ∧ forN (F_laws_FnPhasePolynomials_l2 r_2 bits_) k i1 end_ = some z1) r_2.Out.Rows.length ⟨0, 0, (fc (hf1.g 5 0) (fc (hf1.g 6 1) (fc (hf1.g 12 2) (fc (hf1.g 13 3) (fc (hf1.g 14 4) (fc (hf1.g 15 5) (fc (hf1.g 16 6) (fc rfl (fc rfl (fc rfl (fc rfl fn_))))))))))), (hS19.sel [0, 1, 2, 3, 4, 5, 6] rfl rfl), Nat.zero_add _, hz1⟩ ?_
      rintro K16 f w ⟨i1, end_, hf2, hS32, hik1, hL2⟩
      refine cq (cr ?_)
      refine sQ 97 (yL (i1 : Int) (r_2.Out.Rows.length : Int) rfl (hf2.g 96 10) (hf2.g 95 9)) (rn (cq ?_))
      refine cw_cond (b := (decide ((i1 : Int) < (r_2.Out.Rows.length : Int)))) rfl (fun hlt2 => ?_) (fun hlt2 => ?_)
      ·skip
       have hlt3 : i1 < r_2.Out.Rows.length := by have h := of_decide_eq_true hlt2; omega
       obtain ⟨K52, rfl⟩ : ∃ k2, K16 = k2 + 1 := ⟨K16 - 1, by omega⟩
       obtain ⟨y1, hb5, hL3⟩ := forN_go hL2
       unfold F_laws_FnPhasePolynomials_l2 at hb5
       refine cw_skip (cq (cw_block (cq (cr ?_))))
       refine sQ 98 (ym (vi (i1 : Int)) rfl (hf2.g 96 10)) ?_
       obtain ⟨x, hx, hb5⟩ := bI hb5
       refine sQ 99 (Y_index (B := B4) (m := r_2.Out.Rows.length) (c := c4) (k := .i64) (i := (i1 : Int)) K2 K0 rfl (hf2.g 94 8) (hf2.g 96 10) (gi_isSome encI_len rfl (hS32.c 4) hx) (getI_nn hx) (getI_ltI hx rfl)) <| sQ 100 (yl B4 ((i1 : Int).toNat * 1) (r_2.Out.Rows.flatMap encI) (vi x) K1 (hS32.c 4) rfl rfl (gi_at0 encI_len hx rfl)) <| sQ 18 (yg (vi (i1 : Int))) <| sQ 19 (yg (vi x)) (rn (cr ?_))
       refine sQ 101 (ym (vi end_) rfl (hf2.g 17 7)) <| sQ 102 (ym (vi x)) <| sQ 103 (ym (vi (bits_ : Int)) rfl (hf2.g 12 2)) <| sQ 104 (Y_band (k := .i64) (a := x) (b := (bits_ : Int)) rfl rfl rfl) ?_
       obtain ⟨r_15, hc9, hb5⟩ := bI hb5
       refine sc 105 rfl rfl (yC [vi (bits .and .i64 x (bits_ : Int))] k_call_45 (c_laws_qWeight (bits .and .i64 x (bits_ : Int)) _  (hS32.inn0 [] rfl) hc9)) ?_
       rintro _ w_26 ⟨rfl, hd10⟩
       have hS33 := hS32.out00 hd10
       refine sQ 106 (Y_rem (k := .i64) (a := r_15) (b := 2) rfl rfl rfl (by decide)) <| sQ 107 (ym (vi (i1 : Int))) <| sQ 108 (Y_conv (k := .i64) (a := (i1 : Int)) (T := 3) (T' := 77) K54 K59 rfl rfl) ?_
       obtain ⟨hsh, hb5⟩ := chk_inv hb5
       refine sQ 109 (Y_shl (k := .i64) (a := (Int.tmod r_15 2)) (k' := .u64) (b := (IntKind.u64.wrap (i1 : Int))) rfl rfl rfl hsh) <| sQ 110 (Y_bor (k := .i64) (a := end_) (b := (shlK .i64 (Int.tmod r_15 2) (IntKind.u64.wrap (i1 : Int)))) rfl rfl rfl) <| sQ 17 (yg (vi (bits .or .i64 end_ (shlK .i64 (Int.tmod r_15 2) (IntKind.u64.wrap (i1 : Int)))))) (rn (cr ?_))
       refine sQ 111 (yP (i1 : Int) 1 rfl (hf2.g 96 10)) <| sQ 96 (ym (vi (i64.wrap ((i1 : Int) + 1)))) (rn ?_)
       obtain rfl := sI hb5
       exact ⟨K52, Nat.lt_succ_self _, i1 + 1, (bits .or .i64 end_ (shlK .i64 (Int.tmod r_15 2) (IntKind.u64.wrap (i1 : Int)))), (fc (hf2.g 5 0) (fc (hf2.g 6 1) (fc (hf2.g 12 2) (fc (hf2.g 13 3) (fc (hf2.g 14 4) (fc (hf2.g 15 5) (fc (hf2.g 16 6) (fc rfl (fc (hf2.g 94 8) (fc (hf2.g 95 9) (fc (congrArg (Value.int .i64) (wr_succ hlt3 hN1)) fn_))))))))))), (hS33.sel [0, 1, 2, 3, 4, 5, 6] rfl rfl), (by omega), hL3⟩
      ·skip
       obtain rfl : K16 = 0 := by have h := of_decide_eq_false hlt2; omega
       refine cw_exit rfl ?_
       obtain rfl := sI hL2
       refine cq (cq (cr ?_))
       refine sQ 112 (ym (.bool r_11) rfl (hf2.g 14 4)) <| sQ 113 (Y_not (p := r_11) rfl rfl) <| sQ 114 (ym (.bool (!r_11))) ?_
       refine sgq 115 (B := (!(!r_11))) (v := .bool r_14) rfl rfl (uF_ 114) (fun hg11 => (ym (.bool r_14) rfl (hf2.g 16 6))) ?_
       refine sgq 116 (B := (!(!r_11))) (v := .bool (!r_14)) rfl rfl (uF_ 114) (fun hg12 => (Y_not (p := r_14) rfl (gv_of (v := .bool r_14) hg12))) ?_
       refine sQ 117 (Y_or (b := (!r_11)) (z := (!r_14)) rfl rfl rfl rfl) <| sQ 118 (ym (.bool ((!r_11) || (!r_14)))) ?_
       refine sgq 119 (B := (!((!r_11) || (!r_14)))) (v := pt B9 2) rfl rfl (uF_ 118) (fun hg13 => (yd B9 0 0 K53 K48 rfl (hf2.g 15 5))) ?_
       refine sgq 120 (B := (!((!r_11) || (!r_14)))) (v := .slice B10 r_13.Cells.length c9) rfl rfl (uF_ 118) (fun hg14 => (yl B9 2 (kM_ r_13 B10 c9) (.slice B10 r_13.Cells.length c9) K55 (hS32.c 5) rfl (gv_of (v := pt B9 2) hg14))) ?_
       refine sgq 121 (B := (!((!r_11) || (!r_14)))) (v := vi (r_13.Cells.length : Int)) rfl rfl (uF_ 118) (fun hg15 => (Y_len (B := B10) (m := r_13.Cells.length) (c := c9) K49 rfl (gv_of (v := .slice B10 r_13.Cells.length c9) hg15))) ?_
       refine sgq 122 (B := (!((!r_11) || (!r_14)))) (v := pt (aD b) 0) rfl rfl (uF_ 118) (fun hg16 => (yd (aD b) 0 0 K31 K0 rfl (hf2.g 5 0))) ?_
       refine sgq 123 (B := (!((!r_11) || (!r_14)))) (v := vi r_1.Qubits) rfl rfl (uF_ 118) (fun hg17 => (yl (aD b) 0 [vi r_1.Qubits, .slice B2 r_1.Gates.length c2] (vi r_1.Qubits) K1 (hS32.c 0) rfl (gv_of (v := pt (aD b) 0) hg17))) ?_
       refine sgq 124 (B := (!((!r_11) || (!r_14)))) (v := .int .u64 (IntKind.u64.wrap r_1.Qubits)) rfl rfl (uF_ 118) (fun hg18 => (Y_conv (k := .i64) (a := r_1.Qubits) (T := 3) (T' := 77) K54 K59 rfl (gv_of (v := vi r_1.Qubits) hg18))) ?_
       obtain ⟨hsh1, hF10⟩ := chk_inv hF10
       refine sgq 125 (B := (!((!r_11) || (!r_14)))) (v := vi (shlK .i64 1 (IntKind.u64.wrap r_1.Qubits))) rfl rfl (uF_ 118) (fun hg19 => (Y_shl (k := .i64) (a := 1) (k' := .u64) (b := (IntKind.u64.wrap r_1.Qubits)) rfl rfl (gv_of (v := .int .u64 (IntKind.u64.wrap r_1.Qubits)) hg19) (hsh1 hg19))) ?_
       refine sgq 126 (B := (!((!r_11) || (!r_14)))) (v := .bool ((r_13.Cells.length : Int) != (shlK .i64 1 (IntKind.u64.wrap r_1.Qubits)))) rfl rfl (uF_ 118) (fun hg20 => (Y_ne (k := .i64) (a := (r_13.Cells.length : Int)) (b := (shlK .i64 1 (IntKind.u64.wrap r_1.Qubits))) rfl (gv_of (v := vi (r_13.Cells.length : Int)) hg20) (gv_of (v := vi (shlK .i64 1 (IntKind.u64.wrap r_1.Qubits))) hg20))) ?_
       refine sQ 127 (Y_or (b := ((!r_11) || (!r_14))) (z := ((r_13.Cells.length : Int) != (shlK .i64 1 (IntKind.u64.wrap r_1.Qubits)))) rfl rfl rfl rfl) (rn ?_)
       refine cw_cond (b := (((!r_11) || (!r_14)) || ((r_13.Cells.length : Int) != (shlK .i64 1 (IntKind.u64.wrap r_1.Qubits))))) rfl (fun hb6 => ?_) (fun hb6 => ?_)
       ·skip
        have hF11 := ct hF10 hb6
        refine cq (cr ?_)
        refine sQ 4 (yg (.bool false)) (rn (ct_ ?_))
        obtain rfl := sI hF11
        obtain rfl := sI hL1
        obtain rfl := sI hF9
        exact ret1 Tryz.results5 (v1 := .bool false) (resAt_tmp rfl) ⟨rfl, (hS32.sN [])⟩
       ·skip
        have hF12 := cf' hF10 hb6
        refine cw_skip (cq ?_)
        obtain ⟨r_16, hc10, hF12⟩ := bI hF12
        obtain ⟨x1, hx1, hF12⟩ := bI hF12
        obtain ⟨⟨r_17, r_18⟩, hc11, hF12⟩ := bI hF12
        refine ra_start (hS32.se [0, 1, 2, 3, 4, 5, 6]).fn (by kernel_rfl) ?_
        have hS36 := hS32.drew
        refine rq 0 129 (v := pt B9 2) rfl (hS36.se [0, 1, 2, 3, 4, 5, 6]) (fun w' hw' => (yd B9 0 0 K53 K48 rfl (hf2.g 15 5))) ?_
        refine rq 1 130 (v := .slice B10 r_13.Cells.length c9) rfl (hS36.se [0, 1, 2, 3, 4, 5, 6]) (fun w' hw' => (yl B9 2 (kM_ r_13 B10 c9) (.slice B10 r_13.Cells.length c9) K55 (ST.cf hw' (i := 5) rfl))) ?_
        refine rq 2 131 (v := vi end_) rfl (hS36.se [0, 1, 2, 3, 4, 5, 6]) (fun w' hw' => (ym (vi end_) rfl (hf2.g 17 7))) ?_
        refine rq 3 132 (v := pt (aD b) 0) rfl (hS36.se [0, 1, 2, 3, 4, 5, 6]) (fun w' hw' => (yd (aD b) 0 0 K31 K0 rfl (hf2.g 5 0))) ?_
        refine rq 4 133 (v := vi r_1.Qubits) rfl (hS36.se [0, 1, 2, 3, 4, 5, 6]) (fun w' hw' => (yl (aD b) 0 [vi r_1.Qubits, .slice B2 r_1.Gates.length c2] (vi r_1.Qubits) K1 (ST.cf hw' (i := 0) rfl))) ?_
        refine rA [5] ?_
        refine rC 134 5 rfl (yC [vi end_, vi r_1.Qubits] K120 (c_laws_qReverse end_ r_1.Qubits _  (hS36.inn0 [] rfl) hc10)) ?_ ?_
        ·rintro _ w_27 ⟨rfl, hd11⟩
         have hS37 := hS36.out00 hd11
         refine ⟨(hS37.se [0, 1, 2, 3, 4, 5, 6]), ?_⟩
         refine rq 6 135 (v := pt B10 (r_16.toNat * 5)) rfl (hS37.se [0, 1, 2, 3, 4, 5, 6]) (fun w' hw' => (Y_index (B := B10) (m := r_13.Cells.length) (c := c9) (k := .i64) (i := r_16) K49 K4 rfl rfl rfl (gi_isSome enc_Dyadic_len rfl (ST.cf hw' (i := 6) rfl) hx1) (getI_nn hx1) (getI_ltI hx1 rfl))) ?_
         refine rq 7 136 (v := gD_ x1) rfl (hS37.se [0, 1, 2, 3, 4, 5, 6]) (fun w' hw' => (ya B10 (r_16.toNat * 5) (r_13.Cells.flatMap enc_Dyadic) (kD_ x1) K10 K4 (ST.cf hw' (i := 6) rfl) rfl rfl (enc_Dyadic_len x1) (gi_seg enc_Dyadic_len hx1))) ?_
         refine rA [8] ?_
         refine rC 137 8 rfl (yC [gD_ x1] k_call_46 (c_impl_PhaseOf x1 _  (hS37.inn0 [] rfl) hc11)) ?_ ?_
         ·rintro _ w_28 ⟨rfl, hd12⟩
          have hS38 := hS37.out00 hd12
          have hS38 : ST w0 [] _ [⟨aD b, 28, [vi r_1.Qubits, .slice B2 r_1.Gates.length c2], 2⟩, ⟨B2, 120, (r_1.Gates.flatMap eN0), c2 * 3⟩, ⟨aD b1, 62, [vi r_2.Qubits, vi r_2.Phase, .slice B3 r_2.Terms.length c3, .slice B4 r_2.Out.Rows.length c4], 4⟩, ⟨B3, 157, (r_2.Terms.flatMap enc_Term), c3 * 2⟩, ⟨B4, 3, (r_2.Out.Rows.flatMap encI), c4 * 1⟩, ⟨B9, 81, kM_ r_13 B10 c9, 3⟩, ⟨B10, 90, (r_13.Cells.flatMap enc_Dyadic), c9 * 5⟩] [⟨B, (code.flatMap enc_u8)⟩, ⟨B1, (more.flatMap enc_u8)⟩] := hS38
          refine ⟨(hS38.se [0, 1, 2, 3, 4, 5, 6]), ?_⟩
          refine rq 9 128 (v := .tuple #[vi r_17, .bool r_18]) rfl (hS38.se [0, 1, 2, 3, 4, 5, 6]) (fun w' hw' => (ym (.tuple #[vi r_17, .bool r_18]))) ?_
          refine rq 10 138 (v := vi r_17) rfl (hS38.se [0, 1, 2, 3, 4, 5, 6]) (fun w' hw' => (ye (vi r_17))) ?_
          refine rq 11 139 (v := .bool r_18) rfl (hS38.se [0, 1, 2, 3, 4, 5, 6]) (fun w' hw' => (ye (.bool r_18))) ?_
          refine rq 12 20 (v := vi r_17) rfl (hS38.se [0, 1, 2, 3, 4, 5, 6]) (fun w' hw' => (yg (vi r_17))) ?_
          refine rq 13 21 (v := .bool r_18) rfl (hS38.se [0, 1, 2, 3, 4, 5, 6]) (fun w' hw' => (yg (.bool r_18))) ?_
          refine ra_done (by kernel_rfl) ?_
          refine cq (cr ?_)
          refine sQ 140 (ym (.bool r_18)) <| sQ 141 (Y_not (p := r_18) rfl rfl) <| sQ 142 (ym (.bool (!r_18))) ?_
          refine sgq 143 (B := (!(!r_18))) (v := vi r_17) rfl rfl (uF_ 142) (fun hg21 => (ym (vi r_17))) ?_
          refine sgq 144 (B := (!(!r_18))) (v := vi r_10) rfl rfl (uF_ 142) (fun hg22 => (ym (vi r_10) rfl (hf2.g 13 3))) ?_
          refine sgq 145 (B := (!(!r_18))) (v := .bool (r_17 != r_10)) rfl rfl (uF_ 142) (fun hg23 => (Y_ne (k := .i64) (a := r_17) (b := r_10) rfl (gv_of (v := vi r_17) hg23) (gv_of (v := vi r_10) hg23))) ?_
          refine sQ 146 (Y_or (b := (!r_18)) (z := (r_17 != r_10)) rfl rfl rfl rfl) (rn ?_)
          refine cw_cond (b := ((!r_18) || (r_17 != r_10))) rfl (fun hb7 => ?_) (fun hb7 => ?_)
          ·skip
           have hF13 := ct hF12 hb7
           refine cq (cr ?_)
           refine sQ 4 (yg (.bool false)) (rn (ct_ ?_))
           obtain rfl := sI hF13
           obtain rfl := sI hL1
           obtain rfl := sI hF9
           exact ret1 Tryz.results5 (v1 := .bool false) (resAt_tmp rfl) ⟨rfl, (hS38.sN [])⟩
          ·skip
           have hF14 := cf' hF12 hb7
           refine cw_skip (cr ?_)
           refine sQ 75 (ym (vi (bits_ : Int)) rfl (hf2.g 12 2)) <| sQ 76 (yP (bits_ : Int) 1) <| sQ 12 (yg (vi (i64.wrap ((bits_ : Int) + 1)))) (rn ?_)
           obtain rfl := sI hF14
           exact ⟨K7, Nat.lt_succ_self _, bits_ + 1, (fc (hf2.g 5 0) (fc (hf2.g 6 1) (fc (congrArg (Value.int .i64) (wr_succ hlt1 hN)) fn_))), (hS38.sel [0, 1, 2, 3, 4] rfl rfl), (by omega), hL1⟩
         exact aN
        exact aN
     ·skip
      obtain rfl : k_ = 0 := by have h := of_decide_eq_false hlt; omega
      refine cw_exit rfl ?_
      obtain rfl := sI hL
      refine cq (cr ?_)
      refine sQ 4 (yg (.bool true)) (rn (ct_ ?_))
      obtain rfl := sI hF9
      exact ret1 Tryz.results5 (v1 := .bool true) (resAt_tmp rfl) ⟨rfl, (hS15.sN [])⟩
end Go.VK
