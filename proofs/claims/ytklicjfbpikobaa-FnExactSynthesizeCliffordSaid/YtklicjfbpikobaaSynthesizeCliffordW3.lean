/- Walks: each Go function returns what its Lean function says. By program. -/
import Derived.Test.YtklicjfbpikobaaSynthesizeCliffordFa
import Derived.Test.YtklicjfbpikobaaSynthesizeCliffordShelf
import Derived.Test.YtklicjfbpikobaaLibQ
import Derived.Test.YtklicjfbpikobaaSynthesizeCliffordW2
set_option linter.unusedVariables false
set_option maxRecDepth 100000
set_option maxHeartbeats 4000000
namespace Go.VK
open Go.RowKit
open Go.Proofs
open Go.IntKind
attribute [local irreducible] CW RW RA CV Y Yw Yc Ys RetOf
attribute [local irreducible] F_impl_within F_slices_Concat_impl_Pauli_impl_Pauli F_slices_ContainsFunc_impl_Pauli_impl_Pauli F_impl_IsValidTableau_1 F_math_bits_OnesCount64 F_math_bits_OnesCount F_impl_commute F_impl_IsValidTableau F_slices_IndexFunc_impl_Gate_impl_Gate F_slices_ContainsFunc_impl_Gate_impl_Gate F_impl_isTwo F_impl_IsValidGate F_impl_IsValidCircuit_1 F_impl_IsValidCircuit F_impl_circuitIf F_impl_letterOf F_impl_times F_impl_image
theorem c_math_bits_OnesCount64 (x : Int)  (w0 : World)  (hS : ST w0 [] w0 [] []) {r_ : Int} (hF : F_math_bits_OnesCount64 x = some r_) :
  CV Try.prog 145 #[.int .u64 x] w0 (fun v w' => v = vi r_ ∧ ST w0 [] w' [] []) := by
 unfold F_math_bits_OnesCount64 at hF
 refine cv_of_cw 35 Try.func145 rfl Try.ntmps145 rfl ?_
 refine cq (cr ?_)
 refine sQ 2 (yg (vi 0)) (rn (cq (cr ?_)))
 refine sQ 3 (ym (.int .u64 x)) <| sQ 4 (Y_shr (k := .u64) (a := x) (k' := .u64) (b := 1) rfl rfl rfl (by decide)) <| sQ 5 (Y_band (k := .u64) (a := (shrK .u64 x 1)) (b := 6148914691236517205) rfl rfl rfl) <| sQ 6 (ym (.int .u64 x)) <| sQ 7 (Y_band (k := .u64) (a := x) (b := 6148914691236517205) rfl rfl rfl) <| sQ 8 (Y_add (k := .u64) (a := (bits .and .u64 (shrK .u64 x 1) 6148914691236517205)) (b := (bits .and .u64 x 6148914691236517205)) rfl rfl rfl) ?_
 refine sQ 0 (yg (.int .u64 (IntKind.u64.wrap ((bits .and .u64 (shrK .u64 x 1) 6148914691236517205) + (bits .and .u64 x 6148914691236517205))))) (rn (cq (cr ?_)))
 refine sQ 9 (ym (.int .u64 (IntKind.u64.wrap ((bits .and .u64 (shrK .u64 x 1) 6148914691236517205) + (bits .and .u64 x 6148914691236517205))))) <| sQ 10 (Y_shr (k := .u64) (a := (IntKind.u64.wrap ((bits .and .u64 (shrK .u64 x 1) 6148914691236517205) + (bits .and .u64 x 6148914691236517205)))) (k' := .u64) (b := 2) rfl rfl rfl (by decide)) <| sQ 11 (Y_band (k := .u64) (a := (shrK .u64 (IntKind.u64.wrap ((bits .and .u64 (shrK .u64 x 1) 6148914691236517205) + (bits .and .u64 x 6148914691236517205))) 2)) (b := 3689348814741910323) rfl rfl rfl) <| sQ 12 (ym (.int .u64 (IntKind.u64.wrap ((bits .and .u64 (shrK .u64 x 1) 6148914691236517205) + (bits .and .u64 x 6148914691236517205))))) <| sQ 13 (Y_band (k := .u64) (a := (IntKind.u64.wrap ((bits .and .u64 (shrK .u64 x 1) 6148914691236517205) + (bits .and .u64 x 6148914691236517205)))) (b := 3689348814741910323) rfl rfl rfl) <| sQ 14 (Y_add (k := .u64) (a := (bits .and .u64 (shrK .u64 (IntKind.u64.wrap ((bits .and .u64 (shrK .u64 x 1) 6148914691236517205) + (bits .and .u64 x 6148914691236517205))) 2) 3689348814741910323)) (b := (bits .and .u64 (IntKind.u64.wrap ((bits .and .u64 (shrK .u64 x 1) 6148914691236517205) + (bits .and .u64 x 6148914691236517205))) 3689348814741910323)) rfl rfl rfl) ?_
 refine sQ 0 (yg (.int .u64 (IntKind.u64.wrap ((bits .and .u64 (shrK .u64 (IntKind.u64.wrap ((bits .and .u64 (shrK .u64 x 1) 6148914691236517205) + (bits .and .u64 x 6148914691236517205))) 2) 3689348814741910323) + (bits .and .u64 (IntKind.u64.wrap ((bits .and .u64 (shrK .u64 x 1) 6148914691236517205) + (bits .and .u64 x 6148914691236517205))) 3689348814741910323))))) (rn (cq (cr ?_)))
 refine sQ 15 (ym (.int .u64 (IntKind.u64.wrap ((bits .and .u64 (shrK .u64 (IntKind.u64.wrap ((bits .and .u64 (shrK .u64 x 1) 6148914691236517205) + (bits .and .u64 x 6148914691236517205))) 2) 3689348814741910323) + (bits .and .u64 (IntKind.u64.wrap ((bits .and .u64 (shrK .u64 x 1) 6148914691236517205) + (bits .and .u64 x 6148914691236517205))) 3689348814741910323))))) <| sQ 16 (Y_shr (k := .u64) (a := (IntKind.u64.wrap ((bits .and .u64 (shrK .u64 (IntKind.u64.wrap ((bits .and .u64 (shrK .u64 x 1) 6148914691236517205) + (bits .and .u64 x 6148914691236517205))) 2) 3689348814741910323) + (bits .and .u64 (IntKind.u64.wrap ((bits .and .u64 (shrK .u64 x 1) 6148914691236517205) + (bits .and .u64 x 6148914691236517205))) 3689348814741910323)))) (k' := .u64) (b := 4) rfl rfl rfl (by decide)) <| sQ 17 (ym (.int .u64 (IntKind.u64.wrap ((bits .and .u64 (shrK .u64 (IntKind.u64.wrap ((bits .and .u64 (shrK .u64 x 1) 6148914691236517205) + (bits .and .u64 x 6148914691236517205))) 2) 3689348814741910323) + (bits .and .u64 (IntKind.u64.wrap ((bits .and .u64 (shrK .u64 x 1) 6148914691236517205) + (bits .and .u64 x 6148914691236517205))) 3689348814741910323))))) <| sQ 18 (Y_add (k := .u64) (a := (shrK .u64 (IntKind.u64.wrap ((bits .and .u64 (shrK .u64 (IntKind.u64.wrap ((bits .and .u64 (shrK .u64 x 1) 6148914691236517205) + (bits .and .u64 x 6148914691236517205))) 2) 3689348814741910323) + (bits .and .u64 (IntKind.u64.wrap ((bits .and .u64 (shrK .u64 x 1) 6148914691236517205) + (bits .and .u64 x 6148914691236517205))) 3689348814741910323))) 4)) (b := (IntKind.u64.wrap ((bits .and .u64 (shrK .u64 (IntKind.u64.wrap ((bits .and .u64 (shrK .u64 x 1) 6148914691236517205) + (bits .and .u64 x 6148914691236517205))) 2) 3689348814741910323) + (bits .and .u64 (IntKind.u64.wrap ((bits .and .u64 (shrK .u64 x 1) 6148914691236517205) + (bits .and .u64 x 6148914691236517205))) 3689348814741910323)))) rfl rfl rfl) <| sQ 19 (Y_band (k := .u64) (a := (IntKind.u64.wrap ((shrK .u64 (IntKind.u64.wrap ((bits .and .u64 (shrK .u64 (IntKind.u64.wrap ((bits .and .u64 (shrK .u64 x 1) 6148914691236517205) + (bits .and .u64 x 6148914691236517205))) 2) 3689348814741910323) + (bits .and .u64 (IntKind.u64.wrap ((bits .and .u64 (shrK .u64 x 1) 6148914691236517205) + (bits .and .u64 x 6148914691236517205))) 3689348814741910323))) 4) + (IntKind.u64.wrap ((bits .and .u64 (shrK .u64 (IntKind.u64.wrap ((bits .and .u64 (shrK .u64 x 1) 6148914691236517205) + (bits .and .u64 x 6148914691236517205))) 2) 3689348814741910323) + (bits .and .u64 (IntKind.u64.wrap ((bits .and .u64 (shrK .u64 x 1) 6148914691236517205) + (bits .and .u64 x 6148914691236517205))) 3689348814741910323)))))) (b := 1085102592571150095) rfl rfl rfl) <| sQ 0 (yg (.int .u64 (bits .and .u64 (IntKind.u64.wrap ((shrK .u64 (IntKind.u64.wrap ((bits .and .u64 (shrK .u64 (IntKind.u64.wrap ((bits .and .u64 (shrK .u64 x 1) 6148914691236517205) + (bits .and .u64 x 6148914691236517205))) 2) 3689348814741910323) + (bits .and .u64 (IntKind.u64.wrap ((bits .and .u64 (shrK .u64 x 1) 6148914691236517205) + (bits .and .u64 x 6148914691236517205))) 3689348814741910323))) 4) + (IntKind.u64.wrap ((bits .and .u64 (shrK .u64 (IntKind.u64.wrap ((bits .and .u64 (shrK .u64 x 1) 6148914691236517205) + (bits .and .u64 x 6148914691236517205))) 2) 3689348814741910323) + (bits .and .u64 (IntKind.u64.wrap ((bits .and .u64 (shrK .u64 x 1) 6148914691236517205) + (bits .and .u64 x 6148914691236517205))) 3689348814741910323))))) 1085102592571150095))) (rn (cq (cr ?_)))
 refine sQ 20 (ym (.int .u64 (bits .and .u64 (IntKind.u64.wrap ((shrK .u64 (IntKind.u64.wrap ((bits .and .u64 (shrK .u64 (IntKind.u64.wrap ((bits .and .u64 (shrK .u64 x 1) 6148914691236517205) + (bits .and .u64 x 6148914691236517205))) 2) 3689348814741910323) + (bits .and .u64 (IntKind.u64.wrap ((bits .and .u64 (shrK .u64 x 1) 6148914691236517205) + (bits .and .u64 x 6148914691236517205))) 3689348814741910323))) 4) + (IntKind.u64.wrap ((bits .and .u64 (shrK .u64 (IntKind.u64.wrap ((bits .and .u64 (shrK .u64 x 1) 6148914691236517205) + (bits .and .u64 x 6148914691236517205))) 2) 3689348814741910323) + (bits .and .u64 (IntKind.u64.wrap ((bits .and .u64 (shrK .u64 x 1) 6148914691236517205) + (bits .and .u64 x 6148914691236517205))) 3689348814741910323))))) 1085102592571150095))) <| sQ 21 (ym (.int .u64 (bits .and .u64 (IntKind.u64.wrap ((shrK .u64 (IntKind.u64.wrap ((bits .and .u64 (shrK .u64 (IntKind.u64.wrap ((bits .and .u64 (shrK .u64 x 1) 6148914691236517205) + (bits .and .u64 x 6148914691236517205))) 2) 3689348814741910323) + (bits .and .u64 (IntKind.u64.wrap ((bits .and .u64 (shrK .u64 x 1) 6148914691236517205) + (bits .and .u64 x 6148914691236517205))) 3689348814741910323))) 4) + (IntKind.u64.wrap ((bits .and .u64 (shrK .u64 (IntKind.u64.wrap ((bits .and .u64 (shrK .u64 x 1) 6148914691236517205) + (bits .and .u64 x 6148914691236517205))) 2) 3689348814741910323) + (bits .and .u64 (IntKind.u64.wrap ((bits .and .u64 (shrK .u64 x 1) 6148914691236517205) + (bits .and .u64 x 6148914691236517205))) 3689348814741910323))))) 1085102592571150095))) <| sQ 22 (Y_shr (k := .u64) (a := (bits .and .u64 (IntKind.u64.wrap ((shrK .u64 (IntKind.u64.wrap ((bits .and .u64 (shrK .u64 (IntKind.u64.wrap ((bits .and .u64 (shrK .u64 x 1) 6148914691236517205) + (bits .and .u64 x 6148914691236517205))) 2) 3689348814741910323) + (bits .and .u64 (IntKind.u64.wrap ((bits .and .u64 (shrK .u64 x 1) 6148914691236517205) + (bits .and .u64 x 6148914691236517205))) 3689348814741910323))) 4) + (IntKind.u64.wrap ((bits .and .u64 (shrK .u64 (IntKind.u64.wrap ((bits .and .u64 (shrK .u64 x 1) 6148914691236517205) + (bits .and .u64 x 6148914691236517205))) 2) 3689348814741910323) + (bits .and .u64 (IntKind.u64.wrap ((bits .and .u64 (shrK .u64 x 1) 6148914691236517205) + (bits .and .u64 x 6148914691236517205))) 3689348814741910323))))) 1085102592571150095)) (k' := .u64) (b := 8) rfl rfl rfl (by decide)) <| sQ 23 (Y_add (k := .u64) (a := (bits .and .u64 (IntKind.u64.wrap ((shrK .u64 (IntKind.u64.wrap ((bits .and .u64 (shrK .u64 (IntKind.u64.wrap ((bits .and .u64 (shrK .u64 x 1) 6148914691236517205) + (bits .and .u64 x 6148914691236517205))) 2) 3689348814741910323) + (bits .and .u64 (IntKind.u64.wrap ((bits .and .u64 (shrK .u64 x 1) 6148914691236517205) + (bits .and .u64 x 6148914691236517205))) 3689348814741910323))) 4) + (IntKind.u64.wrap ((bits .and .u64 (shrK .u64 (IntKind.u64.wrap ((bits .and .u64 (shrK .u64 x 1) 6148914691236517205) + (bits .and .u64 x 6148914691236517205))) 2) 3689348814741910323) + (bits .and .u64 (IntKind.u64.wrap ((bits .and .u64 (shrK .u64 x 1) 6148914691236517205) + (bits .and .u64 x 6148914691236517205))) 3689348814741910323))))) 1085102592571150095)) (b := (shrK .u64 (bits .and .u64 (IntKind.u64.wrap ((shrK .u64 (IntKind.u64.wrap ((bits .and .u64 (shrK .u64 (IntKind.u64.wrap ((bits .and .u64 (shrK .u64 x 1) 6148914691236517205) + (bits .and .u64 x 6148914691236517205))) 2) 3689348814741910323) + (bits .and .u64 (IntKind.u64.wrap ((bits .and .u64 (shrK .u64 x 1) 6148914691236517205) + (bits .and .u64 x 6148914691236517205))) 3689348814741910323))) 4) + (IntKind.u64.wrap ((bits .and .u64 (shrK .u64 (IntKind.u64.wrap ((bits .and .u64 (shrK .u64 x 1) 6148914691236517205) + (bits .and .u64 x 6148914691236517205))) 2) 3689348814741910323) + (bits .and .u64 (IntKind.u64.wrap ((bits .and .u64 (shrK .u64 x 1) 6148914691236517205) + (bits .and .u64 x 6148914691236517205))) 3689348814741910323))))) 1085102592571150095) 8)) rfl rfl rfl) <| sQ 0 (yg (.int .u64 (IntKind.u64.wrap ((bits .and .u64 (IntKind.u64.wrap ((shrK .u64 (IntKind.u64.wrap ((bits .and .u64 (shrK .u64 (IntKind.u64.wrap ((bits .and .u64 (shrK .u64 x 1) 6148914691236517205) + (bits .and .u64 x 6148914691236517205))) 2) 3689348814741910323) + (bits .and .u64 (IntKind.u64.wrap ((bits .and .u64 (shrK .u64 x 1) 6148914691236517205) + (bits .and .u64 x 6148914691236517205))) 3689348814741910323))) 4) + (IntKind.u64.wrap ((bits .and .u64 (shrK .u64 (IntKind.u64.wrap ((bits .and .u64 (shrK .u64 x 1) 6148914691236517205) + (bits .and .u64 x 6148914691236517205))) 2) 3689348814741910323) + (bits .and .u64 (IntKind.u64.wrap ((bits .and .u64 (shrK .u64 x 1) 6148914691236517205) + (bits .and .u64 x 6148914691236517205))) 3689348814741910323))))) 1085102592571150095) + (shrK .u64 (bits .and .u64 (IntKind.u64.wrap ((shrK .u64 (IntKind.u64.wrap ((bits .and .u64 (shrK .u64 (IntKind.u64.wrap ((bits .and .u64 (shrK .u64 x 1) 6148914691236517205) + (bits .and .u64 x 6148914691236517205))) 2) 3689348814741910323) + (bits .and .u64 (IntKind.u64.wrap ((bits .and .u64 (shrK .u64 x 1) 6148914691236517205) + (bits .and .u64 x 6148914691236517205))) 3689348814741910323))) 4) + (IntKind.u64.wrap ((bits .and .u64 (shrK .u64 (IntKind.u64.wrap ((bits .and .u64 (shrK .u64 x 1) 6148914691236517205) + (bits .and .u64 x 6148914691236517205))) 2) 3689348814741910323) + (bits .and .u64 (IntKind.u64.wrap ((bits .and .u64 (shrK .u64 x 1) 6148914691236517205) + (bits .and .u64 x 6148914691236517205))) 3689348814741910323))))) 1085102592571150095) 8))))) (rn (cq (cr ?_)))
 refine sQ 24 (ym (.int .u64 (IntKind.u64.wrap ((bits .and .u64 (IntKind.u64.wrap ((shrK .u64 (IntKind.u64.wrap ((bits .and .u64 (shrK .u64 (IntKind.u64.wrap ((bits .and .u64 (shrK .u64 x 1) 6148914691236517205) + (bits .and .u64 x 6148914691236517205))) 2) 3689348814741910323) + (bits .and .u64 (IntKind.u64.wrap ((bits .and .u64 (shrK .u64 x 1) 6148914691236517205) + (bits .and .u64 x 6148914691236517205))) 3689348814741910323))) 4) + (IntKind.u64.wrap ((bits .and .u64 (shrK .u64 (IntKind.u64.wrap ((bits .and .u64 (shrK .u64 x 1) 6148914691236517205) + (bits .and .u64 x 6148914691236517205))) 2) 3689348814741910323) + (bits .and .u64 (IntKind.u64.wrap ((bits .and .u64 (shrK .u64 x 1) 6148914691236517205) + (bits .and .u64 x 6148914691236517205))) 3689348814741910323))))) 1085102592571150095) + (shrK .u64 (bits .and .u64 (IntKind.u64.wrap ((shrK .u64 (IntKind.u64.wrap ((bits .and .u64 (shrK .u64 (IntKind.u64.wrap ((bits .and .u64 (shrK .u64 x 1) 6148914691236517205) + (bits .and .u64 x 6148914691236517205))) 2) 3689348814741910323) + (bits .and .u64 (IntKind.u64.wrap ((bits .and .u64 (shrK .u64 x 1) 6148914691236517205) + (bits .and .u64 x 6148914691236517205))) 3689348814741910323))) 4) + (IntKind.u64.wrap ((bits .and .u64 (shrK .u64 (IntKind.u64.wrap ((bits .and .u64 (shrK .u64 x 1) 6148914691236517205) + (bits .and .u64 x 6148914691236517205))) 2) 3689348814741910323) + (bits .and .u64 (IntKind.u64.wrap ((bits .and .u64 (shrK .u64 x 1) 6148914691236517205) + (bits .and .u64 x 6148914691236517205))) 3689348814741910323))))) 1085102592571150095) 8))))) <| sQ 25 (ym (.int .u64 (IntKind.u64.wrap ((bits .and .u64 (IntKind.u64.wrap ((shrK .u64 (IntKind.u64.wrap ((bits .and .u64 (shrK .u64 (IntKind.u64.wrap ((bits .and .u64 (shrK .u64 x 1) 6148914691236517205) + (bits .and .u64 x 6148914691236517205))) 2) 3689348814741910323) + (bits .and .u64 (IntKind.u64.wrap ((bits .and .u64 (shrK .u64 x 1) 6148914691236517205) + (bits .and .u64 x 6148914691236517205))) 3689348814741910323))) 4) + (IntKind.u64.wrap ((bits .and .u64 (shrK .u64 (IntKind.u64.wrap ((bits .and .u64 (shrK .u64 x 1) 6148914691236517205) + (bits .and .u64 x 6148914691236517205))) 2) 3689348814741910323) + (bits .and .u64 (IntKind.u64.wrap ((bits .and .u64 (shrK .u64 x 1) 6148914691236517205) + (bits .and .u64 x 6148914691236517205))) 3689348814741910323))))) 1085102592571150095) + (shrK .u64 (bits .and .u64 (IntKind.u64.wrap ((shrK .u64 (IntKind.u64.wrap ((bits .and .u64 (shrK .u64 (IntKind.u64.wrap ((bits .and .u64 (shrK .u64 x 1) 6148914691236517205) + (bits .and .u64 x 6148914691236517205))) 2) 3689348814741910323) + (bits .and .u64 (IntKind.u64.wrap ((bits .and .u64 (shrK .u64 x 1) 6148914691236517205) + (bits .and .u64 x 6148914691236517205))) 3689348814741910323))) 4) + (IntKind.u64.wrap ((bits .and .u64 (shrK .u64 (IntKind.u64.wrap ((bits .and .u64 (shrK .u64 x 1) 6148914691236517205) + (bits .and .u64 x 6148914691236517205))) 2) 3689348814741910323) + (bits .and .u64 (IntKind.u64.wrap ((bits .and .u64 (shrK .u64 x 1) 6148914691236517205) + (bits .and .u64 x 6148914691236517205))) 3689348814741910323))))) 1085102592571150095) 8))))) <| sQ 26 (Y_shr (k := .u64) (a := (IntKind.u64.wrap ((bits .and .u64 (IntKind.u64.wrap ((shrK .u64 (IntKind.u64.wrap ((bits .and .u64 (shrK .u64 (IntKind.u64.wrap ((bits .and .u64 (shrK .u64 x 1) 6148914691236517205) + (bits .and .u64 x 6148914691236517205))) 2) 3689348814741910323) + (bits .and .u64 (IntKind.u64.wrap ((bits .and .u64 (shrK .u64 x 1) 6148914691236517205) + (bits .and .u64 x 6148914691236517205))) 3689348814741910323))) 4) + (IntKind.u64.wrap ((bits .and .u64 (shrK .u64 (IntKind.u64.wrap ((bits .and .u64 (shrK .u64 x 1) 6148914691236517205) + (bits .and .u64 x 6148914691236517205))) 2) 3689348814741910323) + (bits .and .u64 (IntKind.u64.wrap ((bits .and .u64 (shrK .u64 x 1) 6148914691236517205) + (bits .and .u64 x 6148914691236517205))) 3689348814741910323))))) 1085102592571150095) + (shrK .u64 (bits .and .u64 (IntKind.u64.wrap ((shrK .u64 (IntKind.u64.wrap ((bits .and .u64 (shrK .u64 (IntKind.u64.wrap ((bits .and .u64 (shrK .u64 x 1) 6148914691236517205) + (bits .and .u64 x 6148914691236517205))) 2) 3689348814741910323) + (bits .and .u64 (IntKind.u64.wrap ((bits .and .u64 (shrK .u64 x 1) 6148914691236517205) + (bits .and .u64 x 6148914691236517205))) 3689348814741910323))) 4) + (IntKind.u64.wrap ((bits .and .u64 (shrK .u64 (IntKind.u64.wrap ((bits .and .u64 (shrK .u64 x 1) 6148914691236517205) + (bits .and .u64 x 6148914691236517205))) 2) 3689348814741910323) + (bits .and .u64 (IntKind.u64.wrap ((bits .and .u64 (shrK .u64 x 1) 6148914691236517205) + (bits .and .u64 x 6148914691236517205))) 3689348814741910323))))) 1085102592571150095) 8)))) (k' := .u64) (b := 16) rfl rfl rfl (by decide)) <| sQ 27 (Y_add (k := .u64) (a := (IntKind.u64.wrap ((bits .and .u64 (IntKind.u64.wrap ((shrK .u64 (IntKind.u64.wrap ((bits .and .u64 (shrK .u64 (IntKind.u64.wrap ((bits .and .u64 (shrK .u64 x 1) 6148914691236517205) + (bits .and .u64 x 6148914691236517205))) 2) 3689348814741910323) + (bits .and .u64 (IntKind.u64.wrap ((bits .and .u64 (shrK .u64 x 1) 6148914691236517205) + (bits .and .u64 x 6148914691236517205))) 3689348814741910323))) 4) + (IntKind.u64.wrap ((bits .and .u64 (shrK .u64 (IntKind.u64.wrap ((bits .and .u64 (shrK .u64 x 1) 6148914691236517205) + (bits .and .u64 x 6148914691236517205))) 2) 3689348814741910323) + (bits .and .u64 (IntKind.u64.wrap ((bits .and .u64 (shrK .u64 x 1) 6148914691236517205) + (bits .and .u64 x 6148914691236517205))) 3689348814741910323))))) 1085102592571150095) + (shrK .u64 (bits .and .u64 (IntKind.u64.wrap ((shrK .u64 (IntKind.u64.wrap ((bits .and .u64 (shrK .u64 (IntKind.u64.wrap ((bits .and .u64 (shrK .u64 x 1) 6148914691236517205) + (bits .and .u64 x 6148914691236517205))) 2) 3689348814741910323) + (bits .and .u64 (IntKind.u64.wrap ((bits .and .u64 (shrK .u64 x 1) 6148914691236517205) + (bits .and .u64 x 6148914691236517205))) 3689348814741910323))) 4) + (IntKind.u64.wrap ((bits .and .u64 (shrK .u64 (IntKind.u64.wrap ((bits .and .u64 (shrK .u64 x 1) 6148914691236517205) + (bits .and .u64 x 6148914691236517205))) 2) 3689348814741910323) + (bits .and .u64 (IntKind.u64.wrap ((bits .and .u64 (shrK .u64 x 1) 6148914691236517205) + (bits .and .u64 x 6148914691236517205))) 3689348814741910323))))) 1085102592571150095) 8)))) (b := (shrK .u64 (IntKind.u64.wrap ((bits .and .u64 (IntKind.u64.wrap ((shrK .u64 (IntKind.u64.wrap ((bits .and .u64 (shrK .u64 (IntKind.u64.wrap ((bits .and .u64 (shrK .u64 x 1) 6148914691236517205) + (bits .and .u64 x 6148914691236517205))) 2) 3689348814741910323) + (bits .and .u64 (IntKind.u64.wrap ((bits .and .u64 (shrK .u64 x 1) 6148914691236517205) + (bits .and .u64 x 6148914691236517205))) 3689348814741910323))) 4) + (IntKind.u64.wrap ((bits .and .u64 (shrK .u64 (IntKind.u64.wrap ((bits .and .u64 (shrK .u64 x 1) 6148914691236517205) + (bits .and .u64 x 6148914691236517205))) 2) 3689348814741910323) + (bits .and .u64 (IntKind.u64.wrap ((bits .and .u64 (shrK .u64 x 1) 6148914691236517205) + (bits .and .u64 x 6148914691236517205))) 3689348814741910323))))) 1085102592571150095) + (shrK .u64 (bits .and .u64 (IntKind.u64.wrap ((shrK .u64 (IntKind.u64.wrap ((bits .and .u64 (shrK .u64 (IntKind.u64.wrap ((bits .and .u64 (shrK .u64 x 1) 6148914691236517205) + (bits .and .u64 x 6148914691236517205))) 2) 3689348814741910323) + (bits .and .u64 (IntKind.u64.wrap ((bits .and .u64 (shrK .u64 x 1) 6148914691236517205) + (bits .and .u64 x 6148914691236517205))) 3689348814741910323))) 4) + (IntKind.u64.wrap ((bits .and .u64 (shrK .u64 (IntKind.u64.wrap ((bits .and .u64 (shrK .u64 x 1) 6148914691236517205) + (bits .and .u64 x 6148914691236517205))) 2) 3689348814741910323) + (bits .and .u64 (IntKind.u64.wrap ((bits .and .u64 (shrK .u64 x 1) 6148914691236517205) + (bits .and .u64 x 6148914691236517205))) 3689348814741910323))))) 1085102592571150095) 8))) 16)) rfl rfl rfl) <| sQ 0 (yg (.int .u64 (IntKind.u64.wrap ((IntKind.u64.wrap ((bits .and .u64 (IntKind.u64.wrap ((shrK .u64 (IntKind.u64.wrap ((bits .and .u64 (shrK .u64 (IntKind.u64.wrap ((bits .and .u64 (shrK .u64 x 1) 6148914691236517205) + (bits .and .u64 x 6148914691236517205))) 2) 3689348814741910323) + (bits .and .u64 (IntKind.u64.wrap ((bits .and .u64 (shrK .u64 x 1) 6148914691236517205) + (bits .and .u64 x 6148914691236517205))) 3689348814741910323))) 4) + (IntKind.u64.wrap ((bits .and .u64 (shrK .u64 (IntKind.u64.wrap ((bits .and .u64 (shrK .u64 x 1) 6148914691236517205) + (bits .and .u64 x 6148914691236517205))) 2) 3689348814741910323) + (bits .and .u64 (IntKind.u64.wrap ((bits .and .u64 (shrK .u64 x 1) 6148914691236517205) + (bits .and .u64 x 6148914691236517205))) 3689348814741910323))))) 1085102592571150095) + (shrK .u64 (bits .and .u64 (IntKind.u64.wrap ((shrK .u64 (IntKind.u64.wrap ((bits .and .u64 (shrK .u64 (IntKind.u64.wrap ((bits .and .u64 (shrK .u64 x 1) 6148914691236517205) + (bits .and .u64 x 6148914691236517205))) 2) 3689348814741910323) + (bits .and .u64 (IntKind.u64.wrap ((bits .and .u64 (shrK .u64 x 1) 6148914691236517205) + (bits .and .u64 x 6148914691236517205))) 3689348814741910323))) 4) + (IntKind.u64.wrap ((bits .and .u64 (shrK .u64 (IntKind.u64.wrap ((bits .and .u64 (shrK .u64 x 1) 6148914691236517205) + (bits .and .u64 x 6148914691236517205))) 2) 3689348814741910323) + (bits .and .u64 (IntKind.u64.wrap ((bits .and .u64 (shrK .u64 x 1) 6148914691236517205) + (bits .and .u64 x 6148914691236517205))) 3689348814741910323))))) 1085102592571150095) 8))) + (shrK .u64 (IntKind.u64.wrap ((bits .and .u64 (IntKind.u64.wrap ((shrK .u64 (IntKind.u64.wrap ((bits .and .u64 (shrK .u64 (IntKind.u64.wrap ((bits .and .u64 (shrK .u64 x 1) 6148914691236517205) + (bits .and .u64 x 6148914691236517205))) 2) 3689348814741910323) + (bits .and .u64 (IntKind.u64.wrap ((bits .and .u64 (shrK .u64 x 1) 6148914691236517205) + (bits .and .u64 x 6148914691236517205))) 3689348814741910323))) 4) + (IntKind.u64.wrap ((bits .and .u64 (shrK .u64 (IntKind.u64.wrap ((bits .and .u64 (shrK .u64 x 1) 6148914691236517205) + (bits .and .u64 x 6148914691236517205))) 2) 3689348814741910323) + (bits .and .u64 (IntKind.u64.wrap ((bits .and .u64 (shrK .u64 x 1) 6148914691236517205) + (bits .and .u64 x 6148914691236517205))) 3689348814741910323))))) 1085102592571150095) + (shrK .u64 (bits .and .u64 (IntKind.u64.wrap ((shrK .u64 (IntKind.u64.wrap ((bits .and .u64 (shrK .u64 (IntKind.u64.wrap ((bits .and .u64 (shrK .u64 x 1) 6148914691236517205) + (bits .and .u64 x 6148914691236517205))) 2) 3689348814741910323) + (bits .and .u64 (IntKind.u64.wrap ((bits .and .u64 (shrK .u64 x 1) 6148914691236517205) + (bits .and .u64 x 6148914691236517205))) 3689348814741910323))) 4) + (IntKind.u64.wrap ((bits .and .u64 (shrK .u64 (IntKind.u64.wrap ((bits .and .u64 (shrK .u64 x 1) 6148914691236517205) + (bits .and .u64 x 6148914691236517205))) 2) 3689348814741910323) + (bits .and .u64 (IntKind.u64.wrap ((bits .and .u64 (shrK .u64 x 1) 6148914691236517205) + (bits .and .u64 x 6148914691236517205))) 3689348814741910323))))) 1085102592571150095) 8))) 16))))) (rn (cq (cr ?_)))
 refine sQ 28 (ym (.int .u64 (IntKind.u64.wrap ((IntKind.u64.wrap ((bits .and .u64 (IntKind.u64.wrap ((shrK .u64 (IntKind.u64.wrap ((bits .and .u64 (shrK .u64 (IntKind.u64.wrap ((bits .and .u64 (shrK .u64 x 1) 6148914691236517205) + (bits .and .u64 x 6148914691236517205))) 2) 3689348814741910323) + (bits .and .u64 (IntKind.u64.wrap ((bits .and .u64 (shrK .u64 x 1) 6148914691236517205) + (bits .and .u64 x 6148914691236517205))) 3689348814741910323))) 4) + (IntKind.u64.wrap ((bits .and .u64 (shrK .u64 (IntKind.u64.wrap ((bits .and .u64 (shrK .u64 x 1) 6148914691236517205) + (bits .and .u64 x 6148914691236517205))) 2) 3689348814741910323) + (bits .and .u64 (IntKind.u64.wrap ((bits .and .u64 (shrK .u64 x 1) 6148914691236517205) + (bits .and .u64 x 6148914691236517205))) 3689348814741910323))))) 1085102592571150095) + (shrK .u64 (bits .and .u64 (IntKind.u64.wrap ((shrK .u64 (IntKind.u64.wrap ((bits .and .u64 (shrK .u64 (IntKind.u64.wrap ((bits .and .u64 (shrK .u64 x 1) 6148914691236517205) + (bits .and .u64 x 6148914691236517205))) 2) 3689348814741910323) + (bits .and .u64 (IntKind.u64.wrap ((bits .and .u64 (shrK .u64 x 1) 6148914691236517205) + (bits .and .u64 x 6148914691236517205))) 3689348814741910323))) 4) + (IntKind.u64.wrap ((bits .and .u64 (shrK .u64 (IntKind.u64.wrap ((bits .and .u64 (shrK .u64 x 1) 6148914691236517205) + (bits .and .u64 x 6148914691236517205))) 2) 3689348814741910323) + (bits .and .u64 (IntKind.u64.wrap ((bits .and .u64 (shrK .u64 x 1) 6148914691236517205) + (bits .and .u64 x 6148914691236517205))) 3689348814741910323))))) 1085102592571150095) 8))) + (shrK .u64 (IntKind.u64.wrap ((bits .and .u64 (IntKind.u64.wrap ((shrK .u64 (IntKind.u64.wrap ((bits .and .u64 (shrK .u64 (IntKind.u64.wrap ((bits .and .u64 (shrK .u64 x 1) 6148914691236517205) + (bits .and .u64 x 6148914691236517205))) 2) 3689348814741910323) + (bits .and .u64 (IntKind.u64.wrap ((bits .and .u64 (shrK .u64 x 1) 6148914691236517205) + (bits .and .u64 x 6148914691236517205))) 3689348814741910323))) 4) + (IntKind.u64.wrap ((bits .and .u64 (shrK .u64 (IntKind.u64.wrap ((bits .and .u64 (shrK .u64 x 1) 6148914691236517205) + (bits .and .u64 x 6148914691236517205))) 2) 3689348814741910323) + (bits .and .u64 (IntKind.u64.wrap ((bits .and .u64 (shrK .u64 x 1) 6148914691236517205) + (bits .and .u64 x 6148914691236517205))) 3689348814741910323))))) 1085102592571150095) + (shrK .u64 (bits .and .u64 (IntKind.u64.wrap ((shrK .u64 (IntKind.u64.wrap ((bits .and .u64 (shrK .u64 (IntKind.u64.wrap ((bits .and .u64 (shrK .u64 x 1) 6148914691236517205) + (bits .and .u64 x 6148914691236517205))) 2) 3689348814741910323) + (bits .and .u64 (IntKind.u64.wrap ((bits .and .u64 (shrK .u64 x 1) 6148914691236517205) + (bits .and .u64 x 6148914691236517205))) 3689348814741910323))) 4) + (IntKind.u64.wrap ((bits .and .u64 (shrK .u64 (IntKind.u64.wrap ((bits .and .u64 (shrK .u64 x 1) 6148914691236517205) + (bits .and .u64 x 6148914691236517205))) 2) 3689348814741910323) + (bits .and .u64 (IntKind.u64.wrap ((bits .and .u64 (shrK .u64 x 1) 6148914691236517205) + (bits .and .u64 x 6148914691236517205))) 3689348814741910323))))) 1085102592571150095) 8))) 16))))) <| sQ 29 (ym (.int .u64 (IntKind.u64.wrap ((IntKind.u64.wrap ((bits .and .u64 (IntKind.u64.wrap ((shrK .u64 (IntKind.u64.wrap ((bits .and .u64 (shrK .u64 (IntKind.u64.wrap ((bits .and .u64 (shrK .u64 x 1) 6148914691236517205) + (bits .and .u64 x 6148914691236517205))) 2) 3689348814741910323) + (bits .and .u64 (IntKind.u64.wrap ((bits .and .u64 (shrK .u64 x 1) 6148914691236517205) + (bits .and .u64 x 6148914691236517205))) 3689348814741910323))) 4) + (IntKind.u64.wrap ((bits .and .u64 (shrK .u64 (IntKind.u64.wrap ((bits .and .u64 (shrK .u64 x 1) 6148914691236517205) + (bits .and .u64 x 6148914691236517205))) 2) 3689348814741910323) + (bits .and .u64 (IntKind.u64.wrap ((bits .and .u64 (shrK .u64 x 1) 6148914691236517205) + (bits .and .u64 x 6148914691236517205))) 3689348814741910323))))) 1085102592571150095) + (shrK .u64 (bits .and .u64 (IntKind.u64.wrap ((shrK .u64 (IntKind.u64.wrap ((bits .and .u64 (shrK .u64 (IntKind.u64.wrap ((bits .and .u64 (shrK .u64 x 1) 6148914691236517205) + (bits .and .u64 x 6148914691236517205))) 2) 3689348814741910323) + (bits .and .u64 (IntKind.u64.wrap ((bits .and .u64 (shrK .u64 x 1) 6148914691236517205) + (bits .and .u64 x 6148914691236517205))) 3689348814741910323))) 4) + (IntKind.u64.wrap ((bits .and .u64 (shrK .u64 (IntKind.u64.wrap ((bits .and .u64 (shrK .u64 x 1) 6148914691236517205) + (bits .and .u64 x 6148914691236517205))) 2) 3689348814741910323) + (bits .and .u64 (IntKind.u64.wrap ((bits .and .u64 (shrK .u64 x 1) 6148914691236517205) + (bits .and .u64 x 6148914691236517205))) 3689348814741910323))))) 1085102592571150095) 8))) + (shrK .u64 (IntKind.u64.wrap ((bits .and .u64 (IntKind.u64.wrap ((shrK .u64 (IntKind.u64.wrap ((bits .and .u64 (shrK .u64 (IntKind.u64.wrap ((bits .and .u64 (shrK .u64 x 1) 6148914691236517205) + (bits .and .u64 x 6148914691236517205))) 2) 3689348814741910323) + (bits .and .u64 (IntKind.u64.wrap ((bits .and .u64 (shrK .u64 x 1) 6148914691236517205) + (bits .and .u64 x 6148914691236517205))) 3689348814741910323))) 4) + (IntKind.u64.wrap ((bits .and .u64 (shrK .u64 (IntKind.u64.wrap ((bits .and .u64 (shrK .u64 x 1) 6148914691236517205) + (bits .and .u64 x 6148914691236517205))) 2) 3689348814741910323) + (bits .and .u64 (IntKind.u64.wrap ((bits .and .u64 (shrK .u64 x 1) 6148914691236517205) + (bits .and .u64 x 6148914691236517205))) 3689348814741910323))))) 1085102592571150095) + (shrK .u64 (bits .and .u64 (IntKind.u64.wrap ((shrK .u64 (IntKind.u64.wrap ((bits .and .u64 (shrK .u64 (IntKind.u64.wrap ((bits .and .u64 (shrK .u64 x 1) 6148914691236517205) + (bits .and .u64 x 6148914691236517205))) 2) 3689348814741910323) + (bits .and .u64 (IntKind.u64.wrap ((bits .and .u64 (shrK .u64 x 1) 6148914691236517205) + (bits .and .u64 x 6148914691236517205))) 3689348814741910323))) 4) + (IntKind.u64.wrap ((bits .and .u64 (shrK .u64 (IntKind.u64.wrap ((bits .and .u64 (shrK .u64 x 1) 6148914691236517205) + (bits .and .u64 x 6148914691236517205))) 2) 3689348814741910323) + (bits .and .u64 (IntKind.u64.wrap ((bits .and .u64 (shrK .u64 x 1) 6148914691236517205) + (bits .and .u64 x 6148914691236517205))) 3689348814741910323))))) 1085102592571150095) 8))) 16))))) <| sQ 30 (Y_shr (k := .u64) (a := (IntKind.u64.wrap ((IntKind.u64.wrap ((bits .and .u64 (IntKind.u64.wrap ((shrK .u64 (IntKind.u64.wrap ((bits .and .u64 (shrK .u64 (IntKind.u64.wrap ((bits .and .u64 (shrK .u64 x 1) 6148914691236517205) + (bits .and .u64 x 6148914691236517205))) 2) 3689348814741910323) + (bits .and .u64 (IntKind.u64.wrap ((bits .and .u64 (shrK .u64 x 1) 6148914691236517205) + (bits .and .u64 x 6148914691236517205))) 3689348814741910323))) 4) + (IntKind.u64.wrap ((bits .and .u64 (shrK .u64 (IntKind.u64.wrap ((bits .and .u64 (shrK .u64 x 1) 6148914691236517205) + (bits .and .u64 x 6148914691236517205))) 2) 3689348814741910323) + (bits .and .u64 (IntKind.u64.wrap ((bits .and .u64 (shrK .u64 x 1) 6148914691236517205) + (bits .and .u64 x 6148914691236517205))) 3689348814741910323))))) 1085102592571150095) + (shrK .u64 (bits .and .u64 (IntKind.u64.wrap ((shrK .u64 (IntKind.u64.wrap ((bits .and .u64 (shrK .u64 (IntKind.u64.wrap ((bits .and .u64 (shrK .u64 x 1) 6148914691236517205) + (bits .and .u64 x 6148914691236517205))) 2) 3689348814741910323) + (bits .and .u64 (IntKind.u64.wrap ((bits .and .u64 (shrK .u64 x 1) 6148914691236517205) + (bits .and .u64 x 6148914691236517205))) 3689348814741910323))) 4) + (IntKind.u64.wrap ((bits .and .u64 (shrK .u64 (IntKind.u64.wrap ((bits .and .u64 (shrK .u64 x 1) 6148914691236517205) + (bits .and .u64 x 6148914691236517205))) 2) 3689348814741910323) + (bits .and .u64 (IntKind.u64.wrap ((bits .and .u64 (shrK .u64 x 1) 6148914691236517205) + (bits .and .u64 x 6148914691236517205))) 3689348814741910323))))) 1085102592571150095) 8))) + (shrK .u64 (IntKind.u64.wrap ((bits .and .u64 (IntKind.u64.wrap ((shrK .u64 (IntKind.u64.wrap ((bits .and .u64 (shrK .u64 (IntKind.u64.wrap ((bits .and .u64 (shrK .u64 x 1) 6148914691236517205) + (bits .and .u64 x 6148914691236517205))) 2) 3689348814741910323) + (bits .and .u64 (IntKind.u64.wrap ((bits .and .u64 (shrK .u64 x 1) 6148914691236517205) + (bits .and .u64 x 6148914691236517205))) 3689348814741910323))) 4) + (IntKind.u64.wrap ((bits .and .u64 (shrK .u64 (IntKind.u64.wrap ((bits .and .u64 (shrK .u64 x 1) 6148914691236517205) + (bits .and .u64 x 6148914691236517205))) 2) 3689348814741910323) + (bits .and .u64 (IntKind.u64.wrap ((bits .and .u64 (shrK .u64 x 1) 6148914691236517205) + (bits .and .u64 x 6148914691236517205))) 3689348814741910323))))) 1085102592571150095) + (shrK .u64 (bits .and .u64 (IntKind.u64.wrap ((shrK .u64 (IntKind.u64.wrap ((bits .and .u64 (shrK .u64 (IntKind.u64.wrap ((bits .and .u64 (shrK .u64 x 1) 6148914691236517205) + (bits .and .u64 x 6148914691236517205))) 2) 3689348814741910323) + (bits .and .u64 (IntKind.u64.wrap ((bits .and .u64 (shrK .u64 x 1) 6148914691236517205) + (bits .and .u64 x 6148914691236517205))) 3689348814741910323))) 4) + (IntKind.u64.wrap ((bits .and .u64 (shrK .u64 (IntKind.u64.wrap ((bits .and .u64 (shrK .u64 x 1) 6148914691236517205) + (bits .and .u64 x 6148914691236517205))) 2) 3689348814741910323) + (bits .and .u64 (IntKind.u64.wrap ((bits .and .u64 (shrK .u64 x 1) 6148914691236517205) + (bits .and .u64 x 6148914691236517205))) 3689348814741910323))))) 1085102592571150095) 8))) 16)))) (k' := .u64) (b := 32) rfl rfl rfl (by decide)) <| sQ 31 (Y_add (k := .u64) (a := (IntKind.u64.wrap ((IntKind.u64.wrap ((bits .and .u64 (IntKind.u64.wrap ((shrK .u64 (IntKind.u64.wrap ((bits .and .u64 (shrK .u64 (IntKind.u64.wrap ((bits .and .u64 (shrK .u64 x 1) 6148914691236517205) + (bits .and .u64 x 6148914691236517205))) 2) 3689348814741910323) + (bits .and .u64 (IntKind.u64.wrap ((bits .and .u64 (shrK .u64 x 1) 6148914691236517205) + (bits .and .u64 x 6148914691236517205))) 3689348814741910323))) 4) + (IntKind.u64.wrap ((bits .and .u64 (shrK .u64 (IntKind.u64.wrap ((bits .and .u64 (shrK .u64 x 1) 6148914691236517205) + (bits .and .u64 x 6148914691236517205))) 2) 3689348814741910323) + (bits .and .u64 (IntKind.u64.wrap ((bits .and .u64 (shrK .u64 x 1) 6148914691236517205) + (bits .and .u64 x 6148914691236517205))) 3689348814741910323))))) 1085102592571150095) + (shrK .u64 (bits .and .u64 (IntKind.u64.wrap ((shrK .u64 (IntKind.u64.wrap ((bits .and .u64 (shrK .u64 (IntKind.u64.wrap ((bits .and .u64 (shrK .u64 x 1) 6148914691236517205) + (bits .and .u64 x 6148914691236517205))) 2) 3689348814741910323) + (bits .and .u64 (IntKind.u64.wrap ((bits .and .u64 (shrK .u64 x 1) 6148914691236517205) + (bits .and .u64 x 6148914691236517205))) 3689348814741910323))) 4) + (IntKind.u64.wrap ((bits .and .u64 (shrK .u64 (IntKind.u64.wrap ((bits .and .u64 (shrK .u64 x 1) 6148914691236517205) + (bits .and .u64 x 6148914691236517205))) 2) 3689348814741910323) + (bits .and .u64 (IntKind.u64.wrap ((bits .and .u64 (shrK .u64 x 1) 6148914691236517205) + (bits .and .u64 x 6148914691236517205))) 3689348814741910323))))) 1085102592571150095) 8))) + (shrK .u64 (IntKind.u64.wrap ((bits .and .u64 (IntKind.u64.wrap ((shrK .u64 (IntKind.u64.wrap ((bits .and .u64 (shrK .u64 (IntKind.u64.wrap ((bits .and .u64 (shrK .u64 x 1) 6148914691236517205) + (bits .and .u64 x 6148914691236517205))) 2) 3689348814741910323) + (bits .and .u64 (IntKind.u64.wrap ((bits .and .u64 (shrK .u64 x 1) 6148914691236517205) + (bits .and .u64 x 6148914691236517205))) 3689348814741910323))) 4) + (IntKind.u64.wrap ((bits .and .u64 (shrK .u64 (IntKind.u64.wrap ((bits .and .u64 (shrK .u64 x 1) 6148914691236517205) + (bits .and .u64 x 6148914691236517205))) 2) 3689348814741910323) + (bits .and .u64 (IntKind.u64.wrap ((bits .and .u64 (shrK .u64 x 1) 6148914691236517205) + (bits .and .u64 x 6148914691236517205))) 3689348814741910323))))) 1085102592571150095) + (shrK .u64 (bits .and .u64 (IntKind.u64.wrap ((shrK .u64 (IntKind.u64.wrap ((bits .and .u64 (shrK .u64 (IntKind.u64.wrap ((bits .and .u64 (shrK .u64 x 1) 6148914691236517205) + (bits .and .u64 x 6148914691236517205))) 2) 3689348814741910323) + (bits .and .u64 (IntKind.u64.wrap ((bits .and .u64 (shrK .u64 x 1) 6148914691236517205) + (bits .and .u64 x 6148914691236517205))) 3689348814741910323))) 4) + (IntKind.u64.wrap ((bits .and .u64 (shrK .u64 (IntKind.u64.wrap ((bits .and .u64 (shrK .u64 x 1) 6148914691236517205) + (bits .and .u64 x 6148914691236517205))) 2) 3689348814741910323) + (bits .and .u64 (IntKind.u64.wrap ((bits .and .u64 (shrK .u64 x 1) 6148914691236517205) + (bits .and .u64 x 6148914691236517205))) 3689348814741910323))))) 1085102592571150095) 8))) 16)))) (b := (shrK .u64 (IntKind.u64.wrap ((IntKind.u64.wrap ((bits .and .u64 (IntKind.u64.wrap ((shrK .u64 (IntKind.u64.wrap ((bits .and .u64 (shrK .u64 (IntKind.u64.wrap ((bits .and .u64 (shrK .u64 x 1) 6148914691236517205) + (bits .and .u64 x 6148914691236517205))) 2) 3689348814741910323) + (bits .and .u64 (IntKind.u64.wrap ((bits .and .u64 (shrK .u64 x 1) 6148914691236517205) + (bits .and .u64 x 6148914691236517205))) 3689348814741910323))) 4) + (IntKind.u64.wrap ((bits .and .u64 (shrK .u64 (IntKind.u64.wrap ((bits .and .u64 (shrK .u64 x 1) 6148914691236517205) + (bits .and .u64 x 6148914691236517205))) 2) 3689348814741910323) + (bits .and .u64 (IntKind.u64.wrap ((bits .and .u64 (shrK .u64 x 1) 6148914691236517205) + (bits .and .u64 x 6148914691236517205))) 3689348814741910323))))) 1085102592571150095) + (shrK .u64 (bits .and .u64 (IntKind.u64.wrap ((shrK .u64 (IntKind.u64.wrap ((bits .and .u64 (shrK .u64 (IntKind.u64.wrap ((bits .and .u64 (shrK .u64 x 1) 6148914691236517205) + (bits .and .u64 x 6148914691236517205))) 2) 3689348814741910323) + (bits .and .u64 (IntKind.u64.wrap ((bits .and .u64 (shrK .u64 x 1) 6148914691236517205) + (bits .and .u64 x 6148914691236517205))) 3689348814741910323))) 4) + (IntKind.u64.wrap ((bits .and .u64 (shrK .u64 (IntKind.u64.wrap ((bits .and .u64 (shrK .u64 x 1) 6148914691236517205) + (bits .and .u64 x 6148914691236517205))) 2) 3689348814741910323) + (bits .and .u64 (IntKind.u64.wrap ((bits .and .u64 (shrK .u64 x 1) 6148914691236517205) + (bits .and .u64 x 6148914691236517205))) 3689348814741910323))))) 1085102592571150095) 8))) + (shrK .u64 (IntKind.u64.wrap ((bits .and .u64 (IntKind.u64.wrap ((shrK .u64 (IntKind.u64.wrap ((bits .and .u64 (shrK .u64 (IntKind.u64.wrap ((bits .and .u64 (shrK .u64 x 1) 6148914691236517205) + (bits .and .u64 x 6148914691236517205))) 2) 3689348814741910323) + (bits .and .u64 (IntKind.u64.wrap ((bits .and .u64 (shrK .u64 x 1) 6148914691236517205) + (bits .and .u64 x 6148914691236517205))) 3689348814741910323))) 4) + (IntKind.u64.wrap ((bits .and .u64 (shrK .u64 (IntKind.u64.wrap ((bits .and .u64 (shrK .u64 x 1) 6148914691236517205) + (bits .and .u64 x 6148914691236517205))) 2) 3689348814741910323) + (bits .and .u64 (IntKind.u64.wrap ((bits .and .u64 (shrK .u64 x 1) 6148914691236517205) + (bits .and .u64 x 6148914691236517205))) 3689348814741910323))))) 1085102592571150095) + (shrK .u64 (bits .and .u64 (IntKind.u64.wrap ((shrK .u64 (IntKind.u64.wrap ((bits .and .u64 (shrK .u64 (IntKind.u64.wrap ((bits .and .u64 (shrK .u64 x 1) 6148914691236517205) + (bits .and .u64 x 6148914691236517205))) 2) 3689348814741910323) + (bits .and .u64 (IntKind.u64.wrap ((bits .and .u64 (shrK .u64 x 1) 6148914691236517205) + (bits .and .u64 x 6148914691236517205))) 3689348814741910323))) 4) + (IntKind.u64.wrap ((bits .and .u64 (shrK .u64 (IntKind.u64.wrap ((bits .and .u64 (shrK .u64 x 1) 6148914691236517205) + (bits .and .u64 x 6148914691236517205))) 2) 3689348814741910323) + (bits .and .u64 (IntKind.u64.wrap ((bits .and .u64 (shrK .u64 x 1) 6148914691236517205) + (bits .and .u64 x 6148914691236517205))) 3689348814741910323))))) 1085102592571150095) 8))) 16))) 32)) rfl rfl rfl) <| sQ 0 (yg (.int .u64 (IntKind.u64.wrap ((IntKind.u64.wrap ((IntKind.u64.wrap ((bits .and .u64 (IntKind.u64.wrap ((shrK .u64 (IntKind.u64.wrap ((bits .and .u64 (shrK .u64 (IntKind.u64.wrap ((bits .and .u64 (shrK .u64 x 1) 6148914691236517205) + (bits .and .u64 x 6148914691236517205))) 2) 3689348814741910323) + (bits .and .u64 (IntKind.u64.wrap ((bits .and .u64 (shrK .u64 x 1) 6148914691236517205) + (bits .and .u64 x 6148914691236517205))) 3689348814741910323))) 4) + (IntKind.u64.wrap ((bits .and .u64 (shrK .u64 (IntKind.u64.wrap ((bits .and .u64 (shrK .u64 x 1) 6148914691236517205) + (bits .and .u64 x 6148914691236517205))) 2) 3689348814741910323) + (bits .and .u64 (IntKind.u64.wrap ((bits .and .u64 (shrK .u64 x 1) 6148914691236517205) + (bits .and .u64 x 6148914691236517205))) 3689348814741910323))))) 1085102592571150095) + (shrK .u64 (bits .and .u64 (IntKind.u64.wrap ((shrK .u64 (IntKind.u64.wrap ((bits .and .u64 (shrK .u64 (IntKind.u64.wrap ((bits .and .u64 (shrK .u64 x 1) 6148914691236517205) + (bits .and .u64 x 6148914691236517205))) 2) 3689348814741910323) + (bits .and .u64 (IntKind.u64.wrap ((bits .and .u64 (shrK .u64 x 1) 6148914691236517205) + (bits .and .u64 x 6148914691236517205))) 3689348814741910323))) 4) + (IntKind.u64.wrap ((bits .and .u64 (shrK .u64 (IntKind.u64.wrap ((bits .and .u64 (shrK .u64 x 1) 6148914691236517205) + (bits .and .u64 x 6148914691236517205))) 2) 3689348814741910323) + (bits .and .u64 (IntKind.u64.wrap ((bits .and .u64 (shrK .u64 x 1) 6148914691236517205) + (bits .and .u64 x 6148914691236517205))) 3689348814741910323))))) 1085102592571150095) 8))) + (shrK .u64 (IntKind.u64.wrap ((bits .and .u64 (IntKind.u64.wrap ((shrK .u64 (IntKind.u64.wrap ((bits .and .u64 (shrK .u64 (IntKind.u64.wrap ((bits .and .u64 (shrK .u64 x 1) 6148914691236517205) + (bits .and .u64 x 6148914691236517205))) 2) 3689348814741910323) + (bits .and .u64 (IntKind.u64.wrap ((bits .and .u64 (shrK .u64 x 1) 6148914691236517205) + (bits .and .u64 x 6148914691236517205))) 3689348814741910323))) 4) + (IntKind.u64.wrap ((bits .and .u64 (shrK .u64 (IntKind.u64.wrap ((bits .and .u64 (shrK .u64 x 1) 6148914691236517205) + (bits .and .u64 x 6148914691236517205))) 2) 3689348814741910323) + (bits .and .u64 (IntKind.u64.wrap ((bits .and .u64 (shrK .u64 x 1) 6148914691236517205) + (bits .and .u64 x 6148914691236517205))) 3689348814741910323))))) 1085102592571150095) + (shrK .u64 (bits .and .u64 (IntKind.u64.wrap ((shrK .u64 (IntKind.u64.wrap ((bits .and .u64 (shrK .u64 (IntKind.u64.wrap ((bits .and .u64 (shrK .u64 x 1) 6148914691236517205) + (bits .and .u64 x 6148914691236517205))) 2) 3689348814741910323) + (bits .and .u64 (IntKind.u64.wrap ((bits .and .u64 (shrK .u64 x 1) 6148914691236517205) + (bits .and .u64 x 6148914691236517205))) 3689348814741910323))) 4) + (IntKind.u64.wrap ((bits .and .u64 (shrK .u64 (IntKind.u64.wrap ((bits .and .u64 (shrK .u64 x 1) 6148914691236517205) + (bits .and .u64 x 6148914691236517205))) 2) 3689348814741910323) + (bits .and .u64 (IntKind.u64.wrap ((bits .and .u64 (shrK .u64 x 1) 6148914691236517205) + (bits .and .u64 x 6148914691236517205))) 3689348814741910323))))) 1085102592571150095) 8))) 16))) + (shrK .u64 (IntKind.u64.wrap ((IntKind.u64.wrap ((bits .and .u64 (IntKind.u64.wrap ((shrK .u64 (IntKind.u64.wrap ((bits .and .u64 (shrK .u64 (IntKind.u64.wrap ((bits .and .u64 (shrK .u64 x 1) 6148914691236517205) + (bits .and .u64 x 6148914691236517205))) 2) 3689348814741910323) + (bits .and .u64 (IntKind.u64.wrap ((bits .and .u64 (shrK .u64 x 1) 6148914691236517205) + (bits .and .u64 x 6148914691236517205))) 3689348814741910323))) 4) + (IntKind.u64.wrap ((bits .and .u64 (shrK .u64 (IntKind.u64.wrap ((bits .and .u64 (shrK .u64 x 1) 6148914691236517205) + (bits .and .u64 x 6148914691236517205))) 2) 3689348814741910323) + (bits .and .u64 (IntKind.u64.wrap ((bits .and .u64 (shrK .u64 x 1) 6148914691236517205) + (bits .and .u64 x 6148914691236517205))) 3689348814741910323))))) 1085102592571150095) + (shrK .u64 (bits .and .u64 (IntKind.u64.wrap ((shrK .u64 (IntKind.u64.wrap ((bits .and .u64 (shrK .u64 (IntKind.u64.wrap ((bits .and .u64 (shrK .u64 x 1) 6148914691236517205) + (bits .and .u64 x 6148914691236517205))) 2) 3689348814741910323) + (bits .and .u64 (IntKind.u64.wrap ((bits .and .u64 (shrK .u64 x 1) 6148914691236517205) + (bits .and .u64 x 6148914691236517205))) 3689348814741910323))) 4) + (IntKind.u64.wrap ((bits .and .u64 (shrK .u64 (IntKind.u64.wrap ((bits .and .u64 (shrK .u64 x 1) 6148914691236517205) + (bits .and .u64 x 6148914691236517205))) 2) 3689348814741910323) + (bits .and .u64 (IntKind.u64.wrap ((bits .and .u64 (shrK .u64 x 1) 6148914691236517205) + (bits .and .u64 x 6148914691236517205))) 3689348814741910323))))) 1085102592571150095) 8))) + (shrK .u64 (IntKind.u64.wrap ((bits .and .u64 (IntKind.u64.wrap ((shrK .u64 (IntKind.u64.wrap ((bits .and .u64 (shrK .u64 (IntKind.u64.wrap ((bits .and .u64 (shrK .u64 x 1) 6148914691236517205) + (bits .and .u64 x 6148914691236517205))) 2) 3689348814741910323) + (bits .and .u64 (IntKind.u64.wrap ((bits .and .u64 (shrK .u64 x 1) 6148914691236517205) + (bits .and .u64 x 6148914691236517205))) 3689348814741910323))) 4) + (IntKind.u64.wrap ((bits .and .u64 (shrK .u64 (IntKind.u64.wrap ((bits .and .u64 (shrK .u64 x 1) 6148914691236517205) + (bits .and .u64 x 6148914691236517205))) 2) 3689348814741910323) + (bits .and .u64 (IntKind.u64.wrap ((bits .and .u64 (shrK .u64 x 1) 6148914691236517205) + (bits .and .u64 x 6148914691236517205))) 3689348814741910323))))) 1085102592571150095) + (shrK .u64 (bits .and .u64 (IntKind.u64.wrap ((shrK .u64 (IntKind.u64.wrap ((bits .and .u64 (shrK .u64 (IntKind.u64.wrap ((bits .and .u64 (shrK .u64 x 1) 6148914691236517205) + (bits .and .u64 x 6148914691236517205))) 2) 3689348814741910323) + (bits .and .u64 (IntKind.u64.wrap ((bits .and .u64 (shrK .u64 x 1) 6148914691236517205) + (bits .and .u64 x 6148914691236517205))) 3689348814741910323))) 4) + (IntKind.u64.wrap ((bits .and .u64 (shrK .u64 (IntKind.u64.wrap ((bits .and .u64 (shrK .u64 x 1) 6148914691236517205) + (bits .and .u64 x 6148914691236517205))) 2) 3689348814741910323) + (bits .and .u64 (IntKind.u64.wrap ((bits .and .u64 (shrK .u64 x 1) 6148914691236517205) + (bits .and .u64 x 6148914691236517205))) 3689348814741910323))))) 1085102592571150095) 8))) 16))) 32))))) (rn (cq (cr ?_)))
 refine sQ 32 (ym (.int .u64 (IntKind.u64.wrap ((IntKind.u64.wrap ((IntKind.u64.wrap ((bits .and .u64 (IntKind.u64.wrap ((shrK .u64 (IntKind.u64.wrap ((bits .and .u64 (shrK .u64 (IntKind.u64.wrap ((bits .and .u64 (shrK .u64 x 1) 6148914691236517205) + (bits .and .u64 x 6148914691236517205))) 2) 3689348814741910323) + (bits .and .u64 (IntKind.u64.wrap ((bits .and .u64 (shrK .u64 x 1) 6148914691236517205) + (bits .and .u64 x 6148914691236517205))) 3689348814741910323))) 4) + (IntKind.u64.wrap ((bits .and .u64 (shrK .u64 (IntKind.u64.wrap ((bits .and .u64 (shrK .u64 x 1) 6148914691236517205) + (bits .and .u64 x 6148914691236517205))) 2) 3689348814741910323) + (bits .and .u64 (IntKind.u64.wrap ((bits .and .u64 (shrK .u64 x 1) 6148914691236517205) + (bits .and .u64 x 6148914691236517205))) 3689348814741910323))))) 1085102592571150095) + (shrK .u64 (bits .and .u64 (IntKind.u64.wrap ((shrK .u64 (IntKind.u64.wrap ((bits .and .u64 (shrK .u64 (IntKind.u64.wrap ((bits .and .u64 (shrK .u64 x 1) 6148914691236517205) + (bits .and .u64 x 6148914691236517205))) 2) 3689348814741910323) + (bits .and .u64 (IntKind.u64.wrap ((bits .and .u64 (shrK .u64 x 1) 6148914691236517205) + (bits .and .u64 x 6148914691236517205))) 3689348814741910323))) 4) + (IntKind.u64.wrap ((bits .and .u64 (shrK .u64 (IntKind.u64.wrap ((bits .and .u64 (shrK .u64 x 1) 6148914691236517205) + (bits .and .u64 x 6148914691236517205))) 2) 3689348814741910323) + (bits .and .u64 (IntKind.u64.wrap ((bits .and .u64 (shrK .u64 x 1) 6148914691236517205) + (bits .and .u64 x 6148914691236517205))) 3689348814741910323))))) 1085102592571150095) 8))) + (shrK .u64 (IntKind.u64.wrap ((bits .and .u64 (IntKind.u64.wrap ((shrK .u64 (IntKind.u64.wrap ((bits .and .u64 (shrK .u64 (IntKind.u64.wrap ((bits .and .u64 (shrK .u64 x 1) 6148914691236517205) + (bits .and .u64 x 6148914691236517205))) 2) 3689348814741910323) + (bits .and .u64 (IntKind.u64.wrap ((bits .and .u64 (shrK .u64 x 1) 6148914691236517205) + (bits .and .u64 x 6148914691236517205))) 3689348814741910323))) 4) + (IntKind.u64.wrap ((bits .and .u64 (shrK .u64 (IntKind.u64.wrap ((bits .and .u64 (shrK .u64 x 1) 6148914691236517205) + (bits .and .u64 x 6148914691236517205))) 2) 3689348814741910323) + (bits .and .u64 (IntKind.u64.wrap ((bits .and .u64 (shrK .u64 x 1) 6148914691236517205) + (bits .and .u64 x 6148914691236517205))) 3689348814741910323))))) 1085102592571150095) + (shrK .u64 (bits .and .u64 (IntKind.u64.wrap ((shrK .u64 (IntKind.u64.wrap ((bits .and .u64 (shrK .u64 (IntKind.u64.wrap ((bits .and .u64 (shrK .u64 x 1) 6148914691236517205) + (bits .and .u64 x 6148914691236517205))) 2) 3689348814741910323) + (bits .and .u64 (IntKind.u64.wrap ((bits .and .u64 (shrK .u64 x 1) 6148914691236517205) + (bits .and .u64 x 6148914691236517205))) 3689348814741910323))) 4) + (IntKind.u64.wrap ((bits .and .u64 (shrK .u64 (IntKind.u64.wrap ((bits .and .u64 (shrK .u64 x 1) 6148914691236517205) + (bits .and .u64 x 6148914691236517205))) 2) 3689348814741910323) + (bits .and .u64 (IntKind.u64.wrap ((bits .and .u64 (shrK .u64 x 1) 6148914691236517205) + (bits .and .u64 x 6148914691236517205))) 3689348814741910323))))) 1085102592571150095) 8))) 16))) + (shrK .u64 (IntKind.u64.wrap ((IntKind.u64.wrap ((bits .and .u64 (IntKind.u64.wrap ((shrK .u64 (IntKind.u64.wrap ((bits .and .u64 (shrK .u64 (IntKind.u64.wrap ((bits .and .u64 (shrK .u64 x 1) 6148914691236517205) + (bits .and .u64 x 6148914691236517205))) 2) 3689348814741910323) + (bits .and .u64 (IntKind.u64.wrap ((bits .and .u64 (shrK .u64 x 1) 6148914691236517205) + (bits .and .u64 x 6148914691236517205))) 3689348814741910323))) 4) + (IntKind.u64.wrap ((bits .and .u64 (shrK .u64 (IntKind.u64.wrap ((bits .and .u64 (shrK .u64 x 1) 6148914691236517205) + (bits .and .u64 x 6148914691236517205))) 2) 3689348814741910323) + (bits .and .u64 (IntKind.u64.wrap ((bits .and .u64 (shrK .u64 x 1) 6148914691236517205) + (bits .and .u64 x 6148914691236517205))) 3689348814741910323))))) 1085102592571150095) + (shrK .u64 (bits .and .u64 (IntKind.u64.wrap ((shrK .u64 (IntKind.u64.wrap ((bits .and .u64 (shrK .u64 (IntKind.u64.wrap ((bits .and .u64 (shrK .u64 x 1) 6148914691236517205) + (bits .and .u64 x 6148914691236517205))) 2) 3689348814741910323) + (bits .and .u64 (IntKind.u64.wrap ((bits .and .u64 (shrK .u64 x 1) 6148914691236517205) + (bits .and .u64 x 6148914691236517205))) 3689348814741910323))) 4) + (IntKind.u64.wrap ((bits .and .u64 (shrK .u64 (IntKind.u64.wrap ((bits .and .u64 (shrK .u64 x 1) 6148914691236517205) + (bits .and .u64 x 6148914691236517205))) 2) 3689348814741910323) + (bits .and .u64 (IntKind.u64.wrap ((bits .and .u64 (shrK .u64 x 1) 6148914691236517205) + (bits .and .u64 x 6148914691236517205))) 3689348814741910323))))) 1085102592571150095) 8))) + (shrK .u64 (IntKind.u64.wrap ((bits .and .u64 (IntKind.u64.wrap ((shrK .u64 (IntKind.u64.wrap ((bits .and .u64 (shrK .u64 (IntKind.u64.wrap ((bits .and .u64 (shrK .u64 x 1) 6148914691236517205) + (bits .and .u64 x 6148914691236517205))) 2) 3689348814741910323) + (bits .and .u64 (IntKind.u64.wrap ((bits .and .u64 (shrK .u64 x 1) 6148914691236517205) + (bits .and .u64 x 6148914691236517205))) 3689348814741910323))) 4) + (IntKind.u64.wrap ((bits .and .u64 (shrK .u64 (IntKind.u64.wrap ((bits .and .u64 (shrK .u64 x 1) 6148914691236517205) + (bits .and .u64 x 6148914691236517205))) 2) 3689348814741910323) + (bits .and .u64 (IntKind.u64.wrap ((bits .and .u64 (shrK .u64 x 1) 6148914691236517205) + (bits .and .u64 x 6148914691236517205))) 3689348814741910323))))) 1085102592571150095) + (shrK .u64 (bits .and .u64 (IntKind.u64.wrap ((shrK .u64 (IntKind.u64.wrap ((bits .and .u64 (shrK .u64 (IntKind.u64.wrap ((bits .and .u64 (shrK .u64 x 1) 6148914691236517205) + (bits .and .u64 x 6148914691236517205))) 2) 3689348814741910323) + (bits .and .u64 (IntKind.u64.wrap ((bits .and .u64 (shrK .u64 x 1) 6148914691236517205) + (bits .and .u64 x 6148914691236517205))) 3689348814741910323))) 4) + (IntKind.u64.wrap ((bits .and .u64 (shrK .u64 (IntKind.u64.wrap ((bits .and .u64 (shrK .u64 x 1) 6148914691236517205) + (bits .and .u64 x 6148914691236517205))) 2) 3689348814741910323) + (bits .and .u64 (IntKind.u64.wrap ((bits .and .u64 (shrK .u64 x 1) 6148914691236517205) + (bits .and .u64 x 6148914691236517205))) 3689348814741910323))))) 1085102592571150095) 8))) 16))) 32))))) <| sQ 33 (Y_conv (k := .u64) (a := (IntKind.u64.wrap ((IntKind.u64.wrap ((IntKind.u64.wrap ((bits .and .u64 (IntKind.u64.wrap ((shrK .u64 (IntKind.u64.wrap ((bits .and .u64 (shrK .u64 (IntKind.u64.wrap ((bits .and .u64 (shrK .u64 x 1) 6148914691236517205) + (bits .and .u64 x 6148914691236517205))) 2) 3689348814741910323) + (bits .and .u64 (IntKind.u64.wrap ((bits .and .u64 (shrK .u64 x 1) 6148914691236517205) + (bits .and .u64 x 6148914691236517205))) 3689348814741910323))) 4) + (IntKind.u64.wrap ((bits .and .u64 (shrK .u64 (IntKind.u64.wrap ((bits .and .u64 (shrK .u64 x 1) 6148914691236517205) + (bits .and .u64 x 6148914691236517205))) 2) 3689348814741910323) + (bits .and .u64 (IntKind.u64.wrap ((bits .and .u64 (shrK .u64 x 1) 6148914691236517205) + (bits .and .u64 x 6148914691236517205))) 3689348814741910323))))) 1085102592571150095) + (shrK .u64 (bits .and .u64 (IntKind.u64.wrap ((shrK .u64 (IntKind.u64.wrap ((bits .and .u64 (shrK .u64 (IntKind.u64.wrap ((bits .and .u64 (shrK .u64 x 1) 6148914691236517205) + (bits .and .u64 x 6148914691236517205))) 2) 3689348814741910323) + (bits .and .u64 (IntKind.u64.wrap ((bits .and .u64 (shrK .u64 x 1) 6148914691236517205) + (bits .and .u64 x 6148914691236517205))) 3689348814741910323))) 4) + (IntKind.u64.wrap ((bits .and .u64 (shrK .u64 (IntKind.u64.wrap ((bits .and .u64 (shrK .u64 x 1) 6148914691236517205) + (bits .and .u64 x 6148914691236517205))) 2) 3689348814741910323) + (bits .and .u64 (IntKind.u64.wrap ((bits .and .u64 (shrK .u64 x 1) 6148914691236517205) + (bits .and .u64 x 6148914691236517205))) 3689348814741910323))))) 1085102592571150095) 8))) + (shrK .u64 (IntKind.u64.wrap ((bits .and .u64 (IntKind.u64.wrap ((shrK .u64 (IntKind.u64.wrap ((bits .and .u64 (shrK .u64 (IntKind.u64.wrap ((bits .and .u64 (shrK .u64 x 1) 6148914691236517205) + (bits .and .u64 x 6148914691236517205))) 2) 3689348814741910323) + (bits .and .u64 (IntKind.u64.wrap ((bits .and .u64 (shrK .u64 x 1) 6148914691236517205) + (bits .and .u64 x 6148914691236517205))) 3689348814741910323))) 4) + (IntKind.u64.wrap ((bits .and .u64 (shrK .u64 (IntKind.u64.wrap ((bits .and .u64 (shrK .u64 x 1) 6148914691236517205) + (bits .and .u64 x 6148914691236517205))) 2) 3689348814741910323) + (bits .and .u64 (IntKind.u64.wrap ((bits .and .u64 (shrK .u64 x 1) 6148914691236517205) + (bits .and .u64 x 6148914691236517205))) 3689348814741910323))))) 1085102592571150095) + (shrK .u64 (bits .and .u64 (IntKind.u64.wrap ((shrK .u64 (IntKind.u64.wrap ((bits .and .u64 (shrK .u64 (IntKind.u64.wrap ((bits .and .u64 (shrK .u64 x 1) 6148914691236517205) + (bits .and .u64 x 6148914691236517205))) 2) 3689348814741910323) + (bits .and .u64 (IntKind.u64.wrap ((bits .and .u64 (shrK .u64 x 1) 6148914691236517205) + (bits .and .u64 x 6148914691236517205))) 3689348814741910323))) 4) + (IntKind.u64.wrap ((bits .and .u64 (shrK .u64 (IntKind.u64.wrap ((bits .and .u64 (shrK .u64 x 1) 6148914691236517205) + (bits .and .u64 x 6148914691236517205))) 2) 3689348814741910323) + (bits .and .u64 (IntKind.u64.wrap ((bits .and .u64 (shrK .u64 x 1) 6148914691236517205) + (bits .and .u64 x 6148914691236517205))) 3689348814741910323))))) 1085102592571150095) 8))) 16))) + (shrK .u64 (IntKind.u64.wrap ((IntKind.u64.wrap ((bits .and .u64 (IntKind.u64.wrap ((shrK .u64 (IntKind.u64.wrap ((bits .and .u64 (shrK .u64 (IntKind.u64.wrap ((bits .and .u64 (shrK .u64 x 1) 6148914691236517205) + (bits .and .u64 x 6148914691236517205))) 2) 3689348814741910323) + (bits .and .u64 (IntKind.u64.wrap ((bits .and .u64 (shrK .u64 x 1) 6148914691236517205) + (bits .and .u64 x 6148914691236517205))) 3689348814741910323))) 4) + (IntKind.u64.wrap ((bits .and .u64 (shrK .u64 (IntKind.u64.wrap ((bits .and .u64 (shrK .u64 x 1) 6148914691236517205) + (bits .and .u64 x 6148914691236517205))) 2) 3689348814741910323) + (bits .and .u64 (IntKind.u64.wrap ((bits .and .u64 (shrK .u64 x 1) 6148914691236517205) + (bits .and .u64 x 6148914691236517205))) 3689348814741910323))))) 1085102592571150095) + (shrK .u64 (bits .and .u64 (IntKind.u64.wrap ((shrK .u64 (IntKind.u64.wrap ((bits .and .u64 (shrK .u64 (IntKind.u64.wrap ((bits .and .u64 (shrK .u64 x 1) 6148914691236517205) + (bits .and .u64 x 6148914691236517205))) 2) 3689348814741910323) + (bits .and .u64 (IntKind.u64.wrap ((bits .and .u64 (shrK .u64 x 1) 6148914691236517205) + (bits .and .u64 x 6148914691236517205))) 3689348814741910323))) 4) + (IntKind.u64.wrap ((bits .and .u64 (shrK .u64 (IntKind.u64.wrap ((bits .and .u64 (shrK .u64 x 1) 6148914691236517205) + (bits .and .u64 x 6148914691236517205))) 2) 3689348814741910323) + (bits .and .u64 (IntKind.u64.wrap ((bits .and .u64 (shrK .u64 x 1) 6148914691236517205) + (bits .and .u64 x 6148914691236517205))) 3689348814741910323))))) 1085102592571150095) 8))) + (shrK .u64 (IntKind.u64.wrap ((bits .and .u64 (IntKind.u64.wrap ((shrK .u64 (IntKind.u64.wrap ((bits .and .u64 (shrK .u64 (IntKind.u64.wrap ((bits .and .u64 (shrK .u64 x 1) 6148914691236517205) + (bits .and .u64 x 6148914691236517205))) 2) 3689348814741910323) + (bits .and .u64 (IntKind.u64.wrap ((bits .and .u64 (shrK .u64 x 1) 6148914691236517205) + (bits .and .u64 x 6148914691236517205))) 3689348814741910323))) 4) + (IntKind.u64.wrap ((bits .and .u64 (shrK .u64 (IntKind.u64.wrap ((bits .and .u64 (shrK .u64 x 1) 6148914691236517205) + (bits .and .u64 x 6148914691236517205))) 2) 3689348814741910323) + (bits .and .u64 (IntKind.u64.wrap ((bits .and .u64 (shrK .u64 x 1) 6148914691236517205) + (bits .and .u64 x 6148914691236517205))) 3689348814741910323))))) 1085102592571150095) + (shrK .u64 (bits .and .u64 (IntKind.u64.wrap ((shrK .u64 (IntKind.u64.wrap ((bits .and .u64 (shrK .u64 (IntKind.u64.wrap ((bits .and .u64 (shrK .u64 x 1) 6148914691236517205) + (bits .and .u64 x 6148914691236517205))) 2) 3689348814741910323) + (bits .and .u64 (IntKind.u64.wrap ((bits .and .u64 (shrK .u64 x 1) 6148914691236517205) + (bits .and .u64 x 6148914691236517205))) 3689348814741910323))) 4) + (IntKind.u64.wrap ((bits .and .u64 (shrK .u64 (IntKind.u64.wrap ((bits .and .u64 (shrK .u64 x 1) 6148914691236517205) + (bits .and .u64 x 6148914691236517205))) 2) 3689348814741910323) + (bits .and .u64 (IntKind.u64.wrap ((bits .and .u64 (shrK .u64 x 1) 6148914691236517205) + (bits .and .u64 x 6148914691236517205))) 3689348814741910323))))) 1085102592571150095) 8))) 16))) 32)))) (T := 179) (T' := 3) k_us_179 K68 rfl rfl) <| sQ 34 (Y_band (k := .i64) (a := (i64.wrap (IntKind.u64.wrap ((IntKind.u64.wrap ((IntKind.u64.wrap ((bits .and .u64 (IntKind.u64.wrap ((shrK .u64 (IntKind.u64.wrap ((bits .and .u64 (shrK .u64 (IntKind.u64.wrap ((bits .and .u64 (shrK .u64 x 1) 6148914691236517205) + (bits .and .u64 x 6148914691236517205))) 2) 3689348814741910323) + (bits .and .u64 (IntKind.u64.wrap ((bits .and .u64 (shrK .u64 x 1) 6148914691236517205) + (bits .and .u64 x 6148914691236517205))) 3689348814741910323))) 4) + (IntKind.u64.wrap ((bits .and .u64 (shrK .u64 (IntKind.u64.wrap ((bits .and .u64 (shrK .u64 x 1) 6148914691236517205) + (bits .and .u64 x 6148914691236517205))) 2) 3689348814741910323) + (bits .and .u64 (IntKind.u64.wrap ((bits .and .u64 (shrK .u64 x 1) 6148914691236517205) + (bits .and .u64 x 6148914691236517205))) 3689348814741910323))))) 1085102592571150095) + (shrK .u64 (bits .and .u64 (IntKind.u64.wrap ((shrK .u64 (IntKind.u64.wrap ((bits .and .u64 (shrK .u64 (IntKind.u64.wrap ((bits .and .u64 (shrK .u64 x 1) 6148914691236517205) + (bits .and .u64 x 6148914691236517205))) 2) 3689348814741910323) + (bits .and .u64 (IntKind.u64.wrap ((bits .and .u64 (shrK .u64 x 1) 6148914691236517205) + (bits .and .u64 x 6148914691236517205))) 3689348814741910323))) 4) + (IntKind.u64.wrap ((bits .and .u64 (shrK .u64 (IntKind.u64.wrap ((bits .and .u64 (shrK .u64 x 1) 6148914691236517205) + (bits .and .u64 x 6148914691236517205))) 2) 3689348814741910323) + (bits .and .u64 (IntKind.u64.wrap ((bits .and .u64 (shrK .u64 x 1) 6148914691236517205) + (bits .and .u64 x 6148914691236517205))) 3689348814741910323))))) 1085102592571150095) 8))) + (shrK .u64 (IntKind.u64.wrap ((bits .and .u64 (IntKind.u64.wrap ((shrK .u64 (IntKind.u64.wrap ((bits .and .u64 (shrK .u64 (IntKind.u64.wrap ((bits .and .u64 (shrK .u64 x 1) 6148914691236517205) + (bits .and .u64 x 6148914691236517205))) 2) 3689348814741910323) + (bits .and .u64 (IntKind.u64.wrap ((bits .and .u64 (shrK .u64 x 1) 6148914691236517205) + (bits .and .u64 x 6148914691236517205))) 3689348814741910323))) 4) + (IntKind.u64.wrap ((bits .and .u64 (shrK .u64 (IntKind.u64.wrap ((bits .and .u64 (shrK .u64 x 1) 6148914691236517205) + (bits .and .u64 x 6148914691236517205))) 2) 3689348814741910323) + (bits .and .u64 (IntKind.u64.wrap ((bits .and .u64 (shrK .u64 x 1) 6148914691236517205) + (bits .and .u64 x 6148914691236517205))) 3689348814741910323))))) 1085102592571150095) + (shrK .u64 (bits .and .u64 (IntKind.u64.wrap ((shrK .u64 (IntKind.u64.wrap ((bits .and .u64 (shrK .u64 (IntKind.u64.wrap ((bits .and .u64 (shrK .u64 x 1) 6148914691236517205) + (bits .and .u64 x 6148914691236517205))) 2) 3689348814741910323) + (bits .and .u64 (IntKind.u64.wrap ((bits .and .u64 (shrK .u64 x 1) 6148914691236517205) + (bits .and .u64 x 6148914691236517205))) 3689348814741910323))) 4) + (IntKind.u64.wrap ((bits .and .u64 (shrK .u64 (IntKind.u64.wrap ((bits .and .u64 (shrK .u64 x 1) 6148914691236517205) + (bits .and .u64 x 6148914691236517205))) 2) 3689348814741910323) + (bits .and .u64 (IntKind.u64.wrap ((bits .and .u64 (shrK .u64 x 1) 6148914691236517205) + (bits .and .u64 x 6148914691236517205))) 3689348814741910323))))) 1085102592571150095) 8))) 16))) + (shrK .u64 (IntKind.u64.wrap ((IntKind.u64.wrap ((bits .and .u64 (IntKind.u64.wrap ((shrK .u64 (IntKind.u64.wrap ((bits .and .u64 (shrK .u64 (IntKind.u64.wrap ((bits .and .u64 (shrK .u64 x 1) 6148914691236517205) + (bits .and .u64 x 6148914691236517205))) 2) 3689348814741910323) + (bits .and .u64 (IntKind.u64.wrap ((bits .and .u64 (shrK .u64 x 1) 6148914691236517205) + (bits .and .u64 x 6148914691236517205))) 3689348814741910323))) 4) + (IntKind.u64.wrap ((bits .and .u64 (shrK .u64 (IntKind.u64.wrap ((bits .and .u64 (shrK .u64 x 1) 6148914691236517205) + (bits .and .u64 x 6148914691236517205))) 2) 3689348814741910323) + (bits .and .u64 (IntKind.u64.wrap ((bits .and .u64 (shrK .u64 x 1) 6148914691236517205) + (bits .and .u64 x 6148914691236517205))) 3689348814741910323))))) 1085102592571150095) + (shrK .u64 (bits .and .u64 (IntKind.u64.wrap ((shrK .u64 (IntKind.u64.wrap ((bits .and .u64 (shrK .u64 (IntKind.u64.wrap ((bits .and .u64 (shrK .u64 x 1) 6148914691236517205) + (bits .and .u64 x 6148914691236517205))) 2) 3689348814741910323) + (bits .and .u64 (IntKind.u64.wrap ((bits .and .u64 (shrK .u64 x 1) 6148914691236517205) + (bits .and .u64 x 6148914691236517205))) 3689348814741910323))) 4) + (IntKind.u64.wrap ((bits .and .u64 (shrK .u64 (IntKind.u64.wrap ((bits .and .u64 (shrK .u64 x 1) 6148914691236517205) + (bits .and .u64 x 6148914691236517205))) 2) 3689348814741910323) + (bits .and .u64 (IntKind.u64.wrap ((bits .and .u64 (shrK .u64 x 1) 6148914691236517205) + (bits .and .u64 x 6148914691236517205))) 3689348814741910323))))) 1085102592571150095) 8))) + (shrK .u64 (IntKind.u64.wrap ((bits .and .u64 (IntKind.u64.wrap ((shrK .u64 (IntKind.u64.wrap ((bits .and .u64 (shrK .u64 (IntKind.u64.wrap ((bits .and .u64 (shrK .u64 x 1) 6148914691236517205) + (bits .and .u64 x 6148914691236517205))) 2) 3689348814741910323) + (bits .and .u64 (IntKind.u64.wrap ((bits .and .u64 (shrK .u64 x 1) 6148914691236517205) + (bits .and .u64 x 6148914691236517205))) 3689348814741910323))) 4) + (IntKind.u64.wrap ((bits .and .u64 (shrK .u64 (IntKind.u64.wrap ((bits .and .u64 (shrK .u64 x 1) 6148914691236517205) + (bits .and .u64 x 6148914691236517205))) 2) 3689348814741910323) + (bits .and .u64 (IntKind.u64.wrap ((bits .and .u64 (shrK .u64 x 1) 6148914691236517205) + (bits .and .u64 x 6148914691236517205))) 3689348814741910323))))) 1085102592571150095) + (shrK .u64 (bits .and .u64 (IntKind.u64.wrap ((shrK .u64 (IntKind.u64.wrap ((bits .and .u64 (shrK .u64 (IntKind.u64.wrap ((bits .and .u64 (shrK .u64 x 1) 6148914691236517205) + (bits .and .u64 x 6148914691236517205))) 2) 3689348814741910323) + (bits .and .u64 (IntKind.u64.wrap ((bits .and .u64 (shrK .u64 x 1) 6148914691236517205) + (bits .and .u64 x 6148914691236517205))) 3689348814741910323))) 4) + (IntKind.u64.wrap ((bits .and .u64 (shrK .u64 (IntKind.u64.wrap ((bits .and .u64 (shrK .u64 x 1) 6148914691236517205) + (bits .and .u64 x 6148914691236517205))) 2) 3689348814741910323) + (bits .and .u64 (IntKind.u64.wrap ((bits .and .u64 (shrK .u64 x 1) 6148914691236517205) + (bits .and .u64 x 6148914691236517205))) 3689348814741910323))))) 1085102592571150095) 8))) 16))) 32))))) (b := 127) rfl rfl rfl) <| sQ 2 (yg (vi (bits .and .i64 (i64.wrap (IntKind.u64.wrap ((IntKind.u64.wrap ((IntKind.u64.wrap ((bits .and .u64 (IntKind.u64.wrap ((shrK .u64 (IntKind.u64.wrap ((bits .and .u64 (shrK .u64 (IntKind.u64.wrap ((bits .and .u64 (shrK .u64 x 1) 6148914691236517205) + (bits .and .u64 x 6148914691236517205))) 2) 3689348814741910323) + (bits .and .u64 (IntKind.u64.wrap ((bits .and .u64 (shrK .u64 x 1) 6148914691236517205) + (bits .and .u64 x 6148914691236517205))) 3689348814741910323))) 4) + (IntKind.u64.wrap ((bits .and .u64 (shrK .u64 (IntKind.u64.wrap ((bits .and .u64 (shrK .u64 x 1) 6148914691236517205) + (bits .and .u64 x 6148914691236517205))) 2) 3689348814741910323) + (bits .and .u64 (IntKind.u64.wrap ((bits .and .u64 (shrK .u64 x 1) 6148914691236517205) + (bits .and .u64 x 6148914691236517205))) 3689348814741910323))))) 1085102592571150095) + (shrK .u64 (bits .and .u64 (IntKind.u64.wrap ((shrK .u64 (IntKind.u64.wrap ((bits .and .u64 (shrK .u64 (IntKind.u64.wrap ((bits .and .u64 (shrK .u64 x 1) 6148914691236517205) + (bits .and .u64 x 6148914691236517205))) 2) 3689348814741910323) + (bits .and .u64 (IntKind.u64.wrap ((bits .and .u64 (shrK .u64 x 1) 6148914691236517205) + (bits .and .u64 x 6148914691236517205))) 3689348814741910323))) 4) + (IntKind.u64.wrap ((bits .and .u64 (shrK .u64 (IntKind.u64.wrap ((bits .and .u64 (shrK .u64 x 1) 6148914691236517205) + (bits .and .u64 x 6148914691236517205))) 2) 3689348814741910323) + (bits .and .u64 (IntKind.u64.wrap ((bits .and .u64 (shrK .u64 x 1) 6148914691236517205) + (bits .and .u64 x 6148914691236517205))) 3689348814741910323))))) 1085102592571150095) 8))) + (shrK .u64 (IntKind.u64.wrap ((bits .and .u64 (IntKind.u64.wrap ((shrK .u64 (IntKind.u64.wrap ((bits .and .u64 (shrK .u64 (IntKind.u64.wrap ((bits .and .u64 (shrK .u64 x 1) 6148914691236517205) + (bits .and .u64 x 6148914691236517205))) 2) 3689348814741910323) + (bits .and .u64 (IntKind.u64.wrap ((bits .and .u64 (shrK .u64 x 1) 6148914691236517205) + (bits .and .u64 x 6148914691236517205))) 3689348814741910323))) 4) + (IntKind.u64.wrap ((bits .and .u64 (shrK .u64 (IntKind.u64.wrap ((bits .and .u64 (shrK .u64 x 1) 6148914691236517205) + (bits .and .u64 x 6148914691236517205))) 2) 3689348814741910323) + (bits .and .u64 (IntKind.u64.wrap ((bits .and .u64 (shrK .u64 x 1) 6148914691236517205) + (bits .and .u64 x 6148914691236517205))) 3689348814741910323))))) 1085102592571150095) + (shrK .u64 (bits .and .u64 (IntKind.u64.wrap ((shrK .u64 (IntKind.u64.wrap ((bits .and .u64 (shrK .u64 (IntKind.u64.wrap ((bits .and .u64 (shrK .u64 x 1) 6148914691236517205) + (bits .and .u64 x 6148914691236517205))) 2) 3689348814741910323) + (bits .and .u64 (IntKind.u64.wrap ((bits .and .u64 (shrK .u64 x 1) 6148914691236517205) + (bits .and .u64 x 6148914691236517205))) 3689348814741910323))) 4) + (IntKind.u64.wrap ((bits .and .u64 (shrK .u64 (IntKind.u64.wrap ((bits .and .u64 (shrK .u64 x 1) 6148914691236517205) + (bits .and .u64 x 6148914691236517205))) 2) 3689348814741910323) + (bits .and .u64 (IntKind.u64.wrap ((bits .and .u64 (shrK .u64 x 1) 6148914691236517205) + (bits .and .u64 x 6148914691236517205))) 3689348814741910323))))) 1085102592571150095) 8))) 16))) + (shrK .u64 (IntKind.u64.wrap ((IntKind.u64.wrap ((bits .and .u64 (IntKind.u64.wrap ((shrK .u64 (IntKind.u64.wrap ((bits .and .u64 (shrK .u64 (IntKind.u64.wrap ((bits .and .u64 (shrK .u64 x 1) 6148914691236517205) + (bits .and .u64 x 6148914691236517205))) 2) 3689348814741910323) + (bits .and .u64 (IntKind.u64.wrap ((bits .and .u64 (shrK .u64 x 1) 6148914691236517205) + (bits .and .u64 x 6148914691236517205))) 3689348814741910323))) 4) + (IntKind.u64.wrap ((bits .and .u64 (shrK .u64 (IntKind.u64.wrap ((bits .and .u64 (shrK .u64 x 1) 6148914691236517205) + (bits .and .u64 x 6148914691236517205))) 2) 3689348814741910323) + (bits .and .u64 (IntKind.u64.wrap ((bits .and .u64 (shrK .u64 x 1) 6148914691236517205) + (bits .and .u64 x 6148914691236517205))) 3689348814741910323))))) 1085102592571150095) + (shrK .u64 (bits .and .u64 (IntKind.u64.wrap ((shrK .u64 (IntKind.u64.wrap ((bits .and .u64 (shrK .u64 (IntKind.u64.wrap ((bits .and .u64 (shrK .u64 x 1) 6148914691236517205) + (bits .and .u64 x 6148914691236517205))) 2) 3689348814741910323) + (bits .and .u64 (IntKind.u64.wrap ((bits .and .u64 (shrK .u64 x 1) 6148914691236517205) + (bits .and .u64 x 6148914691236517205))) 3689348814741910323))) 4) + (IntKind.u64.wrap ((bits .and .u64 (shrK .u64 (IntKind.u64.wrap ((bits .and .u64 (shrK .u64 x 1) 6148914691236517205) + (bits .and .u64 x 6148914691236517205))) 2) 3689348814741910323) + (bits .and .u64 (IntKind.u64.wrap ((bits .and .u64 (shrK .u64 x 1) 6148914691236517205) + (bits .and .u64 x 6148914691236517205))) 3689348814741910323))))) 1085102592571150095) 8))) + (shrK .u64 (IntKind.u64.wrap ((bits .and .u64 (IntKind.u64.wrap ((shrK .u64 (IntKind.u64.wrap ((bits .and .u64 (shrK .u64 (IntKind.u64.wrap ((bits .and .u64 (shrK .u64 x 1) 6148914691236517205) + (bits .and .u64 x 6148914691236517205))) 2) 3689348814741910323) + (bits .and .u64 (IntKind.u64.wrap ((bits .and .u64 (shrK .u64 x 1) 6148914691236517205) + (bits .and .u64 x 6148914691236517205))) 3689348814741910323))) 4) + (IntKind.u64.wrap ((bits .and .u64 (shrK .u64 (IntKind.u64.wrap ((bits .and .u64 (shrK .u64 x 1) 6148914691236517205) + (bits .and .u64 x 6148914691236517205))) 2) 3689348814741910323) + (bits .and .u64 (IntKind.u64.wrap ((bits .and .u64 (shrK .u64 x 1) 6148914691236517205) + (bits .and .u64 x 6148914691236517205))) 3689348814741910323))))) 1085102592571150095) + (shrK .u64 (bits .and .u64 (IntKind.u64.wrap ((shrK .u64 (IntKind.u64.wrap ((bits .and .u64 (shrK .u64 (IntKind.u64.wrap ((bits .and .u64 (shrK .u64 x 1) 6148914691236517205) + (bits .and .u64 x 6148914691236517205))) 2) 3689348814741910323) + (bits .and .u64 (IntKind.u64.wrap ((bits .and .u64 (shrK .u64 x 1) 6148914691236517205) + (bits .and .u64 x 6148914691236517205))) 3689348814741910323))) 4) + (IntKind.u64.wrap ((bits .and .u64 (shrK .u64 (IntKind.u64.wrap ((bits .and .u64 (shrK .u64 x 1) 6148914691236517205) + (bits .and .u64 x 6148914691236517205))) 2) 3689348814741910323) + (bits .and .u64 (IntKind.u64.wrap ((bits .and .u64 (shrK .u64 x 1) 6148914691236517205) + (bits .and .u64 x 6148914691236517205))) 3689348814741910323))))) 1085102592571150095) 8))) 16))) 32)))) 127))) (rn (ct_ ?_))
 obtain rfl := sI hF
 exact ret1 Try.results145 (v1 := vi (bits .and .i64 (i64.wrap (IntKind.u64.wrap ((IntKind.u64.wrap ((IntKind.u64.wrap ((bits .and .u64 (IntKind.u64.wrap ((shrK .u64 (IntKind.u64.wrap ((bits .and .u64 (shrK .u64 (IntKind.u64.wrap ((bits .and .u64 (shrK .u64 x 1) 6148914691236517205) + (bits .and .u64 x 6148914691236517205))) 2) 3689348814741910323) + (bits .and .u64 (IntKind.u64.wrap ((bits .and .u64 (shrK .u64 x 1) 6148914691236517205) + (bits .and .u64 x 6148914691236517205))) 3689348814741910323))) 4) + (IntKind.u64.wrap ((bits .and .u64 (shrK .u64 (IntKind.u64.wrap ((bits .and .u64 (shrK .u64 x 1) 6148914691236517205) + (bits .and .u64 x 6148914691236517205))) 2) 3689348814741910323) + (bits .and .u64 (IntKind.u64.wrap ((bits .and .u64 (shrK .u64 x 1) 6148914691236517205) + (bits .and .u64 x 6148914691236517205))) 3689348814741910323))))) 1085102592571150095) + (shrK .u64 (bits .and .u64 (IntKind.u64.wrap ((shrK .u64 (IntKind.u64.wrap ((bits .and .u64 (shrK .u64 (IntKind.u64.wrap ((bits .and .u64 (shrK .u64 x 1) 6148914691236517205) + (bits .and .u64 x 6148914691236517205))) 2) 3689348814741910323) + (bits .and .u64 (IntKind.u64.wrap ((bits .and .u64 (shrK .u64 x 1) 6148914691236517205) + (bits .and .u64 x 6148914691236517205))) 3689348814741910323))) 4) + (IntKind.u64.wrap ((bits .and .u64 (shrK .u64 (IntKind.u64.wrap ((bits .and .u64 (shrK .u64 x 1) 6148914691236517205) + (bits .and .u64 x 6148914691236517205))) 2) 3689348814741910323) + (bits .and .u64 (IntKind.u64.wrap ((bits .and .u64 (shrK .u64 x 1) 6148914691236517205) + (bits .and .u64 x 6148914691236517205))) 3689348814741910323))))) 1085102592571150095) 8))) + (shrK .u64 (IntKind.u64.wrap ((bits .and .u64 (IntKind.u64.wrap ((shrK .u64 (IntKind.u64.wrap ((bits .and .u64 (shrK .u64 (IntKind.u64.wrap ((bits .and .u64 (shrK .u64 x 1) 6148914691236517205) + (bits .and .u64 x 6148914691236517205))) 2) 3689348814741910323) + (bits .and .u64 (IntKind.u64.wrap ((bits .and .u64 (shrK .u64 x 1) 6148914691236517205) + (bits .and .u64 x 6148914691236517205))) 3689348814741910323))) 4) + (IntKind.u64.wrap ((bits .and .u64 (shrK .u64 (IntKind.u64.wrap ((bits .and .u64 (shrK .u64 x 1) 6148914691236517205) + (bits .and .u64 x 6148914691236517205))) 2) 3689348814741910323) + (bits .and .u64 (IntKind.u64.wrap ((bits .and .u64 (shrK .u64 x 1) 6148914691236517205) + (bits .and .u64 x 6148914691236517205))) 3689348814741910323))))) 1085102592571150095) + (shrK .u64 (bits .and .u64 (IntKind.u64.wrap ((shrK .u64 (IntKind.u64.wrap ((bits .and .u64 (shrK .u64 (IntKind.u64.wrap ((bits .and .u64 (shrK .u64 x 1) 6148914691236517205) + (bits .and .u64 x 6148914691236517205))) 2) 3689348814741910323) + (bits .and .u64 (IntKind.u64.wrap ((bits .and .u64 (shrK .u64 x 1) 6148914691236517205) + (bits .and .u64 x 6148914691236517205))) 3689348814741910323))) 4) + (IntKind.u64.wrap ((bits .and .u64 (shrK .u64 (IntKind.u64.wrap ((bits .and .u64 (shrK .u64 x 1) 6148914691236517205) + (bits .and .u64 x 6148914691236517205))) 2) 3689348814741910323) + (bits .and .u64 (IntKind.u64.wrap ((bits .and .u64 (shrK .u64 x 1) 6148914691236517205) + (bits .and .u64 x 6148914691236517205))) 3689348814741910323))))) 1085102592571150095) 8))) 16))) + (shrK .u64 (IntKind.u64.wrap ((IntKind.u64.wrap ((bits .and .u64 (IntKind.u64.wrap ((shrK .u64 (IntKind.u64.wrap ((bits .and .u64 (shrK .u64 (IntKind.u64.wrap ((bits .and .u64 (shrK .u64 x 1) 6148914691236517205) + (bits .and .u64 x 6148914691236517205))) 2) 3689348814741910323) + (bits .and .u64 (IntKind.u64.wrap ((bits .and .u64 (shrK .u64 x 1) 6148914691236517205) + (bits .and .u64 x 6148914691236517205))) 3689348814741910323))) 4) + (IntKind.u64.wrap ((bits .and .u64 (shrK .u64 (IntKind.u64.wrap ((bits .and .u64 (shrK .u64 x 1) 6148914691236517205) + (bits .and .u64 x 6148914691236517205))) 2) 3689348814741910323) + (bits .and .u64 (IntKind.u64.wrap ((bits .and .u64 (shrK .u64 x 1) 6148914691236517205) + (bits .and .u64 x 6148914691236517205))) 3689348814741910323))))) 1085102592571150095) + (shrK .u64 (bits .and .u64 (IntKind.u64.wrap ((shrK .u64 (IntKind.u64.wrap ((bits .and .u64 (shrK .u64 (IntKind.u64.wrap ((bits .and .u64 (shrK .u64 x 1) 6148914691236517205) + (bits .and .u64 x 6148914691236517205))) 2) 3689348814741910323) + (bits .and .u64 (IntKind.u64.wrap ((bits .and .u64 (shrK .u64 x 1) 6148914691236517205) + (bits .and .u64 x 6148914691236517205))) 3689348814741910323))) 4) + (IntKind.u64.wrap ((bits .and .u64 (shrK .u64 (IntKind.u64.wrap ((bits .and .u64 (shrK .u64 x 1) 6148914691236517205) + (bits .and .u64 x 6148914691236517205))) 2) 3689348814741910323) + (bits .and .u64 (IntKind.u64.wrap ((bits .and .u64 (shrK .u64 x 1) 6148914691236517205) + (bits .and .u64 x 6148914691236517205))) 3689348814741910323))))) 1085102592571150095) 8))) + (shrK .u64 (IntKind.u64.wrap ((bits .and .u64 (IntKind.u64.wrap ((shrK .u64 (IntKind.u64.wrap ((bits .and .u64 (shrK .u64 (IntKind.u64.wrap ((bits .and .u64 (shrK .u64 x 1) 6148914691236517205) + (bits .and .u64 x 6148914691236517205))) 2) 3689348814741910323) + (bits .and .u64 (IntKind.u64.wrap ((bits .and .u64 (shrK .u64 x 1) 6148914691236517205) + (bits .and .u64 x 6148914691236517205))) 3689348814741910323))) 4) + (IntKind.u64.wrap ((bits .and .u64 (shrK .u64 (IntKind.u64.wrap ((bits .and .u64 (shrK .u64 x 1) 6148914691236517205) + (bits .and .u64 x 6148914691236517205))) 2) 3689348814741910323) + (bits .and .u64 (IntKind.u64.wrap ((bits .and .u64 (shrK .u64 x 1) 6148914691236517205) + (bits .and .u64 x 6148914691236517205))) 3689348814741910323))))) 1085102592571150095) + (shrK .u64 (bits .and .u64 (IntKind.u64.wrap ((shrK .u64 (IntKind.u64.wrap ((bits .and .u64 (shrK .u64 (IntKind.u64.wrap ((bits .and .u64 (shrK .u64 x 1) 6148914691236517205) + (bits .and .u64 x 6148914691236517205))) 2) 3689348814741910323) + (bits .and .u64 (IntKind.u64.wrap ((bits .and .u64 (shrK .u64 x 1) 6148914691236517205) + (bits .and .u64 x 6148914691236517205))) 3689348814741910323))) 4) + (IntKind.u64.wrap ((bits .and .u64 (shrK .u64 (IntKind.u64.wrap ((bits .and .u64 (shrK .u64 x 1) 6148914691236517205) + (bits .and .u64 x 6148914691236517205))) 2) 3689348814741910323) + (bits .and .u64 (IntKind.u64.wrap ((bits .and .u64 (shrK .u64 x 1) 6148914691236517205) + (bits .and .u64 x 6148914691236517205))) 3689348814741910323))))) 1085102592571150095) 8))) 16))) 32)))) 127)) (resAt_tmp rfl) ⟨rfl, (hS.sN [])⟩

theorem c_math_bits_OnesCount (x : Int)  (w0 : World)  (hS : ST w0 [] w0 [] []) {r_ : Int} (hF : F_math_bits_OnesCount x = some r_) :
  CV Try.prog 129 #[.int .u64 x] w0 (fun v w' => v = vi r_ ∧ ST w0 [] w' [] []) := by
 unfold F_math_bits_OnesCount at hF
 refine cv_of_cw 8 Try.func129 rfl Try.ntmps129 rfl ?_
 refine cq (cr ?_)
 refine sQ 2 (yg (vi 0)) (rn (cq ?_))
 refine cw_cond (b := false) rfl (fun h => by cases h) (fun _ => ?_)
 refine cw_skip (cq (cr ?_))
 refine sQ 6 (ym (.int .u64 x)) ?_
 obtain ⟨r_1, hc, hF⟩ := bI hF
 refine sc 7 rfl rfl (yC [.int .u64 x] k_call_145 (c_math_bits_OnesCount64 x _  (hS.inn0 [] rfl) hc)) ?_
 rintro _ w_ ⟨rfl, hd⟩
 have hS1 := hS.out00 hd
 refine sQ 2 (yg (vi r_1)) (rn (ct_ ?_))
 obtain rfl := sI hF
 exact ret1 Try.results129 (v1 := vi r_1) (resAt_tmp rfl) ⟨rfl, (hS1.sN [])⟩

theorem c_impl_commute (a : TPauli) (b : TPauli)  (w0 : World)  (hS : ST w0 [] w0 [] []) {r_ : Bool} (hF : F_impl_commute a b = some r_) :
  CV Try.prog 78 #[.agg #[vi a.Phase, vi a.X, vi a.Z], .agg #[vi b.Phase, vi b.X, vi b.Z]] w0 (fun v w' => v = .bool r_ ∧ ST w0 [] w' [] []) := by
 unfold F_impl_commute at hF
 refine cv_of_cw 22 Try.func78 rfl Try.ntmps78 rfl ?_
 refine cq (cr ?_)
 refine sS 2 (yB 111 (.agg #[vi a.Phase, vi a.X, vi a.Z]) [vi a.Phase, vi a.X, vi a.Z] 3 hS) ?_
 rintro _ w_ ⟨b1, rfl, hS1⟩
 refine sS 3 (yB 111 (.agg #[vi b.Phase, vi b.X, vi b.Z]) [vi b.Phase, vi b.X, vi b.Z] 3 hS1) ?_
 rintro _ w_1 ⟨b2, rfl, hS2⟩
 refine sQ 4 (yg (.bool false)) (rn (cq ?_))
 obtain ⟨r_1, hc, hF⟩ := bI hF
 obtain ⟨r_2, hc1, hF⟩ := bI hF
 refine ra_start (hS2.se [0, 1]).fn (by kernel_rfl) ?_
 have hS5 := hS2.drew
 refine rq 0 5 (v := pt (aD b1) 1) rfl (hS5.se [0, 1]) (fun w' hw' => (yd (aD b1) 0 0 K28 K3)) ?_
 refine rq 1 6 (v := vi a.X) rfl (hS5.se [0, 1]) (fun w' hw' => (yl (aD b1) 1 [vi a.Phase, vi a.X, vi a.Z] (vi a.X) K4 (ST.cf hw' (i := 0) rfl))) ?_
 refine rq 2 7 (v := pt (aD b2) 2) rfl (hS5.se [0, 1]) (fun w' hw' => (yd (aD b2) 0 0 K29 K3)) ?_
 refine rq 3 8 (v := vi b.Z) rfl (hS5.se [0, 1]) (fun w' hw' => (yl (aD b2) 2 [vi b.Phase, vi b.X, vi b.Z] (vi b.Z) K4 (ST.cf hw' (i := 1) rfl))) ?_
 refine rq 4 9 (v := vi (bits .and .i64 a.X b.Z)) rfl (hS5.se [0, 1]) (fun w' hw' => (Y_band (k := .i64) (a := a.X) (b := b.Z) rfl rfl rfl)) ?_
 refine rq 5 10 (v := .int .u64 (IntKind.u64.wrap (bits .and .i64 a.X b.Z))) rfl (hS5.se [0, 1]) (fun w' hw' => (Y_conv (k := .i64) (a := (bits .and .i64 a.X b.Z)) (T := 3) (T' := 92) K35 K36 rfl rfl)) ?_
 refine rq 7 12 (v := pt (aD b1) 2) rfl (hS5.se [0, 1]) (fun w' hw' => (yd (aD b1) 0 0 K29 K3)) ?_
 refine rq 8 13 (v := vi a.Z) rfl (hS5.se [0, 1]) (fun w' hw' => (yl (aD b1) 2 [vi a.Phase, vi a.X, vi a.Z] (vi a.Z) K4 (ST.cf hw' (i := 0) rfl))) ?_
 refine rq 9 14 (v := pt (aD b2) 1) rfl (hS5.se [0, 1]) (fun w' hw' => (yd (aD b2) 0 0 K28 K3)) ?_
 refine rq 10 15 (v := vi b.X) rfl (hS5.se [0, 1]) (fun w' hw' => (yl (aD b2) 1 [vi b.Phase, vi b.X, vi b.Z] (vi b.X) K4 (ST.cf hw' (i := 1) rfl))) ?_
 refine rq 11 16 (v := vi (bits .and .i64 a.Z b.X)) rfl (hS5.se [0, 1]) (fun w' hw' => (Y_band (k := .i64) (a := a.Z) (b := b.X) rfl rfl rfl)) ?_
 refine rq 12 17 (v := .int .u64 (IntKind.u64.wrap (bits .and .i64 a.Z b.X))) rfl (hS5.se [0, 1]) (fun w' hw' => (Y_conv (k := .i64) (a := (bits .and .i64 a.Z b.X)) (T := 3) (T' := 92) K35 K36 rfl rfl)) ?_
 refine rA [6] ?_
 refine rC 11 6 rfl (yC [.int .u64 (IntKind.u64.wrap (bits .and .i64 a.X b.Z))] K51 (c_math_bits_OnesCount (IntKind.u64.wrap (bits .and .i64 a.X b.Z)) _  (hS5.inn0 [] rfl) hc)) ?_ ?_
 ·rintro _ w_2 ⟨rfl, hd⟩
  have hS6 := hS5.out00 hd
  refine ⟨(hS6.se [0, 1]), ?_⟩
  refine rA [13] ?_
  refine rC 18 13 rfl (yC [.int .u64 (IntKind.u64.wrap (bits .and .i64 a.Z b.X))] K51 (c_math_bits_OnesCount (IntKind.u64.wrap (bits .and .i64 a.Z b.X)) _  (hS6.inn0 [] rfl) hc1)) ?_ ?_
  ·rintro _ w_3 ⟨rfl, hd1⟩
   have hS7 := hS6.out00 hd1
   refine ⟨(hS7.se [0, 1]), ?_⟩
   refine rq 14 19 (v := vi (i64.wrap (r_1 + r_2))) rfl (hS7.se [0, 1]) (fun w' hw' => (yP r_1 r_2)) ?_
   refine rq 15 20 (v := vi (Int.tmod (i64.wrap (r_1 + r_2)) 2)) rfl (hS7.se [0, 1]) (fun w' hw' => (Y_rem (k := .i64) (a := (i64.wrap (r_1 + r_2))) (b := 2) rfl rfl rfl (by decide))) ?_
   refine rq 16 21 (v := .bool ((Int.tmod (i64.wrap (r_1 + r_2)) 2) == 0)) rfl (hS7.se [0, 1]) (fun w' hw' => (yE (Int.tmod (i64.wrap (r_1 + r_2)) 2) 0)) ?_
   refine rq 17 4 (v := .bool ((Int.tmod (i64.wrap (r_1 + r_2)) 2) == 0)) rfl (hS7.se [0, 1]) (fun w' hw' => (yg (.bool ((Int.tmod (i64.wrap (r_1 + r_2)) 2) == 0)))) ?_
   refine ra_done (by kernel_rfl) ?_
   refine ct_ ?_
   obtain rfl := sI hF
   exact ret1 Try.results78 (v1 := .bool ((Int.tmod (i64.wrap (r_1 + r_2)) 2) == 0)) (resAt_tmp rfl) ⟨rfl, (hS7.sN [])⟩
  exact aN
 exact aN

theorem c_impl_IsValidTableau (t : TTableau) (B : Option Addr) (c n : Nat) (B1 : Option Addr) (c1 n1 : Nat) (w0 : World) (hn : t.XImages.length = n) (hn1 : t.ZImages.length = n1) (hS : ST w0 [] w0 [] [⟨B, (t.XImages.flatMap eN0)⟩, ⟨B1, (t.ZImages.flatMap eN0)⟩]) {r_ : Bool} (hF : F_impl_IsValidTableau t = some r_) :
  CV Try.prog 34 #[.agg #[vi t.Qubits, .slice B n c, .slice B1 n1 c1]] w0 (fun v w' => v = .bool r_ ∧ ST w0 [] w' [] []) := by
 subst hn
 subst hn1
 unfold F_impl_IsValidTableau at hF
 refine cv_of_cw 61 Try.func34 rfl Try.ntmps34 rfl ?_
 refine cq (cr ?_)
 refine sS 1 (yB 33 (.agg #[vi t.Qubits, .slice B t.XImages.length c, .slice B1 t.ZImages.length c1]) [vi t.Qubits, .slice B t.XImages.length c, .slice B1 t.ZImages.length c1] 3 hS) ?_
 rintro _ w_ ⟨b, rfl, hS1⟩
 refine sQ 2 (yg (.bool false)) (rn (cq (cr ?_)))
 refine sQ 7 (yd (aD b) 0 0 K22 K3) <| sQ 8 (yl (aD b) 0 [vi t.Qubits, .slice B t.XImages.length c, .slice B1 t.ZImages.length c1] (vi t.Qubits) K4 (hS1.c 0)) ?_
 refine sS 3 (yN [vi 0] 1 hS1 k_zero_3) ?_
 rintro _ w_1 ⟨b1, rfl, hS2⟩
 refine s0 (yT 1 1 (aD b1) 3 (vi t.Qubits) [vi t.Qubits] 0 hS2 K3) ?_
 rintro _ w_2 ⟨rfl, hS3⟩
 refine rn (cq (cq (cr ?_)))
 refine sQ 9 (yl (aD b1) 0 [vi t.Qubits] (vi t.Qubits) K4 (hS3.c 1)) ?_
 obtain ⟨r_1, hc, hF⟩ := bI hF
 refine sc 10 rfl rfl (yC [vi t.Qubits, vi 1, vi 5] K46 (c_impl_within t.Qubits 1 5 _  (hS3.inn0 [] rfl) hc)) ?_
 rintro _ w_3 ⟨rfl, hd⟩
 have hS4 := hS3.out00 hd
 refine sQ 11 (Y_not (p := r_1) rfl rfl) <| sQ 12 (ym (.bool (!r_1))) ?_
 refine sgq 13 (B := (!(!r_1))) (v := pt (aD b) 1) rfl rfl (uF_ 12) (fun hg => (yd (aD b) 0 0 K9 K1)) ?_
 refine sgq 14 (B := (!(!r_1))) (v := .slice B t.XImages.length c) rfl rfl (uF_ 12) (fun hg1 => (yl (aD b) 1 [vi t.Qubits, .slice B t.XImages.length c, .slice B1 t.ZImages.length c1] (.slice B t.XImages.length c) K7 (hS4.c 0) rfl (gv_of (v := pt (aD b) 1) hg1))) ?_
 refine sgq 15 (B := (!(!r_1))) (v := vi (t.XImages.length : Int)) rfl rfl (uF_ 12) (fun hg2 => (Y_len (B := B) (m := t.XImages.length) (c := c) K2 rfl (gv_of (v := .slice B t.XImages.length c) hg2))) ?_
 refine sgq 16 (B := (!(!r_1))) (v := vi t.Qubits) rfl rfl (uF_ 12) (fun hg3 => (yl (aD b1) 0 [vi t.Qubits] (vi t.Qubits) K4 (hS4.c 1))) ?_
 refine sgq 17 (B := (!(!r_1))) (v := .bool ((t.XImages.length : Int) != t.Qubits)) rfl rfl (uF_ 12) (fun hg4 => (Y_ne (k := .i64) (a := (t.XImages.length : Int)) (b := t.Qubits) rfl (gv_of (v := vi (t.XImages.length : Int)) hg4) (gv_of (v := vi t.Qubits) hg4))) ?_
 refine sQ 18 (Y_or (b := (!r_1)) (z := ((t.XImages.length : Int) != t.Qubits)) rfl rfl rfl rfl) <| sQ 19 (ym (.bool ((!r_1) || ((t.XImages.length : Int) != t.Qubits)))) ?_
 refine sgq 20 (B := (!((!r_1) || ((t.XImages.length : Int) != t.Qubits)))) (v := pt (aD b) 2) rfl rfl (uF_ 19) (fun hg5 => (yd (aD b) 0 0 K10 K1)) ?_
 refine sgq 21 (B := (!((!r_1) || ((t.XImages.length : Int) != t.Qubits)))) (v := .slice B1 t.ZImages.length c1) rfl rfl (uF_ 19) (fun hg6 => (yl (aD b) 2 [vi t.Qubits, .slice B t.XImages.length c, .slice B1 t.ZImages.length c1] (.slice B1 t.ZImages.length c1) K7 (hS4.c 0) rfl (gv_of (v := pt (aD b) 2) hg6))) ?_
 refine sgq 22 (B := (!((!r_1) || ((t.XImages.length : Int) != t.Qubits)))) (v := vi (t.ZImages.length : Int)) rfl rfl (uF_ 19) (fun hg7 => (Y_len (B := B1) (m := t.ZImages.length) (c := c1) K2 rfl (gv_of (v := .slice B1 t.ZImages.length c1) hg7))) ?_
 refine sgq 23 (B := (!((!r_1) || ((t.XImages.length : Int) != t.Qubits)))) (v := vi t.Qubits) rfl rfl (uF_ 19) (fun hg8 => (yl (aD b1) 0 [vi t.Qubits] (vi t.Qubits) K4 (hS4.c 1))) ?_
 refine sgq 24 (B := (!((!r_1) || ((t.XImages.length : Int) != t.Qubits)))) (v := .bool ((t.ZImages.length : Int) != t.Qubits)) rfl rfl (uF_ 19) (fun hg9 => (Y_ne (k := .i64) (a := (t.ZImages.length : Int)) (b := t.Qubits) rfl (gv_of (v := vi (t.ZImages.length : Int)) hg9) (gv_of (v := vi t.Qubits) hg9))) ?_
 refine sQ 25 (Y_or (b := ((!r_1) || ((t.XImages.length : Int) != t.Qubits))) (z := ((t.ZImages.length : Int) != t.Qubits)) rfl rfl rfl rfl) (rn ?_)
 refine cw_cond (b := (((!r_1) || ((t.XImages.length : Int) != t.Qubits)) || ((t.ZImages.length : Int) != t.Qubits))) rfl (fun hb => ?_) (fun hb => ?_)
 ·skip
  have hF1 := ct hF hb
  refine cq (cr ?_)
  refine sQ 2 (yg (.bool false)) (rn (ct_ ?_))
  obtain rfl := sI hF1
  exact ret1 Try.results34 (v1 := .bool false) (resAt_tmp rfl) ⟨rfl, (hS4.sN [])⟩
 ·skip
  have hF2 := cf' hF hb
  refine cw_skip (cq (cr ?_))
  refine sQ 26 (yd (aD b) 0 0 K9 K1) <| sQ 27 (yl (aD b) 1 [vi t.Qubits, .slice B t.XImages.length c, .slice B1 t.ZImages.length c1] (.slice B t.XImages.length c) K7 (hS4.c 0)) <| sQ 28 (yd (aD b) 0 0 K10 K1) <| sQ 29 (yl (aD b) 2 [vi t.Qubits, .slice B t.XImages.length c, .slice B1 t.ZImages.length c1] (.slice B1 t.ZImages.length c1) K7 (hS4.c 0)) ?_
  refine sS 30 (Ys_bslice (s := 1) (len := 2) (vs := [(0, .slice B t.XImages.length c), (1, .slice B1 t.ZImages.length c1)]) (cs := [.slice B t.XImages.length c, .slice B1 t.ZImages.length c1]) (zs := [.slice none 0 0, .slice none 0 0]) (m := 2) hS4 K59 K1 k_zc_31 rfl (mpc rfl (mpc rfl mpn)) rfl rfl rfl (by kernel_rfl) (by kernel_rfl) rfl) ?_
  rintro _ w_4 ⟨b2, rfl, hS5⟩
  have hm : ∀ r ∈ (([((B, c), t.XImages), ((B1, c1), t.ZImages)] : List (Hd × (List TPauli))).flatMap rowD_SPauli), r ∈ ([⟨B, (t.XImages.flatMap eN0)⟩, ⟨B1, (t.ZImages.flatMap eN0)⟩] : List Ro) := (fsub_cons (sk 0 (fun _ h => by cases h)) (fsub_cons (sk 1 (fun _ h => by cases h)) fsub_nil))
  have ho : Org w0 [] [⟨B, (t.XImages.flatMap eN0)⟩, ⟨B1, (t.ZImages.flatMap eN0)⟩] (([((B, c), t.XImages), ((B1, c1), t.ZImages)] : List (Hd × (List TPauli))).flatMap rowD_SPauli) := (forg_cons (org_cons (org_mem (i := 0) rfl) org_nil) (forg_cons (org_cons (org_mem (i := 1) rfl) org_nil) forg_nil))
  have hS6 : ST w0 [] _ [⟨aD b, 33, [vi t.Qubits, .slice B t.XImages.length c, .slice B1 t.ZImages.length c1], 3⟩, ⟨aD b1, 3, [vi t.Qubits], 1⟩, ⟨aD b2, 31, (([((B, c), t.XImages), ((B1, c1), t.ZImages)] : List (Hd × (List TPauli))).flatMap encD_SPauli), 2 * 1⟩] (⟨B, (t.XImages.flatMap eN0)⟩ :: ⟨B1, (t.ZImages.flatMap eN0)⟩ :: ((([((B, c), t.XImages), ((B1, c1), t.ZImages)] : List (Hd × (List TPauli))).flatMap rowD_SPauli) ++ [])) := ST.subR hS5 (sk 0 (sk 1 (suba hm (fun _ h => by cases h))))
  obtain ⟨r_2, hc1, hF2⟩ := bI hF2
  refine sc 31 rfl rfl (yC [.slice (aD b2) 2 2] k_call_74 (c_slices_Concat_impl_Pauli_impl_Pauli ([t.XImages, t.ZImages] : List (List TPauli)) (aD b2) 2 2 ([((B, c), t.XImages), ((B1, c1), t.ZImages)] : List (Hd × (List TPauli))) _ (dl_fl (show List.map Prod.snd ([((B, c), t.XImages), ((B1, c1), t.ZImages)] : List (Hd × (List TPauli))) = ([t.XImages, t.ZImages] : List (List TPauli)) from rfl) rfl) (show List.map Prod.snd ([((B, c), t.XImages), ((B1, c1), t.ZImages)] : List (Hd × (List TPauli))) = ([t.XImages, t.ZImages] : List (List TPauli)) from rfl) (hS6.innR0 (srcO (i := 2) rfl (srcG (fun r_ (h : r_ ∈ ((([((B, c), t.XImages), ((B1, c1), t.ZImages)] : List (Hd × (List TPauli))).flatMap rowD_SPauli) : List Ro)) => mOd (i := 2) (show r_ ∈ ((((([((B, c), t.XImages), ((B1, c1), t.ZImages)] : List (Hd × (List TPauli))).flatMap rowD_SPauli) ++ [])) : List Ro) from mAl _ h)) (fun _ h => by cases h)))) hc1)) ?_
  rintro _ w_5 ⟨B2, c2, rfl, hd1⟩
  have hS7 := hS6.out0 hd1
  refine sQ 4 (yg (.slice B2 r_2.length c2)) (rn (cq (cq (cr ?_))))
  refine sQ 32 (ym (.slice B2 r_2.length c2)) <| sQ 33 (Y_makeFunc (cs := [pt (aD b1) 0]) rfl rfl (mc rfl mn)) ?_
  obtain ⟨r_3, hc2, hF2⟩ := bI hF2
  refine sc 34 rfl rfl (yC [.slice B2 r_2.length c2, .func (.func 76) #[] #[pt (aD b1) 0]] k_call_75 (c_slices_ContainsFunc_impl_Pauli_impl_Pauli r_2 (fun x_0 => F_impl_IsValidTableau_1 x_0 t.Qubits) B2 c2 r_2.length 76 (#[pt (aD b1) 0]) [⟨aD b1, [vi t.Qubits]⟩] _ rfl k_call_76 (fun w hw x_0 y_0 h_ => c_impl_IsValidTableau_1 x_0 t.Qubits (aD b1) w  hw h_) (hS7.inn0 [(false, 3), (false, 1)] rfl) hc2)) ?_
  rintro _ w_6 ⟨rfl, hd2⟩
  have hS8 := hS7.out00 hd2
  refine rn ?_
  refine cw_cond (b := r_3) rfl (fun hb1 => ?_) (fun hb1 => ?_)
  ·skip
   have hF3 := ct hF2 hb1
   refine cq (cr ?_)
   refine sQ 2 (yg (.bool false)) (rn (ct_ ?_))
   obtain rfl := sI hF3
   exact ret1 Try.results34 (v1 := .bool false) (resAt_tmp rfl) ⟨rfl, (hS8.sN [])⟩
  ·skip
   have hF4 := cf' hF2 hb1
   refine cw_skip (cq (cq (cr ?_)))
   refine sQ 35 (ym (.slice B2 r_2.length c2)) <| sQ 36 (Y_len (B := B2) (m := r_2.length) (c := c2) K2 rfl rfl) <| sQ 37 (ym (vi 0)) (rn ?_)
   obtain ⟨hN, hF4⟩ := chk_inv hF4
   obtain ⟨z, hz, hF5⟩ := bI hF4
   have hS10 : ST w0 [] _ [⟨aD b, 33, [vi t.Qubits, .slice B t.XImages.length c, .slice B1 t.ZImages.length c1], 3⟩, ⟨aD b1, 3, [vi t.Qubits], 1⟩, ⟨aD b2, 31, (([((B, c), t.XImages), ((B1, c1), t.ZImages)] : List (Hd × (List TPauli))).flatMap encD_SPauli), 2 * 1⟩, ⟨B2, 111, (r_2.flatMap eN0), c2 * 3⟩] [⟨B, (t.XImages.flatMap eN0)⟩, ⟨B1, (t.ZImages.flatMap eN0)⟩] := ST.subR hS8 (sk 0 (sk 1 (fun _ h => by cases h)))
   refine cw_block ?_
   refine cw_loop (fun k f w => ∃ (i : Nat), FF f [(3, pt (aD b1) 0), (4, .slice B2 r_2.length c2), (36, vi (r_2.length : Int)), (37, vi (i : Int))] ∧ ST w0 [] w [⟨aD b1, 3, [vi t.Qubits], 1⟩, ⟨B2, 111, (r_2.flatMap eN0), c2 * 3⟩] [⟨B, (t.XImages.flatMap eN0)⟩, ⟨B1, (t.ZImages.flatMap eN0)⟩] ∧ i + k = r_2.length ∧ forX (F_impl_IsValidTableau_l1 r_2 t) k i () = some z) r_2.length ⟨0, (fc rfl (fc rfl (fc rfl (fc rfl fn_)))), (hS10.sel [1, 3] rfl rfl), Nat.zero_add _, hz⟩ ?_
   rintro k_ f w ⟨i, hf, hS9, hik, hL⟩
   refine cq (cr ?_)
   refine sQ 38 (yL (i : Int) (r_2.length : Int) rfl (hf.g 37 3) (hf.g 36 2)) (rn (cq ?_))
   refine cw_cond (b := (decide ((i : Int) < (r_2.length : Int)))) rfl (fun hlt => ?_) (fun hlt => ?_)
   ·skip
    have hlt1 : i < r_2.length := by have h := of_decide_eq_true hlt; omega
    obtain ⟨K5, rfl⟩ : ∃ k2, k_ = k2 + 1 := ⟨k_ - 1, by omega⟩
    obtain ⟨y, hb2, hL1⟩ := forX_go hL
    unfold F_impl_IsValidTableau_l1 at hb2
    refine cw_skip (cq (cw_block (cq (cr ?_))))
    refine sQ 39 (ym (vi (i : Int)) rfl (hf.g 37 3)) <| sQ 5 (yg (vi (i : Int))) (rn (cq (cr ?_)))
    refine sQ 40 (ym (vi (i : Int))) <| sQ 41 (ym (vi 0)) (rn ?_)
    obtain ⟨hN1, hb2⟩ := chk_inv hb2
    obtain ⟨z1, hz1, hF6⟩ := bI hb2
    refine cw_block ?_
    refine cw_loop (fun k f w => ∃ (i1 : Nat), FF f [(3, pt (aD b1) 0), (4, .slice B2 r_2.length c2), (5, vi (i : Int)), (36, vi (r_2.length : Int)), (37, vi (i : Int)), (40, vi (i : Int)), (41, vi (i1 : Int))] ∧ ST w0 [] w [⟨aD b1, 3, [vi t.Qubits], 1⟩, ⟨B2, 111, (r_2.flatMap eN0), c2 * 3⟩] [⟨B, (t.XImages.flatMap eN0)⟩, ⟨B1, (t.ZImages.flatMap eN0)⟩] ∧ i1 + k = i ∧ forX (F_impl_IsValidTableau_l2 r_2 i t) k i1 () = some z1) i ⟨0, (fc (hf.g 3 0) (fc (hf.g 4 1) (fc rfl (fc (hf.g 36 2) (fc (hf.g 37 3) (fc rfl (fc rfl fn_))))))), (hS9.sel [0, 1] rfl rfl), Nat.zero_add _, hz1⟩ ?_
    rintro K24 f w ⟨i1, hf1, hS11, hik1, hL2⟩
    refine cq (cr ?_)
    refine sQ 42 (yL (i1 : Int) (i : Int) rfl (hf1.g 41 6) (hf1.g 40 5)) (rn (cq ?_))
    refine cw_cond (b := (decide ((i1 : Int) < (i : Int)))) rfl (fun hlt2 => ?_) (fun hlt2 => ?_)
    ·skip
     have hlt3 : i1 < i := by have h := of_decide_eq_true hlt2; omega
     obtain ⟨K43, rfl⟩ : ∃ k2, K24 = k2 + 1 := ⟨K24 - 1, by omega⟩
     obtain ⟨y1, hb3, hL3⟩ := forX_go hL2
     unfold F_impl_IsValidTableau_l2 at hb3
     refine cw_skip (cq (cw_block (cq (cr ?_))))
     refine sQ 43 (ym (vi (i1 : Int)) rfl (hf1.g 41 6)) <| sQ 6 (yg (vi (i1 : Int))) (rn (cq ?_))
     obtain ⟨x, hx, hb3⟩ := bI hb3
     obtain ⟨x1, hx1, hb3⟩ := bI hb3
     obtain ⟨r_4, hc3, hb3⟩ := bI hb3
     refine ra_start (hS11.se [0, 1]).fn (by kernel_rfl) ?_
     have hS13 := hS11.drew
     refine rq 0 44 (v := .slice B2 r_2.length c2) rfl (hS13.se [0, 1]) (fun w' hw' => (ym (.slice B2 r_2.length c2) rfl (hf1.g 4 1))) ?_
     refine rq 1 45 (v := vi (i : Int)) rfl (hS13.se [0, 1]) (fun w' hw' => (ym (vi (i : Int)) rfl (hf1.g 5 2))) ?_
     refine rq 2 46 (v := pt B2 ((i : Int).toNat * 3)) rfl (hS13.se [0, 1]) (fun w' hw' => (Y_index (B := B2) (m := r_2.length) (c := c2) (k := .i64) (i := (i : Int)) K2 K0 rfl rfl rfl (gi_isSome eN1 rfl (ST.cf hw' (i := 1) rfl) hx) (getI_nn hx) (getI_ltI hx rfl))) ?_
     refine rq 3 47 (v := .agg #[vi x.Phase, vi x.X, vi x.Z]) rfl (hS13.se [0, 1]) (fun w' hw' => (ya B2 ((i : Int).toNat * 3) (r_2.flatMap eN0) [vi x.Phase, vi x.X, vi x.Z] K12 K0 (ST.cf hw' (i := 1) rfl) rfl rfl (eN1 x) (gi_seg eN1 hx))) ?_
     refine rq 4 48 (v := .slice B2 r_2.length c2) rfl (hS13.se [0, 1]) (fun w' hw' => (ym (.slice B2 r_2.length c2) rfl (hf1.g 4 1))) ?_
     refine rq 5 49 (v := vi (i1 : Int)) rfl (hS13.se [0, 1]) (fun w' hw' => (ym (vi (i1 : Int)))) ?_
     refine rq 6 50 (v := pt B2 ((i1 : Int).toNat * 3)) rfl (hS13.se [0, 1]) (fun w' hw' => (Y_index (B := B2) (m := r_2.length) (c := c2) (k := .i64) (i := (i1 : Int)) K2 K0 rfl rfl rfl (gi_isSome eN1 rfl (ST.cf hw' (i := 1) rfl) hx1) (getI_nn hx1) (getI_ltI hx1 rfl))) ?_
     refine rq 7 51 (v := .agg #[vi x1.Phase, vi x1.X, vi x1.Z]) rfl (hS13.se [0, 1]) (fun w' hw' => (ya B2 ((i1 : Int).toNat * 3) (r_2.flatMap eN0) [vi x1.Phase, vi x1.X, vi x1.Z] K12 K0 (ST.cf hw' (i := 1) rfl) rfl rfl (eN1 x1) (gi_seg eN1 hx1))) ?_
     refine rq 9 53 (v := vi (i : Int)) rfl (hS13.se [0, 1]) (fun w' hw' => (ym (vi (i : Int)) rfl (hf1.g 5 2))) ?_
     refine rq 10 54 (v := vi (i1 : Int)) rfl (hS13.se [0, 1]) (fun w' hw' => (ym (vi (i1 : Int)))) ?_
     refine rq 11 55 (v := vi (i64.wrap ((i : Int) - (i1 : Int)))) rfl (hS13.se [0, 1]) (fun w' hw' => (yM (i : Int) (i1 : Int))) ?_
     refine rq 12 56 (v := vi t.Qubits) rfl (hS13.se [0, 1]) (fun w' hw' => (yl (aD b1) 0 [vi t.Qubits] (vi t.Qubits) K4 (ST.cf hw' (i := 0) rfl) rfl (hf1.g 3 0))) ?_
     refine rq 13 57 (v := .bool ((i64.wrap ((i : Int) - (i1 : Int))) == t.Qubits)) rfl (hS13.se [0, 1]) (fun w' hw' => (yE (i64.wrap ((i : Int) - (i1 : Int))) t.Qubits)) ?_
     refine rA [8] ?_
     refine rC 52 8 rfl (yC [.agg #[vi x.Phase, vi x.X, vi x.Z], .agg #[vi x1.Phase, vi x1.X, vi x1.Z]] k_call_78 (c_impl_commute x x1 _  (hS13.inn0 [] rfl) hc3)) ?_ ?_
     ·rintro _ w_7 ⟨rfl, hd3⟩
      have hS14 := hS13.out00 hd3
      refine ⟨(hS14.se [0, 1]), ?_⟩
      refine rq 14 58 (v := .bool (r_4 == ((i64.wrap ((i : Int) - (i1 : Int))) == t.Qubits))) rfl (hS14.se [0, 1]) (fun w' hw' => (Y_beq (p := r_4) (q := ((i64.wrap ((i : Int) - (i1 : Int))) == t.Qubits)) K57 rfl rfl rfl)) ?_
      refine ra_done (by kernel_rfl) ?_
      refine cw_cond (b := (r_4 == ((i64.wrap ((i : Int) - (i1 : Int))) == t.Qubits))) rfl (fun hb4 => ?_) (fun hb4 => ?_)
      ·skip
       have hF7 := ct hb3 hb4
       refine cq (cr ?_)
       refine sQ 2 (yg (.bool false)) (rn (ct_ ?_))
       obtain rfl := sI hF7
       obtain rfl := sI hL3
       obtain rfl := sI hF6
       obtain rfl := sI hL1
       obtain rfl := sI hF5
       exact ret1 Try.results34 (v1 := .bool false) (resAt_tmp rfl) ⟨rfl, (hS14.sN [])⟩
      ·skip
       have hF8 := cf' hb3 hb4
       refine cw_skip (cr ?_)
       refine sQ 59 (yP (i1 : Int) 1 rfl (hf1.g 41 6)) <| sQ 41 (ym (vi (i64.wrap ((i1 : Int) + 1)))) (rn ?_)
       obtain rfl := sI hF8
       exact ⟨K43, Nat.lt_succ_self _, i1 + 1, (fc (hf1.g 3 0) (fc (hf1.g 4 1) (fc (hf1.g 5 2) (fc (hf1.g 36 3) (fc (hf1.g 37 4) (fc (hf1.g 40 5) (fc (congrArg (Value.int .i64) (wr_succ hlt3 hN1)) fn_))))))), (hS14.sel [0, 1] rfl rfl), (by omega), hL3⟩
     exact aN
    ·skip
     obtain rfl : K24 = 0 := by have h := of_decide_eq_false hlt2; omega
     refine cw_exit rfl ?_
     obtain rfl := sI hL2
     refine cr ?_
     refine sQ 60 (yP (i : Int) 1 rfl (hf1.g 37 4)) <| sQ 37 (ym (vi (i64.wrap ((i : Int) + 1)))) (rn ?_)
     obtain rfl := sI hF6
     exact ⟨K5, Nat.lt_succ_self _, i + 1, (fc (hf1.g 3 0) (fc (hf1.g 4 1) (fc (hf1.g 36 3) (fc (congrArg (Value.int .i64) (wr_succ hlt1 hN)) fn_)))), (hS11.sel [0, 1] rfl rfl), (by omega), hL1⟩
   ·skip
    obtain rfl : k_ = 0 := by have h := of_decide_eq_false hlt; omega
    refine cw_exit rfl ?_
    obtain rfl := sI hL
    refine cq (cr ?_)
    refine sQ 2 (yg (.bool true)) (rn (ct_ ?_))
    obtain rfl := sI hF5
    exact ret1 Try.results34 (v1 := .bool true) (resAt_tmp rfl) ⟨rfl, (hS9.sN [])⟩

theorem c_slices_IndexFunc_impl_Gate_impl_Gate (s : List TGate) (f_ : TGate → Option (Bool)) (B : Option Addr) (c n : Nat) (kf : Nat) (caps : Array Value) (Rf : List Ro) (w0 : World) (hn : s.length = n) (hk : callB Try.prog kf = true) (hp : ∀ (w : World), ST w [] w [] Rf → ∀ (x : TGate) (y : Bool), f_ x = some y → CV Try.prog kf ((.agg #[vi x.Kind, vi x.A, vi x.B]) :: caps.toList).toArray w (fun v w' => v = .bool y ∧ ST w [] w' [] [])) (hS : ST w0 [] w0 [] (⟨B, (s.flatMap eN2)⟩ :: Rf)) {r_ : Int} (hF : F_slices_IndexFunc_impl_Gate_impl_Gate s f_ = some r_) :
  CV Try.prog 138 #[.slice B n c, .func (.func kf) #[] caps] w0 (fun v w' => v = vi r_ ∧ ST w0 [] w' [] []) := by
 subst hn
 unfold F_slices_IndexFunc_impl_Gate_impl_Gate at hF
 refine cv_of_cw 19 Try.func138 rfl Try.ntmps138 rfl ?_
 refine cq (cr ?_)
 refine sQ 4 (yg (vi 0)) (rn (cq (cq (cr ?_))))
 refine sQ 6 (ym (.slice B s.length c)) <| sQ 7 (Y_len (B := B) (m := s.length) (c := c) K15 rfl rfl) <| sQ 8 (ym (vi 0)) (rn ?_)
 obtain ⟨hN, hF⟩ := chk_inv hF
 obtain ⟨z, hz, hF1⟩ := bI hF
 refine cw_block ?_
 refine cw_loop (fun k f w => ∃ (i : Nat), FF f [(0, .slice B s.length c), (1, .func (.func kf) #[] caps), (7, vi (s.length : Int)), (8, vi (i : Int))] ∧ ST w0 [] w [] (⟨B, (s.flatMap eN2)⟩ :: Rf) ∧ i + k = s.length ∧ forX (F_slices_IndexFunc_impl_Gate_impl_Gate_l1 s f_) k i () = some z) s.length ⟨0, (fc rfl (fc rfl (fc rfl (fc rfl fn_)))), (hS.sel [] rfl rfl), Nat.zero_add _, hz⟩ ?_
 rintro k_ f w ⟨i, hf, hS1, hik, hL⟩
 refine cq (cr ?_)
 refine sQ 9 (yL (i : Int) (s.length : Int) rfl (hf.g 8 3) (hf.g 7 2)) (rn (cq ?_))
 refine cw_cond (b := (decide ((i : Int) < (s.length : Int)))) rfl (fun hlt => ?_) (fun hlt => ?_)
 ·skip
  have hlt1 : i < s.length := by have h := of_decide_eq_true hlt; omega
  obtain ⟨K5, rfl⟩ : ∃ k2, k_ = k2 + 1 := ⟨k_ - 1, by omega⟩
  obtain ⟨y1, hb, hL1⟩ := forX_go hL
  unfold F_slices_IndexFunc_impl_Gate_impl_Gate_l1 at hb
  refine cw_skip (cq (cw_block (cq (cr ?_))))
  refine sQ 10 (ym (vi (i : Int)) rfl (hf.g 8 3)) <| sQ 5 (yg (vi (i : Int))) (rn (cq (cr ?_)))
  refine sQ 11 (ym (.func (.func kf) #[] caps) rfl (hf.g 1 1)) <| sQ 12 (ym (.slice B s.length c) rfl (hf.g 0 0)) <| sQ 13 (ym (vi (i : Int))) ?_
  obtain ⟨x1, hx, hb⟩ := bI hb
  refine sQ 14 (Y_index (B := B) (m := s.length) (c := c) (k := .i64) (i := (i : Int)) K15 K14 rfl rfl rfl (gi_isSome eN4 rfl (hS1.rf (i := 0) rfl) hx) (getI_nn hx) (getI_ltI hx rfl)) <| sQ 15 (ya B ((i : Int).toNat * 3) (s.flatMap eN2) [vi x1.Kind, vi x1.A, vi x1.B] K39 K14 (hS1.rf (i := 0) rfl) rfl rfl (eN4 x1) (gi_seg eN4 hx)) ?_
  obtain ⟨r_1, hc, hb⟩ := bI hb
  refine sc 16 rfl rfl (Yc_clos (g := kf) (vs := (.agg #[vi x1.Kind, vi x1.A, vi x1.B]) :: caps.toList) hk rfl rfl (clo_args (mc rfl mn)) (hp _ (hS1.innS (fun _ h => mOd (i := 1) h)) x1 r_1 hc)) ?_
  rintro _ w_ ⟨rfl, hd⟩
  have hS2 := hS1.out00 hd
  refine rn ?_
  refine cw_cond (b := r_1) rfl (fun hb1 => ?_) (fun hb1 => ?_)
  ·skip
   have hF2 := ct hb hb1
   refine cq (cr ?_)
   refine sQ 17 (ym (vi (i : Int))) <| sQ 4 (yg (vi (i : Int))) (rn (ct_ ?_))
   obtain rfl := sI hF2
   obtain rfl := sI hL1
   obtain rfl := sI hF1
   exact ret1 Try.results138 (v1 := vi (i : Int)) (resAt_tmp rfl) ⟨rfl, (hS2.sN [])⟩
  ·skip
   have hF3 := cf' hb hb1
   refine cw_skip (cr ?_)
   refine sQ 18 (yP (i : Int) 1 rfl (hf.g 8 3)) <| sQ 8 (ym (vi (i64.wrap ((i : Int) + 1)))) (rn ?_)
   obtain rfl := sI hF3
   exact ⟨K5, Nat.lt_succ_self _, i + 1, (fc (hf.g 0 0) (fc (hf.g 1 1) (fc (hf.g 7 2) (fc (congrArg (Value.int .i64) (wr_succ hlt1 hN)) fn_)))), (hS2.sel [] rfl rfl), (by omega), hL1⟩
 ·skip
  obtain rfl : k_ = 0 := by have h := of_decide_eq_false hlt; omega
  refine cw_exit rfl ?_
  obtain rfl := sI hL
  refine cq (cr ?_)
  refine sQ 4 (yg (vi (-1))) (rn (ct_ ?_))
  obtain rfl := sI hF1
  exact ret1 Try.results138 (v1 := vi (-1)) (resAt_tmp rfl) ⟨rfl, (hS1.sN [])⟩

theorem c_slices_ContainsFunc_impl_Gate_impl_Gate (s : List TGate) (f_ : TGate → Option (Bool)) (B : Option Addr) (c n : Nat) (kf : Nat) (caps : Array Value) (Rf : List Ro) (w0 : World) (hn : s.length = n) (hk : callB Try.prog kf = true) (hp : ∀ (w : World), ST w [] w [] Rf → ∀ (x : TGate) (y : Bool), f_ x = some y → CV Try.prog kf ((.agg #[vi x.Kind, vi x.A, vi x.B]) :: caps.toList).toArray w (fun v w' => v = .bool y ∧ ST w [] w' [] [])) (hS : ST w0 [] w0 [] (⟨B, (s.flatMap eN2)⟩ :: Rf)) {r_ : Bool} (hF : F_slices_ContainsFunc_impl_Gate_impl_Gate s f_ = some r_) :
  CV Try.prog 113 #[.slice B n c, .func (.func kf) #[] caps] w0 (fun v w' => v = .bool r_ ∧ ST w0 [] w' [] []) := by
 subst hn
 unfold F_slices_ContainsFunc_impl_Gate_impl_Gate at hF
 refine cv_of_cw 9 Try.func113 rfl Try.ntmps113 rfl ?_
 refine cq (cr ?_)
 refine sQ 4 (yg (.bool false)) (rn (cq (cr ?_)))
 refine sQ 5 (ym (.slice B s.length c)) <| sQ 6 (ym (.func (.func kf) #[] caps)) ?_
 obtain ⟨r_1, hc, hF⟩ := bI hF
 refine sc 7 rfl rfl (yC [.slice B s.length c, .func (.func kf) #[] caps] k_call_138 (c_slices_IndexFunc_impl_Gate_impl_Gate s f_ B c s.length kf caps Rf _ rfl hk hp (hS.innS (sk 0 (fun _ h => mOd (i := 1) h))) hc)) ?_
 rintro _ w_ ⟨rfl, hd⟩
 have hS1 := hS.out00 hd
 refine sQ 8 (Y_ge (k := .i64) (a := r_1) (b := 0) rfl rfl rfl) <| sQ 4 (yg (.bool (decide (0 ≤ r_1)))) (rn (ct_ ?_))
 obtain rfl := sI hF
 exact ret1 Try.results113 (v1 := .bool (decide (0 ≤ r_1))) (resAt_tmp rfl) ⟨rfl, (hS1.sN [])⟩

theorem c_impl_isTwo (kind : Int)  (w0 : World)  (hS : ST w0 [] w0 [] []) {r_ : Bool} (hF : F_impl_isTwo kind = some r_) :
  CV Try.prog 139 #[vi kind] w0 (fun v w' => v = .bool r_ ∧ ST w0 [] w' [] []) := by
 unfold F_impl_isTwo at hF
 refine cv_of_cw 5 Try.func139 rfl Try.ntmps139 rfl ?_
 refine cq (cr ?_)
 refine sQ 2 (yg (.bool false)) (rn (cq (cr ?_)))
 refine sQ 3 (ym (vi kind)) ?_
 obtain ⟨r_1, hc, hF⟩ := bI hF
 refine sc 4 rfl rfl (yC [vi kind, vi 9, vi 11] K46 (c_impl_within kind 9 11 _  (hS.inn0 [] rfl) hc)) ?_
 rintro _ w_ ⟨rfl, hd⟩
 have hS1 := hS.out00 hd
 refine sQ 2 (yg (.bool r_1)) (rn (ct_ ?_))
 obtain rfl := sI hF
 exact ret1 Try.results139 (v1 := .bool r_1) (resAt_tmp rfl) ⟨rfl, (hS1.sN [])⟩

theorem c_impl_IsValidGate (n : Int) (g : TGate)  (w0 : World)  (hS : ST w0 [] w0 [] []) {r_ : Bool} (hF : F_impl_IsValidGate n g = some r_) :
  CV Try.prog 115 #[vi n, .agg #[vi g.Kind, vi g.A, vi g.B]] w0 (fun v w' => v = .bool r_ ∧ ST w0 [] w' [] []) := by
 unfold F_impl_IsValidGate at hF
 refine cv_of_cw 60 Try.func115 rfl Try.ntmps115 rfl ?_
 refine cq (cr ?_)
 refine sS 3 (yB 76 (.agg #[vi g.Kind, vi g.A, vi g.B]) [vi g.Kind, vi g.A, vi g.B] 3 hS) ?_
 rintro _ w_ ⟨b, rfl, hS1⟩
 refine sQ 4 (yg (.bool false)) (rn (cq (cw_block (cq (cr ?_)))))
 refine sQ 6 (ym (vi n)) ?_
 obtain ⟨r_1, hc, hF⟩ := bI hF
 refine sc 7 rfl rfl (yC [vi n, vi 1, vi 5] K46 (c_impl_within n 1 5 _  (hS1.inn0 [] rfl) hc)) ?_
 rintro _ w_1 ⟨rfl, hd⟩
 have hS2 := hS1.out00 hd
 refine sQ 8 (Y_not (p := r_1) rfl rfl) <| sQ 9 (ym (.bool (!r_1))) ?_
 refine sgq 10 (B := (!(!r_1))) (v := pt (aD b) 0) rfl rfl (uF_ 9) (fun hg => (yd (aD b) 0 0 K44 K3)) ?_
 refine sgq 11 (B := (!(!r_1))) (v := vi g.Kind) rfl rfl (uF_ 9) (fun hg1 => (yl (aD b) 0 [vi g.Kind, vi g.A, vi g.B] (vi g.Kind) K4 (hS2.c 0) rfl (gv_of (v := pt (aD b) 0) hg1))) ?_
 obtain ⟨r_2, hc1, hF⟩ := bI hF
 refine sgc 12 (B := (!(!r_1))) (v := .bool r_2) (F := hS2.fn) rfl rfl (uF_ 9) hS2 (fun hg2 => (yC [vi g.Kind, vi 1, vi 12] K46 (CV.mono (c_impl_within g.Kind 1 12 _  (hS2.inn0 [] rfl) (gb_inv hc1 hg2)) (by rintro _ _ ⟨rfl, h⟩; exact ⟨rfl, hS2.out00 h⟩)) rfl (mc (gv_of (v := vi g.Kind) hg2) (mc rfl (mc rfl mn))))) ?_
 rintro w_2 hS3
 refine sgq 13 (B := (!(!r_1))) (v := .bool (!r_2)) rfl rfl (uF_ 9) (fun hg3 => (Y_not (p := r_2) rfl (gv_of (v := .bool r_2) hg3))) ?_
 refine sQ 14 (Y_or (b := (!r_1)) (z := (!r_2)) rfl rfl rfl rfl) <| sQ 5 (yg (.bool ((!r_1) || (!r_2)))) (rn ?_)
 refine cw_cond (b := ((!r_1) || (!r_2))) rfl (fun hb => ?_) (fun hb => ?_)
 ·skip
  have hF1 := ct hF hb
  refine cq (cr ?_)
  refine sQ 4 (yg (.bool false)) (rn (ct_ ?_))
  obtain rfl := sI hF1
  exact ret1 Try.results115 (v1 := .bool false) (resAt_tmp rfl) ⟨rfl, (hS3.sN [])⟩
 ·skip
  have hF2 := cf' hF hb
  refine cq (cr ?_)
  refine sQ 16 (yd (aD b) 0 0 K44 K3) <| sQ 17 (yl (aD b) 0 [vi g.Kind, vi g.A, vi g.B] (vi g.Kind) K4 (hS3.c 0)) <| sQ 18 (yE g.Kind 12) <| sQ 15 (yg (.bool (g.Kind == 12))) (rn ?_)
  refine cw_cond (b := (g.Kind == 12)) rfl (fun hb1 => ?_) (fun hb1 => ?_)
  ·skip
   have hF3 := ct hF2 hb1
   refine cq (cr ?_)
   refine sQ 19 (yd (aD b) 0 0 K18 K3) <| sQ 20 (yl (aD b) 1 [vi g.Kind, vi g.A, vi g.B] (vi g.A) K4 (hS3.c 0)) <| sQ 21 (yE g.A 0) <| sQ 22 (ym (.bool (g.A == 0))) ?_
   refine sgq 23 (B := (g.A == 0)) (v := pt (aD b) 2) rfl rfl (uT_ 22) (fun hg4 => (yd (aD b) 0 0 K32 K3)) ?_
   refine sgq 24 (B := (g.A == 0)) (v := vi g.B) rfl rfl (uT_ 22) (fun hg5 => (yl (aD b) 2 [vi g.Kind, vi g.A, vi g.B] (vi g.B) K4 (hS3.c 0) rfl (gv_of (v := pt (aD b) 2) hg5))) ?_
   refine sgq 25 (B := (g.A == 0)) (v := .bool (g.B == 0)) rfl rfl (uT_ 22) (fun hg6 => (yE g.B 0 rfl (gv_of (v := vi g.B) hg6))) ?_
   refine sQ 26 (Y_and (b := (g.A == 0)) (z := (g.B == 0)) rfl rfl rfl rfl) <| sQ 4 (yg (.bool ((g.A == 0) && (g.B == 0)))) (rn (ct_ ?_))
   obtain rfl := sI hF3
   exact ret1 Try.results115 (v1 := .bool ((g.A == 0) && (g.B == 0))) (resAt_tmp rfl) ⟨rfl, (hS3.sN [])⟩
  ·skip
   have hF4 := cf' hF2 hb1
   refine cq (cr ?_)
   refine sQ 28 (yd (aD b) 0 0 K44 K3) <| sQ 29 (yl (aD b) 0 [vi g.Kind, vi g.A, vi g.B] (vi g.Kind) K4 (hS3.c 0)) ?_
   obtain ⟨r_3, hc2, hF4⟩ := bI hF4
   refine sc 30 rfl rfl (yC [vi g.Kind] k_call_139 (c_impl_isTwo g.Kind _  (hS3.inn0 [] rfl) hc2)) ?_
   rintro _ w_3 ⟨rfl, hd1⟩
   have hS4 := hS3.out00 hd1
   refine sQ 27 (yg (.bool r_3)) (rn ?_)
   refine cw_cond (b := r_3) rfl (fun hb2 => ?_) (fun hb2 => ?_)
   ·skip
    have hF5 := ct hF4 hb2
    refine cq (cr ?_)
    refine sQ 31 (yd (aD b) 0 0 K18 K3) <| sQ 32 (yl (aD b) 1 [vi g.Kind, vi g.A, vi g.B] (vi g.A) K4 (hS4.c 0)) <| sQ 33 (ym (vi n)) <| sQ 34 (yM n 1) ?_
    obtain ⟨r_4, hc3, hF5⟩ := bI hF5
    refine sc 35 rfl rfl (yC [vi g.A, vi 0, vi (i64.wrap (n - 1))] K46 (c_impl_within g.A 0 (i64.wrap (n - 1)) _  (hS4.inn0 [] rfl) hc3)) ?_
    rintro _ w_4 ⟨rfl, hd2⟩
    have hS5 := hS4.out00 hd2
    refine sQ 36 (ym (.bool r_4)) ?_
    refine sgq 37 (B := r_4) (v := pt (aD b) 2) rfl rfl (uT_ 36) (fun hg7 => (yd (aD b) 0 0 K32 K3)) ?_
    refine sgq 38 (B := r_4) (v := vi g.B) rfl rfl (uT_ 36) (fun hg8 => (yl (aD b) 2 [vi g.Kind, vi g.A, vi g.B] (vi g.B) K4 (hS5.c 0) rfl (gv_of (v := pt (aD b) 2) hg8))) ?_
    refine sgq 39 (B := r_4) (v := vi n) rfl rfl (uT_ 36) (fun hg9 => (ym (vi n))) ?_
    refine sgq 40 (B := r_4) (v := vi (i64.wrap (n - 1))) rfl rfl (uT_ 36) (fun hg10 => (yM n 1 rfl (gv_of (v := vi n) hg10))) ?_
    obtain ⟨r_5, hc4, hF5⟩ := bI hF5
    refine sgc 41 (B := r_4) (v := .bool r_5) (F := hS5.fn) rfl rfl (uT_ 36) hS5 (fun hg11 => (yC [vi g.B, vi 0, vi (i64.wrap (n - 1))] K46 (CV.mono (c_impl_within g.B 0 (i64.wrap (n - 1)) _  (hS5.inn0 [] rfl) (gb_inv hc4 hg11)) (by rintro _ _ ⟨rfl, h⟩; exact ⟨rfl, hS5.out00 h⟩)) rfl (mc (gv_of (v := vi g.B) hg11) (mc rfl (mc (gv_of (v := vi (i64.wrap (n - 1))) hg11) mn))))) ?_
    rintro w_5 hS6
    refine sQ 42 (Y_and (b := r_4) (z := r_5) rfl rfl rfl rfl) <| sQ 43 (ym (.bool (r_4 && r_5))) ?_
    refine sgq 44 (B := (r_4 && r_5)) (v := pt (aD b) 1) rfl rfl (uT_ 43) (fun hg12 => (yd (aD b) 0 0 K18 K3)) ?_
    refine sgq 45 (B := (r_4 && r_5)) (v := vi g.A) rfl rfl (uT_ 43) (fun hg13 => (yl (aD b) 1 [vi g.Kind, vi g.A, vi g.B] (vi g.A) K4 (hS6.c 0) rfl (gv_of (v := pt (aD b) 1) hg13))) ?_
    refine sgq 46 (B := (r_4 && r_5)) (v := pt (aD b) 2) rfl rfl (uT_ 43) (fun hg14 => (yd (aD b) 0 0 K32 K3)) ?_
    refine sgq 47 (B := (r_4 && r_5)) (v := vi g.B) rfl rfl (uT_ 43) (fun hg15 => (yl (aD b) 2 [vi g.Kind, vi g.A, vi g.B] (vi g.B) K4 (hS6.c 0) rfl (gv_of (v := pt (aD b) 2) hg15))) ?_
    refine sgq 48 (B := (r_4 && r_5)) (v := .bool (g.A != g.B)) rfl rfl (uT_ 43) (fun hg16 => (Y_ne (k := .i64) (a := g.A) (b := g.B) rfl (gv_of (v := vi g.A) hg16) (gv_of (v := vi g.B) hg16))) ?_
    refine sQ 49 (Y_and (b := (r_4 && r_5)) (z := (g.A != g.B)) rfl rfl rfl rfl) <| sQ 4 (yg (.bool ((r_4 && r_5) && (g.A != g.B)))) (rn (ct_ ?_))
    obtain rfl := sI hF5
    exact ret1 Try.results115 (v1 := .bool ((r_4 && r_5) && (g.A != g.B))) (resAt_tmp rfl) ⟨rfl, (hS6.sN [])⟩
   ·skip
    have hF6 := cf' hF4 hb2
    refine cw_skip (cq (cr ?_))
    refine sQ 50 (yd (aD b) 0 0 K18 K3) <| sQ 51 (yl (aD b) 1 [vi g.Kind, vi g.A, vi g.B] (vi g.A) K4 (hS4.c 0)) <| sQ 52 (ym (vi n)) <| sQ 53 (yM n 1) ?_
    obtain ⟨r_6, hc5, hF6⟩ := bI hF6
    refine sc 54 rfl rfl (yC [vi g.A, vi 0, vi (i64.wrap (n - 1))] K46 (c_impl_within g.A 0 (i64.wrap (n - 1)) _  (hS4.inn0 [] rfl) hc5)) ?_
    rintro _ w_6 ⟨rfl, hd3⟩
    have hS7 := hS4.out00 hd3
    refine sQ 55 (ym (.bool r_6)) ?_
    refine sgq 56 (B := r_6) (v := pt (aD b) 2) rfl rfl (uT_ 55) (fun hg17 => (yd (aD b) 0 0 K32 K3)) ?_
    refine sgq 57 (B := r_6) (v := vi g.B) rfl rfl (uT_ 55) (fun hg18 => (yl (aD b) 2 [vi g.Kind, vi g.A, vi g.B] (vi g.B) K4 (hS7.c 0) rfl (gv_of (v := pt (aD b) 2) hg18))) ?_
    refine sgq 58 (B := r_6) (v := .bool (g.B == 0)) rfl rfl (uT_ 55) (fun hg19 => (yE g.B 0 rfl (gv_of (v := vi g.B) hg19))) ?_
    refine sQ 59 (Y_and (b := r_6) (z := (g.B == 0)) rfl rfl rfl rfl) <| sQ 4 (yg (.bool (r_6 && (g.B == 0)))) (rn (ct_ ?_))
    obtain rfl := sI hF6
    exact ret1 Try.results115 (v1 := .bool (r_6 && (g.B == 0))) (resAt_tmp rfl) ⟨rfl, (hS7.sN [])⟩

theorem c_impl_IsValidCircuit_1 (g : TGate) (p : TCircuit) (B : Option Addr) (B1 : Option Addr) (c n : Nat) (w0 : World) (hn : p.Gates.length = n) (hS : ST w0 [] w0 [] [⟨B, [vi p.Qubits, .slice B1 n c]⟩, ⟨B1, (p.Gates.flatMap eN2)⟩]) {r_ : Bool} (hF : F_impl_IsValidCircuit_1 g p = some r_) :
  CV Try.prog 114 #[.agg #[vi g.Kind, vi g.A, vi g.B], pt B 0] w0 (fun v w' => v = .bool r_ ∧ ST w0 [] w' [] []) := by
 subst hn
 unfold F_impl_IsValidCircuit_1 at hF
 refine cv_of_cw 9 Try.func114 rfl Try.ntmps114 rfl ?_
 refine cq (cr ?_)
 refine sS 2 (yB 76 (.agg #[vi g.Kind, vi g.A, vi g.B]) [vi g.Kind, vi g.A, vi g.B] 3 hS) ?_
 rintro _ w_ ⟨b, rfl, hS1⟩
 refine sQ 3 (yg (.bool false)) (rn (cq (cr ?_)))
 refine sQ 4 (yd B 0 0 K74 K3) <| sQ 5 (yl B 0 [vi p.Qubits, .slice B1 p.Gates.length c] (vi p.Qubits) K4 (hS1.rf (i := 0) rfl)) <| sQ 6 (yb (aD b) 0 [vi g.Kind, vi g.A, vi g.B] K39 K14 (hS1.c 0)) ?_
 obtain ⟨r_1, hc, hF⟩ := bI hF
 refine sc 7 rfl rfl (yC [vi p.Qubits, .agg #[vi g.Kind, vi g.A, vi g.B]] k_call_115 (c_impl_IsValidGate p.Qubits g _  (hS1.inn0 [] rfl) hc)) ?_
 rintro _ w_1 ⟨rfl, hd⟩
 have hS2 := hS1.out00 hd
 refine sQ 8 (Y_not (p := r_1) rfl rfl) <| sQ 3 (yg (.bool (!r_1))) (rn (ct_ ?_))
 obtain rfl := sI hF
 exact ret1 Try.results114 (v1 := .bool (!r_1)) (resAt_tmp rfl) ⟨rfl, (hS2.sN [])⟩

theorem c_impl_IsValidCircuit (c : TCircuit) (B : Option Addr) (c1 n : Nat) (w0 : World) (hn : c.Gates.length = n) (hS : ST w0 [] w0 [] [⟨B, (c.Gates.flatMap eN2)⟩]) {r_ : Bool} (hF : F_impl_IsValidCircuit c = some r_) :
  CV Try.prog 66 #[.agg #[vi c.Qubits, .slice B n c1]] w0 (fun v w' => v = .bool r_ ∧ ST w0 [] w' [] []) := by
 subst hn
 unfold F_impl_IsValidCircuit at hF
 refine cv_of_cw 19 Try.func66 rfl Try.ntmps66 rfl ?_
 refine cq (cr ?_)
 refine sS 1 (yB 28 (.agg #[vi c.Qubits, .slice B c.Gates.length c1]) [vi c.Qubits, .slice B c.Gates.length c1] 2 hS) ?_
 rintro _ w_ ⟨b, rfl, hS1⟩
 refine sQ 2 (yg (.bool false)) (rn (cq (cr ?_)))
 refine sQ 3 (yd (aD b) 0 0 K74 K3) <| sQ 4 (yl (aD b) 0 [vi c.Qubits, .slice B c.Gates.length c1] (vi c.Qubits) K4 (hS1.c 0)) ?_
 obtain ⟨r_1, hc, hF⟩ := bI hF
 refine sc 5 rfl rfl (yC [vi c.Qubits, vi 1, vi 5] K46 (c_impl_within c.Qubits 1 5 _  (hS1.inn0 [] rfl) hc)) ?_
 rintro _ w_1 ⟨rfl, hd⟩
 have hS2 := hS1.out00 hd
 refine sQ 6 (ym (.bool r_1)) ?_
 refine sgq 7 (B := r_1) (v := pt (aD b) 1) rfl rfl (uT_ 6) (fun hg => (yd (aD b) 0 0 K45 K17)) ?_
 refine sgq 8 (B := r_1) (v := .slice B c.Gates.length c1) rfl rfl (uT_ 6) (fun hg1 => (yl (aD b) 1 [vi c.Qubits, .slice B c.Gates.length c1] (.slice B c.Gates.length c1) K25 (hS2.c 0) rfl (gv_of (v := pt (aD b) 1) hg1))) ?_
 refine sgq 9 (B := r_1) (v := vi (c.Gates.length : Int)) rfl rfl (uT_ 6) (fun hg2 => (Y_len (B := B) (m := c.Gates.length) (c := c1) K15 rfl (gv_of (v := .slice B c.Gates.length c1) hg2))) ?_
 refine sgq 10 (B := r_1) (v := .bool (decide ((c.Gates.length : Int) ≤ 400))) rfl rfl (uT_ 6) (fun hg3 => (Y_le (k := .i64) (a := (c.Gates.length : Int)) (b := 400) rfl (gv_of (v := vi (c.Gates.length : Int)) hg3) rfl)) ?_
 refine sQ 11 (Y_and (b := r_1) (z := (decide ((c.Gates.length : Int) ≤ 400))) rfl rfl rfl rfl) <| sQ 12 (ym (.bool (r_1 && (decide ((c.Gates.length : Int) ≤ 400))))) ?_
 refine sgq 13 (B := (r_1 && (decide ((c.Gates.length : Int) ≤ 400)))) (v := pt (aD b) 1) rfl rfl (uT_ 12) (fun hg4 => (yd (aD b) 0 0 K45 K17)) ?_
 refine sgq 14 (B := (r_1 && (decide ((c.Gates.length : Int) ≤ 400)))) (v := .slice B c.Gates.length c1) rfl rfl (uT_ 12) (fun hg5 => (yl (aD b) 1 [vi c.Qubits, .slice B c.Gates.length c1] (.slice B c.Gates.length c1) K25 (hS2.c 0) rfl (gv_of (v := pt (aD b) 1) hg5))) ?_
 refine sgq 15 (B := (r_1 && (decide ((c.Gates.length : Int) ≤ 400)))) (v := .func (.func 114) #[] #[pt (aD b) 0]) rfl rfl (uT_ 12) (fun hg6 => (Y_makeFunc (cs := [pt (aD b) 0]) rfl rfl (mc rfl mn))) ?_
 obtain ⟨r_2, hc1, hF⟩ := bI hF
 refine sgc 16 (B := (r_1 && (decide ((c.Gates.length : Int) ≤ 400)))) (v := .bool r_2) (F := hS2.fn) rfl rfl (uT_ 12) hS2 (fun hg7 => (yC [.slice B c.Gates.length c1, .func (.func 114) #[] #[pt (aD b) 0]] k_call_113 (CV.mono (c_slices_ContainsFunc_impl_Gate_impl_Gate c.Gates (fun x_0 => F_impl_IsValidCircuit_1 x_0 c) B c1 c.Gates.length 114 (#[pt (aD b) 0]) [⟨aD b, [vi c.Qubits, .slice B c.Gates.length c1]⟩, ⟨B, (c.Gates.flatMap eN2)⟩] _ rfl k_call_114 (fun w hw x_0 y_0 h_ => c_impl_IsValidCircuit_1 x_0 c (aD b) B c1 c.Gates.length w rfl hw h_) (hS2.inn0 [(true, 0), (false, 0), (true, 0)] rfl) (gb_inv hc1 hg7)) (by rintro _ _ ⟨rfl, h⟩; exact ⟨rfl, hS2.out00 h⟩)) rfl (mc (gv_of (v := .slice B c.Gates.length c1) hg7) (mc (gv_of (v := .func (.func 114) #[] #[pt (aD b) 0]) hg7) mn)))) ?_
 rintro w_2 hS3
 refine sgq 17 (B := (r_1 && (decide ((c.Gates.length : Int) ≤ 400)))) (v := .bool (!r_2)) rfl rfl (uT_ 12) (fun hg8 => (Y_not (p := r_2) rfl (gv_of (v := .bool r_2) hg8))) ?_
 refine sQ 18 (Y_and (b := (r_1 && (decide ((c.Gates.length : Int) ≤ 400)))) (z := (!r_2)) rfl rfl rfl rfl) <| sQ 2 (yg (.bool ((r_1 && (decide ((c.Gates.length : Int) ≤ 400))) && (!r_2)))) (rn (ct_ ?_))
 obtain rfl := sI hF
 exact ret1 Try.results66 (v1 := .bool ((r_1 && (decide ((c.Gates.length : Int) ≤ 400))) && (!r_2))) (resAt_tmp rfl) ⟨rfl, (hS3.sN [])⟩

theorem c_impl_circuitIf (n : Int) (gates : List TGate) (B : Option Addr) (c n1 : Nat) (w0 : World) (hn : gates.length = n1) (hS : ST w0 [] w0 [] [⟨B, (gates.flatMap eN2)⟩]) {r_ : TCircuit} {r_1 : Bool} (hF : F_impl_circuitIf n gates = some (r_, r_1)) :
  CV Try.prog 36 #[vi n, .slice B n1 c] w0 (fun v w' => ∃ (B1 : Option Addr) (c1 : Nat), v = .tuple #[.agg #[vi r_.Qubits, .slice B1 r_.Gates.length c1], .bool r_1] ∧ ST w0 [] w' [⟨B1, 76, (r_.Gates.flatMap eN2), c1 * 3⟩] []) := by
 subst hn
 unfold F_impl_circuitIf at hF
 refine cv_of_cw 17 Try.func36 rfl Try.ntmps36 rfl ?_
 refine cq (cr ?_)
 refine sS 4 (yN [vi 0, .slice none 0 0] 2 hS K40) ?_
 rintro _ w_ ⟨b, rfl, hS1⟩
 refine sQ 5 (yg (.bool false)) (rn (cq (cr ?_)))
 refine sQ 7 (ym (vi n)) ?_
 refine sS 8 (Ys_bslice0 (s := 3) (e := 76) hS1 K15 K14 rfl) ?_
 rintro _ w_1 ⟨b1, rfl, hS2⟩
 refine sQ 9 (ym (.slice B gates.length c)) ?_
 obtain ⟨hap, hF⟩ := chk_inv hF
 refine sS 10 (Ys_append (s := 3) (by' := 24) (i := 1) (nn := 0) (c := 0) (k := gates.length) (len := gates.length) (B := aD b1) (xs := (gates.flatMap eN2)) (cs' := (gates.flatMap eN2)) hS2 K15 K14 K47 K37 rfl (by decide) rfl rfl rfl rfl (fm_lenn (l := []) eN4 rfl) rfl (hS2.rf (i := 0) rfl) (fm_lenn (l := gates) eN4 rfl) (fm_one' (enc := eN2) enc_Gate_one gates) (by have := hap; omega) (by have := hap; simp only [maxLen]; omega) rfl (app_len0 (l := gates) rfl)) ?_
 rintro _ w_2 ⟨B2, c2, rfl, hS3⟩
 refine sQ 11 (Y_buildS (zs := [vi 0, .slice none 0 0]) (vs := [(0, vi n), (1, .slice B2 gates.length c2)]) (cs := [vi n, .slice B2 gates.length c2]) K58 K40 rfl (mpc rfl (mpc rfl mpn)) rfl) ?_
 refine sS 6 (yN [vi 0, .slice none 0 0] 2 hS3 K40) ?_
 rintro _ w_3 ⟨b2, rfl, hS4⟩
 refine s0 (yT 2 2 (aD b2) 28 (.agg #[vi n, .slice B2 gates.length c2]) [vi n, .slice B2 gates.length c2] 0 hS4 K21) ?_
 rintro _ w_4 ⟨rfl, hS5⟩
 refine rn (cq (cq (cr ?_)))
 refine sQ 12 (yb (aD b2) 0 [vi n, .slice B2 gates.length c2] K33 K21 (hS5.c 2)) ?_
 obtain ⟨r_2, hc, hF⟩ := bI hF
 refine sc 13 rfl rfl (yC [.agg #[vi n, .slice B2 gates.length c2]] k_call_66 (c_impl_IsValidCircuit (TCircuit.mk n gates) B2 c2 gates.length _ rfl (hS5.inn0 [(false, 1)] rfl) hc)) ?_
 rintro _ w_5 ⟨rfl, hd⟩
 have hS6 := hS5.out00 hd
 refine sQ 14 (Y_not (p := r_2) rfl rfl) (rn ?_)
 refine cw_cond (b := (!r_2)) rfl (fun hb => ?_) (fun hb => ?_)
 ·skip
  have hF1 := ct hF hb
  refine cq (cr ?_)
  refine sQ 15 (Y_buildS (zs := [vi 0, .slice none 0 0]) (vs := []) (cs := [vi 0, .slice none 0 0]) K58 K40 rfl mpn rfl) ?_
  refine s0 (yT 0 2 (aD b) 28 (.agg #[vi 0, .slice none 0 0]) [vi 0, .slice none 0 0] 0 hS6 K21) ?_
  rintro _ w_6 ⟨rfl, hS7⟩
  refine sQ 5 (yg (.bool false)) (rn (ct_ ?_))
  have hS8 := hS7.addNil 76
  obtain ⟨rfl, rfl⟩ := pr2 (sI hF1)
  exact ret2 Try.results36 (v1 := .agg #[vi 0, .slice none 0 0]) (resAt_cellA (B := aD b) (i := 0) (cs := [vi 0, .slice none 0 0]) (vs := [vi 0, .slice none 0 0]) rfl K33 K21 (hS8.c 0) rfl rfl) (v2 := .bool false) (resAt_tmp rfl) ⟨none, 0, rfl, (hS8.sN [3])⟩
 ·skip
  have hF2 := cf' hF hb
  refine cw_skip (cq (cr ?_))
  refine sQ 16 (yb (aD b2) 0 [vi n, .slice B2 gates.length c2] K33 K21 (hS6.c 2)) ?_
  refine s0 (yT 0 2 (aD b) 28 (.agg #[vi n, .slice B2 gates.length c2]) [vi n, .slice B2 gates.length c2] 0 hS6 K21) ?_
  rintro _ w_7 ⟨rfl, hS9⟩
  refine sQ 5 (yg (.bool true)) (rn (ct_ ?_))
  obtain ⟨rfl, rfl⟩ := pr2 (sI hF2)
  exact ret2 Try.results36 (v1 := .agg #[vi n, .slice B2 gates.length c2]) (resAt_cellA (B := aD b) (i := 0) (cs := [vi n, .slice B2 gates.length c2]) (vs := [vi n, .slice B2 gates.length c2]) rfl K33 K21 (hS9.c 0) rfl rfl) (v2 := .bool true) (resAt_tmp rfl) ⟨B2, c2, rfl, (hS9.sN [1])⟩

theorem c_impl_letterOf (p : TPauli) (q : Int)  (w0 : World)  (hS : ST w0 [] w0 [] []) {r_ : Int} (hF : F_impl_letterOf p q = some r_) :
  CV Try.prog 82 #[.agg #[vi p.Phase, vi p.X, vi p.Z], vi q] w0 (fun v w' => v = .int .u8 r_ ∧ ST w0 [] w' [] []) := by
 unfold F_impl_letterOf at hF
 refine cv_of_cw 18 Try.func82 rfl Try.ntmps82 rfl ?_
 refine cq (cr ?_)
 refine sS 2 (yB 111 (.agg #[vi p.Phase, vi p.X, vi p.Z]) [vi p.Phase, vi p.X, vi p.Z] 3 hS) ?_
 rintro _ w_ ⟨b, rfl, hS1⟩
 refine sQ 4 (yg (.int .u8 0)) (rn (cq ?_))
 obtain ⟨hsh, hF⟩ := chk_inv hF
 obtain ⟨hsh1, hF⟩ := chk_inv hF
 obtain ⟨x, hx, hF⟩ := bI hF
 refine ra_start (hS1.se [0]).fn (by kernel_rfl) ?_
 have hS2 := hS1.drew
 refine rq 0 5 (v := pt (aD b) 1) rfl (hS2.se [0]) (fun w' hw' => (yd (aD b) 0 0 K28 K3)) ?_
 refine rq 1 6 (v := vi p.X) rfl (hS2.se [0]) (fun w' hw' => (yl (aD b) 1 [vi p.Phase, vi p.X, vi p.Z] (vi p.X) K4 (ST.cf hw' (i := 0) rfl))) ?_
 refine rq 2 7 (v := vi q) rfl (hS2.se [0]) (fun w' hw' => (ym (vi q))) ?_
 refine rq 3 8 (v := vi (shrK .i64 p.X q)) rfl (hS2.se [0]) (fun w' hw' => (Y_shr (k := .i64) (a := p.X) (k' := .i64) (b := q) rfl rfl rfl hsh)) ?_
 refine rq 4 9 (v := vi (bits .and .i64 (shrK .i64 p.X q) 1)) rfl (hS2.se [0]) (fun w' hw' => (Y_band (k := .i64) (a := (shrK .i64 p.X q)) (b := 1) rfl rfl rfl)) ?_
 refine rq 5 10 (v := pt (aD b) 2) rfl (hS2.se [0]) (fun w' hw' => (yd (aD b) 0 0 K29 K3)) ?_
 refine rq 6 11 (v := vi p.Z) rfl (hS2.se [0]) (fun w' hw' => (yl (aD b) 2 [vi p.Phase, vi p.X, vi p.Z] (vi p.Z) K4 (ST.cf hw' (i := 0) rfl))) ?_
 refine rq 7 12 (v := vi q) rfl (hS2.se [0]) (fun w' hw' => (ym (vi q))) ?_
 refine rq 8 13 (v := vi (shrK .i64 p.Z q)) rfl (hS2.se [0]) (fun w' hw' => (Y_shr (k := .i64) (a := p.Z) (k' := .i64) (b := q) rfl rfl rfl hsh1)) ?_
 refine rq 9 14 (v := vi (bits .and .i64 (shrK .i64 p.Z q) 1)) rfl (hS2.se [0]) (fun w' hw' => (Y_band (k := .i64) (a := (shrK .i64 p.Z q)) (b := 1) rfl rfl rfl)) ?_
 refine rq 10 15 (v := vi (i64.wrap (2 * (bits .and .i64 (shrK .i64 p.Z q) 1)))) rfl (hS2.se [0]) (fun w' hw' => (yX 2 (bits .and .i64 (shrK .i64 p.Z q) 1))) ?_
 refine rq 11 16 (v := vi (i64.wrap ((bits .and .i64 (shrK .i64 p.X q) 1) + (i64.wrap (2 * (bits .and .i64 (shrK .i64 p.Z q) 1)))))) rfl (hS2.se [0]) (fun w' hw' => (yP (bits .and .i64 (shrK .i64 p.X q) 1) (i64.wrap (2 * (bits .and .i64 (shrK .i64 p.Z q) 1))))) ?_
 refine rq 12 17 (v := .int .u8 (x.toNat : Int)) rfl (hS2.se [0]) (fun w' hw' => (Y_sidx (a := ([73, 88, 90, 89] : List UInt8)) (k := .i64) (i := (i64.wrap ((bits .and .i64 (shrK .i64 p.X q) 1) + (i64.wrap (2 * (bits .and .i64 (shrK .i64 p.Z q) 1)))))) (b := x) k_str_9 rfl rfl rfl hx)) ?_
 refine rq 13 4 (v := .int .u8 (x.toNat : Int)) rfl (hS2.se [0]) (fun w' hw' => (yg (.int .u8 (x.toNat : Int)))) ?_
 refine ra_done (by kernel_rfl) ?_
 refine ct_ ?_
 obtain rfl := sI hF
 exact ret1 Try.results82 (v1 := .int .u8 (x.toNat : Int)) (resAt_tmp rfl) ⟨rfl, (hS2.sN [])⟩

theorem c_impl_times (a : TPauli) (b : TPauli)  (w0 : World)  (hS : ST w0 [] w0 [] []) {r_ : TPauli} (hF : F_impl_times a b = some r_) :
  CV Try.prog 146 #[.agg #[vi a.Phase, vi a.X, vi a.Z], .agg #[vi b.Phase, vi b.X, vi b.Z]] w0 (fun v w' => v = .agg #[vi r_.Phase, vi r_.X, vi r_.Z] ∧ ST w0 [] w' [] []) := by
 unfold F_impl_times at hF
 refine cv_of_cw 61 Try.func146 rfl Try.ntmps146 rfl ?_
 refine cq (cr ?_)
 refine sS 2 (yB 111 (.agg #[vi a.Phase, vi a.X, vi a.Z]) [vi a.Phase, vi a.X, vi a.Z] 3 hS) ?_
 rintro _ w_ ⟨b1, rfl, hS1⟩
 refine sS 3 (yB 111 (.agg #[vi b.Phase, vi b.X, vi b.Z]) [vi b.Phase, vi b.X, vi b.Z] 3 hS1) ?_
 rintro _ w_1 ⟨b2, rfl, hS2⟩
 refine sS 4 (yN [vi 0, vi 0, vi 0] 3 hS2 K6) ?_
 rintro _ w_2 ⟨b3, rfl, hS3⟩
 refine rn (cq ?_)
 refine ra_start (hS3.se [0, 1, 2]).fn (by kernel_rfl) ?_
 have hS4 := hS3.drew
 refine rq 0 8 (v := pt (aD b1) 1) rfl (hS4.se [0, 1, 2]) (fun w' hw' => (yd (aD b1) 0 0 K28 K3)) ?_
 refine rq 1 9 (v := vi a.X) rfl (hS4.se [0, 1, 2]) (fun w' hw' => (yl (aD b1) 1 [vi a.Phase, vi a.X, vi a.Z] (vi a.X) K4 (ST.cf hw' (i := 0) rfl))) ?_
 refine rq 2 10 (v := pt (aD b2) 1) rfl (hS4.se [0, 1, 2]) (fun w' hw' => (yd (aD b2) 0 0 K28 K3)) ?_
 refine rq 3 11 (v := vi b.X) rfl (hS4.se [0, 1, 2]) (fun w' hw' => (yl (aD b2) 1 [vi b.Phase, vi b.X, vi b.Z] (vi b.X) K4 (ST.cf hw' (i := 1) rfl))) ?_
 refine rq 4 12 (v := vi (bits .xor .i64 a.X b.X)) rfl (hS4.se [0, 1, 2]) (fun w' hw' => (Y_bxor (k := .i64) (a := a.X) (b := b.X) rfl rfl rfl)) ?_
 refine rq 5 13 (v := pt (aD b1) 2) rfl (hS4.se [0, 1, 2]) (fun w' hw' => (yd (aD b1) 0 0 K29 K3)) ?_
 refine rq 6 14 (v := vi a.Z) rfl (hS4.se [0, 1, 2]) (fun w' hw' => (yl (aD b1) 2 [vi a.Phase, vi a.X, vi a.Z] (vi a.Z) K4 (ST.cf hw' (i := 0) rfl))) ?_
 refine rq 7 15 (v := pt (aD b2) 2) rfl (hS4.se [0, 1, 2]) (fun w' hw' => (yd (aD b2) 0 0 K29 K3)) ?_
 refine rq 8 16 (v := vi b.Z) rfl (hS4.se [0, 1, 2]) (fun w' hw' => (yl (aD b2) 2 [vi b.Phase, vi b.X, vi b.Z] (vi b.Z) K4 (ST.cf hw' (i := 1) rfl))) ?_
 refine rq 9 17 (v := vi (bits .xor .i64 a.Z b.Z)) rfl (hS4.se [0, 1, 2]) (fun w' hw' => (Y_bxor (k := .i64) (a := a.Z) (b := b.Z) rfl rfl rfl)) ?_
 refine rq 10 5 (v := vi (bits .xor .i64 a.X b.X)) rfl (hS4.se [0, 1, 2]) (fun w' hw' => (yg (vi (bits .xor .i64 a.X b.X)))) ?_
 refine rq 11 6 (v := vi (bits .xor .i64 a.Z b.Z)) rfl (hS4.se [0, 1, 2]) (fun w' hw' => (yg (vi (bits .xor .i64 a.Z b.Z)))) ?_
 refine ra_done (by kernel_rfl) ?_
 refine cq ?_
 obtain ⟨r_1, hc, hF⟩ := bI hF
 obtain ⟨r_2, hc1, hF⟩ := bI hF
 obtain ⟨r_3, hc2, hF⟩ := bI hF
 obtain ⟨r_4, hc3, hF⟩ := bI hF
 refine ra_start (hS4.se [0, 1, 2]).fn (by kernel_rfl) ?_
 have hS9 := hS4.drew
 refine rq 0 18 (v := pt (aD b1) 0) rfl (hS9.se [0, 1, 2]) (fun w' hw' => (yd (aD b1) 0 0 K16 K3)) ?_
 refine rq 1 19 (v := vi a.Phase) rfl (hS9.se [0, 1, 2]) (fun w' hw' => (yl (aD b1) 0 [vi a.Phase, vi a.X, vi a.Z] (vi a.Phase) K4 (ST.cf hw' (i := 0) rfl))) ?_
 refine rq 2 20 (v := pt (aD b2) 0) rfl (hS9.se [0, 1, 2]) (fun w' hw' => (yd (aD b2) 0 0 K16 K3)) ?_
 refine rq 3 21 (v := vi b.Phase) rfl (hS9.se [0, 1, 2]) (fun w' hw' => (yl (aD b2) 0 [vi b.Phase, vi b.X, vi b.Z] (vi b.Phase) K4 (ST.cf hw' (i := 1) rfl))) ?_
 refine rq 4 22 (v := vi (i64.wrap (a.Phase + b.Phase))) rfl (hS9.se [0, 1, 2]) (fun w' hw' => (yP a.Phase b.Phase)) ?_
 refine rq 5 23 (v := pt (aD b1) 1) rfl (hS9.se [0, 1, 2]) (fun w' hw' => (yd (aD b1) 0 0 K28 K3)) ?_
 refine rq 6 24 (v := vi a.X) rfl (hS9.se [0, 1, 2]) (fun w' hw' => (yl (aD b1) 1 [vi a.Phase, vi a.X, vi a.Z] (vi a.X) K4 (ST.cf hw' (i := 0) rfl))) ?_
 refine rq 7 25 (v := pt (aD b1) 2) rfl (hS9.se [0, 1, 2]) (fun w' hw' => (yd (aD b1) 0 0 K29 K3)) ?_
 refine rq 8 26 (v := vi a.Z) rfl (hS9.se [0, 1, 2]) (fun w' hw' => (yl (aD b1) 2 [vi a.Phase, vi a.X, vi a.Z] (vi a.Z) K4 (ST.cf hw' (i := 0) rfl))) ?_
 refine rq 9 27 (v := vi (bits .and .i64 a.X a.Z)) rfl (hS9.se [0, 1, 2]) (fun w' hw' => (Y_band (k := .i64) (a := a.X) (b := a.Z) rfl rfl rfl)) ?_
 refine rq 10 28 (v := .int .u64 (IntKind.u64.wrap (bits .and .i64 a.X a.Z))) rfl (hS9.se [0, 1, 2]) (fun w' hw' => (Y_conv (k := .i64) (a := (bits .and .i64 a.X a.Z)) (T := 3) (T' := 92) K35 K36 rfl rfl)) ?_
 refine rq 13 31 (v := pt (aD b2) 1) rfl (hS9.se [0, 1, 2]) (fun w' hw' => (yd (aD b2) 0 0 K28 K3)) ?_
 refine rq 14 32 (v := vi b.X) rfl (hS9.se [0, 1, 2]) (fun w' hw' => (yl (aD b2) 1 [vi b.Phase, vi b.X, vi b.Z] (vi b.X) K4 (ST.cf hw' (i := 1) rfl))) ?_
 refine rq 15 33 (v := pt (aD b2) 2) rfl (hS9.se [0, 1, 2]) (fun w' hw' => (yd (aD b2) 0 0 K29 K3)) ?_
 refine rq 16 34 (v := vi b.Z) rfl (hS9.se [0, 1, 2]) (fun w' hw' => (yl (aD b2) 2 [vi b.Phase, vi b.X, vi b.Z] (vi b.Z) K4 (ST.cf hw' (i := 1) rfl))) ?_
 refine rq 17 35 (v := vi (bits .and .i64 b.X b.Z)) rfl (hS9.se [0, 1, 2]) (fun w' hw' => (Y_band (k := .i64) (a := b.X) (b := b.Z) rfl rfl rfl)) ?_
 refine rq 18 36 (v := .int .u64 (IntKind.u64.wrap (bits .and .i64 b.X b.Z))) rfl (hS9.se [0, 1, 2]) (fun w' hw' => (Y_conv (k := .i64) (a := (bits .and .i64 b.X b.Z)) (T := 3) (T' := 92) K35 K36 rfl rfl)) ?_
 refine rq 21 39 (v := pt (aD b1) 2) rfl (hS9.se [0, 1, 2]) (fun w' hw' => (yd (aD b1) 0 0 K29 K3)) ?_
 refine rq 22 40 (v := vi a.Z) rfl (hS9.se [0, 1, 2]) (fun w' hw' => (yl (aD b1) 2 [vi a.Phase, vi a.X, vi a.Z] (vi a.Z) K4 (ST.cf hw' (i := 0) rfl))) ?_
 refine rq 23 41 (v := pt (aD b2) 1) rfl (hS9.se [0, 1, 2]) (fun w' hw' => (yd (aD b2) 0 0 K28 K3)) ?_
 refine rq 24 42 (v := vi b.X) rfl (hS9.se [0, 1, 2]) (fun w' hw' => (yl (aD b2) 1 [vi b.Phase, vi b.X, vi b.Z] (vi b.X) K4 (ST.cf hw' (i := 1) rfl))) ?_
 refine rq 25 43 (v := vi (bits .and .i64 a.Z b.X)) rfl (hS9.se [0, 1, 2]) (fun w' hw' => (Y_band (k := .i64) (a := a.Z) (b := b.X) rfl rfl rfl)) ?_
 refine rq 26 44 (v := .int .u64 (IntKind.u64.wrap (bits .and .i64 a.Z b.X))) rfl (hS9.se [0, 1, 2]) (fun w' hw' => (Y_conv (k := .i64) (a := (bits .and .i64 a.Z b.X)) (T := 3) (T' := 92) K35 K36 rfl rfl)) ?_
 refine rq 30 48 (v := vi (bits .xor .i64 a.X b.X)) rfl (hS9.se [0, 1, 2]) (fun w' hw' => (ym (vi (bits .xor .i64 a.X b.X)))) ?_
 refine rq 31 49 (v := vi (bits .xor .i64 a.Z b.Z)) rfl (hS9.se [0, 1, 2]) (fun w' hw' => (ym (vi (bits .xor .i64 a.Z b.Z)))) ?_
 refine rq 32 50 (v := vi (bits .and .i64 (bits .xor .i64 a.X b.X) (bits .xor .i64 a.Z b.Z))) rfl (hS9.se [0, 1, 2]) (fun w' hw' => (Y_band (k := .i64) (a := (bits .xor .i64 a.X b.X)) (b := (bits .xor .i64 a.Z b.Z)) rfl rfl rfl)) ?_
 refine rq 33 51 (v := .int .u64 (IntKind.u64.wrap (bits .and .i64 (bits .xor .i64 a.X b.X) (bits .xor .i64 a.Z b.Z)))) rfl (hS9.se [0, 1, 2]) (fun w' hw' => (Y_conv (k := .i64) (a := (bits .and .i64 (bits .xor .i64 a.X b.X) (bits .xor .i64 a.Z b.Z))) (T := 3) (T' := 92) K35 K36 rfl rfl)) ?_
 refine rA [11] ?_
 refine rC 29 11 rfl (yC [.int .u64 (IntKind.u64.wrap (bits .and .i64 a.X a.Z))] K51 (c_math_bits_OnesCount (IntKind.u64.wrap (bits .and .i64 a.X a.Z)) _  (hS9.inn0 [] rfl) hc)) ?_ ?_
 ·rintro _ w_3 ⟨rfl, hd⟩
  have hS10 := hS9.out00 hd
  refine ⟨(hS10.se [0, 1, 2]), ?_⟩
  refine rq 12 30 (v := vi (i64.wrap ((i64.wrap (a.Phase + b.Phase)) + r_1))) rfl (hS10.se [0, 1, 2]) (fun w' hw' => (yP (i64.wrap (a.Phase + b.Phase)) r_1)) ?_
  refine rA [19] ?_
  refine rC 37 19 rfl (yC [.int .u64 (IntKind.u64.wrap (bits .and .i64 b.X b.Z))] K51 (c_math_bits_OnesCount (IntKind.u64.wrap (bits .and .i64 b.X b.Z)) _  (hS10.inn0 [] rfl) hc1)) ?_ ?_
  ·rintro _ w_4 ⟨rfl, hd1⟩
   have hS11 := hS10.out00 hd1
   refine ⟨(hS11.se [0, 1, 2]), ?_⟩
   refine rq 20 38 (v := vi (i64.wrap ((i64.wrap ((i64.wrap (a.Phase + b.Phase)) + r_1)) + r_2))) rfl (hS11.se [0, 1, 2]) (fun w' hw' => (yP (i64.wrap ((i64.wrap (a.Phase + b.Phase)) + r_1)) r_2)) ?_
   refine rA [27] ?_
   refine rC 45 27 rfl (yC [.int .u64 (IntKind.u64.wrap (bits .and .i64 a.Z b.X))] K51 (c_math_bits_OnesCount (IntKind.u64.wrap (bits .and .i64 a.Z b.X)) _  (hS11.inn0 [] rfl) hc2)) ?_ ?_
   ·rintro _ w_5 ⟨rfl, hd2⟩
    have hS12 := hS11.out00 hd2
    refine ⟨(hS12.se [0, 1, 2]), ?_⟩
    refine rq 28 46 (v := vi (i64.wrap (2 * r_3))) rfl (hS12.se [0, 1, 2]) (fun w' hw' => (yX 2 r_3)) ?_
    refine ra_q 29 47 (v := vi (i64.wrap ((i64.wrap ((i64.wrap ((i64.wrap (a.Phase + b.Phase)) + r_1)) + r_2)) + (i64.wrap (2 * r_3))))) rfl rfl rfl (by kernel_rfl) (by kernel_rfl) (by kernel_rfl) (hS12.se [0, 1, 2]) (fun w' hw' => (yP (i64.wrap ((i64.wrap ((i64.wrap (a.Phase + b.Phase)) + r_1)) + r_2)) (i64.wrap (2 * r_3)))) ?_
    refine rA [34] ?_
    refine rC 52 34 rfl (yC [.int .u64 (IntKind.u64.wrap (bits .and .i64 (bits .xor .i64 a.X b.X) (bits .xor .i64 a.Z b.Z)))] K51 (c_math_bits_OnesCount (IntKind.u64.wrap (bits .and .i64 (bits .xor .i64 a.X b.X) (bits .xor .i64 a.Z b.Z))) _  (hS12.inn0 [] rfl) hc3)) ?_ ?_
    ·rintro _ w_6 ⟨rfl, hd3⟩
     have hS13 := hS12.out00 hd3
     refine ⟨(hS13.se [0, 1, 2]), ?_⟩
     refine ra_q 35 53 (v := vi (i64.wrap ((i64.wrap ((i64.wrap ((i64.wrap ((i64.wrap (a.Phase + b.Phase)) + r_1)) + r_2)) + (i64.wrap (2 * r_3)))) - r_4))) rfl rfl rfl (by kernel_rfl) (by kernel_rfl) (by kernel_rfl) (hS13.se [0, 1, 2]) (fun w' hw' => (yM (i64.wrap ((i64.wrap ((i64.wrap ((i64.wrap (a.Phase + b.Phase)) + r_1)) + r_2)) + (i64.wrap (2 * r_3)))) r_4)) ?_
     refine ra_q 36 7 (v := vi (i64.wrap ((i64.wrap ((i64.wrap ((i64.wrap ((i64.wrap (a.Phase + b.Phase)) + r_1)) + r_2)) + (i64.wrap (2 * r_3)))) - r_4))) rfl rfl rfl (by kernel_rfl) (by kernel_rfl) (by kernel_rfl) (hS13.se [0, 1, 2]) (fun w' hw' => (yg (vi (i64.wrap ((i64.wrap ((i64.wrap ((i64.wrap ((i64.wrap (a.Phase + b.Phase)) + r_1)) + r_2)) + (i64.wrap (2 * r_3)))) - r_4))))) ?_
     refine ra_done (by kernel_rfl) ?_
     refine cq (cr ?_)
     refine sQ 54 (ym (vi (i64.wrap ((i64.wrap ((i64.wrap ((i64.wrap ((i64.wrap (a.Phase + b.Phase)) + r_1)) + r_2)) + (i64.wrap (2 * r_3)))) - r_4)))) <| sQ 55 (Y_rem (k := .i64) (a := (i64.wrap ((i64.wrap ((i64.wrap ((i64.wrap ((i64.wrap (a.Phase + b.Phase)) + r_1)) + r_2)) + (i64.wrap (2 * r_3)))) - r_4))) (b := 4) rfl rfl rfl (by decide)) <| sQ 56 (yP (Int.tmod (i64.wrap ((i64.wrap ((i64.wrap ((i64.wrap ((i64.wrap (a.Phase + b.Phase)) + r_1)) + r_2)) + (i64.wrap (2 * r_3)))) - r_4)) 4) 4) <| sQ 57 (Y_rem (k := .i64) (a := (i64.wrap ((Int.tmod (i64.wrap ((i64.wrap ((i64.wrap ((i64.wrap ((i64.wrap (a.Phase + b.Phase)) + r_1)) + r_2)) + (i64.wrap (2 * r_3)))) - r_4)) 4) + 4))) (b := 4) rfl rfl rfl (by decide)) <| sQ 58 (ym (vi (bits .xor .i64 a.X b.X))) <| sQ 59 (ym (vi (bits .xor .i64 a.Z b.Z))) ?_
     refine sQ 60 (Y_buildS (zs := [vi 0, vi 0, vi 0]) (vs := [(0, vi (Int.tmod (i64.wrap ((Int.tmod (i64.wrap ((i64.wrap ((i64.wrap ((i64.wrap ((i64.wrap (a.Phase + b.Phase)) + r_1)) + r_2)) + (i64.wrap (2 * r_3)))) - r_4)) 4) + 4)) 4)), (1, vi (bits .xor .i64 a.X b.X)), (2, vi (bits .xor .i64 a.Z b.Z))]) (cs := [vi (Int.tmod (i64.wrap ((Int.tmod (i64.wrap ((i64.wrap ((i64.wrap ((i64.wrap ((i64.wrap (a.Phase + b.Phase)) + r_1)) + r_2)) + (i64.wrap (2 * r_3)))) - r_4)) 4) + 4)) 4), vi (bits .xor .i64 a.X b.X), vi (bits .xor .i64 a.Z b.Z)]) K23 K6 rfl (mpc rfl (mpc rfl (mpc rfl mpn))) rfl) ?_
     refine s0 (yT 2 3 (aD b3) 111 (.agg #[vi (Int.tmod (i64.wrap ((Int.tmod (i64.wrap ((i64.wrap ((i64.wrap ((i64.wrap ((i64.wrap (a.Phase + b.Phase)) + r_1)) + r_2)) + (i64.wrap (2 * r_3)))) - r_4)) 4) + 4)) 4), vi (bits .xor .i64 a.X b.X), vi (bits .xor .i64 a.Z b.Z)]) [vi (Int.tmod (i64.wrap ((Int.tmod (i64.wrap ((i64.wrap ((i64.wrap ((i64.wrap ((i64.wrap (a.Phase + b.Phase)) + r_1)) + r_2)) + (i64.wrap (2 * r_3)))) - r_4)) 4) + 4)) 4), vi (bits .xor .i64 a.X b.X), vi (bits .xor .i64 a.Z b.Z)] 0 hS13 K0) ?_
     rintro _ w_7 ⟨rfl, hS14⟩
     refine rn (ct_ ?_)
     obtain rfl := sI hF
     exact ret1 Try.results146 (v1 := .agg #[vi (Int.tmod (i64.wrap ((Int.tmod (i64.wrap ((i64.wrap ((i64.wrap ((i64.wrap ((i64.wrap (a.Phase + b.Phase)) + r_1)) + r_2)) + (i64.wrap (2 * r_3)))) - r_4)) 4) + 4)) 4), vi (bits .xor .i64 a.X b.X), vi (bits .xor .i64 a.Z b.Z)]) (resAt_cellA (B := aD b3) (i := 0) (cs := [vi (Int.tmod (i64.wrap ((Int.tmod (i64.wrap ((i64.wrap ((i64.wrap ((i64.wrap ((i64.wrap (a.Phase + b.Phase)) + r_1)) + r_2)) + (i64.wrap (2 * r_3)))) - r_4)) 4) + 4)) 4), vi (bits .xor .i64 a.X b.X), vi (bits .xor .i64 a.Z b.Z)]) (vs := [vi (Int.tmod (i64.wrap ((Int.tmod (i64.wrap ((i64.wrap ((i64.wrap ((i64.wrap ((i64.wrap (a.Phase + b.Phase)) + r_1)) + r_2)) + (i64.wrap (2 * r_3)))) - r_4)) 4) + 4)) 4), vi (bits .xor .i64 a.X b.X), vi (bits .xor .i64 a.Z b.Z)]) rfl K12 K0 (hS14.c 2) rfl rfl) ⟨rfl, (hS14.sN [])⟩
    exact aN
   exact aN
  exact aN
 exact aN

theorem c_impl_image (t : TTableau) (p : TPauli) (B : Option Addr) (c n : Nat) (B1 : Option Addr) (c1 n1 : Nat) (w0 : World) (hn : t.XImages.length = n) (hn1 : t.ZImages.length = n1) (hS : ST w0 [] w0 [] [⟨B, (t.XImages.flatMap eN0)⟩, ⟨B1, (t.ZImages.flatMap eN0)⟩]) {r_ : TPauli} (hF : F_impl_image t p = some r_) :
  CV Try.prog 134 #[.agg #[vi t.Qubits, .slice B n c, .slice B1 n1 c1], .agg #[vi p.Phase, vi p.X, vi p.Z]] w0 (fun v w' => v = .agg #[vi r_.Phase, vi r_.X, vi r_.Z] ∧ ST w0 [] w' [] []) := by
 subst hn
 subst hn1
 unfold F_impl_image at hF
 refine cv_of_cw 52 Try.func134 rfl Try.ntmps134 rfl ?_
 refine cq (cr ?_)
 refine sS 2 (yB 33 (.agg #[vi t.Qubits, .slice B t.XImages.length c, .slice B1 t.ZImages.length c1]) [vi t.Qubits, .slice B t.XImages.length c, .slice B1 t.ZImages.length c1] 3 hS) ?_
 rintro _ w_ ⟨b, rfl, hS1⟩
 refine sS 3 (yB 111 (.agg #[vi p.Phase, vi p.X, vi p.Z]) [vi p.Phase, vi p.X, vi p.Z] 3 hS1) ?_
 rintro _ w_1 ⟨b1, rfl, hS2⟩
 refine sS 4 (yN [vi 0, vi 0, vi 0] 3 hS2 K6) ?_
 rintro _ w_2 ⟨b2, rfl, hS3⟩
 refine rn (cq ?_)
 obtain ⟨r_1, hc, hF⟩ := bI hF
 refine cw_mid (fun f w => ∃ (B2 : Option Addr), FF f [(2, pt (aD b) 0), (3, pt (aD b1) 0), (4, pt (aD b2) 0), (5, pt B2 0)] ∧ ST w0 [] w [⟨aD b, 33, [vi t.Qubits, .slice B t.XImages.length c, .slice B1 t.ZImages.length c1], 3⟩, ⟨aD b1, 111, [vi p.Phase, vi p.X, vi p.Z], 3⟩, ⟨aD b2, 111, [vi 0, vi 0, vi 0], 3⟩, ⟨B2, 111, [vi (Int.tmod (i64.wrap (p.Phase + r_1)) 4), vi 0, vi 0], 3⟩] [⟨B, (t.XImages.flatMap eN0)⟩, ⟨B1, (t.ZImages.flatMap eN0)⟩]) ?_ ?_
 ·skip
  refine ra_start (hS3.se [0, 1, 2]).fn (by kernel_rfl) ?_
  have hS6 := hS3.drew
  refine rq 0 7 (v := pt (aD b1) 0) rfl (hS6.se [0, 1, 2]) (fun w' hw' => (yd (aD b1) 0 0 K16 K3)) ?_
  refine rq 1 8 (v := vi p.Phase) rfl (hS6.se [0, 1, 2]) (fun w' hw' => (yl (aD b1) 0 [vi p.Phase, vi p.X, vi p.Z] (vi p.Phase) K4 (ST.cf hw' (i := 1) rfl))) ?_
  refine rq 2 9 (v := pt (aD b1) 1) rfl (hS6.se [0, 1, 2]) (fun w' hw' => (yd (aD b1) 0 0 K28 K3)) ?_
  refine rq 3 10 (v := vi p.X) rfl (hS6.se [0, 1, 2]) (fun w' hw' => (yl (aD b1) 1 [vi p.Phase, vi p.X, vi p.Z] (vi p.X) K4 (ST.cf hw' (i := 1) rfl))) ?_
  refine rq 4 11 (v := pt (aD b1) 2) rfl (hS6.se [0, 1, 2]) (fun w' hw' => (yd (aD b1) 0 0 K29 K3)) ?_
  refine rq 5 12 (v := vi p.Z) rfl (hS6.se [0, 1, 2]) (fun w' hw' => (yl (aD b1) 2 [vi p.Phase, vi p.X, vi p.Z] (vi p.Z) K4 (ST.cf hw' (i := 1) rfl))) ?_
  refine rq 6 13 (v := vi (bits .and .i64 p.X p.Z)) rfl (hS6.se [0, 1, 2]) (fun w' hw' => (Y_band (k := .i64) (a := p.X) (b := p.Z) rfl rfl rfl)) ?_
  refine rq 7 14 (v := .int .u64 (IntKind.u64.wrap (bits .and .i64 p.X p.Z))) rfl (hS6.se [0, 1, 2]) (fun w' hw' => (Y_conv (k := .i64) (a := (bits .and .i64 p.X p.Z)) (T := 3) (T' := 92) K35 K36 rfl rfl)) ?_
  refine rA [8, 12] ?_
  refine rC 15 8 rfl (yC [.int .u64 (IntKind.u64.wrap (bits .and .i64 p.X p.Z))] K51 (c_math_bits_OnesCount (IntKind.u64.wrap (bits .and .i64 p.X p.Z)) _  (hS6.inn0 [] rfl) hc)) ?_ ?_
  ·rintro _ w_3 ⟨rfl, hd⟩
   have hS7 := hS6.out00 hd
   refine ⟨(hS7.se [0, 1, 2]), ?_⟩
   refine rq 9 16 (v := vi (i64.wrap (p.Phase + r_1))) rfl (hS7.se [0, 1, 2]) (fun w' hw' => (yP p.Phase r_1)) ?_
   refine rq 10 17 (v := vi (Int.tmod (i64.wrap (p.Phase + r_1)) 4)) rfl (hS7.se [0, 1, 2]) (fun w' hw' => (Y_rem (k := .i64) (a := (i64.wrap (p.Phase + r_1))) (b := 4) rfl rfl rfl (by decide))) ?_
   refine rq 11 18 (v := .agg #[vi (Int.tmod (i64.wrap (p.Phase + r_1)) 4), vi 0, vi 0]) rfl (hS7.se [0, 1, 2]) (fun w' hw' => (Y_buildS (zs := [vi 0, vi 0, vi 0]) (vs := [(0, vi (Int.tmod (i64.wrap (p.Phase + r_1)) 4))]) (cs := [vi (Int.tmod (i64.wrap (p.Phase + r_1)) 4), vi 0, vi 0]) K23 K6 rfl (mpc rfl mpn) rfl)) ?_
   refine rA [12] ?_
   refine rS 5 12 rfl (yN [vi 0, vi 0, vi 0] 3 hS7 K6) ?_ ?_
   ·rintro _ w_4 ⟨b3, rfl, hS8⟩
    refine ⟨(hS8.se [0, 1, 2]), ?_⟩
    refine rA [13] ?_
    refine rZ 13 rfl (yT 3 3 (aD b3) 111 (.agg #[vi (Int.tmod (i64.wrap (p.Phase + r_1)) 4), vi 0, vi 0]) [vi (Int.tmod (i64.wrap (p.Phase + r_1)) 4), vi 0, vi 0] 0 hS8 K0) ?_ ?_
    ·rintro _ w_5 ⟨rfl, hS9⟩
     refine ⟨(hS9.se [0, 1, 2]), ?_⟩
     refine ra_done (by kernel_rfl) ?_
     exact ⟨aD b3, (fc rfl (fc rfl (fc rfl (fc rfl fn_)))), (hS9.sel [0, 1, 2, 3] rfl rfl)⟩
    exact aN
   exact aN
  refine rS 5 12 rfl (yN [vi 0, vi 0, vi 0] 3 hS6 K6) ?_ ?_
  ·rintro _ w_6 ⟨b3, rfl, hS10⟩
   refine ⟨(hS10.se [0, 1, 2]), ?_⟩
   refine rA [8] ?_
   refine rC 15 8 rfl (yC [.int .u64 (IntKind.u64.wrap (bits .and .i64 p.X p.Z))] K51 (c_math_bits_OnesCount (IntKind.u64.wrap (bits .and .i64 p.X p.Z)) _  (hS10.inn0 [] rfl) hc)) ?_ ?_
   ·rintro _ w_7 ⟨rfl, hd1⟩
    have hS11 := hS10.out00 hd1
    refine ⟨(hS11.se [0, 1, 2]), ?_⟩
    refine rq 9 16 (v := vi (i64.wrap (p.Phase + r_1))) rfl (hS11.se [0, 1, 2]) (fun w' hw' => (yP p.Phase r_1)) ?_
    refine rq 10 17 (v := vi (Int.tmod (i64.wrap (p.Phase + r_1)) 4)) rfl (hS11.se [0, 1, 2]) (fun w' hw' => (Y_rem (k := .i64) (a := (i64.wrap (p.Phase + r_1))) (b := 4) rfl rfl rfl (by decide))) ?_
    refine rq 11 18 (v := .agg #[vi (Int.tmod (i64.wrap (p.Phase + r_1)) 4), vi 0, vi 0]) rfl (hS11.se [0, 1, 2]) (fun w' hw' => (Y_buildS (zs := [vi 0, vi 0, vi 0]) (vs := [(0, vi (Int.tmod (i64.wrap (p.Phase + r_1)) 4))]) (cs := [vi (Int.tmod (i64.wrap (p.Phase + r_1)) 4), vi 0, vi 0]) K23 K6 rfl (mpc rfl mpn) rfl)) ?_
    refine rA [13] ?_
    refine rZ 13 rfl (yT 3 3 (aD b3) 111 (.agg #[vi (Int.tmod (i64.wrap (p.Phase + r_1)) 4), vi 0, vi 0]) [vi (Int.tmod (i64.wrap (p.Phase + r_1)) 4), vi 0, vi 0] 0 hS11 K0) ?_ ?_
    ·rintro _ w_8 ⟨rfl, hS12⟩
     refine ⟨(hS12.se [0, 1, 2]), ?_⟩
     refine ra_done (by kernel_rfl) ?_
     exact ⟨aD b3, (fc rfl (fc rfl (fc rfl (fc rfl fn_)))), (hS12.sel [0, 1, 2, 3] rfl rfl)⟩
    exact aN
   exact aN
  exact aN
 rintro f w ⟨B2, hf, hS5⟩
 refine cq (cq (cr ?_))
 refine sQ 19 (yd (aD b) 0 0 K22 K3 rfl (hf.g 2 0)) <| sQ 20 (yl (aD b) 0 [vi t.Qubits, .slice B t.XImages.length c, .slice B1 t.ZImages.length c1] (vi t.Qubits) K4 (hS5.c 0)) <| sQ 21 (ym (vi 0)) (rn ?_)
 obtain ⟨hN, hF⟩ := chk_inv hF
 obtain ⟨z, hz, hF1⟩ := bI hF
 refine cw_block ?_
 refine cw_loop (fun k f w => ∃ (i : Nat) (Phase : Int) (X : Int) (Z : Int), FF f [(2, pt (aD b) 0), (3, pt (aD b1) 0), (4, pt (aD b2) 0), (5, pt B2 0), (20, vi t.Qubits), (21, vi (i : Int))] ∧ ST w0 [] w [⟨aD b, 33, [vi t.Qubits, .slice B t.XImages.length c, .slice B1 t.ZImages.length c1], 3⟩, ⟨aD b1, 111, [vi p.Phase, vi p.X, vi p.Z], 3⟩, ⟨aD b2, 111, [vi 0, vi 0, vi 0], 3⟩, ⟨B2, 111, [vi Phase, vi X, vi Z], 3⟩] [⟨B, (t.XImages.flatMap eN0)⟩, ⟨B1, (t.ZImages.flatMap eN0)⟩] ∧ i + k = t.Qubits.toNat ∧ forN (F_impl_image_l1 p t) k i (Phase, X, Z) = some z) t.Qubits.toNat ⟨0, (Int.tmod (i64.wrap (p.Phase + r_1)) 4), 0, 0, (fc (hf.g 2 0) (fc (hf.g 3 1) (fc (hf.g 4 2) (fc (hf.g 5 3) (fc rfl (fc rfl fn_)))))), (hS5.sel [0, 1, 2, 3] rfl rfl), Nat.zero_add _, hz⟩ ?_
 rintro k_ f w ⟨i, Phase, X, Z, hf1, hS13, hik, hL⟩
 refine cq (cr ?_)
 refine sQ 22 (yL (i : Int) t.Qubits rfl (hf1.g 21 5) (hf1.g 20 4)) (rn (cq ?_))
 refine cw_cond (b := (decide ((i : Int) < t.Qubits))) rfl (fun hlt => ?_) (fun hlt => ?_)
 ·skip
  have hlt1 : i < t.Qubits.toNat := by have h := of_decide_eq_true hlt; omega
  obtain ⟨K5, rfl⟩ : ∃ k2, k_ = k2 + 1 := ⟨k_ - 1, by omega⟩
  obtain ⟨y, hb, hL1⟩ := forN_go hL
  unfold F_impl_image_l1 at hb
  refine cw_skip (cq ?_)
  obtain ⟨z1, hz1, hF2⟩ := bI hb
  refine cw_mid (fun f w => ∃ (Phase1 : Int) (X1 : Int) (Z1 : Int), (Phase1, X1, Z1) = z1 ∧ FF f [(2, pt (aD b) 0), (3, pt (aD b1) 0), (4, pt (aD b2) 0), (5, pt B2 0), (20, vi t.Qubits), (21, vi (i : Int))] ∧ ST w0 [] w [⟨aD b, 33, [vi t.Qubits, .slice B t.XImages.length c, .slice B1 t.ZImages.length c1], 3⟩, ⟨aD b1, 111, [vi p.Phase, vi p.X, vi p.Z], 3⟩, ⟨aD b2, 111, [vi 0, vi 0, vi 0], 3⟩, ⟨B2, 111, [vi Phase1, vi X1, vi Z1], 3⟩] [⟨B, (t.XImages.flatMap eN0)⟩, ⟨B1, (t.ZImages.flatMap eN0)⟩]) ?_ ?_
  ·skip
   refine cw_block (cq (cr ?_))
   refine sQ 23 (ym (vi (i : Int)) rfl (hf1.g 21 5)) <| sQ 6 (yg (vi (i : Int))) (rn (cq ?_))
   obtain ⟨z2, hz2, hF3⟩ := bI hz1
   refine cw_mid (fun f w => ∃ (Phase2 : Int) (X2 : Int) (Z2 : Int), (Phase2, X2, Z2) = z2 ∧ FF f [(2, pt (aD b) 0), (3, pt (aD b1) 0), (4, pt (aD b2) 0), (5, pt B2 0), (6, vi (i : Int)), (20, vi t.Qubits), (21, vi (i : Int))] ∧ ST w0 [] w [⟨aD b, 33, [vi t.Qubits, .slice B t.XImages.length c, .slice B1 t.ZImages.length c1], 3⟩, ⟨aD b1, 111, [vi p.Phase, vi p.X, vi p.Z], 3⟩, ⟨aD b2, 111, [vi 0, vi 0, vi 0], 3⟩, ⟨B2, 111, [vi Phase2, vi X2, vi Z2], 3⟩] [⟨B, (t.XImages.flatMap eN0)⟩, ⟨B1, (t.ZImages.flatMap eN0)⟩]) ?_ ?_
   ·skip
    refine cq (cr ?_)
    refine sQ 24 (yd (aD b1) 0 0 K28 K3 rfl (hf1.g 3 1)) <| sQ 25 (yl (aD b1) 1 [vi p.Phase, vi p.X, vi p.Z] (vi p.X) K4 (hS13.c 1)) <| sQ 26 (ym (vi (i : Int))) ?_
    obtain ⟨hsh, hz2⟩ := chk_inv hz2
    refine sQ 27 (Y_shr (k := .i64) (a := p.X) (k' := .i64) (b := (i : Int)) rfl rfl rfl hsh) <| sQ 28 (Y_band (k := .i64) (a := (shrK .i64 p.X (i : Int))) (b := 1) rfl rfl rfl) <| sQ 29 (yE (bits .and .i64 (shrK .i64 p.X (i : Int)) 1) 1) (rn ?_)
    refine cw_cond (b := ((bits .and .i64 (shrK .i64 p.X (i : Int)) 1) == 1)) rfl (fun hb1 => ?_) (fun hb1 => ?_)
    ·skip
     have hF4 := ct hz2 hb1
     obtain ⟨x, hx, hF4⟩ := bI hF4
     obtain ⟨r_2, hc1, hF4⟩ := bI hF4
     refine ra_start (hS13.se [0, 1, 2]).fn (by kernel_rfl) ?_
     have hS17 := hS13.drew
     refine rq 1 31 (v := pt (aD b) 1) rfl (hS17.se [0, 1, 2]) (fun w' hw' => (yd (aD b) 0 0 K9 K1 rfl (hf1.g 2 0))) ?_
     refine rq 2 32 (v := .slice B t.XImages.length c) rfl (hS17.se [0, 1, 2]) (fun w' hw' => (yl (aD b) 1 [vi t.Qubits, .slice B t.XImages.length c, .slice B1 t.ZImages.length c1] (.slice B t.XImages.length c) K7 (ST.cf hw' (i := 0) rfl))) ?_
     refine rq 3 33 (v := vi (i : Int)) rfl (hS17.se [0, 1, 2]) (fun w' hw' => (ym (vi (i : Int)))) ?_
     refine rq 4 34 (v := pt B ((i : Int).toNat * 3)) rfl (hS17.se [0, 1, 2]) (fun w' hw' => (Y_index (B := B) (m := t.XImages.length) (c := c) (k := .i64) (i := (i : Int)) K2 K0 rfl rfl rfl (gi_isSome eN1 rfl (ST.rf hw' (i := 0) rfl) hx) (getI_nn hx) (getI_ltI hx rfl))) ?_
     refine rq 5 35 (v := .agg #[vi x.Phase, vi x.X, vi x.Z]) rfl (hS17.se [0, 1, 2]) (fun w' hw' => (ya B ((i : Int).toNat * 3) (t.XImages.flatMap eN0) [vi x.Phase, vi x.X, vi x.Z] K12 K0 (ST.rf hw' (i := 0) rfl) rfl rfl (eN1 x) (gi_seg eN1 hx))) ?_
     refine rA [0] ?_
     refine ra_y 30 (i := 0) (v := .agg #[vi Phase, vi X, vi Z]) rfl rfl rfl (yb B2 0 [vi Phase, vi X, vi Z] K12 K0 (hS17.c 3) rfl (hf1.g 5 3)) (hS17.se [0, 1, 2]) ?_ ?_
     ·skip
      refine rA [6] ?_
      refine rC 36 6 rfl (yC [.agg #[vi Phase, vi X, vi Z], .agg #[vi x.Phase, vi x.X, vi x.Z]] k_call_146 (c_impl_times (TPauli.mk Phase X Z) x _  (hS17.inn0 [] rfl) hc1)) ?_ ?_
      ·rintro _ w_9 ⟨rfl, hd2⟩
       have hS18 := hS17.out00 hd2
       refine ⟨(hS18.se [0, 1, 2]), ?_⟩
       refine rA [7] ?_
       refine rZ 7 rfl (yT 3 3 B2 111 (.agg #[vi r_2.Phase, vi r_2.X, vi r_2.Z]) [vi r_2.Phase, vi r_2.X, vi r_2.Z] 0 hS18 K0 rfl (hf1.g 5 3)) ?_ ?_
       ·rintro _ w_10 ⟨rfl, hS19⟩
        refine ⟨(hS19.se [0, 1, 2]), ?_⟩
        refine ra_done (by kernel_rfl) ?_
        exact ⟨r_2.Phase, r_2.X, r_2.Z, (sI hF4), (fc (hf1.g 2 0) (fc (hf1.g 3 1) (fc (hf1.g 4 2) (fc (hf1.g 5 3) (fc rfl (fc (hf1.g 20 4) (fc (hf1.g 21 5) fn_))))))), (hS19.sel [0, 1, 2, 3] rfl rfl)⟩
       exact aN
      exact aN
     exact aN
    ·skip
     have hF5 := cf' hz2 hb1
     refine cw_skip ?_
     exact ⟨Phase, X, Z, (sI hF5), (fc (hf1.g 2 0) (fc (hf1.g 3 1) (fc (hf1.g 4 2) (fc (hf1.g 5 3) (fc rfl (fc (hf1.g 20 4) (fc (hf1.g 21 5) fn_))))))), (hS13.sel [0, 1, 2, 3] rfl rfl)⟩
   rintro f w ⟨Phase2, X2, Z2, rfl, hf3, hS15⟩
   refine cq (cr ?_)
   refine sQ 37 (yd (aD b1) 0 0 K29 K3 rfl (hf3.g 3 1)) <| sQ 38 (yl (aD b1) 2 [vi p.Phase, vi p.X, vi p.Z] (vi p.Z) K4 (hS15.c 1)) <| sQ 39 (ym (vi (i : Int)) rfl (hf3.g 6 4)) ?_
   obtain ⟨hsh1, hF3⟩ := chk_inv hF3
   refine sQ 40 (Y_shr (k := .i64) (a := p.Z) (k' := .i64) (b := (i : Int)) rfl rfl rfl hsh1) <| sQ 41 (Y_band (k := .i64) (a := (shrK .i64 p.Z (i : Int))) (b := 1) rfl rfl rfl) <| sQ 42 (yE (bits .and .i64 (shrK .i64 p.Z (i : Int)) 1) 1) (rn ?_)
   refine cw_cond (b := ((bits .and .i64 (shrK .i64 p.Z (i : Int)) 1) == 1)) rfl (fun hb2 => ?_) (fun hb2 => ?_)
   ·skip
    have hF6 := ct hF3 hb2
    obtain ⟨x1, hx1, hF6⟩ := bI hF6
    obtain ⟨r_3, hc2, hF6⟩ := bI hF6
    refine ra_start (hS15.se [0, 1, 2]).fn (by kernel_rfl) ?_
    have hS21 := hS15.drew
    refine rq 1 44 (v := pt (aD b) 2) rfl (hS21.se [0, 1, 2]) (fun w' hw' => (yd (aD b) 0 0 K10 K1 rfl (hf3.g 2 0))) ?_
    refine rq 2 45 (v := .slice B1 t.ZImages.length c1) rfl (hS21.se [0, 1, 2]) (fun w' hw' => (yl (aD b) 2 [vi t.Qubits, .slice B t.XImages.length c, .slice B1 t.ZImages.length c1] (.slice B1 t.ZImages.length c1) K7 (ST.cf hw' (i := 0) rfl))) ?_
    refine rq 3 46 (v := vi (i : Int)) rfl (hS21.se [0, 1, 2]) (fun w' hw' => (ym (vi (i : Int)) rfl (hf3.g 6 4))) ?_
    refine rq 4 47 (v := pt B1 ((i : Int).toNat * 3)) rfl (hS21.se [0, 1, 2]) (fun w' hw' => (Y_index (B := B1) (m := t.ZImages.length) (c := c1) (k := .i64) (i := (i : Int)) K2 K0 rfl rfl rfl (gi_isSome eN1 rfl (ST.rf hw' (i := 1) rfl) hx1) (getI_nn hx1) (getI_ltI hx1 rfl))) ?_
    refine rq 5 48 (v := .agg #[vi x1.Phase, vi x1.X, vi x1.Z]) rfl (hS21.se [0, 1, 2]) (fun w' hw' => (ya B1 ((i : Int).toNat * 3) (t.ZImages.flatMap eN0) [vi x1.Phase, vi x1.X, vi x1.Z] K12 K0 (ST.rf hw' (i := 1) rfl) rfl rfl (eN1 x1) (gi_seg eN1 hx1))) ?_
    refine rA [0] ?_
    refine ra_y 43 (i := 0) (v := .agg #[vi Phase2, vi X2, vi Z2]) rfl rfl rfl (yb B2 0 [vi Phase2, vi X2, vi Z2] K12 K0 (hS21.c 3) rfl (hf3.g 5 3)) (hS21.se [0, 1, 2]) ?_ ?_
    ·skip
     refine rA [6] ?_
     refine rC 49 6 rfl (yC [.agg #[vi Phase2, vi X2, vi Z2], .agg #[vi x1.Phase, vi x1.X, vi x1.Z]] k_call_146 (c_impl_times (TPauli.mk Phase2 X2 Z2) x1 _  (hS21.inn0 [] rfl) hc2)) ?_ ?_
     ·rintro _ w_11 ⟨rfl, hd3⟩
      have hS22 := hS21.out00 hd3
      refine ⟨(hS22.se [0, 1, 2]), ?_⟩
      refine rA [7] ?_
      refine rZ 7 rfl (yT 3 3 B2 111 (.agg #[vi r_3.Phase, vi r_3.X, vi r_3.Z]) [vi r_3.Phase, vi r_3.X, vi r_3.Z] 0 hS22 K0 rfl (hf3.g 5 3)) ?_ ?_
      ·rintro _ w_12 ⟨rfl, hS23⟩
       refine ⟨(hS23.se [0, 1, 2]), ?_⟩
       refine ra_done (by kernel_rfl) ?_
       exact ⟨r_3.Phase, r_3.X, r_3.Z, (sI hF6), (fc (hf3.g 2 0) (fc (hf3.g 3 1) (fc (hf3.g 4 2) (fc (hf3.g 5 3) (fc (hf3.g 20 5) (fc (hf3.g 21 6) fn_)))))), (hS23.sel [0, 1, 2, 3] rfl rfl)⟩
      exact aN
     exact aN
    exact aN
   ·skip
    have hF7 := cf' hF3 hb2
    refine cw_skip ?_
    exact ⟨Phase2, X2, Z2, (sI hF7), (fc (hf3.g 2 0) (fc (hf3.g 3 1) (fc (hf3.g 4 2) (fc (hf3.g 5 3) (fc (hf3.g 20 5) (fc (hf3.g 21 6) fn_)))))), (hS15.sel [0, 1, 2, 3] rfl rfl)⟩
  rintro f w ⟨Phase1, X1, Z1, rfl, hf2, hS14⟩
  refine cr ?_
  refine sQ 50 (yP (i : Int) 1 rfl (hf2.g 21 5)) <| sQ 21 (ym (vi (i64.wrap ((i : Int) + 1)))) (rn ?_)
  obtain rfl := sI hF2
  exact ⟨K5, Nat.lt_succ_self _, i + 1, Phase1, X1, Z1, (fc (hf2.g 2 0) (fc (hf2.g 3 1) (fc (hf2.g 4 2) (fc (hf2.g 5 3) (fc (hf2.g 20 4) (fc (congrArg (Value.int .i64) (wr_succ hlt1 hN)) fn_)))))), (hS14.sel [0, 1, 2, 3] rfl rfl), (by omega), hL1⟩
 ·skip
  obtain rfl : k_ = 0 := by have h := of_decide_eq_false hlt; omega
  refine cw_exit rfl ?_
  obtain rfl := sI hL
  refine cq (cr ?_)
  refine sQ 51 (yb B2 0 [vi Phase, vi X, vi Z] K12 K0 (hS13.c 3) rfl (hf1.g 5 3)) ?_
  refine s0 (yT 2 3 (aD b2) 111 (.agg #[vi Phase, vi X, vi Z]) [vi Phase, vi X, vi Z] 0 hS13 K0 rfl (hf1.g 4 2)) ?_
  rintro _ w_13 ⟨rfl, hS24⟩
  refine rn (ct_ ?_)
  obtain rfl := sI hF1
  exact ret1 Try.results134 (v1 := .agg #[vi Phase, vi X, vi Z]) (resAt_cellA (B := aD b2) (i := 0) (cs := [vi Phase, vi X, vi Z]) (vs := [vi Phase, vi X, vi Z]) (hf1.g 4 2) K12 K0 (hS24.c 2) rfl rfl) ⟨rfl, (hS24.sN [])⟩
end Go.VK
