/- Walks: each Go function returns what its Lean function says. By program. -/
import Derived.Test.YtgacclcoghlhmaaNormalizeCliffordFa
import Derived.Test.YtgacclcoghlhmaaNormalizeCliffordShelf
import Derived.Test.YtgacclcoghlhmaaLibQ
import Derived.Test.YtgacclcoghlhmaaNormalizeCliffordW3
set_option linter.unusedVariables false
set_option maxRecDepth 100000
set_option maxHeartbeats 4000000
namespace Go.VK
open Go.RowKit
open Go.Proofs
open Go.IntKind
attribute [local irreducible] CW RW RA CV Y Yw Yc Ys RetOf
attribute [local irreducible] F_math_bits_OnesCount64 F_math_bits_OnesCount F_impl_times F_impl_image F_impl_compose
theorem c_math_bits_OnesCount64 (x : Int)  (w0 : World)  (hS : ST w0 [] w0 [] []) {r_ : Int} (hF : F_math_bits_OnesCount64 x = some r_) :
  CV Try.prog 72 #[.int .u64 x] w0 (fun v w' => v = vi r_ ∧ ST w0 [] w' [] []) := by
 unfold F_math_bits_OnesCount64 at hF
 refine cv_of_cw 35 Try.func72 rfl Try.ntmps72 rfl ?_
 refine cq (cr ?_)
 refine sQ 2 (yg (vi 0)) (rn (cq (cr ?_)))
 refine sQ 3 (ym (.int .u64 x)) <| sQ 4 (Y_shr (k := .u64) (a := x) (k' := .u64) (b := 1) rfl rfl rfl (by decide)) <| sQ 5 (Y_band (k := .u64) (a := (shrK .u64 x 1)) (b := 6148914691236517205) rfl rfl rfl) <| sQ 6 (ym (.int .u64 x)) <| sQ 7 (Y_band (k := .u64) (a := x) (b := 6148914691236517205) rfl rfl rfl) <| sQ 8 (Y_add (k := .u64) (a := (bits .and .u64 (shrK .u64 x 1) 6148914691236517205)) (b := (bits .and .u64 x 6148914691236517205)) rfl rfl rfl) ?_
 refine sQ 0 (yg (.int .u64 (IntKind.u64.wrap ((bits .and .u64 (shrK .u64 x 1) 6148914691236517205) + (bits .and .u64 x 6148914691236517205))))) (rn (cq (cr ?_)))
 refine sQ 9 (ym (.int .u64 (IntKind.u64.wrap ((bits .and .u64 (shrK .u64 x 1) 6148914691236517205) + (bits .and .u64 x 6148914691236517205))))) <| sQ 10 (Y_shr (k := .u64) (a := (IntKind.u64.wrap ((bits .and .u64 (shrK .u64 x 1) 6148914691236517205) + (bits .and .u64 x 6148914691236517205)))) (k' := .u64) (b := 2) rfl rfl rfl (by decide)) <| sQ 11 (Y_band (k := .u64) (a := (shrK .u64 (IntKind.u64.wrap ((bits .and .u64 (shrK .u64 x 1) 6148914691236517205) + (bits .and .u64 x 6148914691236517205))) 2)) (b := 3689348814741910323) rfl rfl rfl) <| sQ 12 (ym (.int .u64 (IntKind.u64.wrap ((bits .and .u64 (shrK .u64 x 1) 6148914691236517205) + (bits .and .u64 x 6148914691236517205))))) <| sQ 13 (Y_band (k := .u64) (a := (IntKind.u64.wrap ((bits .and .u64 (shrK .u64 x 1) 6148914691236517205) + (bits .and .u64 x 6148914691236517205)))) (b := 3689348814741910323) rfl rfl rfl) <| sQ 14 (Y_add (k := .u64) (a := (bits .and .u64 (shrK .u64 (IntKind.u64.wrap ((bits .and .u64 (shrK .u64 x 1) 6148914691236517205) + (bits .and .u64 x 6148914691236517205))) 2) 3689348814741910323)) (b := (bits .and .u64 (IntKind.u64.wrap ((bits .and .u64 (shrK .u64 x 1) 6148914691236517205) + (bits .and .u64 x 6148914691236517205))) 3689348814741910323)) rfl rfl rfl) ?_
 refine sQ 0 (yg (.int .u64 (IntKind.u64.wrap ((bits .and .u64 (shrK .u64 (IntKind.u64.wrap ((bits .and .u64 (shrK .u64 x 1) 6148914691236517205) + (bits .and .u64 x 6148914691236517205))) 2) 3689348814741910323) + (bits .and .u64 (IntKind.u64.wrap ((bits .and .u64 (shrK .u64 x 1) 6148914691236517205) + (bits .and .u64 x 6148914691236517205))) 3689348814741910323))))) (rn (cq (cr ?_)))
 refine sQ 15 (ym (.int .u64 (IntKind.u64.wrap ((bits .and .u64 (shrK .u64 (IntKind.u64.wrap ((bits .and .u64 (shrK .u64 x 1) 6148914691236517205) + (bits .and .u64 x 6148914691236517205))) 2) 3689348814741910323) + (bits .and .u64 (IntKind.u64.wrap ((bits .and .u64 (shrK .u64 x 1) 6148914691236517205) + (bits .and .u64 x 6148914691236517205))) 3689348814741910323))))) <| sQ 16 (Y_shr (k := .u64) (a := (IntKind.u64.wrap ((bits .and .u64 (shrK .u64 (IntKind.u64.wrap ((bits .and .u64 (shrK .u64 x 1) 6148914691236517205) + (bits .and .u64 x 6148914691236517205))) 2) 3689348814741910323) + (bits .and .u64 (IntKind.u64.wrap ((bits .and .u64 (shrK .u64 x 1) 6148914691236517205) + (bits .and .u64 x 6148914691236517205))) 3689348814741910323)))) (k' := .u64) (b := 4) rfl rfl rfl (by decide)) <| sQ 17 (ym (.int .u64 (IntKind.u64.wrap ((bits .and .u64 (shrK .u64 (IntKind.u64.wrap ((bits .and .u64 (shrK .u64 x 1) 6148914691236517205) + (bits .and .u64 x 6148914691236517205))) 2) 3689348814741910323) + (bits .and .u64 (IntKind.u64.wrap ((bits .and .u64 (shrK .u64 x 1) 6148914691236517205) + (bits .and .u64 x 6148914691236517205))) 3689348814741910323))))) <| sQ 18 (Y_add (k := .u64) (a := (shrK .u64 (IntKind.u64.wrap ((bits .and .u64 (shrK .u64 (IntKind.u64.wrap ((bits .and .u64 (shrK .u64 x 1) 6148914691236517205) + (bits .and .u64 x 6148914691236517205))) 2) 3689348814741910323) + (bits .and .u64 (IntKind.u64.wrap ((bits .and .u64 (shrK .u64 x 1) 6148914691236517205) + (bits .and .u64 x 6148914691236517205))) 3689348814741910323))) 4)) (b := (IntKind.u64.wrap ((bits .and .u64 (shrK .u64 (IntKind.u64.wrap ((bits .and .u64 (shrK .u64 x 1) 6148914691236517205) + (bits .and .u64 x 6148914691236517205))) 2) 3689348814741910323) + (bits .and .u64 (IntKind.u64.wrap ((bits .and .u64 (shrK .u64 x 1) 6148914691236517205) + (bits .and .u64 x 6148914691236517205))) 3689348814741910323)))) rfl rfl rfl) <| sQ 19 (Y_band (k := .u64) (a := (IntKind.u64.wrap ((shrK .u64 (IntKind.u64.wrap ((bits .and .u64 (shrK .u64 (IntKind.u64.wrap ((bits .and .u64 (shrK .u64 x 1) 6148914691236517205) + (bits .and .u64 x 6148914691236517205))) 2) 3689348814741910323) + (bits .and .u64 (IntKind.u64.wrap ((bits .and .u64 (shrK .u64 x 1) 6148914691236517205) + (bits .and .u64 x 6148914691236517205))) 3689348814741910323))) 4) + (IntKind.u64.wrap ((bits .and .u64 (shrK .u64 (IntKind.u64.wrap ((bits .and .u64 (shrK .u64 x 1) 6148914691236517205) + (bits .and .u64 x 6148914691236517205))) 2) 3689348814741910323) + (bits .and .u64 (IntKind.u64.wrap ((bits .and .u64 (shrK .u64 x 1) 6148914691236517205) + (bits .and .u64 x 6148914691236517205))) 3689348814741910323)))))) (b := 1085102592571150095) rfl rfl rfl) <| sQ 0 (yg (.int .u64 (bits .and .u64 (IntKind.u64.wrap ((shrK .u64 (IntKind.u64.wrap ((bits .and .u64 (shrK .u64 (IntKind.u64.wrap ((bits .and .u64 (shrK .u64 x 1) 6148914691236517205) + (bits .and .u64 x 6148914691236517205))) 2) 3689348814741910323) + (bits .and .u64 (IntKind.u64.wrap ((bits .and .u64 (shrK .u64 x 1) 6148914691236517205) + (bits .and .u64 x 6148914691236517205))) 3689348814741910323))) 4) + (IntKind.u64.wrap ((bits .and .u64 (shrK .u64 (IntKind.u64.wrap ((bits .and .u64 (shrK .u64 x 1) 6148914691236517205) + (bits .and .u64 x 6148914691236517205))) 2) 3689348814741910323) + (bits .and .u64 (IntKind.u64.wrap ((bits .and .u64 (shrK .u64 x 1) 6148914691236517205) + (bits .and .u64 x 6148914691236517205))) 3689348814741910323))))) 1085102592571150095))) (rn (cq (cr ?_)))
 refine sQ 20 (ym (.int .u64 (bits .and .u64 (IntKind.u64.wrap ((shrK .u64 (IntKind.u64.wrap ((bits .and .u64 (shrK .u64 (IntKind.u64.wrap ((bits .and .u64 (shrK .u64 x 1) 6148914691236517205) + (bits .and .u64 x 6148914691236517205))) 2) 3689348814741910323) + (bits .and .u64 (IntKind.u64.wrap ((bits .and .u64 (shrK .u64 x 1) 6148914691236517205) + (bits .and .u64 x 6148914691236517205))) 3689348814741910323))) 4) + (IntKind.u64.wrap ((bits .and .u64 (shrK .u64 (IntKind.u64.wrap ((bits .and .u64 (shrK .u64 x 1) 6148914691236517205) + (bits .and .u64 x 6148914691236517205))) 2) 3689348814741910323) + (bits .and .u64 (IntKind.u64.wrap ((bits .and .u64 (shrK .u64 x 1) 6148914691236517205) + (bits .and .u64 x 6148914691236517205))) 3689348814741910323))))) 1085102592571150095))) <| sQ 21 (ym (.int .u64 (bits .and .u64 (IntKind.u64.wrap ((shrK .u64 (IntKind.u64.wrap ((bits .and .u64 (shrK .u64 (IntKind.u64.wrap ((bits .and .u64 (shrK .u64 x 1) 6148914691236517205) + (bits .and .u64 x 6148914691236517205))) 2) 3689348814741910323) + (bits .and .u64 (IntKind.u64.wrap ((bits .and .u64 (shrK .u64 x 1) 6148914691236517205) + (bits .and .u64 x 6148914691236517205))) 3689348814741910323))) 4) + (IntKind.u64.wrap ((bits .and .u64 (shrK .u64 (IntKind.u64.wrap ((bits .and .u64 (shrK .u64 x 1) 6148914691236517205) + (bits .and .u64 x 6148914691236517205))) 2) 3689348814741910323) + (bits .and .u64 (IntKind.u64.wrap ((bits .and .u64 (shrK .u64 x 1) 6148914691236517205) + (bits .and .u64 x 6148914691236517205))) 3689348814741910323))))) 1085102592571150095))) <| sQ 22 (Y_shr (k := .u64) (a := (bits .and .u64 (IntKind.u64.wrap ((shrK .u64 (IntKind.u64.wrap ((bits .and .u64 (shrK .u64 (IntKind.u64.wrap ((bits .and .u64 (shrK .u64 x 1) 6148914691236517205) + (bits .and .u64 x 6148914691236517205))) 2) 3689348814741910323) + (bits .and .u64 (IntKind.u64.wrap ((bits .and .u64 (shrK .u64 x 1) 6148914691236517205) + (bits .and .u64 x 6148914691236517205))) 3689348814741910323))) 4) + (IntKind.u64.wrap ((bits .and .u64 (shrK .u64 (IntKind.u64.wrap ((bits .and .u64 (shrK .u64 x 1) 6148914691236517205) + (bits .and .u64 x 6148914691236517205))) 2) 3689348814741910323) + (bits .and .u64 (IntKind.u64.wrap ((bits .and .u64 (shrK .u64 x 1) 6148914691236517205) + (bits .and .u64 x 6148914691236517205))) 3689348814741910323))))) 1085102592571150095)) (k' := .u64) (b := 8) rfl rfl rfl (by decide)) <| sQ 23 (Y_add (k := .u64) (a := (bits .and .u64 (IntKind.u64.wrap ((shrK .u64 (IntKind.u64.wrap ((bits .and .u64 (shrK .u64 (IntKind.u64.wrap ((bits .and .u64 (shrK .u64 x 1) 6148914691236517205) + (bits .and .u64 x 6148914691236517205))) 2) 3689348814741910323) + (bits .and .u64 (IntKind.u64.wrap ((bits .and .u64 (shrK .u64 x 1) 6148914691236517205) + (bits .and .u64 x 6148914691236517205))) 3689348814741910323))) 4) + (IntKind.u64.wrap ((bits .and .u64 (shrK .u64 (IntKind.u64.wrap ((bits .and .u64 (shrK .u64 x 1) 6148914691236517205) + (bits .and .u64 x 6148914691236517205))) 2) 3689348814741910323) + (bits .and .u64 (IntKind.u64.wrap ((bits .and .u64 (shrK .u64 x 1) 6148914691236517205) + (bits .and .u64 x 6148914691236517205))) 3689348814741910323))))) 1085102592571150095)) (b := (shrK .u64 (bits .and .u64 (IntKind.u64.wrap ((shrK .u64 (IntKind.u64.wrap ((bits .and .u64 (shrK .u64 (IntKind.u64.wrap ((bits .and .u64 (shrK .u64 x 1) 6148914691236517205) + (bits .and .u64 x 6148914691236517205))) 2) 3689348814741910323) + (bits .and .u64 (IntKind.u64.wrap ((bits .and .u64 (shrK .u64 x 1) 6148914691236517205) + (bits .and .u64 x 6148914691236517205))) 3689348814741910323))) 4) + (IntKind.u64.wrap ((bits .and .u64 (shrK .u64 (IntKind.u64.wrap ((bits .and .u64 (shrK .u64 x 1) 6148914691236517205) + (bits .and .u64 x 6148914691236517205))) 2) 3689348814741910323) + (bits .and .u64 (IntKind.u64.wrap ((bits .and .u64 (shrK .u64 x 1) 6148914691236517205) + (bits .and .u64 x 6148914691236517205))) 3689348814741910323))))) 1085102592571150095) 8)) rfl rfl rfl) <| sQ 0 (yg (.int .u64 (IntKind.u64.wrap ((bits .and .u64 (IntKind.u64.wrap ((shrK .u64 (IntKind.u64.wrap ((bits .and .u64 (shrK .u64 (IntKind.u64.wrap ((bits .and .u64 (shrK .u64 x 1) 6148914691236517205) + (bits .and .u64 x 6148914691236517205))) 2) 3689348814741910323) + (bits .and .u64 (IntKind.u64.wrap ((bits .and .u64 (shrK .u64 x 1) 6148914691236517205) + (bits .and .u64 x 6148914691236517205))) 3689348814741910323))) 4) + (IntKind.u64.wrap ((bits .and .u64 (shrK .u64 (IntKind.u64.wrap ((bits .and .u64 (shrK .u64 x 1) 6148914691236517205) + (bits .and .u64 x 6148914691236517205))) 2) 3689348814741910323) + (bits .and .u64 (IntKind.u64.wrap ((bits .and .u64 (shrK .u64 x 1) 6148914691236517205) + (bits .and .u64 x 6148914691236517205))) 3689348814741910323))))) 1085102592571150095) + (shrK .u64 (bits .and .u64 (IntKind.u64.wrap ((shrK .u64 (IntKind.u64.wrap ((bits .and .u64 (shrK .u64 (IntKind.u64.wrap ((bits .and .u64 (shrK .u64 x 1) 6148914691236517205) + (bits .and .u64 x 6148914691236517205))) 2) 3689348814741910323) + (bits .and .u64 (IntKind.u64.wrap ((bits .and .u64 (shrK .u64 x 1) 6148914691236517205) + (bits .and .u64 x 6148914691236517205))) 3689348814741910323))) 4) + (IntKind.u64.wrap ((bits .and .u64 (shrK .u64 (IntKind.u64.wrap ((bits .and .u64 (shrK .u64 x 1) 6148914691236517205) + (bits .and .u64 x 6148914691236517205))) 2) 3689348814741910323) + (bits .and .u64 (IntKind.u64.wrap ((bits .and .u64 (shrK .u64 x 1) 6148914691236517205) + (bits .and .u64 x 6148914691236517205))) 3689348814741910323))))) 1085102592571150095) 8))))) (rn (cq (cr ?_)))
 refine sQ 24 (ym (.int .u64 (IntKind.u64.wrap ((bits .and .u64 (IntKind.u64.wrap ((shrK .u64 (IntKind.u64.wrap ((bits .and .u64 (shrK .u64 (IntKind.u64.wrap ((bits .and .u64 (shrK .u64 x 1) 6148914691236517205) + (bits .and .u64 x 6148914691236517205))) 2) 3689348814741910323) + (bits .and .u64 (IntKind.u64.wrap ((bits .and .u64 (shrK .u64 x 1) 6148914691236517205) + (bits .and .u64 x 6148914691236517205))) 3689348814741910323))) 4) + (IntKind.u64.wrap ((bits .and .u64 (shrK .u64 (IntKind.u64.wrap ((bits .and .u64 (shrK .u64 x 1) 6148914691236517205) + (bits .and .u64 x 6148914691236517205))) 2) 3689348814741910323) + (bits .and .u64 (IntKind.u64.wrap ((bits .and .u64 (shrK .u64 x 1) 6148914691236517205) + (bits .and .u64 x 6148914691236517205))) 3689348814741910323))))) 1085102592571150095) + (shrK .u64 (bits .and .u64 (IntKind.u64.wrap ((shrK .u64 (IntKind.u64.wrap ((bits .and .u64 (shrK .u64 (IntKind.u64.wrap ((bits .and .u64 (shrK .u64 x 1) 6148914691236517205) + (bits .and .u64 x 6148914691236517205))) 2) 3689348814741910323) + (bits .and .u64 (IntKind.u64.wrap ((bits .and .u64 (shrK .u64 x 1) 6148914691236517205) + (bits .and .u64 x 6148914691236517205))) 3689348814741910323))) 4) + (IntKind.u64.wrap ((bits .and .u64 (shrK .u64 (IntKind.u64.wrap ((bits .and .u64 (shrK .u64 x 1) 6148914691236517205) + (bits .and .u64 x 6148914691236517205))) 2) 3689348814741910323) + (bits .and .u64 (IntKind.u64.wrap ((bits .and .u64 (shrK .u64 x 1) 6148914691236517205) + (bits .and .u64 x 6148914691236517205))) 3689348814741910323))))) 1085102592571150095) 8))))) <| sQ 25 (ym (.int .u64 (IntKind.u64.wrap ((bits .and .u64 (IntKind.u64.wrap ((shrK .u64 (IntKind.u64.wrap ((bits .and .u64 (shrK .u64 (IntKind.u64.wrap ((bits .and .u64 (shrK .u64 x 1) 6148914691236517205) + (bits .and .u64 x 6148914691236517205))) 2) 3689348814741910323) + (bits .and .u64 (IntKind.u64.wrap ((bits .and .u64 (shrK .u64 x 1) 6148914691236517205) + (bits .and .u64 x 6148914691236517205))) 3689348814741910323))) 4) + (IntKind.u64.wrap ((bits .and .u64 (shrK .u64 (IntKind.u64.wrap ((bits .and .u64 (shrK .u64 x 1) 6148914691236517205) + (bits .and .u64 x 6148914691236517205))) 2) 3689348814741910323) + (bits .and .u64 (IntKind.u64.wrap ((bits .and .u64 (shrK .u64 x 1) 6148914691236517205) + (bits .and .u64 x 6148914691236517205))) 3689348814741910323))))) 1085102592571150095) + (shrK .u64 (bits .and .u64 (IntKind.u64.wrap ((shrK .u64 (IntKind.u64.wrap ((bits .and .u64 (shrK .u64 (IntKind.u64.wrap ((bits .and .u64 (shrK .u64 x 1) 6148914691236517205) + (bits .and .u64 x 6148914691236517205))) 2) 3689348814741910323) + (bits .and .u64 (IntKind.u64.wrap ((bits .and .u64 (shrK .u64 x 1) 6148914691236517205) + (bits .and .u64 x 6148914691236517205))) 3689348814741910323))) 4) + (IntKind.u64.wrap ((bits .and .u64 (shrK .u64 (IntKind.u64.wrap ((bits .and .u64 (shrK .u64 x 1) 6148914691236517205) + (bits .and .u64 x 6148914691236517205))) 2) 3689348814741910323) + (bits .and .u64 (IntKind.u64.wrap ((bits .and .u64 (shrK .u64 x 1) 6148914691236517205) + (bits .and .u64 x 6148914691236517205))) 3689348814741910323))))) 1085102592571150095) 8))))) <| sQ 26 (Y_shr (k := .u64) (a := (IntKind.u64.wrap ((bits .and .u64 (IntKind.u64.wrap ((shrK .u64 (IntKind.u64.wrap ((bits .and .u64 (shrK .u64 (IntKind.u64.wrap ((bits .and .u64 (shrK .u64 x 1) 6148914691236517205) + (bits .and .u64 x 6148914691236517205))) 2) 3689348814741910323) + (bits .and .u64 (IntKind.u64.wrap ((bits .and .u64 (shrK .u64 x 1) 6148914691236517205) + (bits .and .u64 x 6148914691236517205))) 3689348814741910323))) 4) + (IntKind.u64.wrap ((bits .and .u64 (shrK .u64 (IntKind.u64.wrap ((bits .and .u64 (shrK .u64 x 1) 6148914691236517205) + (bits .and .u64 x 6148914691236517205))) 2) 3689348814741910323) + (bits .and .u64 (IntKind.u64.wrap ((bits .and .u64 (shrK .u64 x 1) 6148914691236517205) + (bits .and .u64 x 6148914691236517205))) 3689348814741910323))))) 1085102592571150095) + (shrK .u64 (bits .and .u64 (IntKind.u64.wrap ((shrK .u64 (IntKind.u64.wrap ((bits .and .u64 (shrK .u64 (IntKind.u64.wrap ((bits .and .u64 (shrK .u64 x 1) 6148914691236517205) + (bits .and .u64 x 6148914691236517205))) 2) 3689348814741910323) + (bits .and .u64 (IntKind.u64.wrap ((bits .and .u64 (shrK .u64 x 1) 6148914691236517205) + (bits .and .u64 x 6148914691236517205))) 3689348814741910323))) 4) + (IntKind.u64.wrap ((bits .and .u64 (shrK .u64 (IntKind.u64.wrap ((bits .and .u64 (shrK .u64 x 1) 6148914691236517205) + (bits .and .u64 x 6148914691236517205))) 2) 3689348814741910323) + (bits .and .u64 (IntKind.u64.wrap ((bits .and .u64 (shrK .u64 x 1) 6148914691236517205) + (bits .and .u64 x 6148914691236517205))) 3689348814741910323))))) 1085102592571150095) 8)))) (k' := .u64) (b := 16) rfl rfl rfl (by decide)) <| sQ 27 (Y_add (k := .u64) (a := (IntKind.u64.wrap ((bits .and .u64 (IntKind.u64.wrap ((shrK .u64 (IntKind.u64.wrap ((bits .and .u64 (shrK .u64 (IntKind.u64.wrap ((bits .and .u64 (shrK .u64 x 1) 6148914691236517205) + (bits .and .u64 x 6148914691236517205))) 2) 3689348814741910323) + (bits .and .u64 (IntKind.u64.wrap ((bits .and .u64 (shrK .u64 x 1) 6148914691236517205) + (bits .and .u64 x 6148914691236517205))) 3689348814741910323))) 4) + (IntKind.u64.wrap ((bits .and .u64 (shrK .u64 (IntKind.u64.wrap ((bits .and .u64 (shrK .u64 x 1) 6148914691236517205) + (bits .and .u64 x 6148914691236517205))) 2) 3689348814741910323) + (bits .and .u64 (IntKind.u64.wrap ((bits .and .u64 (shrK .u64 x 1) 6148914691236517205) + (bits .and .u64 x 6148914691236517205))) 3689348814741910323))))) 1085102592571150095) + (shrK .u64 (bits .and .u64 (IntKind.u64.wrap ((shrK .u64 (IntKind.u64.wrap ((bits .and .u64 (shrK .u64 (IntKind.u64.wrap ((bits .and .u64 (shrK .u64 x 1) 6148914691236517205) + (bits .and .u64 x 6148914691236517205))) 2) 3689348814741910323) + (bits .and .u64 (IntKind.u64.wrap ((bits .and .u64 (shrK .u64 x 1) 6148914691236517205) + (bits .and .u64 x 6148914691236517205))) 3689348814741910323))) 4) + (IntKind.u64.wrap ((bits .and .u64 (shrK .u64 (IntKind.u64.wrap ((bits .and .u64 (shrK .u64 x 1) 6148914691236517205) + (bits .and .u64 x 6148914691236517205))) 2) 3689348814741910323) + (bits .and .u64 (IntKind.u64.wrap ((bits .and .u64 (shrK .u64 x 1) 6148914691236517205) + (bits .and .u64 x 6148914691236517205))) 3689348814741910323))))) 1085102592571150095) 8)))) (b := (shrK .u64 (IntKind.u64.wrap ((bits .and .u64 (IntKind.u64.wrap ((shrK .u64 (IntKind.u64.wrap ((bits .and .u64 (shrK .u64 (IntKind.u64.wrap ((bits .and .u64 (shrK .u64 x 1) 6148914691236517205) + (bits .and .u64 x 6148914691236517205))) 2) 3689348814741910323) + (bits .and .u64 (IntKind.u64.wrap ((bits .and .u64 (shrK .u64 x 1) 6148914691236517205) + (bits .and .u64 x 6148914691236517205))) 3689348814741910323))) 4) + (IntKind.u64.wrap ((bits .and .u64 (shrK .u64 (IntKind.u64.wrap ((bits .and .u64 (shrK .u64 x 1) 6148914691236517205) + (bits .and .u64 x 6148914691236517205))) 2) 3689348814741910323) + (bits .and .u64 (IntKind.u64.wrap ((bits .and .u64 (shrK .u64 x 1) 6148914691236517205) + (bits .and .u64 x 6148914691236517205))) 3689348814741910323))))) 1085102592571150095) + (shrK .u64 (bits .and .u64 (IntKind.u64.wrap ((shrK .u64 (IntKind.u64.wrap ((bits .and .u64 (shrK .u64 (IntKind.u64.wrap ((bits .and .u64 (shrK .u64 x 1) 6148914691236517205) + (bits .and .u64 x 6148914691236517205))) 2) 3689348814741910323) + (bits .and .u64 (IntKind.u64.wrap ((bits .and .u64 (shrK .u64 x 1) 6148914691236517205) + (bits .and .u64 x 6148914691236517205))) 3689348814741910323))) 4) + (IntKind.u64.wrap ((bits .and .u64 (shrK .u64 (IntKind.u64.wrap ((bits .and .u64 (shrK .u64 x 1) 6148914691236517205) + (bits .and .u64 x 6148914691236517205))) 2) 3689348814741910323) + (bits .and .u64 (IntKind.u64.wrap ((bits .and .u64 (shrK .u64 x 1) 6148914691236517205) + (bits .and .u64 x 6148914691236517205))) 3689348814741910323))))) 1085102592571150095) 8))) 16)) rfl rfl rfl) <| sQ 0 (yg (.int .u64 (IntKind.u64.wrap ((IntKind.u64.wrap ((bits .and .u64 (IntKind.u64.wrap ((shrK .u64 (IntKind.u64.wrap ((bits .and .u64 (shrK .u64 (IntKind.u64.wrap ((bits .and .u64 (shrK .u64 x 1) 6148914691236517205) + (bits .and .u64 x 6148914691236517205))) 2) 3689348814741910323) + (bits .and .u64 (IntKind.u64.wrap ((bits .and .u64 (shrK .u64 x 1) 6148914691236517205) + (bits .and .u64 x 6148914691236517205))) 3689348814741910323))) 4) + (IntKind.u64.wrap ((bits .and .u64 (shrK .u64 (IntKind.u64.wrap ((bits .and .u64 (shrK .u64 x 1) 6148914691236517205) + (bits .and .u64 x 6148914691236517205))) 2) 3689348814741910323) + (bits .and .u64 (IntKind.u64.wrap ((bits .and .u64 (shrK .u64 x 1) 6148914691236517205) + (bits .and .u64 x 6148914691236517205))) 3689348814741910323))))) 1085102592571150095) + (shrK .u64 (bits .and .u64 (IntKind.u64.wrap ((shrK .u64 (IntKind.u64.wrap ((bits .and .u64 (shrK .u64 (IntKind.u64.wrap ((bits .and .u64 (shrK .u64 x 1) 6148914691236517205) + (bits .and .u64 x 6148914691236517205))) 2) 3689348814741910323) + (bits .and .u64 (IntKind.u64.wrap ((bits .and .u64 (shrK .u64 x 1) 6148914691236517205) + (bits .and .u64 x 6148914691236517205))) 3689348814741910323))) 4) + (IntKind.u64.wrap ((bits .and .u64 (shrK .u64 (IntKind.u64.wrap ((bits .and .u64 (shrK .u64 x 1) 6148914691236517205) + (bits .and .u64 x 6148914691236517205))) 2) 3689348814741910323) + (bits .and .u64 (IntKind.u64.wrap ((bits .and .u64 (shrK .u64 x 1) 6148914691236517205) + (bits .and .u64 x 6148914691236517205))) 3689348814741910323))))) 1085102592571150095) 8))) + (shrK .u64 (IntKind.u64.wrap ((bits .and .u64 (IntKind.u64.wrap ((shrK .u64 (IntKind.u64.wrap ((bits .and .u64 (shrK .u64 (IntKind.u64.wrap ((bits .and .u64 (shrK .u64 x 1) 6148914691236517205) + (bits .and .u64 x 6148914691236517205))) 2) 3689348814741910323) + (bits .and .u64 (IntKind.u64.wrap ((bits .and .u64 (shrK .u64 x 1) 6148914691236517205) + (bits .and .u64 x 6148914691236517205))) 3689348814741910323))) 4) + (IntKind.u64.wrap ((bits .and .u64 (shrK .u64 (IntKind.u64.wrap ((bits .and .u64 (shrK .u64 x 1) 6148914691236517205) + (bits .and .u64 x 6148914691236517205))) 2) 3689348814741910323) + (bits .and .u64 (IntKind.u64.wrap ((bits .and .u64 (shrK .u64 x 1) 6148914691236517205) + (bits .and .u64 x 6148914691236517205))) 3689348814741910323))))) 1085102592571150095) + (shrK .u64 (bits .and .u64 (IntKind.u64.wrap ((shrK .u64 (IntKind.u64.wrap ((bits .and .u64 (shrK .u64 (IntKind.u64.wrap ((bits .and .u64 (shrK .u64 x 1) 6148914691236517205) + (bits .and .u64 x 6148914691236517205))) 2) 3689348814741910323) + (bits .and .u64 (IntKind.u64.wrap ((bits .and .u64 (shrK .u64 x 1) 6148914691236517205) + (bits .and .u64 x 6148914691236517205))) 3689348814741910323))) 4) + (IntKind.u64.wrap ((bits .and .u64 (shrK .u64 (IntKind.u64.wrap ((bits .and .u64 (shrK .u64 x 1) 6148914691236517205) + (bits .and .u64 x 6148914691236517205))) 2) 3689348814741910323) + (bits .and .u64 (IntKind.u64.wrap ((bits .and .u64 (shrK .u64 x 1) 6148914691236517205) + (bits .and .u64 x 6148914691236517205))) 3689348814741910323))))) 1085102592571150095) 8))) 16))))) (rn (cq (cr ?_)))
 refine sQ 28 (ym (.int .u64 (IntKind.u64.wrap ((IntKind.u64.wrap ((bits .and .u64 (IntKind.u64.wrap ((shrK .u64 (IntKind.u64.wrap ((bits .and .u64 (shrK .u64 (IntKind.u64.wrap ((bits .and .u64 (shrK .u64 x 1) 6148914691236517205) + (bits .and .u64 x 6148914691236517205))) 2) 3689348814741910323) + (bits .and .u64 (IntKind.u64.wrap ((bits .and .u64 (shrK .u64 x 1) 6148914691236517205) + (bits .and .u64 x 6148914691236517205))) 3689348814741910323))) 4) + (IntKind.u64.wrap ((bits .and .u64 (shrK .u64 (IntKind.u64.wrap ((bits .and .u64 (shrK .u64 x 1) 6148914691236517205) + (bits .and .u64 x 6148914691236517205))) 2) 3689348814741910323) + (bits .and .u64 (IntKind.u64.wrap ((bits .and .u64 (shrK .u64 x 1) 6148914691236517205) + (bits .and .u64 x 6148914691236517205))) 3689348814741910323))))) 1085102592571150095) + (shrK .u64 (bits .and .u64 (IntKind.u64.wrap ((shrK .u64 (IntKind.u64.wrap ((bits .and .u64 (shrK .u64 (IntKind.u64.wrap ((bits .and .u64 (shrK .u64 x 1) 6148914691236517205) + (bits .and .u64 x 6148914691236517205))) 2) 3689348814741910323) + (bits .and .u64 (IntKind.u64.wrap ((bits .and .u64 (shrK .u64 x 1) 6148914691236517205) + (bits .and .u64 x 6148914691236517205))) 3689348814741910323))) 4) + (IntKind.u64.wrap ((bits .and .u64 (shrK .u64 (IntKind.u64.wrap ((bits .and .u64 (shrK .u64 x 1) 6148914691236517205) + (bits .and .u64 x 6148914691236517205))) 2) 3689348814741910323) + (bits .and .u64 (IntKind.u64.wrap ((bits .and .u64 (shrK .u64 x 1) 6148914691236517205) + (bits .and .u64 x 6148914691236517205))) 3689348814741910323))))) 1085102592571150095) 8))) + (shrK .u64 (IntKind.u64.wrap ((bits .and .u64 (IntKind.u64.wrap ((shrK .u64 (IntKind.u64.wrap ((bits .and .u64 (shrK .u64 (IntKind.u64.wrap ((bits .and .u64 (shrK .u64 x 1) 6148914691236517205) + (bits .and .u64 x 6148914691236517205))) 2) 3689348814741910323) + (bits .and .u64 (IntKind.u64.wrap ((bits .and .u64 (shrK .u64 x 1) 6148914691236517205) + (bits .and .u64 x 6148914691236517205))) 3689348814741910323))) 4) + (IntKind.u64.wrap ((bits .and .u64 (shrK .u64 (IntKind.u64.wrap ((bits .and .u64 (shrK .u64 x 1) 6148914691236517205) + (bits .and .u64 x 6148914691236517205))) 2) 3689348814741910323) + (bits .and .u64 (IntKind.u64.wrap ((bits .and .u64 (shrK .u64 x 1) 6148914691236517205) + (bits .and .u64 x 6148914691236517205))) 3689348814741910323))))) 1085102592571150095) + (shrK .u64 (bits .and .u64 (IntKind.u64.wrap ((shrK .u64 (IntKind.u64.wrap ((bits .and .u64 (shrK .u64 (IntKind.u64.wrap ((bits .and .u64 (shrK .u64 x 1) 6148914691236517205) + (bits .and .u64 x 6148914691236517205))) 2) 3689348814741910323) + (bits .and .u64 (IntKind.u64.wrap ((bits .and .u64 (shrK .u64 x 1) 6148914691236517205) + (bits .and .u64 x 6148914691236517205))) 3689348814741910323))) 4) + (IntKind.u64.wrap ((bits .and .u64 (shrK .u64 (IntKind.u64.wrap ((bits .and .u64 (shrK .u64 x 1) 6148914691236517205) + (bits .and .u64 x 6148914691236517205))) 2) 3689348814741910323) + (bits .and .u64 (IntKind.u64.wrap ((bits .and .u64 (shrK .u64 x 1) 6148914691236517205) + (bits .and .u64 x 6148914691236517205))) 3689348814741910323))))) 1085102592571150095) 8))) 16))))) <| sQ 29 (ym (.int .u64 (IntKind.u64.wrap ((IntKind.u64.wrap ((bits .and .u64 (IntKind.u64.wrap ((shrK .u64 (IntKind.u64.wrap ((bits .and .u64 (shrK .u64 (IntKind.u64.wrap ((bits .and .u64 (shrK .u64 x 1) 6148914691236517205) + (bits .and .u64 x 6148914691236517205))) 2) 3689348814741910323) + (bits .and .u64 (IntKind.u64.wrap ((bits .and .u64 (shrK .u64 x 1) 6148914691236517205) + (bits .and .u64 x 6148914691236517205))) 3689348814741910323))) 4) + (IntKind.u64.wrap ((bits .and .u64 (shrK .u64 (IntKind.u64.wrap ((bits .and .u64 (shrK .u64 x 1) 6148914691236517205) + (bits .and .u64 x 6148914691236517205))) 2) 3689348814741910323) + (bits .and .u64 (IntKind.u64.wrap ((bits .and .u64 (shrK .u64 x 1) 6148914691236517205) + (bits .and .u64 x 6148914691236517205))) 3689348814741910323))))) 1085102592571150095) + (shrK .u64 (bits .and .u64 (IntKind.u64.wrap ((shrK .u64 (IntKind.u64.wrap ((bits .and .u64 (shrK .u64 (IntKind.u64.wrap ((bits .and .u64 (shrK .u64 x 1) 6148914691236517205) + (bits .and .u64 x 6148914691236517205))) 2) 3689348814741910323) + (bits .and .u64 (IntKind.u64.wrap ((bits .and .u64 (shrK .u64 x 1) 6148914691236517205) + (bits .and .u64 x 6148914691236517205))) 3689348814741910323))) 4) + (IntKind.u64.wrap ((bits .and .u64 (shrK .u64 (IntKind.u64.wrap ((bits .and .u64 (shrK .u64 x 1) 6148914691236517205) + (bits .and .u64 x 6148914691236517205))) 2) 3689348814741910323) + (bits .and .u64 (IntKind.u64.wrap ((bits .and .u64 (shrK .u64 x 1) 6148914691236517205) + (bits .and .u64 x 6148914691236517205))) 3689348814741910323))))) 1085102592571150095) 8))) + (shrK .u64 (IntKind.u64.wrap ((bits .and .u64 (IntKind.u64.wrap ((shrK .u64 (IntKind.u64.wrap ((bits .and .u64 (shrK .u64 (IntKind.u64.wrap ((bits .and .u64 (shrK .u64 x 1) 6148914691236517205) + (bits .and .u64 x 6148914691236517205))) 2) 3689348814741910323) + (bits .and .u64 (IntKind.u64.wrap ((bits .and .u64 (shrK .u64 x 1) 6148914691236517205) + (bits .and .u64 x 6148914691236517205))) 3689348814741910323))) 4) + (IntKind.u64.wrap ((bits .and .u64 (shrK .u64 (IntKind.u64.wrap ((bits .and .u64 (shrK .u64 x 1) 6148914691236517205) + (bits .and .u64 x 6148914691236517205))) 2) 3689348814741910323) + (bits .and .u64 (IntKind.u64.wrap ((bits .and .u64 (shrK .u64 x 1) 6148914691236517205) + (bits .and .u64 x 6148914691236517205))) 3689348814741910323))))) 1085102592571150095) + (shrK .u64 (bits .and .u64 (IntKind.u64.wrap ((shrK .u64 (IntKind.u64.wrap ((bits .and .u64 (shrK .u64 (IntKind.u64.wrap ((bits .and .u64 (shrK .u64 x 1) 6148914691236517205) + (bits .and .u64 x 6148914691236517205))) 2) 3689348814741910323) + (bits .and .u64 (IntKind.u64.wrap ((bits .and .u64 (shrK .u64 x 1) 6148914691236517205) + (bits .and .u64 x 6148914691236517205))) 3689348814741910323))) 4) + (IntKind.u64.wrap ((bits .and .u64 (shrK .u64 (IntKind.u64.wrap ((bits .and .u64 (shrK .u64 x 1) 6148914691236517205) + (bits .and .u64 x 6148914691236517205))) 2) 3689348814741910323) + (bits .and .u64 (IntKind.u64.wrap ((bits .and .u64 (shrK .u64 x 1) 6148914691236517205) + (bits .and .u64 x 6148914691236517205))) 3689348814741910323))))) 1085102592571150095) 8))) 16))))) <| sQ 30 (Y_shr (k := .u64) (a := (IntKind.u64.wrap ((IntKind.u64.wrap ((bits .and .u64 (IntKind.u64.wrap ((shrK .u64 (IntKind.u64.wrap ((bits .and .u64 (shrK .u64 (IntKind.u64.wrap ((bits .and .u64 (shrK .u64 x 1) 6148914691236517205) + (bits .and .u64 x 6148914691236517205))) 2) 3689348814741910323) + (bits .and .u64 (IntKind.u64.wrap ((bits .and .u64 (shrK .u64 x 1) 6148914691236517205) + (bits .and .u64 x 6148914691236517205))) 3689348814741910323))) 4) + (IntKind.u64.wrap ((bits .and .u64 (shrK .u64 (IntKind.u64.wrap ((bits .and .u64 (shrK .u64 x 1) 6148914691236517205) + (bits .and .u64 x 6148914691236517205))) 2) 3689348814741910323) + (bits .and .u64 (IntKind.u64.wrap ((bits .and .u64 (shrK .u64 x 1) 6148914691236517205) + (bits .and .u64 x 6148914691236517205))) 3689348814741910323))))) 1085102592571150095) + (shrK .u64 (bits .and .u64 (IntKind.u64.wrap ((shrK .u64 (IntKind.u64.wrap ((bits .and .u64 (shrK .u64 (IntKind.u64.wrap ((bits .and .u64 (shrK .u64 x 1) 6148914691236517205) + (bits .and .u64 x 6148914691236517205))) 2) 3689348814741910323) + (bits .and .u64 (IntKind.u64.wrap ((bits .and .u64 (shrK .u64 x 1) 6148914691236517205) + (bits .and .u64 x 6148914691236517205))) 3689348814741910323))) 4) + (IntKind.u64.wrap ((bits .and .u64 (shrK .u64 (IntKind.u64.wrap ((bits .and .u64 (shrK .u64 x 1) 6148914691236517205) + (bits .and .u64 x 6148914691236517205))) 2) 3689348814741910323) + (bits .and .u64 (IntKind.u64.wrap ((bits .and .u64 (shrK .u64 x 1) 6148914691236517205) + (bits .and .u64 x 6148914691236517205))) 3689348814741910323))))) 1085102592571150095) 8))) + (shrK .u64 (IntKind.u64.wrap ((bits .and .u64 (IntKind.u64.wrap ((shrK .u64 (IntKind.u64.wrap ((bits .and .u64 (shrK .u64 (IntKind.u64.wrap ((bits .and .u64 (shrK .u64 x 1) 6148914691236517205) + (bits .and .u64 x 6148914691236517205))) 2) 3689348814741910323) + (bits .and .u64 (IntKind.u64.wrap ((bits .and .u64 (shrK .u64 x 1) 6148914691236517205) + (bits .and .u64 x 6148914691236517205))) 3689348814741910323))) 4) + (IntKind.u64.wrap ((bits .and .u64 (shrK .u64 (IntKind.u64.wrap ((bits .and .u64 (shrK .u64 x 1) 6148914691236517205) + (bits .and .u64 x 6148914691236517205))) 2) 3689348814741910323) + (bits .and .u64 (IntKind.u64.wrap ((bits .and .u64 (shrK .u64 x 1) 6148914691236517205) + (bits .and .u64 x 6148914691236517205))) 3689348814741910323))))) 1085102592571150095) + (shrK .u64 (bits .and .u64 (IntKind.u64.wrap ((shrK .u64 (IntKind.u64.wrap ((bits .and .u64 (shrK .u64 (IntKind.u64.wrap ((bits .and .u64 (shrK .u64 x 1) 6148914691236517205) + (bits .and .u64 x 6148914691236517205))) 2) 3689348814741910323) + (bits .and .u64 (IntKind.u64.wrap ((bits .and .u64 (shrK .u64 x 1) 6148914691236517205) + (bits .and .u64 x 6148914691236517205))) 3689348814741910323))) 4) + (IntKind.u64.wrap ((bits .and .u64 (shrK .u64 (IntKind.u64.wrap ((bits .and .u64 (shrK .u64 x 1) 6148914691236517205) + (bits .and .u64 x 6148914691236517205))) 2) 3689348814741910323) + (bits .and .u64 (IntKind.u64.wrap ((bits .and .u64 (shrK .u64 x 1) 6148914691236517205) + (bits .and .u64 x 6148914691236517205))) 3689348814741910323))))) 1085102592571150095) 8))) 16)))) (k' := .u64) (b := 32) rfl rfl rfl (by decide)) <| sQ 31 (Y_add (k := .u64) (a := (IntKind.u64.wrap ((IntKind.u64.wrap ((bits .and .u64 (IntKind.u64.wrap ((shrK .u64 (IntKind.u64.wrap ((bits .and .u64 (shrK .u64 (IntKind.u64.wrap ((bits .and .u64 (shrK .u64 x 1) 6148914691236517205) + (bits .and .u64 x 6148914691236517205))) 2) 3689348814741910323) + (bits .and .u64 (IntKind.u64.wrap ((bits .and .u64 (shrK .u64 x 1) 6148914691236517205) + (bits .and .u64 x 6148914691236517205))) 3689348814741910323))) 4) + (IntKind.u64.wrap ((bits .and .u64 (shrK .u64 (IntKind.u64.wrap ((bits .and .u64 (shrK .u64 x 1) 6148914691236517205) + (bits .and .u64 x 6148914691236517205))) 2) 3689348814741910323) + (bits .and .u64 (IntKind.u64.wrap ((bits .and .u64 (shrK .u64 x 1) 6148914691236517205) + (bits .and .u64 x 6148914691236517205))) 3689348814741910323))))) 1085102592571150095) + (shrK .u64 (bits .and .u64 (IntKind.u64.wrap ((shrK .u64 (IntKind.u64.wrap ((bits .and .u64 (shrK .u64 (IntKind.u64.wrap ((bits .and .u64 (shrK .u64 x 1) 6148914691236517205) + (bits .and .u64 x 6148914691236517205))) 2) 3689348814741910323) + (bits .and .u64 (IntKind.u64.wrap ((bits .and .u64 (shrK .u64 x 1) 6148914691236517205) + (bits .and .u64 x 6148914691236517205))) 3689348814741910323))) 4) + (IntKind.u64.wrap ((bits .and .u64 (shrK .u64 (IntKind.u64.wrap ((bits .and .u64 (shrK .u64 x 1) 6148914691236517205) + (bits .and .u64 x 6148914691236517205))) 2) 3689348814741910323) + (bits .and .u64 (IntKind.u64.wrap ((bits .and .u64 (shrK .u64 x 1) 6148914691236517205) + (bits .and .u64 x 6148914691236517205))) 3689348814741910323))))) 1085102592571150095) 8))) + (shrK .u64 (IntKind.u64.wrap ((bits .and .u64 (IntKind.u64.wrap ((shrK .u64 (IntKind.u64.wrap ((bits .and .u64 (shrK .u64 (IntKind.u64.wrap ((bits .and .u64 (shrK .u64 x 1) 6148914691236517205) + (bits .and .u64 x 6148914691236517205))) 2) 3689348814741910323) + (bits .and .u64 (IntKind.u64.wrap ((bits .and .u64 (shrK .u64 x 1) 6148914691236517205) + (bits .and .u64 x 6148914691236517205))) 3689348814741910323))) 4) + (IntKind.u64.wrap ((bits .and .u64 (shrK .u64 (IntKind.u64.wrap ((bits .and .u64 (shrK .u64 x 1) 6148914691236517205) + (bits .and .u64 x 6148914691236517205))) 2) 3689348814741910323) + (bits .and .u64 (IntKind.u64.wrap ((bits .and .u64 (shrK .u64 x 1) 6148914691236517205) + (bits .and .u64 x 6148914691236517205))) 3689348814741910323))))) 1085102592571150095) + (shrK .u64 (bits .and .u64 (IntKind.u64.wrap ((shrK .u64 (IntKind.u64.wrap ((bits .and .u64 (shrK .u64 (IntKind.u64.wrap ((bits .and .u64 (shrK .u64 x 1) 6148914691236517205) + (bits .and .u64 x 6148914691236517205))) 2) 3689348814741910323) + (bits .and .u64 (IntKind.u64.wrap ((bits .and .u64 (shrK .u64 x 1) 6148914691236517205) + (bits .and .u64 x 6148914691236517205))) 3689348814741910323))) 4) + (IntKind.u64.wrap ((bits .and .u64 (shrK .u64 (IntKind.u64.wrap ((bits .and .u64 (shrK .u64 x 1) 6148914691236517205) + (bits .and .u64 x 6148914691236517205))) 2) 3689348814741910323) + (bits .and .u64 (IntKind.u64.wrap ((bits .and .u64 (shrK .u64 x 1) 6148914691236517205) + (bits .and .u64 x 6148914691236517205))) 3689348814741910323))))) 1085102592571150095) 8))) 16)))) (b := (shrK .u64 (IntKind.u64.wrap ((IntKind.u64.wrap ((bits .and .u64 (IntKind.u64.wrap ((shrK .u64 (IntKind.u64.wrap ((bits .and .u64 (shrK .u64 (IntKind.u64.wrap ((bits .and .u64 (shrK .u64 x 1) 6148914691236517205) + (bits .and .u64 x 6148914691236517205))) 2) 3689348814741910323) + (bits .and .u64 (IntKind.u64.wrap ((bits .and .u64 (shrK .u64 x 1) 6148914691236517205) + (bits .and .u64 x 6148914691236517205))) 3689348814741910323))) 4) + (IntKind.u64.wrap ((bits .and .u64 (shrK .u64 (IntKind.u64.wrap ((bits .and .u64 (shrK .u64 x 1) 6148914691236517205) + (bits .and .u64 x 6148914691236517205))) 2) 3689348814741910323) + (bits .and .u64 (IntKind.u64.wrap ((bits .and .u64 (shrK .u64 x 1) 6148914691236517205) + (bits .and .u64 x 6148914691236517205))) 3689348814741910323))))) 1085102592571150095) + (shrK .u64 (bits .and .u64 (IntKind.u64.wrap ((shrK .u64 (IntKind.u64.wrap ((bits .and .u64 (shrK .u64 (IntKind.u64.wrap ((bits .and .u64 (shrK .u64 x 1) 6148914691236517205) + (bits .and .u64 x 6148914691236517205))) 2) 3689348814741910323) + (bits .and .u64 (IntKind.u64.wrap ((bits .and .u64 (shrK .u64 x 1) 6148914691236517205) + (bits .and .u64 x 6148914691236517205))) 3689348814741910323))) 4) + (IntKind.u64.wrap ((bits .and .u64 (shrK .u64 (IntKind.u64.wrap ((bits .and .u64 (shrK .u64 x 1) 6148914691236517205) + (bits .and .u64 x 6148914691236517205))) 2) 3689348814741910323) + (bits .and .u64 (IntKind.u64.wrap ((bits .and .u64 (shrK .u64 x 1) 6148914691236517205) + (bits .and .u64 x 6148914691236517205))) 3689348814741910323))))) 1085102592571150095) 8))) + (shrK .u64 (IntKind.u64.wrap ((bits .and .u64 (IntKind.u64.wrap ((shrK .u64 (IntKind.u64.wrap ((bits .and .u64 (shrK .u64 (IntKind.u64.wrap ((bits .and .u64 (shrK .u64 x 1) 6148914691236517205) + (bits .and .u64 x 6148914691236517205))) 2) 3689348814741910323) + (bits .and .u64 (IntKind.u64.wrap ((bits .and .u64 (shrK .u64 x 1) 6148914691236517205) + (bits .and .u64 x 6148914691236517205))) 3689348814741910323))) 4) + (IntKind.u64.wrap ((bits .and .u64 (shrK .u64 (IntKind.u64.wrap ((bits .and .u64 (shrK .u64 x 1) 6148914691236517205) + (bits .and .u64 x 6148914691236517205))) 2) 3689348814741910323) + (bits .and .u64 (IntKind.u64.wrap ((bits .and .u64 (shrK .u64 x 1) 6148914691236517205) + (bits .and .u64 x 6148914691236517205))) 3689348814741910323))))) 1085102592571150095) + (shrK .u64 (bits .and .u64 (IntKind.u64.wrap ((shrK .u64 (IntKind.u64.wrap ((bits .and .u64 (shrK .u64 (IntKind.u64.wrap ((bits .and .u64 (shrK .u64 x 1) 6148914691236517205) + (bits .and .u64 x 6148914691236517205))) 2) 3689348814741910323) + (bits .and .u64 (IntKind.u64.wrap ((bits .and .u64 (shrK .u64 x 1) 6148914691236517205) + (bits .and .u64 x 6148914691236517205))) 3689348814741910323))) 4) + (IntKind.u64.wrap ((bits .and .u64 (shrK .u64 (IntKind.u64.wrap ((bits .and .u64 (shrK .u64 x 1) 6148914691236517205) + (bits .and .u64 x 6148914691236517205))) 2) 3689348814741910323) + (bits .and .u64 (IntKind.u64.wrap ((bits .and .u64 (shrK .u64 x 1) 6148914691236517205) + (bits .and .u64 x 6148914691236517205))) 3689348814741910323))))) 1085102592571150095) 8))) 16))) 32)) rfl rfl rfl) <| sQ 0 (yg (.int .u64 (IntKind.u64.wrap ((IntKind.u64.wrap ((IntKind.u64.wrap ((bits .and .u64 (IntKind.u64.wrap ((shrK .u64 (IntKind.u64.wrap ((bits .and .u64 (shrK .u64 (IntKind.u64.wrap ((bits .and .u64 (shrK .u64 x 1) 6148914691236517205) + (bits .and .u64 x 6148914691236517205))) 2) 3689348814741910323) + (bits .and .u64 (IntKind.u64.wrap ((bits .and .u64 (shrK .u64 x 1) 6148914691236517205) + (bits .and .u64 x 6148914691236517205))) 3689348814741910323))) 4) + (IntKind.u64.wrap ((bits .and .u64 (shrK .u64 (IntKind.u64.wrap ((bits .and .u64 (shrK .u64 x 1) 6148914691236517205) + (bits .and .u64 x 6148914691236517205))) 2) 3689348814741910323) + (bits .and .u64 (IntKind.u64.wrap ((bits .and .u64 (shrK .u64 x 1) 6148914691236517205) + (bits .and .u64 x 6148914691236517205))) 3689348814741910323))))) 1085102592571150095) + (shrK .u64 (bits .and .u64 (IntKind.u64.wrap ((shrK .u64 (IntKind.u64.wrap ((bits .and .u64 (shrK .u64 (IntKind.u64.wrap ((bits .and .u64 (shrK .u64 x 1) 6148914691236517205) + (bits .and .u64 x 6148914691236517205))) 2) 3689348814741910323) + (bits .and .u64 (IntKind.u64.wrap ((bits .and .u64 (shrK .u64 x 1) 6148914691236517205) + (bits .and .u64 x 6148914691236517205))) 3689348814741910323))) 4) + (IntKind.u64.wrap ((bits .and .u64 (shrK .u64 (IntKind.u64.wrap ((bits .and .u64 (shrK .u64 x 1) 6148914691236517205) + (bits .and .u64 x 6148914691236517205))) 2) 3689348814741910323) + (bits .and .u64 (IntKind.u64.wrap ((bits .and .u64 (shrK .u64 x 1) 6148914691236517205) + (bits .and .u64 x 6148914691236517205))) 3689348814741910323))))) 1085102592571150095) 8))) + (shrK .u64 (IntKind.u64.wrap ((bits .and .u64 (IntKind.u64.wrap ((shrK .u64 (IntKind.u64.wrap ((bits .and .u64 (shrK .u64 (IntKind.u64.wrap ((bits .and .u64 (shrK .u64 x 1) 6148914691236517205) + (bits .and .u64 x 6148914691236517205))) 2) 3689348814741910323) + (bits .and .u64 (IntKind.u64.wrap ((bits .and .u64 (shrK .u64 x 1) 6148914691236517205) + (bits .and .u64 x 6148914691236517205))) 3689348814741910323))) 4) + (IntKind.u64.wrap ((bits .and .u64 (shrK .u64 (IntKind.u64.wrap ((bits .and .u64 (shrK .u64 x 1) 6148914691236517205) + (bits .and .u64 x 6148914691236517205))) 2) 3689348814741910323) + (bits .and .u64 (IntKind.u64.wrap ((bits .and .u64 (shrK .u64 x 1) 6148914691236517205) + (bits .and .u64 x 6148914691236517205))) 3689348814741910323))))) 1085102592571150095) + (shrK .u64 (bits .and .u64 (IntKind.u64.wrap ((shrK .u64 (IntKind.u64.wrap ((bits .and .u64 (shrK .u64 (IntKind.u64.wrap ((bits .and .u64 (shrK .u64 x 1) 6148914691236517205) + (bits .and .u64 x 6148914691236517205))) 2) 3689348814741910323) + (bits .and .u64 (IntKind.u64.wrap ((bits .and .u64 (shrK .u64 x 1) 6148914691236517205) + (bits .and .u64 x 6148914691236517205))) 3689348814741910323))) 4) + (IntKind.u64.wrap ((bits .and .u64 (shrK .u64 (IntKind.u64.wrap ((bits .and .u64 (shrK .u64 x 1) 6148914691236517205) + (bits .and .u64 x 6148914691236517205))) 2) 3689348814741910323) + (bits .and .u64 (IntKind.u64.wrap ((bits .and .u64 (shrK .u64 x 1) 6148914691236517205) + (bits .and .u64 x 6148914691236517205))) 3689348814741910323))))) 1085102592571150095) 8))) 16))) + (shrK .u64 (IntKind.u64.wrap ((IntKind.u64.wrap ((bits .and .u64 (IntKind.u64.wrap ((shrK .u64 (IntKind.u64.wrap ((bits .and .u64 (shrK .u64 (IntKind.u64.wrap ((bits .and .u64 (shrK .u64 x 1) 6148914691236517205) + (bits .and .u64 x 6148914691236517205))) 2) 3689348814741910323) + (bits .and .u64 (IntKind.u64.wrap ((bits .and .u64 (shrK .u64 x 1) 6148914691236517205) + (bits .and .u64 x 6148914691236517205))) 3689348814741910323))) 4) + (IntKind.u64.wrap ((bits .and .u64 (shrK .u64 (IntKind.u64.wrap ((bits .and .u64 (shrK .u64 x 1) 6148914691236517205) + (bits .and .u64 x 6148914691236517205))) 2) 3689348814741910323) + (bits .and .u64 (IntKind.u64.wrap ((bits .and .u64 (shrK .u64 x 1) 6148914691236517205) + (bits .and .u64 x 6148914691236517205))) 3689348814741910323))))) 1085102592571150095) + (shrK .u64 (bits .and .u64 (IntKind.u64.wrap ((shrK .u64 (IntKind.u64.wrap ((bits .and .u64 (shrK .u64 (IntKind.u64.wrap ((bits .and .u64 (shrK .u64 x 1) 6148914691236517205) + (bits .and .u64 x 6148914691236517205))) 2) 3689348814741910323) + (bits .and .u64 (IntKind.u64.wrap ((bits .and .u64 (shrK .u64 x 1) 6148914691236517205) + (bits .and .u64 x 6148914691236517205))) 3689348814741910323))) 4) + (IntKind.u64.wrap ((bits .and .u64 (shrK .u64 (IntKind.u64.wrap ((bits .and .u64 (shrK .u64 x 1) 6148914691236517205) + (bits .and .u64 x 6148914691236517205))) 2) 3689348814741910323) + (bits .and .u64 (IntKind.u64.wrap ((bits .and .u64 (shrK .u64 x 1) 6148914691236517205) + (bits .and .u64 x 6148914691236517205))) 3689348814741910323))))) 1085102592571150095) 8))) + (shrK .u64 (IntKind.u64.wrap ((bits .and .u64 (IntKind.u64.wrap ((shrK .u64 (IntKind.u64.wrap ((bits .and .u64 (shrK .u64 (IntKind.u64.wrap ((bits .and .u64 (shrK .u64 x 1) 6148914691236517205) + (bits .and .u64 x 6148914691236517205))) 2) 3689348814741910323) + (bits .and .u64 (IntKind.u64.wrap ((bits .and .u64 (shrK .u64 x 1) 6148914691236517205) + (bits .and .u64 x 6148914691236517205))) 3689348814741910323))) 4) + (IntKind.u64.wrap ((bits .and .u64 (shrK .u64 (IntKind.u64.wrap ((bits .and .u64 (shrK .u64 x 1) 6148914691236517205) + (bits .and .u64 x 6148914691236517205))) 2) 3689348814741910323) + (bits .and .u64 (IntKind.u64.wrap ((bits .and .u64 (shrK .u64 x 1) 6148914691236517205) + (bits .and .u64 x 6148914691236517205))) 3689348814741910323))))) 1085102592571150095) + (shrK .u64 (bits .and .u64 (IntKind.u64.wrap ((shrK .u64 (IntKind.u64.wrap ((bits .and .u64 (shrK .u64 (IntKind.u64.wrap ((bits .and .u64 (shrK .u64 x 1) 6148914691236517205) + (bits .and .u64 x 6148914691236517205))) 2) 3689348814741910323) + (bits .and .u64 (IntKind.u64.wrap ((bits .and .u64 (shrK .u64 x 1) 6148914691236517205) + (bits .and .u64 x 6148914691236517205))) 3689348814741910323))) 4) + (IntKind.u64.wrap ((bits .and .u64 (shrK .u64 (IntKind.u64.wrap ((bits .and .u64 (shrK .u64 x 1) 6148914691236517205) + (bits .and .u64 x 6148914691236517205))) 2) 3689348814741910323) + (bits .and .u64 (IntKind.u64.wrap ((bits .and .u64 (shrK .u64 x 1) 6148914691236517205) + (bits .and .u64 x 6148914691236517205))) 3689348814741910323))))) 1085102592571150095) 8))) 16))) 32))))) (rn (cq (cr ?_)))
 refine sQ 32 (ym (.int .u64 (IntKind.u64.wrap ((IntKind.u64.wrap ((IntKind.u64.wrap ((bits .and .u64 (IntKind.u64.wrap ((shrK .u64 (IntKind.u64.wrap ((bits .and .u64 (shrK .u64 (IntKind.u64.wrap ((bits .and .u64 (shrK .u64 x 1) 6148914691236517205) + (bits .and .u64 x 6148914691236517205))) 2) 3689348814741910323) + (bits .and .u64 (IntKind.u64.wrap ((bits .and .u64 (shrK .u64 x 1) 6148914691236517205) + (bits .and .u64 x 6148914691236517205))) 3689348814741910323))) 4) + (IntKind.u64.wrap ((bits .and .u64 (shrK .u64 (IntKind.u64.wrap ((bits .and .u64 (shrK .u64 x 1) 6148914691236517205) + (bits .and .u64 x 6148914691236517205))) 2) 3689348814741910323) + (bits .and .u64 (IntKind.u64.wrap ((bits .and .u64 (shrK .u64 x 1) 6148914691236517205) + (bits .and .u64 x 6148914691236517205))) 3689348814741910323))))) 1085102592571150095) + (shrK .u64 (bits .and .u64 (IntKind.u64.wrap ((shrK .u64 (IntKind.u64.wrap ((bits .and .u64 (shrK .u64 (IntKind.u64.wrap ((bits .and .u64 (shrK .u64 x 1) 6148914691236517205) + (bits .and .u64 x 6148914691236517205))) 2) 3689348814741910323) + (bits .and .u64 (IntKind.u64.wrap ((bits .and .u64 (shrK .u64 x 1) 6148914691236517205) + (bits .and .u64 x 6148914691236517205))) 3689348814741910323))) 4) + (IntKind.u64.wrap ((bits .and .u64 (shrK .u64 (IntKind.u64.wrap ((bits .and .u64 (shrK .u64 x 1) 6148914691236517205) + (bits .and .u64 x 6148914691236517205))) 2) 3689348814741910323) + (bits .and .u64 (IntKind.u64.wrap ((bits .and .u64 (shrK .u64 x 1) 6148914691236517205) + (bits .and .u64 x 6148914691236517205))) 3689348814741910323))))) 1085102592571150095) 8))) + (shrK .u64 (IntKind.u64.wrap ((bits .and .u64 (IntKind.u64.wrap ((shrK .u64 (IntKind.u64.wrap ((bits .and .u64 (shrK .u64 (IntKind.u64.wrap ((bits .and .u64 (shrK .u64 x 1) 6148914691236517205) + (bits .and .u64 x 6148914691236517205))) 2) 3689348814741910323) + (bits .and .u64 (IntKind.u64.wrap ((bits .and .u64 (shrK .u64 x 1) 6148914691236517205) + (bits .and .u64 x 6148914691236517205))) 3689348814741910323))) 4) + (IntKind.u64.wrap ((bits .and .u64 (shrK .u64 (IntKind.u64.wrap ((bits .and .u64 (shrK .u64 x 1) 6148914691236517205) + (bits .and .u64 x 6148914691236517205))) 2) 3689348814741910323) + (bits .and .u64 (IntKind.u64.wrap ((bits .and .u64 (shrK .u64 x 1) 6148914691236517205) + (bits .and .u64 x 6148914691236517205))) 3689348814741910323))))) 1085102592571150095) + (shrK .u64 (bits .and .u64 (IntKind.u64.wrap ((shrK .u64 (IntKind.u64.wrap ((bits .and .u64 (shrK .u64 (IntKind.u64.wrap ((bits .and .u64 (shrK .u64 x 1) 6148914691236517205) + (bits .and .u64 x 6148914691236517205))) 2) 3689348814741910323) + (bits .and .u64 (IntKind.u64.wrap ((bits .and .u64 (shrK .u64 x 1) 6148914691236517205) + (bits .and .u64 x 6148914691236517205))) 3689348814741910323))) 4) + (IntKind.u64.wrap ((bits .and .u64 (shrK .u64 (IntKind.u64.wrap ((bits .and .u64 (shrK .u64 x 1) 6148914691236517205) + (bits .and .u64 x 6148914691236517205))) 2) 3689348814741910323) + (bits .and .u64 (IntKind.u64.wrap ((bits .and .u64 (shrK .u64 x 1) 6148914691236517205) + (bits .and .u64 x 6148914691236517205))) 3689348814741910323))))) 1085102592571150095) 8))) 16))) + (shrK .u64 (IntKind.u64.wrap ((IntKind.u64.wrap ((bits .and .u64 (IntKind.u64.wrap ((shrK .u64 (IntKind.u64.wrap ((bits .and .u64 (shrK .u64 (IntKind.u64.wrap ((bits .and .u64 (shrK .u64 x 1) 6148914691236517205) + (bits .and .u64 x 6148914691236517205))) 2) 3689348814741910323) + (bits .and .u64 (IntKind.u64.wrap ((bits .and .u64 (shrK .u64 x 1) 6148914691236517205) + (bits .and .u64 x 6148914691236517205))) 3689348814741910323))) 4) + (IntKind.u64.wrap ((bits .and .u64 (shrK .u64 (IntKind.u64.wrap ((bits .and .u64 (shrK .u64 x 1) 6148914691236517205) + (bits .and .u64 x 6148914691236517205))) 2) 3689348814741910323) + (bits .and .u64 (IntKind.u64.wrap ((bits .and .u64 (shrK .u64 x 1) 6148914691236517205) + (bits .and .u64 x 6148914691236517205))) 3689348814741910323))))) 1085102592571150095) + (shrK .u64 (bits .and .u64 (IntKind.u64.wrap ((shrK .u64 (IntKind.u64.wrap ((bits .and .u64 (shrK .u64 (IntKind.u64.wrap ((bits .and .u64 (shrK .u64 x 1) 6148914691236517205) + (bits .and .u64 x 6148914691236517205))) 2) 3689348814741910323) + (bits .and .u64 (IntKind.u64.wrap ((bits .and .u64 (shrK .u64 x 1) 6148914691236517205) + (bits .and .u64 x 6148914691236517205))) 3689348814741910323))) 4) + (IntKind.u64.wrap ((bits .and .u64 (shrK .u64 (IntKind.u64.wrap ((bits .and .u64 (shrK .u64 x 1) 6148914691236517205) + (bits .and .u64 x 6148914691236517205))) 2) 3689348814741910323) + (bits .and .u64 (IntKind.u64.wrap ((bits .and .u64 (shrK .u64 x 1) 6148914691236517205) + (bits .and .u64 x 6148914691236517205))) 3689348814741910323))))) 1085102592571150095) 8))) + (shrK .u64 (IntKind.u64.wrap ((bits .and .u64 (IntKind.u64.wrap ((shrK .u64 (IntKind.u64.wrap ((bits .and .u64 (shrK .u64 (IntKind.u64.wrap ((bits .and .u64 (shrK .u64 x 1) 6148914691236517205) + (bits .and .u64 x 6148914691236517205))) 2) 3689348814741910323) + (bits .and .u64 (IntKind.u64.wrap ((bits .and .u64 (shrK .u64 x 1) 6148914691236517205) + (bits .and .u64 x 6148914691236517205))) 3689348814741910323))) 4) + (IntKind.u64.wrap ((bits .and .u64 (shrK .u64 (IntKind.u64.wrap ((bits .and .u64 (shrK .u64 x 1) 6148914691236517205) + (bits .and .u64 x 6148914691236517205))) 2) 3689348814741910323) + (bits .and .u64 (IntKind.u64.wrap ((bits .and .u64 (shrK .u64 x 1) 6148914691236517205) + (bits .and .u64 x 6148914691236517205))) 3689348814741910323))))) 1085102592571150095) + (shrK .u64 (bits .and .u64 (IntKind.u64.wrap ((shrK .u64 (IntKind.u64.wrap ((bits .and .u64 (shrK .u64 (IntKind.u64.wrap ((bits .and .u64 (shrK .u64 x 1) 6148914691236517205) + (bits .and .u64 x 6148914691236517205))) 2) 3689348814741910323) + (bits .and .u64 (IntKind.u64.wrap ((bits .and .u64 (shrK .u64 x 1) 6148914691236517205) + (bits .and .u64 x 6148914691236517205))) 3689348814741910323))) 4) + (IntKind.u64.wrap ((bits .and .u64 (shrK .u64 (IntKind.u64.wrap ((bits .and .u64 (shrK .u64 x 1) 6148914691236517205) + (bits .and .u64 x 6148914691236517205))) 2) 3689348814741910323) + (bits .and .u64 (IntKind.u64.wrap ((bits .and .u64 (shrK .u64 x 1) 6148914691236517205) + (bits .and .u64 x 6148914691236517205))) 3689348814741910323))))) 1085102592571150095) 8))) 16))) 32))))) <| sQ 33 (Y_conv (k := .u64) (a := (IntKind.u64.wrap ((IntKind.u64.wrap ((IntKind.u64.wrap ((bits .and .u64 (IntKind.u64.wrap ((shrK .u64 (IntKind.u64.wrap ((bits .and .u64 (shrK .u64 (IntKind.u64.wrap ((bits .and .u64 (shrK .u64 x 1) 6148914691236517205) + (bits .and .u64 x 6148914691236517205))) 2) 3689348814741910323) + (bits .and .u64 (IntKind.u64.wrap ((bits .and .u64 (shrK .u64 x 1) 6148914691236517205) + (bits .and .u64 x 6148914691236517205))) 3689348814741910323))) 4) + (IntKind.u64.wrap ((bits .and .u64 (shrK .u64 (IntKind.u64.wrap ((bits .and .u64 (shrK .u64 x 1) 6148914691236517205) + (bits .and .u64 x 6148914691236517205))) 2) 3689348814741910323) + (bits .and .u64 (IntKind.u64.wrap ((bits .and .u64 (shrK .u64 x 1) 6148914691236517205) + (bits .and .u64 x 6148914691236517205))) 3689348814741910323))))) 1085102592571150095) + (shrK .u64 (bits .and .u64 (IntKind.u64.wrap ((shrK .u64 (IntKind.u64.wrap ((bits .and .u64 (shrK .u64 (IntKind.u64.wrap ((bits .and .u64 (shrK .u64 x 1) 6148914691236517205) + (bits .and .u64 x 6148914691236517205))) 2) 3689348814741910323) + (bits .and .u64 (IntKind.u64.wrap ((bits .and .u64 (shrK .u64 x 1) 6148914691236517205) + (bits .and .u64 x 6148914691236517205))) 3689348814741910323))) 4) + (IntKind.u64.wrap ((bits .and .u64 (shrK .u64 (IntKind.u64.wrap ((bits .and .u64 (shrK .u64 x 1) 6148914691236517205) + (bits .and .u64 x 6148914691236517205))) 2) 3689348814741910323) + (bits .and .u64 (IntKind.u64.wrap ((bits .and .u64 (shrK .u64 x 1) 6148914691236517205) + (bits .and .u64 x 6148914691236517205))) 3689348814741910323))))) 1085102592571150095) 8))) + (shrK .u64 (IntKind.u64.wrap ((bits .and .u64 (IntKind.u64.wrap ((shrK .u64 (IntKind.u64.wrap ((bits .and .u64 (shrK .u64 (IntKind.u64.wrap ((bits .and .u64 (shrK .u64 x 1) 6148914691236517205) + (bits .and .u64 x 6148914691236517205))) 2) 3689348814741910323) + (bits .and .u64 (IntKind.u64.wrap ((bits .and .u64 (shrK .u64 x 1) 6148914691236517205) + (bits .and .u64 x 6148914691236517205))) 3689348814741910323))) 4) + (IntKind.u64.wrap ((bits .and .u64 (shrK .u64 (IntKind.u64.wrap ((bits .and .u64 (shrK .u64 x 1) 6148914691236517205) + (bits .and .u64 x 6148914691236517205))) 2) 3689348814741910323) + (bits .and .u64 (IntKind.u64.wrap ((bits .and .u64 (shrK .u64 x 1) 6148914691236517205) + (bits .and .u64 x 6148914691236517205))) 3689348814741910323))))) 1085102592571150095) + (shrK .u64 (bits .and .u64 (IntKind.u64.wrap ((shrK .u64 (IntKind.u64.wrap ((bits .and .u64 (shrK .u64 (IntKind.u64.wrap ((bits .and .u64 (shrK .u64 x 1) 6148914691236517205) + (bits .and .u64 x 6148914691236517205))) 2) 3689348814741910323) + (bits .and .u64 (IntKind.u64.wrap ((bits .and .u64 (shrK .u64 x 1) 6148914691236517205) + (bits .and .u64 x 6148914691236517205))) 3689348814741910323))) 4) + (IntKind.u64.wrap ((bits .and .u64 (shrK .u64 (IntKind.u64.wrap ((bits .and .u64 (shrK .u64 x 1) 6148914691236517205) + (bits .and .u64 x 6148914691236517205))) 2) 3689348814741910323) + (bits .and .u64 (IntKind.u64.wrap ((bits .and .u64 (shrK .u64 x 1) 6148914691236517205) + (bits .and .u64 x 6148914691236517205))) 3689348814741910323))))) 1085102592571150095) 8))) 16))) + (shrK .u64 (IntKind.u64.wrap ((IntKind.u64.wrap ((bits .and .u64 (IntKind.u64.wrap ((shrK .u64 (IntKind.u64.wrap ((bits .and .u64 (shrK .u64 (IntKind.u64.wrap ((bits .and .u64 (shrK .u64 x 1) 6148914691236517205) + (bits .and .u64 x 6148914691236517205))) 2) 3689348814741910323) + (bits .and .u64 (IntKind.u64.wrap ((bits .and .u64 (shrK .u64 x 1) 6148914691236517205) + (bits .and .u64 x 6148914691236517205))) 3689348814741910323))) 4) + (IntKind.u64.wrap ((bits .and .u64 (shrK .u64 (IntKind.u64.wrap ((bits .and .u64 (shrK .u64 x 1) 6148914691236517205) + (bits .and .u64 x 6148914691236517205))) 2) 3689348814741910323) + (bits .and .u64 (IntKind.u64.wrap ((bits .and .u64 (shrK .u64 x 1) 6148914691236517205) + (bits .and .u64 x 6148914691236517205))) 3689348814741910323))))) 1085102592571150095) + (shrK .u64 (bits .and .u64 (IntKind.u64.wrap ((shrK .u64 (IntKind.u64.wrap ((bits .and .u64 (shrK .u64 (IntKind.u64.wrap ((bits .and .u64 (shrK .u64 x 1) 6148914691236517205) + (bits .and .u64 x 6148914691236517205))) 2) 3689348814741910323) + (bits .and .u64 (IntKind.u64.wrap ((bits .and .u64 (shrK .u64 x 1) 6148914691236517205) + (bits .and .u64 x 6148914691236517205))) 3689348814741910323))) 4) + (IntKind.u64.wrap ((bits .and .u64 (shrK .u64 (IntKind.u64.wrap ((bits .and .u64 (shrK .u64 x 1) 6148914691236517205) + (bits .and .u64 x 6148914691236517205))) 2) 3689348814741910323) + (bits .and .u64 (IntKind.u64.wrap ((bits .and .u64 (shrK .u64 x 1) 6148914691236517205) + (bits .and .u64 x 6148914691236517205))) 3689348814741910323))))) 1085102592571150095) 8))) + (shrK .u64 (IntKind.u64.wrap ((bits .and .u64 (IntKind.u64.wrap ((shrK .u64 (IntKind.u64.wrap ((bits .and .u64 (shrK .u64 (IntKind.u64.wrap ((bits .and .u64 (shrK .u64 x 1) 6148914691236517205) + (bits .and .u64 x 6148914691236517205))) 2) 3689348814741910323) + (bits .and .u64 (IntKind.u64.wrap ((bits .and .u64 (shrK .u64 x 1) 6148914691236517205) + (bits .and .u64 x 6148914691236517205))) 3689348814741910323))) 4) + (IntKind.u64.wrap ((bits .and .u64 (shrK .u64 (IntKind.u64.wrap ((bits .and .u64 (shrK .u64 x 1) 6148914691236517205) + (bits .and .u64 x 6148914691236517205))) 2) 3689348814741910323) + (bits .and .u64 (IntKind.u64.wrap ((bits .and .u64 (shrK .u64 x 1) 6148914691236517205) + (bits .and .u64 x 6148914691236517205))) 3689348814741910323))))) 1085102592571150095) + (shrK .u64 (bits .and .u64 (IntKind.u64.wrap ((shrK .u64 (IntKind.u64.wrap ((bits .and .u64 (shrK .u64 (IntKind.u64.wrap ((bits .and .u64 (shrK .u64 x 1) 6148914691236517205) + (bits .and .u64 x 6148914691236517205))) 2) 3689348814741910323) + (bits .and .u64 (IntKind.u64.wrap ((bits .and .u64 (shrK .u64 x 1) 6148914691236517205) + (bits .and .u64 x 6148914691236517205))) 3689348814741910323))) 4) + (IntKind.u64.wrap ((bits .and .u64 (shrK .u64 (IntKind.u64.wrap ((bits .and .u64 (shrK .u64 x 1) 6148914691236517205) + (bits .and .u64 x 6148914691236517205))) 2) 3689348814741910323) + (bits .and .u64 (IntKind.u64.wrap ((bits .and .u64 (shrK .u64 x 1) 6148914691236517205) + (bits .and .u64 x 6148914691236517205))) 3689348814741910323))))) 1085102592571150095) 8))) 16))) 32)))) (T := 103) (T' := 3) k_us_103 k_int_3_i64 rfl rfl) <| sQ 34 (Y_band (k := .i64) (a := (i64.wrap (IntKind.u64.wrap ((IntKind.u64.wrap ((IntKind.u64.wrap ((bits .and .u64 (IntKind.u64.wrap ((shrK .u64 (IntKind.u64.wrap ((bits .and .u64 (shrK .u64 (IntKind.u64.wrap ((bits .and .u64 (shrK .u64 x 1) 6148914691236517205) + (bits .and .u64 x 6148914691236517205))) 2) 3689348814741910323) + (bits .and .u64 (IntKind.u64.wrap ((bits .and .u64 (shrK .u64 x 1) 6148914691236517205) + (bits .and .u64 x 6148914691236517205))) 3689348814741910323))) 4) + (IntKind.u64.wrap ((bits .and .u64 (shrK .u64 (IntKind.u64.wrap ((bits .and .u64 (shrK .u64 x 1) 6148914691236517205) + (bits .and .u64 x 6148914691236517205))) 2) 3689348814741910323) + (bits .and .u64 (IntKind.u64.wrap ((bits .and .u64 (shrK .u64 x 1) 6148914691236517205) + (bits .and .u64 x 6148914691236517205))) 3689348814741910323))))) 1085102592571150095) + (shrK .u64 (bits .and .u64 (IntKind.u64.wrap ((shrK .u64 (IntKind.u64.wrap ((bits .and .u64 (shrK .u64 (IntKind.u64.wrap ((bits .and .u64 (shrK .u64 x 1) 6148914691236517205) + (bits .and .u64 x 6148914691236517205))) 2) 3689348814741910323) + (bits .and .u64 (IntKind.u64.wrap ((bits .and .u64 (shrK .u64 x 1) 6148914691236517205) + (bits .and .u64 x 6148914691236517205))) 3689348814741910323))) 4) + (IntKind.u64.wrap ((bits .and .u64 (shrK .u64 (IntKind.u64.wrap ((bits .and .u64 (shrK .u64 x 1) 6148914691236517205) + (bits .and .u64 x 6148914691236517205))) 2) 3689348814741910323) + (bits .and .u64 (IntKind.u64.wrap ((bits .and .u64 (shrK .u64 x 1) 6148914691236517205) + (bits .and .u64 x 6148914691236517205))) 3689348814741910323))))) 1085102592571150095) 8))) + (shrK .u64 (IntKind.u64.wrap ((bits .and .u64 (IntKind.u64.wrap ((shrK .u64 (IntKind.u64.wrap ((bits .and .u64 (shrK .u64 (IntKind.u64.wrap ((bits .and .u64 (shrK .u64 x 1) 6148914691236517205) + (bits .and .u64 x 6148914691236517205))) 2) 3689348814741910323) + (bits .and .u64 (IntKind.u64.wrap ((bits .and .u64 (shrK .u64 x 1) 6148914691236517205) + (bits .and .u64 x 6148914691236517205))) 3689348814741910323))) 4) + (IntKind.u64.wrap ((bits .and .u64 (shrK .u64 (IntKind.u64.wrap ((bits .and .u64 (shrK .u64 x 1) 6148914691236517205) + (bits .and .u64 x 6148914691236517205))) 2) 3689348814741910323) + (bits .and .u64 (IntKind.u64.wrap ((bits .and .u64 (shrK .u64 x 1) 6148914691236517205) + (bits .and .u64 x 6148914691236517205))) 3689348814741910323))))) 1085102592571150095) + (shrK .u64 (bits .and .u64 (IntKind.u64.wrap ((shrK .u64 (IntKind.u64.wrap ((bits .and .u64 (shrK .u64 (IntKind.u64.wrap ((bits .and .u64 (shrK .u64 x 1) 6148914691236517205) + (bits .and .u64 x 6148914691236517205))) 2) 3689348814741910323) + (bits .and .u64 (IntKind.u64.wrap ((bits .and .u64 (shrK .u64 x 1) 6148914691236517205) + (bits .and .u64 x 6148914691236517205))) 3689348814741910323))) 4) + (IntKind.u64.wrap ((bits .and .u64 (shrK .u64 (IntKind.u64.wrap ((bits .and .u64 (shrK .u64 x 1) 6148914691236517205) + (bits .and .u64 x 6148914691236517205))) 2) 3689348814741910323) + (bits .and .u64 (IntKind.u64.wrap ((bits .and .u64 (shrK .u64 x 1) 6148914691236517205) + (bits .and .u64 x 6148914691236517205))) 3689348814741910323))))) 1085102592571150095) 8))) 16))) + (shrK .u64 (IntKind.u64.wrap ((IntKind.u64.wrap ((bits .and .u64 (IntKind.u64.wrap ((shrK .u64 (IntKind.u64.wrap ((bits .and .u64 (shrK .u64 (IntKind.u64.wrap ((bits .and .u64 (shrK .u64 x 1) 6148914691236517205) + (bits .and .u64 x 6148914691236517205))) 2) 3689348814741910323) + (bits .and .u64 (IntKind.u64.wrap ((bits .and .u64 (shrK .u64 x 1) 6148914691236517205) + (bits .and .u64 x 6148914691236517205))) 3689348814741910323))) 4) + (IntKind.u64.wrap ((bits .and .u64 (shrK .u64 (IntKind.u64.wrap ((bits .and .u64 (shrK .u64 x 1) 6148914691236517205) + (bits .and .u64 x 6148914691236517205))) 2) 3689348814741910323) + (bits .and .u64 (IntKind.u64.wrap ((bits .and .u64 (shrK .u64 x 1) 6148914691236517205) + (bits .and .u64 x 6148914691236517205))) 3689348814741910323))))) 1085102592571150095) + (shrK .u64 (bits .and .u64 (IntKind.u64.wrap ((shrK .u64 (IntKind.u64.wrap ((bits .and .u64 (shrK .u64 (IntKind.u64.wrap ((bits .and .u64 (shrK .u64 x 1) 6148914691236517205) + (bits .and .u64 x 6148914691236517205))) 2) 3689348814741910323) + (bits .and .u64 (IntKind.u64.wrap ((bits .and .u64 (shrK .u64 x 1) 6148914691236517205) + (bits .and .u64 x 6148914691236517205))) 3689348814741910323))) 4) + (IntKind.u64.wrap ((bits .and .u64 (shrK .u64 (IntKind.u64.wrap ((bits .and .u64 (shrK .u64 x 1) 6148914691236517205) + (bits .and .u64 x 6148914691236517205))) 2) 3689348814741910323) + (bits .and .u64 (IntKind.u64.wrap ((bits .and .u64 (shrK .u64 x 1) 6148914691236517205) + (bits .and .u64 x 6148914691236517205))) 3689348814741910323))))) 1085102592571150095) 8))) + (shrK .u64 (IntKind.u64.wrap ((bits .and .u64 (IntKind.u64.wrap ((shrK .u64 (IntKind.u64.wrap ((bits .and .u64 (shrK .u64 (IntKind.u64.wrap ((bits .and .u64 (shrK .u64 x 1) 6148914691236517205) + (bits .and .u64 x 6148914691236517205))) 2) 3689348814741910323) + (bits .and .u64 (IntKind.u64.wrap ((bits .and .u64 (shrK .u64 x 1) 6148914691236517205) + (bits .and .u64 x 6148914691236517205))) 3689348814741910323))) 4) + (IntKind.u64.wrap ((bits .and .u64 (shrK .u64 (IntKind.u64.wrap ((bits .and .u64 (shrK .u64 x 1) 6148914691236517205) + (bits .and .u64 x 6148914691236517205))) 2) 3689348814741910323) + (bits .and .u64 (IntKind.u64.wrap ((bits .and .u64 (shrK .u64 x 1) 6148914691236517205) + (bits .and .u64 x 6148914691236517205))) 3689348814741910323))))) 1085102592571150095) + (shrK .u64 (bits .and .u64 (IntKind.u64.wrap ((shrK .u64 (IntKind.u64.wrap ((bits .and .u64 (shrK .u64 (IntKind.u64.wrap ((bits .and .u64 (shrK .u64 x 1) 6148914691236517205) + (bits .and .u64 x 6148914691236517205))) 2) 3689348814741910323) + (bits .and .u64 (IntKind.u64.wrap ((bits .and .u64 (shrK .u64 x 1) 6148914691236517205) + (bits .and .u64 x 6148914691236517205))) 3689348814741910323))) 4) + (IntKind.u64.wrap ((bits .and .u64 (shrK .u64 (IntKind.u64.wrap ((bits .and .u64 (shrK .u64 x 1) 6148914691236517205) + (bits .and .u64 x 6148914691236517205))) 2) 3689348814741910323) + (bits .and .u64 (IntKind.u64.wrap ((bits .and .u64 (shrK .u64 x 1) 6148914691236517205) + (bits .and .u64 x 6148914691236517205))) 3689348814741910323))))) 1085102592571150095) 8))) 16))) 32))))) (b := 127) rfl rfl rfl) <| sQ 2 (yg (vi (bits .and .i64 (i64.wrap (IntKind.u64.wrap ((IntKind.u64.wrap ((IntKind.u64.wrap ((bits .and .u64 (IntKind.u64.wrap ((shrK .u64 (IntKind.u64.wrap ((bits .and .u64 (shrK .u64 (IntKind.u64.wrap ((bits .and .u64 (shrK .u64 x 1) 6148914691236517205) + (bits .and .u64 x 6148914691236517205))) 2) 3689348814741910323) + (bits .and .u64 (IntKind.u64.wrap ((bits .and .u64 (shrK .u64 x 1) 6148914691236517205) + (bits .and .u64 x 6148914691236517205))) 3689348814741910323))) 4) + (IntKind.u64.wrap ((bits .and .u64 (shrK .u64 (IntKind.u64.wrap ((bits .and .u64 (shrK .u64 x 1) 6148914691236517205) + (bits .and .u64 x 6148914691236517205))) 2) 3689348814741910323) + (bits .and .u64 (IntKind.u64.wrap ((bits .and .u64 (shrK .u64 x 1) 6148914691236517205) + (bits .and .u64 x 6148914691236517205))) 3689348814741910323))))) 1085102592571150095) + (shrK .u64 (bits .and .u64 (IntKind.u64.wrap ((shrK .u64 (IntKind.u64.wrap ((bits .and .u64 (shrK .u64 (IntKind.u64.wrap ((bits .and .u64 (shrK .u64 x 1) 6148914691236517205) + (bits .and .u64 x 6148914691236517205))) 2) 3689348814741910323) + (bits .and .u64 (IntKind.u64.wrap ((bits .and .u64 (shrK .u64 x 1) 6148914691236517205) + (bits .and .u64 x 6148914691236517205))) 3689348814741910323))) 4) + (IntKind.u64.wrap ((bits .and .u64 (shrK .u64 (IntKind.u64.wrap ((bits .and .u64 (shrK .u64 x 1) 6148914691236517205) + (bits .and .u64 x 6148914691236517205))) 2) 3689348814741910323) + (bits .and .u64 (IntKind.u64.wrap ((bits .and .u64 (shrK .u64 x 1) 6148914691236517205) + (bits .and .u64 x 6148914691236517205))) 3689348814741910323))))) 1085102592571150095) 8))) + (shrK .u64 (IntKind.u64.wrap ((bits .and .u64 (IntKind.u64.wrap ((shrK .u64 (IntKind.u64.wrap ((bits .and .u64 (shrK .u64 (IntKind.u64.wrap ((bits .and .u64 (shrK .u64 x 1) 6148914691236517205) + (bits .and .u64 x 6148914691236517205))) 2) 3689348814741910323) + (bits .and .u64 (IntKind.u64.wrap ((bits .and .u64 (shrK .u64 x 1) 6148914691236517205) + (bits .and .u64 x 6148914691236517205))) 3689348814741910323))) 4) + (IntKind.u64.wrap ((bits .and .u64 (shrK .u64 (IntKind.u64.wrap ((bits .and .u64 (shrK .u64 x 1) 6148914691236517205) + (bits .and .u64 x 6148914691236517205))) 2) 3689348814741910323) + (bits .and .u64 (IntKind.u64.wrap ((bits .and .u64 (shrK .u64 x 1) 6148914691236517205) + (bits .and .u64 x 6148914691236517205))) 3689348814741910323))))) 1085102592571150095) + (shrK .u64 (bits .and .u64 (IntKind.u64.wrap ((shrK .u64 (IntKind.u64.wrap ((bits .and .u64 (shrK .u64 (IntKind.u64.wrap ((bits .and .u64 (shrK .u64 x 1) 6148914691236517205) + (bits .and .u64 x 6148914691236517205))) 2) 3689348814741910323) + (bits .and .u64 (IntKind.u64.wrap ((bits .and .u64 (shrK .u64 x 1) 6148914691236517205) + (bits .and .u64 x 6148914691236517205))) 3689348814741910323))) 4) + (IntKind.u64.wrap ((bits .and .u64 (shrK .u64 (IntKind.u64.wrap ((bits .and .u64 (shrK .u64 x 1) 6148914691236517205) + (bits .and .u64 x 6148914691236517205))) 2) 3689348814741910323) + (bits .and .u64 (IntKind.u64.wrap ((bits .and .u64 (shrK .u64 x 1) 6148914691236517205) + (bits .and .u64 x 6148914691236517205))) 3689348814741910323))))) 1085102592571150095) 8))) 16))) + (shrK .u64 (IntKind.u64.wrap ((IntKind.u64.wrap ((bits .and .u64 (IntKind.u64.wrap ((shrK .u64 (IntKind.u64.wrap ((bits .and .u64 (shrK .u64 (IntKind.u64.wrap ((bits .and .u64 (shrK .u64 x 1) 6148914691236517205) + (bits .and .u64 x 6148914691236517205))) 2) 3689348814741910323) + (bits .and .u64 (IntKind.u64.wrap ((bits .and .u64 (shrK .u64 x 1) 6148914691236517205) + (bits .and .u64 x 6148914691236517205))) 3689348814741910323))) 4) + (IntKind.u64.wrap ((bits .and .u64 (shrK .u64 (IntKind.u64.wrap ((bits .and .u64 (shrK .u64 x 1) 6148914691236517205) + (bits .and .u64 x 6148914691236517205))) 2) 3689348814741910323) + (bits .and .u64 (IntKind.u64.wrap ((bits .and .u64 (shrK .u64 x 1) 6148914691236517205) + (bits .and .u64 x 6148914691236517205))) 3689348814741910323))))) 1085102592571150095) + (shrK .u64 (bits .and .u64 (IntKind.u64.wrap ((shrK .u64 (IntKind.u64.wrap ((bits .and .u64 (shrK .u64 (IntKind.u64.wrap ((bits .and .u64 (shrK .u64 x 1) 6148914691236517205) + (bits .and .u64 x 6148914691236517205))) 2) 3689348814741910323) + (bits .and .u64 (IntKind.u64.wrap ((bits .and .u64 (shrK .u64 x 1) 6148914691236517205) + (bits .and .u64 x 6148914691236517205))) 3689348814741910323))) 4) + (IntKind.u64.wrap ((bits .and .u64 (shrK .u64 (IntKind.u64.wrap ((bits .and .u64 (shrK .u64 x 1) 6148914691236517205) + (bits .and .u64 x 6148914691236517205))) 2) 3689348814741910323) + (bits .and .u64 (IntKind.u64.wrap ((bits .and .u64 (shrK .u64 x 1) 6148914691236517205) + (bits .and .u64 x 6148914691236517205))) 3689348814741910323))))) 1085102592571150095) 8))) + (shrK .u64 (IntKind.u64.wrap ((bits .and .u64 (IntKind.u64.wrap ((shrK .u64 (IntKind.u64.wrap ((bits .and .u64 (shrK .u64 (IntKind.u64.wrap ((bits .and .u64 (shrK .u64 x 1) 6148914691236517205) + (bits .and .u64 x 6148914691236517205))) 2) 3689348814741910323) + (bits .and .u64 (IntKind.u64.wrap ((bits .and .u64 (shrK .u64 x 1) 6148914691236517205) + (bits .and .u64 x 6148914691236517205))) 3689348814741910323))) 4) + (IntKind.u64.wrap ((bits .and .u64 (shrK .u64 (IntKind.u64.wrap ((bits .and .u64 (shrK .u64 x 1) 6148914691236517205) + (bits .and .u64 x 6148914691236517205))) 2) 3689348814741910323) + (bits .and .u64 (IntKind.u64.wrap ((bits .and .u64 (shrK .u64 x 1) 6148914691236517205) + (bits .and .u64 x 6148914691236517205))) 3689348814741910323))))) 1085102592571150095) + (shrK .u64 (bits .and .u64 (IntKind.u64.wrap ((shrK .u64 (IntKind.u64.wrap ((bits .and .u64 (shrK .u64 (IntKind.u64.wrap ((bits .and .u64 (shrK .u64 x 1) 6148914691236517205) + (bits .and .u64 x 6148914691236517205))) 2) 3689348814741910323) + (bits .and .u64 (IntKind.u64.wrap ((bits .and .u64 (shrK .u64 x 1) 6148914691236517205) + (bits .and .u64 x 6148914691236517205))) 3689348814741910323))) 4) + (IntKind.u64.wrap ((bits .and .u64 (shrK .u64 (IntKind.u64.wrap ((bits .and .u64 (shrK .u64 x 1) 6148914691236517205) + (bits .and .u64 x 6148914691236517205))) 2) 3689348814741910323) + (bits .and .u64 (IntKind.u64.wrap ((bits .and .u64 (shrK .u64 x 1) 6148914691236517205) + (bits .and .u64 x 6148914691236517205))) 3689348814741910323))))) 1085102592571150095) 8))) 16))) 32)))) 127))) (rn (ct_ ?_))
 obtain rfl := sI hF
 exact ret1 Try.results72 (v1 := vi (bits .and .i64 (i64.wrap (IntKind.u64.wrap ((IntKind.u64.wrap ((IntKind.u64.wrap ((bits .and .u64 (IntKind.u64.wrap ((shrK .u64 (IntKind.u64.wrap ((bits .and .u64 (shrK .u64 (IntKind.u64.wrap ((bits .and .u64 (shrK .u64 x 1) 6148914691236517205) + (bits .and .u64 x 6148914691236517205))) 2) 3689348814741910323) + (bits .and .u64 (IntKind.u64.wrap ((bits .and .u64 (shrK .u64 x 1) 6148914691236517205) + (bits .and .u64 x 6148914691236517205))) 3689348814741910323))) 4) + (IntKind.u64.wrap ((bits .and .u64 (shrK .u64 (IntKind.u64.wrap ((bits .and .u64 (shrK .u64 x 1) 6148914691236517205) + (bits .and .u64 x 6148914691236517205))) 2) 3689348814741910323) + (bits .and .u64 (IntKind.u64.wrap ((bits .and .u64 (shrK .u64 x 1) 6148914691236517205) + (bits .and .u64 x 6148914691236517205))) 3689348814741910323))))) 1085102592571150095) + (shrK .u64 (bits .and .u64 (IntKind.u64.wrap ((shrK .u64 (IntKind.u64.wrap ((bits .and .u64 (shrK .u64 (IntKind.u64.wrap ((bits .and .u64 (shrK .u64 x 1) 6148914691236517205) + (bits .and .u64 x 6148914691236517205))) 2) 3689348814741910323) + (bits .and .u64 (IntKind.u64.wrap ((bits .and .u64 (shrK .u64 x 1) 6148914691236517205) + (bits .and .u64 x 6148914691236517205))) 3689348814741910323))) 4) + (IntKind.u64.wrap ((bits .and .u64 (shrK .u64 (IntKind.u64.wrap ((bits .and .u64 (shrK .u64 x 1) 6148914691236517205) + (bits .and .u64 x 6148914691236517205))) 2) 3689348814741910323) + (bits .and .u64 (IntKind.u64.wrap ((bits .and .u64 (shrK .u64 x 1) 6148914691236517205) + (bits .and .u64 x 6148914691236517205))) 3689348814741910323))))) 1085102592571150095) 8))) + (shrK .u64 (IntKind.u64.wrap ((bits .and .u64 (IntKind.u64.wrap ((shrK .u64 (IntKind.u64.wrap ((bits .and .u64 (shrK .u64 (IntKind.u64.wrap ((bits .and .u64 (shrK .u64 x 1) 6148914691236517205) + (bits .and .u64 x 6148914691236517205))) 2) 3689348814741910323) + (bits .and .u64 (IntKind.u64.wrap ((bits .and .u64 (shrK .u64 x 1) 6148914691236517205) + (bits .and .u64 x 6148914691236517205))) 3689348814741910323))) 4) + (IntKind.u64.wrap ((bits .and .u64 (shrK .u64 (IntKind.u64.wrap ((bits .and .u64 (shrK .u64 x 1) 6148914691236517205) + (bits .and .u64 x 6148914691236517205))) 2) 3689348814741910323) + (bits .and .u64 (IntKind.u64.wrap ((bits .and .u64 (shrK .u64 x 1) 6148914691236517205) + (bits .and .u64 x 6148914691236517205))) 3689348814741910323))))) 1085102592571150095) + (shrK .u64 (bits .and .u64 (IntKind.u64.wrap ((shrK .u64 (IntKind.u64.wrap ((bits .and .u64 (shrK .u64 (IntKind.u64.wrap ((bits .and .u64 (shrK .u64 x 1) 6148914691236517205) + (bits .and .u64 x 6148914691236517205))) 2) 3689348814741910323) + (bits .and .u64 (IntKind.u64.wrap ((bits .and .u64 (shrK .u64 x 1) 6148914691236517205) + (bits .and .u64 x 6148914691236517205))) 3689348814741910323))) 4) + (IntKind.u64.wrap ((bits .and .u64 (shrK .u64 (IntKind.u64.wrap ((bits .and .u64 (shrK .u64 x 1) 6148914691236517205) + (bits .and .u64 x 6148914691236517205))) 2) 3689348814741910323) + (bits .and .u64 (IntKind.u64.wrap ((bits .and .u64 (shrK .u64 x 1) 6148914691236517205) + (bits .and .u64 x 6148914691236517205))) 3689348814741910323))))) 1085102592571150095) 8))) 16))) + (shrK .u64 (IntKind.u64.wrap ((IntKind.u64.wrap ((bits .and .u64 (IntKind.u64.wrap ((shrK .u64 (IntKind.u64.wrap ((bits .and .u64 (shrK .u64 (IntKind.u64.wrap ((bits .and .u64 (shrK .u64 x 1) 6148914691236517205) + (bits .and .u64 x 6148914691236517205))) 2) 3689348814741910323) + (bits .and .u64 (IntKind.u64.wrap ((bits .and .u64 (shrK .u64 x 1) 6148914691236517205) + (bits .and .u64 x 6148914691236517205))) 3689348814741910323))) 4) + (IntKind.u64.wrap ((bits .and .u64 (shrK .u64 (IntKind.u64.wrap ((bits .and .u64 (shrK .u64 x 1) 6148914691236517205) + (bits .and .u64 x 6148914691236517205))) 2) 3689348814741910323) + (bits .and .u64 (IntKind.u64.wrap ((bits .and .u64 (shrK .u64 x 1) 6148914691236517205) + (bits .and .u64 x 6148914691236517205))) 3689348814741910323))))) 1085102592571150095) + (shrK .u64 (bits .and .u64 (IntKind.u64.wrap ((shrK .u64 (IntKind.u64.wrap ((bits .and .u64 (shrK .u64 (IntKind.u64.wrap ((bits .and .u64 (shrK .u64 x 1) 6148914691236517205) + (bits .and .u64 x 6148914691236517205))) 2) 3689348814741910323) + (bits .and .u64 (IntKind.u64.wrap ((bits .and .u64 (shrK .u64 x 1) 6148914691236517205) + (bits .and .u64 x 6148914691236517205))) 3689348814741910323))) 4) + (IntKind.u64.wrap ((bits .and .u64 (shrK .u64 (IntKind.u64.wrap ((bits .and .u64 (shrK .u64 x 1) 6148914691236517205) + (bits .and .u64 x 6148914691236517205))) 2) 3689348814741910323) + (bits .and .u64 (IntKind.u64.wrap ((bits .and .u64 (shrK .u64 x 1) 6148914691236517205) + (bits .and .u64 x 6148914691236517205))) 3689348814741910323))))) 1085102592571150095) 8))) + (shrK .u64 (IntKind.u64.wrap ((bits .and .u64 (IntKind.u64.wrap ((shrK .u64 (IntKind.u64.wrap ((bits .and .u64 (shrK .u64 (IntKind.u64.wrap ((bits .and .u64 (shrK .u64 x 1) 6148914691236517205) + (bits .and .u64 x 6148914691236517205))) 2) 3689348814741910323) + (bits .and .u64 (IntKind.u64.wrap ((bits .and .u64 (shrK .u64 x 1) 6148914691236517205) + (bits .and .u64 x 6148914691236517205))) 3689348814741910323))) 4) + (IntKind.u64.wrap ((bits .and .u64 (shrK .u64 (IntKind.u64.wrap ((bits .and .u64 (shrK .u64 x 1) 6148914691236517205) + (bits .and .u64 x 6148914691236517205))) 2) 3689348814741910323) + (bits .and .u64 (IntKind.u64.wrap ((bits .and .u64 (shrK .u64 x 1) 6148914691236517205) + (bits .and .u64 x 6148914691236517205))) 3689348814741910323))))) 1085102592571150095) + (shrK .u64 (bits .and .u64 (IntKind.u64.wrap ((shrK .u64 (IntKind.u64.wrap ((bits .and .u64 (shrK .u64 (IntKind.u64.wrap ((bits .and .u64 (shrK .u64 x 1) 6148914691236517205) + (bits .and .u64 x 6148914691236517205))) 2) 3689348814741910323) + (bits .and .u64 (IntKind.u64.wrap ((bits .and .u64 (shrK .u64 x 1) 6148914691236517205) + (bits .and .u64 x 6148914691236517205))) 3689348814741910323))) 4) + (IntKind.u64.wrap ((bits .and .u64 (shrK .u64 (IntKind.u64.wrap ((bits .and .u64 (shrK .u64 x 1) 6148914691236517205) + (bits .and .u64 x 6148914691236517205))) 2) 3689348814741910323) + (bits .and .u64 (IntKind.u64.wrap ((bits .and .u64 (shrK .u64 x 1) 6148914691236517205) + (bits .and .u64 x 6148914691236517205))) 3689348814741910323))))) 1085102592571150095) 8))) 16))) 32)))) 127)) (resAt_tmp rfl) ⟨rfl, (hS.sN [])⟩

theorem c_math_bits_OnesCount (x : Int)  (w0 : World)  (hS : ST w0 [] w0 [] []) {r_ : Int} (hF : F_math_bits_OnesCount x = some r_) :
  CV Try.prog 63 #[.int .u64 x] w0 (fun v w' => v = vi r_ ∧ ST w0 [] w' [] []) := by
 unfold F_math_bits_OnesCount at hF
 refine cv_of_cw 8 Try.func63 rfl Try.ntmps63 rfl ?_
 refine cq (cr ?_)
 refine sQ 2 (yg (vi 0)) (rn (cq ?_))
 refine cw_cond (b := false) rfl (fun h => by cases h) (fun _ => ?_)
 refine cw_skip (cq (cr ?_))
 refine sQ 6 (ym (.int .u64 x)) ?_
 obtain ⟨r_1, hc, hF⟩ := bI hF
 refine sc 7 rfl rfl (yC [.int .u64 x] k_call_72 (c_math_bits_OnesCount64 x _  (hS.inn0 [] rfl) hc)) ?_
 rintro _ w_ ⟨rfl, hd⟩
 have hS1 := hS.out00 hd
 refine sQ 2 (yg (vi r_1)) (rn (ct_ ?_))
 obtain rfl := sI hF
 exact ret1 Try.results63 (v1 := vi r_1) (resAt_tmp rfl) ⟨rfl, (hS1.sN [])⟩

theorem c_impl_times (a : TPauli) (b : TPauli)  (w0 : World)  (hS : ST w0 [] w0 [] []) {r_ : TPauli} (hF : F_impl_times a b = some r_) :
  CV Try.prog 64 #[.agg #[vi a.Phase, vi a.X, vi a.Z], .agg #[vi b.Phase, vi b.X, vi b.Z]] w0 (fun v w' => v = .agg #[vi r_.Phase, vi r_.X, vi r_.Z] ∧ ST w0 [] w' [] []) := by
 unfold F_impl_times at hF
 refine cv_of_cw 61 Try.func64 rfl Try.ntmps64 rfl ?_
 refine cq (cr ?_)
 refine sS 2 (yB 71 (.agg #[vi a.Phase, vi a.X, vi a.Z]) [vi a.Phase, vi a.X, vi a.Z] 3 hS) ?_
 rintro _ w_ ⟨b1, rfl, hS1⟩
 refine sS 3 (yB 71 (.agg #[vi b.Phase, vi b.X, vi b.Z]) [vi b.Phase, vi b.X, vi b.Z] 3 hS1) ?_
 rintro _ w_1 ⟨b2, rfl, hS2⟩
 refine sS 4 (yN [vi 0, vi 0, vi 0] 3 hS2 K5) ?_
 rintro _ w_2 ⟨b3, rfl, hS3⟩
 refine rn (cq ?_)
 refine ra_start (hS3.se [0, 1, 2]).fn (by kernel_rfl) ?_
 have hS4 := hS3.drew
 refine rq 0 8 (v := pt (aD b1) 1) rfl (hS4.se [0, 1, 2]) (fun w' hw' => (yd (aD b1) 0 0 K37 K3)) ?_
 refine rq 1 9 (v := vi a.X) rfl (hS4.se [0, 1, 2]) (fun w' hw' => (yl (aD b1) 1 [vi a.Phase, vi a.X, vi a.Z] (vi a.X) K4 (ST.cf hw' (i := 0) rfl))) ?_
 refine rq 2 10 (v := pt (aD b2) 1) rfl (hS4.se [0, 1, 2]) (fun w' hw' => (yd (aD b2) 0 0 K37 K3)) ?_
 refine rq 3 11 (v := vi b.X) rfl (hS4.se [0, 1, 2]) (fun w' hw' => (yl (aD b2) 1 [vi b.Phase, vi b.X, vi b.Z] (vi b.X) K4 (ST.cf hw' (i := 1) rfl))) ?_
 refine rq 4 12 (v := vi (bits .xor .i64 a.X b.X)) rfl (hS4.se [0, 1, 2]) (fun w' hw' => (Y_bxor (k := .i64) (a := a.X) (b := b.X) rfl rfl rfl)) ?_
 refine rq 5 13 (v := pt (aD b1) 2) rfl (hS4.se [0, 1, 2]) (fun w' hw' => (yd (aD b1) 0 0 K38 K3)) ?_
 refine rq 6 14 (v := vi a.Z) rfl (hS4.se [0, 1, 2]) (fun w' hw' => (yl (aD b1) 2 [vi a.Phase, vi a.X, vi a.Z] (vi a.Z) K4 (ST.cf hw' (i := 0) rfl))) ?_
 refine rq 7 15 (v := pt (aD b2) 2) rfl (hS4.se [0, 1, 2]) (fun w' hw' => (yd (aD b2) 0 0 K38 K3)) ?_
 refine rq 8 16 (v := vi b.Z) rfl (hS4.se [0, 1, 2]) (fun w' hw' => (yl (aD b2) 2 [vi b.Phase, vi b.X, vi b.Z] (vi b.Z) K4 (ST.cf hw' (i := 1) rfl))) ?_
 refine rq 9 17 (v := vi (bits .xor .i64 a.Z b.Z)) rfl (hS4.se [0, 1, 2]) (fun w' hw' => (Y_bxor (k := .i64) (a := a.Z) (b := b.Z) rfl rfl rfl)) ?_
 refine rq 10 5 (v := vi (bits .xor .i64 a.X b.X)) rfl (hS4.se [0, 1, 2]) (fun w' hw' => (yg (vi (bits .xor .i64 a.X b.X)))) ?_
 refine rq 11 6 (v := vi (bits .xor .i64 a.Z b.Z)) rfl (hS4.se [0, 1, 2]) (fun w' hw' => (yg (vi (bits .xor .i64 a.Z b.Z)))) ?_
 refine ra_done (by kernel_rfl) ?_
 refine cq ?_
 obtain ⟨r_1, hc, hF⟩ := bI hF
 obtain ⟨r_2, hc1, hF⟩ := bI hF
 obtain ⟨r_3, hc2, hF⟩ := bI hF
 obtain ⟨r_4, hc3, hF⟩ := bI hF
 refine ra_start (hS4.se [0, 1, 2]).fn (by kernel_rfl) ?_
 have hS9 := hS4.drew
 refine rq 0 18 (v := pt (aD b1) 0) rfl (hS9.se [0, 1, 2]) (fun w' hw' => (yd (aD b1) 0 0 K23 K3)) ?_
 refine rq 1 19 (v := vi a.Phase) rfl (hS9.se [0, 1, 2]) (fun w' hw' => (yl (aD b1) 0 [vi a.Phase, vi a.X, vi a.Z] (vi a.Phase) K4 (ST.cf hw' (i := 0) rfl))) ?_
 refine rq 2 20 (v := pt (aD b2) 0) rfl (hS9.se [0, 1, 2]) (fun w' hw' => (yd (aD b2) 0 0 K23 K3)) ?_
 refine rq 3 21 (v := vi b.Phase) rfl (hS9.se [0, 1, 2]) (fun w' hw' => (yl (aD b2) 0 [vi b.Phase, vi b.X, vi b.Z] (vi b.Phase) K4 (ST.cf hw' (i := 1) rfl))) ?_
 refine rq 4 22 (v := vi (i64.wrap (a.Phase + b.Phase))) rfl (hS9.se [0, 1, 2]) (fun w' hw' => (yP a.Phase b.Phase)) ?_
 refine rq 5 23 (v := pt (aD b1) 1) rfl (hS9.se [0, 1, 2]) (fun w' hw' => (yd (aD b1) 0 0 K37 K3)) ?_
 refine rq 6 24 (v := vi a.X) rfl (hS9.se [0, 1, 2]) (fun w' hw' => (yl (aD b1) 1 [vi a.Phase, vi a.X, vi a.Z] (vi a.X) K4 (ST.cf hw' (i := 0) rfl))) ?_
 refine rq 7 25 (v := pt (aD b1) 2) rfl (hS9.se [0, 1, 2]) (fun w' hw' => (yd (aD b1) 0 0 K38 K3)) ?_
 refine rq 8 26 (v := vi a.Z) rfl (hS9.se [0, 1, 2]) (fun w' hw' => (yl (aD b1) 2 [vi a.Phase, vi a.X, vi a.Z] (vi a.Z) K4 (ST.cf hw' (i := 0) rfl))) ?_
 refine rq 9 27 (v := vi (bits .and .i64 a.X a.Z)) rfl (hS9.se [0, 1, 2]) (fun w' hw' => (Y_band (k := .i64) (a := a.X) (b := a.Z) rfl rfl rfl)) ?_
 refine rq 10 28 (v := .int .u64 (IntKind.u64.wrap (bits .and .i64 a.X a.Z))) rfl (hS9.se [0, 1, 2]) (fun w' hw' => (Y_conv (k := .i64) (a := (bits .and .i64 a.X a.Z)) (T := 3) (T' := 74) K39 K40 rfl rfl)) ?_
 refine rq 13 31 (v := pt (aD b2) 1) rfl (hS9.se [0, 1, 2]) (fun w' hw' => (yd (aD b2) 0 0 K37 K3)) ?_
 refine rq 14 32 (v := vi b.X) rfl (hS9.se [0, 1, 2]) (fun w' hw' => (yl (aD b2) 1 [vi b.Phase, vi b.X, vi b.Z] (vi b.X) K4 (ST.cf hw' (i := 1) rfl))) ?_
 refine rq 15 33 (v := pt (aD b2) 2) rfl (hS9.se [0, 1, 2]) (fun w' hw' => (yd (aD b2) 0 0 K38 K3)) ?_
 refine rq 16 34 (v := vi b.Z) rfl (hS9.se [0, 1, 2]) (fun w' hw' => (yl (aD b2) 2 [vi b.Phase, vi b.X, vi b.Z] (vi b.Z) K4 (ST.cf hw' (i := 1) rfl))) ?_
 refine rq 17 35 (v := vi (bits .and .i64 b.X b.Z)) rfl (hS9.se [0, 1, 2]) (fun w' hw' => (Y_band (k := .i64) (a := b.X) (b := b.Z) rfl rfl rfl)) ?_
 refine rq 18 36 (v := .int .u64 (IntKind.u64.wrap (bits .and .i64 b.X b.Z))) rfl (hS9.se [0, 1, 2]) (fun w' hw' => (Y_conv (k := .i64) (a := (bits .and .i64 b.X b.Z)) (T := 3) (T' := 74) K39 K40 rfl rfl)) ?_
 refine rq 21 39 (v := pt (aD b1) 2) rfl (hS9.se [0, 1, 2]) (fun w' hw' => (yd (aD b1) 0 0 K38 K3)) ?_
 refine rq 22 40 (v := vi a.Z) rfl (hS9.se [0, 1, 2]) (fun w' hw' => (yl (aD b1) 2 [vi a.Phase, vi a.X, vi a.Z] (vi a.Z) K4 (ST.cf hw' (i := 0) rfl))) ?_
 refine rq 23 41 (v := pt (aD b2) 1) rfl (hS9.se [0, 1, 2]) (fun w' hw' => (yd (aD b2) 0 0 K37 K3)) ?_
 refine rq 24 42 (v := vi b.X) rfl (hS9.se [0, 1, 2]) (fun w' hw' => (yl (aD b2) 1 [vi b.Phase, vi b.X, vi b.Z] (vi b.X) K4 (ST.cf hw' (i := 1) rfl))) ?_
 refine rq 25 43 (v := vi (bits .and .i64 a.Z b.X)) rfl (hS9.se [0, 1, 2]) (fun w' hw' => (Y_band (k := .i64) (a := a.Z) (b := b.X) rfl rfl rfl)) ?_
 refine rq 26 44 (v := .int .u64 (IntKind.u64.wrap (bits .and .i64 a.Z b.X))) rfl (hS9.se [0, 1, 2]) (fun w' hw' => (Y_conv (k := .i64) (a := (bits .and .i64 a.Z b.X)) (T := 3) (T' := 74) K39 K40 rfl rfl)) ?_
 refine rq 30 48 (v := vi (bits .xor .i64 a.X b.X)) rfl (hS9.se [0, 1, 2]) (fun w' hw' => (ym (vi (bits .xor .i64 a.X b.X)))) ?_
 refine rq 31 49 (v := vi (bits .xor .i64 a.Z b.Z)) rfl (hS9.se [0, 1, 2]) (fun w' hw' => (ym (vi (bits .xor .i64 a.Z b.Z)))) ?_
 refine rq 32 50 (v := vi (bits .and .i64 (bits .xor .i64 a.X b.X) (bits .xor .i64 a.Z b.Z))) rfl (hS9.se [0, 1, 2]) (fun w' hw' => (Y_band (k := .i64) (a := (bits .xor .i64 a.X b.X)) (b := (bits .xor .i64 a.Z b.Z)) rfl rfl rfl)) ?_
 refine rq 33 51 (v := .int .u64 (IntKind.u64.wrap (bits .and .i64 (bits .xor .i64 a.X b.X) (bits .xor .i64 a.Z b.Z)))) rfl (hS9.se [0, 1, 2]) (fun w' hw' => (Y_conv (k := .i64) (a := (bits .and .i64 (bits .xor .i64 a.X b.X) (bits .xor .i64 a.Z b.Z))) (T := 3) (T' := 74) K39 K40 rfl rfl)) ?_
 refine rA [11] ?_
 refine rC 29 11 rfl (yC [.int .u64 (IntKind.u64.wrap (bits .and .i64 a.X a.Z))] K50 (c_math_bits_OnesCount (IntKind.u64.wrap (bits .and .i64 a.X a.Z)) _  (hS9.inn0 [] rfl) hc)) ?_ ?_
 ·rintro _ w_3 ⟨rfl, hd⟩
  have hS10 := hS9.out00 hd
  refine ⟨(hS10.se [0, 1, 2]), ?_⟩
  refine rq 12 30 (v := vi (i64.wrap ((i64.wrap (a.Phase + b.Phase)) + r_1))) rfl (hS10.se [0, 1, 2]) (fun w' hw' => (yP (i64.wrap (a.Phase + b.Phase)) r_1)) ?_
  refine rA [19] ?_
  refine rC 37 19 rfl (yC [.int .u64 (IntKind.u64.wrap (bits .and .i64 b.X b.Z))] K50 (c_math_bits_OnesCount (IntKind.u64.wrap (bits .and .i64 b.X b.Z)) _  (hS10.inn0 [] rfl) hc1)) ?_ ?_
  ·rintro _ w_4 ⟨rfl, hd1⟩
   have hS11 := hS10.out00 hd1
   refine ⟨(hS11.se [0, 1, 2]), ?_⟩
   refine rq 20 38 (v := vi (i64.wrap ((i64.wrap ((i64.wrap (a.Phase + b.Phase)) + r_1)) + r_2))) rfl (hS11.se [0, 1, 2]) (fun w' hw' => (yP (i64.wrap ((i64.wrap (a.Phase + b.Phase)) + r_1)) r_2)) ?_
   refine rA [27] ?_
   refine rC 45 27 rfl (yC [.int .u64 (IntKind.u64.wrap (bits .and .i64 a.Z b.X))] K50 (c_math_bits_OnesCount (IntKind.u64.wrap (bits .and .i64 a.Z b.X)) _  (hS11.inn0 [] rfl) hc2)) ?_ ?_
   ·rintro _ w_5 ⟨rfl, hd2⟩
    have hS12 := hS11.out00 hd2
    refine ⟨(hS12.se [0, 1, 2]), ?_⟩
    refine rq 28 46 (v := vi (i64.wrap (2 * r_3))) rfl (hS12.se [0, 1, 2]) (fun w' hw' => (yX 2 r_3)) ?_
    refine ra_q 29 47 (v := vi (i64.wrap ((i64.wrap ((i64.wrap ((i64.wrap (a.Phase + b.Phase)) + r_1)) + r_2)) + (i64.wrap (2 * r_3))))) rfl rfl rfl (by kernel_rfl) (by kernel_rfl) (by kernel_rfl) (hS12.se [0, 1, 2]) (fun w' hw' => (yP (i64.wrap ((i64.wrap ((i64.wrap (a.Phase + b.Phase)) + r_1)) + r_2)) (i64.wrap (2 * r_3)))) ?_
    refine rA [34] ?_
    refine rC 52 34 rfl (yC [.int .u64 (IntKind.u64.wrap (bits .and .i64 (bits .xor .i64 a.X b.X) (bits .xor .i64 a.Z b.Z)))] K50 (c_math_bits_OnesCount (IntKind.u64.wrap (bits .and .i64 (bits .xor .i64 a.X b.X) (bits .xor .i64 a.Z b.Z))) _  (hS12.inn0 [] rfl) hc3)) ?_ ?_
    ·rintro _ w_6 ⟨rfl, hd3⟩
     have hS13 := hS12.out00 hd3
     refine ⟨(hS13.se [0, 1, 2]), ?_⟩
     refine ra_q 35 53 (v := vi (i64.wrap ((i64.wrap ((i64.wrap ((i64.wrap ((i64.wrap (a.Phase + b.Phase)) + r_1)) + r_2)) + (i64.wrap (2 * r_3)))) - r_4))) rfl rfl rfl (by kernel_rfl) (by kernel_rfl) (by kernel_rfl) (hS13.se [0, 1, 2]) (fun w' hw' => (yM (i64.wrap ((i64.wrap ((i64.wrap ((i64.wrap (a.Phase + b.Phase)) + r_1)) + r_2)) + (i64.wrap (2 * r_3)))) r_4)) ?_
     refine ra_q 36 7 (v := vi (i64.wrap ((i64.wrap ((i64.wrap ((i64.wrap ((i64.wrap (a.Phase + b.Phase)) + r_1)) + r_2)) + (i64.wrap (2 * r_3)))) - r_4))) rfl rfl rfl (by kernel_rfl) (by kernel_rfl) (by kernel_rfl) (hS13.se [0, 1, 2]) (fun w' hw' => (yg (vi (i64.wrap ((i64.wrap ((i64.wrap ((i64.wrap ((i64.wrap (a.Phase + b.Phase)) + r_1)) + r_2)) + (i64.wrap (2 * r_3)))) - r_4))))) ?_
     refine ra_done (by kernel_rfl) ?_
     refine cq (cr ?_)
     refine sQ 54 (ym (vi (i64.wrap ((i64.wrap ((i64.wrap ((i64.wrap ((i64.wrap (a.Phase + b.Phase)) + r_1)) + r_2)) + (i64.wrap (2 * r_3)))) - r_4)))) <| sQ 55 (Y_rem (k := .i64) (a := (i64.wrap ((i64.wrap ((i64.wrap ((i64.wrap ((i64.wrap (a.Phase + b.Phase)) + r_1)) + r_2)) + (i64.wrap (2 * r_3)))) - r_4))) (b := 4) rfl rfl rfl (by decide)) <| sQ 56 (yP (Int.tmod (i64.wrap ((i64.wrap ((i64.wrap ((i64.wrap ((i64.wrap (a.Phase + b.Phase)) + r_1)) + r_2)) + (i64.wrap (2 * r_3)))) - r_4)) 4) 4) <| sQ 57 (Y_rem (k := .i64) (a := (i64.wrap ((Int.tmod (i64.wrap ((i64.wrap ((i64.wrap ((i64.wrap ((i64.wrap (a.Phase + b.Phase)) + r_1)) + r_2)) + (i64.wrap (2 * r_3)))) - r_4)) 4) + 4))) (b := 4) rfl rfl rfl (by decide)) <| sQ 58 (ym (vi (bits .xor .i64 a.X b.X))) <| sQ 59 (ym (vi (bits .xor .i64 a.Z b.Z))) ?_
     refine sQ 60 (Y_buildS (zs := [vi 0, vi 0, vi 0]) (vs := [(0, vi (Int.tmod (i64.wrap ((Int.tmod (i64.wrap ((i64.wrap ((i64.wrap ((i64.wrap ((i64.wrap (a.Phase + b.Phase)) + r_1)) + r_2)) + (i64.wrap (2 * r_3)))) - r_4)) 4) + 4)) 4)), (1, vi (bits .xor .i64 a.X b.X)), (2, vi (bits .xor .i64 a.Z b.Z))]) (cs := [vi (Int.tmod (i64.wrap ((Int.tmod (i64.wrap ((i64.wrap ((i64.wrap ((i64.wrap ((i64.wrap (a.Phase + b.Phase)) + r_1)) + r_2)) + (i64.wrap (2 * r_3)))) - r_4)) 4) + 4)) 4), vi (bits .xor .i64 a.X b.X), vi (bits .xor .i64 a.Z b.Z)]) K24 K5 rfl (mpc rfl (mpc rfl (mpc rfl mpn))) rfl) ?_
     refine s0 (yT 2 3 (aD b3) 71 (.agg #[vi (Int.tmod (i64.wrap ((Int.tmod (i64.wrap ((i64.wrap ((i64.wrap ((i64.wrap ((i64.wrap (a.Phase + b.Phase)) + r_1)) + r_2)) + (i64.wrap (2 * r_3)))) - r_4)) 4) + 4)) 4), vi (bits .xor .i64 a.X b.X), vi (bits .xor .i64 a.Z b.Z)]) [vi (Int.tmod (i64.wrap ((Int.tmod (i64.wrap ((i64.wrap ((i64.wrap ((i64.wrap ((i64.wrap (a.Phase + b.Phase)) + r_1)) + r_2)) + (i64.wrap (2 * r_3)))) - r_4)) 4) + 4)) 4), vi (bits .xor .i64 a.X b.X), vi (bits .xor .i64 a.Z b.Z)] 0 hS13 K0) ?_
     rintro _ w_7 ⟨rfl, hS14⟩
     refine rn (ct_ ?_)
     obtain rfl := sI hF
     exact ret1 Try.results64 (v1 := .agg #[vi (Int.tmod (i64.wrap ((Int.tmod (i64.wrap ((i64.wrap ((i64.wrap ((i64.wrap ((i64.wrap (a.Phase + b.Phase)) + r_1)) + r_2)) + (i64.wrap (2 * r_3)))) - r_4)) 4) + 4)) 4), vi (bits .xor .i64 a.X b.X), vi (bits .xor .i64 a.Z b.Z)]) (resAt_cellA (B := aD b3) (i := 0) (cs := [vi (Int.tmod (i64.wrap ((Int.tmod (i64.wrap ((i64.wrap ((i64.wrap ((i64.wrap ((i64.wrap (a.Phase + b.Phase)) + r_1)) + r_2)) + (i64.wrap (2 * r_3)))) - r_4)) 4) + 4)) 4), vi (bits .xor .i64 a.X b.X), vi (bits .xor .i64 a.Z b.Z)]) (vs := [vi (Int.tmod (i64.wrap ((Int.tmod (i64.wrap ((i64.wrap ((i64.wrap ((i64.wrap ((i64.wrap (a.Phase + b.Phase)) + r_1)) + r_2)) + (i64.wrap (2 * r_3)))) - r_4)) 4) + 4)) 4), vi (bits .xor .i64 a.X b.X), vi (bits .xor .i64 a.Z b.Z)]) rfl K14 K0 (hS14.c 2) rfl rfl) ⟨rfl, (hS14.sN [])⟩
    exact aN
   exact aN
  exact aN
 exact aN

theorem c_impl_image (t : TTableau) (p : TPauli) (B : Option Addr) (c n : Nat) (B1 : Option Addr) (c1 n1 : Nat) (w0 : World) (hn : t.XImages.length = n) (hn1 : t.ZImages.length = n1) (hS : ST w0 [] w0 [] [⟨B, (t.XImages.flatMap eN0)⟩, ⟨B1, (t.ZImages.flatMap eN0)⟩]) {r_ : TPauli} (hF : F_impl_image t p = some r_) :
  CV Try.prog 45 #[.agg #[vi t.Qubits, .slice B n c, .slice B1 n1 c1], .agg #[vi p.Phase, vi p.X, vi p.Z]] w0 (fun v w' => v = .agg #[vi r_.Phase, vi r_.X, vi r_.Z] ∧ ST w0 [] w' [] []) := by
 subst hn
 subst hn1
 unfold F_impl_image at hF
 refine cv_of_cw 52 Try.func45 rfl Try.ntmps45 rfl ?_
 refine cq (cr ?_)
 refine sS 2 (yB 40 (.agg #[vi t.Qubits, .slice B t.XImages.length c, .slice B1 t.ZImages.length c1]) [vi t.Qubits, .slice B t.XImages.length c, .slice B1 t.ZImages.length c1] 3 hS) ?_
 rintro _ w_ ⟨b, rfl, hS1⟩
 refine sS 3 (yB 71 (.agg #[vi p.Phase, vi p.X, vi p.Z]) [vi p.Phase, vi p.X, vi p.Z] 3 hS1) ?_
 rintro _ w_1 ⟨b1, rfl, hS2⟩
 refine sS 4 (yN [vi 0, vi 0, vi 0] 3 hS2 K5) ?_
 rintro _ w_2 ⟨b2, rfl, hS3⟩
 refine rn (cq ?_)
 obtain ⟨r_1, hc, hF⟩ := bI hF
 refine cw_mid (fun f w => ∃ (B2 : Option Addr), FF f [(2, pt (aD b) 0), (3, pt (aD b1) 0), (4, pt (aD b2) 0), (5, pt B2 0)] ∧ ST w0 [] w [⟨aD b, 40, [vi t.Qubits, .slice B t.XImages.length c, .slice B1 t.ZImages.length c1], 3⟩, ⟨aD b1, 71, [vi p.Phase, vi p.X, vi p.Z], 3⟩, ⟨aD b2, 71, [vi 0, vi 0, vi 0], 3⟩, ⟨B2, 71, [vi (Int.tmod (i64.wrap (p.Phase + r_1)) 4), vi 0, vi 0], 3⟩] [⟨B, (t.XImages.flatMap eN0)⟩, ⟨B1, (t.ZImages.flatMap eN0)⟩]) ?_ ?_
 ·skip
  refine ra_start (hS3.se [0, 1, 2]).fn (by kernel_rfl) ?_
  have hS6 := hS3.drew
  refine rq 0 7 (v := pt (aD b1) 0) rfl (hS6.se [0, 1, 2]) (fun w' hw' => (yd (aD b1) 0 0 K23 K3)) ?_
  refine rq 1 8 (v := vi p.Phase) rfl (hS6.se [0, 1, 2]) (fun w' hw' => (yl (aD b1) 0 [vi p.Phase, vi p.X, vi p.Z] (vi p.Phase) K4 (ST.cf hw' (i := 1) rfl))) ?_
  refine rq 2 9 (v := pt (aD b1) 1) rfl (hS6.se [0, 1, 2]) (fun w' hw' => (yd (aD b1) 0 0 K37 K3)) ?_
  refine rq 3 10 (v := vi p.X) rfl (hS6.se [0, 1, 2]) (fun w' hw' => (yl (aD b1) 1 [vi p.Phase, vi p.X, vi p.Z] (vi p.X) K4 (ST.cf hw' (i := 1) rfl))) ?_
  refine rq 4 11 (v := pt (aD b1) 2) rfl (hS6.se [0, 1, 2]) (fun w' hw' => (yd (aD b1) 0 0 K38 K3)) ?_
  refine rq 5 12 (v := vi p.Z) rfl (hS6.se [0, 1, 2]) (fun w' hw' => (yl (aD b1) 2 [vi p.Phase, vi p.X, vi p.Z] (vi p.Z) K4 (ST.cf hw' (i := 1) rfl))) ?_
  refine rq 6 13 (v := vi (bits .and .i64 p.X p.Z)) rfl (hS6.se [0, 1, 2]) (fun w' hw' => (Y_band (k := .i64) (a := p.X) (b := p.Z) rfl rfl rfl)) ?_
  refine rq 7 14 (v := .int .u64 (IntKind.u64.wrap (bits .and .i64 p.X p.Z))) rfl (hS6.se [0, 1, 2]) (fun w' hw' => (Y_conv (k := .i64) (a := (bits .and .i64 p.X p.Z)) (T := 3) (T' := 74) K39 K40 rfl rfl)) ?_
  refine rA [8, 12] ?_
  refine rC 15 8 rfl (yC [.int .u64 (IntKind.u64.wrap (bits .and .i64 p.X p.Z))] K50 (c_math_bits_OnesCount (IntKind.u64.wrap (bits .and .i64 p.X p.Z)) _  (hS6.inn0 [] rfl) hc)) ?_ ?_
  ·rintro _ w_3 ⟨rfl, hd⟩
   have hS7 := hS6.out00 hd
   refine ⟨(hS7.se [0, 1, 2]), ?_⟩
   refine rq 9 16 (v := vi (i64.wrap (p.Phase + r_1))) rfl (hS7.se [0, 1, 2]) (fun w' hw' => (yP p.Phase r_1)) ?_
   refine rq 10 17 (v := vi (Int.tmod (i64.wrap (p.Phase + r_1)) 4)) rfl (hS7.se [0, 1, 2]) (fun w' hw' => (Y_rem (k := .i64) (a := (i64.wrap (p.Phase + r_1))) (b := 4) rfl rfl rfl (by decide))) ?_
   refine rq 11 18 (v := .agg #[vi (Int.tmod (i64.wrap (p.Phase + r_1)) 4), vi 0, vi 0]) rfl (hS7.se [0, 1, 2]) (fun w' hw' => (Y_buildS (zs := [vi 0, vi 0, vi 0]) (vs := [(0, vi (Int.tmod (i64.wrap (p.Phase + r_1)) 4))]) (cs := [vi (Int.tmod (i64.wrap (p.Phase + r_1)) 4), vi 0, vi 0]) K24 K5 rfl (mpc rfl mpn) rfl)) ?_
   refine rA [12] ?_
   refine rS 5 12 rfl (yN [vi 0, vi 0, vi 0] 3 hS7 K5) ?_ ?_
   ·rintro _ w_4 ⟨b3, rfl, hS8⟩
    refine ⟨(hS8.se [0, 1, 2]), ?_⟩
    refine rA [13] ?_
    refine rZ 13 rfl (yT 3 3 (aD b3) 71 (.agg #[vi (Int.tmod (i64.wrap (p.Phase + r_1)) 4), vi 0, vi 0]) [vi (Int.tmod (i64.wrap (p.Phase + r_1)) 4), vi 0, vi 0] 0 hS8 K0) ?_ ?_
    ·rintro _ w_5 ⟨rfl, hS9⟩
     refine ⟨(hS9.se [0, 1, 2]), ?_⟩
     refine ra_done (by kernel_rfl) ?_
     exact ⟨aD b3, (fc rfl (fc rfl (fc rfl (fc rfl fn_)))), (hS9.sel [0, 1, 2, 3] rfl rfl)⟩
    exact aN
   exact aN
  refine rS 5 12 rfl (yN [vi 0, vi 0, vi 0] 3 hS6 K5) ?_ ?_
  ·rintro _ w_6 ⟨b3, rfl, hS10⟩
   refine ⟨(hS10.se [0, 1, 2]), ?_⟩
   refine rA [8] ?_
   refine rC 15 8 rfl (yC [.int .u64 (IntKind.u64.wrap (bits .and .i64 p.X p.Z))] K50 (c_math_bits_OnesCount (IntKind.u64.wrap (bits .and .i64 p.X p.Z)) _  (hS10.inn0 [] rfl) hc)) ?_ ?_
   ·rintro _ w_7 ⟨rfl, hd1⟩
    have hS11 := hS10.out00 hd1
    refine ⟨(hS11.se [0, 1, 2]), ?_⟩
    refine rq 9 16 (v := vi (i64.wrap (p.Phase + r_1))) rfl (hS11.se [0, 1, 2]) (fun w' hw' => (yP p.Phase r_1)) ?_
    refine rq 10 17 (v := vi (Int.tmod (i64.wrap (p.Phase + r_1)) 4)) rfl (hS11.se [0, 1, 2]) (fun w' hw' => (Y_rem (k := .i64) (a := (i64.wrap (p.Phase + r_1))) (b := 4) rfl rfl rfl (by decide))) ?_
    refine rq 11 18 (v := .agg #[vi (Int.tmod (i64.wrap (p.Phase + r_1)) 4), vi 0, vi 0]) rfl (hS11.se [0, 1, 2]) (fun w' hw' => (Y_buildS (zs := [vi 0, vi 0, vi 0]) (vs := [(0, vi (Int.tmod (i64.wrap (p.Phase + r_1)) 4))]) (cs := [vi (Int.tmod (i64.wrap (p.Phase + r_1)) 4), vi 0, vi 0]) K24 K5 rfl (mpc rfl mpn) rfl)) ?_
    refine rA [13] ?_
    refine rZ 13 rfl (yT 3 3 (aD b3) 71 (.agg #[vi (Int.tmod (i64.wrap (p.Phase + r_1)) 4), vi 0, vi 0]) [vi (Int.tmod (i64.wrap (p.Phase + r_1)) 4), vi 0, vi 0] 0 hS11 K0) ?_ ?_
    ·rintro _ w_8 ⟨rfl, hS12⟩
     refine ⟨(hS12.se [0, 1, 2]), ?_⟩
     refine ra_done (by kernel_rfl) ?_
     exact ⟨aD b3, (fc rfl (fc rfl (fc rfl (fc rfl fn_)))), (hS12.sel [0, 1, 2, 3] rfl rfl)⟩
    exact aN
   exact aN
  exact aN
 rintro f w ⟨B2, hf, hS5⟩
 refine cq (cq (cr ?_))
 refine sQ 19 (yd (aD b) 0 0 K30 K3 rfl (hf.g 2 0)) <| sQ 20 (yl (aD b) 0 [vi t.Qubits, .slice B t.XImages.length c, .slice B1 t.ZImages.length c1] (vi t.Qubits) K4 (hS5.c 0)) <| sQ 21 (ym (vi 0)) (rn ?_)
 obtain ⟨hN, hF⟩ := chk_inv hF
 obtain ⟨z, hz, hF1⟩ := bI hF
 refine cw_block ?_
 refine cw_loop (fun k f w => ∃ (i : Nat) (Phase : Int) (X : Int) (Z : Int), FF f [(2, pt (aD b) 0), (3, pt (aD b1) 0), (4, pt (aD b2) 0), (5, pt B2 0), (20, vi t.Qubits), (21, vi (i : Int))] ∧ ST w0 [] w [⟨aD b, 40, [vi t.Qubits, .slice B t.XImages.length c, .slice B1 t.ZImages.length c1], 3⟩, ⟨aD b1, 71, [vi p.Phase, vi p.X, vi p.Z], 3⟩, ⟨aD b2, 71, [vi 0, vi 0, vi 0], 3⟩, ⟨B2, 71, [vi Phase, vi X, vi Z], 3⟩] [⟨B, (t.XImages.flatMap eN0)⟩, ⟨B1, (t.ZImages.flatMap eN0)⟩] ∧ i + k = t.Qubits.toNat ∧ forN (F_impl_image_l1 p t) k i (Phase, X, Z) = some z) t.Qubits.toNat ⟨0, (Int.tmod (i64.wrap (p.Phase + r_1)) 4), 0, 0, (fc (hf.g 2 0) (fc (hf.g 3 1) (fc (hf.g 4 2) (fc (hf.g 5 3) (fc rfl (fc rfl fn_)))))), (hS5.sel [0, 1, 2, 3] rfl rfl), Nat.zero_add _, hz⟩ ?_
 rintro k_ f w ⟨i, Phase, X, Z, hf1, hS13, hik, hL⟩
 refine cq (cr ?_)
 refine sQ 22 (yL (i : Int) t.Qubits rfl (hf1.g 21 5) (hf1.g 20 4)) (rn (cq ?_))
 refine cw_cond (b := (decide ((i : Int) < t.Qubits))) rfl (fun hlt => ?_) (fun hlt => ?_)
 ·skip
  have hlt1 : i < t.Qubits.toNat := by have h := of_decide_eq_true hlt; omega
  obtain ⟨K7, rfl⟩ : ∃ k2, k_ = k2 + 1 := ⟨k_ - 1, by omega⟩
  obtain ⟨y, hb, hL1⟩ := forN_go hL
  unfold F_impl_image_l1 at hb
  refine cw_skip (cq ?_)
  obtain ⟨z1, hz1, hF2⟩ := bI hb
  refine cw_mid (fun f w => ∃ (Phase1 : Int) (X1 : Int) (Z1 : Int), (Phase1, X1, Z1) = z1 ∧ FF f [(2, pt (aD b) 0), (3, pt (aD b1) 0), (4, pt (aD b2) 0), (5, pt B2 0), (20, vi t.Qubits), (21, vi (i : Int))] ∧ ST w0 [] w [⟨aD b, 40, [vi t.Qubits, .slice B t.XImages.length c, .slice B1 t.ZImages.length c1], 3⟩, ⟨aD b1, 71, [vi p.Phase, vi p.X, vi p.Z], 3⟩, ⟨aD b2, 71, [vi 0, vi 0, vi 0], 3⟩, ⟨B2, 71, [vi Phase1, vi X1, vi Z1], 3⟩] [⟨B, (t.XImages.flatMap eN0)⟩, ⟨B1, (t.ZImages.flatMap eN0)⟩]) ?_ ?_
  ·skip
   refine cw_block (cq (cr ?_))
   refine sQ 23 (ym (vi (i : Int)) rfl (hf1.g 21 5)) <| sQ 6 (yg (vi (i : Int))) (rn (cq ?_))
   obtain ⟨z2, hz2, hF3⟩ := bI hz1
   refine cw_mid (fun f w => ∃ (Phase2 : Int) (X2 : Int) (Z2 : Int), (Phase2, X2, Z2) = z2 ∧ FF f [(2, pt (aD b) 0), (3, pt (aD b1) 0), (4, pt (aD b2) 0), (5, pt B2 0), (6, vi (i : Int)), (20, vi t.Qubits), (21, vi (i : Int))] ∧ ST w0 [] w [⟨aD b, 40, [vi t.Qubits, .slice B t.XImages.length c, .slice B1 t.ZImages.length c1], 3⟩, ⟨aD b1, 71, [vi p.Phase, vi p.X, vi p.Z], 3⟩, ⟨aD b2, 71, [vi 0, vi 0, vi 0], 3⟩, ⟨B2, 71, [vi Phase2, vi X2, vi Z2], 3⟩] [⟨B, (t.XImages.flatMap eN0)⟩, ⟨B1, (t.ZImages.flatMap eN0)⟩]) ?_ ?_
   ·skip
    refine cq (cr ?_)
    refine sQ 24 (yd (aD b1) 0 0 K37 K3 rfl (hf1.g 3 1)) <| sQ 25 (yl (aD b1) 1 [vi p.Phase, vi p.X, vi p.Z] (vi p.X) K4 (hS13.c 1)) <| sQ 26 (ym (vi (i : Int))) ?_
    obtain ⟨hsh, hz2⟩ := chk_inv hz2
    refine sQ 27 (Y_shr (k := .i64) (a := p.X) (k' := .i64) (b := (i : Int)) rfl rfl rfl hsh) <| sQ 28 (Y_band (k := .i64) (a := (shrK .i64 p.X (i : Int))) (b := 1) rfl rfl rfl) <| sQ 29 (yE (bits .and .i64 (shrK .i64 p.X (i : Int)) 1) 1) (rn ?_)
    refine cw_cond (b := ((bits .and .i64 (shrK .i64 p.X (i : Int)) 1) == 1)) rfl (fun hb1 => ?_) (fun hb1 => ?_)
    ·skip
     have hF4 := ct hz2 hb1
     obtain ⟨x, hx, hF4⟩ := bI hF4
     obtain ⟨r_2, hc1, hF4⟩ := bI hF4
     refine ra_start (hS13.se [0, 1, 2]).fn (by kernel_rfl) ?_
     have hS17 := hS13.drew
     refine rq 1 31 (v := pt (aD b) 1) rfl (hS17.se [0, 1, 2]) (fun w' hw' => (yd (aD b) 0 0 K9 K1 rfl (hf1.g 2 0))) ?_
     refine rq 2 32 (v := .slice B t.XImages.length c) rfl (hS17.se [0, 1, 2]) (fun w' hw' => (yl (aD b) 1 [vi t.Qubits, .slice B t.XImages.length c, .slice B1 t.ZImages.length c1] (.slice B t.XImages.length c) K6 (ST.cf hw' (i := 0) rfl))) ?_
     refine rq 3 33 (v := vi (i : Int)) rfl (hS17.se [0, 1, 2]) (fun w' hw' => (ym (vi (i : Int)))) ?_
     refine rq 4 34 (v := pt B ((i : Int).toNat * 3)) rfl (hS17.se [0, 1, 2]) (fun w' hw' => (Y_index (B := B) (m := t.XImages.length) (c := c) (k := .i64) (i := (i : Int)) K2 K0 rfl rfl rfl (gi_isSome eN1 rfl (ST.rf hw' (i := 0) rfl) hx) (getI_nn hx) (getI_ltI hx rfl))) ?_
     refine rq 5 35 (v := .agg #[vi x.Phase, vi x.X, vi x.Z]) rfl (hS17.se [0, 1, 2]) (fun w' hw' => (ya B ((i : Int).toNat * 3) (t.XImages.flatMap eN0) [vi x.Phase, vi x.X, vi x.Z] K14 K0 (ST.rf hw' (i := 0) rfl) rfl rfl (eN1 x) (gi_seg eN1 hx))) ?_
     refine rA [0] ?_
     refine ra_y 30 (i := 0) (v := .agg #[vi Phase, vi X, vi Z]) rfl rfl rfl (yb B2 0 [vi Phase, vi X, vi Z] K14 K0 (hS17.c 3) rfl (hf1.g 5 3)) (hS17.se [0, 1, 2]) ?_ ?_
     ·skip
      refine rA [6] ?_
      refine rC 36 6 rfl (yC [.agg #[vi Phase, vi X, vi Z], .agg #[vi x.Phase, vi x.X, vi x.Z]] k_call_64 (c_impl_times (TPauli.mk Phase X Z) x _  (hS17.inn0 [] rfl) hc1)) ?_ ?_
      ·rintro _ w_9 ⟨rfl, hd2⟩
       have hS18 := hS17.out00 hd2
       refine ⟨(hS18.se [0, 1, 2]), ?_⟩
       refine rA [7] ?_
       refine rZ 7 rfl (yT 3 3 B2 71 (.agg #[vi r_2.Phase, vi r_2.X, vi r_2.Z]) [vi r_2.Phase, vi r_2.X, vi r_2.Z] 0 hS18 K0 rfl (hf1.g 5 3)) ?_ ?_
       ·rintro _ w_10 ⟨rfl, hS19⟩
        refine ⟨(hS19.se [0, 1, 2]), ?_⟩
        refine ra_done (by kernel_rfl) ?_
        exact ⟨r_2.Phase, r_2.X, r_2.Z, (sI hF4), (fc (hf1.g 2 0) (fc (hf1.g 3 1) (fc (hf1.g 4 2) (fc (hf1.g 5 3) (fc rfl (fc (hf1.g 20 4) (fc (hf1.g 21 5) fn_))))))), (hS19.sel [0, 1, 2, 3] rfl rfl)⟩
       exact aN
      exact aN
     exact aN
    ·skip
     have hF5 := cf' hz2 hb1
     refine cw_skip ?_
     exact ⟨Phase, X, Z, (sI hF5), (fc (hf1.g 2 0) (fc (hf1.g 3 1) (fc (hf1.g 4 2) (fc (hf1.g 5 3) (fc rfl (fc (hf1.g 20 4) (fc (hf1.g 21 5) fn_))))))), (hS13.sel [0, 1, 2, 3] rfl rfl)⟩
   rintro f w ⟨Phase2, X2, Z2, rfl, hf3, hS15⟩
   refine cq (cr ?_)
   refine sQ 37 (yd (aD b1) 0 0 K38 K3 rfl (hf3.g 3 1)) <| sQ 38 (yl (aD b1) 2 [vi p.Phase, vi p.X, vi p.Z] (vi p.Z) K4 (hS15.c 1)) <| sQ 39 (ym (vi (i : Int)) rfl (hf3.g 6 4)) ?_
   obtain ⟨hsh1, hF3⟩ := chk_inv hF3
   refine sQ 40 (Y_shr (k := .i64) (a := p.Z) (k' := .i64) (b := (i : Int)) rfl rfl rfl hsh1) <| sQ 41 (Y_band (k := .i64) (a := (shrK .i64 p.Z (i : Int))) (b := 1) rfl rfl rfl) <| sQ 42 (yE (bits .and .i64 (shrK .i64 p.Z (i : Int)) 1) 1) (rn ?_)
   refine cw_cond (b := ((bits .and .i64 (shrK .i64 p.Z (i : Int)) 1) == 1)) rfl (fun hb2 => ?_) (fun hb2 => ?_)
   ·skip
    have hF6 := ct hF3 hb2
    obtain ⟨x1, hx1, hF6⟩ := bI hF6
    obtain ⟨r_3, hc2, hF6⟩ := bI hF6
    refine ra_start (hS15.se [0, 1, 2]).fn (by kernel_rfl) ?_
    have hS21 := hS15.drew
    refine rq 1 44 (v := pt (aD b) 2) rfl (hS21.se [0, 1, 2]) (fun w' hw' => (yd (aD b) 0 0 K11 K1 rfl (hf3.g 2 0))) ?_
    refine rq 2 45 (v := .slice B1 t.ZImages.length c1) rfl (hS21.se [0, 1, 2]) (fun w' hw' => (yl (aD b) 2 [vi t.Qubits, .slice B t.XImages.length c, .slice B1 t.ZImages.length c1] (.slice B1 t.ZImages.length c1) K6 (ST.cf hw' (i := 0) rfl))) ?_
    refine rq 3 46 (v := vi (i : Int)) rfl (hS21.se [0, 1, 2]) (fun w' hw' => (ym (vi (i : Int)) rfl (hf3.g 6 4))) ?_
    refine rq 4 47 (v := pt B1 ((i : Int).toNat * 3)) rfl (hS21.se [0, 1, 2]) (fun w' hw' => (Y_index (B := B1) (m := t.ZImages.length) (c := c1) (k := .i64) (i := (i : Int)) K2 K0 rfl rfl rfl (gi_isSome eN1 rfl (ST.rf hw' (i := 1) rfl) hx1) (getI_nn hx1) (getI_ltI hx1 rfl))) ?_
    refine rq 5 48 (v := .agg #[vi x1.Phase, vi x1.X, vi x1.Z]) rfl (hS21.se [0, 1, 2]) (fun w' hw' => (ya B1 ((i : Int).toNat * 3) (t.ZImages.flatMap eN0) [vi x1.Phase, vi x1.X, vi x1.Z] K14 K0 (ST.rf hw' (i := 1) rfl) rfl rfl (eN1 x1) (gi_seg eN1 hx1))) ?_
    refine rA [0] ?_
    refine ra_y 43 (i := 0) (v := .agg #[vi Phase2, vi X2, vi Z2]) rfl rfl rfl (yb B2 0 [vi Phase2, vi X2, vi Z2] K14 K0 (hS21.c 3) rfl (hf3.g 5 3)) (hS21.se [0, 1, 2]) ?_ ?_
    ·skip
     refine rA [6] ?_
     refine rC 49 6 rfl (yC [.agg #[vi Phase2, vi X2, vi Z2], .agg #[vi x1.Phase, vi x1.X, vi x1.Z]] k_call_64 (c_impl_times (TPauli.mk Phase2 X2 Z2) x1 _  (hS21.inn0 [] rfl) hc2)) ?_ ?_
     ·rintro _ w_11 ⟨rfl, hd3⟩
      have hS22 := hS21.out00 hd3
      refine ⟨(hS22.se [0, 1, 2]), ?_⟩
      refine rA [7] ?_
      refine rZ 7 rfl (yT 3 3 B2 71 (.agg #[vi r_3.Phase, vi r_3.X, vi r_3.Z]) [vi r_3.Phase, vi r_3.X, vi r_3.Z] 0 hS22 K0 rfl (hf3.g 5 3)) ?_ ?_
      ·rintro _ w_12 ⟨rfl, hS23⟩
       refine ⟨(hS23.se [0, 1, 2]), ?_⟩
       refine ra_done (by kernel_rfl) ?_
       exact ⟨r_3.Phase, r_3.X, r_3.Z, (sI hF6), (fc (hf3.g 2 0) (fc (hf3.g 3 1) (fc (hf3.g 4 2) (fc (hf3.g 5 3) (fc (hf3.g 20 5) (fc (hf3.g 21 6) fn_)))))), (hS23.sel [0, 1, 2, 3] rfl rfl)⟩
      exact aN
     exact aN
    exact aN
   ·skip
    have hF7 := cf' hF3 hb2
    refine cw_skip ?_
    exact ⟨Phase2, X2, Z2, (sI hF7), (fc (hf3.g 2 0) (fc (hf3.g 3 1) (fc (hf3.g 4 2) (fc (hf3.g 5 3) (fc (hf3.g 20 5) (fc (hf3.g 21 6) fn_)))))), (hS15.sel [0, 1, 2, 3] rfl rfl)⟩
  rintro f w ⟨Phase1, X1, Z1, rfl, hf2, hS14⟩
  refine cr ?_
  refine sQ 50 (yP (i : Int) 1 rfl (hf2.g 21 5)) <| sQ 21 (ym (vi (i64.wrap ((i : Int) + 1)))) (rn ?_)
  obtain rfl := sI hF2
  exact ⟨K7, Nat.lt_succ_self _, i + 1, Phase1, X1, Z1, (fc (hf2.g 2 0) (fc (hf2.g 3 1) (fc (hf2.g 4 2) (fc (hf2.g 5 3) (fc (hf2.g 20 4) (fc (congrArg (Value.int .i64) (wr_succ hlt1 hN)) fn_)))))), (hS14.sel [0, 1, 2, 3] rfl rfl), (by omega), hL1⟩
 ·skip
  obtain rfl : k_ = 0 := by have h := of_decide_eq_false hlt; omega
  refine cw_exit rfl ?_
  obtain rfl := sI hL
  refine cq (cr ?_)
  refine sQ 51 (yb B2 0 [vi Phase, vi X, vi Z] K14 K0 (hS13.c 3) rfl (hf1.g 5 3)) ?_
  refine s0 (yT 2 3 (aD b2) 71 (.agg #[vi Phase, vi X, vi Z]) [vi Phase, vi X, vi Z] 0 hS13 K0 rfl (hf1.g 4 2)) ?_
  rintro _ w_13 ⟨rfl, hS24⟩
  refine rn (ct_ ?_)
  obtain rfl := sI hF1
  exact ret1 Try.results45 (v1 := .agg #[vi Phase, vi X, vi Z]) (resAt_cellA (B := aD b2) (i := 0) (cs := [vi Phase, vi X, vi Z]) (vs := [vi Phase, vi X, vi Z]) (hf1.g 4 2) K14 K0 (hS24.c 2) rfl rfl) ⟨rfl, (hS24.sN [])⟩

theorem c_impl_compose (first : TTableau) (second : TTableau) (B : Option Addr) (c n : Nat) (B1 : Option Addr) (c1 n1 : Nat) (B2 : Option Addr) (c2 n2 : Nat) (B3 : Option Addr) (c3 n3 : Nat) (w0 : World) (hn : first.XImages.length = n) (hn1 : first.ZImages.length = n1) (hn2 : second.XImages.length = n2) (hn3 : second.ZImages.length = n3) (hS : ST w0 [] w0 [] [⟨B, (first.XImages.flatMap eN0)⟩, ⟨B1, (first.ZImages.flatMap eN0)⟩, ⟨B2, (second.XImages.flatMap eN0)⟩, ⟨B3, (second.ZImages.flatMap eN0)⟩]) {r_ : TTableau} (hF : F_impl_compose first second = some r_) :
  CV Try.prog 29 #[.agg #[vi first.Qubits, .slice B n c, .slice B1 n1 c1], .agg #[vi second.Qubits, .slice B2 n2 c2, .slice B3 n3 c3]] w0 (fun v w' => ∃ (B4 : Option Addr) (c4 : Nat) (B5 : Option Addr) (c5 : Nat), v = .agg #[vi r_.Qubits, .slice B4 r_.XImages.length c4, .slice B5 r_.ZImages.length c5] ∧ ST w0 [] w' [⟨B4, 71, (r_.XImages.flatMap eN0), c4 * 3⟩, ⟨B5, 71, (r_.ZImages.flatMap eN0), c5 * 3⟩] []) := by
 subst hn
 subst hn1
 subst hn2
 subst hn3
 unfold F_impl_compose at hF
 refine cv_of_cw 41 Try.func29 rfl Try.ntmps29 rfl ?_
 refine cq (cr ?_)
 refine sS 2 (yB 40 (.agg #[vi first.Qubits, .slice B first.XImages.length c, .slice B1 first.ZImages.length c1]) [vi first.Qubits, .slice B first.XImages.length c, .slice B1 first.ZImages.length c1] 3 hS) ?_
 rintro _ w_ ⟨b, rfl, hS1⟩
 refine sS 3 (yB 40 (.agg #[vi second.Qubits, .slice B2 second.XImages.length c2, .slice B3 second.ZImages.length c3]) [vi second.Qubits, .slice B2 second.XImages.length c2, .slice B3 second.ZImages.length c3] 3 hS1) ?_
 rintro _ w_1 ⟨b1, rfl, hS2⟩
 refine sS 4 (yN [vi 0, .slice none 0 0, .slice none 0 0] 3 hS2 K31) ?_
 rintro _ w_2 ⟨b2, rfl, hS3⟩
 refine rn (cq (cr ?_))
 refine sQ 7 (yd (aD b) 0 0 K30 K3) <| sQ 8 (yl (aD b) 0 [vi first.Qubits, .slice B first.XImages.length c, .slice B1 first.ZImages.length c1] (vi first.Qubits) K4 (hS3.c 0)) <| sQ 9 (Y_buildS (zs := [vi 0, .slice none 0 0, .slice none 0 0]) (vs := [(0, vi first.Qubits)]) (cs := [vi first.Qubits, .slice none 0 0, .slice none 0 0]) K59 K31 rfl (mpc rfl mpn) rfl) ?_
 refine sS 5 (yN [vi 0, .slice none 0 0, .slice none 0 0] 3 hS3 K31) ?_
 rintro _ w_3 ⟨b3, rfl, hS4⟩
 refine s0 (yT 3 3 (aD b3) 40 (.agg #[vi first.Qubits, .slice none 0 0, .slice none 0 0]) [vi first.Qubits, .slice none 0 0, .slice none 0 0] 0 hS4 K10) ?_
 rintro _ w_4 ⟨rfl, hS5⟩
 refine rn (cq (cq (cr ?_)))
 refine sQ 10 (yd (aD b) 0 0 K30 K3) <| sQ 11 (yl (aD b) 0 [vi first.Qubits, .slice B first.XImages.length c, .slice B1 first.ZImages.length c1] (vi first.Qubits) K4 (hS5.c 0)) <| sQ 12 (ym (vi 0)) (rn ?_)
 obtain ⟨hN, hF⟩ := chk_inv hF
 obtain ⟨z, hz, hF1⟩ := bI hF
 have hS7 := hS5.addNil 71
 have hS8 := hS7.addNil 71
 refine cw_block ?_
 refine cw_loop (fun k f w => ∃ (i : Nat) (XImages : List TPauli) (ZImages : List TPauli) (B6 : Option Addr) (c6 : Nat) (B7 : Option Addr) (c7 : Nat), FF f [(2, pt (aD b) 0), (3, pt (aD b1) 0), (4, pt (aD b2) 0), (5, pt (aD b3) 0), (11, vi first.Qubits), (12, vi (i : Int))] ∧ ST w0 [] w [⟨aD b, 40, [vi first.Qubits, .slice B first.XImages.length c, .slice B1 first.ZImages.length c1], 3⟩, ⟨aD b1, 40, [vi second.Qubits, .slice B2 second.XImages.length c2, .slice B3 second.ZImages.length c3], 3⟩, ⟨aD b2, 40, [vi 0, .slice none 0 0, .slice none 0 0], 3⟩, ⟨aD b3, 40, [vi first.Qubits, .slice B6 XImages.length c6, .slice B7 ZImages.length c7], 3⟩, ⟨B6, 71, (XImages.flatMap eN0), c6 * 3⟩, ⟨B7, 71, (ZImages.flatMap eN0), c7 * 3⟩] [⟨B, (first.XImages.flatMap eN0)⟩, ⟨B1, (first.ZImages.flatMap eN0)⟩, ⟨B2, (second.XImages.flatMap eN0)⟩, ⟨B3, (second.ZImages.flatMap eN0)⟩] ∧ i + k = first.Qubits.toNat ∧ forN (F_impl_compose_l1 first second) k i (XImages, ZImages) = some z) first.Qubits.toNat ⟨0, [], [], none, 0, none, 0, (fc rfl (fc rfl (fc rfl (fc rfl (fc rfl (fc rfl fn_)))))), (hS8.sel [0, 1, 2, 3, 4, 5] rfl rfl), Nat.zero_add _, hz⟩ ?_
 rintro k_ f w ⟨i, XImages, ZImages, B6, c6, B7, c7, hf, hS6, hik, hL⟩
 refine cq (cr ?_)
 refine sQ 13 (yL (i : Int) first.Qubits rfl (hf.g 12 5) (hf.g 11 4)) (rn (cq ?_))
 refine cw_cond (b := (decide ((i : Int) < first.Qubits))) rfl (fun hlt => ?_) (fun hlt => ?_)
 ·skip
  have hlt1 : i < first.Qubits.toNat := by have h := of_decide_eq_true hlt; omega
  obtain ⟨K7, rfl⟩ : ∃ k2, k_ = k2 + 1 := ⟨k_ - 1, by omega⟩
  obtain ⟨y, hb, hL1⟩ := forN_go hL
  unfold F_impl_compose_l1 at hb
  refine cw_skip (cq (cw_block (cq (cr ?_))))
  refine sQ 14 (ym (vi (i : Int)) rfl (hf.g 12 5)) <| sQ 6 (yg (vi (i : Int))) (rn ?_)
  obtain ⟨x, hx, hb⟩ := bI hb
  obtain ⟨r_1, hc, hb⟩ := bI hb
  obtain ⟨hap, hb⟩ := chk_inv hb
  obtain ⟨x1, hx1, hb⟩ := bI hb
  obtain ⟨r_2, hc1, hb⟩ := bI hb
  obtain ⟨hap1, hb⟩ := chk_inv hb
  refine cw_mid (fun f w => ∃ (B10 : Option Addr) (c10 : Nat) (B11 : Option Addr) (c11 : Nat), FF f [(2, pt (aD b) 0), (3, pt (aD b1) 0), (4, pt (aD b2) 0), (5, pt (aD b3) 0), (11, vi first.Qubits), (12, vi (i : Int))] ∧ ST w0 [] w [⟨aD b, 40, [vi first.Qubits, .slice B first.XImages.length c, .slice B1 first.ZImages.length c1], 3⟩, ⟨aD b1, 40, [vi second.Qubits, .slice B2 second.XImages.length c2, .slice B3 second.ZImages.length c3], 3⟩, ⟨aD b2, 40, [vi 0, .slice none 0 0, .slice none 0 0], 3⟩, ⟨aD b3, 40, [vi first.Qubits, .slice B10 ((XImages ++ [r_1]).length) c10, .slice B11 ((ZImages ++ [r_2]).length) c11], 3⟩, ⟨B10, 71, ((XImages ++ [r_1]).flatMap eN0), c10 * 3⟩, ⟨B11, 71, ((ZImages ++ [r_2]).flatMap eN0), c11 * 3⟩] [⟨B, (first.XImages.flatMap eN0)⟩, ⟨B1, (first.ZImages.flatMap eN0)⟩, ⟨B2, (second.XImages.flatMap eN0)⟩, ⟨B3, (second.ZImages.flatMap eN0)⟩]) ?_ ?_
  ·skip
   refine ra_start (hS6.se [0, 1, 2]).fn (by kernel_rfl) ?_
   have hS12 := hS6.drew
   refine rq 0 15 (v := pt (aD b3) 1) rfl (hS12.se [0, 1, 2]) (fun w' hw' => (yd (aD b3) 0 0 K9 K1 rfl (hf.g 5 3))) ?_
   refine rq 2 17 (v := .agg #[vi second.Qubits, .slice B2 second.XImages.length c2, .slice B3 second.ZImages.length c3]) rfl (hS12.se [0, 1, 2]) (fun w' hw' => (yb (aD b1) 0 [vi second.Qubits, .slice B2 second.XImages.length c2, .slice B3 second.ZImages.length c3] K20 K10 (ST.cf hw' (i := 1) rfl) rfl (hf.g 3 1))) ?_
   refine rq 3 18 (v := pt (aD b) 1) rfl (hS12.se [0, 1, 2]) (fun w' hw' => (yd (aD b) 0 0 K9 K1 rfl (hf.g 2 0))) ?_
   refine rq 4 19 (v := .slice B first.XImages.length c) rfl (hS12.se [0, 1, 2]) (fun w' hw' => (yl (aD b) 1 [vi first.Qubits, .slice B first.XImages.length c, .slice B1 first.ZImages.length c1] (.slice B first.XImages.length c) K6 (ST.cf hw' (i := 0) rfl))) ?_
   refine rq 5 20 (v := vi (i : Int)) rfl (hS12.se [0, 1, 2]) (fun w' hw' => (ym (vi (i : Int)))) ?_
   refine rq 6 21 (v := pt B ((i : Int).toNat * 3)) rfl (hS12.se [0, 1, 2]) (fun w' hw' => (Y_index (B := B) (m := first.XImages.length) (c := c) (k := .i64) (i := (i : Int)) K2 K0 rfl rfl rfl (gi_isSome eN1 rfl (ST.rf hw' (i := 0) rfl) hx) (getI_nn hx) (getI_ltI hx rfl))) ?_
   refine rq 7 22 (v := .agg #[vi x.Phase, vi x.X, vi x.Z]) rfl (hS12.se [0, 1, 2]) (fun w' hw' => (ya B ((i : Int).toNat * 3) (first.XImages.flatMap eN0) [vi x.Phase, vi x.X, vi x.Z] K14 K0 (ST.rf hw' (i := 0) rfl) rfl rfl (eN1 x) (gi_seg eN1 hx))) ?_
   refine rq 11 26 (v := pt (aD b3) 2) rfl (hS12.se [0, 1, 2]) (fun w' hw' => (yd (aD b3) 0 0 K11 K1 rfl (hf.g 5 3))) ?_
   refine rq 13 28 (v := .agg #[vi second.Qubits, .slice B2 second.XImages.length c2, .slice B3 second.ZImages.length c3]) rfl (hS12.se [0, 1, 2]) (fun w' hw' => (yb (aD b1) 0 [vi second.Qubits, .slice B2 second.XImages.length c2, .slice B3 second.ZImages.length c3] K20 K10 (ST.cf hw' (i := 1) rfl) rfl (hf.g 3 1))) ?_
   refine rq 14 29 (v := pt (aD b) 2) rfl (hS12.se [0, 1, 2]) (fun w' hw' => (yd (aD b) 0 0 K11 K1 rfl (hf.g 2 0))) ?_
   refine rq 15 30 (v := .slice B1 first.ZImages.length c1) rfl (hS12.se [0, 1, 2]) (fun w' hw' => (yl (aD b) 2 [vi first.Qubits, .slice B first.XImages.length c, .slice B1 first.ZImages.length c1] (.slice B1 first.ZImages.length c1) K6 (ST.cf hw' (i := 0) rfl))) ?_
   refine rq 16 31 (v := vi (i : Int)) rfl (hS12.se [0, 1, 2]) (fun w' hw' => (ym (vi (i : Int)))) ?_
   refine rq 17 32 (v := pt B1 ((i : Int).toNat * 3)) rfl (hS12.se [0, 1, 2]) (fun w' hw' => (Y_index (B := B1) (m := first.ZImages.length) (c := c1) (k := .i64) (i := (i : Int)) K2 K0 rfl rfl rfl (gi_isSome eN1 rfl (ST.rf hw' (i := 1) rfl) hx1) (getI_nn hx1) (getI_ltI hx1 rfl))) ?_
   refine rq 18 33 (v := .agg #[vi x1.Phase, vi x1.X, vi x1.Z]) rfl (hS12.se [0, 1, 2]) (fun w' hw' => (ya B1 ((i : Int).toNat * 3) (first.ZImages.flatMap eN0) [vi x1.Phase, vi x1.X, vi x1.Z] K14 K0 (ST.rf hw' (i := 1) rfl) rfl rfl (eN1 x1) (gi_seg eN1 hx1))) ?_
   refine rA [1, 8, 12] ?_
   refine ra_y 16 (i := 1) (v := .slice B6 XImages.length c6) rfl rfl rfl (yl (aD b3) 1 [vi first.Qubits, .slice B6 XImages.length c6, .slice B7 ZImages.length c7] (.slice B6 XImages.length c6) K6 (hS12.c 3)) (hS12.se [0, 1, 2]) ?_ ?_
   ·skip
    refine rA [8, 12] ?_
    refine rC 23 8 rfl (yC [.agg #[vi second.Qubits, .slice B2 second.XImages.length c2, .slice B3 second.ZImages.length c3], .agg #[vi x.Phase, vi x.X, vi x.Z]] K29 (c_impl_image second x B2 c2 second.XImages.length B3 c3 second.ZImages.length _ rfl rfl (hS12.inn0 [(true, 2), (true, 3)] rfl) hc)) ?_ ?_
    ·rintro _ w_5 ⟨rfl, hd⟩
     have hS13 := hS12.out00 hd
     refine ⟨(hS13.se [0, 1, 2]), ?_⟩
     refine rA [9, 12] ?_
     refine rS 24 9 rfl (Ys_bslice (s := 3) (len := 1) (vs := [(0, .agg #[vi r_1.Phase, vi r_1.X, vi r_1.Z])]) (cs := [vi r_1.Phase, vi r_1.X, vi r_1.Z]) (zs := [vi 0, vi 0, vi 0]) (m := 3) hS13 K2 K0 K12 rfl (mpc rfl mpn) rfl rfl rfl (by kernel_rfl) (by kernel_rfl) rfl) ?_ ?_
     ·rintro _ w_6 ⟨b4, rfl, hS14⟩
      refine ⟨(hS14.se [0, 1, 2]), ?_⟩
      refine rA [10, 12] ?_
      refine rS 25 10 rfl (Ys_append (s := 3) (by' := 24) (i := 4) (nn := XImages.length) (c := c6) (k := 1) (len := (XImages ++ [r_1]).length) (B := B6) (xs := ([r_1].flatMap eN0)) (cs' := ((XImages ++ [r_1]).flatMap eN0)) hS14 K2 K0 K8 K5 rfl (by decide) rfl rfl rfl rfl (fm_lenn (l := XImages) eN1 rfl) rfl (hS14.c 6) (fm_lenn (l := [r_1]) eN1 rfl) (fm_one' (enc := eN0) eN3 [r_1]) (by have := hap; omega) (by have := hap; simp only [maxLen]; omega) (fm_app _ _) (app_len (l := XImages) (l' := [r_1]) rfl rfl)) ?_ ?_
      ·rintro _ w_7 ⟨B8, c8, rfl, hS15⟩
       refine ⟨(hS15.se [0, 1, 2]), ?_⟩
       refine rA [12, 19] ?_
       refine ra_y 27 (i := 12) (v := .slice B7 ZImages.length c7) rfl rfl rfl (yl (aD b3) 2 [vi first.Qubits, .slice B6 XImages.length c6, .slice B7 ZImages.length c7] (.slice B7 ZImages.length c7) K6 (hS15.c 3)) (hS15.se [0, 1, 2]) ?_ ?_
       ·skip
        refine rq 22 37 (v := pt (aD b3) 1) rfl (hS15.se [0, 1, 2]) (fun w' hw' => (yd (aD b3) 0 0 K9 K1 rfl (hf.g 5 3))) ?_
        refine rA [19] ?_
        refine rC 34 19 rfl (yC [.agg #[vi second.Qubits, .slice B2 second.XImages.length c2, .slice B3 second.ZImages.length c3], .agg #[vi x1.Phase, vi x1.X, vi x1.Z]] K29 (c_impl_image second x1 B2 c2 second.XImages.length B3 c3 second.ZImages.length _ rfl rfl (hS15.inn0 [(true, 2), (true, 3)] rfl) hc1)) ?_ ?_
        ·rintro _ w_8 ⟨rfl, hd1⟩
         have hS16 := hS15.out00 hd1
         refine ⟨(hS16.se [0, 1, 2]), ?_⟩
         refine rA [20] ?_
         refine rS 35 20 rfl (Ys_bslice (s := 3) (len := 1) (vs := [(0, .agg #[vi r_2.Phase, vi r_2.X, vi r_2.Z])]) (cs := [vi r_2.Phase, vi r_2.X, vi r_2.Z]) (zs := [vi 0, vi 0, vi 0]) (m := 3) hS16 K2 K0 K12 rfl (mpc rfl mpn) rfl rfl rfl (by kernel_rfl) (by kernel_rfl) rfl) ?_ ?_
         ·rintro _ w_9 ⟨b5, rfl, hS17⟩
          refine ⟨(hS17.se [0, 1, 2]), ?_⟩
          refine rA [21] ?_
          refine rS 36 21 rfl (Ys_append (s := 3) (by' := 24) (i := 5) (nn := ZImages.length) (c := c7) (k := 1) (len := (ZImages ++ [r_2]).length) (B := B7) (xs := ([r_2].flatMap eN0)) (cs' := ((ZImages ++ [r_2]).flatMap eN0)) hS17 K2 K0 K8 K5 rfl (by decide) rfl rfl rfl rfl (fm_lenn (l := ZImages) eN1 rfl) rfl (hS17.c 7) (fm_lenn (l := [r_2]) eN1 rfl) (fm_one' (enc := eN0) eN3 [r_2]) (by have := hap1; omega) (by have := hap1; simp only [maxLen]; omega) (fm_app _ _) (app_len (l := ZImages) (l' := [r_2]) rfl rfl)) ?_ ?_
          ·rintro _ w_10 ⟨B9, c9, rfl, hS18⟩
           refine ⟨(hS18.se [0, 1, 2]), ?_⟩
           refine rA [23] ?_
           refine rZ 23 rfl (yS 3 1 (aD b3) 40 (.slice B8 ((XImages ++ [r_1]).length) c8) [.slice B8 ((XImages ++ [r_1]).length) c8] 1 [vi first.Qubits, .slice B8 ((XImages ++ [r_1]).length) c8, .slice B7 ZImages.length c7] hS18 K1) ?_ ?_
           ·rintro _ w_11 ⟨rfl, hS19⟩
            refine ⟨(hS19.se [0, 1, 2]), ?_⟩
            refine rq 24 38 (v := pt (aD b3) 2) rfl (hS19.se [0, 1, 2]) (fun w' hw' => (yd (aD b3) 0 0 K11 K1 rfl (hf.g 5 3))) ?_
            refine rA [25] ?_
            refine rZ 25 rfl (yS 3 1 (aD b3) 40 (.slice B9 ((ZImages ++ [r_2]).length) c9) [.slice B9 ((ZImages ++ [r_2]).length) c9] 2 [vi first.Qubits, .slice B8 ((XImages ++ [r_1]).length) c8, .slice B9 ((ZImages ++ [r_2]).length) c9] hS19 K1) ?_ ?_
            ·rintro _ w_12 ⟨rfl, hS20⟩
             refine ⟨(hS20.se [0, 1, 2]), ?_⟩
             refine ra_done (by kernel_rfl) ?_
             exact ⟨B8, c8, B9, c9, (fc (hf.g 2 0) (fc (hf.g 3 1) (fc (hf.g 4 2) (fc (hf.g 5 3) (fc (hf.g 11 4) (fc (hf.g 12 5) fn_)))))), (hS20.sel [0, 1, 2, 3, 4, 5] rfl rfl)⟩
            exact aN
           exact aN
          exact aN
         exact aN
        exact aN
       refine rC 34 19 rfl (yC [.agg #[vi second.Qubits, .slice B2 second.XImages.length c2, .slice B3 second.ZImages.length c3], .agg #[vi x1.Phase, vi x1.X, vi x1.Z]] K29 (c_impl_image second x1 B2 c2 second.XImages.length B3 c3 second.ZImages.length _ rfl rfl (hS15.inn0 [(true, 2), (true, 3)] rfl) hc1)) ?_ ?_
       ·rintro _ w_13 ⟨rfl, hd2⟩
        have hS21 := hS15.out00 hd2
        refine ⟨(hS21.se [0, 1, 2]), ?_⟩
        refine rA [12, 20] ?_
        refine ra_y 27 (i := 12) (v := .slice B7 ZImages.length c7) rfl rfl rfl (yl (aD b3) 2 [vi first.Qubits, .slice B6 XImages.length c6, .slice B7 ZImages.length c7] (.slice B7 ZImages.length c7) K6 (hS21.c 3)) (hS21.se [0, 1, 2]) ?_ ?_
        ·skip
         refine rq 22 37 (v := pt (aD b3) 1) rfl (hS21.se [0, 1, 2]) (fun w' hw' => (yd (aD b3) 0 0 K9 K1 rfl (hf.g 5 3))) ?_
         refine rA [20] ?_
         refine rS 35 20 rfl (Ys_bslice (s := 3) (len := 1) (vs := [(0, .agg #[vi r_2.Phase, vi r_2.X, vi r_2.Z])]) (cs := [vi r_2.Phase, vi r_2.X, vi r_2.Z]) (zs := [vi 0, vi 0, vi 0]) (m := 3) hS21 K2 K0 K12 rfl (mpc rfl mpn) rfl rfl rfl (by kernel_rfl) (by kernel_rfl) rfl) ?_ ?_
         ·rintro _ w_14 ⟨b5, rfl, hS22⟩
          refine ⟨(hS22.se [0, 1, 2]), ?_⟩
          refine rA [21] ?_
          refine rS 36 21 rfl (Ys_append (s := 3) (by' := 24) (i := 5) (nn := ZImages.length) (c := c7) (k := 1) (len := (ZImages ++ [r_2]).length) (B := B7) (xs := ([r_2].flatMap eN0)) (cs' := ((ZImages ++ [r_2]).flatMap eN0)) hS22 K2 K0 K8 K5 rfl (by decide) rfl rfl rfl rfl (fm_lenn (l := ZImages) eN1 rfl) rfl (hS22.c 7) (fm_lenn (l := [r_2]) eN1 rfl) (fm_one' (enc := eN0) eN3 [r_2]) (by have := hap1; omega) (by have := hap1; simp only [maxLen]; omega) (fm_app _ _) (app_len (l := ZImages) (l' := [r_2]) rfl rfl)) ?_ ?_
          ·rintro _ w_15 ⟨B9, c9, rfl, hS23⟩
           refine ⟨(hS23.se [0, 1, 2]), ?_⟩
           refine rA [23] ?_
           refine rZ 23 rfl (yS 3 1 (aD b3) 40 (.slice B8 ((XImages ++ [r_1]).length) c8) [.slice B8 ((XImages ++ [r_1]).length) c8] 1 [vi first.Qubits, .slice B8 ((XImages ++ [r_1]).length) c8, .slice B7 ZImages.length c7] hS23 K1) ?_ ?_
           ·rintro _ w_16 ⟨rfl, hS24⟩
            refine ⟨(hS24.se [0, 1, 2]), ?_⟩
            refine rq 24 38 (v := pt (aD b3) 2) rfl (hS24.se [0, 1, 2]) (fun w' hw' => (yd (aD b3) 0 0 K11 K1 rfl (hf.g 5 3))) ?_
            refine rA [25] ?_
            refine rZ 25 rfl (yS 3 1 (aD b3) 40 (.slice B9 ((ZImages ++ [r_2]).length) c9) [.slice B9 ((ZImages ++ [r_2]).length) c9] 2 [vi first.Qubits, .slice B8 ((XImages ++ [r_1]).length) c8, .slice B9 ((ZImages ++ [r_2]).length) c9] hS24 K1) ?_ ?_
            ·rintro _ w_17 ⟨rfl, hS25⟩
             refine ⟨(hS25.se [0, 1, 2]), ?_⟩
             refine ra_done (by kernel_rfl) ?_
             exact ⟨B8, c8, B9, c9, (fc (hf.g 2 0) (fc (hf.g 3 1) (fc (hf.g 4 2) (fc (hf.g 5 3) (fc (hf.g 11 4) (fc (hf.g 12 5) fn_)))))), (hS25.sel [0, 1, 2, 3, 4, 5] rfl rfl)⟩
            exact aN
           exact aN
          exact aN
         exact aN
        refine rS 35 20 rfl (Ys_bslice (s := 3) (len := 1) (vs := [(0, .agg #[vi r_2.Phase, vi r_2.X, vi r_2.Z])]) (cs := [vi r_2.Phase, vi r_2.X, vi r_2.Z]) (zs := [vi 0, vi 0, vi 0]) (m := 3) hS21 K2 K0 K12 rfl (mpc rfl mpn) rfl rfl rfl (by kernel_rfl) (by kernel_rfl) rfl) ?_ ?_
        ·rintro _ w_18 ⟨b5, rfl, hS26⟩
         refine ⟨(hS26.se [0, 1, 2]), ?_⟩
         refine rA [12] ?_
         refine ra_y 27 (i := 12) (v := .slice B7 ZImages.length c7) rfl rfl rfl (yl (aD b3) 2 [vi first.Qubits, .slice B6 XImages.length c6, .slice B7 ZImages.length c7] (.slice B7 ZImages.length c7) K6 (hS26.c 3)) (hS26.se [0, 1, 2]) ?_ ?_
         ·skip
          refine rq 22 37 (v := pt (aD b3) 1) rfl (hS26.se [0, 1, 2]) (fun w' hw' => (yd (aD b3) 0 0 K9 K1 rfl (hf.g 5 3))) ?_
          refine rA [21] ?_
          refine rS 36 21 rfl (Ys_append (s := 3) (by' := 24) (i := 5) (nn := ZImages.length) (c := c7) (k := 1) (len := (ZImages ++ [r_2]).length) (B := B7) (xs := ([r_2].flatMap eN0)) (cs' := ((ZImages ++ [r_2]).flatMap eN0)) hS26 K2 K0 K8 K5 rfl (by decide) rfl rfl rfl rfl (fm_lenn (l := ZImages) eN1 rfl) rfl (hS26.c 7) (fm_lenn (l := [r_2]) eN1 rfl) (fm_one' (enc := eN0) eN3 [r_2]) (by have := hap1; omega) (by have := hap1; simp only [maxLen]; omega) (fm_app _ _) (app_len (l := ZImages) (l' := [r_2]) rfl rfl)) ?_ ?_
          ·rintro _ w_19 ⟨B9, c9, rfl, hS27⟩
           refine ⟨(hS27.se [0, 1, 2]), ?_⟩
           refine rA [23] ?_
           refine rZ 23 rfl (yS 3 1 (aD b3) 40 (.slice B8 ((XImages ++ [r_1]).length) c8) [.slice B8 ((XImages ++ [r_1]).length) c8] 1 [vi first.Qubits, .slice B8 ((XImages ++ [r_1]).length) c8, .slice B7 ZImages.length c7] hS27 K1) ?_ ?_
           ·rintro _ w_20 ⟨rfl, hS28⟩
            refine ⟨(hS28.se [0, 1, 2]), ?_⟩
            refine rq 24 38 (v := pt (aD b3) 2) rfl (hS28.se [0, 1, 2]) (fun w' hw' => (yd (aD b3) 0 0 K11 K1 rfl (hf.g 5 3))) ?_
            refine rA [25] ?_
            refine rZ 25 rfl (yS 3 1 (aD b3) 40 (.slice B9 ((ZImages ++ [r_2]).length) c9) [.slice B9 ((ZImages ++ [r_2]).length) c9] 2 [vi first.Qubits, .slice B8 ((XImages ++ [r_1]).length) c8, .slice B9 ((ZImages ++ [r_2]).length) c9] hS28 K1) ?_ ?_
            ·rintro _ w_21 ⟨rfl, hS29⟩
             refine ⟨(hS29.se [0, 1, 2]), ?_⟩
             refine ra_done (by kernel_rfl) ?_
             exact ⟨B8, c8, B9, c9, (fc (hf.g 2 0) (fc (hf.g 3 1) (fc (hf.g 4 2) (fc (hf.g 5 3) (fc (hf.g 11 4) (fc (hf.g 12 5) fn_)))))), (hS29.sel [0, 1, 2, 3, 4, 5] rfl rfl)⟩
            exact aN
           exact aN
          exact aN
         exact aN
        exact aN
       exact aN
      refine ra_y 27 (i := 12) (v := .slice B7 ZImages.length c7) rfl rfl rfl (yl (aD b3) 2 [vi first.Qubits, .slice B6 XImages.length c6, .slice B7 ZImages.length c7] (.slice B7 ZImages.length c7) K6 (hS14.c 3)) (hS14.se [0, 1, 2]) ?_ ?_
      ·skip
       refine rA [10] ?_
       refine rS 25 10 rfl (Ys_append (s := 3) (by' := 24) (i := 4) (nn := XImages.length) (c := c6) (k := 1) (len := (XImages ++ [r_1]).length) (B := B6) (xs := ([r_1].flatMap eN0)) (cs' := ((XImages ++ [r_1]).flatMap eN0)) hS14 K2 K0 K8 K5 rfl (by decide) rfl rfl rfl rfl (fm_lenn (l := XImages) eN1 rfl) rfl (hS14.c 6) (fm_lenn (l := [r_1]) eN1 rfl) (fm_one' (enc := eN0) eN3 [r_1]) (by have := hap; omega) (by have := hap; simp only [maxLen]; omega) (fm_app _ _) (app_len (l := XImages) (l' := [r_1]) rfl rfl)) ?_ ?_
       ·rintro _ w_22 ⟨B8, c8, rfl, hS30⟩
        refine ⟨(hS30.se [0, 1, 2]), ?_⟩
        refine rq 22 37 (v := pt (aD b3) 1) rfl (hS30.se [0, 1, 2]) (fun w' hw' => (yd (aD b3) 0 0 K9 K1 rfl (hf.g 5 3))) ?_
        refine rA [19] ?_
        refine rC 34 19 rfl (yC [.agg #[vi second.Qubits, .slice B2 second.XImages.length c2, .slice B3 second.ZImages.length c3], .agg #[vi x1.Phase, vi x1.X, vi x1.Z]] K29 (c_impl_image second x1 B2 c2 second.XImages.length B3 c3 second.ZImages.length _ rfl rfl (hS30.inn0 [(true, 2), (true, 3)] rfl) hc1)) ?_ ?_
        ·rintro _ w_23 ⟨rfl, hd3⟩
         have hS31 := hS30.out00 hd3
         refine ⟨(hS31.se [0, 1, 2]), ?_⟩
         refine rA [20] ?_
         refine rS 35 20 rfl (Ys_bslice (s := 3) (len := 1) (vs := [(0, .agg #[vi r_2.Phase, vi r_2.X, vi r_2.Z])]) (cs := [vi r_2.Phase, vi r_2.X, vi r_2.Z]) (zs := [vi 0, vi 0, vi 0]) (m := 3) hS31 K2 K0 K12 rfl (mpc rfl mpn) rfl rfl rfl (by kernel_rfl) (by kernel_rfl) rfl) ?_ ?_
         ·rintro _ w_24 ⟨b5, rfl, hS32⟩
          refine ⟨(hS32.se [0, 1, 2]), ?_⟩
          refine rA [21] ?_
          refine rS 36 21 rfl (Ys_append (s := 3) (by' := 24) (i := 5) (nn := ZImages.length) (c := c7) (k := 1) (len := (ZImages ++ [r_2]).length) (B := B7) (xs := ([r_2].flatMap eN0)) (cs' := ((ZImages ++ [r_2]).flatMap eN0)) hS32 K2 K0 K8 K5 rfl (by decide) rfl rfl rfl rfl (fm_lenn (l := ZImages) eN1 rfl) rfl (hS32.c 7) (fm_lenn (l := [r_2]) eN1 rfl) (fm_one' (enc := eN0) eN3 [r_2]) (by have := hap1; omega) (by have := hap1; simp only [maxLen]; omega) (fm_app _ _) (app_len (l := ZImages) (l' := [r_2]) rfl rfl)) ?_ ?_
          ·rintro _ w_25 ⟨B9, c9, rfl, hS33⟩
           refine ⟨(hS33.se [0, 1, 2]), ?_⟩
           refine rA [23] ?_
           refine rZ 23 rfl (yS 3 1 (aD b3) 40 (.slice B8 ((XImages ++ [r_1]).length) c8) [.slice B8 ((XImages ++ [r_1]).length) c8] 1 [vi first.Qubits, .slice B8 ((XImages ++ [r_1]).length) c8, .slice B7 ZImages.length c7] hS33 K1) ?_ ?_
           ·rintro _ w_26 ⟨rfl, hS34⟩
            refine ⟨(hS34.se [0, 1, 2]), ?_⟩
            refine rq 24 38 (v := pt (aD b3) 2) rfl (hS34.se [0, 1, 2]) (fun w' hw' => (yd (aD b3) 0 0 K11 K1 rfl (hf.g 5 3))) ?_
            refine rA [25] ?_
            refine rZ 25 rfl (yS 3 1 (aD b3) 40 (.slice B9 ((ZImages ++ [r_2]).length) c9) [.slice B9 ((ZImages ++ [r_2]).length) c9] 2 [vi first.Qubits, .slice B8 ((XImages ++ [r_1]).length) c8, .slice B9 ((ZImages ++ [r_2]).length) c9] hS34 K1) ?_ ?_
            ·rintro _ w_27 ⟨rfl, hS35⟩
             refine ⟨(hS35.se [0, 1, 2]), ?_⟩
             refine ra_done (by kernel_rfl) ?_
             exact ⟨B8, c8, B9, c9, (fc (hf.g 2 0) (fc (hf.g 3 1) (fc (hf.g 4 2) (fc (hf.g 5 3) (fc (hf.g 11 4) (fc (hf.g 12 5) fn_)))))), (hS35.sel [0, 1, 2, 3, 4, 5] rfl rfl)⟩
            exact aN
           exact aN
          exact aN
         exact aN
        exact aN
       exact aN
      exact aN
     refine ra_y 27 (i := 12) (v := .slice B7 ZImages.length c7) rfl rfl rfl (yl (aD b3) 2 [vi first.Qubits, .slice B6 XImages.length c6, .slice B7 ZImages.length c7] (.slice B7 ZImages.length c7) K6 (hS13.c 3)) (hS13.se [0, 1, 2]) ?_ ?_
     ·skip
      refine rA [9] ?_
      refine rS 24 9 rfl (Ys_bslice (s := 3) (len := 1) (vs := [(0, .agg #[vi r_1.Phase, vi r_1.X, vi r_1.Z])]) (cs := [vi r_1.Phase, vi r_1.X, vi r_1.Z]) (zs := [vi 0, vi 0, vi 0]) (m := 3) hS13 K2 K0 K12 rfl (mpc rfl mpn) rfl rfl rfl (by kernel_rfl) (by kernel_rfl) rfl) ?_ ?_
      ·rintro _ w_28 ⟨b4, rfl, hS36⟩
       refine ⟨(hS36.se [0, 1, 2]), ?_⟩
       refine rA [10] ?_
       refine rS 25 10 rfl (Ys_append (s := 3) (by' := 24) (i := 4) (nn := XImages.length) (c := c6) (k := 1) (len := (XImages ++ [r_1]).length) (B := B6) (xs := ([r_1].flatMap eN0)) (cs' := ((XImages ++ [r_1]).flatMap eN0)) hS36 K2 K0 K8 K5 rfl (by decide) rfl rfl rfl rfl (fm_lenn (l := XImages) eN1 rfl) rfl (hS36.c 6) (fm_lenn (l := [r_1]) eN1 rfl) (fm_one' (enc := eN0) eN3 [r_1]) (by have := hap; omega) (by have := hap; simp only [maxLen]; omega) (fm_app _ _) (app_len (l := XImages) (l' := [r_1]) rfl rfl)) ?_ ?_
       ·rintro _ w_29 ⟨B8, c8, rfl, hS37⟩
        refine ⟨(hS37.se [0, 1, 2]), ?_⟩
        refine rq 22 37 (v := pt (aD b3) 1) rfl (hS37.se [0, 1, 2]) (fun w' hw' => (yd (aD b3) 0 0 K9 K1 rfl (hf.g 5 3))) ?_
        refine rA [19] ?_
        refine rC 34 19 rfl (yC [.agg #[vi second.Qubits, .slice B2 second.XImages.length c2, .slice B3 second.ZImages.length c3], .agg #[vi x1.Phase, vi x1.X, vi x1.Z]] K29 (c_impl_image second x1 B2 c2 second.XImages.length B3 c3 second.ZImages.length _ rfl rfl (hS37.inn0 [(true, 2), (true, 3)] rfl) hc1)) ?_ ?_
        ·rintro _ w_30 ⟨rfl, hd4⟩
         have hS38 := hS37.out00 hd4
         have hS38 : ST w0 [] _ [⟨aD b, 40, [vi first.Qubits, .slice B first.XImages.length c, .slice B1 first.ZImages.length c1], 3⟩, ⟨aD b1, 40, [vi second.Qubits, .slice B2 second.XImages.length c2, .slice B3 second.ZImages.length c3], 3⟩, ⟨aD b2, 40, [vi 0, .slice none 0 0, .slice none 0 0], 3⟩, ⟨aD b3, 40, [vi first.Qubits, .slice B6 XImages.length c6, .slice B7 ZImages.length c7], 3⟩, ⟨B8, 71, ((XImages ++ [r_1]).flatMap eN0), c8 * 3⟩, ⟨B7, 71, (ZImages.flatMap eN0), c7 * 3⟩, ⟨aD b4, 71, ([r_1].flatMap eN0), 1 * 3⟩] [⟨B, (first.XImages.flatMap eN0)⟩, ⟨B1, (first.ZImages.flatMap eN0)⟩, ⟨B2, (second.XImages.flatMap eN0)⟩, ⟨B3, (second.ZImages.flatMap eN0)⟩] := hS38
         refine ⟨(hS38.se [0, 1, 2]), ?_⟩
         refine rA [20] ?_
         refine rS 35 20 rfl (Ys_bslice (s := 3) (len := 1) (vs := [(0, .agg #[vi r_2.Phase, vi r_2.X, vi r_2.Z])]) (cs := [vi r_2.Phase, vi r_2.X, vi r_2.Z]) (zs := [vi 0, vi 0, vi 0]) (m := 3) hS38 K2 K0 K12 rfl (mpc rfl mpn) rfl rfl rfl (by kernel_rfl) (by kernel_rfl) rfl) ?_ ?_
         ·rintro _ w_31 ⟨b5, rfl, hS39⟩
          refine ⟨(hS39.se [0, 1, 2]), ?_⟩
          refine rA [21] ?_
          refine rS 36 21 rfl (Ys_append (s := 3) (by' := 24) (i := 5) (nn := ZImages.length) (c := c7) (k := 1) (len := (ZImages ++ [r_2]).length) (B := B7) (xs := ([r_2].flatMap eN0)) (cs' := ((ZImages ++ [r_2]).flatMap eN0)) hS39 K2 K0 K8 K5 rfl (by decide) rfl rfl rfl rfl (fm_lenn (l := ZImages) eN1 rfl) rfl (hS39.c 7) (fm_lenn (l := [r_2]) eN1 rfl) (fm_one' (enc := eN0) eN3 [r_2]) (by have := hap1; omega) (by have := hap1; simp only [maxLen]; omega) (fm_app _ _) (app_len (l := ZImages) (l' := [r_2]) rfl rfl)) ?_ ?_
          ·rintro _ w_32 ⟨B9, c9, rfl, hS40⟩
           refine ⟨(hS40.se [0, 1, 2]), ?_⟩
           refine rA [23] ?_
           refine rZ 23 rfl (yS 3 1 (aD b3) 40 (.slice B8 ((XImages ++ [r_1]).length) c8) [.slice B8 ((XImages ++ [r_1]).length) c8] 1 [vi first.Qubits, .slice B8 ((XImages ++ [r_1]).length) c8, .slice B7 ZImages.length c7] hS40 K1) ?_ ?_
           ·rintro _ w_33 ⟨rfl, hS41⟩
            refine ⟨(hS41.se [0, 1, 2]), ?_⟩
            refine rq 24 38 (v := pt (aD b3) 2) rfl (hS41.se [0, 1, 2]) (fun w' hw' => (yd (aD b3) 0 0 K11 K1 rfl (hf.g 5 3))) ?_
            refine rA [25] ?_
            refine rZ 25 rfl (yS 3 1 (aD b3) 40 (.slice B9 ((ZImages ++ [r_2]).length) c9) [.slice B9 ((ZImages ++ [r_2]).length) c9] 2 [vi first.Qubits, .slice B8 ((XImages ++ [r_1]).length) c8, .slice B9 ((ZImages ++ [r_2]).length) c9] hS41 K1) ?_ ?_
            ·rintro _ w_34 ⟨rfl, hS42⟩
             refine ⟨(hS42.se [0, 1, 2]), ?_⟩
             refine ra_done (by kernel_rfl) ?_
             exact ⟨B8, c8, B9, c9, (fc (hf.g 2 0) (fc (hf.g 3 1) (fc (hf.g 4 2) (fc (hf.g 5 3) (fc (hf.g 11 4) (fc (hf.g 12 5) fn_)))))), (hS42.sel [0, 1, 2, 3, 4, 5] rfl rfl)⟩
            exact aN
           exact aN
          exact aN
         exact aN
        exact aN
       exact aN
      exact aN
     exact aN
    refine ra_y 27 (i := 12) (v := .slice B7 ZImages.length c7) rfl rfl rfl (yl (aD b3) 2 [vi first.Qubits, .slice B6 XImages.length c6, .slice B7 ZImages.length c7] (.slice B7 ZImages.length c7) K6 (hS12.c 3)) (hS12.se [0, 1, 2]) ?_ ?_
    ·skip
     refine rA [8] ?_
     refine rC 23 8 rfl (yC [.agg #[vi second.Qubits, .slice B2 second.XImages.length c2, .slice B3 second.ZImages.length c3], .agg #[vi x.Phase, vi x.X, vi x.Z]] K29 (c_impl_image second x B2 c2 second.XImages.length B3 c3 second.ZImages.length _ rfl rfl (hS12.inn0 [(true, 2), (true, 3)] rfl) hc)) ?_ ?_
     ·rintro _ w_35 ⟨rfl, hd5⟩
      have hS43 := hS12.out00 hd5
      refine ⟨(hS43.se [0, 1, 2]), ?_⟩
      refine rA [9] ?_
      refine rS 24 9 rfl (Ys_bslice (s := 3) (len := 1) (vs := [(0, .agg #[vi r_1.Phase, vi r_1.X, vi r_1.Z])]) (cs := [vi r_1.Phase, vi r_1.X, vi r_1.Z]) (zs := [vi 0, vi 0, vi 0]) (m := 3) hS43 K2 K0 K12 rfl (mpc rfl mpn) rfl rfl rfl (by kernel_rfl) (by kernel_rfl) rfl) ?_ ?_
      ·rintro _ w_36 ⟨b4, rfl, hS44⟩
       refine ⟨(hS44.se [0, 1, 2]), ?_⟩
       refine rA [10] ?_
       refine rS 25 10 rfl (Ys_append (s := 3) (by' := 24) (i := 4) (nn := XImages.length) (c := c6) (k := 1) (len := (XImages ++ [r_1]).length) (B := B6) (xs := ([r_1].flatMap eN0)) (cs' := ((XImages ++ [r_1]).flatMap eN0)) hS44 K2 K0 K8 K5 rfl (by decide) rfl rfl rfl rfl (fm_lenn (l := XImages) eN1 rfl) rfl (hS44.c 6) (fm_lenn (l := [r_1]) eN1 rfl) (fm_one' (enc := eN0) eN3 [r_1]) (by have := hap; omega) (by have := hap; simp only [maxLen]; omega) (fm_app _ _) (app_len (l := XImages) (l' := [r_1]) rfl rfl)) ?_ ?_
       ·rintro _ w_37 ⟨B8, c8, rfl, hS45⟩
        refine ⟨(hS45.se [0, 1, 2]), ?_⟩
        refine rq 22 37 (v := pt (aD b3) 1) rfl (hS45.se [0, 1, 2]) (fun w' hw' => (yd (aD b3) 0 0 K9 K1 rfl (hf.g 5 3))) ?_
        refine rA [19] ?_
        refine rC 34 19 rfl (yC [.agg #[vi second.Qubits, .slice B2 second.XImages.length c2, .slice B3 second.ZImages.length c3], .agg #[vi x1.Phase, vi x1.X, vi x1.Z]] K29 (c_impl_image second x1 B2 c2 second.XImages.length B3 c3 second.ZImages.length _ rfl rfl (hS45.inn0 [(true, 2), (true, 3)] rfl) hc1)) ?_ ?_
        ·rintro _ w_38 ⟨rfl, hd6⟩
         have hS46 := hS45.out00 hd6
         refine ⟨(hS46.se [0, 1, 2]), ?_⟩
         refine rA [20] ?_
         refine rS 35 20 rfl (Ys_bslice (s := 3) (len := 1) (vs := [(0, .agg #[vi r_2.Phase, vi r_2.X, vi r_2.Z])]) (cs := [vi r_2.Phase, vi r_2.X, vi r_2.Z]) (zs := [vi 0, vi 0, vi 0]) (m := 3) hS46 K2 K0 K12 rfl (mpc rfl mpn) rfl rfl rfl (by kernel_rfl) (by kernel_rfl) rfl) ?_ ?_
         ·rintro _ w_39 ⟨b5, rfl, hS47⟩
          refine ⟨(hS47.se [0, 1, 2]), ?_⟩
          refine rA [21] ?_
          refine rS 36 21 rfl (Ys_append (s := 3) (by' := 24) (i := 5) (nn := ZImages.length) (c := c7) (k := 1) (len := (ZImages ++ [r_2]).length) (B := B7) (xs := ([r_2].flatMap eN0)) (cs' := ((ZImages ++ [r_2]).flatMap eN0)) hS47 K2 K0 K8 K5 rfl (by decide) rfl rfl rfl rfl (fm_lenn (l := ZImages) eN1 rfl) rfl (hS47.c 7) (fm_lenn (l := [r_2]) eN1 rfl) (fm_one' (enc := eN0) eN3 [r_2]) (by have := hap1; omega) (by have := hap1; simp only [maxLen]; omega) (fm_app _ _) (app_len (l := ZImages) (l' := [r_2]) rfl rfl)) ?_ ?_
          ·rintro _ w_40 ⟨B9, c9, rfl, hS48⟩
           refine ⟨(hS48.se [0, 1, 2]), ?_⟩
           refine rA [23] ?_
           refine rZ 23 rfl (yS 3 1 (aD b3) 40 (.slice B8 ((XImages ++ [r_1]).length) c8) [.slice B8 ((XImages ++ [r_1]).length) c8] 1 [vi first.Qubits, .slice B8 ((XImages ++ [r_1]).length) c8, .slice B7 ZImages.length c7] hS48 K1) ?_ ?_
           ·rintro _ w_41 ⟨rfl, hS49⟩
            refine ⟨(hS49.se [0, 1, 2]), ?_⟩
            refine rq 24 38 (v := pt (aD b3) 2) rfl (hS49.se [0, 1, 2]) (fun w' hw' => (yd (aD b3) 0 0 K11 K1 rfl (hf.g 5 3))) ?_
            refine rA [25] ?_
            refine rZ 25 rfl (yS 3 1 (aD b3) 40 (.slice B9 ((ZImages ++ [r_2]).length) c9) [.slice B9 ((ZImages ++ [r_2]).length) c9] 2 [vi first.Qubits, .slice B8 ((XImages ++ [r_1]).length) c8, .slice B9 ((ZImages ++ [r_2]).length) c9] hS49 K1) ?_ ?_
            ·rintro _ w_42 ⟨rfl, hS50⟩
             refine ⟨(hS50.se [0, 1, 2]), ?_⟩
             refine ra_done (by kernel_rfl) ?_
             exact ⟨B8, c8, B9, c9, (fc (hf.g 2 0) (fc (hf.g 3 1) (fc (hf.g 4 2) (fc (hf.g 5 3) (fc (hf.g 11 4) (fc (hf.g 12 5) fn_)))))), (hS50.sel [0, 1, 2, 3, 4, 5] rfl rfl)⟩
            exact aN
           exact aN
          exact aN
         exact aN
        exact aN
       exact aN
      exact aN
     exact aN
    exact aN
   refine rC 23 8 rfl (yC [.agg #[vi second.Qubits, .slice B2 second.XImages.length c2, .slice B3 second.ZImages.length c3], .agg #[vi x.Phase, vi x.X, vi x.Z]] K29 (c_impl_image second x B2 c2 second.XImages.length B3 c3 second.ZImages.length _ rfl rfl (hS12.inn0 [(true, 2), (true, 3)] rfl) hc)) ?_ ?_
   ·rintro _ w_43 ⟨rfl, hd7⟩
    have hS51 := hS12.out00 hd7
    refine ⟨(hS51.se [0, 1, 2]), ?_⟩
    refine rA [1, 9, 12] ?_
    refine ra_y 16 (i := 1) (v := .slice B6 XImages.length c6) rfl rfl rfl (yl (aD b3) 1 [vi first.Qubits, .slice B6 XImages.length c6, .slice B7 ZImages.length c7] (.slice B6 XImages.length c6) K6 (hS51.c 3)) (hS51.se [0, 1, 2]) ?_ ?_
    ·skip
     refine rA [9, 12] ?_
     refine rS 24 9 rfl (Ys_bslice (s := 3) (len := 1) (vs := [(0, .agg #[vi r_1.Phase, vi r_1.X, vi r_1.Z])]) (cs := [vi r_1.Phase, vi r_1.X, vi r_1.Z]) (zs := [vi 0, vi 0, vi 0]) (m := 3) hS51 K2 K0 K12 rfl (mpc rfl mpn) rfl rfl rfl (by kernel_rfl) (by kernel_rfl) rfl) ?_ ?_
     ·rintro _ w_44 ⟨b4, rfl, hS52⟩
      refine ⟨(hS52.se [0, 1, 2]), ?_⟩
      refine rA [10, 12] ?_
      refine rS 25 10 rfl (Ys_append (s := 3) (by' := 24) (i := 4) (nn := XImages.length) (c := c6) (k := 1) (len := (XImages ++ [r_1]).length) (B := B6) (xs := ([r_1].flatMap eN0)) (cs' := ((XImages ++ [r_1]).flatMap eN0)) hS52 K2 K0 K8 K5 rfl (by decide) rfl rfl rfl rfl (fm_lenn (l := XImages) eN1 rfl) rfl (hS52.c 6) (fm_lenn (l := [r_1]) eN1 rfl) (fm_one' (enc := eN0) eN3 [r_1]) (by have := hap; omega) (by have := hap; simp only [maxLen]; omega) (fm_app _ _) (app_len (l := XImages) (l' := [r_1]) rfl rfl)) ?_ ?_
      ·rintro _ w_45 ⟨B8, c8, rfl, hS53⟩
       refine ⟨(hS53.se [0, 1, 2]), ?_⟩
       refine rA [12, 19] ?_
       refine ra_y 27 (i := 12) (v := .slice B7 ZImages.length c7) rfl rfl rfl (yl (aD b3) 2 [vi first.Qubits, .slice B6 XImages.length c6, .slice B7 ZImages.length c7] (.slice B7 ZImages.length c7) K6 (hS53.c 3)) (hS53.se [0, 1, 2]) ?_ ?_
       ·skip
        refine rq 22 37 (v := pt (aD b3) 1) rfl (hS53.se [0, 1, 2]) (fun w' hw' => (yd (aD b3) 0 0 K9 K1 rfl (hf.g 5 3))) ?_
        refine rA [19] ?_
        refine rC 34 19 rfl (yC [.agg #[vi second.Qubits, .slice B2 second.XImages.length c2, .slice B3 second.ZImages.length c3], .agg #[vi x1.Phase, vi x1.X, vi x1.Z]] K29 (c_impl_image second x1 B2 c2 second.XImages.length B3 c3 second.ZImages.length _ rfl rfl (hS53.inn0 [(true, 2), (true, 3)] rfl) hc1)) ?_ ?_
        ·rintro _ w_46 ⟨rfl, hd8⟩
         have hS54 := hS53.out00 hd8
         refine ⟨(hS54.se [0, 1, 2]), ?_⟩
         refine rA [20] ?_
         refine rS 35 20 rfl (Ys_bslice (s := 3) (len := 1) (vs := [(0, .agg #[vi r_2.Phase, vi r_2.X, vi r_2.Z])]) (cs := [vi r_2.Phase, vi r_2.X, vi r_2.Z]) (zs := [vi 0, vi 0, vi 0]) (m := 3) hS54 K2 K0 K12 rfl (mpc rfl mpn) rfl rfl rfl (by kernel_rfl) (by kernel_rfl) rfl) ?_ ?_
         ·rintro _ w_47 ⟨b5, rfl, hS55⟩
          refine ⟨(hS55.se [0, 1, 2]), ?_⟩
          refine rA [21] ?_
          refine rS 36 21 rfl (Ys_append (s := 3) (by' := 24) (i := 5) (nn := ZImages.length) (c := c7) (k := 1) (len := (ZImages ++ [r_2]).length) (B := B7) (xs := ([r_2].flatMap eN0)) (cs' := ((ZImages ++ [r_2]).flatMap eN0)) hS55 K2 K0 K8 K5 rfl (by decide) rfl rfl rfl rfl (fm_lenn (l := ZImages) eN1 rfl) rfl (hS55.c 7) (fm_lenn (l := [r_2]) eN1 rfl) (fm_one' (enc := eN0) eN3 [r_2]) (by have := hap1; omega) (by have := hap1; simp only [maxLen]; omega) (fm_app _ _) (app_len (l := ZImages) (l' := [r_2]) rfl rfl)) ?_ ?_
          ·rintro _ w_48 ⟨B9, c9, rfl, hS56⟩
           refine ⟨(hS56.se [0, 1, 2]), ?_⟩
           refine rA [23] ?_
           refine rZ 23 rfl (yS 3 1 (aD b3) 40 (.slice B8 ((XImages ++ [r_1]).length) c8) [.slice B8 ((XImages ++ [r_1]).length) c8] 1 [vi first.Qubits, .slice B8 ((XImages ++ [r_1]).length) c8, .slice B7 ZImages.length c7] hS56 K1) ?_ ?_
           ·rintro _ w_49 ⟨rfl, hS57⟩
            refine ⟨(hS57.se [0, 1, 2]), ?_⟩
            refine rq 24 38 (v := pt (aD b3) 2) rfl (hS57.se [0, 1, 2]) (fun w' hw' => (yd (aD b3) 0 0 K11 K1 rfl (hf.g 5 3))) ?_
            refine rA [25] ?_
            refine rZ 25 rfl (yS 3 1 (aD b3) 40 (.slice B9 ((ZImages ++ [r_2]).length) c9) [.slice B9 ((ZImages ++ [r_2]).length) c9] 2 [vi first.Qubits, .slice B8 ((XImages ++ [r_1]).length) c8, .slice B9 ((ZImages ++ [r_2]).length) c9] hS57 K1) ?_ ?_
            ·rintro _ w_50 ⟨rfl, hS58⟩
             refine ⟨(hS58.se [0, 1, 2]), ?_⟩
             refine ra_done (by kernel_rfl) ?_
             exact ⟨B8, c8, B9, c9, (fc (hf.g 2 0) (fc (hf.g 3 1) (fc (hf.g 4 2) (fc (hf.g 5 3) (fc (hf.g 11 4) (fc (hf.g 12 5) fn_)))))), (hS58.sel [0, 1, 2, 3, 4, 5] rfl rfl)⟩
            exact aN
           exact aN
          exact aN
         exact aN
        exact aN
       refine rC 34 19 rfl (yC [.agg #[vi second.Qubits, .slice B2 second.XImages.length c2, .slice B3 second.ZImages.length c3], .agg #[vi x1.Phase, vi x1.X, vi x1.Z]] K29 (c_impl_image second x1 B2 c2 second.XImages.length B3 c3 second.ZImages.length _ rfl rfl (hS53.inn0 [(true, 2), (true, 3)] rfl) hc1)) ?_ ?_
       ·rintro _ w_51 ⟨rfl, hd9⟩
        have hS59 := hS53.out00 hd9
        refine ⟨(hS59.se [0, 1, 2]), ?_⟩
        refine rA [12, 20] ?_
        refine ra_y 27 (i := 12) (v := .slice B7 ZImages.length c7) rfl rfl rfl (yl (aD b3) 2 [vi first.Qubits, .slice B6 XImages.length c6, .slice B7 ZImages.length c7] (.slice B7 ZImages.length c7) K6 (hS59.c 3)) (hS59.se [0, 1, 2]) ?_ ?_
        ·skip
         refine rq 22 37 (v := pt (aD b3) 1) rfl (hS59.se [0, 1, 2]) (fun w' hw' => (yd (aD b3) 0 0 K9 K1 rfl (hf.g 5 3))) ?_
         refine rA [20] ?_
         refine rS 35 20 rfl (Ys_bslice (s := 3) (len := 1) (vs := [(0, .agg #[vi r_2.Phase, vi r_2.X, vi r_2.Z])]) (cs := [vi r_2.Phase, vi r_2.X, vi r_2.Z]) (zs := [vi 0, vi 0, vi 0]) (m := 3) hS59 K2 K0 K12 rfl (mpc rfl mpn) rfl rfl rfl (by kernel_rfl) (by kernel_rfl) rfl) ?_ ?_
         ·rintro _ w_52 ⟨b5, rfl, hS60⟩
          refine ⟨(hS60.se [0, 1, 2]), ?_⟩
          refine rA [21] ?_
          refine rS 36 21 rfl (Ys_append (s := 3) (by' := 24) (i := 5) (nn := ZImages.length) (c := c7) (k := 1) (len := (ZImages ++ [r_2]).length) (B := B7) (xs := ([r_2].flatMap eN0)) (cs' := ((ZImages ++ [r_2]).flatMap eN0)) hS60 K2 K0 K8 K5 rfl (by decide) rfl rfl rfl rfl (fm_lenn (l := ZImages) eN1 rfl) rfl (hS60.c 7) (fm_lenn (l := [r_2]) eN1 rfl) (fm_one' (enc := eN0) eN3 [r_2]) (by have := hap1; omega) (by have := hap1; simp only [maxLen]; omega) (fm_app _ _) (app_len (l := ZImages) (l' := [r_2]) rfl rfl)) ?_ ?_
          ·rintro _ w_53 ⟨B9, c9, rfl, hS61⟩
           refine ⟨(hS61.se [0, 1, 2]), ?_⟩
           refine rA [23] ?_
           refine rZ 23 rfl (yS 3 1 (aD b3) 40 (.slice B8 ((XImages ++ [r_1]).length) c8) [.slice B8 ((XImages ++ [r_1]).length) c8] 1 [vi first.Qubits, .slice B8 ((XImages ++ [r_1]).length) c8, .slice B7 ZImages.length c7] hS61 K1) ?_ ?_
           ·rintro _ w_54 ⟨rfl, hS62⟩
            refine ⟨(hS62.se [0, 1, 2]), ?_⟩
            refine rq 24 38 (v := pt (aD b3) 2) rfl (hS62.se [0, 1, 2]) (fun w' hw' => (yd (aD b3) 0 0 K11 K1 rfl (hf.g 5 3))) ?_
            refine rA [25] ?_
            refine rZ 25 rfl (yS 3 1 (aD b3) 40 (.slice B9 ((ZImages ++ [r_2]).length) c9) [.slice B9 ((ZImages ++ [r_2]).length) c9] 2 [vi first.Qubits, .slice B8 ((XImages ++ [r_1]).length) c8, .slice B9 ((ZImages ++ [r_2]).length) c9] hS62 K1) ?_ ?_
            ·rintro _ w_55 ⟨rfl, hS63⟩
             refine ⟨(hS63.se [0, 1, 2]), ?_⟩
             refine ra_done (by kernel_rfl) ?_
             exact ⟨B8, c8, B9, c9, (fc (hf.g 2 0) (fc (hf.g 3 1) (fc (hf.g 4 2) (fc (hf.g 5 3) (fc (hf.g 11 4) (fc (hf.g 12 5) fn_)))))), (hS63.sel [0, 1, 2, 3, 4, 5] rfl rfl)⟩
            exact aN
           exact aN
          exact aN
         exact aN
        refine rS 35 20 rfl (Ys_bslice (s := 3) (len := 1) (vs := [(0, .agg #[vi r_2.Phase, vi r_2.X, vi r_2.Z])]) (cs := [vi r_2.Phase, vi r_2.X, vi r_2.Z]) (zs := [vi 0, vi 0, vi 0]) (m := 3) hS59 K2 K0 K12 rfl (mpc rfl mpn) rfl rfl rfl (by kernel_rfl) (by kernel_rfl) rfl) ?_ ?_
        ·rintro _ w_56 ⟨b5, rfl, hS64⟩
         refine ⟨(hS64.se [0, 1, 2]), ?_⟩
         refine rA [12] ?_
         refine ra_y 27 (i := 12) (v := .slice B7 ZImages.length c7) rfl rfl rfl (yl (aD b3) 2 [vi first.Qubits, .slice B6 XImages.length c6, .slice B7 ZImages.length c7] (.slice B7 ZImages.length c7) K6 (hS64.c 3)) (hS64.se [0, 1, 2]) ?_ ?_
         ·skip
          refine rq 22 37 (v := pt (aD b3) 1) rfl (hS64.se [0, 1, 2]) (fun w' hw' => (yd (aD b3) 0 0 K9 K1 rfl (hf.g 5 3))) ?_
          refine rA [21] ?_
          refine rS 36 21 rfl (Ys_append (s := 3) (by' := 24) (i := 5) (nn := ZImages.length) (c := c7) (k := 1) (len := (ZImages ++ [r_2]).length) (B := B7) (xs := ([r_2].flatMap eN0)) (cs' := ((ZImages ++ [r_2]).flatMap eN0)) hS64 K2 K0 K8 K5 rfl (by decide) rfl rfl rfl rfl (fm_lenn (l := ZImages) eN1 rfl) rfl (hS64.c 7) (fm_lenn (l := [r_2]) eN1 rfl) (fm_one' (enc := eN0) eN3 [r_2]) (by have := hap1; omega) (by have := hap1; simp only [maxLen]; omega) (fm_app _ _) (app_len (l := ZImages) (l' := [r_2]) rfl rfl)) ?_ ?_
          ·rintro _ w_57 ⟨B9, c9, rfl, hS65⟩
           refine ⟨(hS65.se [0, 1, 2]), ?_⟩
           refine rA [23] ?_
           refine rZ 23 rfl (yS 3 1 (aD b3) 40 (.slice B8 ((XImages ++ [r_1]).length) c8) [.slice B8 ((XImages ++ [r_1]).length) c8] 1 [vi first.Qubits, .slice B8 ((XImages ++ [r_1]).length) c8, .slice B7 ZImages.length c7] hS65 K1) ?_ ?_
           ·rintro _ w_58 ⟨rfl, hS66⟩
            refine ⟨(hS66.se [0, 1, 2]), ?_⟩
            refine rq 24 38 (v := pt (aD b3) 2) rfl (hS66.se [0, 1, 2]) (fun w' hw' => (yd (aD b3) 0 0 K11 K1 rfl (hf.g 5 3))) ?_
            refine rA [25] ?_
            refine rZ 25 rfl (yS 3 1 (aD b3) 40 (.slice B9 ((ZImages ++ [r_2]).length) c9) [.slice B9 ((ZImages ++ [r_2]).length) c9] 2 [vi first.Qubits, .slice B8 ((XImages ++ [r_1]).length) c8, .slice B9 ((ZImages ++ [r_2]).length) c9] hS66 K1) ?_ ?_
            ·rintro _ w_59 ⟨rfl, hS67⟩
             refine ⟨(hS67.se [0, 1, 2]), ?_⟩
             refine ra_done (by kernel_rfl) ?_
             exact ⟨B8, c8, B9, c9, (fc (hf.g 2 0) (fc (hf.g 3 1) (fc (hf.g 4 2) (fc (hf.g 5 3) (fc (hf.g 11 4) (fc (hf.g 12 5) fn_)))))), (hS67.sel [0, 1, 2, 3, 4, 5] rfl rfl)⟩
            exact aN
           exact aN
          exact aN
         exact aN
        exact aN
       exact aN
      refine ra_y 27 (i := 12) (v := .slice B7 ZImages.length c7) rfl rfl rfl (yl (aD b3) 2 [vi first.Qubits, .slice B6 XImages.length c6, .slice B7 ZImages.length c7] (.slice B7 ZImages.length c7) K6 (hS52.c 3)) (hS52.se [0, 1, 2]) ?_ ?_
      ·skip
       refine rA [10] ?_
       refine rS 25 10 rfl (Ys_append (s := 3) (by' := 24) (i := 4) (nn := XImages.length) (c := c6) (k := 1) (len := (XImages ++ [r_1]).length) (B := B6) (xs := ([r_1].flatMap eN0)) (cs' := ((XImages ++ [r_1]).flatMap eN0)) hS52 K2 K0 K8 K5 rfl (by decide) rfl rfl rfl rfl (fm_lenn (l := XImages) eN1 rfl) rfl (hS52.c 6) (fm_lenn (l := [r_1]) eN1 rfl) (fm_one' (enc := eN0) eN3 [r_1]) (by have := hap; omega) (by have := hap; simp only [maxLen]; omega) (fm_app _ _) (app_len (l := XImages) (l' := [r_1]) rfl rfl)) ?_ ?_
       ·rintro _ w_60 ⟨B8, c8, rfl, hS68⟩
        have hS68 : ST w0 [] _ [⟨aD b, 40, [vi first.Qubits, .slice B first.XImages.length c, .slice B1 first.ZImages.length c1], 3⟩, ⟨aD b1, 40, [vi second.Qubits, .slice B2 second.XImages.length c2, .slice B3 second.ZImages.length c3], 3⟩, ⟨aD b2, 40, [vi 0, .slice none 0 0, .slice none 0 0], 3⟩, ⟨aD b3, 40, [vi first.Qubits, .slice B6 XImages.length c6, .slice B7 ZImages.length c7], 3⟩, ⟨B8, 71, ((XImages ++ [r_1]).flatMap eN0), c8 * 3⟩, ⟨B7, 71, (ZImages.flatMap eN0), c7 * 3⟩, ⟨aD b4, 71, ([r_1].flatMap eN0), 1 * 3⟩] [⟨B, (first.XImages.flatMap eN0)⟩, ⟨B1, (first.ZImages.flatMap eN0)⟩, ⟨B2, (second.XImages.flatMap eN0)⟩, ⟨B3, (second.ZImages.flatMap eN0)⟩] := hS68
        refine ⟨(hS68.se [0, 1, 2]), ?_⟩
        refine rq 22 37 (v := pt (aD b3) 1) rfl (hS68.se [0, 1, 2]) (fun w' hw' => (yd (aD b3) 0 0 K9 K1 rfl (hf.g 5 3))) ?_
        refine rA [19] ?_
        refine rC 34 19 rfl (yC [.agg #[vi second.Qubits, .slice B2 second.XImages.length c2, .slice B3 second.ZImages.length c3], .agg #[vi x1.Phase, vi x1.X, vi x1.Z]] K29 (c_impl_image second x1 B2 c2 second.XImages.length B3 c3 second.ZImages.length _ rfl rfl (hS68.inn0 [(true, 2), (true, 3)] rfl) hc1)) ?_ ?_
        ·rintro _ w_61 ⟨rfl, hd10⟩
         have hS69 := hS68.out00 hd10
         refine ⟨(hS69.se [0, 1, 2]), ?_⟩
         refine rA [20] ?_
         refine rS 35 20 rfl (Ys_bslice (s := 3) (len := 1) (vs := [(0, .agg #[vi r_2.Phase, vi r_2.X, vi r_2.Z])]) (cs := [vi r_2.Phase, vi r_2.X, vi r_2.Z]) (zs := [vi 0, vi 0, vi 0]) (m := 3) hS69 K2 K0 K12 rfl (mpc rfl mpn) rfl rfl rfl (by kernel_rfl) (by kernel_rfl) rfl) ?_ ?_
         ·rintro _ w_62 ⟨b5, rfl, hS70⟩
          refine ⟨(hS70.se [0, 1, 2]), ?_⟩
          refine rA [21] ?_
          refine rS 36 21 rfl (Ys_append (s := 3) (by' := 24) (i := 5) (nn := ZImages.length) (c := c7) (k := 1) (len := (ZImages ++ [r_2]).length) (B := B7) (xs := ([r_2].flatMap eN0)) (cs' := ((ZImages ++ [r_2]).flatMap eN0)) hS70 K2 K0 K8 K5 rfl (by decide) rfl rfl rfl rfl (fm_lenn (l := ZImages) eN1 rfl) rfl (hS70.c 7) (fm_lenn (l := [r_2]) eN1 rfl) (fm_one' (enc := eN0) eN3 [r_2]) (by have := hap1; omega) (by have := hap1; simp only [maxLen]; omega) (fm_app _ _) (app_len (l := ZImages) (l' := [r_2]) rfl rfl)) ?_ ?_
          ·rintro _ w_63 ⟨B9, c9, rfl, hS71⟩
           refine ⟨(hS71.se [0, 1, 2]), ?_⟩
           refine rA [23] ?_
           refine rZ 23 rfl (yS 3 1 (aD b3) 40 (.slice B8 ((XImages ++ [r_1]).length) c8) [.slice B8 ((XImages ++ [r_1]).length) c8] 1 [vi first.Qubits, .slice B8 ((XImages ++ [r_1]).length) c8, .slice B7 ZImages.length c7] hS71 K1) ?_ ?_
           ·rintro _ w_64 ⟨rfl, hS72⟩
            refine ⟨(hS72.se [0, 1, 2]), ?_⟩
            refine rq 24 38 (v := pt (aD b3) 2) rfl (hS72.se [0, 1, 2]) (fun w' hw' => (yd (aD b3) 0 0 K11 K1 rfl (hf.g 5 3))) ?_
            refine rA [25] ?_
            refine rZ 25 rfl (yS 3 1 (aD b3) 40 (.slice B9 ((ZImages ++ [r_2]).length) c9) [.slice B9 ((ZImages ++ [r_2]).length) c9] 2 [vi first.Qubits, .slice B8 ((XImages ++ [r_1]).length) c8, .slice B9 ((ZImages ++ [r_2]).length) c9] hS72 K1) ?_ ?_
            ·rintro _ w_65 ⟨rfl, hS73⟩
             refine ⟨(hS73.se [0, 1, 2]), ?_⟩
             refine ra_done (by kernel_rfl) ?_
             exact ⟨B8, c8, B9, c9, (fc (hf.g 2 0) (fc (hf.g 3 1) (fc (hf.g 4 2) (fc (hf.g 5 3) (fc (hf.g 11 4) (fc (hf.g 12 5) fn_)))))), (hS73.sel [0, 1, 2, 3, 4, 5] rfl rfl)⟩
            exact aN
           exact aN
          exact aN
         exact aN
        exact aN
       exact aN
      exact aN
     refine ra_y 27 (i := 12) (v := .slice B7 ZImages.length c7) rfl rfl rfl (yl (aD b3) 2 [vi first.Qubits, .slice B6 XImages.length c6, .slice B7 ZImages.length c7] (.slice B7 ZImages.length c7) K6 (hS51.c 3)) (hS51.se [0, 1, 2]) ?_ ?_
     ·skip
      refine rA [9] ?_
      refine rS 24 9 rfl (Ys_bslice (s := 3) (len := 1) (vs := [(0, .agg #[vi r_1.Phase, vi r_1.X, vi r_1.Z])]) (cs := [vi r_1.Phase, vi r_1.X, vi r_1.Z]) (zs := [vi 0, vi 0, vi 0]) (m := 3) hS51 K2 K0 K12 rfl (mpc rfl mpn) rfl rfl rfl (by kernel_rfl) (by kernel_rfl) rfl) ?_ ?_
      ·rintro _ w_66 ⟨b4, rfl, hS74⟩
       refine ⟨(hS74.se [0, 1, 2]), ?_⟩
       refine rA [10] ?_
       refine rS 25 10 rfl (Ys_append (s := 3) (by' := 24) (i := 4) (nn := XImages.length) (c := c6) (k := 1) (len := (XImages ++ [r_1]).length) (B := B6) (xs := ([r_1].flatMap eN0)) (cs' := ((XImages ++ [r_1]).flatMap eN0)) hS74 K2 K0 K8 K5 rfl (by decide) rfl rfl rfl rfl (fm_lenn (l := XImages) eN1 rfl) rfl (hS74.c 6) (fm_lenn (l := [r_1]) eN1 rfl) (fm_one' (enc := eN0) eN3 [r_1]) (by have := hap; omega) (by have := hap; simp only [maxLen]; omega) (fm_app _ _) (app_len (l := XImages) (l' := [r_1]) rfl rfl)) ?_ ?_
       ·rintro _ w_67 ⟨B8, c8, rfl, hS75⟩
        refine ⟨(hS75.se [0, 1, 2]), ?_⟩
        refine rq 22 37 (v := pt (aD b3) 1) rfl (hS75.se [0, 1, 2]) (fun w' hw' => (yd (aD b3) 0 0 K9 K1 rfl (hf.g 5 3))) ?_
        refine rA [19] ?_
        refine rC 34 19 rfl (yC [.agg #[vi second.Qubits, .slice B2 second.XImages.length c2, .slice B3 second.ZImages.length c3], .agg #[vi x1.Phase, vi x1.X, vi x1.Z]] K29 (c_impl_image second x1 B2 c2 second.XImages.length B3 c3 second.ZImages.length _ rfl rfl (hS75.inn0 [(true, 2), (true, 3)] rfl) hc1)) ?_ ?_
        ·rintro _ w_68 ⟨rfl, hd11⟩
         have hS76 := hS75.out00 hd11
         refine ⟨(hS76.se [0, 1, 2]), ?_⟩
         refine rA [20] ?_
         refine rS 35 20 rfl (Ys_bslice (s := 3) (len := 1) (vs := [(0, .agg #[vi r_2.Phase, vi r_2.X, vi r_2.Z])]) (cs := [vi r_2.Phase, vi r_2.X, vi r_2.Z]) (zs := [vi 0, vi 0, vi 0]) (m := 3) hS76 K2 K0 K12 rfl (mpc rfl mpn) rfl rfl rfl (by kernel_rfl) (by kernel_rfl) rfl) ?_ ?_
         ·rintro _ w_69 ⟨b5, rfl, hS77⟩
          refine ⟨(hS77.se [0, 1, 2]), ?_⟩
          refine rA [21] ?_
          refine rS 36 21 rfl (Ys_append (s := 3) (by' := 24) (i := 5) (nn := ZImages.length) (c := c7) (k := 1) (len := (ZImages ++ [r_2]).length) (B := B7) (xs := ([r_2].flatMap eN0)) (cs' := ((ZImages ++ [r_2]).flatMap eN0)) hS77 K2 K0 K8 K5 rfl (by decide) rfl rfl rfl rfl (fm_lenn (l := ZImages) eN1 rfl) rfl (hS77.c 7) (fm_lenn (l := [r_2]) eN1 rfl) (fm_one' (enc := eN0) eN3 [r_2]) (by have := hap1; omega) (by have := hap1; simp only [maxLen]; omega) (fm_app _ _) (app_len (l := ZImages) (l' := [r_2]) rfl rfl)) ?_ ?_
          ·rintro _ w_70 ⟨B9, c9, rfl, hS78⟩
           refine ⟨(hS78.se [0, 1, 2]), ?_⟩
           refine rA [23] ?_
           refine rZ 23 rfl (yS 3 1 (aD b3) 40 (.slice B8 ((XImages ++ [r_1]).length) c8) [.slice B8 ((XImages ++ [r_1]).length) c8] 1 [vi first.Qubits, .slice B8 ((XImages ++ [r_1]).length) c8, .slice B7 ZImages.length c7] hS78 K1) ?_ ?_
           ·rintro _ w_71 ⟨rfl, hS79⟩
            refine ⟨(hS79.se [0, 1, 2]), ?_⟩
            refine rq 24 38 (v := pt (aD b3) 2) rfl (hS79.se [0, 1, 2]) (fun w' hw' => (yd (aD b3) 0 0 K11 K1 rfl (hf.g 5 3))) ?_
            refine rA [25] ?_
            refine rZ 25 rfl (yS 3 1 (aD b3) 40 (.slice B9 ((ZImages ++ [r_2]).length) c9) [.slice B9 ((ZImages ++ [r_2]).length) c9] 2 [vi first.Qubits, .slice B8 ((XImages ++ [r_1]).length) c8, .slice B9 ((ZImages ++ [r_2]).length) c9] hS79 K1) ?_ ?_
            ·rintro _ w_72 ⟨rfl, hS80⟩
             refine ⟨(hS80.se [0, 1, 2]), ?_⟩
             refine ra_done (by kernel_rfl) ?_
             exact ⟨B8, c8, B9, c9, (fc (hf.g 2 0) (fc (hf.g 3 1) (fc (hf.g 4 2) (fc (hf.g 5 3) (fc (hf.g 11 4) (fc (hf.g 12 5) fn_)))))), (hS80.sel [0, 1, 2, 3, 4, 5] rfl rfl)⟩
            exact aN
           exact aN
          exact aN
         exact aN
        exact aN
       exact aN
      exact aN
     exact aN
    refine rS 24 9 rfl (Ys_bslice (s := 3) (len := 1) (vs := [(0, .agg #[vi r_1.Phase, vi r_1.X, vi r_1.Z])]) (cs := [vi r_1.Phase, vi r_1.X, vi r_1.Z]) (zs := [vi 0, vi 0, vi 0]) (m := 3) hS51 K2 K0 K12 rfl (mpc rfl mpn) rfl rfl rfl (by kernel_rfl) (by kernel_rfl) rfl) ?_ ?_
    ·rintro _ w_73 ⟨b4, rfl, hS81⟩
     refine ⟨(hS81.se [0, 1, 2]), ?_⟩
     refine rA [1, 12] ?_
     refine ra_y 16 (i := 1) (v := .slice B6 XImages.length c6) rfl rfl rfl (yl (aD b3) 1 [vi first.Qubits, .slice B6 XImages.length c6, .slice B7 ZImages.length c7] (.slice B6 XImages.length c6) K6 (hS81.c 3)) (hS81.se [0, 1, 2]) ?_ ?_
     ·skip
      refine rA [10, 12] ?_
      refine rS 25 10 rfl (Ys_append (s := 3) (by' := 24) (i := 4) (nn := XImages.length) (c := c6) (k := 1) (len := (XImages ++ [r_1]).length) (B := B6) (xs := ([r_1].flatMap eN0)) (cs' := ((XImages ++ [r_1]).flatMap eN0)) hS81 K2 K0 K8 K5 rfl (by decide) rfl rfl rfl rfl (fm_lenn (l := XImages) eN1 rfl) rfl (hS81.c 6) (fm_lenn (l := [r_1]) eN1 rfl) (fm_one' (enc := eN0) eN3 [r_1]) (by have := hap; omega) (by have := hap; simp only [maxLen]; omega) (fm_app _ _) (app_len (l := XImages) (l' := [r_1]) rfl rfl)) ?_ ?_
      ·rintro _ w_74 ⟨B8, c8, rfl, hS82⟩
       refine ⟨(hS82.se [0, 1, 2]), ?_⟩
       refine rA [12, 19] ?_
       refine ra_y 27 (i := 12) (v := .slice B7 ZImages.length c7) rfl rfl rfl (yl (aD b3) 2 [vi first.Qubits, .slice B6 XImages.length c6, .slice B7 ZImages.length c7] (.slice B7 ZImages.length c7) K6 (hS82.c 3)) (hS82.se [0, 1, 2]) ?_ ?_
       ·skip
        refine rq 22 37 (v := pt (aD b3) 1) rfl (hS82.se [0, 1, 2]) (fun w' hw' => (yd (aD b3) 0 0 K9 K1 rfl (hf.g 5 3))) ?_
        refine rA [19] ?_
        refine rC 34 19 rfl (yC [.agg #[vi second.Qubits, .slice B2 second.XImages.length c2, .slice B3 second.ZImages.length c3], .agg #[vi x1.Phase, vi x1.X, vi x1.Z]] K29 (c_impl_image second x1 B2 c2 second.XImages.length B3 c3 second.ZImages.length _ rfl rfl (hS82.inn0 [(true, 2), (true, 3)] rfl) hc1)) ?_ ?_
        ·rintro _ w_75 ⟨rfl, hd12⟩
         have hS83 := hS82.out00 hd12
         refine ⟨(hS83.se [0, 1, 2]), ?_⟩
         refine rA [20] ?_
         refine rS 35 20 rfl (Ys_bslice (s := 3) (len := 1) (vs := [(0, .agg #[vi r_2.Phase, vi r_2.X, vi r_2.Z])]) (cs := [vi r_2.Phase, vi r_2.X, vi r_2.Z]) (zs := [vi 0, vi 0, vi 0]) (m := 3) hS83 K2 K0 K12 rfl (mpc rfl mpn) rfl rfl rfl (by kernel_rfl) (by kernel_rfl) rfl) ?_ ?_
         ·rintro _ w_76 ⟨b5, rfl, hS84⟩
          refine ⟨(hS84.se [0, 1, 2]), ?_⟩
          refine rA [21] ?_
          refine rS 36 21 rfl (Ys_append (s := 3) (by' := 24) (i := 5) (nn := ZImages.length) (c := c7) (k := 1) (len := (ZImages ++ [r_2]).length) (B := B7) (xs := ([r_2].flatMap eN0)) (cs' := ((ZImages ++ [r_2]).flatMap eN0)) hS84 K2 K0 K8 K5 rfl (by decide) rfl rfl rfl rfl (fm_lenn (l := ZImages) eN1 rfl) rfl (hS84.c 7) (fm_lenn (l := [r_2]) eN1 rfl) (fm_one' (enc := eN0) eN3 [r_2]) (by have := hap1; omega) (by have := hap1; simp only [maxLen]; omega) (fm_app _ _) (app_len (l := ZImages) (l' := [r_2]) rfl rfl)) ?_ ?_
          ·rintro _ w_77 ⟨B9, c9, rfl, hS85⟩
           refine ⟨(hS85.se [0, 1, 2]), ?_⟩
           refine rA [23] ?_
           refine rZ 23 rfl (yS 3 1 (aD b3) 40 (.slice B8 ((XImages ++ [r_1]).length) c8) [.slice B8 ((XImages ++ [r_1]).length) c8] 1 [vi first.Qubits, .slice B8 ((XImages ++ [r_1]).length) c8, .slice B7 ZImages.length c7] hS85 K1) ?_ ?_
           ·rintro _ w_78 ⟨rfl, hS86⟩
            refine ⟨(hS86.se [0, 1, 2]), ?_⟩
            refine rq 24 38 (v := pt (aD b3) 2) rfl (hS86.se [0, 1, 2]) (fun w' hw' => (yd (aD b3) 0 0 K11 K1 rfl (hf.g 5 3))) ?_
            refine rA [25] ?_
            refine rZ 25 rfl (yS 3 1 (aD b3) 40 (.slice B9 ((ZImages ++ [r_2]).length) c9) [.slice B9 ((ZImages ++ [r_2]).length) c9] 2 [vi first.Qubits, .slice B8 ((XImages ++ [r_1]).length) c8, .slice B9 ((ZImages ++ [r_2]).length) c9] hS86 K1) ?_ ?_
            ·rintro _ w_79 ⟨rfl, hS87⟩
             refine ⟨(hS87.se [0, 1, 2]), ?_⟩
             refine ra_done (by kernel_rfl) ?_
             exact ⟨B8, c8, B9, c9, (fc (hf.g 2 0) (fc (hf.g 3 1) (fc (hf.g 4 2) (fc (hf.g 5 3) (fc (hf.g 11 4) (fc (hf.g 12 5) fn_)))))), (hS87.sel [0, 1, 2, 3, 4, 5] rfl rfl)⟩
            exact aN
           exact aN
          exact aN
         exact aN
        exact aN
       refine rC 34 19 rfl (yC [.agg #[vi second.Qubits, .slice B2 second.XImages.length c2, .slice B3 second.ZImages.length c3], .agg #[vi x1.Phase, vi x1.X, vi x1.Z]] K29 (c_impl_image second x1 B2 c2 second.XImages.length B3 c3 second.ZImages.length _ rfl rfl (hS82.inn0 [(true, 2), (true, 3)] rfl) hc1)) ?_ ?_
       ·rintro _ w_80 ⟨rfl, hd13⟩
        have hS88 := hS82.out00 hd13
        refine ⟨(hS88.se [0, 1, 2]), ?_⟩
        refine rA [12, 20] ?_
        refine ra_y 27 (i := 12) (v := .slice B7 ZImages.length c7) rfl rfl rfl (yl (aD b3) 2 [vi first.Qubits, .slice B6 XImages.length c6, .slice B7 ZImages.length c7] (.slice B7 ZImages.length c7) K6 (hS88.c 3)) (hS88.se [0, 1, 2]) ?_ ?_
        ·skip
         refine rq 22 37 (v := pt (aD b3) 1) rfl (hS88.se [0, 1, 2]) (fun w' hw' => (yd (aD b3) 0 0 K9 K1 rfl (hf.g 5 3))) ?_
         refine rA [20] ?_
         refine rS 35 20 rfl (Ys_bslice (s := 3) (len := 1) (vs := [(0, .agg #[vi r_2.Phase, vi r_2.X, vi r_2.Z])]) (cs := [vi r_2.Phase, vi r_2.X, vi r_2.Z]) (zs := [vi 0, vi 0, vi 0]) (m := 3) hS88 K2 K0 K12 rfl (mpc rfl mpn) rfl rfl rfl (by kernel_rfl) (by kernel_rfl) rfl) ?_ ?_
         ·rintro _ w_81 ⟨b5, rfl, hS89⟩
          refine ⟨(hS89.se [0, 1, 2]), ?_⟩
          refine rA [21] ?_
          refine rS 36 21 rfl (Ys_append (s := 3) (by' := 24) (i := 5) (nn := ZImages.length) (c := c7) (k := 1) (len := (ZImages ++ [r_2]).length) (B := B7) (xs := ([r_2].flatMap eN0)) (cs' := ((ZImages ++ [r_2]).flatMap eN0)) hS89 K2 K0 K8 K5 rfl (by decide) rfl rfl rfl rfl (fm_lenn (l := ZImages) eN1 rfl) rfl (hS89.c 7) (fm_lenn (l := [r_2]) eN1 rfl) (fm_one' (enc := eN0) eN3 [r_2]) (by have := hap1; omega) (by have := hap1; simp only [maxLen]; omega) (fm_app _ _) (app_len (l := ZImages) (l' := [r_2]) rfl rfl)) ?_ ?_
          ·rintro _ w_82 ⟨B9, c9, rfl, hS90⟩
           refine ⟨(hS90.se [0, 1, 2]), ?_⟩
           refine rA [23] ?_
           refine rZ 23 rfl (yS 3 1 (aD b3) 40 (.slice B8 ((XImages ++ [r_1]).length) c8) [.slice B8 ((XImages ++ [r_1]).length) c8] 1 [vi first.Qubits, .slice B8 ((XImages ++ [r_1]).length) c8, .slice B7 ZImages.length c7] hS90 K1) ?_ ?_
           ·rintro _ w_83 ⟨rfl, hS91⟩
            refine ⟨(hS91.se [0, 1, 2]), ?_⟩
            refine rq 24 38 (v := pt (aD b3) 2) rfl (hS91.se [0, 1, 2]) (fun w' hw' => (yd (aD b3) 0 0 K11 K1 rfl (hf.g 5 3))) ?_
            refine rA [25] ?_
            refine rZ 25 rfl (yS 3 1 (aD b3) 40 (.slice B9 ((ZImages ++ [r_2]).length) c9) [.slice B9 ((ZImages ++ [r_2]).length) c9] 2 [vi first.Qubits, .slice B8 ((XImages ++ [r_1]).length) c8, .slice B9 ((ZImages ++ [r_2]).length) c9] hS91 K1) ?_ ?_
            ·rintro _ w_84 ⟨rfl, hS92⟩
             refine ⟨(hS92.se [0, 1, 2]), ?_⟩
             refine ra_done (by kernel_rfl) ?_
             exact ⟨B8, c8, B9, c9, (fc (hf.g 2 0) (fc (hf.g 3 1) (fc (hf.g 4 2) (fc (hf.g 5 3) (fc (hf.g 11 4) (fc (hf.g 12 5) fn_)))))), (hS92.sel [0, 1, 2, 3, 4, 5] rfl rfl)⟩
            exact aN
           exact aN
          exact aN
         exact aN
        refine rS 35 20 rfl (Ys_bslice (s := 3) (len := 1) (vs := [(0, .agg #[vi r_2.Phase, vi r_2.X, vi r_2.Z])]) (cs := [vi r_2.Phase, vi r_2.X, vi r_2.Z]) (zs := [vi 0, vi 0, vi 0]) (m := 3) hS88 K2 K0 K12 rfl (mpc rfl mpn) rfl rfl rfl (by kernel_rfl) (by kernel_rfl) rfl) ?_ ?_
        ·rintro _ w_85 ⟨b5, rfl, hS93⟩
         refine ⟨(hS93.se [0, 1, 2]), ?_⟩
         refine rA [12] ?_
         refine ra_y 27 (i := 12) (v := .slice B7 ZImages.length c7) rfl rfl rfl (yl (aD b3) 2 [vi first.Qubits, .slice B6 XImages.length c6, .slice B7 ZImages.length c7] (.slice B7 ZImages.length c7) K6 (hS93.c 3)) (hS93.se [0, 1, 2]) ?_ ?_
         ·skip
          refine rq 22 37 (v := pt (aD b3) 1) rfl (hS93.se [0, 1, 2]) (fun w' hw' => (yd (aD b3) 0 0 K9 K1 rfl (hf.g 5 3))) ?_
          refine rA [21] ?_
          refine rS 36 21 rfl (Ys_append (s := 3) (by' := 24) (i := 5) (nn := ZImages.length) (c := c7) (k := 1) (len := (ZImages ++ [r_2]).length) (B := B7) (xs := ([r_2].flatMap eN0)) (cs' := ((ZImages ++ [r_2]).flatMap eN0)) hS93 K2 K0 K8 K5 rfl (by decide) rfl rfl rfl rfl (fm_lenn (l := ZImages) eN1 rfl) rfl (hS93.c 7) (fm_lenn (l := [r_2]) eN1 rfl) (fm_one' (enc := eN0) eN3 [r_2]) (by have := hap1; omega) (by have := hap1; simp only [maxLen]; omega) (fm_app _ _) (app_len (l := ZImages) (l' := [r_2]) rfl rfl)) ?_ ?_
          ·rintro _ w_86 ⟨B9, c9, rfl, hS94⟩
           refine ⟨(hS94.se [0, 1, 2]), ?_⟩
           refine rA [23] ?_
           refine rZ 23 rfl (yS 3 1 (aD b3) 40 (.slice B8 ((XImages ++ [r_1]).length) c8) [.slice B8 ((XImages ++ [r_1]).length) c8] 1 [vi first.Qubits, .slice B8 ((XImages ++ [r_1]).length) c8, .slice B7 ZImages.length c7] hS94 K1) ?_ ?_
           ·rintro _ w_87 ⟨rfl, hS95⟩
            refine ⟨(hS95.se [0, 1, 2]), ?_⟩
            refine rq 24 38 (v := pt (aD b3) 2) rfl (hS95.se [0, 1, 2]) (fun w' hw' => (yd (aD b3) 0 0 K11 K1 rfl (hf.g 5 3))) ?_
            refine rA [25] ?_
            refine rZ 25 rfl (yS 3 1 (aD b3) 40 (.slice B9 ((ZImages ++ [r_2]).length) c9) [.slice B9 ((ZImages ++ [r_2]).length) c9] 2 [vi first.Qubits, .slice B8 ((XImages ++ [r_1]).length) c8, .slice B9 ((ZImages ++ [r_2]).length) c9] hS95 K1) ?_ ?_
            ·rintro _ w_88 ⟨rfl, hS96⟩
             refine ⟨(hS96.se [0, 1, 2]), ?_⟩
             refine ra_done (by kernel_rfl) ?_
             exact ⟨B8, c8, B9, c9, (fc (hf.g 2 0) (fc (hf.g 3 1) (fc (hf.g 4 2) (fc (hf.g 5 3) (fc (hf.g 11 4) (fc (hf.g 12 5) fn_)))))), (hS96.sel [0, 1, 2, 3, 4, 5] rfl rfl)⟩
            exact aN
           exact aN
          exact aN
         exact aN
        exact aN
       exact aN
      refine ra_y 27 (i := 12) (v := .slice B7 ZImages.length c7) rfl rfl rfl (yl (aD b3) 2 [vi first.Qubits, .slice B6 XImages.length c6, .slice B7 ZImages.length c7] (.slice B7 ZImages.length c7) K6 (hS81.c 3)) (hS81.se [0, 1, 2]) ?_ ?_
      ·skip
       refine rA [10] ?_
       refine rS 25 10 rfl (Ys_append (s := 3) (by' := 24) (i := 4) (nn := XImages.length) (c := c6) (k := 1) (len := (XImages ++ [r_1]).length) (B := B6) (xs := ([r_1].flatMap eN0)) (cs' := ((XImages ++ [r_1]).flatMap eN0)) hS81 K2 K0 K8 K5 rfl (by decide) rfl rfl rfl rfl (fm_lenn (l := XImages) eN1 rfl) rfl (hS81.c 6) (fm_lenn (l := [r_1]) eN1 rfl) (fm_one' (enc := eN0) eN3 [r_1]) (by have := hap; omega) (by have := hap; simp only [maxLen]; omega) (fm_app _ _) (app_len (l := XImages) (l' := [r_1]) rfl rfl)) ?_ ?_
       ·rintro _ w_89 ⟨B8, c8, rfl, hS97⟩
        refine ⟨(hS97.se [0, 1, 2]), ?_⟩
        refine rq 22 37 (v := pt (aD b3) 1) rfl (hS97.se [0, 1, 2]) (fun w' hw' => (yd (aD b3) 0 0 K9 K1 rfl (hf.g 5 3))) ?_
        refine rA [19] ?_
        refine rC 34 19 rfl (yC [.agg #[vi second.Qubits, .slice B2 second.XImages.length c2, .slice B3 second.ZImages.length c3], .agg #[vi x1.Phase, vi x1.X, vi x1.Z]] K29 (c_impl_image second x1 B2 c2 second.XImages.length B3 c3 second.ZImages.length _ rfl rfl (hS97.inn0 [(true, 2), (true, 3)] rfl) hc1)) ?_ ?_
        ·rintro _ w_90 ⟨rfl, hd14⟩
         have hS98 := hS97.out00 hd14
         have hS98 : ST w0 [] _ [⟨aD b, 40, [vi first.Qubits, .slice B first.XImages.length c, .slice B1 first.ZImages.length c1], 3⟩, ⟨aD b1, 40, [vi second.Qubits, .slice B2 second.XImages.length c2, .slice B3 second.ZImages.length c3], 3⟩, ⟨aD b2, 40, [vi 0, .slice none 0 0, .slice none 0 0], 3⟩, ⟨aD b3, 40, [vi first.Qubits, .slice B6 XImages.length c6, .slice B7 ZImages.length c7], 3⟩, ⟨B8, 71, ((XImages ++ [r_1]).flatMap eN0), c8 * 3⟩, ⟨B7, 71, (ZImages.flatMap eN0), c7 * 3⟩, ⟨aD b4, 71, ([r_1].flatMap eN0), 1 * 3⟩] [⟨B, (first.XImages.flatMap eN0)⟩, ⟨B1, (first.ZImages.flatMap eN0)⟩, ⟨B2, (second.XImages.flatMap eN0)⟩, ⟨B3, (second.ZImages.flatMap eN0)⟩] := hS98
         refine ⟨(hS98.se [0, 1, 2]), ?_⟩
         refine rA [20] ?_
         refine rS 35 20 rfl (Ys_bslice (s := 3) (len := 1) (vs := [(0, .agg #[vi r_2.Phase, vi r_2.X, vi r_2.Z])]) (cs := [vi r_2.Phase, vi r_2.X, vi r_2.Z]) (zs := [vi 0, vi 0, vi 0]) (m := 3) hS98 K2 K0 K12 rfl (mpc rfl mpn) rfl rfl rfl (by kernel_rfl) (by kernel_rfl) rfl) ?_ ?_
         ·rintro _ w_91 ⟨b5, rfl, hS99⟩
          refine ⟨(hS99.se [0, 1, 2]), ?_⟩
          refine rA [21] ?_
          refine rS 36 21 rfl (Ys_append (s := 3) (by' := 24) (i := 5) (nn := ZImages.length) (c := c7) (k := 1) (len := (ZImages ++ [r_2]).length) (B := B7) (xs := ([r_2].flatMap eN0)) (cs' := ((ZImages ++ [r_2]).flatMap eN0)) hS99 K2 K0 K8 K5 rfl (by decide) rfl rfl rfl rfl (fm_lenn (l := ZImages) eN1 rfl) rfl (hS99.c 7) (fm_lenn (l := [r_2]) eN1 rfl) (fm_one' (enc := eN0) eN3 [r_2]) (by have := hap1; omega) (by have := hap1; simp only [maxLen]; omega) (fm_app _ _) (app_len (l := ZImages) (l' := [r_2]) rfl rfl)) ?_ ?_
          ·rintro _ w_92 ⟨B9, c9, rfl, hS100⟩
           refine ⟨(hS100.se [0, 1, 2]), ?_⟩
           refine rA [23] ?_
           refine rZ 23 rfl (yS 3 1 (aD b3) 40 (.slice B8 ((XImages ++ [r_1]).length) c8) [.slice B8 ((XImages ++ [r_1]).length) c8] 1 [vi first.Qubits, .slice B8 ((XImages ++ [r_1]).length) c8, .slice B7 ZImages.length c7] hS100 K1) ?_ ?_
           ·rintro _ w_93 ⟨rfl, hS101⟩
            refine ⟨(hS101.se [0, 1, 2]), ?_⟩
            refine rq 24 38 (v := pt (aD b3) 2) rfl (hS101.se [0, 1, 2]) (fun w' hw' => (yd (aD b3) 0 0 K11 K1 rfl (hf.g 5 3))) ?_
            refine rA [25] ?_
            refine rZ 25 rfl (yS 3 1 (aD b3) 40 (.slice B9 ((ZImages ++ [r_2]).length) c9) [.slice B9 ((ZImages ++ [r_2]).length) c9] 2 [vi first.Qubits, .slice B8 ((XImages ++ [r_1]).length) c8, .slice B9 ((ZImages ++ [r_2]).length) c9] hS101 K1) ?_ ?_
            ·rintro _ w_94 ⟨rfl, hS102⟩
             refine ⟨(hS102.se [0, 1, 2]), ?_⟩
             refine ra_done (by kernel_rfl) ?_
             exact ⟨B8, c8, B9, c9, (fc (hf.g 2 0) (fc (hf.g 3 1) (fc (hf.g 4 2) (fc (hf.g 5 3) (fc (hf.g 11 4) (fc (hf.g 12 5) fn_)))))), (hS102.sel [0, 1, 2, 3, 4, 5] rfl rfl)⟩
            exact aN
           exact aN
          exact aN
         exact aN
        exact aN
       exact aN
      exact aN
     refine ra_y 27 (i := 12) (v := .slice B7 ZImages.length c7) rfl rfl rfl (yl (aD b3) 2 [vi first.Qubits, .slice B6 XImages.length c6, .slice B7 ZImages.length c7] (.slice B7 ZImages.length c7) K6 (hS81.c 3)) (hS81.se [0, 1, 2]) ?_ ?_
     ·skip
      refine rA [1] ?_
      refine ra_y 16 (i := 1) (v := .slice B6 XImages.length c6) rfl rfl rfl (yl (aD b3) 1 [vi first.Qubits, .slice B6 XImages.length c6, .slice B7 ZImages.length c7] (.slice B6 XImages.length c6) K6 (hS81.c 3)) (hS81.se [0, 1, 2]) ?_ ?_
      ·skip
       refine rA [10] ?_
       refine rS 25 10 rfl (Ys_append (s := 3) (by' := 24) (i := 4) (nn := XImages.length) (c := c6) (k := 1) (len := (XImages ++ [r_1]).length) (B := B6) (xs := ([r_1].flatMap eN0)) (cs' := ((XImages ++ [r_1]).flatMap eN0)) hS81 K2 K0 K8 K5 rfl (by decide) rfl rfl rfl rfl (fm_lenn (l := XImages) eN1 rfl) rfl (hS81.c 6) (fm_lenn (l := [r_1]) eN1 rfl) (fm_one' (enc := eN0) eN3 [r_1]) (by have := hap; omega) (by have := hap; simp only [maxLen]; omega) (fm_app _ _) (app_len (l := XImages) (l' := [r_1]) rfl rfl)) ?_ ?_
       ·rintro _ w_95 ⟨B8, c8, rfl, hS103⟩
        refine ⟨(hS103.se [0, 1, 2]), ?_⟩
        refine rq 22 37 (v := pt (aD b3) 1) rfl (hS103.se [0, 1, 2]) (fun w' hw' => (yd (aD b3) 0 0 K9 K1 rfl (hf.g 5 3))) ?_
        refine rA [19] ?_
        refine rC 34 19 rfl (yC [.agg #[vi second.Qubits, .slice B2 second.XImages.length c2, .slice B3 second.ZImages.length c3], .agg #[vi x1.Phase, vi x1.X, vi x1.Z]] K29 (c_impl_image second x1 B2 c2 second.XImages.length B3 c3 second.ZImages.length _ rfl rfl (hS103.inn0 [(true, 2), (true, 3)] rfl) hc1)) ?_ ?_
        ·rintro _ w_96 ⟨rfl, hd15⟩
         have hS104 := hS103.out00 hd15
         refine ⟨(hS104.se [0, 1, 2]), ?_⟩
         refine rA [20] ?_
         refine rS 35 20 rfl (Ys_bslice (s := 3) (len := 1) (vs := [(0, .agg #[vi r_2.Phase, vi r_2.X, vi r_2.Z])]) (cs := [vi r_2.Phase, vi r_2.X, vi r_2.Z]) (zs := [vi 0, vi 0, vi 0]) (m := 3) hS104 K2 K0 K12 rfl (mpc rfl mpn) rfl rfl rfl (by kernel_rfl) (by kernel_rfl) rfl) ?_ ?_
         ·rintro _ w_97 ⟨b5, rfl, hS105⟩
          refine ⟨(hS105.se [0, 1, 2]), ?_⟩
          refine rA [21] ?_
          refine rS 36 21 rfl (Ys_append (s := 3) (by' := 24) (i := 5) (nn := ZImages.length) (c := c7) (k := 1) (len := (ZImages ++ [r_2]).length) (B := B7) (xs := ([r_2].flatMap eN0)) (cs' := ((ZImages ++ [r_2]).flatMap eN0)) hS105 K2 K0 K8 K5 rfl (by decide) rfl rfl rfl rfl (fm_lenn (l := ZImages) eN1 rfl) rfl (hS105.c 7) (fm_lenn (l := [r_2]) eN1 rfl) (fm_one' (enc := eN0) eN3 [r_2]) (by have := hap1; omega) (by have := hap1; simp only [maxLen]; omega) (fm_app _ _) (app_len (l := ZImages) (l' := [r_2]) rfl rfl)) ?_ ?_
          ·rintro _ w_98 ⟨B9, c9, rfl, hS106⟩
           refine ⟨(hS106.se [0, 1, 2]), ?_⟩
           refine rA [23] ?_
           refine rZ 23 rfl (yS 3 1 (aD b3) 40 (.slice B8 ((XImages ++ [r_1]).length) c8) [.slice B8 ((XImages ++ [r_1]).length) c8] 1 [vi first.Qubits, .slice B8 ((XImages ++ [r_1]).length) c8, .slice B7 ZImages.length c7] hS106 K1) ?_ ?_
           ·rintro _ w_99 ⟨rfl, hS107⟩
            refine ⟨(hS107.se [0, 1, 2]), ?_⟩
            refine rq 24 38 (v := pt (aD b3) 2) rfl (hS107.se [0, 1, 2]) (fun w' hw' => (yd (aD b3) 0 0 K11 K1 rfl (hf.g 5 3))) ?_
            refine rA [25] ?_
            refine rZ 25 rfl (yS 3 1 (aD b3) 40 (.slice B9 ((ZImages ++ [r_2]).length) c9) [.slice B9 ((ZImages ++ [r_2]).length) c9] 2 [vi first.Qubits, .slice B8 ((XImages ++ [r_1]).length) c8, .slice B9 ((ZImages ++ [r_2]).length) c9] hS107 K1) ?_ ?_
            ·rintro _ w_100 ⟨rfl, hS108⟩
             refine ⟨(hS108.se [0, 1, 2]), ?_⟩
             refine ra_done (by kernel_rfl) ?_
             exact ⟨B8, c8, B9, c9, (fc (hf.g 2 0) (fc (hf.g 3 1) (fc (hf.g 4 2) (fc (hf.g 5 3) (fc (hf.g 11 4) (fc (hf.g 12 5) fn_)))))), (hS108.sel [0, 1, 2, 3, 4, 5] rfl rfl)⟩
            exact aN
           exact aN
          exact aN
         exact aN
        exact aN
       exact aN
      exact aN
     exact aN
    refine ra_y 27 (i := 12) (v := .slice B7 ZImages.length c7) rfl rfl rfl (yl (aD b3) 2 [vi first.Qubits, .slice B6 XImages.length c6, .slice B7 ZImages.length c7] (.slice B7 ZImages.length c7) K6 (hS51.c 3)) (hS51.se [0, 1, 2]) ?_ ?_
    ·skip
     refine rA [1, 9] ?_
     refine ra_y 16 (i := 1) (v := .slice B6 XImages.length c6) rfl rfl rfl (yl (aD b3) 1 [vi first.Qubits, .slice B6 XImages.length c6, .slice B7 ZImages.length c7] (.slice B6 XImages.length c6) K6 (hS51.c 3)) (hS51.se [0, 1, 2]) ?_ ?_
     ·skip
      refine rA [9] ?_
      refine rS 24 9 rfl (Ys_bslice (s := 3) (len := 1) (vs := [(0, .agg #[vi r_1.Phase, vi r_1.X, vi r_1.Z])]) (cs := [vi r_1.Phase, vi r_1.X, vi r_1.Z]) (zs := [vi 0, vi 0, vi 0]) (m := 3) hS51 K2 K0 K12 rfl (mpc rfl mpn) rfl rfl rfl (by kernel_rfl) (by kernel_rfl) rfl) ?_ ?_
      ·rintro _ w_101 ⟨b4, rfl, hS109⟩
       refine ⟨(hS109.se [0, 1, 2]), ?_⟩
       refine rA [10] ?_
       refine rS 25 10 rfl (Ys_append (s := 3) (by' := 24) (i := 4) (nn := XImages.length) (c := c6) (k := 1) (len := (XImages ++ [r_1]).length) (B := B6) (xs := ([r_1].flatMap eN0)) (cs' := ((XImages ++ [r_1]).flatMap eN0)) hS109 K2 K0 K8 K5 rfl (by decide) rfl rfl rfl rfl (fm_lenn (l := XImages) eN1 rfl) rfl (hS109.c 6) (fm_lenn (l := [r_1]) eN1 rfl) (fm_one' (enc := eN0) eN3 [r_1]) (by have := hap; omega) (by have := hap; simp only [maxLen]; omega) (fm_app _ _) (app_len (l := XImages) (l' := [r_1]) rfl rfl)) ?_ ?_
       ·rintro _ w_102 ⟨B8, c8, rfl, hS110⟩
        refine ⟨(hS110.se [0, 1, 2]), ?_⟩
        refine rq 22 37 (v := pt (aD b3) 1) rfl (hS110.se [0, 1, 2]) (fun w' hw' => (yd (aD b3) 0 0 K9 K1 rfl (hf.g 5 3))) ?_
        refine rA [19] ?_
        refine rC 34 19 rfl (yC [.agg #[vi second.Qubits, .slice B2 second.XImages.length c2, .slice B3 second.ZImages.length c3], .agg #[vi x1.Phase, vi x1.X, vi x1.Z]] K29 (c_impl_image second x1 B2 c2 second.XImages.length B3 c3 second.ZImages.length _ rfl rfl (hS110.inn0 [(true, 2), (true, 3)] rfl) hc1)) ?_ ?_
        ·rintro _ w_103 ⟨rfl, hd16⟩
         have hS111 := hS110.out00 hd16
         refine ⟨(hS111.se [0, 1, 2]), ?_⟩
         refine rA [20] ?_
         refine rS 35 20 rfl (Ys_bslice (s := 3) (len := 1) (vs := [(0, .agg #[vi r_2.Phase, vi r_2.X, vi r_2.Z])]) (cs := [vi r_2.Phase, vi r_2.X, vi r_2.Z]) (zs := [vi 0, vi 0, vi 0]) (m := 3) hS111 K2 K0 K12 rfl (mpc rfl mpn) rfl rfl rfl (by kernel_rfl) (by kernel_rfl) rfl) ?_ ?_
         ·rintro _ w_104 ⟨b5, rfl, hS112⟩
          refine ⟨(hS112.se [0, 1, 2]), ?_⟩
          refine rA [21] ?_
          refine rS 36 21 rfl (Ys_append (s := 3) (by' := 24) (i := 5) (nn := ZImages.length) (c := c7) (k := 1) (len := (ZImages ++ [r_2]).length) (B := B7) (xs := ([r_2].flatMap eN0)) (cs' := ((ZImages ++ [r_2]).flatMap eN0)) hS112 K2 K0 K8 K5 rfl (by decide) rfl rfl rfl rfl (fm_lenn (l := ZImages) eN1 rfl) rfl (hS112.c 7) (fm_lenn (l := [r_2]) eN1 rfl) (fm_one' (enc := eN0) eN3 [r_2]) (by have := hap1; omega) (by have := hap1; simp only [maxLen]; omega) (fm_app _ _) (app_len (l := ZImages) (l' := [r_2]) rfl rfl)) ?_ ?_
          ·rintro _ w_105 ⟨B9, c9, rfl, hS113⟩
           refine ⟨(hS113.se [0, 1, 2]), ?_⟩
           refine rA [23] ?_
           refine rZ 23 rfl (yS 3 1 (aD b3) 40 (.slice B8 ((XImages ++ [r_1]).length) c8) [.slice B8 ((XImages ++ [r_1]).length) c8] 1 [vi first.Qubits, .slice B8 ((XImages ++ [r_1]).length) c8, .slice B7 ZImages.length c7] hS113 K1) ?_ ?_
           ·rintro _ w_106 ⟨rfl, hS114⟩
            refine ⟨(hS114.se [0, 1, 2]), ?_⟩
            refine rq 24 38 (v := pt (aD b3) 2) rfl (hS114.se [0, 1, 2]) (fun w' hw' => (yd (aD b3) 0 0 K11 K1 rfl (hf.g 5 3))) ?_
            refine rA [25] ?_
            refine rZ 25 rfl (yS 3 1 (aD b3) 40 (.slice B9 ((ZImages ++ [r_2]).length) c9) [.slice B9 ((ZImages ++ [r_2]).length) c9] 2 [vi first.Qubits, .slice B8 ((XImages ++ [r_1]).length) c8, .slice B9 ((ZImages ++ [r_2]).length) c9] hS114 K1) ?_ ?_
            ·rintro _ w_107 ⟨rfl, hS115⟩
             refine ⟨(hS115.se [0, 1, 2]), ?_⟩
             refine ra_done (by kernel_rfl) ?_
             exact ⟨B8, c8, B9, c9, (fc (hf.g 2 0) (fc (hf.g 3 1) (fc (hf.g 4 2) (fc (hf.g 5 3) (fc (hf.g 11 4) (fc (hf.g 12 5) fn_)))))), (hS115.sel [0, 1, 2, 3, 4, 5] rfl rfl)⟩
            exact aN
           exact aN
          exact aN
         exact aN
        exact aN
       exact aN
      exact aN
     refine rS 24 9 rfl (Ys_bslice (s := 3) (len := 1) (vs := [(0, .agg #[vi r_1.Phase, vi r_1.X, vi r_1.Z])]) (cs := [vi r_1.Phase, vi r_1.X, vi r_1.Z]) (zs := [vi 0, vi 0, vi 0]) (m := 3) hS51 K2 K0 K12 rfl (mpc rfl mpn) rfl rfl rfl (by kernel_rfl) (by kernel_rfl) rfl) ?_ ?_
     ·rintro _ w_108 ⟨b4, rfl, hS116⟩
      refine ⟨(hS116.se [0, 1, 2]), ?_⟩
      refine rA [1] ?_
      refine ra_y 16 (i := 1) (v := .slice B6 XImages.length c6) rfl rfl rfl (yl (aD b3) 1 [vi first.Qubits, .slice B6 XImages.length c6, .slice B7 ZImages.length c7] (.slice B6 XImages.length c6) K6 (hS116.c 3)) (hS116.se [0, 1, 2]) ?_ ?_
      ·skip
       refine rA [10] ?_
       refine rS 25 10 rfl (Ys_append (s := 3) (by' := 24) (i := 4) (nn := XImages.length) (c := c6) (k := 1) (len := (XImages ++ [r_1]).length) (B := B6) (xs := ([r_1].flatMap eN0)) (cs' := ((XImages ++ [r_1]).flatMap eN0)) hS116 K2 K0 K8 K5 rfl (by decide) rfl rfl rfl rfl (fm_lenn (l := XImages) eN1 rfl) rfl (hS116.c 6) (fm_lenn (l := [r_1]) eN1 rfl) (fm_one' (enc := eN0) eN3 [r_1]) (by have := hap; omega) (by have := hap; simp only [maxLen]; omega) (fm_app _ _) (app_len (l := XImages) (l' := [r_1]) rfl rfl)) ?_ ?_
       ·rintro _ w_109 ⟨B8, c8, rfl, hS117⟩
        refine ⟨(hS117.se [0, 1, 2]), ?_⟩
        refine rq 22 37 (v := pt (aD b3) 1) rfl (hS117.se [0, 1, 2]) (fun w' hw' => (yd (aD b3) 0 0 K9 K1 rfl (hf.g 5 3))) ?_
        refine rA [19] ?_
        refine rC 34 19 rfl (yC [.agg #[vi second.Qubits, .slice B2 second.XImages.length c2, .slice B3 second.ZImages.length c3], .agg #[vi x1.Phase, vi x1.X, vi x1.Z]] K29 (c_impl_image second x1 B2 c2 second.XImages.length B3 c3 second.ZImages.length _ rfl rfl (hS117.inn0 [(true, 2), (true, 3)] rfl) hc1)) ?_ ?_
        ·rintro _ w_110 ⟨rfl, hd17⟩
         have hS118 := hS117.out00 hd17
         refine ⟨(hS118.se [0, 1, 2]), ?_⟩
         refine rA [20] ?_
         refine rS 35 20 rfl (Ys_bslice (s := 3) (len := 1) (vs := [(0, .agg #[vi r_2.Phase, vi r_2.X, vi r_2.Z])]) (cs := [vi r_2.Phase, vi r_2.X, vi r_2.Z]) (zs := [vi 0, vi 0, vi 0]) (m := 3) hS118 K2 K0 K12 rfl (mpc rfl mpn) rfl rfl rfl (by kernel_rfl) (by kernel_rfl) rfl) ?_ ?_
         ·rintro _ w_111 ⟨b5, rfl, hS119⟩
          refine ⟨(hS119.se [0, 1, 2]), ?_⟩
          refine rA [21] ?_
          refine rS 36 21 rfl (Ys_append (s := 3) (by' := 24) (i := 5) (nn := ZImages.length) (c := c7) (k := 1) (len := (ZImages ++ [r_2]).length) (B := B7) (xs := ([r_2].flatMap eN0)) (cs' := ((ZImages ++ [r_2]).flatMap eN0)) hS119 K2 K0 K8 K5 rfl (by decide) rfl rfl rfl rfl (fm_lenn (l := ZImages) eN1 rfl) rfl (hS119.c 7) (fm_lenn (l := [r_2]) eN1 rfl) (fm_one' (enc := eN0) eN3 [r_2]) (by have := hap1; omega) (by have := hap1; simp only [maxLen]; omega) (fm_app _ _) (app_len (l := ZImages) (l' := [r_2]) rfl rfl)) ?_ ?_
          ·rintro _ w_112 ⟨B9, c9, rfl, hS120⟩
           refine ⟨(hS120.se [0, 1, 2]), ?_⟩
           refine rA [23] ?_
           refine rZ 23 rfl (yS 3 1 (aD b3) 40 (.slice B8 ((XImages ++ [r_1]).length) c8) [.slice B8 ((XImages ++ [r_1]).length) c8] 1 [vi first.Qubits, .slice B8 ((XImages ++ [r_1]).length) c8, .slice B7 ZImages.length c7] hS120 K1) ?_ ?_
           ·rintro _ w_113 ⟨rfl, hS121⟩
            refine ⟨(hS121.se [0, 1, 2]), ?_⟩
            refine rq 24 38 (v := pt (aD b3) 2) rfl (hS121.se [0, 1, 2]) (fun w' hw' => (yd (aD b3) 0 0 K11 K1 rfl (hf.g 5 3))) ?_
            refine rA [25] ?_
            refine rZ 25 rfl (yS 3 1 (aD b3) 40 (.slice B9 ((ZImages ++ [r_2]).length) c9) [.slice B9 ((ZImages ++ [r_2]).length) c9] 2 [vi first.Qubits, .slice B8 ((XImages ++ [r_1]).length) c8, .slice B9 ((ZImages ++ [r_2]).length) c9] hS121 K1) ?_ ?_
            ·rintro _ w_114 ⟨rfl, hS122⟩
             refine ⟨(hS122.se [0, 1, 2]), ?_⟩
             refine ra_done (by kernel_rfl) ?_
             exact ⟨B8, c8, B9, c9, (fc (hf.g 2 0) (fc (hf.g 3 1) (fc (hf.g 4 2) (fc (hf.g 5 3) (fc (hf.g 11 4) (fc (hf.g 12 5) fn_)))))), (hS122.sel [0, 1, 2, 3, 4, 5] rfl rfl)⟩
            exact aN
           exact aN
          exact aN
         exact aN
        exact aN
       exact aN
      exact aN
     exact aN
    exact aN
   refine ra_y 27 (i := 12) (v := .slice B7 ZImages.length c7) rfl rfl rfl (yl (aD b3) 2 [vi first.Qubits, .slice B6 XImages.length c6, .slice B7 ZImages.length c7] (.slice B7 ZImages.length c7) K6 (hS12.c 3)) (hS12.se [0, 1, 2]) ?_ ?_
   ·skip
    refine rA [1, 8] ?_
    refine ra_y 16 (i := 1) (v := .slice B6 XImages.length c6) rfl rfl rfl (yl (aD b3) 1 [vi first.Qubits, .slice B6 XImages.length c6, .slice B7 ZImages.length c7] (.slice B6 XImages.length c6) K6 (hS12.c 3)) (hS12.se [0, 1, 2]) ?_ ?_
    ·skip
     refine rA [8] ?_
     refine rC 23 8 rfl (yC [.agg #[vi second.Qubits, .slice B2 second.XImages.length c2, .slice B3 second.ZImages.length c3], .agg #[vi x.Phase, vi x.X, vi x.Z]] K29 (c_impl_image second x B2 c2 second.XImages.length B3 c3 second.ZImages.length _ rfl rfl (hS12.inn0 [(true, 2), (true, 3)] rfl) hc)) ?_ ?_
     ·rintro _ w_115 ⟨rfl, hd18⟩
      have hS123 := hS12.out00 hd18
      refine ⟨(hS123.se [0, 1, 2]), ?_⟩
      refine rA [9] ?_
      refine rS 24 9 rfl (Ys_bslice (s := 3) (len := 1) (vs := [(0, .agg #[vi r_1.Phase, vi r_1.X, vi r_1.Z])]) (cs := [vi r_1.Phase, vi r_1.X, vi r_1.Z]) (zs := [vi 0, vi 0, vi 0]) (m := 3) hS123 K2 K0 K12 rfl (mpc rfl mpn) rfl rfl rfl (by kernel_rfl) (by kernel_rfl) rfl) ?_ ?_
      ·rintro _ w_116 ⟨b4, rfl, hS124⟩
       refine ⟨(hS124.se [0, 1, 2]), ?_⟩
       refine rA [10] ?_
       refine rS 25 10 rfl (Ys_append (s := 3) (by' := 24) (i := 4) (nn := XImages.length) (c := c6) (k := 1) (len := (XImages ++ [r_1]).length) (B := B6) (xs := ([r_1].flatMap eN0)) (cs' := ((XImages ++ [r_1]).flatMap eN0)) hS124 K2 K0 K8 K5 rfl (by decide) rfl rfl rfl rfl (fm_lenn (l := XImages) eN1 rfl) rfl (hS124.c 6) (fm_lenn (l := [r_1]) eN1 rfl) (fm_one' (enc := eN0) eN3 [r_1]) (by have := hap; omega) (by have := hap; simp only [maxLen]; omega) (fm_app _ _) (app_len (l := XImages) (l' := [r_1]) rfl rfl)) ?_ ?_
       ·rintro _ w_117 ⟨B8, c8, rfl, hS125⟩
        refine ⟨(hS125.se [0, 1, 2]), ?_⟩
        refine rq 22 37 (v := pt (aD b3) 1) rfl (hS125.se [0, 1, 2]) (fun w' hw' => (yd (aD b3) 0 0 K9 K1 rfl (hf.g 5 3))) ?_
        refine rA [19] ?_
        refine rC 34 19 rfl (yC [.agg #[vi second.Qubits, .slice B2 second.XImages.length c2, .slice B3 second.ZImages.length c3], .agg #[vi x1.Phase, vi x1.X, vi x1.Z]] K29 (c_impl_image second x1 B2 c2 second.XImages.length B3 c3 second.ZImages.length _ rfl rfl (hS125.inn0 [(true, 2), (true, 3)] rfl) hc1)) ?_ ?_
        ·rintro _ w_118 ⟨rfl, hd19⟩
         have hS126 := hS125.out00 hd19
         refine ⟨(hS126.se [0, 1, 2]), ?_⟩
         refine rA [20] ?_
         refine rS 35 20 rfl (Ys_bslice (s := 3) (len := 1) (vs := [(0, .agg #[vi r_2.Phase, vi r_2.X, vi r_2.Z])]) (cs := [vi r_2.Phase, vi r_2.X, vi r_2.Z]) (zs := [vi 0, vi 0, vi 0]) (m := 3) hS126 K2 K0 K12 rfl (mpc rfl mpn) rfl rfl rfl (by kernel_rfl) (by kernel_rfl) rfl) ?_ ?_
         ·rintro _ w_119 ⟨b5, rfl, hS127⟩
          refine ⟨(hS127.se [0, 1, 2]), ?_⟩
          refine rA [21] ?_
          refine rS 36 21 rfl (Ys_append (s := 3) (by' := 24) (i := 5) (nn := ZImages.length) (c := c7) (k := 1) (len := (ZImages ++ [r_2]).length) (B := B7) (xs := ([r_2].flatMap eN0)) (cs' := ((ZImages ++ [r_2]).flatMap eN0)) hS127 K2 K0 K8 K5 rfl (by decide) rfl rfl rfl rfl (fm_lenn (l := ZImages) eN1 rfl) rfl (hS127.c 7) (fm_lenn (l := [r_2]) eN1 rfl) (fm_one' (enc := eN0) eN3 [r_2]) (by have := hap1; omega) (by have := hap1; simp only [maxLen]; omega) (fm_app _ _) (app_len (l := ZImages) (l' := [r_2]) rfl rfl)) ?_ ?_
          ·rintro _ w_120 ⟨B9, c9, rfl, hS128⟩
           have hS128 : ST w0 [] _ [⟨aD b, 40, [vi first.Qubits, .slice B first.XImages.length c, .slice B1 first.ZImages.length c1], 3⟩, ⟨aD b1, 40, [vi second.Qubits, .slice B2 second.XImages.length c2, .slice B3 second.ZImages.length c3], 3⟩, ⟨aD b2, 40, [vi 0, .slice none 0 0, .slice none 0 0], 3⟩, ⟨aD b3, 40, [vi first.Qubits, .slice B6 XImages.length c6, .slice B7 ZImages.length c7], 3⟩, ⟨B8, 71, ((XImages ++ [r_1]).flatMap eN0), c8 * 3⟩, ⟨B9, 71, ((ZImages ++ [r_2]).flatMap eN0), c9 * 3⟩, ⟨aD b4, 71, ([r_1].flatMap eN0), 1 * 3⟩, ⟨aD b5, 71, ([r_2].flatMap eN0), 1 * 3⟩] [⟨B, (first.XImages.flatMap eN0)⟩, ⟨B1, (first.ZImages.flatMap eN0)⟩, ⟨B2, (second.XImages.flatMap eN0)⟩, ⟨B3, (second.ZImages.flatMap eN0)⟩] := hS128
           refine ⟨(hS128.se [0, 1, 2]), ?_⟩
           refine rA [23] ?_
           refine rZ 23 rfl (yS 3 1 (aD b3) 40 (.slice B8 ((XImages ++ [r_1]).length) c8) [.slice B8 ((XImages ++ [r_1]).length) c8] 1 [vi first.Qubits, .slice B8 ((XImages ++ [r_1]).length) c8, .slice B7 ZImages.length c7] hS128 K1) ?_ ?_
           ·rintro _ w_121 ⟨rfl, hS129⟩
            refine ⟨(hS129.se [0, 1, 2]), ?_⟩
            refine rq 24 38 (v := pt (aD b3) 2) rfl (hS129.se [0, 1, 2]) (fun w' hw' => (yd (aD b3) 0 0 K11 K1 rfl (hf.g 5 3))) ?_
            refine rA [25] ?_
            refine rZ 25 rfl (yS 3 1 (aD b3) 40 (.slice B9 ((ZImages ++ [r_2]).length) c9) [.slice B9 ((ZImages ++ [r_2]).length) c9] 2 [vi first.Qubits, .slice B8 ((XImages ++ [r_1]).length) c8, .slice B9 ((ZImages ++ [r_2]).length) c9] hS129 K1) ?_ ?_
            ·rintro _ w_122 ⟨rfl, hS130⟩
             refine ⟨(hS130.se [0, 1, 2]), ?_⟩
             refine ra_done (by kernel_rfl) ?_
             exact ⟨B8, c8, B9, c9, (fc (hf.g 2 0) (fc (hf.g 3 1) (fc (hf.g 4 2) (fc (hf.g 5 3) (fc (hf.g 11 4) (fc (hf.g 12 5) fn_)))))), (hS130.sel [0, 1, 2, 3, 4, 5] rfl rfl)⟩
            exact aN
           exact aN
          exact aN
         exact aN
        exact aN
       exact aN
      exact aN
     exact aN
    refine rC 23 8 rfl (yC [.agg #[vi second.Qubits, .slice B2 second.XImages.length c2, .slice B3 second.ZImages.length c3], .agg #[vi x.Phase, vi x.X, vi x.Z]] K29 (c_impl_image second x B2 c2 second.XImages.length B3 c3 second.ZImages.length _ rfl rfl (hS12.inn0 [(true, 2), (true, 3)] rfl) hc)) ?_ ?_
    ·rintro _ w_123 ⟨rfl, hd20⟩
     have hS131 := hS12.out00 hd20
     refine ⟨(hS131.se [0, 1, 2]), ?_⟩
     refine rA [1, 9] ?_
     refine ra_y 16 (i := 1) (v := .slice B6 XImages.length c6) rfl rfl rfl (yl (aD b3) 1 [vi first.Qubits, .slice B6 XImages.length c6, .slice B7 ZImages.length c7] (.slice B6 XImages.length c6) K6 (hS131.c 3)) (hS131.se [0, 1, 2]) ?_ ?_
     ·skip
      refine rA [9] ?_
      refine rS 24 9 rfl (Ys_bslice (s := 3) (len := 1) (vs := [(0, .agg #[vi r_1.Phase, vi r_1.X, vi r_1.Z])]) (cs := [vi r_1.Phase, vi r_1.X, vi r_1.Z]) (zs := [vi 0, vi 0, vi 0]) (m := 3) hS131 K2 K0 K12 rfl (mpc rfl mpn) rfl rfl rfl (by kernel_rfl) (by kernel_rfl) rfl) ?_ ?_
      ·rintro _ w_124 ⟨b4, rfl, hS132⟩
       refine ⟨(hS132.se [0, 1, 2]), ?_⟩
       refine rA [10] ?_
       refine rS 25 10 rfl (Ys_append (s := 3) (by' := 24) (i := 4) (nn := XImages.length) (c := c6) (k := 1) (len := (XImages ++ [r_1]).length) (B := B6) (xs := ([r_1].flatMap eN0)) (cs' := ((XImages ++ [r_1]).flatMap eN0)) hS132 K2 K0 K8 K5 rfl (by decide) rfl rfl rfl rfl (fm_lenn (l := XImages) eN1 rfl) rfl (hS132.c 6) (fm_lenn (l := [r_1]) eN1 rfl) (fm_one' (enc := eN0) eN3 [r_1]) (by have := hap; omega) (by have := hap; simp only [maxLen]; omega) (fm_app _ _) (app_len (l := XImages) (l' := [r_1]) rfl rfl)) ?_ ?_
       ·rintro _ w_125 ⟨B8, c8, rfl, hS133⟩
        refine ⟨(hS133.se [0, 1, 2]), ?_⟩
        refine rq 22 37 (v := pt (aD b3) 1) rfl (hS133.se [0, 1, 2]) (fun w' hw' => (yd (aD b3) 0 0 K9 K1 rfl (hf.g 5 3))) ?_
        refine rA [19] ?_
        refine rC 34 19 rfl (yC [.agg #[vi second.Qubits, .slice B2 second.XImages.length c2, .slice B3 second.ZImages.length c3], .agg #[vi x1.Phase, vi x1.X, vi x1.Z]] K29 (c_impl_image second x1 B2 c2 second.XImages.length B3 c3 second.ZImages.length _ rfl rfl (hS133.inn0 [(true, 2), (true, 3)] rfl) hc1)) ?_ ?_
        ·rintro _ w_126 ⟨rfl, hd21⟩
         have hS134 := hS133.out00 hd21
         refine ⟨(hS134.se [0, 1, 2]), ?_⟩
         refine rA [20] ?_
         refine rS 35 20 rfl (Ys_bslice (s := 3) (len := 1) (vs := [(0, .agg #[vi r_2.Phase, vi r_2.X, vi r_2.Z])]) (cs := [vi r_2.Phase, vi r_2.X, vi r_2.Z]) (zs := [vi 0, vi 0, vi 0]) (m := 3) hS134 K2 K0 K12 rfl (mpc rfl mpn) rfl rfl rfl (by kernel_rfl) (by kernel_rfl) rfl) ?_ ?_
         ·rintro _ w_127 ⟨b5, rfl, hS135⟩
          refine ⟨(hS135.se [0, 1, 2]), ?_⟩
          refine rA [21] ?_
          refine rS 36 21 rfl (Ys_append (s := 3) (by' := 24) (i := 5) (nn := ZImages.length) (c := c7) (k := 1) (len := (ZImages ++ [r_2]).length) (B := B7) (xs := ([r_2].flatMap eN0)) (cs' := ((ZImages ++ [r_2]).flatMap eN0)) hS135 K2 K0 K8 K5 rfl (by decide) rfl rfl rfl rfl (fm_lenn (l := ZImages) eN1 rfl) rfl (hS135.c 7) (fm_lenn (l := [r_2]) eN1 rfl) (fm_one' (enc := eN0) eN3 [r_2]) (by have := hap1; omega) (by have := hap1; simp only [maxLen]; omega) (fm_app _ _) (app_len (l := ZImages) (l' := [r_2]) rfl rfl)) ?_ ?_
          ·rintro _ w_128 ⟨B9, c9, rfl, hS136⟩
           refine ⟨(hS136.se [0, 1, 2]), ?_⟩
           refine rA [23] ?_
           refine rZ 23 rfl (yS 3 1 (aD b3) 40 (.slice B8 ((XImages ++ [r_1]).length) c8) [.slice B8 ((XImages ++ [r_1]).length) c8] 1 [vi first.Qubits, .slice B8 ((XImages ++ [r_1]).length) c8, .slice B7 ZImages.length c7] hS136 K1) ?_ ?_
           ·rintro _ w_129 ⟨rfl, hS137⟩
            refine ⟨(hS137.se [0, 1, 2]), ?_⟩
            refine rq 24 38 (v := pt (aD b3) 2) rfl (hS137.se [0, 1, 2]) (fun w' hw' => (yd (aD b3) 0 0 K11 K1 rfl (hf.g 5 3))) ?_
            refine rA [25] ?_
            refine rZ 25 rfl (yS 3 1 (aD b3) 40 (.slice B9 ((ZImages ++ [r_2]).length) c9) [.slice B9 ((ZImages ++ [r_2]).length) c9] 2 [vi first.Qubits, .slice B8 ((XImages ++ [r_1]).length) c8, .slice B9 ((ZImages ++ [r_2]).length) c9] hS137 K1) ?_ ?_
            ·rintro _ w_130 ⟨rfl, hS138⟩
             refine ⟨(hS138.se [0, 1, 2]), ?_⟩
             refine ra_done (by kernel_rfl) ?_
             exact ⟨B8, c8, B9, c9, (fc (hf.g 2 0) (fc (hf.g 3 1) (fc (hf.g 4 2) (fc (hf.g 5 3) (fc (hf.g 11 4) (fc (hf.g 12 5) fn_)))))), (hS138.sel [0, 1, 2, 3, 4, 5] rfl rfl)⟩
            exact aN
           exact aN
          exact aN
         exact aN
        exact aN
       exact aN
      exact aN
     refine rS 24 9 rfl (Ys_bslice (s := 3) (len := 1) (vs := [(0, .agg #[vi r_1.Phase, vi r_1.X, vi r_1.Z])]) (cs := [vi r_1.Phase, vi r_1.X, vi r_1.Z]) (zs := [vi 0, vi 0, vi 0]) (m := 3) hS131 K2 K0 K12 rfl (mpc rfl mpn) rfl rfl rfl (by kernel_rfl) (by kernel_rfl) rfl) ?_ ?_
     ·rintro _ w_131 ⟨b4, rfl, hS139⟩
      refine ⟨(hS139.se [0, 1, 2]), ?_⟩
      refine rA [1] ?_
      refine ra_y 16 (i := 1) (v := .slice B6 XImages.length c6) rfl rfl rfl (yl (aD b3) 1 [vi first.Qubits, .slice B6 XImages.length c6, .slice B7 ZImages.length c7] (.slice B6 XImages.length c6) K6 (hS139.c 3)) (hS139.se [0, 1, 2]) ?_ ?_
      ·skip
       refine rA [10] ?_
       refine rS 25 10 rfl (Ys_append (s := 3) (by' := 24) (i := 4) (nn := XImages.length) (c := c6) (k := 1) (len := (XImages ++ [r_1]).length) (B := B6) (xs := ([r_1].flatMap eN0)) (cs' := ((XImages ++ [r_1]).flatMap eN0)) hS139 K2 K0 K8 K5 rfl (by decide) rfl rfl rfl rfl (fm_lenn (l := XImages) eN1 rfl) rfl (hS139.c 6) (fm_lenn (l := [r_1]) eN1 rfl) (fm_one' (enc := eN0) eN3 [r_1]) (by have := hap; omega) (by have := hap; simp only [maxLen]; omega) (fm_app _ _) (app_len (l := XImages) (l' := [r_1]) rfl rfl)) ?_ ?_
       ·rintro _ w_132 ⟨B8, c8, rfl, hS140⟩
        refine ⟨(hS140.se [0, 1, 2]), ?_⟩
        refine rq 22 37 (v := pt (aD b3) 1) rfl (hS140.se [0, 1, 2]) (fun w' hw' => (yd (aD b3) 0 0 K9 K1 rfl (hf.g 5 3))) ?_
        refine rA [19] ?_
        refine rC 34 19 rfl (yC [.agg #[vi second.Qubits, .slice B2 second.XImages.length c2, .slice B3 second.ZImages.length c3], .agg #[vi x1.Phase, vi x1.X, vi x1.Z]] K29 (c_impl_image second x1 B2 c2 second.XImages.length B3 c3 second.ZImages.length _ rfl rfl (hS140.inn0 [(true, 2), (true, 3)] rfl) hc1)) ?_ ?_
        ·rintro _ w_133 ⟨rfl, hd22⟩
         have hS141 := hS140.out00 hd22
         refine ⟨(hS141.se [0, 1, 2]), ?_⟩
         refine rA [20] ?_
         refine rS 35 20 rfl (Ys_bslice (s := 3) (len := 1) (vs := [(0, .agg #[vi r_2.Phase, vi r_2.X, vi r_2.Z])]) (cs := [vi r_2.Phase, vi r_2.X, vi r_2.Z]) (zs := [vi 0, vi 0, vi 0]) (m := 3) hS141 K2 K0 K12 rfl (mpc rfl mpn) rfl rfl rfl (by kernel_rfl) (by kernel_rfl) rfl) ?_ ?_
         ·rintro _ w_134 ⟨b5, rfl, hS142⟩
          refine ⟨(hS142.se [0, 1, 2]), ?_⟩
          refine rA [21] ?_
          refine rS 36 21 rfl (Ys_append (s := 3) (by' := 24) (i := 5) (nn := ZImages.length) (c := c7) (k := 1) (len := (ZImages ++ [r_2]).length) (B := B7) (xs := ([r_2].flatMap eN0)) (cs' := ((ZImages ++ [r_2]).flatMap eN0)) hS142 K2 K0 K8 K5 rfl (by decide) rfl rfl rfl rfl (fm_lenn (l := ZImages) eN1 rfl) rfl (hS142.c 7) (fm_lenn (l := [r_2]) eN1 rfl) (fm_one' (enc := eN0) eN3 [r_2]) (by have := hap1; omega) (by have := hap1; simp only [maxLen]; omega) (fm_app _ _) (app_len (l := ZImages) (l' := [r_2]) rfl rfl)) ?_ ?_
          ·rintro _ w_135 ⟨B9, c9, rfl, hS143⟩
           refine ⟨(hS143.se [0, 1, 2]), ?_⟩
           refine rA [23] ?_
           refine rZ 23 rfl (yS 3 1 (aD b3) 40 (.slice B8 ((XImages ++ [r_1]).length) c8) [.slice B8 ((XImages ++ [r_1]).length) c8] 1 [vi first.Qubits, .slice B8 ((XImages ++ [r_1]).length) c8, .slice B7 ZImages.length c7] hS143 K1) ?_ ?_
           ·rintro _ w_136 ⟨rfl, hS144⟩
            refine ⟨(hS144.se [0, 1, 2]), ?_⟩
            refine rq 24 38 (v := pt (aD b3) 2) rfl (hS144.se [0, 1, 2]) (fun w' hw' => (yd (aD b3) 0 0 K11 K1 rfl (hf.g 5 3))) ?_
            refine rA [25] ?_
            refine rZ 25 rfl (yS 3 1 (aD b3) 40 (.slice B9 ((ZImages ++ [r_2]).length) c9) [.slice B9 ((ZImages ++ [r_2]).length) c9] 2 [vi first.Qubits, .slice B8 ((XImages ++ [r_1]).length) c8, .slice B9 ((ZImages ++ [r_2]).length) c9] hS144 K1) ?_ ?_
            ·rintro _ w_137 ⟨rfl, hS145⟩
             refine ⟨(hS145.se [0, 1, 2]), ?_⟩
             refine ra_done (by kernel_rfl) ?_
             exact ⟨B8, c8, B9, c9, (fc (hf.g 2 0) (fc (hf.g 3 1) (fc (hf.g 4 2) (fc (hf.g 5 3) (fc (hf.g 11 4) (fc (hf.g 12 5) fn_)))))), (hS145.sel [0, 1, 2, 3, 4, 5] rfl rfl)⟩
            exact aN
           exact aN
          exact aN
         exact aN
        exact aN
       exact aN
      exact aN
     exact aN
    exact aN
   exact aN
  rintro f w ⟨B10, c10, B11, c11, hf1, hS11⟩
  refine cr ?_
  refine sQ 39 (yP (i : Int) 1 rfl (hf1.g 12 5)) <| sQ 12 (ym (vi (i64.wrap ((i : Int) + 1)))) (rn ?_)
  obtain rfl := sI hb
  exact ⟨K7, Nat.lt_succ_self _, i + 1, (XImages ++ [r_1]), (ZImages ++ [r_2]), B10, c10, B11, c11, (fc (hf1.g 2 0) (fc (hf1.g 3 1) (fc (hf1.g 4 2) (fc (hf1.g 5 3) (fc (hf1.g 11 4) (fc (congrArg (Value.int .i64) (wr_succ hlt1 hN)) fn_)))))), (hS11.sel [0, 1, 2, 3, 4, 5] rfl rfl), (by omega), hL1⟩
 ·skip
  obtain rfl : k_ = 0 := by have h := of_decide_eq_false hlt; omega
  refine cw_exit rfl ?_
  obtain rfl := sI hL
  refine cq (cr ?_)
  refine sQ 40 (yb (aD b3) 0 [vi first.Qubits, .slice B6 XImages.length c6, .slice B7 ZImages.length c7] K20 K10 (hS6.c 3) rfl (hf.g 5 3)) ?_
  refine s0 (yT 2 3 (aD b2) 40 (.agg #[vi first.Qubits, .slice B6 XImages.length c6, .slice B7 ZImages.length c7]) [vi first.Qubits, .slice B6 XImages.length c6, .slice B7 ZImages.length c7] 0 hS6 K10 rfl (hf.g 4 2)) ?_
  rintro _ w_138 ⟨rfl, hS146⟩
  refine rn (ct_ ?_)
  obtain rfl := sI hF1
  exact ret1 Try.results29 (v1 := .agg #[vi first.Qubits, .slice B6 XImages.length c6, .slice B7 ZImages.length c7]) (resAt_cellA (B := aD b2) (i := 0) (cs := [vi first.Qubits, .slice B6 XImages.length c6, .slice B7 ZImages.length c7]) (vs := [vi first.Qubits, .slice B6 XImages.length c6, .slice B7 ZImages.length c7]) (hf.g 4 2) K20 K10 (hS146.c 2) rfl rfl) ⟨B6, c6, B7, c7, rfl, (hS146.sN [4, 5])⟩
end Go.VK
