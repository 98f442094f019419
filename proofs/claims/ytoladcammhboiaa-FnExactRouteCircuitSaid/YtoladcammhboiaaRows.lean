/-
  No cell of these rows narrows 'for every input' (looked for: loops, veiled, ifaces, maps, wideKeys, modest, calm, conditions, laid).
  DERIVED. THE GIVEN ROWS OF THIS SEAT. 10 by the template 'for every input the law returns true; each argument reads behind the call as it read before'; 0 by the template 'total and deterministic' (their statements: YtoladcammhboiaaTotals.lean).
  GIVEN WITH THE SEED: the statements are not yours to turn. If you find one false, say at which input.
  Laid BY PROGRAM, IN A SANDBOX (cutbox-rows.mjs): the forced cells as the released guide's own fill.sh prints them over the translation 5db12b644dcb2603… (all of the seat's roots in one cut). By AI agents, Wed Nov 11 2026. No macro, syntax, notation, axiom, sorry.
-/
import Derived.Test.YtoladcammhboiaaChecked
import GoSem.Claim
import GoSem.ClaimJoined
import GoSem.ClaimMapViews
import Derived.JoinedTies
import Derived.KernelRfl
namespace Go.Proofs.Ytoladcammhboiaa
/- THE CELL 'sum', in the pinned program and in every row, IS THE sha256 OF THE DUMP (.gsa) THAT YtoladcammhboiaaProg.lean LOADS. Nothing in Lean hashes anything: it is a label: what it is worth is what the hold of that sum in a sandbox is worth. -/
noncomputable def Try.pinned : Pinned := { name := "ytoladcammhboiaa", sum := "5db12b644dcb2603062a63f57994af508f6d7d22b8d4b0c163e53000dbb52b8b", checked := Try.checked }
namespace Rows
def none {H : Type} : Left H := { results := [], args := [] }

/-- 'laws.FnExactParityOf': WHATEVER THE INPUT: true; the input reads as it did. -/
def fnExactParityOfSpec : ChangeSpec := { name := "fnExactParityOf", fn := fun _ => fun
  | [d] => { results := [.lit (.bool true)], args := [d] }
  | _ => none }
def fnExactParityOfRow : OpenClaim := { program := "ytoladcammhboiaa", sum := "5db12b644dcb2603062a63f57994af508f6d7d22b8d4b0c163e53000dbb52b8b", func := "loop.example/g00864/laws.FnExactParityOf", spec := "fnExactParityOf", unfollowed := true, recurses := true, apart := false }
def FnExactParityOfSaid : Prop := fnExactParityOfRow.holds Try.pinned (OpenSpec.ofChange fnExactParityOfSpec)

/-- ITS FALSE NEIGHBOUR: 'it returns false'. Refute it at one input. -/
def fnExactParityOfWrong : ChangeSpec := { name := "fnExactParityOf", fn := fun _ => fun
  | [d] => { results := [.lit (.bool false)], args := [d] }
  | _ => none }
def FnExactParityOfWrongFalsely : Prop := fnExactParityOfRow.holds Try.pinned (OpenSpec.ofChange fnExactParityOfWrong)

/-- 'laws.FnExactPauliMatrix': WHATEVER THE INPUT: true; the input reads as it did. -/
def fnExactPauliMatrixSpec : ChangeSpec := { name := "fnExactPauliMatrix", fn := fun _ => fun
  | [d1, d2] => { results := [.lit (.bool true)], args := [d1, d2] }
  | _ => none }
def fnExactPauliMatrixRow : OpenClaim := { program := "ytoladcammhboiaa", sum := "5db12b644dcb2603062a63f57994af508f6d7d22b8d4b0c163e53000dbb52b8b", func := "loop.example/g00864/laws.FnExactPauliMatrix", spec := "fnExactPauliMatrix", unfollowed := true, recurses := true, apart := false }
def FnExactPauliMatrixSaid : Prop := fnExactPauliMatrixRow.holds Try.pinned (OpenSpec.ofChange fnExactPauliMatrixSpec)

/-- ITS FALSE NEIGHBOUR: 'it returns false'. Refute it at one input. -/
def fnExactPauliMatrixWrong : ChangeSpec := { name := "fnExactPauliMatrix", fn := fun _ => fun
  | [d1, d2] => { results := [.lit (.bool false)], args := [d1, d2] }
  | _ => none }
def FnExactPauliMatrixWrongFalsely : Prop := fnExactPauliMatrixRow.holds Try.pinned (OpenSpec.ofChange fnExactPauliMatrixWrong)

/-- 'laws.FnMatrices': WHATEVER THE INPUT: true; the input reads as it did. -/
def fnMatricesSpec : ChangeSpec := { name := "fnMatrices", fn := fun _ => fun
  | [d1, d2] => { results := [.lit (.bool true)], args := [d1, d2] }
  | _ => none }
def fnMatricesRow : OpenClaim := { program := "ytoladcammhboiaa", sum := "5db12b644dcb2603062a63f57994af508f6d7d22b8d4b0c163e53000dbb52b8b", func := "loop.example/g00864/laws.FnMatrices", spec := "fnMatrices", unfollowed := true, recurses := true, apart := false }
def FnMatricesSaid : Prop := fnMatricesRow.holds Try.pinned (OpenSpec.ofChange fnMatricesSpec)

/-- ITS FALSE NEIGHBOUR: 'it returns false'. Refute it at one input. -/
def fnMatricesWrong : ChangeSpec := { name := "fnMatrices", fn := fun _ => fun
  | [d1, d2] => { results := [.lit (.bool false)], args := [d1, d2] }
  | _ => none }
def FnMatricesWrongFalsely : Prop := fnMatricesRow.holds Try.pinned (OpenSpec.ofChange fnMatricesWrong)

/-- 'laws.FnPhaseAlgebra': WHATEVER THE INPUT: true; the input reads as it did. -/
def fnPhaseAlgebraSpec : ChangeSpec := { name := "fnPhaseAlgebra", fn := fun _ => fun
  | [d1, d2] => { results := [.lit (.bool true)], args := [d1, d2] }
  | _ => none }
def fnPhaseAlgebraRow : OpenClaim := { program := "ytoladcammhboiaa", sum := "5db12b644dcb2603062a63f57994af508f6d7d22b8d4b0c163e53000dbb52b8b", func := "loop.example/g00864/laws.FnPhaseAlgebra", spec := "fnPhaseAlgebra", unfollowed := true, recurses := true, apart := false }
def FnPhaseAlgebraSaid : Prop := fnPhaseAlgebraRow.holds Try.pinned (OpenSpec.ofChange fnPhaseAlgebraSpec)

/-- ITS FALSE NEIGHBOUR: 'it returns false'. Refute it at one input. -/
def fnPhaseAlgebraWrong : ChangeSpec := { name := "fnPhaseAlgebra", fn := fun _ => fun
  | [d1, d2] => { results := [.lit (.bool false)], args := [d1, d2] }
  | _ => none }
def FnPhaseAlgebraWrongFalsely : Prop := fnPhaseAlgebraRow.holds Try.pinned (OpenSpec.ofChange fnPhaseAlgebraWrong)

/-- 'laws.FnEqualPhases': WHATEVER THE INPUT: true; the input reads as it did. -/
def fnEqualPhasesSpec : ChangeSpec := { name := "fnEqualPhases", fn := fun _ => fun
  | [d1, d2] => { results := [.lit (.bool true)], args := [d1, d2] }
  | _ => none }
def fnEqualPhasesRow : OpenClaim := { program := "ytoladcammhboiaa", sum := "5db12b644dcb2603062a63f57994af508f6d7d22b8d4b0c163e53000dbb52b8b", func := "loop.example/g00864/laws.FnEqualPhases", spec := "fnEqualPhases", unfollowed := true, recurses := true, apart := false }
def FnEqualPhasesSaid : Prop := fnEqualPhasesRow.holds Try.pinned (OpenSpec.ofChange fnEqualPhasesSpec)

/-- ITS FALSE NEIGHBOUR: 'it returns false'. Refute it at one input. -/
def fnEqualPhasesWrong : ChangeSpec := { name := "fnEqualPhases", fn := fun _ => fun
  | [d1, d2] => { results := [.lit (.bool false)], args := [d1, d2] }
  | _ => none }
def FnEqualPhasesWrongFalsely : Prop := fnEqualPhasesRow.holds Try.pinned (OpenSpec.ofChange fnEqualPhasesWrong)

/-- 'laws.FnExactCheckRoute': WHATEVER THE INPUT: true; the input reads as it did. -/
def fnExactCheckRouteSpec : ChangeSpec := { name := "fnExactCheckRoute", fn := fun _ => fun
  | [d1, d2, d3] => { results := [.lit (.bool true)], args := [d1, d2, d3] }
  | _ => none }
def fnExactCheckRouteRow : OpenClaim := { program := "ytoladcammhboiaa", sum := "5db12b644dcb2603062a63f57994af508f6d7d22b8d4b0c163e53000dbb52b8b", func := "loop.example/g00864/laws.FnExactCheckRoute", spec := "fnExactCheckRoute", unfollowed := true, recurses := true, apart := false }
def FnExactCheckRouteSaid : Prop := fnExactCheckRouteRow.holds Try.pinned (OpenSpec.ofChange fnExactCheckRouteSpec)

/-- ITS FALSE NEIGHBOUR: 'it returns false'. Refute it at one input. -/
def fnExactCheckRouteWrong : ChangeSpec := { name := "fnExactCheckRoute", fn := fun _ => fun
  | [d1, d2, d3] => { results := [.lit (.bool false)], args := [d1, d2, d3] }
  | _ => none }
def FnExactCheckRouteWrongFalsely : Prop := fnExactCheckRouteRow.holds Try.pinned (OpenSpec.ofChange fnExactCheckRouteWrong)

/-- 'laws.FnExactFinalPlacement': WHATEVER THE INPUT: true; the input reads as it did. -/
def fnExactFinalPlacementSpec : ChangeSpec := { name := "fnExactFinalPlacement", fn := fun _ => fun
  | [d1, d2, d3] => { results := [.lit (.bool true)], args := [d1, d2, d3] }
  | _ => none }
def fnExactFinalPlacementRow : OpenClaim := { program := "ytoladcammhboiaa", sum := "5db12b644dcb2603062a63f57994af508f6d7d22b8d4b0c163e53000dbb52b8b", func := "loop.example/g00864/laws.FnExactFinalPlacement", spec := "fnExactFinalPlacement", unfollowed := true, recurses := true, apart := false }
def FnExactFinalPlacementSaid : Prop := fnExactFinalPlacementRow.holds Try.pinned (OpenSpec.ofChange fnExactFinalPlacementSpec)

/-- ITS FALSE NEIGHBOUR: 'it returns false'. Refute it at one input. -/
def fnExactFinalPlacementWrong : ChangeSpec := { name := "fnExactFinalPlacement", fn := fun _ => fun
  | [d1, d2, d3] => { results := [.lit (.bool false)], args := [d1, d2, d3] }
  | _ => none }
def FnExactFinalPlacementWrongFalsely : Prop := fnExactFinalPlacementRow.holds Try.pinned (OpenSpec.ofChange fnExactFinalPlacementWrong)

/-- 'laws.FnExactRouteCircuit': WHATEVER THE INPUT: true; the input reads as it did. -/
def fnExactRouteCircuitSpec : ChangeSpec := { name := "fnExactRouteCircuit", fn := fun _ => fun
  | [d1, d2, d3] => { results := [.lit (.bool true)], args := [d1, d2, d3] }
  | _ => none }
def fnExactRouteCircuitRow : OpenClaim := { program := "ytoladcammhboiaa", sum := "5db12b644dcb2603062a63f57994af508f6d7d22b8d4b0c163e53000dbb52b8b", func := "loop.example/g00864/laws.FnExactRouteCircuit", spec := "fnExactRouteCircuit", unfollowed := true, recurses := true, apart := false }
def FnExactRouteCircuitSaid : Prop := fnExactRouteCircuitRow.holds Try.pinned (OpenSpec.ofChange fnExactRouteCircuitSpec)

/-- ITS FALSE NEIGHBOUR: 'it returns false'. Refute it at one input. -/
def fnExactRouteCircuitWrong : ChangeSpec := { name := "fnExactRouteCircuit", fn := fun _ => fun
  | [d1, d2, d3] => { results := [.lit (.bool false)], args := [d1, d2, d3] }
  | _ => none }
def FnExactRouteCircuitWrongFalsely : Prop := fnExactRouteCircuitRow.holds Try.pinned (OpenSpec.ofChange fnExactRouteCircuitWrong)

/-- 'laws.FnExactSynthesizeClifford': WHATEVER THE INPUT: true; the input reads as it did. -/
def fnExactSynthesizeCliffordSpec : ChangeSpec := { name := "fnExactSynthesizeClifford", fn := fun _ => fun
  | [d] => { results := [.lit (.bool true)], args := [d] }
  | _ => none }
def fnExactSynthesizeCliffordRow : OpenClaim := { program := "ytoladcammhboiaa", sum := "5db12b644dcb2603062a63f57994af508f6d7d22b8d4b0c163e53000dbb52b8b", func := "loop.example/g00864/laws.FnExactSynthesizeClifford", spec := "fnExactSynthesizeClifford", unfollowed := true, recurses := true, apart := false }
def FnExactSynthesizeCliffordSaid : Prop := fnExactSynthesizeCliffordRow.holds Try.pinned (OpenSpec.ofChange fnExactSynthesizeCliffordSpec)

/-- ITS FALSE NEIGHBOUR: 'it returns false'. Refute it at one input. -/
def fnExactSynthesizeCliffordWrong : ChangeSpec := { name := "fnExactSynthesizeClifford", fn := fun _ => fun
  | [d] => { results := [.lit (.bool false)], args := [d] }
  | _ => none }
def FnExactSynthesizeCliffordWrongFalsely : Prop := fnExactSynthesizeCliffordRow.holds Try.pinned (OpenSpec.ofChange fnExactSynthesizeCliffordWrong)

/-- 'laws.FnExactNormalizeClifford': WHATEVER THE INPUT: true; the input reads as it did. -/
def fnExactNormalizeCliffordSpec : ChangeSpec := { name := "fnExactNormalizeClifford", fn := fun _ => fun
  | [d] => { results := [.lit (.bool true)], args := [d] }
  | _ => none }
def fnExactNormalizeCliffordRow : OpenClaim := { program := "ytoladcammhboiaa", sum := "5db12b644dcb2603062a63f57994af508f6d7d22b8d4b0c163e53000dbb52b8b", func := "loop.example/g00864/laws.FnExactNormalizeClifford", spec := "fnExactNormalizeClifford", unfollowed := true, recurses := true, apart := false }
def FnExactNormalizeCliffordSaid : Prop := fnExactNormalizeCliffordRow.holds Try.pinned (OpenSpec.ofChange fnExactNormalizeCliffordSpec)

/-- ITS FALSE NEIGHBOUR: 'it returns false'. Refute it at one input. -/
def fnExactNormalizeCliffordWrong : ChangeSpec := { name := "fnExactNormalizeClifford", fn := fun _ => fun
  | [d] => { results := [.lit (.bool false)], args := [d] }
  | _ => none }
def FnExactNormalizeCliffordWrongFalsely : Prop := fnExactNormalizeCliffordRow.holds Try.pinned (OpenSpec.ofChange fnExactNormalizeCliffordWrong)

/- THE SECOND FORM. 'bulk': how many values and letters a reading holds, each counted each time it is reached (what is shared counts as often as it is met; a slice's spare places count too). A statement '..UptoSaid' is the law's where the arguments, and the package variables that the reading takes, are together of bulk at most 1048576: NARROWER than '..Said'. Prove '..Said' where nothing that the law and all that it calls make is longer than what came in: it says more and counts as full. Else prove '..UptoSaid'. A law counts once. -/
mutual
def uptoBulk {H : Type} : DataW H → Nat
  | .lit (.string bytes) => bytes.length + 1
  | .lit _ => 1
  | .nil => 1
  | .ptr d => uptoBulk d + 1
  | .slice elems spare => uptoBulkAll elems + uptoBulkAll spare + 1
  | .agg parts => uptoBulkAll parts + 1
  | .iface _ d => uptoBulk d + 1
  | .map entries => uptoBulkEntries entries + 1
  | .held _ => 1
def uptoBulkAll {H : Type} : List (DataW H) → Nat
  | [] => 0
  | d :: r => uptoBulk d + uptoBulkAll r
def uptoBulkEntries {H : Type} : List (Lit × DataW H) → Nat
  | [] => 0
  | x :: r => uptoBulkEntry x + uptoBulkEntries r
def uptoBulkEntry {H : Type} : Lit × DataW H → Nat
  | (.string bytes, d) => bytes.length + uptoBulk d + 1
  | (_, d) => uptoBulk d + 1
 end
def uptoSmall : (H : Type) → List (DataW H) → Bool := fun _ ds => decide (uptoBulkAll ds ≤ 1048576)
def OpenSpec.upto (s : _root_.Go.ChangeSpec) : _root_.Go.OpenSpec := { _root_.Go.OpenSpec.ofChange s with cond := some uptoSmall }

/-- 'laws.FnExactParityOf', WHERE WHAT IT READS IS OF BULK AT MOST 1048576: true; the input reads as it did. -/
def fnExactParityOfUptoRow : OpenClaim := { program := "ytoladcammhboiaa", sum := "5db12b644dcb2603062a63f57994af508f6d7d22b8d4b0c163e53000dbb52b8b", func := "loop.example/g00864/laws.FnExactParityOf", spec := "fnExactParityOf", unfollowed := true, recurses := true, apart := false, narrowed := true }
def FnExactParityOfUptoSaid : Prop := fnExactParityOfUptoRow.holds Try.pinned (OpenSpec.upto fnExactParityOfSpec)

/-- 'laws.FnExactPauliMatrix', WHERE WHAT IT READS IS OF BULK AT MOST 1048576: true; the input reads as it did. -/
def fnExactPauliMatrixUptoRow : OpenClaim := { program := "ytoladcammhboiaa", sum := "5db12b644dcb2603062a63f57994af508f6d7d22b8d4b0c163e53000dbb52b8b", func := "loop.example/g00864/laws.FnExactPauliMatrix", spec := "fnExactPauliMatrix", unfollowed := true, recurses := true, apart := false, narrowed := true }
def FnExactPauliMatrixUptoSaid : Prop := fnExactPauliMatrixUptoRow.holds Try.pinned (OpenSpec.upto fnExactPauliMatrixSpec)

/-- 'laws.FnMatrices', WHERE WHAT IT READS IS OF BULK AT MOST 1048576: true; the input reads as it did. -/
def fnMatricesUptoRow : OpenClaim := { program := "ytoladcammhboiaa", sum := "5db12b644dcb2603062a63f57994af508f6d7d22b8d4b0c163e53000dbb52b8b", func := "loop.example/g00864/laws.FnMatrices", spec := "fnMatrices", unfollowed := true, recurses := true, apart := false, narrowed := true }
def FnMatricesUptoSaid : Prop := fnMatricesUptoRow.holds Try.pinned (OpenSpec.upto fnMatricesSpec)

/-- 'laws.FnPhaseAlgebra', WHERE WHAT IT READS IS OF BULK AT MOST 1048576: true; the input reads as it did. -/
def fnPhaseAlgebraUptoRow : OpenClaim := { program := "ytoladcammhboiaa", sum := "5db12b644dcb2603062a63f57994af508f6d7d22b8d4b0c163e53000dbb52b8b", func := "loop.example/g00864/laws.FnPhaseAlgebra", spec := "fnPhaseAlgebra", unfollowed := true, recurses := true, apart := false, narrowed := true }
def FnPhaseAlgebraUptoSaid : Prop := fnPhaseAlgebraUptoRow.holds Try.pinned (OpenSpec.upto fnPhaseAlgebraSpec)

/-- 'laws.FnEqualPhases', WHERE WHAT IT READS IS OF BULK AT MOST 1048576: true; the input reads as it did. -/
def fnEqualPhasesUptoRow : OpenClaim := { program := "ytoladcammhboiaa", sum := "5db12b644dcb2603062a63f57994af508f6d7d22b8d4b0c163e53000dbb52b8b", func := "loop.example/g00864/laws.FnEqualPhases", spec := "fnEqualPhases", unfollowed := true, recurses := true, apart := false, narrowed := true }
def FnEqualPhasesUptoSaid : Prop := fnEqualPhasesUptoRow.holds Try.pinned (OpenSpec.upto fnEqualPhasesSpec)

/-- 'laws.FnExactCheckRoute', WHERE WHAT IT READS IS OF BULK AT MOST 1048576: true; the input reads as it did. -/
def fnExactCheckRouteUptoRow : OpenClaim := { program := "ytoladcammhboiaa", sum := "5db12b644dcb2603062a63f57994af508f6d7d22b8d4b0c163e53000dbb52b8b", func := "loop.example/g00864/laws.FnExactCheckRoute", spec := "fnExactCheckRoute", unfollowed := true, recurses := true, apart := false, narrowed := true }
def FnExactCheckRouteUptoSaid : Prop := fnExactCheckRouteUptoRow.holds Try.pinned (OpenSpec.upto fnExactCheckRouteSpec)

/-- 'laws.FnExactFinalPlacement', WHERE WHAT IT READS IS OF BULK AT MOST 1048576: true; the input reads as it did. -/
def fnExactFinalPlacementUptoRow : OpenClaim := { program := "ytoladcammhboiaa", sum := "5db12b644dcb2603062a63f57994af508f6d7d22b8d4b0c163e53000dbb52b8b", func := "loop.example/g00864/laws.FnExactFinalPlacement", spec := "fnExactFinalPlacement", unfollowed := true, recurses := true, apart := false, narrowed := true }
def FnExactFinalPlacementUptoSaid : Prop := fnExactFinalPlacementUptoRow.holds Try.pinned (OpenSpec.upto fnExactFinalPlacementSpec)

/-- 'laws.FnExactRouteCircuit', WHERE WHAT IT READS IS OF BULK AT MOST 1048576: true; the input reads as it did. -/
def fnExactRouteCircuitUptoRow : OpenClaim := { program := "ytoladcammhboiaa", sum := "5db12b644dcb2603062a63f57994af508f6d7d22b8d4b0c163e53000dbb52b8b", func := "loop.example/g00864/laws.FnExactRouteCircuit", spec := "fnExactRouteCircuit", unfollowed := true, recurses := true, apart := false, narrowed := true }
def FnExactRouteCircuitUptoSaid : Prop := fnExactRouteCircuitUptoRow.holds Try.pinned (OpenSpec.upto fnExactRouteCircuitSpec)

/-- 'laws.FnExactSynthesizeClifford', WHERE WHAT IT READS IS OF BULK AT MOST 1048576: true; the input reads as it did. -/
def fnExactSynthesizeCliffordUptoRow : OpenClaim := { program := "ytoladcammhboiaa", sum := "5db12b644dcb2603062a63f57994af508f6d7d22b8d4b0c163e53000dbb52b8b", func := "loop.example/g00864/laws.FnExactSynthesizeClifford", spec := "fnExactSynthesizeClifford", unfollowed := true, recurses := true, apart := false, narrowed := true }
def FnExactSynthesizeCliffordUptoSaid : Prop := fnExactSynthesizeCliffordUptoRow.holds Try.pinned (OpenSpec.upto fnExactSynthesizeCliffordSpec)

/-- 'laws.FnExactNormalizeClifford', WHERE WHAT IT READS IS OF BULK AT MOST 1048576: true; the input reads as it did. -/
def fnExactNormalizeCliffordUptoRow : OpenClaim := { program := "ytoladcammhboiaa", sum := "5db12b644dcb2603062a63f57994af508f6d7d22b8d4b0c163e53000dbb52b8b", func := "loop.example/g00864/laws.FnExactNormalizeClifford", spec := "fnExactNormalizeClifford", unfollowed := true, recurses := true, apart := false, narrowed := true }
def FnExactNormalizeCliffordUptoSaid : Prop := fnExactNormalizeCliffordUptoRow.holds Try.pinned (OpenSpec.upto fnExactNormalizeCliffordSpec)

end Rows
end Go.Proofs.Ytoladcammhboiaa
