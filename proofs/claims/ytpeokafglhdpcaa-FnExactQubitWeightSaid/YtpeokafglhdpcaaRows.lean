/-
  No cell of these rows narrows 'for every input' (looked for: loops, veiled, ifaces, maps, wideKeys, modest, calm, conditions, laid).
  DERIVED. THE GIVEN ROWS OF THIS SEAT. 11 by the template 'for every input the law returns true; each argument reads behind the call as it read before'; 0 by the template 'total and deterministic' (their statements: YtpeokafglhdpcaaTotals.lean).
  GIVEN WITH THE SEED: the statements are not yours to turn. If you find one false, say at which input.
  Laid BY PROGRAM, IN A SANDBOX (cutbox-rows.mjs): the forced cells as the released guide's own fill.sh prints them over the translation 54906af129bc919e… (all of the seat's roots in one cut). By AI agents, Wed Nov 11 2026. No macro, syntax, notation, axiom, sorry.
-/
import Derived.Test.YtpeokafglhdpcaaChecked
import GoSem.Claim
import GoSem.ClaimJoined
import GoSem.ClaimMapViews
import Derived.JoinedTies
import Derived.KernelRfl
namespace Go.Proofs.Ytpeokafglhdpcaa
/- THE CELL 'sum', in the pinned program and in every row, IS THE sha256 OF THE DUMP (.gsa) THAT YtpeokafglhdpcaaProg.lean LOADS. Nothing in Lean hashes anything: it is a label: what it is worth is what the hold of that sum in a sandbox is worth. -/
noncomputable def Try.pinned : Pinned := { name := "ytpeokafglhdpcaa", sum := "54906af129bc919e5a978156f1f4f0851c230380cc634ddd63b67e16d6819864", checked := Try.checked }
namespace Rows
def none {H : Type} : Left H := { results := [], args := [] }

/-- 'laws.FnExactComposeTwoLevel': WHATEVER THE INPUT: true; the input reads as it did. -/
def fnExactComposeTwoLevelSpec : ChangeSpec := { name := "fnExactComposeTwoLevel", fn := fun _ => fun
  | [d1, d2] => { results := [.lit (.bool true)], args := [d1, d2] }
  | _ => none }
def fnExactComposeTwoLevelRow : OpenClaim := { program := "ytpeokafglhdpcaa", sum := "54906af129bc919e5a978156f1f4f0851c230380cc634ddd63b67e16d6819864", func := "loop.example/g00864/laws.FnExactComposeTwoLevel", spec := "fnExactComposeTwoLevel", unfollowed := true, recurses := true, apart := false }
def FnExactComposeTwoLevelSaid : Prop := fnExactComposeTwoLevelRow.holds Try.pinned (OpenSpec.ofChange fnExactComposeTwoLevelSpec)

/-- ITS FALSE NEIGHBOUR: 'it returns false'. Refute it at one input. -/
def fnExactComposeTwoLevelWrong : ChangeSpec := { name := "fnExactComposeTwoLevel", fn := fun _ => fun
  | [d1, d2] => { results := [.lit (.bool false)], args := [d1, d2] }
  | _ => none }
def FnExactComposeTwoLevelWrongFalsely : Prop := fnExactComposeTwoLevelRow.holds Try.pinned (OpenSpec.ofChange fnExactComposeTwoLevelWrong)

/-- 'laws.FnExactCheckRoute': WHATEVER THE INPUT: true; the input reads as it did. -/
def fnExactCheckRouteSpec : ChangeSpec := { name := "fnExactCheckRoute", fn := fun _ => fun
  | [d1, d2, d3] => { results := [.lit (.bool true)], args := [d1, d2, d3] }
  | _ => none }
def fnExactCheckRouteRow : OpenClaim := { program := "ytpeokafglhdpcaa", sum := "54906af129bc919e5a978156f1f4f0851c230380cc634ddd63b67e16d6819864", func := "loop.example/g00864/laws.FnExactCheckRoute", spec := "fnExactCheckRoute", unfollowed := true, recurses := true, apart := false }
def FnExactCheckRouteSaid : Prop := fnExactCheckRouteRow.holds Try.pinned (OpenSpec.ofChange fnExactCheckRouteSpec)

/-- ITS FALSE NEIGHBOUR: 'it returns false'. Refute it at one input. -/
def fnExactCheckRouteWrong : ChangeSpec := { name := "fnExactCheckRoute", fn := fun _ => fun
  | [d1, d2, d3] => { results := [.lit (.bool false)], args := [d1, d2, d3] }
  | _ => none }
def FnExactCheckRouteWrongFalsely : Prop := fnExactCheckRouteRow.holds Try.pinned (OpenSpec.ofChange fnExactCheckRouteWrong)

/-- 'laws.FnExactCheckDecomposition': WHATEVER THE INPUT: true; the input reads as it did. -/
def fnExactCheckDecompositionSpec : ChangeSpec := { name := "fnExactCheckDecomposition", fn := fun _ => fun
  | [d1, d2] => { results := [.lit (.bool true)], args := [d1, d2] }
  | _ => none }
def fnExactCheckDecompositionRow : OpenClaim := { program := "ytpeokafglhdpcaa", sum := "54906af129bc919e5a978156f1f4f0851c230380cc634ddd63b67e16d6819864", func := "loop.example/g00864/laws.FnExactCheckDecomposition", spec := "fnExactCheckDecomposition", unfollowed := true, recurses := true, apart := false }
def FnExactCheckDecompositionSaid : Prop := fnExactCheckDecompositionRow.holds Try.pinned (OpenSpec.ofChange fnExactCheckDecompositionSpec)

/-- ITS FALSE NEIGHBOUR: 'it returns false'. Refute it at one input. -/
def fnExactCheckDecompositionWrong : ChangeSpec := { name := "fnExactCheckDecomposition", fn := fun _ => fun
  | [d1, d2] => { results := [.lit (.bool false)], args := [d1, d2] }
  | _ => none }
def FnExactCheckDecompositionWrongFalsely : Prop := fnExactCheckDecompositionRow.holds Try.pinned (OpenSpec.ofChange fnExactCheckDecompositionWrong)

/-- 'laws.FnExactIsPhase': WHATEVER THE INPUT: true; the input reads as it did. -/
def fnExactIsPhaseSpec : ChangeSpec := { name := "fnExactIsPhase", fn := fun _ => fun
  | [d] => { results := [.lit (.bool true)], args := [d] }
  | _ => none }
def fnExactIsPhaseRow : OpenClaim := { program := "ytpeokafglhdpcaa", sum := "54906af129bc919e5a978156f1f4f0851c230380cc634ddd63b67e16d6819864", func := "loop.example/g00864/laws.FnExactIsPhase", spec := "fnExactIsPhase", unfollowed := true, recurses := true, apart := false }
def FnExactIsPhaseSaid : Prop := fnExactIsPhaseRow.holds Try.pinned (OpenSpec.ofChange fnExactIsPhaseSpec)

/-- ITS FALSE NEIGHBOUR: 'it returns false'. Refute it at one input. -/
def fnExactIsPhaseWrong : ChangeSpec := { name := "fnExactIsPhase", fn := fun _ => fun
  | [d] => { results := [.lit (.bool false)], args := [d] }
  | _ => none }
def FnExactIsPhaseWrongFalsely : Prop := fnExactIsPhaseRow.holds Try.pinned (OpenSpec.ofChange fnExactIsPhaseWrong)

/-- 'laws.FnExactSameOperator': WHATEVER THE INPUT: true; the input reads as it did. -/
def fnExactSameOperatorSpec : ChangeSpec := { name := "fnExactSameOperator", fn := fun _ => fun
  | [d1, d2] => { results := [.lit (.bool true)], args := [d1, d2] }
  | _ => none }
def fnExactSameOperatorRow : OpenClaim := { program := "ytpeokafglhdpcaa", sum := "54906af129bc919e5a978156f1f4f0851c230380cc634ddd63b67e16d6819864", func := "loop.example/g00864/laws.FnExactSameOperator", spec := "fnExactSameOperator", unfollowed := true, recurses := true, apart := false }
def FnExactSameOperatorSaid : Prop := fnExactSameOperatorRow.holds Try.pinned (OpenSpec.ofChange fnExactSameOperatorSpec)

/-- ITS FALSE NEIGHBOUR: 'it returns false'. Refute it at one input. -/
def fnExactSameOperatorWrong : ChangeSpec := { name := "fnExactSameOperator", fn := fun _ => fun
  | [d1, d2] => { results := [.lit (.bool false)], args := [d1, d2] }
  | _ => none }
def FnExactSameOperatorWrongFalsely : Prop := fnExactSameOperatorRow.holds Try.pinned (OpenSpec.ofChange fnExactSameOperatorWrong)

/-- 'laws.FnExactOutcomeWeight': WHATEVER THE INPUT: true; the input reads as it did. -/
def fnExactOutcomeWeightSpec : ChangeSpec := { name := "fnExactOutcomeWeight", fn := fun _ => fun
  | [d1, d2, d3] => { results := [.lit (.bool true)], args := [d1, d2, d3] }
  | _ => none }
def fnExactOutcomeWeightRow : OpenClaim := { program := "ytpeokafglhdpcaa", sum := "54906af129bc919e5a978156f1f4f0851c230380cc634ddd63b67e16d6819864", func := "loop.example/g00864/laws.FnExactOutcomeWeight", spec := "fnExactOutcomeWeight", unfollowed := true, recurses := true, apart := false }
def FnExactOutcomeWeightSaid : Prop := fnExactOutcomeWeightRow.holds Try.pinned (OpenSpec.ofChange fnExactOutcomeWeightSpec)

/-- ITS FALSE NEIGHBOUR: 'it returns false'. Refute it at one input. -/
def fnExactOutcomeWeightWrong : ChangeSpec := { name := "fnExactOutcomeWeight", fn := fun _ => fun
  | [d1, d2, d3] => { results := [.lit (.bool false)], args := [d1, d2, d3] }
  | _ => none }
def FnExactOutcomeWeightWrongFalsely : Prop := fnExactOutcomeWeightRow.holds Try.pinned (OpenSpec.ofChange fnExactOutcomeWeightWrong)

/-- 'laws.FnExactQubitWeight': WHATEVER THE INPUT: true; the input reads as it did. -/
def fnExactQubitWeightSpec : ChangeSpec := { name := "fnExactQubitWeight", fn := fun _ => fun
  | [d1, d2, d3] => { results := [.lit (.bool true)], args := [d1, d2, d3] }
  | _ => none }
def fnExactQubitWeightRow : OpenClaim := { program := "ytpeokafglhdpcaa", sum := "54906af129bc919e5a978156f1f4f0851c230380cc634ddd63b67e16d6819864", func := "loop.example/g00864/laws.FnExactQubitWeight", spec := "fnExactQubitWeight", unfollowed := true, recurses := true, apart := false }
def FnExactQubitWeightSaid : Prop := fnExactQubitWeightRow.holds Try.pinned (OpenSpec.ofChange fnExactQubitWeightSpec)

/-- ITS FALSE NEIGHBOUR: 'it returns false'. Refute it at one input. -/
def fnExactQubitWeightWrong : ChangeSpec := { name := "fnExactQubitWeight", fn := fun _ => fun
  | [d1, d2, d3] => { results := [.lit (.bool false)], args := [d1, d2, d3] }
  | _ => none }
def FnExactQubitWeightWrongFalsely : Prop := fnExactQubitWeightRow.holds Try.pinned (OpenSpec.ofChange fnExactQubitWeightWrong)

/-- 'laws.FnExactFinalPlacement': WHATEVER THE INPUT: true; the input reads as it did. -/
def fnExactFinalPlacementSpec : ChangeSpec := { name := "fnExactFinalPlacement", fn := fun _ => fun
  | [d1, d2, d3] => { results := [.lit (.bool true)], args := [d1, d2, d3] }
  | _ => none }
def fnExactFinalPlacementRow : OpenClaim := { program := "ytpeokafglhdpcaa", sum := "54906af129bc919e5a978156f1f4f0851c230380cc634ddd63b67e16d6819864", func := "loop.example/g00864/laws.FnExactFinalPlacement", spec := "fnExactFinalPlacement", unfollowed := true, recurses := true, apart := false }
def FnExactFinalPlacementSaid : Prop := fnExactFinalPlacementRow.holds Try.pinned (OpenSpec.ofChange fnExactFinalPlacementSpec)

/-- ITS FALSE NEIGHBOUR: 'it returns false'. Refute it at one input. -/
def fnExactFinalPlacementWrong : ChangeSpec := { name := "fnExactFinalPlacement", fn := fun _ => fun
  | [d1, d2, d3] => { results := [.lit (.bool false)], args := [d1, d2, d3] }
  | _ => none }
def FnExactFinalPlacementWrongFalsely : Prop := fnExactFinalPlacementRow.holds Try.pinned (OpenSpec.ofChange fnExactFinalPlacementWrong)

/-- 'laws.FnExactSynthesizeClifford': WHATEVER THE INPUT: true; the input reads as it did. -/
def fnExactSynthesizeCliffordSpec : ChangeSpec := { name := "fnExactSynthesizeClifford", fn := fun _ => fun
  | [d] => { results := [.lit (.bool true)], args := [d] }
  | _ => none }
def fnExactSynthesizeCliffordRow : OpenClaim := { program := "ytpeokafglhdpcaa", sum := "54906af129bc919e5a978156f1f4f0851c230380cc634ddd63b67e16d6819864", func := "loop.example/g00864/laws.FnExactSynthesizeClifford", spec := "fnExactSynthesizeClifford", unfollowed := true, recurses := true, apart := false }
def FnExactSynthesizeCliffordSaid : Prop := fnExactSynthesizeCliffordRow.holds Try.pinned (OpenSpec.ofChange fnExactSynthesizeCliffordSpec)

/-- ITS FALSE NEIGHBOUR: 'it returns false'. Refute it at one input. -/
def fnExactSynthesizeCliffordWrong : ChangeSpec := { name := "fnExactSynthesizeClifford", fn := fun _ => fun
  | [d] => { results := [.lit (.bool false)], args := [d] }
  | _ => none }
def FnExactSynthesizeCliffordWrongFalsely : Prop := fnExactSynthesizeCliffordRow.holds Try.pinned (OpenSpec.ofChange fnExactSynthesizeCliffordWrong)

/-- 'laws.FnExactNormalizeClifford': WHATEVER THE INPUT: true; the input reads as it did. -/
def fnExactNormalizeCliffordSpec : ChangeSpec := { name := "fnExactNormalizeClifford", fn := fun _ => fun
  | [d] => { results := [.lit (.bool true)], args := [d] }
  | _ => none }
def fnExactNormalizeCliffordRow : OpenClaim := { program := "ytpeokafglhdpcaa", sum := "54906af129bc919e5a978156f1f4f0851c230380cc634ddd63b67e16d6819864", func := "loop.example/g00864/laws.FnExactNormalizeClifford", spec := "fnExactNormalizeClifford", unfollowed := true, recurses := true, apart := false }
def FnExactNormalizeCliffordSaid : Prop := fnExactNormalizeCliffordRow.holds Try.pinned (OpenSpec.ofChange fnExactNormalizeCliffordSpec)

/-- ITS FALSE NEIGHBOUR: 'it returns false'. Refute it at one input. -/
def fnExactNormalizeCliffordWrong : ChangeSpec := { name := "fnExactNormalizeClifford", fn := fun _ => fun
  | [d] => { results := [.lit (.bool false)], args := [d] }
  | _ => none }
def FnExactNormalizeCliffordWrongFalsely : Prop := fnExactNormalizeCliffordRow.holds Try.pinned (OpenSpec.ofChange fnExactNormalizeCliffordWrong)

/-- 'laws.FnExactOperatorOf': WHATEVER THE INPUT: true; the input reads as it did. -/
def fnExactOperatorOfSpec : ChangeSpec := { name := "fnExactOperatorOf", fn := fun _ => fun
  | [d] => { results := [.lit (.bool true)], args := [d] }
  | _ => none }
def fnExactOperatorOfRow : OpenClaim := { program := "ytpeokafglhdpcaa", sum := "54906af129bc919e5a978156f1f4f0851c230380cc634ddd63b67e16d6819864", func := "loop.example/g00864/laws.FnExactOperatorOf", spec := "fnExactOperatorOf", unfollowed := true, recurses := true, apart := false }
def FnExactOperatorOfSaid : Prop := fnExactOperatorOfRow.holds Try.pinned (OpenSpec.ofChange fnExactOperatorOfSpec)

/-- ITS FALSE NEIGHBOUR: 'it returns false'. Refute it at one input. -/
def fnExactOperatorOfWrong : ChangeSpec := { name := "fnExactOperatorOf", fn := fun _ => fun
  | [d] => { results := [.lit (.bool false)], args := [d] }
  | _ => none }
def FnExactOperatorOfWrongFalsely : Prop := fnExactOperatorOfRow.holds Try.pinned (OpenSpec.ofChange fnExactOperatorOfWrong)

/- THE SECOND FORM. 'bulk': how many values and letters a reading holds, each counted each time it is reached (what is shared counts as often as it is met; a slice's spare places count too). A statement '..UptoSaid' is the law's where the arguments, and the package variables that the reading takes, are together of bulk at most 1048576: NARROWER than '..Said'. Prove '..Said' where nothing that the law and all that it calls make is longer than what came in: it says more and counts as full. Else prove '..UptoSaid'. A law counts once. -/
mutual
def uptoBulk {H : Type} : DataW H → Nat
  | .lit (.string bytes) => bytes.length + 1
  | .lit _ => 1
  | .nil => 1
  | .ptr d => uptoBulk d + 1
  | .slice elems spare => uptoBulkAll elems + uptoBulkAll spare + 1
  | .agg parts => uptoBulkAll parts + 1
  | .iface _ d => uptoBulk d + 1
  | .map entries => uptoBulkEntries entries + 1
  | .held _ => 1
def uptoBulkAll {H : Type} : List (DataW H) → Nat
  | [] => 0
  | d :: r => uptoBulk d + uptoBulkAll r
def uptoBulkEntries {H : Type} : List (Lit × DataW H) → Nat
  | [] => 0
  | x :: r => uptoBulkEntry x + uptoBulkEntries r
def uptoBulkEntry {H : Type} : Lit × DataW H → Nat
  | (.string bytes, d) => bytes.length + uptoBulk d + 1
  | (_, d) => uptoBulk d + 1
 end
def uptoSmall : (H : Type) → List (DataW H) → Bool := fun _ ds => decide (uptoBulkAll ds ≤ 1048576)
def OpenSpec.upto (s : _root_.Go.ChangeSpec) : _root_.Go.OpenSpec := { _root_.Go.OpenSpec.ofChange s with cond := some uptoSmall }

/-- 'laws.FnExactComposeTwoLevel', WHERE WHAT IT READS IS OF BULK AT MOST 1048576: true; the input reads as it did. -/
def fnExactComposeTwoLevelUptoRow : OpenClaim := { program := "ytpeokafglhdpcaa", sum := "54906af129bc919e5a978156f1f4f0851c230380cc634ddd63b67e16d6819864", func := "loop.example/g00864/laws.FnExactComposeTwoLevel", spec := "fnExactComposeTwoLevel", unfollowed := true, recurses := true, apart := false, narrowed := true }
def FnExactComposeTwoLevelUptoSaid : Prop := fnExactComposeTwoLevelUptoRow.holds Try.pinned (OpenSpec.upto fnExactComposeTwoLevelSpec)

/-- 'laws.FnExactCheckRoute', WHERE WHAT IT READS IS OF BULK AT MOST 1048576: true; the input reads as it did. -/
def fnExactCheckRouteUptoRow : OpenClaim := { program := "ytpeokafglhdpcaa", sum := "54906af129bc919e5a978156f1f4f0851c230380cc634ddd63b67e16d6819864", func := "loop.example/g00864/laws.FnExactCheckRoute", spec := "fnExactCheckRoute", unfollowed := true, recurses := true, apart := false, narrowed := true }
def FnExactCheckRouteUptoSaid : Prop := fnExactCheckRouteUptoRow.holds Try.pinned (OpenSpec.upto fnExactCheckRouteSpec)

/-- 'laws.FnExactCheckDecomposition', WHERE WHAT IT READS IS OF BULK AT MOST 1048576: true; the input reads as it did. -/
def fnExactCheckDecompositionUptoRow : OpenClaim := { program := "ytpeokafglhdpcaa", sum := "54906af129bc919e5a978156f1f4f0851c230380cc634ddd63b67e16d6819864", func := "loop.example/g00864/laws.FnExactCheckDecomposition", spec := "fnExactCheckDecomposition", unfollowed := true, recurses := true, apart := false, narrowed := true }
def FnExactCheckDecompositionUptoSaid : Prop := fnExactCheckDecompositionUptoRow.holds Try.pinned (OpenSpec.upto fnExactCheckDecompositionSpec)

/-- 'laws.FnExactIsPhase', WHERE WHAT IT READS IS OF BULK AT MOST 1048576: true; the input reads as it did. -/
def fnExactIsPhaseUptoRow : OpenClaim := { program := "ytpeokafglhdpcaa", sum := "54906af129bc919e5a978156f1f4f0851c230380cc634ddd63b67e16d6819864", func := "loop.example/g00864/laws.FnExactIsPhase", spec := "fnExactIsPhase", unfollowed := true, recurses := true, apart := false, narrowed := true }
def FnExactIsPhaseUptoSaid : Prop := fnExactIsPhaseUptoRow.holds Try.pinned (OpenSpec.upto fnExactIsPhaseSpec)

/-- 'laws.FnExactSameOperator', WHERE WHAT IT READS IS OF BULK AT MOST 1048576: true; the input reads as it did. -/
def fnExactSameOperatorUptoRow : OpenClaim := { program := "ytpeokafglhdpcaa", sum := "54906af129bc919e5a978156f1f4f0851c230380cc634ddd63b67e16d6819864", func := "loop.example/g00864/laws.FnExactSameOperator", spec := "fnExactSameOperator", unfollowed := true, recurses := true, apart := false, narrowed := true }
def FnExactSameOperatorUptoSaid : Prop := fnExactSameOperatorUptoRow.holds Try.pinned (OpenSpec.upto fnExactSameOperatorSpec)

/-- 'laws.FnExactOutcomeWeight', WHERE WHAT IT READS IS OF BULK AT MOST 1048576: true; the input reads as it did. -/
def fnExactOutcomeWeightUptoRow : OpenClaim := { program := "ytpeokafglhdpcaa", sum := "54906af129bc919e5a978156f1f4f0851c230380cc634ddd63b67e16d6819864", func := "loop.example/g00864/laws.FnExactOutcomeWeight", spec := "fnExactOutcomeWeight", unfollowed := true, recurses := true, apart := false, narrowed := true }
def FnExactOutcomeWeightUptoSaid : Prop := fnExactOutcomeWeightUptoRow.holds Try.pinned (OpenSpec.upto fnExactOutcomeWeightSpec)

/-- 'laws.FnExactQubitWeight', WHERE WHAT IT READS IS OF BULK AT MOST 1048576: true; the input reads as it did. -/
def fnExactQubitWeightUptoRow : OpenClaim := { program := "ytpeokafglhdpcaa", sum := "54906af129bc919e5a978156f1f4f0851c230380cc634ddd63b67e16d6819864", func := "loop.example/g00864/laws.FnExactQubitWeight", spec := "fnExactQubitWeight", unfollowed := true, recurses := true, apart := false, narrowed := true }
def FnExactQubitWeightUptoSaid : Prop := fnExactQubitWeightUptoRow.holds Try.pinned (OpenSpec.upto fnExactQubitWeightSpec)

/-- 'laws.FnExactFinalPlacement', WHERE WHAT IT READS IS OF BULK AT MOST 1048576: true; the input reads as it did. -/
def fnExactFinalPlacementUptoRow : OpenClaim := { program := "ytpeokafglhdpcaa", sum := "54906af129bc919e5a978156f1f4f0851c230380cc634ddd63b67e16d6819864", func := "loop.example/g00864/laws.FnExactFinalPlacement", spec := "fnExactFinalPlacement", unfollowed := true, recurses := true, apart := false, narrowed := true }
def FnExactFinalPlacementUptoSaid : Prop := fnExactFinalPlacementUptoRow.holds Try.pinned (OpenSpec.upto fnExactFinalPlacementSpec)

/-- 'laws.FnExactSynthesizeClifford', WHERE WHAT IT READS IS OF BULK AT MOST 1048576: true; the input reads as it did. -/
def fnExactSynthesizeCliffordUptoRow : OpenClaim := { program := "ytpeokafglhdpcaa", sum := "54906af129bc919e5a978156f1f4f0851c230380cc634ddd63b67e16d6819864", func := "loop.example/g00864/laws.FnExactSynthesizeClifford", spec := "fnExactSynthesizeClifford", unfollowed := true, recurses := true, apart := false, narrowed := true }
def FnExactSynthesizeCliffordUptoSaid : Prop := fnExactSynthesizeCliffordUptoRow.holds Try.pinned (OpenSpec.upto fnExactSynthesizeCliffordSpec)

/-- 'laws.FnExactNormalizeClifford', WHERE WHAT IT READS IS OF BULK AT MOST 1048576: true; the input reads as it did. -/
def fnExactNormalizeCliffordUptoRow : OpenClaim := { program := "ytpeokafglhdpcaa", sum := "54906af129bc919e5a978156f1f4f0851c230380cc634ddd63b67e16d6819864", func := "loop.example/g00864/laws.FnExactNormalizeClifford", spec := "fnExactNormalizeClifford", unfollowed := true, recurses := true, apart := false, narrowed := true }
def FnExactNormalizeCliffordUptoSaid : Prop := fnExactNormalizeCliffordUptoRow.holds Try.pinned (OpenSpec.upto fnExactNormalizeCliffordSpec)

/-- 'laws.FnExactOperatorOf', WHERE WHAT IT READS IS OF BULK AT MOST 1048576: true; the input reads as it did. -/
def fnExactOperatorOfUptoRow : OpenClaim := { program := "ytpeokafglhdpcaa", sum := "54906af129bc919e5a978156f1f4f0851c230380cc634ddd63b67e16d6819864", func := "loop.example/g00864/laws.FnExactOperatorOf", spec := "fnExactOperatorOf", unfollowed := true, recurses := true, apart := false, narrowed := true }
def FnExactOperatorOfUptoSaid : Prop := fnExactOperatorOfUptoRow.holds Try.pinned (OpenSpec.upto fnExactOperatorOfSpec)

end Rows
end Go.Proofs.Ytpeokafglhdpcaa
