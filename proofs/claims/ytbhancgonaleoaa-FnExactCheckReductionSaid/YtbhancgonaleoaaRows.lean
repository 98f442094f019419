/-
  No cell of these rows narrows 'for every input' (looked for: loops, veiled, ifaces, maps, wideKeys, modest, calm, conditions, laid).
  DERIVED. THE GIVEN ROWS OF THIS SEAT. 4 by the template 'for every input the law returns true; each argument reads behind the call as it read before'; 0 by the template 'total and deterministic' (their statements: YtbhancgonaleoaaTotals.lean).
  GIVEN WITH THE SEED: the statements are not yours to turn. If you find one false, say at which input.
  Laid BY PROGRAM, IN A SANDBOX (cutbox-rows.mjs): the forced cells as the released guide's own fill.sh prints them over the translation 9dadaa8f7b05f431… (all of the seat's roots in one cut). By AI agents, Wed Nov 11 2026. No macro, syntax, notation, axiom, sorry.
-/
import Derived.Test.YtbhancgonaleoaaChecked
import GoSem.Claim
import GoSem.ClaimJoined
import GoSem.ClaimMapViews
import Derived.JoinedTies
import Derived.KernelRfl
namespace Go.Proofs.Ytbhancgonaleoaa
/- THE CELL 'sum', in the pinned program and in every row, IS THE sha256 OF THE DUMP (.gsa) THAT YtbhancgonaleoaaProg.lean LOADS. Nothing in Lean hashes anything: it is a label: what it is worth is what the hold of that sum in a sandbox is worth. -/
noncomputable def Try.pinned : Pinned := { name := "ytbhancgonaleoaa", sum := "9dadaa8f7b05f4314ec59d3b9aaf76e77972c5856483481b467c342aa30f39d6", checked := Try.checked }
namespace Rows
def none {H : Type} : Left H := { results := [], args := [] }

/-- 'laws.FnExactStateAfter': WHATEVER THE INPUT: true; the input reads as it did. -/
def fnExactStateAfterSpec : ChangeSpec := { name := "fnExactStateAfter", fn := fun _ => fun
  | [d1, d2] => { results := [.lit (.bool true)], args := [d1, d2] }
  | _ => none }
def fnExactStateAfterRow : OpenClaim := { program := "ytbhancgonaleoaa", sum := "9dadaa8f7b05f4314ec59d3b9aaf76e77972c5856483481b467c342aa30f39d6", func := "loop.example/g00864/laws.FnExactStateAfter", spec := "fnExactStateAfter", unfollowed := true, recurses := true, apart := false }
def FnExactStateAfterSaid : Prop := fnExactStateAfterRow.holds Try.pinned (OpenSpec.ofChange fnExactStateAfterSpec)

/-- ITS FALSE NEIGHBOUR: 'it returns false'. Refute it at one input. -/
def fnExactStateAfterWrong : ChangeSpec := { name := "fnExactStateAfter", fn := fun _ => fun
  | [d1, d2] => { results := [.lit (.bool false)], args := [d1, d2] }
  | _ => none }
def FnExactStateAfterWrongFalsely : Prop := fnExactStateAfterRow.holds Try.pinned (OpenSpec.ofChange fnExactStateAfterWrong)

/-- 'laws.FnExactShiftBy': WHATEVER THE INPUT: true; the input reads as it did. -/
def fnExactShiftBySpec : ChangeSpec := { name := "fnExactShiftBy", fn := fun _ => fun
  | [d1, d2] => { results := [.lit (.bool true)], args := [d1, d2] }
  | _ => none }
def fnExactShiftByRow : OpenClaim := { program := "ytbhancgonaleoaa", sum := "9dadaa8f7b05f4314ec59d3b9aaf76e77972c5856483481b467c342aa30f39d6", func := "loop.example/g00864/laws.FnExactShiftBy", spec := "fnExactShiftBy", unfollowed := true, recurses := true, apart := false }
def FnExactShiftBySaid : Prop := fnExactShiftByRow.holds Try.pinned (OpenSpec.ofChange fnExactShiftBySpec)

/-- ITS FALSE NEIGHBOUR: 'it returns false'. Refute it at one input. -/
def fnExactShiftByWrong : ChangeSpec := { name := "fnExactShiftBy", fn := fun _ => fun
  | [d1, d2] => { results := [.lit (.bool false)], args := [d1, d2] }
  | _ => none }
def FnExactShiftByWrongFalsely : Prop := fnExactShiftByRow.holds Try.pinned (OpenSpec.ofChange fnExactShiftByWrong)

/-- 'laws.FnExactReduceT': WHATEVER THE INPUT: true; the input reads as it did. -/
def fnExactReduceTSpec : ChangeSpec := { name := "fnExactReduceT", fn := fun _ => fun
  | [d] => { results := [.lit (.bool true)], args := [d] }
  | _ => none }
def fnExactReduceTRow : OpenClaim := { program := "ytbhancgonaleoaa", sum := "9dadaa8f7b05f4314ec59d3b9aaf76e77972c5856483481b467c342aa30f39d6", func := "loop.example/g00864/laws.FnExactReduceT", spec := "fnExactReduceT", unfollowed := true, recurses := true, apart := false }
def FnExactReduceTSaid : Prop := fnExactReduceTRow.holds Try.pinned (OpenSpec.ofChange fnExactReduceTSpec)

/-- ITS FALSE NEIGHBOUR: 'it returns false'. Refute it at one input. -/
def fnExactReduceTWrong : ChangeSpec := { name := "fnExactReduceT", fn := fun _ => fun
  | [d] => { results := [.lit (.bool false)], args := [d] }
  | _ => none }
def FnExactReduceTWrongFalsely : Prop := fnExactReduceTRow.holds Try.pinned (OpenSpec.ofChange fnExactReduceTWrong)

/-- 'laws.FnExactCheckReduction': WHATEVER THE INPUT: true; the input reads as it did. -/
def fnExactCheckReductionSpec : ChangeSpec := { name := "fnExactCheckReduction", fn := fun _ => fun
  | [d1, d2, d3] => { results := [.lit (.bool true)], args := [d1, d2, d3] }
  | _ => none }
def fnExactCheckReductionRow : OpenClaim := { program := "ytbhancgonaleoaa", sum := "9dadaa8f7b05f4314ec59d3b9aaf76e77972c5856483481b467c342aa30f39d6", func := "loop.example/g00864/laws.FnExactCheckReduction", spec := "fnExactCheckReduction", unfollowed := true, recurses := true, apart := false }
def FnExactCheckReductionSaid : Prop := fnExactCheckReductionRow.holds Try.pinned (OpenSpec.ofChange fnExactCheckReductionSpec)

/-- ITS FALSE NEIGHBOUR: 'it returns false'. Refute it at one input. -/
def fnExactCheckReductionWrong : ChangeSpec := { name := "fnExactCheckReduction", fn := fun _ => fun
  | [d1, d2, d3] => { results := [.lit (.bool false)], args := [d1, d2, d3] }
  | _ => none }
def FnExactCheckReductionWrongFalsely : Prop := fnExactCheckReductionRow.holds Try.pinned (OpenSpec.ofChange fnExactCheckReductionWrong)

/- THE SECOND FORM. 'bulk': how many values and letters a reading holds, each counted each time it is reached (what is shared counts as often as it is met; a slice's spare places count too). A statement '..UptoSaid' is the law's where the arguments, and the package variables that the reading takes, are together of bulk at most 1048576: NARROWER than '..Said'. Prove '..Said' where nothing that the law and all that it calls make is longer than what came in: it says more and counts as full. Else prove '..UptoSaid'. A law counts once. -/
mutual
def uptoBulk {H : Type} : DataW H → Nat
  | .lit (.string bytes) => bytes.length + 1
  | .lit _ => 1
  | .nil => 1
  | .ptr d => uptoBulk d + 1
  | .slice elems spare => uptoBulkAll elems + uptoBulkAll spare + 1
  | .agg parts => uptoBulkAll parts + 1
  | .iface _ d => uptoBulk d + 1
  | .map entries => uptoBulkEntries entries + 1
  | .held _ => 1
def uptoBulkAll {H : Type} : List (DataW H) → Nat
  | [] => 0
  | d :: r => uptoBulk d + uptoBulkAll r
def uptoBulkEntries {H : Type} : List (Lit × DataW H) → Nat
  | [] => 0
  | x :: r => uptoBulkEntry x + uptoBulkEntries r
def uptoBulkEntry {H : Type} : Lit × DataW H → Nat
  | (.string bytes, d) => bytes.length + uptoBulk d + 1
  | (_, d) => uptoBulk d + 1
 end
def uptoSmall : (H : Type) → List (DataW H) → Bool := fun _ ds => decide (uptoBulkAll ds ≤ 1048576)
def OpenSpec.upto (s : _root_.Go.ChangeSpec) : _root_.Go.OpenSpec := { _root_.Go.OpenSpec.ofChange s with cond := some uptoSmall }

/-- 'laws.FnExactStateAfter', WHERE WHAT IT READS IS OF BULK AT MOST 1048576: true; the input reads as it did. -/
def fnExactStateAfterUptoRow : OpenClaim := { program := "ytbhancgonaleoaa", sum := "9dadaa8f7b05f4314ec59d3b9aaf76e77972c5856483481b467c342aa30f39d6", func := "loop.example/g00864/laws.FnExactStateAfter", spec := "fnExactStateAfter", unfollowed := true, recurses := true, apart := false, narrowed := true }
def FnExactStateAfterUptoSaid : Prop := fnExactStateAfterUptoRow.holds Try.pinned (OpenSpec.upto fnExactStateAfterSpec)

/-- 'laws.FnExactShiftBy', WHERE WHAT IT READS IS OF BULK AT MOST 1048576: true; the input reads as it did. -/
def fnExactShiftByUptoRow : OpenClaim := { program := "ytbhancgonaleoaa", sum := "9dadaa8f7b05f4314ec59d3b9aaf76e77972c5856483481b467c342aa30f39d6", func := "loop.example/g00864/laws.FnExactShiftBy", spec := "fnExactShiftBy", unfollowed := true, recurses := true, apart := false, narrowed := true }
def FnExactShiftByUptoSaid : Prop := fnExactShiftByUptoRow.holds Try.pinned (OpenSpec.upto fnExactShiftBySpec)

/-- 'laws.FnExactReduceT', WHERE WHAT IT READS IS OF BULK AT MOST 1048576: true; the input reads as it did. -/
def fnExactReduceTUptoRow : OpenClaim := { program := "ytbhancgonaleoaa", sum := "9dadaa8f7b05f4314ec59d3b9aaf76e77972c5856483481b467c342aa30f39d6", func := "loop.example/g00864/laws.FnExactReduceT", spec := "fnExactReduceT", unfollowed := true, recurses := true, apart := false, narrowed := true }
def FnExactReduceTUptoSaid : Prop := fnExactReduceTUptoRow.holds Try.pinned (OpenSpec.upto fnExactReduceTSpec)

/-- 'laws.FnExactCheckReduction', WHERE WHAT IT READS IS OF BULK AT MOST 1048576: true; the input reads as it did. -/
def fnExactCheckReductionUptoRow : OpenClaim := { program := "ytbhancgonaleoaa", sum := "9dadaa8f7b05f4314ec59d3b9aaf76e77972c5856483481b467c342aa30f39d6", func := "loop.example/g00864/laws.FnExactCheckReduction", spec := "fnExactCheckReduction", unfollowed := true, recurses := true, apart := false, narrowed := true }
def FnExactCheckReductionUptoSaid : Prop := fnExactCheckReductionUptoRow.holds Try.pinned (OpenSpec.upto fnExactCheckReductionSpec)

end Rows
end Go.Proofs.Ytbhancgonaleoaa
