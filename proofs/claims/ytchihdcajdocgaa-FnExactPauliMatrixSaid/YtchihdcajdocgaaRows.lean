/-
  No cell of these rows narrows 'for every input' (looked for: loops, veiled, ifaces, maps, wideKeys, modest, calm, conditions, laid).
  DERIVED. THE GIVEN ROWS OF THIS SEAT. 4 by the template 'for every input the law returns true; each argument reads behind the call as it read before'; 0 by the template 'total and deterministic' (their statements: YtchihdcajdocgaaTotals.lean).
  GIVEN WITH THE SEED: the statements are not yours to turn. If you find one false, say at which input.
  Laid BY PROGRAM, IN A SANDBOX (cutbox-rows.mjs): the forced cells as the released guide's own fill.sh prints them over the translation bbd0f62f3032096b… (all of the seat's roots in one cut). By AI agents, Wed Nov 11 2026. No macro, syntax, notation, axiom, sorry.
-/
import Derived.Test.YtchihdcajdocgaaChecked
import GoSem.Claim
import GoSem.ClaimJoined
import GoSem.ClaimMapViews
import Derived.JoinedTies
import Derived.KernelRfl
namespace Go.Proofs.Ytchihdcajdocgaa
/- THE CELL 'sum', in the pinned program and in every row, IS THE sha256 OF THE DUMP (.gsa) THAT YtchihdcajdocgaaProg.lean LOADS. Nothing in Lean hashes anything: it is a label: what it is worth is what the hold of that sum in a sandbox is worth. -/
noncomputable def Try.pinned : Pinned := { name := "ytchihdcajdocgaa", sum := "bbd0f62f3032096b1b84604c0d3c89d8b49c96f06777368f1bf01bacceae7ccf", checked := Try.checked }
namespace Rows
def none {H : Type} : Left H := { results := [], args := [] }

/-- 'laws.FnExactPauliMatrix': WHATEVER THE INPUT: true; the input reads as it did. -/
def fnExactPauliMatrixSpec : ChangeSpec := { name := "fnExactPauliMatrix", fn := fun _ => fun
  | [d1, d2] => { results := [.lit (.bool true)], args := [d1, d2] }
  | _ => none }
def fnExactPauliMatrixRow : OpenClaim := { program := "ytchihdcajdocgaa", sum := "bbd0f62f3032096b1b84604c0d3c89d8b49c96f06777368f1bf01bacceae7ccf", func := "loop.example/g00864/laws.FnExactPauliMatrix", spec := "fnExactPauliMatrix", unfollowed := true, recurses := true, apart := false }
def FnExactPauliMatrixSaid : Prop := fnExactPauliMatrixRow.holds Try.pinned (OpenSpec.ofChange fnExactPauliMatrixSpec)

/-- ITS FALSE NEIGHBOUR: 'it returns false'. Refute it at one input. -/
def fnExactPauliMatrixWrong : ChangeSpec := { name := "fnExactPauliMatrix", fn := fun _ => fun
  | [d1, d2] => { results := [.lit (.bool false)], args := [d1, d2] }
  | _ => none }
def FnExactPauliMatrixWrongFalsely : Prop := fnExactPauliMatrixRow.holds Try.pinned (OpenSpec.ofChange fnExactPauliMatrixWrong)

/-- 'laws.FnMatrices': WHATEVER THE INPUT: true; the input reads as it did. -/
def fnMatricesSpec : ChangeSpec := { name := "fnMatrices", fn := fun _ => fun
  | [d1, d2] => { results := [.lit (.bool true)], args := [d1, d2] }
  | _ => none }
def fnMatricesRow : OpenClaim := { program := "ytchihdcajdocgaa", sum := "bbd0f62f3032096b1b84604c0d3c89d8b49c96f06777368f1bf01bacceae7ccf", func := "loop.example/g00864/laws.FnMatrices", spec := "fnMatrices", unfollowed := true, recurses := true, apart := false }
def FnMatricesSaid : Prop := fnMatricesRow.holds Try.pinned (OpenSpec.ofChange fnMatricesSpec)

/-- ITS FALSE NEIGHBOUR: 'it returns false'. Refute it at one input. -/
def fnMatricesWrong : ChangeSpec := { name := "fnMatrices", fn := fun _ => fun
  | [d1, d2] => { results := [.lit (.bool false)], args := [d1, d2] }
  | _ => none }
def FnMatricesWrongFalsely : Prop := fnMatricesRow.holds Try.pinned (OpenSpec.ofChange fnMatricesWrong)

/-- 'laws.FnPhaseAlgebra': WHATEVER THE INPUT: true; the input reads as it did. -/
def fnPhaseAlgebraSpec : ChangeSpec := { name := "fnPhaseAlgebra", fn := fun _ => fun
  | [d1, d2] => { results := [.lit (.bool true)], args := [d1, d2] }
  | _ => none }
def fnPhaseAlgebraRow : OpenClaim := { program := "ytchihdcajdocgaa", sum := "bbd0f62f3032096b1b84604c0d3c89d8b49c96f06777368f1bf01bacceae7ccf", func := "loop.example/g00864/laws.FnPhaseAlgebra", spec := "fnPhaseAlgebra", unfollowed := true, recurses := true, apart := false }
def FnPhaseAlgebraSaid : Prop := fnPhaseAlgebraRow.holds Try.pinned (OpenSpec.ofChange fnPhaseAlgebraSpec)

/-- ITS FALSE NEIGHBOUR: 'it returns false'. Refute it at one input. -/
def fnPhaseAlgebraWrong : ChangeSpec := { name := "fnPhaseAlgebra", fn := fun _ => fun
  | [d1, d2] => { results := [.lit (.bool false)], args := [d1, d2] }
  | _ => none }
def FnPhaseAlgebraWrongFalsely : Prop := fnPhaseAlgebraRow.holds Try.pinned (OpenSpec.ofChange fnPhaseAlgebraWrong)

/-- 'laws.FnEqualPhases': WHATEVER THE INPUT: true; the input reads as it did. -/
def fnEqualPhasesSpec : ChangeSpec := { name := "fnEqualPhases", fn := fun _ => fun
  | [d1, d2] => { results := [.lit (.bool true)], args := [d1, d2] }
  | _ => none }
def fnEqualPhasesRow : OpenClaim := { program := "ytchihdcajdocgaa", sum := "bbd0f62f3032096b1b84604c0d3c89d8b49c96f06777368f1bf01bacceae7ccf", func := "loop.example/g00864/laws.FnEqualPhases", spec := "fnEqualPhases", unfollowed := true, recurses := true, apart := false }
def FnEqualPhasesSaid : Prop := fnEqualPhasesRow.holds Try.pinned (OpenSpec.ofChange fnEqualPhasesSpec)

/-- ITS FALSE NEIGHBOUR: 'it returns false'. Refute it at one input. -/
def fnEqualPhasesWrong : ChangeSpec := { name := "fnEqualPhases", fn := fun _ => fun
  | [d1, d2] => { results := [.lit (.bool false)], args := [d1, d2] }
  | _ => none }
def FnEqualPhasesWrongFalsely : Prop := fnEqualPhasesRow.holds Try.pinned (OpenSpec.ofChange fnEqualPhasesWrong)

/- THE SECOND FORM. 'bulk': how many values and letters a reading holds, each counted each time it is reached (what is shared counts as often as it is met; a slice's spare places count too). A statement '..UptoSaid' is the law's where the arguments, and the package variables that the reading takes, are together of bulk at most 1048576: NARROWER than '..Said'. Prove '..Said' where nothing that the law and all that it calls make is longer than what came in: it says more and counts as full. Else prove '..UptoSaid'. A law counts once. -/
mutual
def uptoBulk {H : Type} : DataW H → Nat
  | .lit (.string bytes) => bytes.length + 1
  | .lit _ => 1
  | .nil => 1
  | .ptr d => uptoBulk d + 1
  | .slice elems spare => uptoBulkAll elems + uptoBulkAll spare + 1
  | .agg parts => uptoBulkAll parts + 1
  | .iface _ d => uptoBulk d + 1
  | .map entries => uptoBulkEntries entries + 1
  | .held _ => 1
def uptoBulkAll {H : Type} : List (DataW H) → Nat
  | [] => 0
  | d :: r => uptoBulk d + uptoBulkAll r
def uptoBulkEntries {H : Type} : List (Lit × DataW H) → Nat
  | [] => 0
  | x :: r => uptoBulkEntry x + uptoBulkEntries r
def uptoBulkEntry {H : Type} : Lit × DataW H → Nat
  | (.string bytes, d) => bytes.length + uptoBulk d + 1
  | (_, d) => uptoBulk d + 1
 end
def uptoSmall : (H : Type) → List (DataW H) → Bool := fun _ ds => decide (uptoBulkAll ds ≤ 1048576)
def OpenSpec.upto (s : _root_.Go.ChangeSpec) : _root_.Go.OpenSpec := { _root_.Go.OpenSpec.ofChange s with cond := some uptoSmall }

/-- 'laws.FnExactPauliMatrix', WHERE WHAT IT READS IS OF BULK AT MOST 1048576: true; the input reads as it did. -/
def fnExactPauliMatrixUptoRow : OpenClaim := { program := "ytchihdcajdocgaa", sum := "bbd0f62f3032096b1b84604c0d3c89d8b49c96f06777368f1bf01bacceae7ccf", func := "loop.example/g00864/laws.FnExactPauliMatrix", spec := "fnExactPauliMatrix", unfollowed := true, recurses := true, apart := false, narrowed := true }
def FnExactPauliMatrixUptoSaid : Prop := fnExactPauliMatrixUptoRow.holds Try.pinned (OpenSpec.upto fnExactPauliMatrixSpec)

/-- 'laws.FnMatrices', WHERE WHAT IT READS IS OF BULK AT MOST 1048576: true; the input reads as it did. -/
def fnMatricesUptoRow : OpenClaim := { program := "ytchihdcajdocgaa", sum := "bbd0f62f3032096b1b84604c0d3c89d8b49c96f06777368f1bf01bacceae7ccf", func := "loop.example/g00864/laws.FnMatrices", spec := "fnMatrices", unfollowed := true, recurses := true, apart := false, narrowed := true }
def FnMatricesUptoSaid : Prop := fnMatricesUptoRow.holds Try.pinned (OpenSpec.upto fnMatricesSpec)

/-- 'laws.FnPhaseAlgebra', WHERE WHAT IT READS IS OF BULK AT MOST 1048576: true; the input reads as it did. -/
def fnPhaseAlgebraUptoRow : OpenClaim := { program := "ytchihdcajdocgaa", sum := "bbd0f62f3032096b1b84604c0d3c89d8b49c96f06777368f1bf01bacceae7ccf", func := "loop.example/g00864/laws.FnPhaseAlgebra", spec := "fnPhaseAlgebra", unfollowed := true, recurses := true, apart := false, narrowed := true }
def FnPhaseAlgebraUptoSaid : Prop := fnPhaseAlgebraUptoRow.holds Try.pinned (OpenSpec.upto fnPhaseAlgebraSpec)

/-- 'laws.FnEqualPhases', WHERE WHAT IT READS IS OF BULK AT MOST 1048576: true; the input reads as it did. -/
def fnEqualPhasesUptoRow : OpenClaim := { program := "ytchihdcajdocgaa", sum := "bbd0f62f3032096b1b84604c0d3c89d8b49c96f06777368f1bf01bacceae7ccf", func := "loop.example/g00864/laws.FnEqualPhases", spec := "fnEqualPhases", unfollowed := true, recurses := true, apart := false, narrowed := true }
def FnEqualPhasesUptoSaid : Prop := fnEqualPhasesUptoRow.holds Try.pinned (OpenSpec.upto fnEqualPhasesSpec)

end Rows
end Go.Proofs.Ytchihdcajdocgaa
