/-
  No cell of these rows narrows 'for every input' (looked for: loops, veiled, ifaces, maps, wideKeys, modest, calm, conditions, laid).
  DERIVED. THE GIVEN ROWS OF THIS SEAT. 3 by the template 'for every input the law returns true; each argument reads behind the call as it read before'; 0 by the template 'total and deterministic' (their statements: YtmonoeihfeikeaaGreatTotals.lean).
  GIVEN WITH THE SEED: the statements are not yours to turn. If you find one false, say at which input.
  Laid BY PROGRAM, IN A SANDBOX (cutbox-rows.mjs): the forced cells as the released guide's own fill.sh prints them over the translation 8cbd789dbedcec81… (all of the seat's roots in one cut). By AI agents, Wed Nov 11 2026. No macro, syntax, notation, axiom, sorry.
-/
import Derived.Test.YtmonoeihfeikeaaGreatChecked
import GoSem.Claim
import GoSem.ClaimJoined
import GoSem.ClaimMapViews
import Derived.JoinedTies
import Derived.KernelRfl
namespace Go.Proofs.YtmonoeihfeikeaaGreat
/- THE CELL 'sum', in the pinned program and in every row, IS THE sha256 OF THE DUMP (.gsa) THAT YtmonoeihfeikeaaGreatProg.lean LOADS. Nothing in Lean hashes anything: it is a label: what it is worth is what the hold of that sum in a sandbox is worth. -/
noncomputable def Tryz.pinned : Pinned := { name := "ytmonoeihfeikeaagreat", sum := "8cbd789dbedcec8162ce58e9c8483c1eb50354058f6e6464569bfd6a1c0177ab", checked := Tryz.checked }
namespace Rows
def none {H : Type} : Left H := { results := [], args := [] }

/-- 'laws.FnOperators': WHATEVER THE INPUT: true; the input reads as it did. -/
def fnOperatorsSpec : ChangeSpec := { name := "fnOperators", fn := fun _ => fun
  | [d1, d2] => { results := [.lit (.bool true)], args := [d1, d2] }
  | _ => none }
def fnOperatorsRow : OpenClaim := { program := "ytmonoeihfeikeaagreat", sum := "8cbd789dbedcec8162ce58e9c8483c1eb50354058f6e6464569bfd6a1c0177ab", func := "loop.example/g00864/laws.FnOperators", spec := "fnOperators", unfollowed := true, recurses := true, apart := false }
def FnOperatorsSaid : Prop := fnOperatorsRow.holds Tryz.pinned (OpenSpec.ofChange fnOperatorsSpec)

/-- ITS FALSE NEIGHBOUR: 'it returns false'. Refute it at one input. -/
def fnOperatorsWrong : ChangeSpec := { name := "fnOperators", fn := fun _ => fun
  | [d1, d2] => { results := [.lit (.bool false)], args := [d1, d2] }
  | _ => none }
def FnOperatorsWrongFalsely : Prop := fnOperatorsRow.holds Tryz.pinned (OpenSpec.ofChange fnOperatorsWrong)

/-- 'laws.FnPhasePolynomials': WHATEVER THE INPUT: true; the input reads as it did. -/
def fnPhasePolynomialsSpec : ChangeSpec := { name := "fnPhasePolynomials", fn := fun _ => fun
  | [d1, d2] => { results := [.lit (.bool true)], args := [d1, d2] }
  | _ => none }
def fnPhasePolynomialsRow : OpenClaim := { program := "ytmonoeihfeikeaagreat", sum := "8cbd789dbedcec8162ce58e9c8483c1eb50354058f6e6464569bfd6a1c0177ab", func := "loop.example/g00864/laws.FnPhasePolynomials", spec := "fnPhasePolynomials", unfollowed := true, recurses := true, apart := false }
def FnPhasePolynomialsSaid : Prop := fnPhasePolynomialsRow.holds Tryz.pinned (OpenSpec.ofChange fnPhasePolynomialsSpec)

/-- ITS FALSE NEIGHBOUR: 'it returns false'. Refute it at one input. -/
def fnPhasePolynomialsWrong : ChangeSpec := { name := "fnPhasePolynomials", fn := fun _ => fun
  | [d1, d2] => { results := [.lit (.bool false)], args := [d1, d2] }
  | _ => none }
def FnPhasePolynomialsWrongFalsely : Prop := fnPhasePolynomialsRow.holds Tryz.pinned (OpenSpec.ofChange fnPhasePolynomialsWrong)

/-- 'laws.FnExactGatesCommute': WHATEVER THE INPUT: true; the input reads as it did. -/
def fnExactGatesCommuteSpec : ChangeSpec := { name := "fnExactGatesCommute", fn := fun _ => fun
  | [d1, d2, d3] => { results := [.lit (.bool true)], args := [d1, d2, d3] }
  | _ => none }
def fnExactGatesCommuteRow : OpenClaim := { program := "ytmonoeihfeikeaagreat", sum := "8cbd789dbedcec8162ce58e9c8483c1eb50354058f6e6464569bfd6a1c0177ab", func := "loop.example/g00864/laws.FnExactGatesCommute", spec := "fnExactGatesCommute", unfollowed := true, recurses := true, apart := false }
def FnExactGatesCommuteSaid : Prop := fnExactGatesCommuteRow.holds Tryz.pinned (OpenSpec.ofChange fnExactGatesCommuteSpec)

/-- ITS FALSE NEIGHBOUR: 'it returns false'. Refute it at one input. -/
def fnExactGatesCommuteWrong : ChangeSpec := { name := "fnExactGatesCommute", fn := fun _ => fun
  | [d1, d2, d3] => { results := [.lit (.bool false)], args := [d1, d2, d3] }
  | _ => none }
def FnExactGatesCommuteWrongFalsely : Prop := fnExactGatesCommuteRow.holds Tryz.pinned (OpenSpec.ofChange fnExactGatesCommuteWrong)

/- THE SECOND FORM. 'bulk': how many values and letters a reading holds, each counted each time it is reached (what is shared counts as often as it is met; a slice's spare places count too). A statement '..UptoSaid' is the law's where the arguments, and the package variables that the reading takes, are together of bulk at most 1048576: NARROWER than '..Said'. Prove '..Said' where nothing that the law and all that it calls make is longer than what came in: it says more and counts as full. Else prove '..UptoSaid'. A law counts once. -/
mutual
def uptoBulk {H : Type} : DataW H → Nat
  | .lit (.string bytes) => bytes.length + 1
  | .lit _ => 1
  | .nil => 1
  | .ptr d => uptoBulk d + 1
  | .slice elems spare => uptoBulkAll elems + uptoBulkAll spare + 1
  | .agg parts => uptoBulkAll parts + 1
  | .iface _ d => uptoBulk d + 1
  | .map entries => uptoBulkEntries entries + 1
  | .held _ => 1
def uptoBulkAll {H : Type} : List (DataW H) → Nat
  | [] => 0
  | d :: r => uptoBulk d + uptoBulkAll r
def uptoBulkEntries {H : Type} : List (Lit × DataW H) → Nat
  | [] => 0
  | x :: r => uptoBulkEntry x + uptoBulkEntries r
def uptoBulkEntry {H : Type} : Lit × DataW H → Nat
  | (.string bytes, d) => bytes.length + uptoBulk d + 1
  | (_, d) => uptoBulk d + 1
 end
def uptoSmall : (H : Type) → List (DataW H) → Bool := fun _ ds => decide (uptoBulkAll ds ≤ 1048576)
def OpenSpec.upto (s : _root_.Go.ChangeSpec) : _root_.Go.OpenSpec := { _root_.Go.OpenSpec.ofChange s with cond := some uptoSmall }

/-- 'laws.FnOperators', WHERE WHAT IT READS IS OF BULK AT MOST 1048576: true; the input reads as it did. -/
def fnOperatorsUptoRow : OpenClaim := { program := "ytmonoeihfeikeaagreat", sum := "8cbd789dbedcec8162ce58e9c8483c1eb50354058f6e6464569bfd6a1c0177ab", func := "loop.example/g00864/laws.FnOperators", spec := "fnOperators", unfollowed := true, recurses := true, apart := false, narrowed := true }
def FnOperatorsUptoSaid : Prop := fnOperatorsUptoRow.holds Tryz.pinned (OpenSpec.upto fnOperatorsSpec)

/-- 'laws.FnPhasePolynomials', WHERE WHAT IT READS IS OF BULK AT MOST 1048576: true; the input reads as it did. -/
def fnPhasePolynomialsUptoRow : OpenClaim := { program := "ytmonoeihfeikeaagreat", sum := "8cbd789dbedcec8162ce58e9c8483c1eb50354058f6e6464569bfd6a1c0177ab", func := "loop.example/g00864/laws.FnPhasePolynomials", spec := "fnPhasePolynomials", unfollowed := true, recurses := true, apart := false, narrowed := true }
def FnPhasePolynomialsUptoSaid : Prop := fnPhasePolynomialsUptoRow.holds Tryz.pinned (OpenSpec.upto fnPhasePolynomialsSpec)

/-- 'laws.FnExactGatesCommute', WHERE WHAT IT READS IS OF BULK AT MOST 1048576: true; the input reads as it did. -/
def fnExactGatesCommuteUptoRow : OpenClaim := { program := "ytmonoeihfeikeaagreat", sum := "8cbd789dbedcec8162ce58e9c8483c1eb50354058f6e6464569bfd6a1c0177ab", func := "loop.example/g00864/laws.FnExactGatesCommute", spec := "fnExactGatesCommute", unfollowed := true, recurses := true, apart := false, narrowed := true }
def FnExactGatesCommuteUptoSaid : Prop := fnExactGatesCommuteUptoRow.holds Tryz.pinned (OpenSpec.upto fnExactGatesCommuteSpec)

end Rows
end Go.Proofs.YtmonoeihfeikeaaGreat
