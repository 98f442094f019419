/-
  No cell of these rows narrows 'for every input' (looked for: loops, veiled, ifaces, maps, wideKeys, modest, calm, conditions, laid).
  DERIVED. THE GIVEN ROWS OF THIS SEAT. 4 by the template 'for every input the law returns true; each argument reads behind the call as it read before'; 0 by the template 'total and deterministic' (their statements: YtklicjfbpikobaaTotals.lean).
  GIVEN WITH THE SEED: the statements are not yours to turn. If you find one false, say at which input.
  Laid BY PROGRAM, IN A SANDBOX (cutbox-rows.mjs): the forced cells as the released guide's own fill.sh prints them over the translation 7e43bfef43a6e38f… (all of the seat's roots in one cut). By AI agents, Wed Nov 11 2026. No macro, syntax, notation, axiom, sorry.
-/
import Derived.Test.YtklicjfbpikobaaChecked
import GoSem.Claim
import GoSem.ClaimJoined
import GoSem.ClaimMapViews
import Derived.JoinedTies
import Derived.KernelRfl
namespace Go.Proofs.Ytklicjfbpikobaa
/- THE CELL 'sum', in the pinned program and in every row, IS THE sha256 OF THE DUMP (.gsa) THAT YtklicjfbpikobaaProg.lean LOADS. Nothing in Lean hashes anything: it is a label: what it is worth is what the hold of that sum in a sandbox is worth. -/
noncomputable def Try.pinned : Pinned := { name := "ytklicjfbpikobaa", sum := "7e43bfef43a6e38f4725fb6f8cc3060c4e3ad21c35f4612bd039a19e9ce035e8", checked := Try.checked }
namespace Rows
def none {H : Type} : Left H := { results := [], args := [] }

/-- 'laws.FnExactSynthesizeClifford': WHATEVER THE INPUT: true; the input reads as it did. -/
def fnExactSynthesizeCliffordSpec : ChangeSpec := { name := "fnExactSynthesizeClifford", fn := fun _ => fun
  | [d] => { results := [.lit (.bool true)], args := [d] }
  | _ => none }
def fnExactSynthesizeCliffordRow : OpenClaim := { program := "ytklicjfbpikobaa", sum := "7e43bfef43a6e38f4725fb6f8cc3060c4e3ad21c35f4612bd039a19e9ce035e8", func := "loop.example/g00864/laws.FnExactSynthesizeClifford", spec := "fnExactSynthesizeClifford", unfollowed := true, recurses := true, apart := false }
def FnExactSynthesizeCliffordSaid : Prop := fnExactSynthesizeCliffordRow.holds Try.pinned (OpenSpec.ofChange fnExactSynthesizeCliffordSpec)

/-- ITS FALSE NEIGHBOUR: 'it returns false'. Refute it at one input. -/
def fnExactSynthesizeCliffordWrong : ChangeSpec := { name := "fnExactSynthesizeClifford", fn := fun _ => fun
  | [d] => { results := [.lit (.bool false)], args := [d] }
  | _ => none }
def FnExactSynthesizeCliffordWrongFalsely : Prop := fnExactSynthesizeCliffordRow.holds Try.pinned (OpenSpec.ofChange fnExactSynthesizeCliffordWrong)

/-- 'laws.FnExactNormalizeClifford': WHATEVER THE INPUT: true; the input reads as it did. -/
def fnExactNormalizeCliffordSpec : ChangeSpec := { name := "fnExactNormalizeClifford", fn := fun _ => fun
  | [d] => { results := [.lit (.bool true)], args := [d] }
  | _ => none }
def fnExactNormalizeCliffordRow : OpenClaim := { program := "ytklicjfbpikobaa", sum := "7e43bfef43a6e38f4725fb6f8cc3060c4e3ad21c35f4612bd039a19e9ce035e8", func := "loop.example/g00864/laws.FnExactNormalizeClifford", spec := "fnExactNormalizeClifford", unfollowed := true, recurses := true, apart := false }
def FnExactNormalizeCliffordSaid : Prop := fnExactNormalizeCliffordRow.holds Try.pinned (OpenSpec.ofChange fnExactNormalizeCliffordSpec)

/-- ITS FALSE NEIGHBOUR: 'it returns false'. Refute it at one input. -/
def fnExactNormalizeCliffordWrong : ChangeSpec := { name := "fnExactNormalizeClifford", fn := fun _ => fun
  | [d] => { results := [.lit (.bool false)], args := [d] }
  | _ => none }
def FnExactNormalizeCliffordWrongFalsely : Prop := fnExactNormalizeCliffordRow.holds Try.pinned (OpenSpec.ofChange fnExactNormalizeCliffordWrong)

/-- 'laws.FnExactSubstituteVar': WHATEVER THE INPUT: true; the input reads as it did. -/
def fnExactSubstituteVarSpec : ChangeSpec := { name := "fnExactSubstituteVar", fn := fun _ => fun
  | [d1, d2, d3] => { results := [.lit (.bool true)], args := [d1, d2, d3] }
  | _ => none }
def fnExactSubstituteVarRow : OpenClaim := { program := "ytklicjfbpikobaa", sum := "7e43bfef43a6e38f4725fb6f8cc3060c4e3ad21c35f4612bd039a19e9ce035e8", func := "loop.example/g00864/laws.FnExactSubstituteVar", spec := "fnExactSubstituteVar", unfollowed := true, recurses := true, apart := false }
def FnExactSubstituteVarSaid : Prop := fnExactSubstituteVarRow.holds Try.pinned (OpenSpec.ofChange fnExactSubstituteVarSpec)

/-- ITS FALSE NEIGHBOUR: 'it returns false'. Refute it at one input. -/
def fnExactSubstituteVarWrong : ChangeSpec := { name := "fnExactSubstituteVar", fn := fun _ => fun
  | [d1, d2, d3] => { results := [.lit (.bool false)], args := [d1, d2, d3] }
  | _ => none }
def FnExactSubstituteVarWrongFalsely : Prop := fnExactSubstituteVarRow.holds Try.pinned (OpenSpec.ofChange fnExactSubstituteVarWrong)

/-- 'laws.FnExactPathSumOf': WHATEVER THE INPUT: true; the input reads as it did. -/
def fnExactPathSumOfSpec : ChangeSpec := { name := "fnExactPathSumOf", fn := fun _ => fun
  | [d] => { results := [.lit (.bool true)], args := [d] }
  | _ => none }
def fnExactPathSumOfRow : OpenClaim := { program := "ytklicjfbpikobaa", sum := "7e43bfef43a6e38f4725fb6f8cc3060c4e3ad21c35f4612bd039a19e9ce035e8", func := "loop.example/g00864/laws.FnExactPathSumOf", spec := "fnExactPathSumOf", unfollowed := true, recurses := true, apart := false }
def FnExactPathSumOfSaid : Prop := fnExactPathSumOfRow.holds Try.pinned (OpenSpec.ofChange fnExactPathSumOfSpec)

/-- ITS FALSE NEIGHBOUR: 'it returns false'. Refute it at one input. -/
def fnExactPathSumOfWrong : ChangeSpec := { name := "fnExactPathSumOf", fn := fun _ => fun
  | [d] => { results := [.lit (.bool false)], args := [d] }
  | _ => none }
def FnExactPathSumOfWrongFalsely : Prop := fnExactPathSumOfRow.holds Try.pinned (OpenSpec.ofChange fnExactPathSumOfWrong)

/- THE SECOND FORM. 'bulk': how many values and letters a reading holds, each counted each time it is reached (what is shared counts as often as it is met; a slice's spare places count too). A statement '..UptoSaid' is the law's where the arguments, and the package variables that the reading takes, are together of bulk at most 1048576: NARROWER than '..Said'. Prove '..Said' where nothing that the law and all that it calls make is longer than what came in: it says more and counts as full. Else prove '..UptoSaid'. A law counts once. -/
mutual
def uptoBulk {H : Type} : DataW H → Nat
  | .lit (.string bytes) => bytes.length + 1
  | .lit _ => 1
  | .nil => 1
  | .ptr d => uptoBulk d + 1
  | .slice elems spare => uptoBulkAll elems + uptoBulkAll spare + 1
  | .agg parts => uptoBulkAll parts + 1
  | .iface _ d => uptoBulk d + 1
  | .map entries => uptoBulkEntries entries + 1
  | .held _ => 1
def uptoBulkAll {H : Type} : List (DataW H) → Nat
  | [] => 0
  | d :: r => uptoBulk d + uptoBulkAll r
def uptoBulkEntries {H : Type} : List (Lit × DataW H) → Nat
  | [] => 0
  | x :: r => uptoBulkEntry x + uptoBulkEntries r
def uptoBulkEntry {H : Type} : Lit × DataW H → Nat
  | (.string bytes, d) => bytes.length + uptoBulk d + 1
  | (_, d) => uptoBulk d + 1
 end
def uptoSmall : (H : Type) → List (DataW H) → Bool := fun _ ds => decide (uptoBulkAll ds ≤ 1048576)
def OpenSpec.upto (s : _root_.Go.ChangeSpec) : _root_.Go.OpenSpec := { _root_.Go.OpenSpec.ofChange s with cond := some uptoSmall }

/-- 'laws.FnExactSynthesizeClifford', WHERE WHAT IT READS IS OF BULK AT MOST 1048576: true; the input reads as it did. -/
def fnExactSynthesizeCliffordUptoRow : OpenClaim := { program := "ytklicjfbpikobaa", sum := "7e43bfef43a6e38f4725fb6f8cc3060c4e3ad21c35f4612bd039a19e9ce035e8", func := "loop.example/g00864/laws.FnExactSynthesizeClifford", spec := "fnExactSynthesizeClifford", unfollowed := true, recurses := true, apart := false, narrowed := true }
def FnExactSynthesizeCliffordUptoSaid : Prop := fnExactSynthesizeCliffordUptoRow.holds Try.pinned (OpenSpec.upto fnExactSynthesizeCliffordSpec)

/-- 'laws.FnExactNormalizeClifford', WHERE WHAT IT READS IS OF BULK AT MOST 1048576: true; the input reads as it did. -/
def fnExactNormalizeCliffordUptoRow : OpenClaim := { program := "ytklicjfbpikobaa", sum := "7e43bfef43a6e38f4725fb6f8cc3060c4e3ad21c35f4612bd039a19e9ce035e8", func := "loop.example/g00864/laws.FnExactNormalizeClifford", spec := "fnExactNormalizeClifford", unfollowed := true, recurses := true, apart := false, narrowed := true }
def FnExactNormalizeCliffordUptoSaid : Prop := fnExactNormalizeCliffordUptoRow.holds Try.pinned (OpenSpec.upto fnExactNormalizeCliffordSpec)

/-- 'laws.FnExactSubstituteVar', WHERE WHAT IT READS IS OF BULK AT MOST 1048576: true; the input reads as it did. -/
def fnExactSubstituteVarUptoRow : OpenClaim := { program := "ytklicjfbpikobaa", sum := "7e43bfef43a6e38f4725fb6f8cc3060c4e3ad21c35f4612bd039a19e9ce035e8", func := "loop.example/g00864/laws.FnExactSubstituteVar", spec := "fnExactSubstituteVar", unfollowed := true, recurses := true, apart := false, narrowed := true }
def FnExactSubstituteVarUptoSaid : Prop := fnExactSubstituteVarUptoRow.holds Try.pinned (OpenSpec.upto fnExactSubstituteVarSpec)

/-- 'laws.FnExactPathSumOf', WHERE WHAT IT READS IS OF BULK AT MOST 1048576: true; the input reads as it did. -/
def fnExactPathSumOfUptoRow : OpenClaim := { program := "ytklicjfbpikobaa", sum := "7e43bfef43a6e38f4725fb6f8cc3060c4e3ad21c35f4612bd039a19e9ce035e8", func := "loop.example/g00864/laws.FnExactPathSumOf", spec := "fnExactPathSumOf", unfollowed := true, recurses := true, apart := false, narrowed := true }
def FnExactPathSumOfUptoSaid : Prop := fnExactPathSumOfUptoRow.holds Try.pinned (OpenSpec.upto fnExactPathSumOfSpec)

end Rows
end Go.Proofs.Ytklicjfbpikobaa
