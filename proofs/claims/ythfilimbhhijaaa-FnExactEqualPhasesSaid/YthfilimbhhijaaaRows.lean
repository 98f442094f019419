/-
  No cell of these rows narrows 'for every input' (looked for: loops, veiled, ifaces, maps, wideKeys, modest, calm, conditions, laid).
  DERIVED. THE GIVEN ROWS OF THIS SEAT. 12 by the template 'for every input the law returns true; each argument reads behind the call as it read before'; 0 by the template 'total and deterministic' (their statements: YthfilimbhhijaaaTotals.lean).
  GIVEN WITH THE SEED: the statements are not yours to turn. If you find one false, say at which input.
  Laid BY PROGRAM, IN A SANDBOX (cutbox-rows.mjs): the forced cells as the released guide's own fill.sh prints them over the translation da4c03b64af1a066… (all of the seat's roots in one cut). By AI agents, Wed Nov 11 2026. No macro, syntax, notation, axiom, sorry.
-/
import Derived.Test.YthfilimbhhijaaaChecked
import GoSem.Claim
import GoSem.ClaimJoined
import GoSem.ClaimMapViews
import Derived.JoinedTies
import Derived.KernelRfl
namespace Go.Proofs.Ythfilimbhhijaaa
/- THE CELL 'sum', in the pinned program and in every row, IS THE sha256 OF THE DUMP (.gsa) THAT YthfilimbhhijaaaProg.lean LOADS. Nothing in Lean hashes anything: it is a label: what it is worth is what the hold of that sum in a sandbox is worth. -/
noncomputable def Try.pinned : Pinned := { name := "ythfilimbhhijaaa", sum := "da4c03b64af1a0664e2178843e303b917140e7b46ad718daee8ecf89360b6863", checked := Try.checked }
namespace Rows
def none {H : Type} : Left H := { results := [], args := [] }

/-- 'laws.FnExactIsValidBloch': WHATEVER THE INPUT: true; the input reads as it did. -/
def fnExactIsValidBlochSpec : ChangeSpec := { name := "fnExactIsValidBloch", fn := fun _ => fun
  | [d] => { results := [.lit (.bool true)], args := [d] }
  | _ => none }
def fnExactIsValidBlochRow : OpenClaim := { program := "ythfilimbhhijaaa", sum := "da4c03b64af1a0664e2178843e303b917140e7b46ad718daee8ecf89360b6863", func := "loop.example/g00864/laws.FnExactIsValidBloch", spec := "fnExactIsValidBloch", unfollowed := true, recurses := true, apart := false }
def FnExactIsValidBlochSaid : Prop := fnExactIsValidBlochRow.holds Try.pinned (OpenSpec.ofChange fnExactIsValidBlochSpec)

/-- ITS FALSE NEIGHBOUR: 'it returns false'. Refute it at one input. -/
def fnExactIsValidBlochWrong : ChangeSpec := { name := "fnExactIsValidBloch", fn := fun _ => fun
  | [d] => { results := [.lit (.bool false)], args := [d] }
  | _ => none }
def FnExactIsValidBlochWrongFalsely : Prop := fnExactIsValidBlochRow.holds Try.pinned (OpenSpec.ofChange fnExactIsValidBlochWrong)

/-- 'laws.FnExactMonomialsOf': WHATEVER THE INPUT: true; the input reads as it did. -/
def fnExactMonomialsOfSpec : ChangeSpec := { name := "fnExactMonomialsOf", fn := fun _ => fun
  | [d] => { results := [.lit (.bool true)], args := [d] }
  | _ => none }
def fnExactMonomialsOfRow : OpenClaim := { program := "ythfilimbhhijaaa", sum := "da4c03b64af1a0664e2178843e303b917140e7b46ad718daee8ecf89360b6863", func := "loop.example/g00864/laws.FnExactMonomialsOf", spec := "fnExactMonomialsOf", unfollowed := true, recurses := true, apart := false }
def FnExactMonomialsOfSaid : Prop := fnExactMonomialsOfRow.holds Try.pinned (OpenSpec.ofChange fnExactMonomialsOfSpec)

/-- ITS FALSE NEIGHBOUR: 'it returns false'. Refute it at one input. -/
def fnExactMonomialsOfWrong : ChangeSpec := { name := "fnExactMonomialsOf", fn := fun _ => fun
  | [d] => { results := [.lit (.bool false)], args := [d] }
  | _ => none }
def FnExactMonomialsOfWrongFalsely : Prop := fnExactMonomialsOfRow.holds Try.pinned (OpenSpec.ofChange fnExactMonomialsOfWrong)

/-- 'laws.FnExactEqualPhases': WHATEVER THE INPUT: true; the input reads as it did. -/
def fnExactEqualPhasesSpec : ChangeSpec := { name := "fnExactEqualPhases", fn := fun _ => fun
  | [d1, d2] => { results := [.lit (.bool true)], args := [d1, d2] }
  | _ => none }
def fnExactEqualPhasesRow : OpenClaim := { program := "ythfilimbhhijaaa", sum := "da4c03b64af1a0664e2178843e303b917140e7b46ad718daee8ecf89360b6863", func := "loop.example/g00864/laws.FnExactEqualPhases", spec := "fnExactEqualPhases", unfollowed := true, recurses := true, apart := false }
def FnExactEqualPhasesSaid : Prop := fnExactEqualPhasesRow.holds Try.pinned (OpenSpec.ofChange fnExactEqualPhasesSpec)

/-- ITS FALSE NEIGHBOUR: 'it returns false'. Refute it at one input. -/
def fnExactEqualPhasesWrong : ChangeSpec := { name := "fnExactEqualPhases", fn := fun _ => fun
  | [d1, d2] => { results := [.lit (.bool false)], args := [d1, d2] }
  | _ => none }
def FnExactEqualPhasesWrongFalsely : Prop := fnExactEqualPhasesRow.holds Try.pinned (OpenSpec.ofChange fnExactEqualPhasesWrong)

/-- 'laws.FnExactComposePhase': WHATEVER THE INPUT: true; the input reads as it did. -/
def fnExactComposePhaseSpec : ChangeSpec := { name := "fnExactComposePhase", fn := fun _ => fun
  | [d1, d2] => { results := [.lit (.bool true)], args := [d1, d2] }
  | _ => none }
def fnExactComposePhaseRow : OpenClaim := { program := "ythfilimbhhijaaa", sum := "da4c03b64af1a0664e2178843e303b917140e7b46ad718daee8ecf89360b6863", func := "loop.example/g00864/laws.FnExactComposePhase", spec := "fnExactComposePhase", unfollowed := true, recurses := true, apart := false }
def FnExactComposePhaseSaid : Prop := fnExactComposePhaseRow.holds Try.pinned (OpenSpec.ofChange fnExactComposePhaseSpec)

/-- ITS FALSE NEIGHBOUR: 'it returns false'. Refute it at one input. -/
def fnExactComposePhaseWrong : ChangeSpec := { name := "fnExactComposePhase", fn := fun _ => fun
  | [d1, d2] => { results := [.lit (.bool false)], args := [d1, d2] }
  | _ => none }
def FnExactComposePhaseWrongFalsely : Prop := fnExactComposePhaseRow.holds Try.pinned (OpenSpec.ofChange fnExactComposePhaseWrong)

/-- 'laws.FnExactIsUnitary': WHATEVER THE INPUT: true; the input reads as it did. -/
def fnExactIsUnitarySpec : ChangeSpec := { name := "fnExactIsUnitary", fn := fun _ => fun
  | [d] => { results := [.lit (.bool true)], args := [d] }
  | _ => none }
def fnExactIsUnitaryRow : OpenClaim := { program := "ythfilimbhhijaaa", sum := "da4c03b64af1a0664e2178843e303b917140e7b46ad718daee8ecf89360b6863", func := "loop.example/g00864/laws.FnExactIsUnitary", spec := "fnExactIsUnitary", unfollowed := true, recurses := true, apart := false }
def FnExactIsUnitarySaid : Prop := fnExactIsUnitaryRow.holds Try.pinned (OpenSpec.ofChange fnExactIsUnitarySpec)

/-- ITS FALSE NEIGHBOUR: 'it returns false'. Refute it at one input. -/
def fnExactIsUnitaryWrong : ChangeSpec := { name := "fnExactIsUnitary", fn := fun _ => fun
  | [d] => { results := [.lit (.bool false)], args := [d] }
  | _ => none }
def FnExactIsUnitaryWrongFalsely : Prop := fnExactIsUnitaryRow.holds Try.pinned (OpenSpec.ofChange fnExactIsUnitaryWrong)

/-- 'laws.FnExactBlochExp': WHATEVER THE INPUT: true; the input reads as it did. -/
def fnExactBlochExpSpec : ChangeSpec := { name := "fnExactBlochExp", fn := fun _ => fun
  | [d] => { results := [.lit (.bool true)], args := [d] }
  | _ => none }
def fnExactBlochExpRow : OpenClaim := { program := "ythfilimbhhijaaa", sum := "da4c03b64af1a0664e2178843e303b917140e7b46ad718daee8ecf89360b6863", func := "loop.example/g00864/laws.FnExactBlochExp", spec := "fnExactBlochExp", unfollowed := true, recurses := true, apart := false }
def FnExactBlochExpSaid : Prop := fnExactBlochExpRow.holds Try.pinned (OpenSpec.ofChange fnExactBlochExpSpec)

/-- ITS FALSE NEIGHBOUR: 'it returns false'. Refute it at one input. -/
def fnExactBlochExpWrong : ChangeSpec := { name := "fnExactBlochExp", fn := fun _ => fun
  | [d] => { results := [.lit (.bool false)], args := [d] }
  | _ => none }
def FnExactBlochExpWrongFalsely : Prop := fnExactBlochExpRow.holds Try.pinned (OpenSpec.ofChange fnExactBlochExpWrong)

/-- 'laws.FnExactPauliMatrix': WHATEVER THE INPUT: true; the input reads as it did. -/
def fnExactPauliMatrixSpec : ChangeSpec := { name := "fnExactPauliMatrix", fn := fun _ => fun
  | [d1, d2] => { results := [.lit (.bool true)], args := [d1, d2] }
  | _ => none }
def fnExactPauliMatrixRow : OpenClaim := { program := "ythfilimbhhijaaa", sum := "da4c03b64af1a0664e2178843e303b917140e7b46ad718daee8ecf89360b6863", func := "loop.example/g00864/laws.FnExactPauliMatrix", spec := "fnExactPauliMatrix", unfollowed := true, recurses := true, apart := false }
def FnExactPauliMatrixSaid : Prop := fnExactPauliMatrixRow.holds Try.pinned (OpenSpec.ofChange fnExactPauliMatrixSpec)

/-- ITS FALSE NEIGHBOUR: 'it returns false'. Refute it at one input. -/
def fnExactPauliMatrixWrong : ChangeSpec := { name := "fnExactPauliMatrix", fn := fun _ => fun
  | [d1, d2] => { results := [.lit (.bool false)], args := [d1, d2] }
  | _ => none }
def FnExactPauliMatrixWrongFalsely : Prop := fnExactPauliMatrixRow.holds Try.pinned (OpenSpec.ofChange fnExactPauliMatrixWrong)

/-- 'laws.FnExactIsOneQubit': WHATEVER THE INPUT: true; the input reads as it did. -/
def fnExactIsOneQubitSpec : ChangeSpec := { name := "fnExactIsOneQubit", fn := fun _ => fun
  | [d] => { results := [.lit (.bool true)], args := [d] }
  | _ => none }
def fnExactIsOneQubitRow : OpenClaim := { program := "ythfilimbhhijaaa", sum := "da4c03b64af1a0664e2178843e303b917140e7b46ad718daee8ecf89360b6863", func := "loop.example/g00864/laws.FnExactIsOneQubit", spec := "fnExactIsOneQubit", unfollowed := true, recurses := true, apart := false }
def FnExactIsOneQubitSaid : Prop := fnExactIsOneQubitRow.holds Try.pinned (OpenSpec.ofChange fnExactIsOneQubitSpec)

/-- ITS FALSE NEIGHBOUR: 'it returns false'. Refute it at one input. -/
def fnExactIsOneQubitWrong : ChangeSpec := { name := "fnExactIsOneQubit", fn := fun _ => fun
  | [d] => { results := [.lit (.bool false)], args := [d] }
  | _ => none }
def FnExactIsOneQubitWrongFalsely : Prop := fnExactIsOneQubitRow.holds Try.pinned (OpenSpec.ofChange fnExactIsOneQubitWrong)

/-- 'laws.FnExactParityOf': WHATEVER THE INPUT: true; the input reads as it did. -/
def fnExactParityOfSpec : ChangeSpec := { name := "fnExactParityOf", fn := fun _ => fun
  | [d] => { results := [.lit (.bool true)], args := [d] }
  | _ => none }
def fnExactParityOfRow : OpenClaim := { program := "ythfilimbhhijaaa", sum := "da4c03b64af1a0664e2178843e303b917140e7b46ad718daee8ecf89360b6863", func := "loop.example/g00864/laws.FnExactParityOf", spec := "fnExactParityOf", unfollowed := true, recurses := true, apart := false }
def FnExactParityOfSaid : Prop := fnExactParityOfRow.holds Try.pinned (OpenSpec.ofChange fnExactParityOfSpec)

/-- ITS FALSE NEIGHBOUR: 'it returns false'. Refute it at one input. -/
def fnExactParityOfWrong : ChangeSpec := { name := "fnExactParityOf", fn := fun _ => fun
  | [d] => { results := [.lit (.bool false)], args := [d] }
  | _ => none }
def FnExactParityOfWrongFalsely : Prop := fnExactParityOfRow.holds Try.pinned (OpenSpec.ofChange fnExactParityOfWrong)

/-- 'laws.FnExactTransposeBloch': WHATEVER THE INPUT: true; the input reads as it did. -/
def fnExactTransposeBlochSpec : ChangeSpec := { name := "fnExactTransposeBloch", fn := fun _ => fun
  | [d] => { results := [.lit (.bool true)], args := [d] }
  | _ => none }
def fnExactTransposeBlochRow : OpenClaim := { program := "ythfilimbhhijaaa", sum := "da4c03b64af1a0664e2178843e303b917140e7b46ad718daee8ecf89360b6863", func := "loop.example/g00864/laws.FnExactTransposeBloch", spec := "fnExactTransposeBloch", unfollowed := true, recurses := true, apart := false }
def FnExactTransposeBlochSaid : Prop := fnExactTransposeBlochRow.holds Try.pinned (OpenSpec.ofChange fnExactTransposeBlochSpec)

/-- ITS FALSE NEIGHBOUR: 'it returns false'. Refute it at one input. -/
def fnExactTransposeBlochWrong : ChangeSpec := { name := "fnExactTransposeBloch", fn := fun _ => fun
  | [d] => { results := [.lit (.bool false)], args := [d] }
  | _ => none }
def FnExactTransposeBlochWrongFalsely : Prop := fnExactTransposeBlochRow.holds Try.pinned (OpenSpec.ofChange fnExactTransposeBlochWrong)

/-- 'laws.FnExactInvertPhase': WHATEVER THE INPUT: true; the input reads as it did. -/
def fnExactInvertPhaseSpec : ChangeSpec := { name := "fnExactInvertPhase", fn := fun _ => fun
  | [d] => { results := [.lit (.bool true)], args := [d] }
  | _ => none }
def fnExactInvertPhaseRow : OpenClaim := { program := "ythfilimbhhijaaa", sum := "da4c03b64af1a0664e2178843e303b917140e7b46ad718daee8ecf89360b6863", func := "loop.example/g00864/laws.FnExactInvertPhase", spec := "fnExactInvertPhase", unfollowed := true, recurses := true, apart := false }
def FnExactInvertPhaseSaid : Prop := fnExactInvertPhaseRow.holds Try.pinned (OpenSpec.ofChange fnExactInvertPhaseSpec)

/-- ITS FALSE NEIGHBOUR: 'it returns false'. Refute it at one input. -/
def fnExactInvertPhaseWrong : ChangeSpec := { name := "fnExactInvertPhase", fn := fun _ => fun
  | [d] => { results := [.lit (.bool false)], args := [d] }
  | _ => none }
def FnExactInvertPhaseWrongFalsely : Prop := fnExactInvertPhaseRow.holds Try.pinned (OpenSpec.ofChange fnExactInvertPhaseWrong)

/-- 'laws.FnExactMulBloch': WHATEVER THE INPUT: true; the input reads as it did. -/
def fnExactMulBlochSpec : ChangeSpec := { name := "fnExactMulBloch", fn := fun _ => fun
  | [d1, d2] => { results := [.lit (.bool true)], args := [d1, d2] }
  | _ => none }
def fnExactMulBlochRow : OpenClaim := { program := "ythfilimbhhijaaa", sum := "da4c03b64af1a0664e2178843e303b917140e7b46ad718daee8ecf89360b6863", func := "loop.example/g00864/laws.FnExactMulBloch", spec := "fnExactMulBloch", unfollowed := true, recurses := true, apart := false }
def FnExactMulBlochSaid : Prop := fnExactMulBlochRow.holds Try.pinned (OpenSpec.ofChange fnExactMulBlochSpec)

/-- ITS FALSE NEIGHBOUR: 'it returns false'. Refute it at one input. -/
def fnExactMulBlochWrong : ChangeSpec := { name := "fnExactMulBloch", fn := fun _ => fun
  | [d1, d2] => { results := [.lit (.bool false)], args := [d1, d2] }
  | _ => none }
def FnExactMulBlochWrongFalsely : Prop := fnExactMulBlochRow.holds Try.pinned (OpenSpec.ofChange fnExactMulBlochWrong)

/- THE SECOND FORM. 'bulk': how many values and letters a reading holds, each counted each time it is reached (what is shared counts as often as it is met; a slice's spare places count too). A statement '..UptoSaid' is the law's where the arguments, and the package variables that the reading takes, are together of bulk at most 1048576: NARROWER than '..Said'. Prove '..Said' where nothing that the law and all that it calls make is longer than what came in: it says more and counts as full. Else prove '..UptoSaid'. A law counts once. -/
mutual
def uptoBulk {H : Type} : DataW H → Nat
  | .lit (.string bytes) => bytes.length + 1
  | .lit _ => 1
  | .nil => 1
  | .ptr d => uptoBulk d + 1
  | .slice elems spare => uptoBulkAll elems + uptoBulkAll spare + 1
  | .agg parts => uptoBulkAll parts + 1
  | .iface _ d => uptoBulk d + 1
  | .map entries => uptoBulkEntries entries + 1
  | .held _ => 1
def uptoBulkAll {H : Type} : List (DataW H) → Nat
  | [] => 0
  | d :: r => uptoBulk d + uptoBulkAll r
def uptoBulkEntries {H : Type} : List (Lit × DataW H) → Nat
  | [] => 0
  | x :: r => uptoBulkEntry x + uptoBulkEntries r
def uptoBulkEntry {H : Type} : Lit × DataW H → Nat
  | (.string bytes, d) => bytes.length + uptoBulk d + 1
  | (_, d) => uptoBulk d + 1
 end
def uptoSmall : (H : Type) → List (DataW H) → Bool := fun _ ds => decide (uptoBulkAll ds ≤ 1048576)
def OpenSpec.upto (s : _root_.Go.ChangeSpec) : _root_.Go.OpenSpec := { _root_.Go.OpenSpec.ofChange s with cond := some uptoSmall }

/-- 'laws.FnExactIsValidBloch', WHERE WHAT IT READS IS OF BULK AT MOST 1048576: true; the input reads as it did. -/
def fnExactIsValidBlochUptoRow : OpenClaim := { program := "ythfilimbhhijaaa", sum := "da4c03b64af1a0664e2178843e303b917140e7b46ad718daee8ecf89360b6863", func := "loop.example/g00864/laws.FnExactIsValidBloch", spec := "fnExactIsValidBloch", unfollowed := true, recurses := true, apart := false, narrowed := true }
def FnExactIsValidBlochUptoSaid : Prop := fnExactIsValidBlochUptoRow.holds Try.pinned (OpenSpec.upto fnExactIsValidBlochSpec)

/-- 'laws.FnExactMonomialsOf', WHERE WHAT IT READS IS OF BULK AT MOST 1048576: true; the input reads as it did. -/
def fnExactMonomialsOfUptoRow : OpenClaim := { program := "ythfilimbhhijaaa", sum := "da4c03b64af1a0664e2178843e303b917140e7b46ad718daee8ecf89360b6863", func := "loop.example/g00864/laws.FnExactMonomialsOf", spec := "fnExactMonomialsOf", unfollowed := true, recurses := true, apart := false, narrowed := true }
def FnExactMonomialsOfUptoSaid : Prop := fnExactMonomialsOfUptoRow.holds Try.pinned (OpenSpec.upto fnExactMonomialsOfSpec)

/-- 'laws.FnExactEqualPhases', WHERE WHAT IT READS IS OF BULK AT MOST 1048576: true; the input reads as it did. -/
def fnExactEqualPhasesUptoRow : OpenClaim := { program := "ythfilimbhhijaaa", sum := "da4c03b64af1a0664e2178843e303b917140e7b46ad718daee8ecf89360b6863", func := "loop.example/g00864/laws.FnExactEqualPhases", spec := "fnExactEqualPhases", unfollowed := true, recurses := true, apart := false, narrowed := true }
def FnExactEqualPhasesUptoSaid : Prop := fnExactEqualPhasesUptoRow.holds Try.pinned (OpenSpec.upto fnExactEqualPhasesSpec)

/-- 'laws.FnExactComposePhase', WHERE WHAT IT READS IS OF BULK AT MOST 1048576: true; the input reads as it did. -/
def fnExactComposePhaseUptoRow : OpenClaim := { program := "ythfilimbhhijaaa", sum := "da4c03b64af1a0664e2178843e303b917140e7b46ad718daee8ecf89360b6863", func := "loop.example/g00864/laws.FnExactComposePhase", spec := "fnExactComposePhase", unfollowed := true, recurses := true, apart := false, narrowed := true }
def FnExactComposePhaseUptoSaid : Prop := fnExactComposePhaseUptoRow.holds Try.pinned (OpenSpec.upto fnExactComposePhaseSpec)

/-- 'laws.FnExactIsUnitary', WHERE WHAT IT READS IS OF BULK AT MOST 1048576: true; the input reads as it did. -/
def fnExactIsUnitaryUptoRow : OpenClaim := { program := "ythfilimbhhijaaa", sum := "da4c03b64af1a0664e2178843e303b917140e7b46ad718daee8ecf89360b6863", func := "loop.example/g00864/laws.FnExactIsUnitary", spec := "fnExactIsUnitary", unfollowed := true, recurses := true, apart := false, narrowed := true }
def FnExactIsUnitaryUptoSaid : Prop := fnExactIsUnitaryUptoRow.holds Try.pinned (OpenSpec.upto fnExactIsUnitarySpec)

/-- 'laws.FnExactBlochExp', WHERE WHAT IT READS IS OF BULK AT MOST 1048576: true; the input reads as it did. -/
def fnExactBlochExpUptoRow : OpenClaim := { program := "ythfilimbhhijaaa", sum := "da4c03b64af1a0664e2178843e303b917140e7b46ad718daee8ecf89360b6863", func := "loop.example/g00864/laws.FnExactBlochExp", spec := "fnExactBlochExp", unfollowed := true, recurses := true, apart := false, narrowed := true }
def FnExactBlochExpUptoSaid : Prop := fnExactBlochExpUptoRow.holds Try.pinned (OpenSpec.upto fnExactBlochExpSpec)

/-- 'laws.FnExactPauliMatrix', WHERE WHAT IT READS IS OF BULK AT MOST 1048576: true; the input reads as it did. -/
def fnExactPauliMatrixUptoRow : OpenClaim := { program := "ythfilimbhhijaaa", sum := "da4c03b64af1a0664e2178843e303b917140e7b46ad718daee8ecf89360b6863", func := "loop.example/g00864/laws.FnExactPauliMatrix", spec := "fnExactPauliMatrix", unfollowed := true, recurses := true, apart := false, narrowed := true }
def FnExactPauliMatrixUptoSaid : Prop := fnExactPauliMatrixUptoRow.holds Try.pinned (OpenSpec.upto fnExactPauliMatrixSpec)

/-- 'laws.FnExactIsOneQubit', WHERE WHAT IT READS IS OF BULK AT MOST 1048576: true; the input reads as it did. -/
def fnExactIsOneQubitUptoRow : OpenClaim := { program := "ythfilimbhhijaaa", sum := "da4c03b64af1a0664e2178843e303b917140e7b46ad718daee8ecf89360b6863", func := "loop.example/g00864/laws.FnExactIsOneQubit", spec := "fnExactIsOneQubit", unfollowed := true, recurses := true, apart := false, narrowed := true }
def FnExactIsOneQubitUptoSaid : Prop := fnExactIsOneQubitUptoRow.holds Try.pinned (OpenSpec.upto fnExactIsOneQubitSpec)

/-- 'laws.FnExactParityOf', WHERE WHAT IT READS IS OF BULK AT MOST 1048576: true; the input reads as it did. -/
def fnExactParityOfUptoRow : OpenClaim := { program := "ythfilimbhhijaaa", sum := "da4c03b64af1a0664e2178843e303b917140e7b46ad718daee8ecf89360b6863", func := "loop.example/g00864/laws.FnExactParityOf", spec := "fnExactParityOf", unfollowed := true, recurses := true, apart := false, narrowed := true }
def FnExactParityOfUptoSaid : Prop := fnExactParityOfUptoRow.holds Try.pinned (OpenSpec.upto fnExactParityOfSpec)

/-- 'laws.FnExactTransposeBloch', WHERE WHAT IT READS IS OF BULK AT MOST 1048576: true; the input reads as it did. -/
def fnExactTransposeBlochUptoRow : OpenClaim := { program := "ythfilimbhhijaaa", sum := "da4c03b64af1a0664e2178843e303b917140e7b46ad718daee8ecf89360b6863", func := "loop.example/g00864/laws.FnExactTransposeBloch", spec := "fnExactTransposeBloch", unfollowed := true, recurses := true, apart := false, narrowed := true }
def FnExactTransposeBlochUptoSaid : Prop := fnExactTransposeBlochUptoRow.holds Try.pinned (OpenSpec.upto fnExactTransposeBlochSpec)

/-- 'laws.FnExactInvertPhase', WHERE WHAT IT READS IS OF BULK AT MOST 1048576: true; the input reads as it did. -/
def fnExactInvertPhaseUptoRow : OpenClaim := { program := "ythfilimbhhijaaa", sum := "da4c03b64af1a0664e2178843e303b917140e7b46ad718daee8ecf89360b6863", func := "loop.example/g00864/laws.FnExactInvertPhase", spec := "fnExactInvertPhase", unfollowed := true, recurses := true, apart := false, narrowed := true }
def FnExactInvertPhaseUptoSaid : Prop := fnExactInvertPhaseUptoRow.holds Try.pinned (OpenSpec.upto fnExactInvertPhaseSpec)

/-- 'laws.FnExactMulBloch', WHERE WHAT IT READS IS OF BULK AT MOST 1048576: true; the input reads as it did. -/
def fnExactMulBlochUptoRow : OpenClaim := { program := "ythfilimbhhijaaa", sum := "da4c03b64af1a0664e2178843e303b917140e7b46ad718daee8ecf89360b6863", func := "loop.example/g00864/laws.FnExactMulBloch", spec := "fnExactMulBloch", unfollowed := true, recurses := true, apart := false, narrowed := true }
def FnExactMulBlochUptoSaid : Prop := fnExactMulBlochUptoRow.holds Try.pinned (OpenSpec.upto fnExactMulBlochSpec)

end Rows
end Go.Proofs.Ythfilimbhhijaaa
