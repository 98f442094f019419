/-
  NARROWER THAN 'FOR EVERY INPUT', by the rows' own cells (each row's printed sentence says how): FnExactCliffordIndex: laid · FnExactCircuitOfForm: laid · FnExactMatrixOfForm: laid.
  DERIVED. THE GIVEN ROWS OF THIS SEAT. 3 by the template 'for every input the law returns true; each argument reads behind the call as it read before'; 0 by the template 'total and deterministic' (their statements: YtbhancgonaleoaaGreatDoorTotals.lean).
  GIVEN WITH THE SEED: the statements are not yours to turn. If you find one false, say at which input.
  Laid BY PROGRAM, IN A SANDBOX (cutbox-rows.mjs): the forced cells as the released guide's own fill.sh prints them over the translation 357932cd29df89ef… (all of the seat's roots in one cut). By AI agents, Wed Nov 11 2026. No macro, syntax, notation, axiom, sorry.
-/
import Derived.Test.YtbhancgonaleoaaGreatDoorChecked
import GoSem.Claim
import GoSem.ClaimJoined
import GoSem.ClaimMapViews
import Derived.JoinedTies
import Derived.KernelRfl
namespace Go.Proofs.YtbhancgonaleoaaGreatDoor
/- THE CELL 'sum', in the pinned program and in every row, IS THE sha256 OF THE DUMP (.gsa) THAT YtbhancgonaleoaaGreatDoorProg.lean LOADS. Nothing in Lean hashes anything: it is a label: what it is worth is what the hold of that sum in a sandbox is worth. -/
noncomputable def Tryz.pinned : Pinned := { name := "ytbhancgonaleoaagreatdoor", sum := "357932cd29df89ef3d63b23e082e4214975c39c118de5215f7e6239991c4ec40", checked := Tryz.checked }
namespace Rows
def none {H : Type} : Left H := { results := [], args := [] }

/- WHAT THE LISTED PACKAGE-LEVEL VARIABLES READ AS WHEN THE CALL BEGINS. Each datum BY PROGRAM (the guide's laid-datum.mjs) off the statement by which the dump's own 'gosem.cut.vars' lays the variable. In a bare row this is a premise. The card (YtbhancgonaleoaaGreatDoorCards.lean) ties it to the program's text. -/
def laid_loop_example_g00864_impl_half {H : Type} : DataW H := .agg [.agg [.lit (.int .i64 1), .lit (.int .i64 0), .lit (.int .i64 0), .lit (.int .i64 0)], .lit (.int .i64 2)]

/-- 'laws.FnExactCliffordIndex': WHATEVER THE INPUT: true; the input reads as it did. -/
def fnExactCliffordIndexSpec : ChangeSpec := { name := "fnExactCliffordIndex", vars := ["loop.example/g00864/impl.half"], fn := fun _ => fun
  | [d, g1] => { results := [.lit (.bool true)], args := [d], vars := [g1] }
  | _ => none }
def fnExactCliffordIndexRow : OpenClaim := { program := "ytbhancgonaleoaagreatdoor", sum := "357932cd29df89ef3d63b23e082e4214975c39c118de5215f7e6239991c4ec40", func := "loop.example/g00864/laws.FnExactCliffordIndex", spec := "fnExactCliffordIndex", unfollowed := true, recurses := true, named := ["loop.example/g00864/impl.half"], apart := false, laid := [("loop.example/g00864/impl.half", laid_loop_example_g00864_impl_half)] }
def FnExactCliffordIndexSaid : Prop := fnExactCliffordIndexRow.holds Tryz.pinned (OpenSpec.ofChange fnExactCliffordIndexSpec)

/-- ITS FALSE NEIGHBOUR: 'it returns false'. Refute it at one input. -/
def fnExactCliffordIndexWrong : ChangeSpec := { name := "fnExactCliffordIndex", vars := ["loop.example/g00864/impl.half"], fn := fun _ => fun
  | [d, g1] => { results := [.lit (.bool false)], args := [d], vars := [g1] }
  | _ => none }
def FnExactCliffordIndexWrongFalsely : Prop := fnExactCliffordIndexRow.holds Tryz.pinned (OpenSpec.ofChange fnExactCliffordIndexWrong)

/-- 'laws.FnExactCircuitOfForm': WHATEVER THE INPUT: true; the input reads as it did. -/
def fnExactCircuitOfFormSpec : ChangeSpec := { name := "fnExactCircuitOfForm", vars := ["loop.example/g00864/impl.half"], fn := fun _ => fun
  | [d, g1] => { results := [.lit (.bool true)], args := [d], vars := [g1] }
  | _ => none }
def fnExactCircuitOfFormRow : OpenClaim := { program := "ytbhancgonaleoaagreatdoor", sum := "357932cd29df89ef3d63b23e082e4214975c39c118de5215f7e6239991c4ec40", func := "loop.example/g00864/laws.FnExactCircuitOfForm", spec := "fnExactCircuitOfForm", unfollowed := true, recurses := true, named := ["loop.example/g00864/impl.half"], apart := false, laid := [("loop.example/g00864/impl.half", laid_loop_example_g00864_impl_half)] }
def FnExactCircuitOfFormSaid : Prop := fnExactCircuitOfFormRow.holds Tryz.pinned (OpenSpec.ofChange fnExactCircuitOfFormSpec)

/-- ITS FALSE NEIGHBOUR: 'it returns false'. Refute it at one input. -/
def fnExactCircuitOfFormWrong : ChangeSpec := { name := "fnExactCircuitOfForm", vars := ["loop.example/g00864/impl.half"], fn := fun _ => fun
  | [d, g1] => { results := [.lit (.bool false)], args := [d], vars := [g1] }
  | _ => none }
def FnExactCircuitOfFormWrongFalsely : Prop := fnExactCircuitOfFormRow.holds Tryz.pinned (OpenSpec.ofChange fnExactCircuitOfFormWrong)

/-- 'laws.FnExactMatrixOfForm': WHATEVER THE INPUT: true; the input reads as it did. -/
def fnExactMatrixOfFormSpec : ChangeSpec := { name := "fnExactMatrixOfForm", vars := ["loop.example/g00864/impl.half"], fn := fun _ => fun
  | [d, g1] => { results := [.lit (.bool true)], args := [d], vars := [g1] }
  | _ => none }
def fnExactMatrixOfFormRow : OpenClaim := { program := "ytbhancgonaleoaagreatdoor", sum := "357932cd29df89ef3d63b23e082e4214975c39c118de5215f7e6239991c4ec40", func := "loop.example/g00864/laws.FnExactMatrixOfForm", spec := "fnExactMatrixOfForm", unfollowed := true, recurses := true, named := ["loop.example/g00864/impl.half"], apart := false, laid := [("loop.example/g00864/impl.half", laid_loop_example_g00864_impl_half)] }
def FnExactMatrixOfFormSaid : Prop := fnExactMatrixOfFormRow.holds Tryz.pinned (OpenSpec.ofChange fnExactMatrixOfFormSpec)

/-- ITS FALSE NEIGHBOUR: 'it returns false'. Refute it at one input. -/
def fnExactMatrixOfFormWrong : ChangeSpec := { name := "fnExactMatrixOfForm", vars := ["loop.example/g00864/impl.half"], fn := fun _ => fun
  | [d, g1] => { results := [.lit (.bool false)], args := [d], vars := [g1] }
  | _ => none }
def FnExactMatrixOfFormWrongFalsely : Prop := fnExactMatrixOfFormRow.holds Tryz.pinned (OpenSpec.ofChange fnExactMatrixOfFormWrong)

/- THE SECOND FORM. 'bulk': how many values and letters a reading holds, each counted each time it is reached (what is shared counts as often as it is met; a slice's spare places count too). A statement '..UptoSaid' is the law's where the arguments, and the package variables that the reading takes, are together of bulk at most 1048576: NARROWER than '..Said'. Prove '..Said' where nothing that the law and all that it calls make is longer than what came in: it says more and counts as full. Else prove '..UptoSaid'. A law counts once. -/
mutual
def uptoBulk {H : Type} : DataW H → Nat
  | .lit (.string bytes) => bytes.length + 1
  | .lit _ => 1
  | .nil => 1
  | .ptr d => uptoBulk d + 1
  | .slice elems spare => uptoBulkAll elems + uptoBulkAll spare + 1
  | .agg parts => uptoBulkAll parts + 1
  | .iface _ d => uptoBulk d + 1
  | .map entries => uptoBulkEntries entries + 1
  | .held _ => 1
def uptoBulkAll {H : Type} : List (DataW H) → Nat
  | [] => 0
  | d :: r => uptoBulk d + uptoBulkAll r
def uptoBulkEntries {H : Type} : List (Lit × DataW H) → Nat
  | [] => 0
  | x :: r => uptoBulkEntry x + uptoBulkEntries r
def uptoBulkEntry {H : Type} : Lit × DataW H → Nat
  | (.string bytes, d) => bytes.length + uptoBulk d + 1
  | (_, d) => uptoBulk d + 1
 end
def uptoSmall : (H : Type) → List (DataW H) → Bool := fun _ ds => decide (uptoBulkAll ds ≤ 1048576)
def OpenSpec.upto (s : _root_.Go.ChangeSpec) : _root_.Go.OpenSpec := { _root_.Go.OpenSpec.ofChange s with cond := some uptoSmall }

/-- 'laws.FnExactCliffordIndex', WHERE WHAT IT READS IS OF BULK AT MOST 1048576: true; the input reads as it did. -/
def fnExactCliffordIndexUptoRow : OpenClaim := { program := "ytbhancgonaleoaagreatdoor", sum := "357932cd29df89ef3d63b23e082e4214975c39c118de5215f7e6239991c4ec40", func := "loop.example/g00864/laws.FnExactCliffordIndex", spec := "fnExactCliffordIndex", unfollowed := true, recurses := true, named := ["loop.example/g00864/impl.half"], apart := false, laid := [("loop.example/g00864/impl.half", laid_loop_example_g00864_impl_half)], narrowed := true }
def FnExactCliffordIndexUptoSaid : Prop := fnExactCliffordIndexUptoRow.holds Tryz.pinned (OpenSpec.upto fnExactCliffordIndexSpec)

/-- 'laws.FnExactCircuitOfForm', WHERE WHAT IT READS IS OF BULK AT MOST 1048576: true; the input reads as it did. -/
def fnExactCircuitOfFormUptoRow : OpenClaim := { program := "ytbhancgonaleoaagreatdoor", sum := "357932cd29df89ef3d63b23e082e4214975c39c118de5215f7e6239991c4ec40", func := "loop.example/g00864/laws.FnExactCircuitOfForm", spec := "fnExactCircuitOfForm", unfollowed := true, recurses := true, named := ["loop.example/g00864/impl.half"], apart := false, laid := [("loop.example/g00864/impl.half", laid_loop_example_g00864_impl_half)], narrowed := true }
def FnExactCircuitOfFormUptoSaid : Prop := fnExactCircuitOfFormUptoRow.holds Tryz.pinned (OpenSpec.upto fnExactCircuitOfFormSpec)

/-- 'laws.FnExactMatrixOfForm', WHERE WHAT IT READS IS OF BULK AT MOST 1048576: true; the input reads as it did. -/
def fnExactMatrixOfFormUptoRow : OpenClaim := { program := "ytbhancgonaleoaagreatdoor", sum := "357932cd29df89ef3d63b23e082e4214975c39c118de5215f7e6239991c4ec40", func := "loop.example/g00864/laws.FnExactMatrixOfForm", spec := "fnExactMatrixOfForm", unfollowed := true, recurses := true, named := ["loop.example/g00864/impl.half"], apart := false, laid := [("loop.example/g00864/impl.half", laid_loop_example_g00864_impl_half)], narrowed := true }
def FnExactMatrixOfFormUptoSaid : Prop := fnExactMatrixOfFormUptoRow.holds Tryz.pinned (OpenSpec.upto fnExactMatrixOfFormSpec)

end Rows
end Go.Proofs.YtbhancgonaleoaaGreatDoor
