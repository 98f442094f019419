/-
  DERIVED. GIVEN WITH THE SEED: THE CARDS: each row of YtklicjfbpikobaaDoorRows.lean that lists a variable, with what it lists TIED to the program's text (the seventh form; the later family's looks); each row that meets fmt, with fmt's text TOLD by the authors' own Lean function (tested against real Go, not proved from fmt's source: count such statements apart). THE CARD IS WHAT COUNTS. Prove the row's statement (the work); the ties are given (YtklicjfbpikobaaDoorTie.lean); close each card by the builder's one call (the guide's Derived/Test/ToyasCard.lean, 'card_holds'). Laid BY PROGRAM, IN A SANDBOX (cutbox-door.mjs). By AI agents, Wed Nov 11 2026. No macro, syntax, notation, axiom, sorry.
-/
import Derived.Test.YtklicjfbpikobaaDoorRows
import GoSem.ClaimSeven
namespace Go.Proofs.YtklicjfbpikobaaDoor
namespace Rows

/-- THE TIED CARD OF 'laws.FnExactReduceStep'. -/
def fnExactReduceStepCard : Claim7 := { stood := { row := fnExactReduceStepRow, standIns := [], harness := (true, "ebeeb6f05cb977217da0860f4e617b716d75ae5ea7e9d9579096943c343d4b1a"), looks := false }, kinds := [], alts := [], laidByText := true, laidKinds := [.data, .data], laidTests := true, laidLooks := .later }
def FnExactReduceStepCardSaid : Prop := Claim7.holds Tryd.pinned (.plain (OpenSpec.ofChange fnExactReduceStepSpec)) fnExactReduceStepCard

/-- THE TIED CARD OF 'laws.FnExactReducePathSum'. -/
def fnExactReducePathSumCard : Claim7 := { stood := { row := fnExactReducePathSumRow, standIns := [], harness := (true, "ebeeb6f05cb977217da0860f4e617b716d75ae5ea7e9d9579096943c343d4b1a"), looks := false }, kinds := [], alts := [], laidByText := true, laidKinds := [.data, .data], laidTests := true, laidLooks := .later }
def FnExactReducePathSumCardSaid : Prop := Claim7.holds Tryd.pinned (.plain (OpenSpec.ofChange fnExactReducePathSumSpec)) fnExactReducePathSumCard

/-- THE SECOND FORM's CARD OF 'laws.FnExactReduceStep'. -/
def fnExactReduceStepUptoCard : Claim7 := { stood := { row := fnExactReduceStepUptoRow, standIns := [], harness := (true, "ebeeb6f05cb977217da0860f4e617b716d75ae5ea7e9d9579096943c343d4b1a"), looks := false }, kinds := [], alts := [], laidByText := true, laidKinds := [.data, .data], laidTests := true, laidLooks := .later }
def FnExactReduceStepUptoCardSaid : Prop := Claim7.holds Tryd.pinned (.plain (OpenSpec.upto fnExactReduceStepSpec)) fnExactReduceStepUptoCard

/-- THE SECOND FORM's CARD OF 'laws.FnExactReducePathSum'. -/
def fnExactReducePathSumUptoCard : Claim7 := { stood := { row := fnExactReducePathSumUptoRow, standIns := [], harness := (true, "ebeeb6f05cb977217da0860f4e617b716d75ae5ea7e9d9579096943c343d4b1a"), looks := false }, kinds := [], alts := [], laidByText := true, laidKinds := [.data, .data], laidTests := true, laidLooks := .later }
def FnExactReducePathSumUptoCardSaid : Prop := Claim7.holds Tryd.pinned (.plain (OpenSpec.upto fnExactReducePathSumSpec)) fnExactReducePathSumUptoCard
end Rows
end Go.Proofs.YtklicjfbpikobaaDoor
