/-
  DERIVED. GIVEN WITH THE SEED: THE CARDS: each row of YtkmncijipedjaaaGreatDoorRows.lean that lists a variable, with what it lists TIED to the program's text (the seventh form; the later family's looks); each row that meets fmt, with fmt's text TOLD by the authors' own Lean function (tested against real Go, not proved from fmt's source: count such statements apart). THE CARD IS WHAT COUNTS. Prove the row's statement (the work); the ties are given (YtkmncijipedjaaaGreatDoorTie.lean); close each card by the builder's one call (the guide's Derived/Test/ToyasCard.lean, 'card_holds'). Laid BY PROGRAM, IN A SANDBOX (cutbox-door.mjs). By AI agents, Wed Nov 11 2026. No macro, syntax, notation, axiom, sorry.
-/
import Derived.Test.YtkmncijipedjaaaGreatDoorRows
import GoSem.ClaimSeven
namespace Go.Proofs.YtkmncijipedjaaaGreatDoor
namespace Rows

/-- THE TIED CARD OF 'laws.FnExactIsShortest'. -/
def fnExactIsShortestCard : Claim7 := { stood := { row := fnExactIsShortestRow, standIns := [], harness := (true, "58799e7f3515054e2331be1c26e6a26a34da4d905c3ce1accf3900a68f353fc5"), looks := false }, kinds := [], alts := [], laidByText := true, laidKinds := [.data, .data, .data], laidTests := true, laidLooks := .later }
def FnExactIsShortestCardSaid : Prop := Claim7.holds Tryz.pinned (.plain (OpenSpec.ofChange fnExactIsShortestSpec)) fnExactIsShortestCard

/-- THE TIED CARD OF 'laws.FnExactTableSize'. -/
def fnExactTableSizeCard : Claim7 := { stood := { row := fnExactTableSizeRow, standIns := [], harness := (true, "58799e7f3515054e2331be1c26e6a26a34da4d905c3ce1accf3900a68f353fc5"), looks := false }, kinds := [], alts := [], laidByText := true, laidKinds := [.data, .data, .data], laidTests := true, laidLooks := .later }
def FnExactTableSizeCardSaid : Prop := Claim7.holds Tryz.pinned (.plain (OpenSpec.ofChange fnExactTableSizeSpec)) fnExactTableSizeCard

/-- THE TIED CARD OF 'laws.FnExactShortestLength'. -/
def fnExactShortestLengthCard : Claim7 := { stood := { row := fnExactShortestLengthRow, standIns := [], harness := (true, "58799e7f3515054e2331be1c26e6a26a34da4d905c3ce1accf3900a68f353fc5"), looks := false }, kinds := [], alts := [], laidByText := true, laidKinds := [.data, .data, .data], laidTests := true, laidLooks := .later }
def FnExactShortestLengthCardSaid : Prop := Claim7.holds Tryz.pinned (.plain (OpenSpec.ofChange fnExactShortestLengthSpec)) fnExactShortestLengthCard

/-- THE SECOND FORM's CARD OF 'laws.FnExactIsShortest'. -/
def fnExactIsShortestUptoCard : Claim7 := { stood := { row := fnExactIsShortestUptoRow, standIns := [], harness := (true, "58799e7f3515054e2331be1c26e6a26a34da4d905c3ce1accf3900a68f353fc5"), looks := false }, kinds := [], alts := [], laidByText := true, laidKinds := [.data, .data, .data], laidTests := true, laidLooks := .later }
def FnExactIsShortestUptoCardSaid : Prop := Claim7.holds Tryz.pinned (.plain (OpenSpec.upto fnExactIsShortestSpec)) fnExactIsShortestUptoCard

/-- THE SECOND FORM's CARD OF 'laws.FnExactTableSize'. -/
def fnExactTableSizeUptoCard : Claim7 := { stood := { row := fnExactTableSizeUptoRow, standIns := [], harness := (true, "58799e7f3515054e2331be1c26e6a26a34da4d905c3ce1accf3900a68f353fc5"), looks := false }, kinds := [], alts := [], laidByText := true, laidKinds := [.data, .data, .data], laidTests := true, laidLooks := .later }
def FnExactTableSizeUptoCardSaid : Prop := Claim7.holds Tryz.pinned (.plain (OpenSpec.upto fnExactTableSizeSpec)) fnExactTableSizeUptoCard

/-- THE SECOND FORM's CARD OF 'laws.FnExactShortestLength'. -/
def fnExactShortestLengthUptoCard : Claim7 := { stood := { row := fnExactShortestLengthUptoRow, standIns := [], harness := (true, "58799e7f3515054e2331be1c26e6a26a34da4d905c3ce1accf3900a68f353fc5"), looks := false }, kinds := [], alts := [], laidByText := true, laidKinds := [.data, .data, .data], laidTests := true, laidLooks := .later }
def FnExactShortestLengthUptoCardSaid : Prop := Claim7.holds Tryz.pinned (.plain (OpenSpec.upto fnExactShortestLengthSpec)) fnExactShortestLengthUptoCard
end Rows
end Go.Proofs.YtkmncijipedjaaaGreatDoor
