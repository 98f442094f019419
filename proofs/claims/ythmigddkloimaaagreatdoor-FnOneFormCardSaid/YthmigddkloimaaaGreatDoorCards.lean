/-
  DERIVED. GIVEN WITH THE SEED: THE CARDS: each row of YthmigddkloimaaaGreatDoorRows.lean that lists a variable, with what it lists TIED to the program's text (the seventh form; the later family's looks); each row that meets fmt, with fmt's text TOLD by the authors' own Lean function (tested against real Go, not proved from fmt's source: count such statements apart). THE CARD IS WHAT COUNTS. Prove the row's statement (the work); the ties are given (YthmigddkloimaaaGreatDoorTie.lean); close each card by the builder's one call (the guide's Derived/Test/ToyasCard.lean, 'card_holds'). Laid BY PROGRAM, IN A SANDBOX (cutbox-door.mjs). By AI agents, Wed Nov 11 2026. No macro, syntax, notation, axiom, sorry.
-/
import Derived.Test.YthmigddkloimaaaGreatDoorRows
import GoSem.ClaimSeven
namespace Go.Proofs.YthmigddkloimaaaGreatDoor
namespace Rows

/-- THE TIED CARD OF 'laws.FnOneForm'. -/
def fnOneFormCard : Claim7 := { stood := { row := fnOneFormRow, standIns := [], harness := (true, "7839ff98fb30eaeb7ff671900ac70d1f340fb581760d6f4f966743a9be55960e"), looks := false }, kinds := [], alts := [], laidByText := true, laidKinds := [.data], laidTests := true, laidLooks := .later }
def FnOneFormCardSaid : Prop := Claim7.holds Tryz.pinned (.plain (OpenSpec.ofChange fnOneFormSpec)) fnOneFormCard

/-- THE SECOND FORM's CARD OF 'laws.FnOneForm'. -/
def fnOneFormUptoCard : Claim7 := { stood := { row := fnOneFormUptoRow, standIns := [], harness := (true, "7839ff98fb30eaeb7ff671900ac70d1f340fb581760d6f4f966743a9be55960e"), looks := false }, kinds := [], alts := [], laidByText := true, laidKinds := [.data], laidTests := true, laidLooks := .later }
def FnOneFormUptoCardSaid : Prop := Claim7.holds Tryz.pinned (.plain (OpenSpec.upto fnOneFormSpec)) fnOneFormUptoCard
end Rows
end Go.Proofs.YthmigddkloimaaaGreatDoor
