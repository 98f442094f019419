/-
  DERIVED. GIVEN WITH THE SEED: THE CARDS: each row of YtmonoeihfeikeaaGreatDoorRows.lean that lists a variable, with what it lists TIED to the program's text (the seventh form; the later family's looks); each row that meets fmt, with fmt's text TOLD by the authors' own Lean function (tested against real Go, not proved from fmt's source: count such statements apart). THE CARD IS WHAT COUNTS. Prove the row's statement (the work); the ties are given (YtmonoeihfeikeaaGreatDoorTie.lean); close each card by the builder's one call (the guide's Derived/Test/ToyasCard.lean, 'card_holds'). Laid BY PROGRAM, IN A SANDBOX (cutbox-door.mjs). By AI agents, Wed Nov 11 2026. No macro, syntax, notation, axiom, sorry.
-/
import Derived.Test.YtmonoeihfeikeaaGreatDoorRows
import GoSem.ClaimSeven
namespace Go.Proofs.YtmonoeihfeikeaaGreatDoor
namespace Rows

/-- THE TIED CARD OF 'laws.FnBloch'. -/
def fnBlochCard : Claim7 := { stood := { row := fnBlochRow, standIns := [], harness := (true, "a60d370f727076d7dfbc0738eb2ee0b0f2d0278510057d20e0365075075303c9"), looks := false }, kinds := [], alts := [], laidByText := true, laidKinds := [.data], laidTests := true, laidLooks := .later }
def FnBlochCardSaid : Prop := Claim7.holds Tryz.pinned (.plain (OpenSpec.ofChange fnBlochSpec)) fnBlochCard

/-- THE SECOND FORM's CARD OF 'laws.FnBloch'. -/
def fnBlochUptoCard : Claim7 := { stood := { row := fnBlochUptoRow, standIns := [], harness := (true, "a60d370f727076d7dfbc0738eb2ee0b0f2d0278510057d20e0365075075303c9"), looks := false }, kinds := [], alts := [], laidByText := true, laidKinds := [.data], laidTests := true, laidLooks := .later }
def FnBlochUptoCardSaid : Prop := Claim7.holds Tryz.pinned (.plain (OpenSpec.upto fnBlochSpec)) fnBlochUptoCard
end Rows
end Go.Proofs.YtmonoeihfeikeaaGreatDoor
