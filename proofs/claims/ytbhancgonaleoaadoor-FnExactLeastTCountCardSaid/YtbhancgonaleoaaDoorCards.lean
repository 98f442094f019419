/-
  DERIVED. GIVEN WITH THE SEED: THE CARDS: each row of YtbhancgonaleoaaDoorRows.lean that lists a variable, with what it lists TIED to the program's text (the seventh form; the later family's looks); each row that meets fmt, with fmt's text TOLD by the authors' own Lean function (tested against real Go, not proved from fmt's source: count such statements apart). THE CARD IS WHAT COUNTS. Prove the row's statement (the work); the ties are given (YtbhancgonaleoaaDoorTie.lean); close each card by the builder's one call (the guide's Derived/Test/ToyasCard.lean, 'card_holds'). Laid BY PROGRAM, IN A SANDBOX (cutbox-door.mjs). By AI agents, Wed Nov 11 2026. No macro, syntax, notation, axiom, sorry.
-/
import Derived.Test.YtbhancgonaleoaaDoorRows
import GoSem.ClaimSeven
namespace Go.Proofs.YtbhancgonaleoaaDoor
namespace Rows

/-- THE TIED CARD OF 'laws.FnExactBlochOf'. -/
def fnExactBlochOfCard : Claim7 := { stood := { row := fnExactBlochOfRow, standIns := [], harness := (true, "5c02a95d52c03481934d6dc3f774662cdb6d1ca6b3632506cf7b88cfff6fb7b9"), looks := false }, kinds := [], alts := [], laidByText := true, laidKinds := [.data], laidTests := true, laidLooks := .later }
def FnExactBlochOfCardSaid : Prop := Claim7.holds Tryd.pinned (.plain (OpenSpec.ofChange fnExactBlochOfSpec)) fnExactBlochOfCard

/-- THE TIED CARD OF 'laws.FnExactLeastTCount'. -/
def fnExactLeastTCountCard : Claim7 := { stood := { row := fnExactLeastTCountRow, standIns := [], harness := (true, "5c02a95d52c03481934d6dc3f774662cdb6d1ca6b3632506cf7b88cfff6fb7b9"), looks := false }, kinds := [], alts := [], laidByText := true, laidKinds := [.data], laidTests := true, laidLooks := .later }
def FnExactLeastTCountCardSaid : Prop := Claim7.holds Tryd.pinned (.plain (OpenSpec.ofChange fnExactLeastTCountSpec)) fnExactLeastTCountCard

/-- THE SECOND FORM's CARD OF 'laws.FnExactBlochOf'. -/
def fnExactBlochOfUptoCard : Claim7 := { stood := { row := fnExactBlochOfUptoRow, standIns := [], harness := (true, "5c02a95d52c03481934d6dc3f774662cdb6d1ca6b3632506cf7b88cfff6fb7b9"), looks := false }, kinds := [], alts := [], laidByText := true, laidKinds := [.data], laidTests := true, laidLooks := .later }
def FnExactBlochOfUptoCardSaid : Prop := Claim7.holds Tryd.pinned (.plain (OpenSpec.upto fnExactBlochOfSpec)) fnExactBlochOfUptoCard

/-- THE SECOND FORM's CARD OF 'laws.FnExactLeastTCount'. -/
def fnExactLeastTCountUptoCard : Claim7 := { stood := { row := fnExactLeastTCountUptoRow, standIns := [], harness := (true, "5c02a95d52c03481934d6dc3f774662cdb6d1ca6b3632506cf7b88cfff6fb7b9"), looks := false }, kinds := [], alts := [], laidByText := true, laidKinds := [.data], laidTests := true, laidLooks := .later }
def FnExactLeastTCountUptoCardSaid : Prop := Claim7.holds Tryd.pinned (.plain (OpenSpec.upto fnExactLeastTCountSpec)) fnExactLeastTCountUptoCard
end Rows
end Go.Proofs.YtbhancgonaleoaaDoor
