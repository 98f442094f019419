/-
  DERIVED. GIVEN WITH THE SEED: THE CARDS: each row of YtbhancgonaleoaaGreatDoorRows.lean that lists a variable, with what it lists TIED to the program's text (the seventh form; the later family's looks); each row that meets fmt, with fmt's text TOLD by the authors' own Lean function (tested against real Go, not proved from fmt's source: count such statements apart). THE CARD IS WHAT COUNTS. Prove the row's statement (the work); the ties are given (YtbhancgonaleoaaGreatDoorTie.lean); close each card by the builder's one call (the guide's Derived/Test/ToyasCard.lean, 'card_holds'). Laid BY PROGRAM, IN A SANDBOX (cutbox-door.mjs). By AI agents, Wed Nov 11 2026. No macro, syntax, notation, axiom, sorry.
-/
import Derived.Test.YtbhancgonaleoaaGreatDoorRows
import GoSem.ClaimSeven
namespace Go.Proofs.YtbhancgonaleoaaGreatDoor
namespace Rows

/-- THE TIED CARD OF 'laws.FnExactCliffordIndex'. -/
def fnExactCliffordIndexCard : Claim7 := { stood := { row := fnExactCliffordIndexRow, standIns := [], harness := (true, "0ab48e8d6633e5891cd83482bc72ae893c3c2410bbfd77338561b9628f69b31b"), looks := false }, kinds := [], alts := [], laidByText := true, laidKinds := [.data], laidTests := true, laidLooks := .later }
def FnExactCliffordIndexCardSaid : Prop := Claim7.holds Tryz.pinned (.plain (OpenSpec.ofChange fnExactCliffordIndexSpec)) fnExactCliffordIndexCard

/-- THE TIED CARD OF 'laws.FnExactCircuitOfForm'. -/
def fnExactCircuitOfFormCard : Claim7 := { stood := { row := fnExactCircuitOfFormRow, standIns := [], harness := (true, "0ab48e8d6633e5891cd83482bc72ae893c3c2410bbfd77338561b9628f69b31b"), looks := false }, kinds := [], alts := [], laidByText := true, laidKinds := [.data], laidTests := true, laidLooks := .later }
def FnExactCircuitOfFormCardSaid : Prop := Claim7.holds Tryz.pinned (.plain (OpenSpec.ofChange fnExactCircuitOfFormSpec)) fnExactCircuitOfFormCard

/-- THE TIED CARD OF 'laws.FnExactMatrixOfForm'. -/
def fnExactMatrixOfFormCard : Claim7 := { stood := { row := fnExactMatrixOfFormRow, standIns := [], harness := (true, "0ab48e8d6633e5891cd83482bc72ae893c3c2410bbfd77338561b9628f69b31b"), looks := false }, kinds := [], alts := [], laidByText := true, laidKinds := [.data], laidTests := true, laidLooks := .later }
def FnExactMatrixOfFormCardSaid : Prop := Claim7.holds Tryz.pinned (.plain (OpenSpec.ofChange fnExactMatrixOfFormSpec)) fnExactMatrixOfFormCard

/-- THE SECOND FORM's CARD OF 'laws.FnExactCliffordIndex'. -/
def fnExactCliffordIndexUptoCard : Claim7 := { stood := { row := fnExactCliffordIndexUptoRow, standIns := [], harness := (true, "0ab48e8d6633e5891cd83482bc72ae893c3c2410bbfd77338561b9628f69b31b"), looks := false }, kinds := [], alts := [], laidByText := true, laidKinds := [.data], laidTests := true, laidLooks := .later }
def FnExactCliffordIndexUptoCardSaid : Prop := Claim7.holds Tryz.pinned (.plain (OpenSpec.upto fnExactCliffordIndexSpec)) fnExactCliffordIndexUptoCard

/-- THE SECOND FORM's CARD OF 'laws.FnExactCircuitOfForm'. -/
def fnExactCircuitOfFormUptoCard : Claim7 := { stood := { row := fnExactCircuitOfFormUptoRow, standIns := [], harness := (true, "0ab48e8d6633e5891cd83482bc72ae893c3c2410bbfd77338561b9628f69b31b"), looks := false }, kinds := [], alts := [], laidByText := true, laidKinds := [.data], laidTests := true, laidLooks := .later }
def FnExactCircuitOfFormUptoCardSaid : Prop := Claim7.holds Tryz.pinned (.plain (OpenSpec.upto fnExactCircuitOfFormSpec)) fnExactCircuitOfFormUptoCard

/-- THE SECOND FORM's CARD OF 'laws.FnExactMatrixOfForm'. -/
def fnExactMatrixOfFormUptoCard : Claim7 := { stood := { row := fnExactMatrixOfFormUptoRow, standIns := [], harness := (true, "0ab48e8d6633e5891cd83482bc72ae893c3c2410bbfd77338561b9628f69b31b"), looks := false }, kinds := [], alts := [], laidByText := true, laidKinds := [.data], laidTests := true, laidLooks := .later }
def FnExactMatrixOfFormUptoCardSaid : Prop := Claim7.holds Tryz.pinned (.plain (OpenSpec.upto fnExactMatrixOfFormSpec)) fnExactMatrixOfFormUptoCard
end Rows
end Go.Proofs.YtbhancgonaleoaaGreatDoor
