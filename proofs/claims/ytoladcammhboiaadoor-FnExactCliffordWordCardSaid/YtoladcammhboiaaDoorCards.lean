/-
  DERIVED. GIVEN WITH THE SEED: THE CARDS: each row of YtoladcammhboiaaDoorRows.lean that lists a variable, with what it lists TIED to the program's text (the seventh form; the later family's looks); each row that meets fmt, with fmt's text TOLD by the authors' own Lean function (tested against real Go, not proved from fmt's source: count such statements apart). THE CARD IS WHAT COUNTS. Prove the row's statement (the work); the ties are given (YtoladcammhboiaaDoorTie.lean); close each card by the builder's one call (the guide's Derived/Test/ToyasCard.lean, 'card_holds'). Laid BY PROGRAM, IN A SANDBOX (cutbox-door.mjs). By AI agents, Wed Nov 11 2026. No macro, syntax, notation, axiom, sorry.
-/
import Derived.Test.YtoladcammhboiaaDoorRows
import GoSem.ClaimSeven
namespace Go.Proofs.YtoladcammhboiaaDoor
namespace Rows

/-- THE TIED CARD OF 'laws.FnExactCliffordWord'. -/
def fnExactCliffordWordCard : Claim7 := { stood := { row := fnExactCliffordWordRow, standIns := [], harness := (true, "5d22cc9de2911d6494e0915f898f0c619929c24c7008ee9a7277382a41d2a108"), looks := false }, kinds := [], alts := [], laidByText := true, laidKinds := [.data], laidTests := true, laidLooks := .later }
def FnExactCliffordWordCardSaid : Prop := Claim7.holds Tryd.pinned (.plain (OpenSpec.ofChange fnExactCliffordWordSpec)) fnExactCliffordWordCard

/-- THE SECOND FORM's CARD OF 'laws.FnExactCliffordWord'. -/
def fnExactCliffordWordUptoCard : Claim7 := { stood := { row := fnExactCliffordWordUptoRow, standIns := [], harness := (true, "5d22cc9de2911d6494e0915f898f0c619929c24c7008ee9a7277382a41d2a108"), looks := false }, kinds := [], alts := [], laidByText := true, laidKinds := [.data], laidTests := true, laidLooks := .later }
def FnExactCliffordWordUptoCardSaid : Prop := Claim7.holds Tryd.pinned (.plain (OpenSpec.upto fnExactCliffordWordSpec)) fnExactCliffordWordUptoCard
end Rows
end Go.Proofs.YtoladcammhboiaaDoor
