/-
  DERIVED. GIVEN WITH THE SEED: THE CARDS: each row of YthnmbndffmhalaaGreatDoorRows.lean that lists a variable, with what it lists TIED to the program's text (the seventh form; the later family's looks); each row that meets fmt, with fmt's text TOLD by the authors' own Lean function (tested against real Go, not proved from fmt's source: count such statements apart). THE CARD IS WHAT COUNTS. Prove the row's statement (the work); the ties are given (YthnmbndffmhalaaGreatDoorTie.lean); close each card by the builder's one call (the guide's Derived/Test/ToyasCard.lean, 'card_holds'). Laid BY PROGRAM, IN A SANDBOX (cutbox-door.mjs). By AI agents, Wed Nov 11 2026. No macro, syntax, notation, axiom, sorry.
-/
import Derived.Test.YthnmbndffmhalaaGreatDoorRows
import GoSem.ClaimSeven
namespace Go.Proofs.YthnmbndffmhalaaGreatDoor
namespace Rows

/-- THE TIED CARD OF 'stopwatchlaw16.ClocksAlignSpec'. -/
def clocksAlignSpecCard : Claim7 := { stood := { row := clocksAlignSpecRow, standIns := [], harness := (true, "0d32db0538a6e28a2f9294dbda41ebca6b615450062b4054908e7dd0c1f14280"), looks := true }, kinds := [], alts := [], laidByText := true, laidKinds := [.data, .data, .data, .data, .data, .data, .data, .data, .data, .data, .data], laidTests := true, laidLooks := .later }
def ClocksAlignSpecCardSaid : Prop := Claim7.holds Tryz.pinned (.plain (OpenSpec.ofChange clocksAlignSpecSpec)) clocksAlignSpecCard

/-- THE SECOND FORM's CARD OF 'stopwatchlaw16.ClocksAlignSpec'. -/
def clocksAlignSpecUptoCard : Claim7 := { stood := { row := clocksAlignSpecUptoRow, standIns := [], harness := (true, "0d32db0538a6e28a2f9294dbda41ebca6b615450062b4054908e7dd0c1f14280"), looks := true }, kinds := [], alts := [], laidByText := true, laidKinds := [.data, .data, .data, .data, .data, .data, .data, .data, .data, .data, .data], laidTests := true, laidLooks := .later }
def ClocksAlignSpecUptoCardSaid : Prop := Claim7.holds Tryz.pinned (.plain (OpenSpec.upto clocksAlignSpecSpec)) clocksAlignSpecUptoCard
end Rows
end Go.Proofs.YthnmbndffmhalaaGreatDoor
