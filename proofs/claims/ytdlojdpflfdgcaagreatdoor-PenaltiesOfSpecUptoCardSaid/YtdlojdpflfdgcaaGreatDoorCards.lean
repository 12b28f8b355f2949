/-
  DERIVED. GIVEN WITH THE SEED: THE CARDS: each row of YtdlojdpflfdgcaaGreatDoorRows.lean that lists a variable, with what it lists TIED to the program's text (the seventh form; the later family's looks); each row that meets fmt, with fmt's text TOLD by the authors' own Lean function (tested against real Go, not proved from fmt's source: count such statements apart). THE CARD IS WHAT COUNTS. Prove the row's statement (the work); the ties are given (YtdlojdpflfdgcaaGreatDoorTie.lean); close each card by the builder's one call (the guide's Derived/Test/ToyasCard.lean, 'card_holds'). Laid BY PROGRAM, IN A SANDBOX (cutbox-door.mjs). By AI agents, Wed Nov 11 2026. No macro, syntax, notation, axiom, sorry.
-/
import Derived.Test.YtdlojdpflfdgcaaGreatDoorRows
import GoSem.ClaimSeven
namespace Go.Proofs.YtdlojdpflfdgcaaGreatDoor
namespace Rows

/-- THE TIED CARD OF 'stopwatchlaw22.PenaltiesCasesSpec'. -/
def penaltiesCasesSpecCard : Claim7 := { stood := { row := penaltiesCasesSpecRow, standIns := [], harness := (true, "7d78342984338a4bac567347bb436591cc66945ed6aa860cabc245d4b4d3cee3"), looks := true }, kinds := [], alts := [], laidByText := true, laidKinds := [.data, .data, .data, .data, .data, .data, .data, .data, .data, .data, .data], laidTests := true, laidLooks := .later }
def PenaltiesCasesSpecCardSaid : Prop := Claim7.holds Tryz.pinned (.plain (OpenSpec.ofChange penaltiesCasesSpecSpec)) penaltiesCasesSpecCard

/-- THE TIED CARD OF 'stopwatchlaw22.PenaltiesOfSpec'. -/
def penaltiesOfSpecCard : Claim7 := { stood := { row := penaltiesOfSpecRow, standIns := [], harness := (true, "7d78342984338a4bac567347bb436591cc66945ed6aa860cabc245d4b4d3cee3"), looks := true }, kinds := [], alts := [], laidByText := true, laidKinds := [.data, .data, .data, .data, .data, .data, .data, .data, .data, .data, .data], laidTests := true, laidLooks := .later }
def PenaltiesOfSpecCardSaid : Prop := Claim7.holds Tryz.pinned (.plain (OpenSpec.ofChange penaltiesOfSpecSpec)) penaltiesOfSpecCard

/-- THE SECOND FORM's CARD OF 'stopwatchlaw22.PenaltiesCasesSpec'. -/
def penaltiesCasesSpecUptoCard : Claim7 := { stood := { row := penaltiesCasesSpecUptoRow, standIns := [], harness := (true, "7d78342984338a4bac567347bb436591cc66945ed6aa860cabc245d4b4d3cee3"), looks := true }, kinds := [], alts := [], laidByText := true, laidKinds := [.data, .data, .data, .data, .data, .data, .data, .data, .data, .data, .data], laidTests := true, laidLooks := .later }
def PenaltiesCasesSpecUptoCardSaid : Prop := Claim7.holds Tryz.pinned (.plain (OpenSpec.upto penaltiesCasesSpecSpec)) penaltiesCasesSpecUptoCard

/-- THE SECOND FORM's CARD OF 'stopwatchlaw22.PenaltiesOfSpec'. -/
def penaltiesOfSpecUptoCard : Claim7 := { stood := { row := penaltiesOfSpecUptoRow, standIns := [], harness := (true, "7d78342984338a4bac567347bb436591cc66945ed6aa860cabc245d4b4d3cee3"), looks := true }, kinds := [], alts := [], laidByText := true, laidKinds := [.data, .data, .data, .data, .data, .data, .data, .data, .data, .data, .data], laidTests := true, laidLooks := .later }
def PenaltiesOfSpecUptoCardSaid : Prop := Claim7.holds Tryz.pinned (.plain (OpenSpec.upto penaltiesOfSpecSpec)) penaltiesOfSpecUptoCard
end Rows
end Go.Proofs.YtdlojdpflfdgcaaGreatDoor
