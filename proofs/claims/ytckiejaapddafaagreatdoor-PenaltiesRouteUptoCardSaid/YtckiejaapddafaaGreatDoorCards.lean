/-
  DERIVED. GIVEN WITH THE SEED: THE CARDS: each row of YtckiejaapddafaaGreatDoorRows.lean that lists a variable, with what it lists TIED to the program's text (the seventh form; the later family's looks); each row that meets fmt, with fmt's text TOLD by the authors' own Lean function (tested against real Go, not proved from fmt's source: count such statements apart). THE CARD IS WHAT COUNTS. Prove the row's statement (the work); the ties are given (YtckiejaapddafaaGreatDoorTie.lean); close each card by the builder's one call (the guide's Derived/Test/ToyasCard.lean, 'card_holds'). Laid BY PROGRAM, IN A SANDBOX (cutbox-door.mjs). By AI agents, Wed Nov 11 2026. No macro, syntax, notation, axiom, sorry.
-/
import Derived.Test.YtckiejaapddafaaGreatDoorRows
import GoSem.ClaimSeven
namespace Go.Proofs.YtckiejaapddafaaGreatDoor
namespace Rows

/-- THE TIED CARD OF 'stopwatchlaw22.PenaltiesCasesSpec'. -/
def penaltiesCasesSpecCard : Claim7 := { stood := { row := penaltiesCasesSpecRow, standIns := [], harness := (true, "10739c827497cc633f8e392afe80a78d86e7f3d537fe5a62c91df1b93f8f757f"), looks := true }, kinds := [], alts := [], laidByText := true, laidKinds := [.data, .data, .data, .data, .data, .data, .data, .data, .data, .data, .data], laidTests := true, laidLooks := .later }
def PenaltiesCasesSpecCardSaid : Prop := Claim7.holds Tryz.pinned (.plain (OpenSpec.ofChange penaltiesCasesSpecSpec)) penaltiesCasesSpecCard

/-- THE TIED CARD OF 'stopwatchlaw22.PenaltiesOfSpec'. -/
def penaltiesOfSpecCard : Claim7 := { stood := { row := penaltiesOfSpecRow, standIns := [], harness := (true, "10739c827497cc633f8e392afe80a78d86e7f3d537fe5a62c91df1b93f8f757f"), looks := true }, kinds := [], alts := [], laidByText := true, laidKinds := [.data, .data, .data, .data, .data, .data, .data, .data, .data, .data, .data], laidTests := true, laidLooks := .later }
def PenaltiesOfSpecCardSaid : Prop := Claim7.holds Tryz.pinned (.plain (OpenSpec.ofChange penaltiesOfSpecSpec)) penaltiesOfSpecCard

/-- THE TIED CARD OF 'stopwatchlaw22.PenaltiesUntilSpec'. -/
def penaltiesUntilSpecCard : Claim7 := { stood := { row := penaltiesUntilSpecRow, standIns := [], harness := (true, "10739c827497cc633f8e392afe80a78d86e7f3d537fe5a62c91df1b93f8f757f"), looks := true }, kinds := [], alts := [], laidByText := true, laidKinds := [.data, .data, .data, .data, .data, .data, .data, .data, .data, .data, .data], laidTests := true, laidLooks := .later }
def PenaltiesUntilSpecCardSaid : Prop := Claim7.holds Tryz.pinned (.plain (OpenSpec.ofChange penaltiesUntilSpecSpec)) penaltiesUntilSpecCard

/-- THE TIED CARD OF 'stopwatchlaw22.PenaltiesRoute'. -/
def penaltiesRouteCard : Claim7 := { stood := { row := penaltiesRouteRow, standIns := [], harness := (true, "10739c827497cc633f8e392afe80a78d86e7f3d537fe5a62c91df1b93f8f757f"), looks := true }, kinds := [], alts := [], laidByText := true, laidKinds := [.data, .data, .data, .data, .data, .data, .data, .data, .data, .data, .data], laidTests := true, laidLooks := .later }
def PenaltiesRouteCardSaid : Prop := Claim7.holds Tryz.pinned (.plain (OpenSpec.ofChange penaltiesRouteSpec)) penaltiesRouteCard

/-- THE TIED CARD OF 'stopwatchlaw22.PenaltiesSecond'. -/
def penaltiesSecondCard : Claim7 := { stood := { row := penaltiesSecondRow, standIns := [], harness := (true, "10739c827497cc633f8e392afe80a78d86e7f3d537fe5a62c91df1b93f8f757f"), looks := true }, kinds := [], alts := [], laidByText := true, laidKinds := [.data, .data, .data, .data, .data, .data, .data, .data, .data, .data, .data], laidTests := true, laidLooks := .later }
def PenaltiesSecondCardSaid : Prop := Claim7.holds Tryz.pinned (.plain (OpenSpec.ofChange penaltiesSecondSpec)) penaltiesSecondCard

/-- THE TIED CARD OF 'stopwatchlaw22.PenaltiesSet'. -/
def penaltiesSetCard : Claim7 := { stood := { row := penaltiesSetRow, standIns := [], harness := (true, "10739c827497cc633f8e392afe80a78d86e7f3d537fe5a62c91df1b93f8f757f"), looks := true }, kinds := [], alts := [], laidByText := true, laidKinds := [.data, .data, .data, .data, .data, .data, .data, .data, .data, .data, .data], laidTests := true, laidLooks := .later }
def PenaltiesSetCardSaid : Prop := Claim7.holds Tryz.pinned (.plain (OpenSpec.ofChange penaltiesSetSpec)) penaltiesSetCard

/-- THE TIED CARD OF 'stopwatchlaw22.PenaltiesSource'. -/
def penaltiesSourceCard : Claim7 := { stood := { row := penaltiesSourceRow, standIns := [], harness := (true, "10739c827497cc633f8e392afe80a78d86e7f3d537fe5a62c91df1b93f8f757f"), looks := true }, kinds := [], alts := [], laidByText := true, laidKinds := [.data, .data, .data, .data, .data, .data, .data, .data, .data, .data, .data], laidTests := true, laidLooks := .later }
def PenaltiesSourceCardSaid : Prop := Claim7.holds Tryz.pinned (.plain (OpenSpec.ofChange penaltiesSourceSpec)) penaltiesSourceCard

/-- THE TIED CARD OF 'stopwatchlaw22.PenaltiesPoint'. -/
def penaltiesPointCard : Claim7 := { stood := { row := penaltiesPointRow, standIns := [], harness := (true, "10739c827497cc633f8e392afe80a78d86e7f3d537fe5a62c91df1b93f8f757f"), looks := true }, kinds := [], alts := [], laidByText := true, laidKinds := [.data, .data, .data, .data, .data, .data, .data, .data, .data, .data, .data], laidTests := true, laidLooks := .later }
def PenaltiesPointCardSaid : Prop := Claim7.holds Tryz.pinned (.plain (OpenSpec.ofChange penaltiesPointSpec)) penaltiesPointCard

/-- THE SECOND FORM's CARD OF 'stopwatchlaw22.PenaltiesCasesSpec'. -/
def penaltiesCasesSpecUptoCard : Claim7 := { stood := { row := penaltiesCasesSpecUptoRow, standIns := [], harness := (true, "10739c827497cc633f8e392afe80a78d86e7f3d537fe5a62c91df1b93f8f757f"), looks := true }, kinds := [], alts := [], laidByText := true, laidKinds := [.data, .data, .data, .data, .data, .data, .data, .data, .data, .data, .data], laidTests := true, laidLooks := .later }
def PenaltiesCasesSpecUptoCardSaid : Prop := Claim7.holds Tryz.pinned (.plain (OpenSpec.upto penaltiesCasesSpecSpec)) penaltiesCasesSpecUptoCard

/-- THE SECOND FORM's CARD OF 'stopwatchlaw22.PenaltiesOfSpec'. -/
def penaltiesOfSpecUptoCard : Claim7 := { stood := { row := penaltiesOfSpecUptoRow, standIns := [], harness := (true, "10739c827497cc633f8e392afe80a78d86e7f3d537fe5a62c91df1b93f8f757f"), looks := true }, kinds := [], alts := [], laidByText := true, laidKinds := [.data, .data, .data, .data, .data, .data, .data, .data, .data, .data, .data], laidTests := true, laidLooks := .later }
def PenaltiesOfSpecUptoCardSaid : Prop := Claim7.holds Tryz.pinned (.plain (OpenSpec.upto penaltiesOfSpecSpec)) penaltiesOfSpecUptoCard

/-- THE SECOND FORM's CARD OF 'stopwatchlaw22.PenaltiesUntilSpec'. -/
def penaltiesUntilSpecUptoCard : Claim7 := { stood := { row := penaltiesUntilSpecUptoRow, standIns := [], harness := (true, "10739c827497cc633f8e392afe80a78d86e7f3d537fe5a62c91df1b93f8f757f"), looks := true }, kinds := [], alts := [], laidByText := true, laidKinds := [.data, .data, .data, .data, .data, .data, .data, .data, .data, .data, .data], laidTests := true, laidLooks := .later }
def PenaltiesUntilSpecUptoCardSaid : Prop := Claim7.holds Tryz.pinned (.plain (OpenSpec.upto penaltiesUntilSpecSpec)) penaltiesUntilSpecUptoCard

/-- THE SECOND FORM's CARD OF 'stopwatchlaw22.PenaltiesRoute'. -/
def penaltiesRouteUptoCard : Claim7 := { stood := { row := penaltiesRouteUptoRow, standIns := [], harness := (true, "10739c827497cc633f8e392afe80a78d86e7f3d537fe5a62c91df1b93f8f757f"), looks := true }, kinds := [], alts := [], laidByText := true, laidKinds := [.data, .data, .data, .data, .data, .data, .data, .data, .data, .data, .data], laidTests := true, laidLooks := .later }
def PenaltiesRouteUptoCardSaid : Prop := Claim7.holds Tryz.pinned (.plain (OpenSpec.upto penaltiesRouteSpec)) penaltiesRouteUptoCard

/-- THE SECOND FORM's CARD OF 'stopwatchlaw22.PenaltiesSecond'. -/
def penaltiesSecondUptoCard : Claim7 := { stood := { row := penaltiesSecondUptoRow, standIns := [], harness := (true, "10739c827497cc633f8e392afe80a78d86e7f3d537fe5a62c91df1b93f8f757f"), looks := true }, kinds := [], alts := [], laidByText := true, laidKinds := [.data, .data, .data, .data, .data, .data, .data, .data, .data, .data, .data], laidTests := true, laidLooks := .later }
def PenaltiesSecondUptoCardSaid : Prop := Claim7.holds Tryz.pinned (.plain (OpenSpec.upto penaltiesSecondSpec)) penaltiesSecondUptoCard

/-- THE SECOND FORM's CARD OF 'stopwatchlaw22.PenaltiesSet'. -/
def penaltiesSetUptoCard : Claim7 := { stood := { row := penaltiesSetUptoRow, standIns := [], harness := (true, "10739c827497cc633f8e392afe80a78d86e7f3d537fe5a62c91df1b93f8f757f"), looks := true }, kinds := [], alts := [], laidByText := true, laidKinds := [.data, .data, .data, .data, .data, .data, .data, .data, .data, .data, .data], laidTests := true, laidLooks := .later }
def PenaltiesSetUptoCardSaid : Prop := Claim7.holds Tryz.pinned (.plain (OpenSpec.upto penaltiesSetSpec)) penaltiesSetUptoCard

/-- THE SECOND FORM's CARD OF 'stopwatchlaw22.PenaltiesSource'. -/
def penaltiesSourceUptoCard : Claim7 := { stood := { row := penaltiesSourceUptoRow, standIns := [], harness := (true, "10739c827497cc633f8e392afe80a78d86e7f3d537fe5a62c91df1b93f8f757f"), looks := true }, kinds := [], alts := [], laidByText := true, laidKinds := [.data, .data, .data, .data, .data, .data, .data, .data, .data, .data, .data], laidTests := true, laidLooks := .later }
def PenaltiesSourceUptoCardSaid : Prop := Claim7.holds Tryz.pinned (.plain (OpenSpec.upto penaltiesSourceSpec)) penaltiesSourceUptoCard

/-- THE SECOND FORM's CARD OF 'stopwatchlaw22.PenaltiesPoint'. -/
def penaltiesPointUptoCard : Claim7 := { stood := { row := penaltiesPointUptoRow, standIns := [], harness := (true, "10739c827497cc633f8e392afe80a78d86e7f3d537fe5a62c91df1b93f8f757f"), looks := true }, kinds := [], alts := [], laidByText := true, laidKinds := [.data, .data, .data, .data, .data, .data, .data, .data, .data, .data, .data], laidTests := true, laidLooks := .later }
def PenaltiesPointUptoCardSaid : Prop := Claim7.holds Tryz.pinned (.plain (OpenSpec.upto penaltiesPointSpec)) penaltiesPointUptoCard
end Rows
end Go.Proofs.YtckiejaapddafaaGreatDoor
