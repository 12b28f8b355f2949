/-
  DERIVED. GIVEN WITH THE SEED: THE CARDS: each row of YtkjlhfabbbomjaaGreatDoorRows.lean that lists a variable, with what it lists TIED to the program's text (the seventh form; the later family's looks); each row that meets fmt, with fmt's text TOLD by the authors' own Lean function (tested against real Go, not proved from fmt's source: count such statements apart). THE CARD IS WHAT COUNTS. Prove the row's statement (the work); the ties are given (YtkjlhfabbbomjaaGreatDoorTie.lean); close each card by the builder's one call (the guide's Derived/Test/ToyasCard.lean, 'card_holds'). Laid BY PROGRAM, IN A SANDBOX (cutbox-door.mjs). By AI agents, Wed Nov 11 2026. No macro, syntax, notation, axiom, sorry.
-/
import Derived.Test.YtkjlhfabbbomjaaGreatDoorRows
import GoSem.ClaimSeven
namespace Go.Proofs.YtkjlhfabbbomjaaGreatDoor
namespace Rows

/-- THE TIED CARD OF 'stopwatchlaw18.ChipsStartersSpec'. -/
def chipsStartersSpecCard : Claim7 := { stood := { row := chipsStartersSpecRow, standIns := [], harness := (true, "6dfa60a765af17ea31eb1947e16a9843e46f3e5baadb636f98dff1b80fcbac50"), looks := true }, kinds := [], alts := [], laidByText := true, laidKinds := [.data, .data, .data, .data, .data, .data, .data, .data, .data, .data, .data], laidTests := true, laidLooks := .later }
def ChipsStartersSpecCardSaid : Prop := Claim7.holds Tryz.pinned (.plain (OpenSpec.ofChange chipsStartersSpecSpec)) chipsStartersSpecCard

/-- THE TIED CARD OF 'stopwatchlaw18.ChipsChipSpec'. -/
def chipsChipSpecCard : Claim7 := { stood := { row := chipsChipSpecRow, standIns := [], harness := (true, "6dfa60a765af17ea31eb1947e16a9843e46f3e5baadb636f98dff1b80fcbac50"), looks := true }, kinds := [], alts := [], laidByText := true, laidKinds := [.data, .data, .data, .data, .data, .data, .data, .data, .data, .data, .data], laidTests := true, laidLooks := .later }
def ChipsChipSpecCardSaid : Prop := Claim7.holds Tryz.pinned (.plain (OpenSpec.ofChange chipsChipSpecSpec)) chipsChipSpecCard

/-- THE TIED CARD OF 'stopwatchlaw18.ChipsWorlds'. -/
def chipsWorldsCard : Claim7 := { stood := { row := chipsWorldsRow, standIns := [], harness := (true, "6dfa60a765af17ea31eb1947e16a9843e46f3e5baadb636f98dff1b80fcbac50"), looks := true }, kinds := [], alts := [], laidByText := true, laidKinds := [.data, .data, .data, .data, .data, .data, .data, .data, .data, .data, .data], laidTests := true, laidLooks := .later }
def ChipsWorldsCardSaid : Prop := Claim7.holds Tryz.pinned (.plain (OpenSpec.ofChange chipsWorldsSpec)) chipsWorldsCard

/-- THE TIED CARD OF 'stopwatchlaw18.ChipsOrder'. -/
def chipsOrderCard : Claim7 := { stood := { row := chipsOrderRow, standIns := [], harness := (true, "6dfa60a765af17ea31eb1947e16a9843e46f3e5baadb636f98dff1b80fcbac50"), looks := true }, kinds := [], alts := [], laidByText := true, laidKinds := [.data, .data, .data, .data, .data, .data, .data, .data, .data, .data, .data], laidTests := true, laidLooks := .later }
def ChipsOrderCardSaid : Prop := Claim7.holds Tryz.pinned (.plain (OpenSpec.ofChange chipsOrderSpec)) chipsOrderCard

/-- THE TIED CARD OF 'stopwatchlaw18.ChipsFirst'. -/
def chipsFirstCard : Claim7 := { stood := { row := chipsFirstRow, standIns := [], harness := (true, "6dfa60a765af17ea31eb1947e16a9843e46f3e5baadb636f98dff1b80fcbac50"), looks := true }, kinds := [], alts := [], laidByText := true, laidKinds := [.data, .data, .data, .data, .data, .data, .data, .data, .data, .data, .data], laidTests := true, laidLooks := .later }
def ChipsFirstCardSaid : Prop := Claim7.holds Tryz.pinned (.plain (OpenSpec.ofChange chipsFirstSpec)) chipsFirstCard

/-- THE TIED CARD OF 'stopwatchlaw18.ChipsPairs'. -/
def chipsPairsCard : Claim7 := { stood := { row := chipsPairsRow, standIns := [], harness := (true, "6dfa60a765af17ea31eb1947e16a9843e46f3e5baadb636f98dff1b80fcbac50"), looks := true }, kinds := [], alts := [], laidByText := true, laidKinds := [.data, .data, .data, .data, .data, .data, .data, .data, .data, .data, .data], laidTests := true, laidLooks := .later }
def ChipsPairsCardSaid : Prop := Claim7.holds Tryz.pinned (.plain (OpenSpec.ofChange chipsPairsSpec)) chipsPairsCard

/-- THE TIED CARD OF 'stopwatchlaw18.ChipsExchange'. -/
def chipsExchangeCard : Claim7 := { stood := { row := chipsExchangeRow, standIns := [], harness := (true, "6dfa60a765af17ea31eb1947e16a9843e46f3e5baadb636f98dff1b80fcbac50"), looks := true }, kinds := [], alts := [], laidByText := true, laidKinds := [.data, .data, .data, .data, .data, .data, .data, .data, .data, .data, .data], laidTests := true, laidLooks := .later }
def ChipsExchangeCardSaid : Prop := Claim7.holds Tryz.pinned (.plain (OpenSpec.ofChange chipsExchangeSpec)) chipsExchangeCard

/-- THE SECOND FORM's CARD OF 'stopwatchlaw18.ChipsStartersSpec'. -/
def chipsStartersSpecUptoCard : Claim7 := { stood := { row := chipsStartersSpecUptoRow, standIns := [], harness := (true, "6dfa60a765af17ea31eb1947e16a9843e46f3e5baadb636f98dff1b80fcbac50"), looks := true }, kinds := [], alts := [], laidByText := true, laidKinds := [.data, .data, .data, .data, .data, .data, .data, .data, .data, .data, .data], laidTests := true, laidLooks := .later }
def ChipsStartersSpecUptoCardSaid : Prop := Claim7.holds Tryz.pinned (.plain (OpenSpec.upto chipsStartersSpecSpec)) chipsStartersSpecUptoCard

/-- THE SECOND FORM's CARD OF 'stopwatchlaw18.ChipsChipSpec'. -/
def chipsChipSpecUptoCard : Claim7 := { stood := { row := chipsChipSpecUptoRow, standIns := [], harness := (true, "6dfa60a765af17ea31eb1947e16a9843e46f3e5baadb636f98dff1b80fcbac50"), looks := true }, kinds := [], alts := [], laidByText := true, laidKinds := [.data, .data, .data, .data, .data, .data, .data, .data, .data, .data, .data], laidTests := true, laidLooks := .later }
def ChipsChipSpecUptoCardSaid : Prop := Claim7.holds Tryz.pinned (.plain (OpenSpec.upto chipsChipSpecSpec)) chipsChipSpecUptoCard

/-- THE SECOND FORM's CARD OF 'stopwatchlaw18.ChipsWorlds'. -/
def chipsWorldsUptoCard : Claim7 := { stood := { row := chipsWorldsUptoRow, standIns := [], harness := (true, "6dfa60a765af17ea31eb1947e16a9843e46f3e5baadb636f98dff1b80fcbac50"), looks := true }, kinds := [], alts := [], laidByText := true, laidKinds := [.data, .data, .data, .data, .data, .data, .data, .data, .data, .data, .data], laidTests := true, laidLooks := .later }
def ChipsWorldsUptoCardSaid : Prop := Claim7.holds Tryz.pinned (.plain (OpenSpec.upto chipsWorldsSpec)) chipsWorldsUptoCard

/-- THE SECOND FORM's CARD OF 'stopwatchlaw18.ChipsOrder'. -/
def chipsOrderUptoCard : Claim7 := { stood := { row := chipsOrderUptoRow, standIns := [], harness := (true, "6dfa60a765af17ea31eb1947e16a9843e46f3e5baadb636f98dff1b80fcbac50"), looks := true }, kinds := [], alts := [], laidByText := true, laidKinds := [.data, .data, .data, .data, .data, .data, .data, .data, .data, .data, .data], laidTests := true, laidLooks := .later }
def ChipsOrderUptoCardSaid : Prop := Claim7.holds Tryz.pinned (.plain (OpenSpec.upto chipsOrderSpec)) chipsOrderUptoCard

/-- THE SECOND FORM's CARD OF 'stopwatchlaw18.ChipsFirst'. -/
def chipsFirstUptoCard : Claim7 := { stood := { row := chipsFirstUptoRow, standIns := [], harness := (true, "6dfa60a765af17ea31eb1947e16a9843e46f3e5baadb636f98dff1b80fcbac50"), looks := true }, kinds := [], alts := [], laidByText := true, laidKinds := [.data, .data, .data, .data, .data, .data, .data, .data, .data, .data, .data], laidTests := true, laidLooks := .later }
def ChipsFirstUptoCardSaid : Prop := Claim7.holds Tryz.pinned (.plain (OpenSpec.upto chipsFirstSpec)) chipsFirstUptoCard

/-- THE SECOND FORM's CARD OF 'stopwatchlaw18.ChipsPairs'. -/
def chipsPairsUptoCard : Claim7 := { stood := { row := chipsPairsUptoRow, standIns := [], harness := (true, "6dfa60a765af17ea31eb1947e16a9843e46f3e5baadb636f98dff1b80fcbac50"), looks := true }, kinds := [], alts := [], laidByText := true, laidKinds := [.data, .data, .data, .data, .data, .data, .data, .data, .data, .data, .data], laidTests := true, laidLooks := .later }
def ChipsPairsUptoCardSaid : Prop := Claim7.holds Tryz.pinned (.plain (OpenSpec.upto chipsPairsSpec)) chipsPairsUptoCard

/-- THE SECOND FORM's CARD OF 'stopwatchlaw18.ChipsExchange'. -/
def chipsExchangeUptoCard : Claim7 := { stood := { row := chipsExchangeUptoRow, standIns := [], harness := (true, "6dfa60a765af17ea31eb1947e16a9843e46f3e5baadb636f98dff1b80fcbac50"), looks := true }, kinds := [], alts := [], laidByText := true, laidKinds := [.data, .data, .data, .data, .data, .data, .data, .data, .data, .data, .data], laidTests := true, laidLooks := .later }
def ChipsExchangeUptoCardSaid : Prop := Claim7.holds Tryz.pinned (.plain (OpenSpec.upto chipsExchangeSpec)) chipsExchangeUptoCard
end Rows
end Go.Proofs.YtkjlhfabbbomjaaGreatDoor
