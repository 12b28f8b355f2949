/-
  DERIVED. GIVEN WITH THE SEED: THE CARDS: each row of YtbhpipneolcmkaaGreatDoorRows.lean that lists a variable, with what it lists TIED to the program's text (the seventh form; the later family's looks); each row that meets fmt, with fmt's text TOLD by the authors' own Lean function (tested against real Go, not proved from fmt's source: count such statements apart). THE CARD IS WHAT COUNTS. Prove the row's statement (the work); the ties are given (YtbhpipneolcmkaaGreatDoorTie.lean); close each card by the builder's one call (the guide's Derived/Test/ToyasCard.lean, 'card_holds'). Laid BY PROGRAM, IN A SANDBOX (cutbox-door.mjs). By AI agents, Wed Nov 11 2026. No macro, syntax, notation, axiom, sorry.
-/
import Derived.Test.YtbhpipneolcmkaaGreatDoorRows
import GoSem.ClaimSeven
namespace Go.Proofs.YtbhpipneolcmkaaGreatDoor
namespace Rows

/-- THE TIED CARD OF 'stopwatchlaw21.ProtestsStandingSpec'. -/
def protestsStandingSpecCard : Claim7 := { stood := { row := protestsStandingSpecRow, standIns := [], harness := (true, "4825b1a06e4ea6b1bf84f8e853286446527d6c605ecd4b5f4268fd68c656e493"), looks := true }, kinds := [], alts := [], laidByText := true, laidKinds := [.data, .data, .data, .data, .data, .data, .data, .data, .data, .data, .data], laidTests := true, laidLooks := .later }
def ProtestsStandingSpecCardSaid : Prop := Claim7.holds Tryz.pinned (.plain (OpenSpec.ofChange protestsStandingSpecSpec)) protestsStandingSpecCard

/-- THE TIED CARD OF 'stopwatchlaw21.ProtestsAdmissibleSpec'. -/
def protestsAdmissibleSpecCard : Claim7 := { stood := { row := protestsAdmissibleSpecRow, standIns := [], harness := (true, "4825b1a06e4ea6b1bf84f8e853286446527d6c605ecd4b5f4268fd68c656e493"), looks := true }, kinds := [], alts := [], laidByText := true, laidKinds := [.data, .data, .data, .data, .data, .data, .data, .data, .data, .data, .data], laidTests := true, laidLooks := .later }
def ProtestsAdmissibleSpecCardSaid : Prop := Claim7.holds Tryz.pinned (.plain (OpenSpec.ofChange protestsAdmissibleSpecSpec)) protestsAdmissibleSpecCard

/-- THE SECOND FORM's CARD OF 'stopwatchlaw21.ProtestsStandingSpec'. -/
def protestsStandingSpecUptoCard : Claim7 := { stood := { row := protestsStandingSpecUptoRow, standIns := [], harness := (true, "4825b1a06e4ea6b1bf84f8e853286446527d6c605ecd4b5f4268fd68c656e493"), looks := true }, kinds := [], alts := [], laidByText := true, laidKinds := [.data, .data, .data, .data, .data, .data, .data, .data, .data, .data, .data], laidTests := true, laidLooks := .later }
def ProtestsStandingSpecUptoCardSaid : Prop := Claim7.holds Tryz.pinned (.plain (OpenSpec.upto protestsStandingSpecSpec)) protestsStandingSpecUptoCard

/-- THE SECOND FORM's CARD OF 'stopwatchlaw21.ProtestsAdmissibleSpec'. -/
def protestsAdmissibleSpecUptoCard : Claim7 := { stood := { row := protestsAdmissibleSpecUptoRow, standIns := [], harness := (true, "4825b1a06e4ea6b1bf84f8e853286446527d6c605ecd4b5f4268fd68c656e493"), looks := true }, kinds := [], alts := [], laidByText := true, laidKinds := [.data, .data, .data, .data, .data, .data, .data, .data, .data, .data, .data], laidTests := true, laidLooks := .later }
def ProtestsAdmissibleSpecUptoCardSaid : Prop := Claim7.holds Tryz.pinned (.plain (OpenSpec.upto protestsAdmissibleSpecSpec)) protestsAdmissibleSpecUptoCard
end Rows
end Go.Proofs.YtbhpipneolcmkaaGreatDoor
