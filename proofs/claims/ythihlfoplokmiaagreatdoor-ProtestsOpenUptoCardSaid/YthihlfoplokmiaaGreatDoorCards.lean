/-
  DERIVED. GIVEN WITH THE SEED: THE CARDS: each row of YthihlfoplokmiaaGreatDoorRows.lean that lists a variable, with what it lists TIED to the program's text (the seventh form; the later family's looks); each row that meets fmt, with fmt's text TOLD by the authors' own Lean function (tested against real Go, not proved from fmt's source: count such statements apart). THE CARD IS WHAT COUNTS. Prove the row's statement (the work); the ties are given (YthihlfoplokmiaaGreatDoorTie.lean); close each card by the builder's one call (the guide's Derived/Test/ToyasCard.lean, 'card_holds'). Laid BY PROGRAM, IN A SANDBOX (cutbox-door.mjs). By AI agents, Wed Nov 11 2026. No macro, syntax, notation, axiom, sorry.
-/
import Derived.Test.YthihlfoplokmiaaGreatDoorRows
import GoSem.ClaimSeven
namespace Go.Proofs.YthihlfoplokmiaaGreatDoor
namespace Rows

/-- THE TIED CARD OF 'stopwatchlaw21.ProtestsStandingSpec'. -/
def protestsStandingSpecCard : Claim7 := { stood := { row := protestsStandingSpecRow, standIns := [], harness := (true, "71f104001439fcce0a9809762408543d4462d0acef636dfa91bd798ab0ecfc3e"), looks := true }, kinds := [], alts := [], laidByText := true, laidKinds := [.data, .data, .data, .data, .data, .data, .data, .data, .data, .data, .data], laidTests := true, laidLooks := .later }
def ProtestsStandingSpecCardSaid : Prop := Claim7.holds Tryz.pinned (.plain (OpenSpec.ofChange protestsStandingSpecSpec)) protestsStandingSpecCard

/-- THE TIED CARD OF 'stopwatchlaw21.ProtestsAdmissibleSpec'. -/
def protestsAdmissibleSpecCard : Claim7 := { stood := { row := protestsAdmissibleSpecRow, standIns := [], harness := (true, "71f104001439fcce0a9809762408543d4462d0acef636dfa91bd798ab0ecfc3e"), looks := true }, kinds := [], alts := [], laidByText := true, laidKinds := [.data, .data, .data, .data, .data, .data, .data, .data, .data, .data, .data], laidTests := true, laidLooks := .later }
def ProtestsAdmissibleSpecCardSaid : Prop := Claim7.holds Tryz.pinned (.plain (OpenSpec.ofChange protestsAdmissibleSpecSpec)) protestsAdmissibleSpecCard

/-- THE TIED CARD OF 'stopwatchlaw21.ProtestsOrder'. -/
def protestsOrderCard : Claim7 := { stood := { row := protestsOrderRow, standIns := [], harness := (true, "71f104001439fcce0a9809762408543d4462d0acef636dfa91bd798ab0ecfc3e"), looks := true }, kinds := [], alts := [], laidByText := true, laidKinds := [.data, .data, .data, .data, .data, .data, .data, .data, .data, .data, .data], laidTests := true, laidLooks := .later }
def ProtestsOrderCardSaid : Prop := Claim7.holds Tryz.pinned (.plain (OpenSpec.ofChange protestsOrderSpec)) protestsOrderCard

/-- THE TIED CARD OF 'stopwatchlaw21.ProtestsLater'. -/
def protestsLaterCard : Claim7 := { stood := { row := protestsLaterRow, standIns := [], harness := (true, "71f104001439fcce0a9809762408543d4462d0acef636dfa91bd798ab0ecfc3e"), looks := true }, kinds := [], alts := [], laidByText := true, laidKinds := [.data, .data, .data, .data, .data, .data, .data, .data, .data, .data, .data], laidTests := true, laidLooks := .later }
def ProtestsLaterCardSaid : Prop := Claim7.holds Tryz.pinned (.plain (OpenSpec.ofChange protestsLaterSpec)) protestsLaterCard

/-- THE TIED CARD OF 'stopwatchlaw21.ProtestsOfficial'. -/
def protestsOfficialCard : Claim7 := { stood := { row := protestsOfficialRow, standIns := [], harness := (true, "71f104001439fcce0a9809762408543d4462d0acef636dfa91bd798ab0ecfc3e"), looks := true }, kinds := [], alts := [], laidByText := true, laidKinds := [.data, .data, .data, .data, .data, .data, .data, .data, .data, .data, .data], laidTests := true, laidLooks := .later }
def ProtestsOfficialCardSaid : Prop := Claim7.holds Tryz.pinned (.plain (OpenSpec.ofChange protestsOfficialSpec)) protestsOfficialCard

/-- THE TIED CARD OF 'stopwatchlaw21.ProtestsOpen'. -/
def protestsOpenCard : Claim7 := { stood := { row := protestsOpenRow, standIns := [], harness := (true, "71f104001439fcce0a9809762408543d4462d0acef636dfa91bd798ab0ecfc3e"), looks := true }, kinds := [], alts := [], laidByText := true, laidKinds := [.data, .data, .data, .data, .data, .data, .data, .data, .data, .data, .data], laidTests := true, laidLooks := .later }
def ProtestsOpenCardSaid : Prop := Claim7.holds Tryz.pinned (.plain (OpenSpec.ofChange protestsOpenSpec)) protestsOpenCard

/-- THE TIED CARD OF 'stopwatchlaw21.ProtestsDeadline'. -/
def protestsDeadlineCard : Claim7 := { stood := { row := protestsDeadlineRow, standIns := [], harness := (true, "71f104001439fcce0a9809762408543d4462d0acef636dfa91bd798ab0ecfc3e"), looks := true }, kinds := [], alts := [], laidByText := true, laidKinds := [.data, .data, .data, .data, .data, .data, .data, .data, .data, .data, .data], laidTests := true, laidLooks := .later }
def ProtestsDeadlineCardSaid : Prop := Claim7.holds Tryz.pinned (.plain (OpenSpec.ofChange protestsDeadlineSpec)) protestsDeadlineCard

/-- THE SECOND FORM's CARD OF 'stopwatchlaw21.ProtestsStandingSpec'. -/
def protestsStandingSpecUptoCard : Claim7 := { stood := { row := protestsStandingSpecUptoRow, standIns := [], harness := (true, "71f104001439fcce0a9809762408543d4462d0acef636dfa91bd798ab0ecfc3e"), looks := true }, kinds := [], alts := [], laidByText := true, laidKinds := [.data, .data, .data, .data, .data, .data, .data, .data, .data, .data, .data], laidTests := true, laidLooks := .later }
def ProtestsStandingSpecUptoCardSaid : Prop := Claim7.holds Tryz.pinned (.plain (OpenSpec.upto protestsStandingSpecSpec)) protestsStandingSpecUptoCard

/-- THE SECOND FORM's CARD OF 'stopwatchlaw21.ProtestsAdmissibleSpec'. -/
def protestsAdmissibleSpecUptoCard : Claim7 := { stood := { row := protestsAdmissibleSpecUptoRow, standIns := [], harness := (true, "71f104001439fcce0a9809762408543d4462d0acef636dfa91bd798ab0ecfc3e"), looks := true }, kinds := [], alts := [], laidByText := true, laidKinds := [.data, .data, .data, .data, .data, .data, .data, .data, .data, .data, .data], laidTests := true, laidLooks := .later }
def ProtestsAdmissibleSpecUptoCardSaid : Prop := Claim7.holds Tryz.pinned (.plain (OpenSpec.upto protestsAdmissibleSpecSpec)) protestsAdmissibleSpecUptoCard

/-- THE SECOND FORM's CARD OF 'stopwatchlaw21.ProtestsOrder'. -/
def protestsOrderUptoCard : Claim7 := { stood := { row := protestsOrderUptoRow, standIns := [], harness := (true, "71f104001439fcce0a9809762408543d4462d0acef636dfa91bd798ab0ecfc3e"), looks := true }, kinds := [], alts := [], laidByText := true, laidKinds := [.data, .data, .data, .data, .data, .data, .data, .data, .data, .data, .data], laidTests := true, laidLooks := .later }
def ProtestsOrderUptoCardSaid : Prop := Claim7.holds Tryz.pinned (.plain (OpenSpec.upto protestsOrderSpec)) protestsOrderUptoCard

/-- THE SECOND FORM's CARD OF 'stopwatchlaw21.ProtestsLater'. -/
def protestsLaterUptoCard : Claim7 := { stood := { row := protestsLaterUptoRow, standIns := [], harness := (true, "71f104001439fcce0a9809762408543d4462d0acef636dfa91bd798ab0ecfc3e"), looks := true }, kinds := [], alts := [], laidByText := true, laidKinds := [.data, .data, .data, .data, .data, .data, .data, .data, .data, .data, .data], laidTests := true, laidLooks := .later }
def ProtestsLaterUptoCardSaid : Prop := Claim7.holds Tryz.pinned (.plain (OpenSpec.upto protestsLaterSpec)) protestsLaterUptoCard

/-- THE SECOND FORM's CARD OF 'stopwatchlaw21.ProtestsOfficial'. -/
def protestsOfficialUptoCard : Claim7 := { stood := { row := protestsOfficialUptoRow, standIns := [], harness := (true, "71f104001439fcce0a9809762408543d4462d0acef636dfa91bd798ab0ecfc3e"), looks := true }, kinds := [], alts := [], laidByText := true, laidKinds := [.data, .data, .data, .data, .data, .data, .data, .data, .data, .data, .data], laidTests := true, laidLooks := .later }
def ProtestsOfficialUptoCardSaid : Prop := Claim7.holds Tryz.pinned (.plain (OpenSpec.upto protestsOfficialSpec)) protestsOfficialUptoCard

/-- THE SECOND FORM's CARD OF 'stopwatchlaw21.ProtestsOpen'. -/
def protestsOpenUptoCard : Claim7 := { stood := { row := protestsOpenUptoRow, standIns := [], harness := (true, "71f104001439fcce0a9809762408543d4462d0acef636dfa91bd798ab0ecfc3e"), looks := true }, kinds := [], alts := [], laidByText := true, laidKinds := [.data, .data, .data, .data, .data, .data, .data, .data, .data, .data, .data], laidTests := true, laidLooks := .later }
def ProtestsOpenUptoCardSaid : Prop := Claim7.holds Tryz.pinned (.plain (OpenSpec.upto protestsOpenSpec)) protestsOpenUptoCard

/-- THE SECOND FORM's CARD OF 'stopwatchlaw21.ProtestsDeadline'. -/
def protestsDeadlineUptoCard : Claim7 := { stood := { row := protestsDeadlineUptoRow, standIns := [], harness := (true, "71f104001439fcce0a9809762408543d4462d0acef636dfa91bd798ab0ecfc3e"), looks := true }, kinds := [], alts := [], laidByText := true, laidKinds := [.data, .data, .data, .data, .data, .data, .data, .data, .data, .data, .data], laidTests := true, laidLooks := .later }
def ProtestsDeadlineUptoCardSaid : Prop := Claim7.holds Tryz.pinned (.plain (OpenSpec.upto protestsDeadlineSpec)) protestsDeadlineUptoCard
end Rows
end Go.Proofs.YthihlfoplokmiaaGreatDoor
