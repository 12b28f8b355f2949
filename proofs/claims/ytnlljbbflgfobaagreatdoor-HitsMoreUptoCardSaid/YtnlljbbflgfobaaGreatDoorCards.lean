/-
  DERIVED. GIVEN WITH THE SEED: THE CARDS: each row of YtnlljbbflgfobaaGreatDoorRows.lean that lists a variable, with what it lists TIED to the program's text (the seventh form; the later family's looks); each row that meets fmt, with fmt's text TOLD by the authors' own Lean function (tested against real Go, not proved from fmt's source: count such statements apart). THE CARD IS WHAT COUNTS. Prove the row's statement (the work); the ties are given (YtnlljbbflgfobaaGreatDoorTie.lean); close each card by the builder's one call (the guide's Derived/Test/ToyasCard.lean, 'card_holds'). Laid BY PROGRAM, IN A SANDBOX (cutbox-door.mjs). By AI agents, Wed Nov 11 2026. No macro, syntax, notation, axiom, sorry.
-/
import Derived.Test.YtnlljbbflgfobaaGreatDoorRows
import GoSem.ClaimSeven
namespace Go.Proofs.YtnlljbbflgfobaaGreatDoor
namespace Rows

/-- THE TIED CARD OF 'stopwatchlaw17.HitsReadSpec'. -/
def hitsReadSpecCard : Claim7 := { stood := { row := hitsReadSpecRow, standIns := [], harness := (true, "8f02c4153d12c350b4697aba3a17262ba3cb9b11a3fa26f6319d16cd854833e0"), looks := true }, kinds := [], alts := [], laidByText := true, laidKinds := [.data, .data, .data, .data, .data, .data, .data, .data, .data, .data, .data], laidTests := true, laidLooks := .later }
def HitsReadSpecCardSaid : Prop := Claim7.holds Tryz.pinned (.plain (OpenSpec.ofChange hitsReadSpecSpec)) hitsReadSpecCard

/-- THE TIED CARD OF 'stopwatchlaw17.HitsCheckSpec'. -/
def hitsCheckSpecCard : Claim7 := { stood := { row := hitsCheckSpecRow, standIns := [], harness := (true, "8f02c4153d12c350b4697aba3a17262ba3cb9b11a3fa26f6319d16cd854833e0"), looks := true }, kinds := [], alts := [], laidByText := true, laidKinds := [.data, .data, .data, .data, .data, .data, .data, .data, .data, .data, .data], laidTests := true, laidLooks := .later }
def HitsCheckSpecCardSaid : Prop := Claim7.holds Tryz.pinned (.plain (OpenSpec.ofChange hitsCheckSpecSpec)) hitsCheckSpecCard

/-- THE TIED CARD OF 'stopwatchlaw17.HitsCover'. -/
def hitsCoverCard : Claim7 := { stood := { row := hitsCoverRow, standIns := [], harness := (true, "8f02c4153d12c350b4697aba3a17262ba3cb9b11a3fa26f6319d16cd854833e0"), looks := true }, kinds := [], alts := [], laidByText := true, laidKinds := [.data, .data, .data, .data, .data, .data, .data, .data, .data, .data, .data], laidTests := true, laidLooks := .later }
def HitsCoverCardSaid : Prop := Claim7.holds Tryz.pinned (.plain (OpenSpec.ofChange hitsCoverSpec)) hitsCoverCard

/-- THE TIED CARD OF 'stopwatchlaw17.HitsSet'. -/
def hitsSetCard : Claim7 := { stood := { row := hitsSetRow, standIns := [], harness := (true, "8f02c4153d12c350b4697aba3a17262ba3cb9b11a3fa26f6319d16cd854833e0"), looks := true }, kinds := [], alts := [], laidByText := true, laidKinds := [.data, .data, .data, .data, .data, .data, .data, .data, .data, .data, .data], laidTests := true, laidLooks := .later }
def HitsSetCardSaid : Prop := Claim7.holds Tryz.pinned (.plain (OpenSpec.ofChange hitsSetSpec)) hitsSetCard

/-- THE TIED CARD OF 'stopwatchlaw17.HitsMore'. -/
def hitsMoreCard : Claim7 := { stood := { row := hitsMoreRow, standIns := [], harness := (true, "8f02c4153d12c350b4697aba3a17262ba3cb9b11a3fa26f6319d16cd854833e0"), looks := true }, kinds := [], alts := [], laidByText := true, laidKinds := [.data, .data, .data, .data, .data, .data, .data, .data, .data, .data, .data], laidTests := true, laidLooks := .later }
def HitsMoreCardSaid : Prop := Claim7.holds Tryz.pinned (.plain (OpenSpec.ofChange hitsMoreSpec)) hitsMoreCard

/-- THE SECOND FORM's CARD OF 'stopwatchlaw17.HitsReadSpec'. -/
def hitsReadSpecUptoCard : Claim7 := { stood := { row := hitsReadSpecUptoRow, standIns := [], harness := (true, "8f02c4153d12c350b4697aba3a17262ba3cb9b11a3fa26f6319d16cd854833e0"), looks := true }, kinds := [], alts := [], laidByText := true, laidKinds := [.data, .data, .data, .data, .data, .data, .data, .data, .data, .data, .data], laidTests := true, laidLooks := .later }
def HitsReadSpecUptoCardSaid : Prop := Claim7.holds Tryz.pinned (.plain (OpenSpec.upto hitsReadSpecSpec)) hitsReadSpecUptoCard

/-- THE SECOND FORM's CARD OF 'stopwatchlaw17.HitsCheckSpec'. -/
def hitsCheckSpecUptoCard : Claim7 := { stood := { row := hitsCheckSpecUptoRow, standIns := [], harness := (true, "8f02c4153d12c350b4697aba3a17262ba3cb9b11a3fa26f6319d16cd854833e0"), looks := true }, kinds := [], alts := [], laidByText := true, laidKinds := [.data, .data, .data, .data, .data, .data, .data, .data, .data, .data, .data], laidTests := true, laidLooks := .later }
def HitsCheckSpecUptoCardSaid : Prop := Claim7.holds Tryz.pinned (.plain (OpenSpec.upto hitsCheckSpecSpec)) hitsCheckSpecUptoCard

/-- THE SECOND FORM's CARD OF 'stopwatchlaw17.HitsCover'. -/
def hitsCoverUptoCard : Claim7 := { stood := { row := hitsCoverUptoRow, standIns := [], harness := (true, "8f02c4153d12c350b4697aba3a17262ba3cb9b11a3fa26f6319d16cd854833e0"), looks := true }, kinds := [], alts := [], laidByText := true, laidKinds := [.data, .data, .data, .data, .data, .data, .data, .data, .data, .data, .data], laidTests := true, laidLooks := .later }
def HitsCoverUptoCardSaid : Prop := Claim7.holds Tryz.pinned (.plain (OpenSpec.upto hitsCoverSpec)) hitsCoverUptoCard

/-- THE SECOND FORM's CARD OF 'stopwatchlaw17.HitsSet'. -/
def hitsSetUptoCard : Claim7 := { stood := { row := hitsSetUptoRow, standIns := [], harness := (true, "8f02c4153d12c350b4697aba3a17262ba3cb9b11a3fa26f6319d16cd854833e0"), looks := true }, kinds := [], alts := [], laidByText := true, laidKinds := [.data, .data, .data, .data, .data, .data, .data, .data, .data, .data, .data], laidTests := true, laidLooks := .later }
def HitsSetUptoCardSaid : Prop := Claim7.holds Tryz.pinned (.plain (OpenSpec.upto hitsSetSpec)) hitsSetUptoCard

/-- THE SECOND FORM's CARD OF 'stopwatchlaw17.HitsMore'. -/
def hitsMoreUptoCard : Claim7 := { stood := { row := hitsMoreUptoRow, standIns := [], harness := (true, "8f02c4153d12c350b4697aba3a17262ba3cb9b11a3fa26f6319d16cd854833e0"), looks := true }, kinds := [], alts := [], laidByText := true, laidKinds := [.data, .data, .data, .data, .data, .data, .data, .data, .data, .data, .data], laidTests := true, laidLooks := .later }
def HitsMoreUptoCardSaid : Prop := Claim7.holds Tryz.pinned (.plain (OpenSpec.upto hitsMoreSpec)) hitsMoreUptoCard
end Rows
end Go.Proofs.YtnlljbbflgfobaaGreatDoor
