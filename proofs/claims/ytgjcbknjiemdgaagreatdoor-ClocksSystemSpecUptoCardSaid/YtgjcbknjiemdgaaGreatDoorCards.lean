/-
  DERIVED. GIVEN WITH THE SEED: THE CARDS: each row of YtgjcbknjiemdgaaGreatDoorRows.lean that lists a variable, with what it lists TIED to the program's text (the seventh form; the later family's looks); each row that meets fmt, with fmt's text TOLD by the authors' own Lean function (tested against real Go, not proved from fmt's source: count such statements apart). THE CARD IS WHAT COUNTS. Prove the row's statement (the work); the ties are given (YtgjcbknjiemdgaaGreatDoorTie.lean); close each card by the builder's one call (the guide's Derived/Test/ToyasCard.lean, 'card_holds'). Laid BY PROGRAM, IN A SANDBOX (cutbox-door.mjs). By AI agents, Wed Nov 11 2026. No macro, syntax, notation, axiom, sorry.
-/
import Derived.Test.YtgjcbknjiemdgaaGreatDoorRows
import GoSem.ClaimSeven
namespace Go.Proofs.YtgjcbknjiemdgaaGreatDoor
namespace Rows

/-- THE TIED CARD OF 'stopwatchlaw16.ClocksSegmentsSpec'. -/
def clocksSegmentsSpecCard : Claim7 := { stood := { row := clocksSegmentsSpecRow, standIns := [], harness := (true, "7949b64e13863c512d8e5c4eaea95828d9c350bc9f642a3569218b8f5314b504"), looks := true }, kinds := [], alts := [], laidByText := true, laidKinds := [.data, .data, .data, .data, .data, .data, .data, .data, .data, .data, .data], laidTests := true, laidLooks := .later }
def ClocksSegmentsSpecCardSaid : Prop := Claim7.holds Tryz.pinned (.plain (OpenSpec.ofChange clocksSegmentsSpecSpec)) clocksSegmentsSpecCard

/-- THE TIED CARD OF 'stopwatchlaw16.ClocksSystemSpec'. -/
def clocksSystemSpecCard : Claim7 := { stood := { row := clocksSystemSpecRow, standIns := [], harness := (true, "7949b64e13863c512d8e5c4eaea95828d9c350bc9f642a3569218b8f5314b504"), looks := true }, kinds := [], alts := [], laidByText := true, laidKinds := [.data, .data, .data, .data, .data, .data, .data, .data, .data, .data, .data], laidTests := true, laidLooks := .later }
def ClocksSystemSpecCardSaid : Prop := Claim7.holds Tryz.pinned (.plain (OpenSpec.ofChange clocksSystemSpecSpec)) clocksSystemSpecCard

/-- THE TIED CARD OF 'stopwatchlaw16.ClocksAlignSpec'. -/
def clocksAlignSpecCard : Claim7 := { stood := { row := clocksAlignSpecRow, standIns := [], harness := (true, "7949b64e13863c512d8e5c4eaea95828d9c350bc9f642a3569218b8f5314b504"), looks := true }, kinds := [], alts := [], laidByText := true, laidKinds := [.data, .data, .data, .data, .data, .data, .data, .data, .data, .data, .data], laidTests := true, laidLooks := .later }
def ClocksAlignSpecCardSaid : Prop := Claim7.holds Tryz.pinned (.plain (OpenSpec.ofChange clocksAlignSpecSpec)) clocksAlignSpecCard

/-- THE TIED CARD OF 'stopwatchlaw16.ClocksContradict'. -/
def clocksContradictCard : Claim7 := { stood := { row := clocksContradictRow, standIns := [], harness := (true, "7949b64e13863c512d8e5c4eaea95828d9c350bc9f642a3569218b8f5314b504"), looks := true }, kinds := [], alts := [], laidByText := true, laidKinds := [.data, .data, .data, .data, .data, .data, .data, .data, .data, .data, .data], laidTests := true, laidLooks := .later }
def ClocksContradictCardSaid : Prop := Claim7.holds Tryz.pinned (.plain (OpenSpec.ofChange clocksContradictSpec)) clocksContradictCard

/-- THE TIED CARD OF 'stopwatchlaw16.ClocksSet'. -/
def clocksSetCard : Claim7 := { stood := { row := clocksSetRow, standIns := [], harness := (true, "7949b64e13863c512d8e5c4eaea95828d9c350bc9f642a3569218b8f5314b504"), looks := true }, kinds := [], alts := [], laidByText := true, laidKinds := [.data, .data, .data, .data, .data, .data, .data, .data, .data, .data, .data], laidTests := true, laidLooks := .later }
def ClocksSetCardSaid : Prop := Claim7.holds Tryz.pinned (.plain (OpenSpec.ofChange clocksSetSpec)) clocksSetCard

/-- THE TIED CARD OF 'stopwatchlaw16.ClocksMore'. -/
def clocksMoreCard : Claim7 := { stood := { row := clocksMoreRow, standIns := [], harness := (true, "7949b64e13863c512d8e5c4eaea95828d9c350bc9f642a3569218b8f5314b504"), looks := true }, kinds := [], alts := [], laidByText := true, laidKinds := [.data, .data, .data, .data, .data, .data, .data, .data, .data, .data, .data], laidTests := true, laidLooks := .later }
def ClocksMoreCardSaid : Prop := Claim7.holds Tryz.pinned (.plain (OpenSpec.ofChange clocksMoreSpec)) clocksMoreCard

/-- THE TIED CARD OF 'stopwatchlaw16.ClocksTrue'. -/
def clocksTrueCard : Claim7 := { stood := { row := clocksTrueRow, standIns := [], harness := (true, "7949b64e13863c512d8e5c4eaea95828d9c350bc9f642a3569218b8f5314b504"), looks := true }, kinds := [], alts := [], laidByText := true, laidKinds := [.data, .data, .data, .data, .data, .data, .data, .data, .data, .data, .data], laidTests := true, laidLooks := .later }
def ClocksTrueCardSaid : Prop := Claim7.holds Tryz.pinned (.plain (OpenSpec.ofChange clocksTrueSpec)) clocksTrueCard

/-- THE TIED CARD OF 'stopwatchlaw16.ClocksExact'. -/
def clocksExactCard : Claim7 := { stood := { row := clocksExactRow, standIns := [], harness := (true, "7949b64e13863c512d8e5c4eaea95828d9c350bc9f642a3569218b8f5314b504"), looks := true }, kinds := [], alts := [], laidByText := true, laidKinds := [.data, .data, .data, .data, .data, .data, .data, .data, .data, .data, .data], laidTests := true, laidLooks := .later }
def ClocksExactCardSaid : Prop := Claim7.holds Tryz.pinned (.plain (OpenSpec.ofChange clocksExactSpec)) clocksExactCard

/-- THE SECOND FORM's CARD OF 'stopwatchlaw16.ClocksSegmentsSpec'. -/
def clocksSegmentsSpecUptoCard : Claim7 := { stood := { row := clocksSegmentsSpecUptoRow, standIns := [], harness := (true, "7949b64e13863c512d8e5c4eaea95828d9c350bc9f642a3569218b8f5314b504"), looks := true }, kinds := [], alts := [], laidByText := true, laidKinds := [.data, .data, .data, .data, .data, .data, .data, .data, .data, .data, .data], laidTests := true, laidLooks := .later }
def ClocksSegmentsSpecUptoCardSaid : Prop := Claim7.holds Tryz.pinned (.plain (OpenSpec.upto clocksSegmentsSpecSpec)) clocksSegmentsSpecUptoCard

/-- THE SECOND FORM's CARD OF 'stopwatchlaw16.ClocksSystemSpec'. -/
def clocksSystemSpecUptoCard : Claim7 := { stood := { row := clocksSystemSpecUptoRow, standIns := [], harness := (true, "7949b64e13863c512d8e5c4eaea95828d9c350bc9f642a3569218b8f5314b504"), looks := true }, kinds := [], alts := [], laidByText := true, laidKinds := [.data, .data, .data, .data, .data, .data, .data, .data, .data, .data, .data], laidTests := true, laidLooks := .later }
def ClocksSystemSpecUptoCardSaid : Prop := Claim7.holds Tryz.pinned (.plain (OpenSpec.upto clocksSystemSpecSpec)) clocksSystemSpecUptoCard

/-- THE SECOND FORM's CARD OF 'stopwatchlaw16.ClocksAlignSpec'. -/
def clocksAlignSpecUptoCard : Claim7 := { stood := { row := clocksAlignSpecUptoRow, standIns := [], harness := (true, "7949b64e13863c512d8e5c4eaea95828d9c350bc9f642a3569218b8f5314b504"), looks := true }, kinds := [], alts := [], laidByText := true, laidKinds := [.data, .data, .data, .data, .data, .data, .data, .data, .data, .data, .data], laidTests := true, laidLooks := .later }
def ClocksAlignSpecUptoCardSaid : Prop := Claim7.holds Tryz.pinned (.plain (OpenSpec.upto clocksAlignSpecSpec)) clocksAlignSpecUptoCard

/-- THE SECOND FORM's CARD OF 'stopwatchlaw16.ClocksContradict'. -/
def clocksContradictUptoCard : Claim7 := { stood := { row := clocksContradictUptoRow, standIns := [], harness := (true, "7949b64e13863c512d8e5c4eaea95828d9c350bc9f642a3569218b8f5314b504"), looks := true }, kinds := [], alts := [], laidByText := true, laidKinds := [.data, .data, .data, .data, .data, .data, .data, .data, .data, .data, .data], laidTests := true, laidLooks := .later }
def ClocksContradictUptoCardSaid : Prop := Claim7.holds Tryz.pinned (.plain (OpenSpec.upto clocksContradictSpec)) clocksContradictUptoCard

/-- THE SECOND FORM's CARD OF 'stopwatchlaw16.ClocksSet'. -/
def clocksSetUptoCard : Claim7 := { stood := { row := clocksSetUptoRow, standIns := [], harness := (true, "7949b64e13863c512d8e5c4eaea95828d9c350bc9f642a3569218b8f5314b504"), looks := true }, kinds := [], alts := [], laidByText := true, laidKinds := [.data, .data, .data, .data, .data, .data, .data, .data, .data, .data, .data], laidTests := true, laidLooks := .later }
def ClocksSetUptoCardSaid : Prop := Claim7.holds Tryz.pinned (.plain (OpenSpec.upto clocksSetSpec)) clocksSetUptoCard

/-- THE SECOND FORM's CARD OF 'stopwatchlaw16.ClocksMore'. -/
def clocksMoreUptoCard : Claim7 := { stood := { row := clocksMoreUptoRow, standIns := [], harness := (true, "7949b64e13863c512d8e5c4eaea95828d9c350bc9f642a3569218b8f5314b504"), looks := true }, kinds := [], alts := [], laidByText := true, laidKinds := [.data, .data, .data, .data, .data, .data, .data, .data, .data, .data, .data], laidTests := true, laidLooks := .later }
def ClocksMoreUptoCardSaid : Prop := Claim7.holds Tryz.pinned (.plain (OpenSpec.upto clocksMoreSpec)) clocksMoreUptoCard

/-- THE SECOND FORM's CARD OF 'stopwatchlaw16.ClocksTrue'. -/
def clocksTrueUptoCard : Claim7 := { stood := { row := clocksTrueUptoRow, standIns := [], harness := (true, "7949b64e13863c512d8e5c4eaea95828d9c350bc9f642a3569218b8f5314b504"), looks := true }, kinds := [], alts := [], laidByText := true, laidKinds := [.data, .data, .data, .data, .data, .data, .data, .data, .data, .data, .data], laidTests := true, laidLooks := .later }
def ClocksTrueUptoCardSaid : Prop := Claim7.holds Tryz.pinned (.plain (OpenSpec.upto clocksTrueSpec)) clocksTrueUptoCard

/-- THE SECOND FORM's CARD OF 'stopwatchlaw16.ClocksExact'. -/
def clocksExactUptoCard : Claim7 := { stood := { row := clocksExactUptoRow, standIns := [], harness := (true, "7949b64e13863c512d8e5c4eaea95828d9c350bc9f642a3569218b8f5314b504"), looks := true }, kinds := [], alts := [], laidByText := true, laidKinds := [.data, .data, .data, .data, .data, .data, .data, .data, .data, .data, .data], laidTests := true, laidLooks := .later }
def ClocksExactUptoCardSaid : Prop := Claim7.holds Tryz.pinned (.plain (OpenSpec.upto clocksExactSpec)) clocksExactUptoCard
end Rows
end Go.Proofs.YtgjcbknjiemdgaaGreatDoor
