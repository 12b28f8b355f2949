/-
  NARROWER THAN 'FOR EVERY INPUT', by the rows' own cells (each row's printed sentence says how): ChipsStartersSpec: loops, laid · ChipsChipSpec: laid · ChipsWorlds: loops, laid · ChipsOrder: loops, laid · ChipsFirst: loops, laid · ChipsPairs: loops, laid · ChipsExchange: laid.
  DERIVED. THE GIVEN ROWS OF THIS SEAT. 7 by the template 'for every input the law returns true; each argument reads behind the call as it read before'; 0 by the template 'total and deterministic' (their statements: YtkjlhfabbbomjaaGreatDoorTotals.lean).
  GIVEN WITH THE SEED: the statements are not yours to turn. If you find one false, say at which input.
  Laid BY PROGRAM, IN A SANDBOX (cutbox-rows.mjs): the forced cells as the released guide's own fill.sh prints them over the translation e56d4064efef441a… (all of the seat's roots in one cut). By AI agents, Wed Nov 11 2026. No macro, syntax, notation, axiom, sorry.
-/
import Derived.Test.YtkjlhfabbbomjaaGreatDoorChecked
import GoSem.Claim
import GoSem.ClaimJoined
import GoSem.ClaimMapViews
import Derived.JoinedTies
import Derived.KernelRfl
namespace Go.Proofs.YtkjlhfabbbomjaaGreatDoor
/- THE CELL 'sum', in the pinned program and in every row, IS THE sha256 OF THE DUMP (.gsa) THAT YtkjlhfabbbomjaaGreatDoorProg.lean LOADS. Nothing in Lean hashes anything: it is a label: what it is worth is what the hold of that sum in a sandbox is worth. -/
noncomputable def Tryz.pinned : Pinned := { name := "ytkjlhfabbbomjaagreatdoor", sum := "e56d4064efef441a97bf5ccf7691a7b0ee7d906e73b2618ec1177ff06266a73a", checked := Tryz.checked }
namespace Rows
def none {H : Type} : Left H := { results := [], args := [] }

/- WHAT THE LISTED PACKAGE-LEVEL VARIABLES READ AS WHEN THE CALL BEGINS. Each datum BY PROGRAM (the guide's laid-datum.mjs) off the statement by which the dump's own 'gosem.cut.vars' lays the variable. In a bare row this is a premise. The card (YtkjlhfabbbomjaaGreatDoorCards.lean) ties it to the program's text. -/
def laid_stopwatch_facts_timeS {H : Type} : DataW H := .agg [.lit (.int .i64 (-1099511627776)), .lit (.int .i64 1099511627776)]
def laid_stopwatch_facts_lengthS {H : Type} : DataW H := .agg [.lit (.int .i64 0), .lit (.int .i64 1099511627776)]
def laid_stopwatch_facts_bibS {H : Type} : DataW H := .agg [.lit (.int .i64 1), .lit (.int .i64 9999)]
def laid_stopwatch_facts_matS {H : Type} : DataW H := .agg [.lit (.int .i64 0), .lit (.int .i64 39)]
def laid_stopwatch_facts_epochS {H : Type} : DataW H := .agg [.lit (.int .i64 0), .lit (.int .i64 255)]
def laid_stopwatch_facts_chipS {H : Type} : DataW H := .agg [.lit (.int .i64 0), .lit (.int .i64 1048576)]
def laid_stopwatch_facts_positionS {H : Type} : DataW H := .agg [.lit (.int .i64 0), .lit (.int .i64 255)]
def laid_stopwatch_facts_caseS {H : Type} : DataW H := .agg [.lit (.int .i64 1), .lit (.int .i64 1048576)]
def laid_stopwatch_facts_crewS {H : Type} : DataW H := .agg [.lit (.int .i64 0), .lit (.int .i64 31)]
def laid_stopwatch_facts_numberS {H : Type} : DataW H := .agg [.lit (.int .i64 1), .lit (.int .i64 1048576)]
def laid_stopwatch_facts_bitS {H : Type} : DataW H := .agg [.lit (.int .i64 0), .lit (.int .i64 1)]

/-- 'stopwatchlaw18.ChipsStartersSpec': WHATEVER THE INPUT: true; the input reads as it did. -/
def chipsStartersSpecSpec : ChangeSpec := { name := "chipsStartersSpec", fn := fun _ => fun
  | [d1, d2] => { results := [.lit (.bool true)], args := [d1, d2] }
  | _ => none }
def chipsStartersSpecRow : OpenClaim := { program := "ytkjlhfabbbomjaagreatdoor", sum := "e56d4064efef441a97bf5ccf7691a7b0ee7d906e73b2618ec1177ff06266a73a", func := "stopwatch/stopwatchlaw18.ChipsStartersSpec", spec := "chipsStartersSpec", inPlace := ["internal/bytealg.IndexByteString", "internal/bytealg.IndexString", "internal/bytealg.Compare"], unfollowed := true, recurses := true, named := ["internal/bytealg.MaxLen", "stopwatch/facts.bibS", "stopwatch/facts.timeS", "stopwatch/facts.chipS", "stopwatch/facts.matS", "stopwatch/facts.epochS", "stopwatch/facts.lengthS", "stopwatch/facts.positionS", "stopwatch/facts.caseS", "stopwatch/facts.bitS", "stopwatch/facts.crewS", "stopwatch/facts.numberS"], loops := true, plainKeys := false, apart := false, laid := [("stopwatch/facts.timeS", laid_stopwatch_facts_timeS), ("stopwatch/facts.lengthS", laid_stopwatch_facts_lengthS), ("stopwatch/facts.bibS", laid_stopwatch_facts_bibS), ("stopwatch/facts.matS", laid_stopwatch_facts_matS), ("stopwatch/facts.epochS", laid_stopwatch_facts_epochS), ("stopwatch/facts.chipS", laid_stopwatch_facts_chipS), ("stopwatch/facts.positionS", laid_stopwatch_facts_positionS), ("stopwatch/facts.caseS", laid_stopwatch_facts_caseS), ("stopwatch/facts.crewS", laid_stopwatch_facts_crewS), ("stopwatch/facts.numberS", laid_stopwatch_facts_numberS), ("stopwatch/facts.bitS", laid_stopwatch_facts_bitS)] }
def ChipsStartersSpecSaid : Prop := chipsStartersSpecRow.holds Tryz.pinned (OpenSpec.ofChange chipsStartersSpecSpec)

/-- ITS FALSE NEIGHBOUR: 'it returns false'. Refute it at one input. -/
def chipsStartersSpecWrong : ChangeSpec := { name := "chipsStartersSpec", fn := fun _ => fun
  | [d1, d2] => { results := [.lit (.bool false)], args := [d1, d2] }
  | _ => none }
def ChipsStartersSpecWrongFalsely : Prop := chipsStartersSpecRow.holds Tryz.pinned (OpenSpec.ofChange chipsStartersSpecWrong)

/-- 'stopwatchlaw18.ChipsChipSpec': WHATEVER THE INPUT: true; the input reads as it did. -/
def chipsChipSpecSpec : ChangeSpec := { name := "chipsChipSpec", fn := fun _ => fun
  | [d1, d2, d3, d4, d5] => { results := [.lit (.bool true)], args := [d1, d2, d3, d4, d5] }
  | _ => none }
def chipsChipSpecRow : OpenClaim := { program := "ytkjlhfabbbomjaagreatdoor", sum := "e56d4064efef441a97bf5ccf7691a7b0ee7d906e73b2618ec1177ff06266a73a", func := "stopwatch/stopwatchlaw18.ChipsChipSpec", spec := "chipsChipSpec", inPlace := ["internal/bytealg.IndexByteString", "internal/bytealg.IndexString", "internal/bytealg.Compare"], unfollowed := true, recurses := true, named := ["internal/bytealg.MaxLen", "stopwatch/facts.bibS", "stopwatch/facts.timeS", "stopwatch/facts.chipS", "stopwatch/facts.matS", "stopwatch/facts.epochS", "stopwatch/facts.lengthS", "stopwatch/facts.positionS", "stopwatch/facts.caseS", "stopwatch/facts.bitS", "stopwatch/facts.crewS", "stopwatch/facts.numberS"], plainKeys := false, apart := false, laid := [("stopwatch/facts.timeS", laid_stopwatch_facts_timeS), ("stopwatch/facts.lengthS", laid_stopwatch_facts_lengthS), ("stopwatch/facts.bibS", laid_stopwatch_facts_bibS), ("stopwatch/facts.matS", laid_stopwatch_facts_matS), ("stopwatch/facts.epochS", laid_stopwatch_facts_epochS), ("stopwatch/facts.chipS", laid_stopwatch_facts_chipS), ("stopwatch/facts.positionS", laid_stopwatch_facts_positionS), ("stopwatch/facts.caseS", laid_stopwatch_facts_caseS), ("stopwatch/facts.crewS", laid_stopwatch_facts_crewS), ("stopwatch/facts.numberS", laid_stopwatch_facts_numberS), ("stopwatch/facts.bitS", laid_stopwatch_facts_bitS)] }
def ChipsChipSpecSaid : Prop := chipsChipSpecRow.holds Tryz.pinned (OpenSpec.ofChange chipsChipSpecSpec)

/-- ITS FALSE NEIGHBOUR: 'it returns false'. Refute it at one input. -/
def chipsChipSpecWrong : ChangeSpec := { name := "chipsChipSpec", fn := fun _ => fun
  | [d1, d2, d3, d4, d5] => { results := [.lit (.bool false)], args := [d1, d2, d3, d4, d5] }
  | _ => none }
def ChipsChipSpecWrongFalsely : Prop := chipsChipSpecRow.holds Tryz.pinned (OpenSpec.ofChange chipsChipSpecWrong)

/-- 'stopwatchlaw18.ChipsWorlds': WHATEVER THE INPUT: true; the input reads as it did. -/
def chipsWorldsSpec : ChangeSpec := { name := "chipsWorlds", fn := fun _ => fun
  | [d1, d2] => { results := [.lit (.bool true)], args := [d1, d2] }
  | _ => none }
def chipsWorldsRow : OpenClaim := { program := "ytkjlhfabbbomjaagreatdoor", sum := "e56d4064efef441a97bf5ccf7691a7b0ee7d906e73b2618ec1177ff06266a73a", func := "stopwatch/stopwatchlaw18.ChipsWorlds", spec := "chipsWorlds", inPlace := ["internal/bytealg.IndexByteString", "internal/bytealg.IndexString", "internal/bytealg.Compare"], unfollowed := true, recurses := true, named := ["internal/bytealg.MaxLen", "stopwatch/facts.bibS", "stopwatch/facts.timeS", "stopwatch/facts.chipS", "stopwatch/facts.matS", "stopwatch/facts.epochS", "stopwatch/facts.lengthS", "stopwatch/facts.positionS", "stopwatch/facts.caseS", "stopwatch/facts.bitS", "stopwatch/facts.crewS", "stopwatch/facts.numberS"], loops := true, plainKeys := false, apart := false, laid := [("stopwatch/facts.timeS", laid_stopwatch_facts_timeS), ("stopwatch/facts.lengthS", laid_stopwatch_facts_lengthS), ("stopwatch/facts.bibS", laid_stopwatch_facts_bibS), ("stopwatch/facts.matS", laid_stopwatch_facts_matS), ("stopwatch/facts.epochS", laid_stopwatch_facts_epochS), ("stopwatch/facts.chipS", laid_stopwatch_facts_chipS), ("stopwatch/facts.positionS", laid_stopwatch_facts_positionS), ("stopwatch/facts.caseS", laid_stopwatch_facts_caseS), ("stopwatch/facts.crewS", laid_stopwatch_facts_crewS), ("stopwatch/facts.numberS", laid_stopwatch_facts_numberS), ("stopwatch/facts.bitS", laid_stopwatch_facts_bitS)] }
def ChipsWorldsSaid : Prop := chipsWorldsRow.holds Tryz.pinned (OpenSpec.ofChange chipsWorldsSpec)

/-- ITS FALSE NEIGHBOUR: 'it returns false'. Refute it at one input. -/
def chipsWorldsWrong : ChangeSpec := { name := "chipsWorlds", fn := fun _ => fun
  | [d1, d2] => { results := [.lit (.bool false)], args := [d1, d2] }
  | _ => none }
def ChipsWorldsWrongFalsely : Prop := chipsWorldsRow.holds Tryz.pinned (OpenSpec.ofChange chipsWorldsWrong)

/-- 'stopwatchlaw18.ChipsOrder': WHATEVER THE INPUT: true; the input reads as it did. -/
def chipsOrderSpec : ChangeSpec := { name := "chipsOrder", fn := fun _ => fun
  | [d1, d2, d3] => { results := [.lit (.bool true)], args := [d1, d2, d3] }
  | _ => none }
def chipsOrderRow : OpenClaim := { program := "ytkjlhfabbbomjaagreatdoor", sum := "e56d4064efef441a97bf5ccf7691a7b0ee7d906e73b2618ec1177ff06266a73a", func := "stopwatch/stopwatchlaw18.ChipsOrder", spec := "chipsOrder", inPlace := ["internal/bytealg.IndexByteString", "internal/bytealg.IndexString", "internal/bytealg.Compare"], unfollowed := true, recurses := true, named := ["internal/bytealg.MaxLen", "stopwatch/facts.bibS", "stopwatch/facts.timeS", "stopwatch/facts.chipS", "stopwatch/facts.matS", "stopwatch/facts.epochS", "stopwatch/facts.lengthS", "stopwatch/facts.positionS", "stopwatch/facts.caseS", "stopwatch/facts.bitS", "stopwatch/facts.crewS", "stopwatch/facts.numberS"], loops := true, plainKeys := false, apart := false, laid := [("stopwatch/facts.timeS", laid_stopwatch_facts_timeS), ("stopwatch/facts.lengthS", laid_stopwatch_facts_lengthS), ("stopwatch/facts.bibS", laid_stopwatch_facts_bibS), ("stopwatch/facts.matS", laid_stopwatch_facts_matS), ("stopwatch/facts.epochS", laid_stopwatch_facts_epochS), ("stopwatch/facts.chipS", laid_stopwatch_facts_chipS), ("stopwatch/facts.positionS", laid_stopwatch_facts_positionS), ("stopwatch/facts.caseS", laid_stopwatch_facts_caseS), ("stopwatch/facts.crewS", laid_stopwatch_facts_crewS), ("stopwatch/facts.numberS", laid_stopwatch_facts_numberS), ("stopwatch/facts.bitS", laid_stopwatch_facts_bitS)] }
def ChipsOrderSaid : Prop := chipsOrderRow.holds Tryz.pinned (OpenSpec.ofChange chipsOrderSpec)

/-- ITS FALSE NEIGHBOUR: 'it returns false'. Refute it at one input. -/
def chipsOrderWrong : ChangeSpec := { name := "chipsOrder", fn := fun _ => fun
  | [d1, d2, d3] => { results := [.lit (.bool false)], args := [d1, d2, d3] }
  | _ => none }
def ChipsOrderWrongFalsely : Prop := chipsOrderRow.holds Tryz.pinned (OpenSpec.ofChange chipsOrderWrong)

/-- 'stopwatchlaw18.ChipsFirst': WHATEVER THE INPUT: true; the input reads as it did. -/
def chipsFirstSpec : ChangeSpec := { name := "chipsFirst", fn := fun _ => fun
  | [d1, d2] => { results := [.lit (.bool true)], args := [d1, d2] }
  | _ => none }
def chipsFirstRow : OpenClaim := { program := "ytkjlhfabbbomjaagreatdoor", sum := "e56d4064efef441a97bf5ccf7691a7b0ee7d906e73b2618ec1177ff06266a73a", func := "stopwatch/stopwatchlaw18.ChipsFirst", spec := "chipsFirst", inPlace := ["internal/bytealg.IndexByteString", "internal/bytealg.IndexString", "internal/bytealg.Compare"], unfollowed := true, recurses := true, named := ["internal/bytealg.MaxLen", "stopwatch/facts.bibS", "stopwatch/facts.timeS", "stopwatch/facts.chipS", "stopwatch/facts.matS", "stopwatch/facts.epochS", "stopwatch/facts.lengthS", "stopwatch/facts.positionS", "stopwatch/facts.caseS", "stopwatch/facts.bitS", "stopwatch/facts.crewS", "stopwatch/facts.numberS"], loops := true, plainKeys := false, apart := false, laid := [("stopwatch/facts.timeS", laid_stopwatch_facts_timeS), ("stopwatch/facts.lengthS", laid_stopwatch_facts_lengthS), ("stopwatch/facts.bibS", laid_stopwatch_facts_bibS), ("stopwatch/facts.matS", laid_stopwatch_facts_matS), ("stopwatch/facts.epochS", laid_stopwatch_facts_epochS), ("stopwatch/facts.chipS", laid_stopwatch_facts_chipS), ("stopwatch/facts.positionS", laid_stopwatch_facts_positionS), ("stopwatch/facts.caseS", laid_stopwatch_facts_caseS), ("stopwatch/facts.crewS", laid_stopwatch_facts_crewS), ("stopwatch/facts.numberS", laid_stopwatch_facts_numberS), ("stopwatch/facts.bitS", laid_stopwatch_facts_bitS)] }
def ChipsFirstSaid : Prop := chipsFirstRow.holds Tryz.pinned (OpenSpec.ofChange chipsFirstSpec)

/-- ITS FALSE NEIGHBOUR: 'it returns false'. Refute it at one input. -/
def chipsFirstWrong : ChangeSpec := { name := "chipsFirst", fn := fun _ => fun
  | [d1, d2] => { results := [.lit (.bool false)], args := [d1, d2] }
  | _ => none }
def ChipsFirstWrongFalsely : Prop := chipsFirstRow.holds Tryz.pinned (OpenSpec.ofChange chipsFirstWrong)

/-- 'stopwatchlaw18.ChipsPairs': WHATEVER THE INPUT: true; the input reads as it did. -/
def chipsPairsSpec : ChangeSpec := { name := "chipsPairs", fn := fun _ => fun
  | [d1, d2] => { results := [.lit (.bool true)], args := [d1, d2] }
  | _ => none }
def chipsPairsRow : OpenClaim := { program := "ytkjlhfabbbomjaagreatdoor", sum := "e56d4064efef441a97bf5ccf7691a7b0ee7d906e73b2618ec1177ff06266a73a", func := "stopwatch/stopwatchlaw18.ChipsPairs", spec := "chipsPairs", inPlace := ["internal/bytealg.IndexByteString", "internal/bytealg.IndexString", "internal/bytealg.Compare"], unfollowed := true, recurses := true, named := ["internal/bytealg.MaxLen", "stopwatch/facts.bibS", "stopwatch/facts.timeS", "stopwatch/facts.chipS", "stopwatch/facts.matS", "stopwatch/facts.epochS", "stopwatch/facts.lengthS", "stopwatch/facts.positionS", "stopwatch/facts.caseS", "stopwatch/facts.bitS", "stopwatch/facts.crewS", "stopwatch/facts.numberS"], loops := true, plainKeys := false, apart := false, laid := [("stopwatch/facts.timeS", laid_stopwatch_facts_timeS), ("stopwatch/facts.lengthS", laid_stopwatch_facts_lengthS), ("stopwatch/facts.bibS", laid_stopwatch_facts_bibS), ("stopwatch/facts.matS", laid_stopwatch_facts_matS), ("stopwatch/facts.epochS", laid_stopwatch_facts_epochS), ("stopwatch/facts.chipS", laid_stopwatch_facts_chipS), ("stopwatch/facts.positionS", laid_stopwatch_facts_positionS), ("stopwatch/facts.caseS", laid_stopwatch_facts_caseS), ("stopwatch/facts.crewS", laid_stopwatch_facts_crewS), ("stopwatch/facts.numberS", laid_stopwatch_facts_numberS), ("stopwatch/facts.bitS", laid_stopwatch_facts_bitS)] }
def ChipsPairsSaid : Prop := chipsPairsRow.holds Tryz.pinned (OpenSpec.ofChange chipsPairsSpec)

/-- ITS FALSE NEIGHBOUR: 'it returns false'. Refute it at one input. -/
def chipsPairsWrong : ChangeSpec := { name := "chipsPairs", fn := fun _ => fun
  | [d1, d2] => { results := [.lit (.bool false)], args := [d1, d2] }
  | _ => none }
def ChipsPairsWrongFalsely : Prop := chipsPairsRow.holds Tryz.pinned (OpenSpec.ofChange chipsPairsWrong)

/-- 'stopwatchlaw18.ChipsExchange': WHATEVER THE INPUT: true; the input reads as it did. -/
def chipsExchangeSpec : ChangeSpec := { name := "chipsExchange", fn := fun _ => fun
  | [d1, d2, d3, d4] => { results := [.lit (.bool true)], args := [d1, d2, d3, d4] }
  | _ => none }
def chipsExchangeRow : OpenClaim := { program := "ytkjlhfabbbomjaagreatdoor", sum := "e56d4064efef441a97bf5ccf7691a7b0ee7d906e73b2618ec1177ff06266a73a", func := "stopwatch/stopwatchlaw18.ChipsExchange", spec := "chipsExchange", inPlace := ["internal/bytealg.IndexByteString", "internal/bytealg.IndexString", "internal/bytealg.Compare"], unfollowed := true, recurses := true, named := ["internal/bytealg.MaxLen", "stopwatch/facts.bibS", "stopwatch/facts.timeS", "stopwatch/facts.chipS", "stopwatch/facts.matS", "stopwatch/facts.epochS", "stopwatch/facts.lengthS", "stopwatch/facts.positionS", "stopwatch/facts.caseS", "stopwatch/facts.bitS", "stopwatch/facts.crewS", "stopwatch/facts.numberS"], plainKeys := false, apart := false, laid := [("stopwatch/facts.timeS", laid_stopwatch_facts_timeS), ("stopwatch/facts.lengthS", laid_stopwatch_facts_lengthS), ("stopwatch/facts.bibS", laid_stopwatch_facts_bibS), ("stopwatch/facts.matS", laid_stopwatch_facts_matS), ("stopwatch/facts.epochS", laid_stopwatch_facts_epochS), ("stopwatch/facts.chipS", laid_stopwatch_facts_chipS), ("stopwatch/facts.positionS", laid_stopwatch_facts_positionS), ("stopwatch/facts.caseS", laid_stopwatch_facts_caseS), ("stopwatch/facts.crewS", laid_stopwatch_facts_crewS), ("stopwatch/facts.numberS", laid_stopwatch_facts_numberS), ("stopwatch/facts.bitS", laid_stopwatch_facts_bitS)] }
def ChipsExchangeSaid : Prop := chipsExchangeRow.holds Tryz.pinned (OpenSpec.ofChange chipsExchangeSpec)

/-- ITS FALSE NEIGHBOUR: 'it returns false'. Refute it at one input. -/
def chipsExchangeWrong : ChangeSpec := { name := "chipsExchange", fn := fun _ => fun
  | [d1, d2, d3, d4] => { results := [.lit (.bool false)], args := [d1, d2, d3, d4] }
  | _ => none }
def ChipsExchangeWrongFalsely : Prop := chipsExchangeRow.holds Tryz.pinned (OpenSpec.ofChange chipsExchangeWrong)

/- THE SECOND FORM. 'bulk': how many values and letters a reading holds, each counted each time it is reached (what is shared counts as often as it is met; a slice's spare places count too). A statement '..UptoSaid' is the law's where the arguments, and the package variables that the reading takes, are together of bulk at most 1048576: NARROWER than '..Said'. Prove '..Said' where nothing that the law and all that it calls make is longer than what came in: it says more and counts as full. Else prove '..UptoSaid'. A law counts once. -/
mutual
def uptoBulk {H : Type} : DataW H → Nat
  | .lit (.string bytes) => bytes.length + 1
  | .lit _ => 1
  | .nil => 1
  | .ptr d => uptoBulk d + 1
  | .slice elems spare => uptoBulkAll elems + uptoBulkAll spare + 1
  | .agg parts => uptoBulkAll parts + 1
  | .iface _ d => uptoBulk d + 1
  | .map entries => uptoBulkEntries entries + 1
  | .held _ => 1
def uptoBulkAll {H : Type} : List (DataW H) → Nat
  | [] => 0
  | d :: r => uptoBulk d + uptoBulkAll r
def uptoBulkEntries {H : Type} : List (Lit × DataW H) → Nat
  | [] => 0
  | x :: r => uptoBulkEntry x + uptoBulkEntries r
def uptoBulkEntry {H : Type} : Lit × DataW H → Nat
  | (.string bytes, d) => bytes.length + uptoBulk d + 1
  | (_, d) => uptoBulk d + 1
 end
def uptoSmall : (H : Type) → List (DataW H) → Bool := fun _ ds => decide (uptoBulkAll ds ≤ 1048576)
def OpenSpec.upto (s : _root_.Go.ChangeSpec) : _root_.Go.OpenSpec := { _root_.Go.OpenSpec.ofChange s with cond := some uptoSmall }

/-- 'stopwatchlaw18.ChipsStartersSpec', WHERE WHAT IT READS IS OF BULK AT MOST 1048576: true; the input reads as it did. -/
def chipsStartersSpecUptoRow : OpenClaim := { program := "ytkjlhfabbbomjaagreatdoor", sum := "e56d4064efef441a97bf5ccf7691a7b0ee7d906e73b2618ec1177ff06266a73a", func := "stopwatch/stopwatchlaw18.ChipsStartersSpec", spec := "chipsStartersSpec", inPlace := ["internal/bytealg.IndexByteString", "internal/bytealg.IndexString", "internal/bytealg.Compare"], unfollowed := true, recurses := true, named := ["internal/bytealg.MaxLen", "stopwatch/facts.bibS", "stopwatch/facts.timeS", "stopwatch/facts.chipS", "stopwatch/facts.matS", "stopwatch/facts.epochS", "stopwatch/facts.lengthS", "stopwatch/facts.positionS", "stopwatch/facts.caseS", "stopwatch/facts.bitS", "stopwatch/facts.crewS", "stopwatch/facts.numberS"], loops := true, plainKeys := false, apart := false, laid := [("stopwatch/facts.timeS", laid_stopwatch_facts_timeS), ("stopwatch/facts.lengthS", laid_stopwatch_facts_lengthS), ("stopwatch/facts.bibS", laid_stopwatch_facts_bibS), ("stopwatch/facts.matS", laid_stopwatch_facts_matS), ("stopwatch/facts.epochS", laid_stopwatch_facts_epochS), ("stopwatch/facts.chipS", laid_stopwatch_facts_chipS), ("stopwatch/facts.positionS", laid_stopwatch_facts_positionS), ("stopwatch/facts.caseS", laid_stopwatch_facts_caseS), ("stopwatch/facts.crewS", laid_stopwatch_facts_crewS), ("stopwatch/facts.numberS", laid_stopwatch_facts_numberS), ("stopwatch/facts.bitS", laid_stopwatch_facts_bitS)], narrowed := true }
def ChipsStartersSpecUptoSaid : Prop := chipsStartersSpecUptoRow.holds Tryz.pinned (OpenSpec.upto chipsStartersSpecSpec)

/-- 'stopwatchlaw18.ChipsChipSpec', WHERE WHAT IT READS IS OF BULK AT MOST 1048576: true; the input reads as it did. -/
def chipsChipSpecUptoRow : OpenClaim := { program := "ytkjlhfabbbomjaagreatdoor", sum := "e56d4064efef441a97bf5ccf7691a7b0ee7d906e73b2618ec1177ff06266a73a", func := "stopwatch/stopwatchlaw18.ChipsChipSpec", spec := "chipsChipSpec", inPlace := ["internal/bytealg.IndexByteString", "internal/bytealg.IndexString", "internal/bytealg.Compare"], unfollowed := true, recurses := true, named := ["internal/bytealg.MaxLen", "stopwatch/facts.bibS", "stopwatch/facts.timeS", "stopwatch/facts.chipS", "stopwatch/facts.matS", "stopwatch/facts.epochS", "stopwatch/facts.lengthS", "stopwatch/facts.positionS", "stopwatch/facts.caseS", "stopwatch/facts.bitS", "stopwatch/facts.crewS", "stopwatch/facts.numberS"], plainKeys := false, apart := false, laid := [("stopwatch/facts.timeS", laid_stopwatch_facts_timeS), ("stopwatch/facts.lengthS", laid_stopwatch_facts_lengthS), ("stopwatch/facts.bibS", laid_stopwatch_facts_bibS), ("stopwatch/facts.matS", laid_stopwatch_facts_matS), ("stopwatch/facts.epochS", laid_stopwatch_facts_epochS), ("stopwatch/facts.chipS", laid_stopwatch_facts_chipS), ("stopwatch/facts.positionS", laid_stopwatch_facts_positionS), ("stopwatch/facts.caseS", laid_stopwatch_facts_caseS), ("stopwatch/facts.crewS", laid_stopwatch_facts_crewS), ("stopwatch/facts.numberS", laid_stopwatch_facts_numberS), ("stopwatch/facts.bitS", laid_stopwatch_facts_bitS)], narrowed := true }
def ChipsChipSpecUptoSaid : Prop := chipsChipSpecUptoRow.holds Tryz.pinned (OpenSpec.upto chipsChipSpecSpec)

/-- 'stopwatchlaw18.ChipsWorlds', WHERE WHAT IT READS IS OF BULK AT MOST 1048576: true; the input reads as it did. -/
def chipsWorldsUptoRow : OpenClaim := { program := "ytkjlhfabbbomjaagreatdoor", sum := "e56d4064efef441a97bf5ccf7691a7b0ee7d906e73b2618ec1177ff06266a73a", func := "stopwatch/stopwatchlaw18.ChipsWorlds", spec := "chipsWorlds", inPlace := ["internal/bytealg.IndexByteString", "internal/bytealg.IndexString", "internal/bytealg.Compare"], unfollowed := true, recurses := true, named := ["internal/bytealg.MaxLen", "stopwatch/facts.bibS", "stopwatch/facts.timeS", "stopwatch/facts.chipS", "stopwatch/facts.matS", "stopwatch/facts.epochS", "stopwatch/facts.lengthS", "stopwatch/facts.positionS", "stopwatch/facts.caseS", "stopwatch/facts.bitS", "stopwatch/facts.crewS", "stopwatch/facts.numberS"], loops := true, plainKeys := false, apart := false, laid := [("stopwatch/facts.timeS", laid_stopwatch_facts_timeS), ("stopwatch/facts.lengthS", laid_stopwatch_facts_lengthS), ("stopwatch/facts.bibS", laid_stopwatch_facts_bibS), ("stopwatch/facts.matS", laid_stopwatch_facts_matS), ("stopwatch/facts.epochS", laid_stopwatch_facts_epochS), ("stopwatch/facts.chipS", laid_stopwatch_facts_chipS), ("stopwatch/facts.positionS", laid_stopwatch_facts_positionS), ("stopwatch/facts.caseS", laid_stopwatch_facts_caseS), ("stopwatch/facts.crewS", laid_stopwatch_facts_crewS), ("stopwatch/facts.numberS", laid_stopwatch_facts_numberS), ("stopwatch/facts.bitS", laid_stopwatch_facts_bitS)], narrowed := true }
def ChipsWorldsUptoSaid : Prop := chipsWorldsUptoRow.holds Tryz.pinned (OpenSpec.upto chipsWorldsSpec)

/-- 'stopwatchlaw18.ChipsOrder', WHERE WHAT IT READS IS OF BULK AT MOST 1048576: true; the input reads as it did. -/
def chipsOrderUptoRow : OpenClaim := { program := "ytkjlhfabbbomjaagreatdoor", sum := "e56d4064efef441a97bf5ccf7691a7b0ee7d906e73b2618ec1177ff06266a73a", func := "stopwatch/stopwatchlaw18.ChipsOrder", spec := "chipsOrder", inPlace := ["internal/bytealg.IndexByteString", "internal/bytealg.IndexString", "internal/bytealg.Compare"], unfollowed := true, recurses := true, named := ["internal/bytealg.MaxLen", "stopwatch/facts.bibS", "stopwatch/facts.timeS", "stopwatch/facts.chipS", "stopwatch/facts.matS", "stopwatch/facts.epochS", "stopwatch/facts.lengthS", "stopwatch/facts.positionS", "stopwatch/facts.caseS", "stopwatch/facts.bitS", "stopwatch/facts.crewS", "stopwatch/facts.numberS"], loops := true, plainKeys := false, apart := false, laid := [("stopwatch/facts.timeS", laid_stopwatch_facts_timeS), ("stopwatch/facts.lengthS", laid_stopwatch_facts_lengthS), ("stopwatch/facts.bibS", laid_stopwatch_facts_bibS), ("stopwatch/facts.matS", laid_stopwatch_facts_matS), ("stopwatch/facts.epochS", laid_stopwatch_facts_epochS), ("stopwatch/facts.chipS", laid_stopwatch_facts_chipS), ("stopwatch/facts.positionS", laid_stopwatch_facts_positionS), ("stopwatch/facts.caseS", laid_stopwatch_facts_caseS), ("stopwatch/facts.crewS", laid_stopwatch_facts_crewS), ("stopwatch/facts.numberS", laid_stopwatch_facts_numberS), ("stopwatch/facts.bitS", laid_stopwatch_facts_bitS)], narrowed := true }
def ChipsOrderUptoSaid : Prop := chipsOrderUptoRow.holds Tryz.pinned (OpenSpec.upto chipsOrderSpec)

/-- 'stopwatchlaw18.ChipsFirst', WHERE WHAT IT READS IS OF BULK AT MOST 1048576: true; the input reads as it did. -/
def chipsFirstUptoRow : OpenClaim := { program := "ytkjlhfabbbomjaagreatdoor", sum := "e56d4064efef441a97bf5ccf7691a7b0ee7d906e73b2618ec1177ff06266a73a", func := "stopwatch/stopwatchlaw18.ChipsFirst", spec := "chipsFirst", inPlace := ["internal/bytealg.IndexByteString", "internal/bytealg.IndexString", "internal/bytealg.Compare"], unfollowed := true, recurses := true, named := ["internal/bytealg.MaxLen", "stopwatch/facts.bibS", "stopwatch/facts.timeS", "stopwatch/facts.chipS", "stopwatch/facts.matS", "stopwatch/facts.epochS", "stopwatch/facts.lengthS", "stopwatch/facts.positionS", "stopwatch/facts.caseS", "stopwatch/facts.bitS", "stopwatch/facts.crewS", "stopwatch/facts.numberS"], loops := true, plainKeys := false, apart := false, laid := [("stopwatch/facts.timeS", laid_stopwatch_facts_timeS), ("stopwatch/facts.lengthS", laid_stopwatch_facts_lengthS), ("stopwatch/facts.bibS", laid_stopwatch_facts_bibS), ("stopwatch/facts.matS", laid_stopwatch_facts_matS), ("stopwatch/facts.epochS", laid_stopwatch_facts_epochS), ("stopwatch/facts.chipS", laid_stopwatch_facts_chipS), ("stopwatch/facts.positionS", laid_stopwatch_facts_positionS), ("stopwatch/facts.caseS", laid_stopwatch_facts_caseS), ("stopwatch/facts.crewS", laid_stopwatch_facts_crewS), ("stopwatch/facts.numberS", laid_stopwatch_facts_numberS), ("stopwatch/facts.bitS", laid_stopwatch_facts_bitS)], narrowed := true }
def ChipsFirstUptoSaid : Prop := chipsFirstUptoRow.holds Tryz.pinned (OpenSpec.upto chipsFirstSpec)

/-- 'stopwatchlaw18.ChipsPairs', WHERE WHAT IT READS IS OF BULK AT MOST 1048576: true; the input reads as it did. -/
def chipsPairsUptoRow : OpenClaim := { program := "ytkjlhfabbbomjaagreatdoor", sum := "e56d4064efef441a97bf5ccf7691a7b0ee7d906e73b2618ec1177ff06266a73a", func := "stopwatch/stopwatchlaw18.ChipsPairs", spec := "chipsPairs", inPlace := ["internal/bytealg.IndexByteString", "internal/bytealg.IndexString", "internal/bytealg.Compare"], unfollowed := true, recurses := true, named := ["internal/bytealg.MaxLen", "stopwatch/facts.bibS", "stopwatch/facts.timeS", "stopwatch/facts.chipS", "stopwatch/facts.matS", "stopwatch/facts.epochS", "stopwatch/facts.lengthS", "stopwatch/facts.positionS", "stopwatch/facts.caseS", "stopwatch/facts.bitS", "stopwatch/facts.crewS", "stopwatch/facts.numberS"], loops := true, plainKeys := false, apart := false, laid := [("stopwatch/facts.timeS", laid_stopwatch_facts_timeS), ("stopwatch/facts.lengthS", laid_stopwatch_facts_lengthS), ("stopwatch/facts.bibS", laid_stopwatch_facts_bibS), ("stopwatch/facts.matS", laid_stopwatch_facts_matS), ("stopwatch/facts.epochS", laid_stopwatch_facts_epochS), ("stopwatch/facts.chipS", laid_stopwatch_facts_chipS), ("stopwatch/facts.positionS", laid_stopwatch_facts_positionS), ("stopwatch/facts.caseS", laid_stopwatch_facts_caseS), ("stopwatch/facts.crewS", laid_stopwatch_facts_crewS), ("stopwatch/facts.numberS", laid_stopwatch_facts_numberS), ("stopwatch/facts.bitS", laid_stopwatch_facts_bitS)], narrowed := true }
def ChipsPairsUptoSaid : Prop := chipsPairsUptoRow.holds Tryz.pinned (OpenSpec.upto chipsPairsSpec)

/-- 'stopwatchlaw18.ChipsExchange', WHERE WHAT IT READS IS OF BULK AT MOST 1048576: true; the input reads as it did. -/
def chipsExchangeUptoRow : OpenClaim := { program := "ytkjlhfabbbomjaagreatdoor", sum := "e56d4064efef441a97bf5ccf7691a7b0ee7d906e73b2618ec1177ff06266a73a", func := "stopwatch/stopwatchlaw18.ChipsExchange", spec := "chipsExchange", inPlace := ["internal/bytealg.IndexByteString", "internal/bytealg.IndexString", "internal/bytealg.Compare"], unfollowed := true, recurses := true, named := ["internal/bytealg.MaxLen", "stopwatch/facts.bibS", "stopwatch/facts.timeS", "stopwatch/facts.chipS", "stopwatch/facts.matS", "stopwatch/facts.epochS", "stopwatch/facts.lengthS", "stopwatch/facts.positionS", "stopwatch/facts.caseS", "stopwatch/facts.bitS", "stopwatch/facts.crewS", "stopwatch/facts.numberS"], plainKeys := false, apart := false, laid := [("stopwatch/facts.timeS", laid_stopwatch_facts_timeS), ("stopwatch/facts.lengthS", laid_stopwatch_facts_lengthS), ("stopwatch/facts.bibS", laid_stopwatch_facts_bibS), ("stopwatch/facts.matS", laid_stopwatch_facts_matS), ("stopwatch/facts.epochS", laid_stopwatch_facts_epochS), ("stopwatch/facts.chipS", laid_stopwatch_facts_chipS), ("stopwatch/facts.positionS", laid_stopwatch_facts_positionS), ("stopwatch/facts.caseS", laid_stopwatch_facts_caseS), ("stopwatch/facts.crewS", laid_stopwatch_facts_crewS), ("stopwatch/facts.numberS", laid_stopwatch_facts_numberS), ("stopwatch/facts.bitS", laid_stopwatch_facts_bitS)], narrowed := true }
def ChipsExchangeUptoSaid : Prop := chipsExchangeUptoRow.holds Tryz.pinned (OpenSpec.upto chipsExchangeSpec)

end Rows
end Go.Proofs.YtkjlhfabbbomjaaGreatDoor
