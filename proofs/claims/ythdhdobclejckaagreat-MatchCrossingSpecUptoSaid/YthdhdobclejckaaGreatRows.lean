/-
  NARROWER THAN 'FOR EVERY INPUT', by the rows' own cells (each row's printed sentence says how): MatchCheckSpec: loops · MatchCrossingSpec: loops · MatchBounds: loops · MatchGenerous: loops · MatchHands: loops · MatchLegs: loops.
  DERIVED. THE GIVEN ROWS OF THIS SEAT. 6 by the template 'for every input the law returns true; each argument reads behind the call as it read before'; 0 by the template 'total and deterministic' (their statements: YthdhdobclejckaaGreatTotals.lean).
  GIVEN WITH THE SEED: the statements are not yours to turn. If you find one false, say at which input.
  Laid BY PROGRAM, IN A SANDBOX (cutbox-rows.mjs): the forced cells as the released guide's own fill.sh prints them over the translation 1535ae7666dd093a… (all of the seat's roots in one cut). By AI agents, Wed Nov 11 2026. No macro, syntax, notation, axiom, sorry.
-/
import Derived.Test.YthdhdobclejckaaGreatChecked
import GoSem.Claim
import GoSem.ClaimJoined
import GoSem.ClaimMapViews
import Derived.JoinedTies
import Derived.KernelRfl
namespace Go.Proofs.YthdhdobclejckaaGreat
/- THE CELL 'sum', in the pinned program and in every row, IS THE sha256 OF THE DUMP (.gsa) THAT YthdhdobclejckaaGreatProg.lean LOADS. Nothing in Lean hashes anything: it is a label: what it is worth is what the hold of that sum in a sandbox is worth. -/
noncomputable def Tryz.pinned : Pinned := { name := "ythdhdobclejckaagreat", sum := "1535ae7666dd093af8b9578357603286ff46394f67c2944cca684df463fb7e53", checked := Tryz.checked }
namespace Rows
def none {H : Type} : Left H := { results := [], args := [] }

/-- 'stopwatchlaw19.MatchCheckSpec': WHATEVER THE INPUT: true; the input reads as it did. -/
def matchCheckSpecSpec : ChangeSpec := { name := "matchCheckSpec", fn := fun _ => fun
  | [d1, d2] => { results := [.lit (.bool true)], args := [d1, d2] }
  | _ => none }
def matchCheckSpecRow : OpenClaim := { program := "ythdhdobclejckaagreat", sum := "1535ae7666dd093af8b9578357603286ff46394f67c2944cca684df463fb7e53", func := "stopwatch/stopwatchlaw19.MatchCheckSpec", spec := "matchCheckSpec", inPlace := ["internal/bytealg.IndexByteString", "internal/bytealg.IndexString", "slices.overlaps[int]"], unfollowed := true, recurses := true, named := ["internal/bytealg.MaxLen"], loops := true, plainKeys := false, apart := false }
def MatchCheckSpecSaid : Prop := matchCheckSpecRow.holds Tryz.pinned (OpenSpec.ofChange matchCheckSpecSpec)

/-- ITS FALSE NEIGHBOUR: 'it returns false'. Refute it at one input. -/
def matchCheckSpecWrong : ChangeSpec := { name := "matchCheckSpec", fn := fun _ => fun
  | [d1, d2] => { results := [.lit (.bool false)], args := [d1, d2] }
  | _ => none }
def MatchCheckSpecWrongFalsely : Prop := matchCheckSpecRow.holds Tryz.pinned (OpenSpec.ofChange matchCheckSpecWrong)

/-- 'stopwatchlaw19.MatchCrossingSpec': WHATEVER THE INPUT: true; the input reads as it did. -/
def matchCrossingSpecSpec : ChangeSpec := { name := "matchCrossingSpec", fn := fun _ => fun
  | [d1, d2, d3] => { results := [.lit (.bool true)], args := [d1, d2, d3] }
  | _ => none }
def matchCrossingSpecRow : OpenClaim := { program := "ythdhdobclejckaagreat", sum := "1535ae7666dd093af8b9578357603286ff46394f67c2944cca684df463fb7e53", func := "stopwatch/stopwatchlaw19.MatchCrossingSpec", spec := "matchCrossingSpec", inPlace := ["internal/bytealg.IndexByteString", "internal/bytealg.IndexString", "slices.overlaps[int]"], unfollowed := true, recurses := true, named := ["internal/bytealg.MaxLen"], loops := true, plainKeys := false, apart := false }
def MatchCrossingSpecSaid : Prop := matchCrossingSpecRow.holds Tryz.pinned (OpenSpec.ofChange matchCrossingSpecSpec)

/-- ITS FALSE NEIGHBOUR: 'it returns false'. Refute it at one input. -/
def matchCrossingSpecWrong : ChangeSpec := { name := "matchCrossingSpec", fn := fun _ => fun
  | [d1, d2, d3] => { results := [.lit (.bool false)], args := [d1, d2, d3] }
  | _ => none }
def MatchCrossingSpecWrongFalsely : Prop := matchCrossingSpecRow.holds Tryz.pinned (OpenSpec.ofChange matchCrossingSpecWrong)

/-- 'stopwatchlaw19.MatchBounds': WHATEVER THE INPUT: true; the input reads as it did. -/
def matchBoundsSpec : ChangeSpec := { name := "matchBounds", fn := fun _ => fun
  | [d1, d2] => { results := [.lit (.bool true)], args := [d1, d2] }
  | _ => none }
def matchBoundsRow : OpenClaim := { program := "ythdhdobclejckaagreat", sum := "1535ae7666dd093af8b9578357603286ff46394f67c2944cca684df463fb7e53", func := "stopwatch/stopwatchlaw19.MatchBounds", spec := "matchBounds", inPlace := ["internal/bytealg.IndexByteString", "internal/bytealg.IndexString", "slices.overlaps[int]"], unfollowed := true, recurses := true, named := ["internal/bytealg.MaxLen"], loops := true, plainKeys := false, apart := false }
def MatchBoundsSaid : Prop := matchBoundsRow.holds Tryz.pinned (OpenSpec.ofChange matchBoundsSpec)

/-- ITS FALSE NEIGHBOUR: 'it returns false'. Refute it at one input. -/
def matchBoundsWrong : ChangeSpec := { name := "matchBounds", fn := fun _ => fun
  | [d1, d2] => { results := [.lit (.bool false)], args := [d1, d2] }
  | _ => none }
def MatchBoundsWrongFalsely : Prop := matchBoundsRow.holds Tryz.pinned (OpenSpec.ofChange matchBoundsWrong)

/-- 'stopwatchlaw19.MatchGenerous': WHATEVER THE INPUT: true; the input reads as it did. -/
def matchGenerousSpec : ChangeSpec := { name := "matchGenerous", fn := fun _ => fun
  | [d1, d2, d3, d4] => { results := [.lit (.bool true)], args := [d1, d2, d3, d4] }
  | _ => none }
def matchGenerousRow : OpenClaim := { program := "ythdhdobclejckaagreat", sum := "1535ae7666dd093af8b9578357603286ff46394f67c2944cca684df463fb7e53", func := "stopwatch/stopwatchlaw19.MatchGenerous", spec := "matchGenerous", inPlace := ["internal/bytealg.IndexByteString", "internal/bytealg.IndexString", "slices.overlaps[int]"], unfollowed := true, recurses := true, named := ["internal/bytealg.MaxLen"], loops := true, plainKeys := false, apart := false }
def MatchGenerousSaid : Prop := matchGenerousRow.holds Tryz.pinned (OpenSpec.ofChange matchGenerousSpec)

/-- ITS FALSE NEIGHBOUR: 'it returns false'. Refute it at one input. -/
def matchGenerousWrong : ChangeSpec := { name := "matchGenerous", fn := fun _ => fun
  | [d1, d2, d3, d4] => { results := [.lit (.bool false)], args := [d1, d2, d3, d4] }
  | _ => none }
def MatchGenerousWrongFalsely : Prop := matchGenerousRow.holds Tryz.pinned (OpenSpec.ofChange matchGenerousWrong)

/-- 'stopwatchlaw19.MatchHands': WHATEVER THE INPUT: true; the input reads as it did. -/
def matchHandsSpec : ChangeSpec := { name := "matchHands", fn := fun _ => fun
  | [d1, d2, d3, d4] => { results := [.lit (.bool true)], args := [d1, d2, d3, d4] }
  | _ => none }
def matchHandsRow : OpenClaim := { program := "ythdhdobclejckaagreat", sum := "1535ae7666dd093af8b9578357603286ff46394f67c2944cca684df463fb7e53", func := "stopwatch/stopwatchlaw19.MatchHands", spec := "matchHands", inPlace := ["internal/bytealg.IndexByteString", "internal/bytealg.IndexString", "slices.overlaps[int]"], unfollowed := true, recurses := true, named := ["internal/bytealg.MaxLen"], loops := true, plainKeys := false, apart := false }
def MatchHandsSaid : Prop := matchHandsRow.holds Tryz.pinned (OpenSpec.ofChange matchHandsSpec)

/-- ITS FALSE NEIGHBOUR: 'it returns false'. Refute it at one input. -/
def matchHandsWrong : ChangeSpec := { name := "matchHands", fn := fun _ => fun
  | [d1, d2, d3, d4] => { results := [.lit (.bool false)], args := [d1, d2, d3, d4] }
  | _ => none }
def MatchHandsWrongFalsely : Prop := matchHandsRow.holds Tryz.pinned (OpenSpec.ofChange matchHandsWrong)

/-- 'stopwatchlaw19.MatchLegs': WHATEVER THE INPUT: true; the input reads as it did. -/
def matchLegsSpec : ChangeSpec := { name := "matchLegs", fn := fun _ => fun
  | [d1, d2, d3] => { results := [.lit (.bool true)], args := [d1, d2, d3] }
  | _ => none }
def matchLegsRow : OpenClaim := { program := "ythdhdobclejckaagreat", sum := "1535ae7666dd093af8b9578357603286ff46394f67c2944cca684df463fb7e53", func := "stopwatch/stopwatchlaw19.MatchLegs", spec := "matchLegs", inPlace := ["internal/bytealg.IndexByteString", "internal/bytealg.IndexString", "slices.overlaps[int]"], unfollowed := true, recurses := true, named := ["internal/bytealg.MaxLen"], loops := true, plainKeys := false, apart := false }
def MatchLegsSaid : Prop := matchLegsRow.holds Tryz.pinned (OpenSpec.ofChange matchLegsSpec)

/-- ITS FALSE NEIGHBOUR: 'it returns false'. Refute it at one input. -/
def matchLegsWrong : ChangeSpec := { name := "matchLegs", fn := fun _ => fun
  | [d1, d2, d3] => { results := [.lit (.bool false)], args := [d1, d2, d3] }
  | _ => none }
def MatchLegsWrongFalsely : Prop := matchLegsRow.holds Tryz.pinned (OpenSpec.ofChange matchLegsWrong)

/- THE SECOND FORM. 'bulk': how many values and letters a reading holds, each counted each time it is reached (what is shared counts as often as it is met; a slice's spare places count too). A statement '..UptoSaid' is the law's where the arguments, and the package variables that the reading takes, are together of bulk at most 1048576: NARROWER than '..Said'. Prove '..Said' where nothing that the law and all that it calls make is longer than what came in: it says more and counts as full. Else prove '..UptoSaid'. A law counts once. -/
mutual
def uptoBulk {H : Type} : DataW H → Nat
  | .lit (.string bytes) => bytes.length + 1
  | .lit _ => 1
  | .nil => 1
  | .ptr d => uptoBulk d + 1
  | .slice elems spare => uptoBulkAll elems + uptoBulkAll spare + 1
  | .agg parts => uptoBulkAll parts + 1
  | .iface _ d => uptoBulk d + 1
  | .map entries => uptoBulkEntries entries + 1
  | .held _ => 1
def uptoBulkAll {H : Type} : List (DataW H) → Nat
  | [] => 0
  | d :: r => uptoBulk d + uptoBulkAll r
def uptoBulkEntries {H : Type} : List (Lit × DataW H) → Nat
  | [] => 0
  | x :: r => uptoBulkEntry x + uptoBulkEntries r
def uptoBulkEntry {H : Type} : Lit × DataW H → Nat
  | (.string bytes, d) => bytes.length + uptoBulk d + 1
  | (_, d) => uptoBulk d + 1
 end
def uptoSmall : (H : Type) → List (DataW H) → Bool := fun _ ds => decide (uptoBulkAll ds ≤ 1048576)
def OpenSpec.upto (s : _root_.Go.ChangeSpec) : _root_.Go.OpenSpec := { _root_.Go.OpenSpec.ofChange s with cond := some uptoSmall }

/-- 'stopwatchlaw19.MatchCheckSpec', WHERE WHAT IT READS IS OF BULK AT MOST 1048576: true; the input reads as it did. -/
def matchCheckSpecUptoRow : OpenClaim := { program := "ythdhdobclejckaagreat", sum := "1535ae7666dd093af8b9578357603286ff46394f67c2944cca684df463fb7e53", func := "stopwatch/stopwatchlaw19.MatchCheckSpec", spec := "matchCheckSpec", inPlace := ["internal/bytealg.IndexByteString", "internal/bytealg.IndexString", "slices.overlaps[int]"], unfollowed := true, recurses := true, named := ["internal/bytealg.MaxLen"], loops := true, plainKeys := false, apart := false, narrowed := true }
def MatchCheckSpecUptoSaid : Prop := matchCheckSpecUptoRow.holds Tryz.pinned (OpenSpec.upto matchCheckSpecSpec)

/-- 'stopwatchlaw19.MatchCrossingSpec', WHERE WHAT IT READS IS OF BULK AT MOST 1048576: true; the input reads as it did. -/
def matchCrossingSpecUptoRow : OpenClaim := { program := "ythdhdobclejckaagreat", sum := "1535ae7666dd093af8b9578357603286ff46394f67c2944cca684df463fb7e53", func := "stopwatch/stopwatchlaw19.MatchCrossingSpec", spec := "matchCrossingSpec", inPlace := ["internal/bytealg.IndexByteString", "internal/bytealg.IndexString", "slices.overlaps[int]"], unfollowed := true, recurses := true, named := ["internal/bytealg.MaxLen"], loops := true, plainKeys := false, apart := false, narrowed := true }
def MatchCrossingSpecUptoSaid : Prop := matchCrossingSpecUptoRow.holds Tryz.pinned (OpenSpec.upto matchCrossingSpecSpec)

/-- 'stopwatchlaw19.MatchBounds', WHERE WHAT IT READS IS OF BULK AT MOST 1048576: true; the input reads as it did. -/
def matchBoundsUptoRow : OpenClaim := { program := "ythdhdobclejckaagreat", sum := "1535ae7666dd093af8b9578357603286ff46394f67c2944cca684df463fb7e53", func := "stopwatch/stopwatchlaw19.MatchBounds", spec := "matchBounds", inPlace := ["internal/bytealg.IndexByteString", "internal/bytealg.IndexString", "slices.overlaps[int]"], unfollowed := true, recurses := true, named := ["internal/bytealg.MaxLen"], loops := true, plainKeys := false, apart := false, narrowed := true }
def MatchBoundsUptoSaid : Prop := matchBoundsUptoRow.holds Tryz.pinned (OpenSpec.upto matchBoundsSpec)

/-- 'stopwatchlaw19.MatchGenerous', WHERE WHAT IT READS IS OF BULK AT MOST 1048576: true; the input reads as it did. -/
def matchGenerousUptoRow : OpenClaim := { program := "ythdhdobclejckaagreat", sum := "1535ae7666dd093af8b9578357603286ff46394f67c2944cca684df463fb7e53", func := "stopwatch/stopwatchlaw19.MatchGenerous", spec := "matchGenerous", inPlace := ["internal/bytealg.IndexByteString", "internal/bytealg.IndexString", "slices.overlaps[int]"], unfollowed := true, recurses := true, named := ["internal/bytealg.MaxLen"], loops := true, plainKeys := false, apart := false, narrowed := true }
def MatchGenerousUptoSaid : Prop := matchGenerousUptoRow.holds Tryz.pinned (OpenSpec.upto matchGenerousSpec)

/-- 'stopwatchlaw19.MatchHands', WHERE WHAT IT READS IS OF BULK AT MOST 1048576: true; the input reads as it did. -/
def matchHandsUptoRow : OpenClaim := { program := "ythdhdobclejckaagreat", sum := "1535ae7666dd093af8b9578357603286ff46394f67c2944cca684df463fb7e53", func := "stopwatch/stopwatchlaw19.MatchHands", spec := "matchHands", inPlace := ["internal/bytealg.IndexByteString", "internal/bytealg.IndexString", "slices.overlaps[int]"], unfollowed := true, recurses := true, named := ["internal/bytealg.MaxLen"], loops := true, plainKeys := false, apart := false, narrowed := true }
def MatchHandsUptoSaid : Prop := matchHandsUptoRow.holds Tryz.pinned (OpenSpec.upto matchHandsSpec)

/-- 'stopwatchlaw19.MatchLegs', WHERE WHAT IT READS IS OF BULK AT MOST 1048576: true; the input reads as it did. -/
def matchLegsUptoRow : OpenClaim := { program := "ythdhdobclejckaagreat", sum := "1535ae7666dd093af8b9578357603286ff46394f67c2944cca684df463fb7e53", func := "stopwatch/stopwatchlaw19.MatchLegs", spec := "matchLegs", inPlace := ["internal/bytealg.IndexByteString", "internal/bytealg.IndexString", "slices.overlaps[int]"], unfollowed := true, recurses := true, named := ["internal/bytealg.MaxLen"], loops := true, plainKeys := false, apart := false, narrowed := true }
def MatchLegsUptoSaid : Prop := matchLegsUptoRow.holds Tryz.pinned (OpenSpec.upto matchLegsSpec)

end Rows
end Go.Proofs.YthdhdobclejckaaGreat
