/-
  NARROWER THAN 'FOR EVERY INPUT', by the rows' own cells (each row's printed sentence says how): PrizesCertainSpec: loops · PrizesInSpec: loops · PrizesAlways: loops · PrizesScaled: loops · PrizesEither: loops · PrizesSum: loops.
  DERIVED. THE GIVEN ROWS OF THIS SEAT. 7 by the template 'for every input the law returns true; each argument reads behind the call as it read before'; 0 by the template 'total and deterministic' (their statements: YtkfjchmhgpkcbaaGreatTotals.lean).
  GIVEN WITH THE SEED: the statements are not yours to turn. If you find one false, say at which input.
  Laid BY PROGRAM, IN A SANDBOX (cutbox-rows.mjs): the forced cells as the released guide's own fill.sh prints them over the translation 585accb6b12aa1b0… (all of the seat's roots in one cut). By AI agents, Wed Nov 11 2026. No macro, syntax, notation, axiom, sorry.
-/
import Derived.Test.YtkfjchmhgpkcbaaGreatChecked
import GoSem.Claim
import GoSem.ClaimJoined
import GoSem.ClaimMapViews
import Derived.JoinedTies
import Derived.KernelRfl
namespace Go.Proofs.YtkfjchmhgpkcbaaGreat
/- THE CELL 'sum', in the pinned program and in every row, IS THE sha256 OF THE DUMP (.gsa) THAT YtkfjchmhgpkcbaaGreatProg.lean LOADS. Nothing in Lean hashes anything: it is a label: what it is worth is what the hold of that sum in a sandbox is worth. -/
noncomputable def Tryz.pinned : Pinned := { name := "ytkfjchmhgpkcbaagreat", sum := "585accb6b12aa1b03d8fefe6666a54405d7ac451fb857d78e2f78818bc83f5e0", checked := Tryz.checked }
namespace Rows
def none {H : Type} : Left H := { results := [], args := [] }

/-- 'stopwatchlaw31.PrizesCandidatesSpec': WHATEVER THE INPUT: true; the input reads as it did. -/
def prizesCandidatesSpecSpec : ChangeSpec := { name := "prizesCandidatesSpec", fn := fun _ => fun
  | [d1, d2] => { results := [.lit (.bool true)], args := [d1, d2] }
  | _ => none }
def prizesCandidatesSpecRow : OpenClaim := { program := "ytkfjchmhgpkcbaagreat", sum := "585accb6b12aa1b03d8fefe6666a54405d7ac451fb857d78e2f78818bc83f5e0", func := "stopwatch/stopwatchlaw31.PrizesCandidatesSpec", spec := "prizesCandidatesSpec", inPlace := ["internal/bytealg.IndexByteString", "internal/bytealg.IndexString"], unfollowed := true, recurses := true, named := ["internal/bytealg.MaxLen"], plainKeys := false, apart := false }
def PrizesCandidatesSpecSaid : Prop := prizesCandidatesSpecRow.holds Tryz.pinned (OpenSpec.ofChange prizesCandidatesSpecSpec)

/-- ITS FALSE NEIGHBOUR: 'it returns false'. Refute it at one input. -/
def prizesCandidatesSpecWrong : ChangeSpec := { name := "prizesCandidatesSpec", fn := fun _ => fun
  | [d1, d2] => { results := [.lit (.bool false)], args := [d1, d2] }
  | _ => none }
def PrizesCandidatesSpecWrongFalsely : Prop := prizesCandidatesSpecRow.holds Tryz.pinned (OpenSpec.ofChange prizesCandidatesSpecWrong)

/-- 'stopwatchlaw31.PrizesCertainSpec': WHATEVER THE INPUT: true; the input reads as it did. -/
def prizesCertainSpecSpec : ChangeSpec := { name := "prizesCertainSpec", fn := fun _ => fun
  | [d1, d2, d3, d4] => { results := [.lit (.bool true)], args := [d1, d2, d3, d4] }
  | _ => none }
def prizesCertainSpecRow : OpenClaim := { program := "ytkfjchmhgpkcbaagreat", sum := "585accb6b12aa1b03d8fefe6666a54405d7ac451fb857d78e2f78818bc83f5e0", func := "stopwatch/stopwatchlaw31.PrizesCertainSpec", spec := "prizesCertainSpec", inPlace := ["internal/bytealg.IndexByteString", "internal/bytealg.IndexString"], unfollowed := true, recurses := true, named := ["internal/bytealg.MaxLen"], loops := true, plainKeys := false, apart := false }
def PrizesCertainSpecSaid : Prop := prizesCertainSpecRow.holds Tryz.pinned (OpenSpec.ofChange prizesCertainSpecSpec)

/-- ITS FALSE NEIGHBOUR: 'it returns false'. Refute it at one input. -/
def prizesCertainSpecWrong : ChangeSpec := { name := "prizesCertainSpec", fn := fun _ => fun
  | [d1, d2, d3, d4] => { results := [.lit (.bool false)], args := [d1, d2, d3, d4] }
  | _ => none }
def PrizesCertainSpecWrongFalsely : Prop := prizesCertainSpecRow.holds Tryz.pinned (OpenSpec.ofChange prizesCertainSpecWrong)

/-- 'stopwatchlaw31.PrizesInSpec': WHATEVER THE INPUT: true; the input reads as it did. -/
def prizesInSpecSpec : ChangeSpec := { name := "prizesInSpec", fn := fun _ => fun
  | [d1, d2, d3, d4, d5] => { results := [.lit (.bool true)], args := [d1, d2, d3, d4, d5] }
  | _ => none }
def prizesInSpecRow : OpenClaim := { program := "ytkfjchmhgpkcbaagreat", sum := "585accb6b12aa1b03d8fefe6666a54405d7ac451fb857d78e2f78818bc83f5e0", func := "stopwatch/stopwatchlaw31.PrizesInSpec", spec := "prizesInSpec", inPlace := ["internal/bytealg.IndexByteString", "internal/bytealg.IndexString"], unfollowed := true, recurses := true, named := ["internal/bytealg.MaxLen"], loops := true, plainKeys := false, apart := false }
def PrizesInSpecSaid : Prop := prizesInSpecRow.holds Tryz.pinned (OpenSpec.ofChange prizesInSpecSpec)

/-- ITS FALSE NEIGHBOUR: 'it returns false'. Refute it at one input. -/
def prizesInSpecWrong : ChangeSpec := { name := "prizesInSpec", fn := fun _ => fun
  | [d1, d2, d3, d4, d5] => { results := [.lit (.bool false)], args := [d1, d2, d3, d4, d5] }
  | _ => none }
def PrizesInSpecWrongFalsely : Prop := prizesInSpecRow.holds Tryz.pinned (OpenSpec.ofChange prizesInSpecWrong)

/-- 'stopwatchlaw31.PrizesAlways': WHATEVER THE INPUT: true; the input reads as it did. -/
def prizesAlwaysSpec : ChangeSpec := { name := "prizesAlways", fn := fun _ => fun
  | [d1, d2, d3, d4, d5] => { results := [.lit (.bool true)], args := [d1, d2, d3, d4, d5] }
  | _ => none }
def prizesAlwaysRow : OpenClaim := { program := "ytkfjchmhgpkcbaagreat", sum := "585accb6b12aa1b03d8fefe6666a54405d7ac451fb857d78e2f78818bc83f5e0", func := "stopwatch/stopwatchlaw31.PrizesAlways", spec := "prizesAlways", inPlace := ["internal/bytealg.IndexByteString", "internal/bytealg.IndexString"], unfollowed := true, recurses := true, named := ["internal/bytealg.MaxLen"], loops := true, plainKeys := false, apart := false }
def PrizesAlwaysSaid : Prop := prizesAlwaysRow.holds Tryz.pinned (OpenSpec.ofChange prizesAlwaysSpec)

/-- ITS FALSE NEIGHBOUR: 'it returns false'. Refute it at one input. -/
def prizesAlwaysWrong : ChangeSpec := { name := "prizesAlways", fn := fun _ => fun
  | [d1, d2, d3, d4, d5] => { results := [.lit (.bool false)], args := [d1, d2, d3, d4, d5] }
  | _ => none }
def PrizesAlwaysWrongFalsely : Prop := prizesAlwaysRow.holds Tryz.pinned (OpenSpec.ofChange prizesAlwaysWrong)

/-- 'stopwatchlaw31.PrizesScaled': WHATEVER THE INPUT: true; the input reads as it did. -/
def prizesScaledSpec : ChangeSpec := { name := "prizesScaled", fn := fun _ => fun
  | [d1, d2, d3, d4, d5, d6] => { results := [.lit (.bool true)], args := [d1, d2, d3, d4, d5, d6] }
  | _ => none }
def prizesScaledRow : OpenClaim := { program := "ytkfjchmhgpkcbaagreat", sum := "585accb6b12aa1b03d8fefe6666a54405d7ac451fb857d78e2f78818bc83f5e0", func := "stopwatch/stopwatchlaw31.PrizesScaled", spec := "prizesScaled", inPlace := ["internal/bytealg.IndexByteString", "internal/bytealg.IndexString"], unfollowed := true, recurses := true, named := ["internal/bytealg.MaxLen"], loops := true, plainKeys := false, apart := false }
def PrizesScaledSaid : Prop := prizesScaledRow.holds Tryz.pinned (OpenSpec.ofChange prizesScaledSpec)

/-- ITS FALSE NEIGHBOUR: 'it returns false'. Refute it at one input. -/
def prizesScaledWrong : ChangeSpec := { name := "prizesScaled", fn := fun _ => fun
  | [d1, d2, d3, d4, d5, d6] => { results := [.lit (.bool false)], args := [d1, d2, d3, d4, d5, d6] }
  | _ => none }
def PrizesScaledWrongFalsely : Prop := prizesScaledRow.holds Tryz.pinned (OpenSpec.ofChange prizesScaledWrong)

/-- 'stopwatchlaw31.PrizesEither': WHATEVER THE INPUT: true; the input reads as it did. -/
def prizesEitherSpec : ChangeSpec := { name := "prizesEither", fn := fun _ => fun
  | [d1, d2, d3, d4] => { results := [.lit (.bool true)], args := [d1, d2, d3, d4] }
  | _ => none }
def prizesEitherRow : OpenClaim := { program := "ytkfjchmhgpkcbaagreat", sum := "585accb6b12aa1b03d8fefe6666a54405d7ac451fb857d78e2f78818bc83f5e0", func := "stopwatch/stopwatchlaw31.PrizesEither", spec := "prizesEither", inPlace := ["internal/bytealg.IndexByteString", "internal/bytealg.IndexString"], unfollowed := true, recurses := true, named := ["internal/bytealg.MaxLen"], loops := true, plainKeys := false, apart := false }
def PrizesEitherSaid : Prop := prizesEitherRow.holds Tryz.pinned (OpenSpec.ofChange prizesEitherSpec)

/-- ITS FALSE NEIGHBOUR: 'it returns false'. Refute it at one input. -/
def prizesEitherWrong : ChangeSpec := { name := "prizesEither", fn := fun _ => fun
  | [d1, d2, d3, d4] => { results := [.lit (.bool false)], args := [d1, d2, d3, d4] }
  | _ => none }
def PrizesEitherWrongFalsely : Prop := prizesEitherRow.holds Tryz.pinned (OpenSpec.ofChange prizesEitherWrong)

/-- 'stopwatchlaw31.PrizesSum': WHATEVER THE INPUT: true; the input reads as it did. -/
def prizesSumSpec : ChangeSpec := { name := "prizesSum", fn := fun _ => fun
  | [d1, d2, d3, d4, d5] => { results := [.lit (.bool true)], args := [d1, d2, d3, d4, d5] }
  | _ => none }
def prizesSumRow : OpenClaim := { program := "ytkfjchmhgpkcbaagreat", sum := "585accb6b12aa1b03d8fefe6666a54405d7ac451fb857d78e2f78818bc83f5e0", func := "stopwatch/stopwatchlaw31.PrizesSum", spec := "prizesSum", inPlace := ["internal/bytealg.IndexByteString", "internal/bytealg.IndexString"], unfollowed := true, recurses := true, named := ["internal/bytealg.MaxLen"], loops := true, plainKeys := false, apart := false }
def PrizesSumSaid : Prop := prizesSumRow.holds Tryz.pinned (OpenSpec.ofChange prizesSumSpec)

/-- ITS FALSE NEIGHBOUR: 'it returns false'. Refute it at one input. -/
def prizesSumWrong : ChangeSpec := { name := "prizesSum", fn := fun _ => fun
  | [d1, d2, d3, d4, d5] => { results := [.lit (.bool false)], args := [d1, d2, d3, d4, d5] }
  | _ => none }
def PrizesSumWrongFalsely : Prop := prizesSumRow.holds Tryz.pinned (OpenSpec.ofChange prizesSumWrong)

/- THE SECOND FORM. 'bulk': how many values and letters a reading holds, each counted each time it is reached (what is shared counts as often as it is met; a slice's spare places count too). A statement '..UptoSaid' is the law's where the arguments, and the package variables that the reading takes, are together of bulk at most 1048576: NARROWER than '..Said'. Prove '..Said' where nothing that the law and all that it calls make is longer than what came in: it says more and counts as full. Else prove '..UptoSaid'. A law counts once. -/
mutual
def uptoBulk {H : Type} : DataW H → Nat
  | .lit (.string bytes) => bytes.length + 1
  | .lit _ => 1
  | .nil => 1
  | .ptr d => uptoBulk d + 1
  | .slice elems spare => uptoBulkAll elems + uptoBulkAll spare + 1
  | .agg parts => uptoBulkAll parts + 1
  | .iface _ d => uptoBulk d + 1
  | .map entries => uptoBulkEntries entries + 1
  | .held _ => 1
def uptoBulkAll {H : Type} : List (DataW H) → Nat
  | [] => 0
  | d :: r => uptoBulk d + uptoBulkAll r
def uptoBulkEntries {H : Type} : List (Lit × DataW H) → Nat
  | [] => 0
  | x :: r => uptoBulkEntry x + uptoBulkEntries r
def uptoBulkEntry {H : Type} : Lit × DataW H → Nat
  | (.string bytes, d) => bytes.length + uptoBulk d + 1
  | (_, d) => uptoBulk d + 1
 end
def uptoSmall : (H : Type) → List (DataW H) → Bool := fun _ ds => decide (uptoBulkAll ds ≤ 1048576)
def OpenSpec.upto (s : _root_.Go.ChangeSpec) : _root_.Go.OpenSpec := { _root_.Go.OpenSpec.ofChange s with cond := some uptoSmall }

/-- 'stopwatchlaw31.PrizesCandidatesSpec', WHERE WHAT IT READS IS OF BULK AT MOST 1048576: true; the input reads as it did. -/
def prizesCandidatesSpecUptoRow : OpenClaim := { program := "ytkfjchmhgpkcbaagreat", sum := "585accb6b12aa1b03d8fefe6666a54405d7ac451fb857d78e2f78818bc83f5e0", func := "stopwatch/stopwatchlaw31.PrizesCandidatesSpec", spec := "prizesCandidatesSpec", inPlace := ["internal/bytealg.IndexByteString", "internal/bytealg.IndexString"], unfollowed := true, recurses := true, named := ["internal/bytealg.MaxLen"], plainKeys := false, apart := false, narrowed := true }
def PrizesCandidatesSpecUptoSaid : Prop := prizesCandidatesSpecUptoRow.holds Tryz.pinned (OpenSpec.upto prizesCandidatesSpecSpec)

/-- 'stopwatchlaw31.PrizesCertainSpec', WHERE WHAT IT READS IS OF BULK AT MOST 1048576: true; the input reads as it did. -/
def prizesCertainSpecUptoRow : OpenClaim := { program := "ytkfjchmhgpkcbaagreat", sum := "585accb6b12aa1b03d8fefe6666a54405d7ac451fb857d78e2f78818bc83f5e0", func := "stopwatch/stopwatchlaw31.PrizesCertainSpec", spec := "prizesCertainSpec", inPlace := ["internal/bytealg.IndexByteString", "internal/bytealg.IndexString"], unfollowed := true, recurses := true, named := ["internal/bytealg.MaxLen"], loops := true, plainKeys := false, apart := false, narrowed := true }
def PrizesCertainSpecUptoSaid : Prop := prizesCertainSpecUptoRow.holds Tryz.pinned (OpenSpec.upto prizesCertainSpecSpec)

/-- 'stopwatchlaw31.PrizesInSpec', WHERE WHAT IT READS IS OF BULK AT MOST 1048576: true; the input reads as it did. -/
def prizesInSpecUptoRow : OpenClaim := { program := "ytkfjchmhgpkcbaagreat", sum := "585accb6b12aa1b03d8fefe6666a54405d7ac451fb857d78e2f78818bc83f5e0", func := "stopwatch/stopwatchlaw31.PrizesInSpec", spec := "prizesInSpec", inPlace := ["internal/bytealg.IndexByteString", "internal/bytealg.IndexString"], unfollowed := true, recurses := true, named := ["internal/bytealg.MaxLen"], loops := true, plainKeys := false, apart := false, narrowed := true }
def PrizesInSpecUptoSaid : Prop := prizesInSpecUptoRow.holds Tryz.pinned (OpenSpec.upto prizesInSpecSpec)

/-- 'stopwatchlaw31.PrizesAlways', WHERE WHAT IT READS IS OF BULK AT MOST 1048576: true; the input reads as it did. -/
def prizesAlwaysUptoRow : OpenClaim := { program := "ytkfjchmhgpkcbaagreat", sum := "585accb6b12aa1b03d8fefe6666a54405d7ac451fb857d78e2f78818bc83f5e0", func := "stopwatch/stopwatchlaw31.PrizesAlways", spec := "prizesAlways", inPlace := ["internal/bytealg.IndexByteString", "internal/bytealg.IndexString"], unfollowed := true, recurses := true, named := ["internal/bytealg.MaxLen"], loops := true, plainKeys := false, apart := false, narrowed := true }
def PrizesAlwaysUptoSaid : Prop := prizesAlwaysUptoRow.holds Tryz.pinned (OpenSpec.upto prizesAlwaysSpec)

/-- 'stopwatchlaw31.PrizesScaled', WHERE WHAT IT READS IS OF BULK AT MOST 1048576: true; the input reads as it did. -/
def prizesScaledUptoRow : OpenClaim := { program := "ytkfjchmhgpkcbaagreat", sum := "585accb6b12aa1b03d8fefe6666a54405d7ac451fb857d78e2f78818bc83f5e0", func := "stopwatch/stopwatchlaw31.PrizesScaled", spec := "prizesScaled", inPlace := ["internal/bytealg.IndexByteString", "internal/bytealg.IndexString"], unfollowed := true, recurses := true, named := ["internal/bytealg.MaxLen"], loops := true, plainKeys := false, apart := false, narrowed := true }
def PrizesScaledUptoSaid : Prop := prizesScaledUptoRow.holds Tryz.pinned (OpenSpec.upto prizesScaledSpec)

/-- 'stopwatchlaw31.PrizesEither', WHERE WHAT IT READS IS OF BULK AT MOST 1048576: true; the input reads as it did. -/
def prizesEitherUptoRow : OpenClaim := { program := "ytkfjchmhgpkcbaagreat", sum := "585accb6b12aa1b03d8fefe6666a54405d7ac451fb857d78e2f78818bc83f5e0", func := "stopwatch/stopwatchlaw31.PrizesEither", spec := "prizesEither", inPlace := ["internal/bytealg.IndexByteString", "internal/bytealg.IndexString"], unfollowed := true, recurses := true, named := ["internal/bytealg.MaxLen"], loops := true, plainKeys := false, apart := false, narrowed := true }
def PrizesEitherUptoSaid : Prop := prizesEitherUptoRow.holds Tryz.pinned (OpenSpec.upto prizesEitherSpec)

/-- 'stopwatchlaw31.PrizesSum', WHERE WHAT IT READS IS OF BULK AT MOST 1048576: true; the input reads as it did. -/
def prizesSumUptoRow : OpenClaim := { program := "ytkfjchmhgpkcbaagreat", sum := "585accb6b12aa1b03d8fefe6666a54405d7ac451fb857d78e2f78818bc83f5e0", func := "stopwatch/stopwatchlaw31.PrizesSum", spec := "prizesSum", inPlace := ["internal/bytealg.IndexByteString", "internal/bytealg.IndexString"], unfollowed := true, recurses := true, named := ["internal/bytealg.MaxLen"], loops := true, plainKeys := false, apart := false, narrowed := true }
def PrizesSumUptoSaid : Prop := prizesSumUptoRow.holds Tryz.pinned (OpenSpec.upto prizesSumSpec)

end Rows
end Go.Proofs.YtkfjchmhgpkcbaaGreat
