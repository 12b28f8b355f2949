/-
  NARROWER THAN 'FOR EVERY INPUT', by the rows' own cells (each row's printed sentence says how): OutcomePenalty: loops · OutcomeGun: loops · OutcomeWays: loops.
  DERIVED. THE GIVEN ROWS OF THIS SEAT. 3 by the template 'for every input the law returns true; each argument reads behind the call as it read before'; 0 by the template 'total and deterministic' (their statements: YtbiglpikpigidaaGreatTotals.lean).
  GIVEN WITH THE SEED: the statements are not yours to turn. If you find one false, say at which input.
  Laid BY PROGRAM, IN A SANDBOX (cutbox-rows.mjs): the forced cells as the released guide's own fill.sh prints them over the translation d40c0ae8697b23e1… (all of the seat's roots in one cut). By AI agents, Wed Nov 11 2026. No macro, syntax, notation, axiom, sorry.
-/
import Derived.Test.YtbiglpikpigidaaGreatChecked
import GoSem.Claim
import GoSem.ClaimJoined
import GoSem.ClaimMapViews
import Derived.JoinedTies
import Derived.KernelRfl
namespace Go.Proofs.YtbiglpikpigidaaGreat
/- THE CELL 'sum', in the pinned program and in every row, IS THE sha256 OF THE DUMP (.gsa) THAT YtbiglpikpigidaaGreatProg.lean LOADS. Nothing in Lean hashes anything: it is a label: what it is worth is what the hold of that sum in a sandbox is worth. -/
noncomputable def Tryz.pinned : Pinned := { name := "ytbiglpikpigidaagreat", sum := "d40c0ae8697b23e1f3afef59379d105315259eceeadc93234133a62ff5048040", checked := Tryz.checked }
namespace Rows
def none {H : Type} : Left H := { results := [], args := [] }

/-- 'stopwatchlaw23.OutcomePenalty': WHATEVER THE INPUT: true; the input reads as it did. -/
def outcomePenaltySpec : ChangeSpec := { name := "outcomePenalty", fn := fun _ => fun
  | [d1, d2, d3, d4, d5, d6] => { results := [.lit (.bool true)], args := [d1, d2, d3, d4, d5, d6] }
  | _ => none }
def outcomePenaltyRow : OpenClaim := { program := "ytbiglpikpigidaagreat", sum := "d40c0ae8697b23e1f3afef59379d105315259eceeadc93234133a62ff5048040", func := "stopwatch/stopwatchlaw23.OutcomePenalty", spec := "outcomePenalty", inPlace := ["internal/bytealg.IndexByteString", "internal/bytealg.IndexString", "slices.overlaps[int]"], unfollowed := true, recurses := true, named := ["internal/bytealg.MaxLen"], loops := true, plainKeys := false, apart := false }
def OutcomePenaltySaid : Prop := outcomePenaltyRow.holds Tryz.pinned (OpenSpec.ofChange outcomePenaltySpec)

/-- ITS FALSE NEIGHBOUR: 'it returns false'. Refute it at one input. -/
def outcomePenaltyWrong : ChangeSpec := { name := "outcomePenalty", fn := fun _ => fun
  | [d1, d2, d3, d4, d5, d6] => { results := [.lit (.bool false)], args := [d1, d2, d3, d4, d5, d6] }
  | _ => none }
def OutcomePenaltyWrongFalsely : Prop := outcomePenaltyRow.holds Tryz.pinned (OpenSpec.ofChange outcomePenaltyWrong)

/-- 'stopwatchlaw23.OutcomeGun': WHATEVER THE INPUT: true; the input reads as it did. -/
def outcomeGunSpec : ChangeSpec := { name := "outcomeGun", fn := fun _ => fun
  | [d1, d2, d3, d4, d5] => { results := [.lit (.bool true)], args := [d1, d2, d3, d4, d5] }
  | _ => none }
def outcomeGunRow : OpenClaim := { program := "ytbiglpikpigidaagreat", sum := "d40c0ae8697b23e1f3afef59379d105315259eceeadc93234133a62ff5048040", func := "stopwatch/stopwatchlaw23.OutcomeGun", spec := "outcomeGun", inPlace := ["internal/bytealg.IndexByteString", "internal/bytealg.IndexString", "slices.overlaps[int]"], unfollowed := true, recurses := true, named := ["internal/bytealg.MaxLen"], loops := true, plainKeys := false, apart := false }
def OutcomeGunSaid : Prop := outcomeGunRow.holds Tryz.pinned (OpenSpec.ofChange outcomeGunSpec)

/-- ITS FALSE NEIGHBOUR: 'it returns false'. Refute it at one input. -/
def outcomeGunWrong : ChangeSpec := { name := "outcomeGun", fn := fun _ => fun
  | [d1, d2, d3, d4, d5] => { results := [.lit (.bool false)], args := [d1, d2, d3, d4, d5] }
  | _ => none }
def OutcomeGunWrongFalsely : Prop := outcomeGunRow.holds Tryz.pinned (OpenSpec.ofChange outcomeGunWrong)

/-- 'stopwatchlaw23.OutcomeWays': WHATEVER THE INPUT: true; the input reads as it did. -/
def outcomeWaysSpec : ChangeSpec := { name := "outcomeWays", fn := fun _ => fun
  | [d1, d2, d3, d4] => { results := [.lit (.bool true)], args := [d1, d2, d3, d4] }
  | _ => none }
def outcomeWaysRow : OpenClaim := { program := "ytbiglpikpigidaagreat", sum := "d40c0ae8697b23e1f3afef59379d105315259eceeadc93234133a62ff5048040", func := "stopwatch/stopwatchlaw23.OutcomeWays", spec := "outcomeWays", inPlace := ["internal/bytealg.IndexByteString", "internal/bytealg.IndexString", "slices.overlaps[int]"], unfollowed := true, recurses := true, named := ["internal/bytealg.MaxLen"], loops := true, plainKeys := false, apart := false }
def OutcomeWaysSaid : Prop := outcomeWaysRow.holds Tryz.pinned (OpenSpec.ofChange outcomeWaysSpec)

/-- ITS FALSE NEIGHBOUR: 'it returns false'. Refute it at one input. -/
def outcomeWaysWrong : ChangeSpec := { name := "outcomeWays", fn := fun _ => fun
  | [d1, d2, d3, d4] => { results := [.lit (.bool false)], args := [d1, d2, d3, d4] }
  | _ => none }
def OutcomeWaysWrongFalsely : Prop := outcomeWaysRow.holds Tryz.pinned (OpenSpec.ofChange outcomeWaysWrong)

/- THE SECOND FORM. 'bulk': how many values and letters a reading holds, each counted each time it is reached (what is shared counts as often as it is met; a slice's spare places count too). A statement '..UptoSaid' is the law's where the arguments, and the package variables that the reading takes, are together of bulk at most 1048576: NARROWER than '..Said'. Prove '..Said' where nothing that the law and all that it calls make is longer than what came in: it says more and counts as full. Else prove '..UptoSaid'. A law counts once. -/
mutual
def uptoBulk {H : Type} : DataW H → Nat
  | .lit (.string bytes) => bytes.length + 1
  | .lit _ => 1
  | .nil => 1
  | .ptr d => uptoBulk d + 1
  | .slice elems spare => uptoBulkAll elems + uptoBulkAll spare + 1
  | .agg parts => uptoBulkAll parts + 1
  | .iface _ d => uptoBulk d + 1
  | .map entries => uptoBulkEntries entries + 1
  | .held _ => 1
def uptoBulkAll {H : Type} : List (DataW H) → Nat
  | [] => 0
  | d :: r => uptoBulk d + uptoBulkAll r
def uptoBulkEntries {H : Type} : List (Lit × DataW H) → Nat
  | [] => 0
  | x :: r => uptoBulkEntry x + uptoBulkEntries r
def uptoBulkEntry {H : Type} : Lit × DataW H → Nat
  | (.string bytes, d) => bytes.length + uptoBulk d + 1
  | (_, d) => uptoBulk d + 1
 end
def uptoSmall : (H : Type) → List (DataW H) → Bool := fun _ ds => decide (uptoBulkAll ds ≤ 1048576)
def OpenSpec.upto (s : _root_.Go.ChangeSpec) : _root_.Go.OpenSpec := { _root_.Go.OpenSpec.ofChange s with cond := some uptoSmall }

/-- 'stopwatchlaw23.OutcomePenalty', WHERE WHAT IT READS IS OF BULK AT MOST 1048576: true; the input reads as it did. -/
def outcomePenaltyUptoRow : OpenClaim := { program := "ytbiglpikpigidaagreat", sum := "d40c0ae8697b23e1f3afef59379d105315259eceeadc93234133a62ff5048040", func := "stopwatch/stopwatchlaw23.OutcomePenalty", spec := "outcomePenalty", inPlace := ["internal/bytealg.IndexByteString", "internal/bytealg.IndexString", "slices.overlaps[int]"], unfollowed := true, recurses := true, named := ["internal/bytealg.MaxLen"], loops := true, plainKeys := false, apart := false, narrowed := true }
def OutcomePenaltyUptoSaid : Prop := outcomePenaltyUptoRow.holds Tryz.pinned (OpenSpec.upto outcomePenaltySpec)

/-- 'stopwatchlaw23.OutcomeGun', WHERE WHAT IT READS IS OF BULK AT MOST 1048576: true; the input reads as it did. -/
def outcomeGunUptoRow : OpenClaim := { program := "ytbiglpikpigidaagreat", sum := "d40c0ae8697b23e1f3afef59379d105315259eceeadc93234133a62ff5048040", func := "stopwatch/stopwatchlaw23.OutcomeGun", spec := "outcomeGun", inPlace := ["internal/bytealg.IndexByteString", "internal/bytealg.IndexString", "slices.overlaps[int]"], unfollowed := true, recurses := true, named := ["internal/bytealg.MaxLen"], loops := true, plainKeys := false, apart := false, narrowed := true }
def OutcomeGunUptoSaid : Prop := outcomeGunUptoRow.holds Tryz.pinned (OpenSpec.upto outcomeGunSpec)

/-- 'stopwatchlaw23.OutcomeWays', WHERE WHAT IT READS IS OF BULK AT MOST 1048576: true; the input reads as it did. -/
def outcomeWaysUptoRow : OpenClaim := { program := "ytbiglpikpigidaagreat", sum := "d40c0ae8697b23e1f3afef59379d105315259eceeadc93234133a62ff5048040", func := "stopwatch/stopwatchlaw23.OutcomeWays", spec := "outcomeWays", inPlace := ["internal/bytealg.IndexByteString", "internal/bytealg.IndexString", "slices.overlaps[int]"], unfollowed := true, recurses := true, named := ["internal/bytealg.MaxLen"], loops := true, plainKeys := false, apart := false, narrowed := true }
def OutcomeWaysUptoSaid : Prop := outcomeWaysUptoRow.holds Tryz.pinned (OpenSpec.upto outcomeWaysSpec)

end Rows
end Go.Proofs.YtbiglpikpigidaaGreat
