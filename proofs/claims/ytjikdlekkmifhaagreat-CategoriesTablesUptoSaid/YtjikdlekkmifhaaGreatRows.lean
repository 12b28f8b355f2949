/-
  NARROWER THAN 'FOR EVERY INPUT', by the rows' own cells (each row's printed sentence says how): CategoriesSpec: loops · CategoriesMembers: loops · CategoriesTables: loops · CategoriesOrder: loops · CategoriesOf: loops.
  DERIVED. THE GIVEN ROWS OF THIS SEAT. 5 by the template 'for every input the law returns true; each argument reads behind the call as it read before'; 0 by the template 'total and deterministic' (their statements: YtjikdlekkmifhaaGreatTotals.lean).
  GIVEN WITH THE SEED: the statements are not yours to turn. If you find one false, say at which input.
  Laid BY PROGRAM, IN A SANDBOX (cutbox-rows.mjs): the forced cells as the released guide's own fill.sh prints them over the translation 4789a0076f2cf2e3… (all of the seat's roots in one cut). By AI agents, Wed Nov 11 2026. No macro, syntax, notation, axiom, sorry.
-/
import Derived.Test.YtjikdlekkmifhaaGreatChecked
import GoSem.Claim
import GoSem.ClaimJoined
import GoSem.ClaimMapViews
import Derived.JoinedTies
import Derived.KernelRfl
namespace Go.Proofs.YtjikdlekkmifhaaGreat
/- THE CELL 'sum', in the pinned program and in every row, IS THE sha256 OF THE DUMP (.gsa) THAT YtjikdlekkmifhaaGreatProg.lean LOADS. Nothing in Lean hashes anything: it is a label: what it is worth is what the hold of that sum in a sandbox is worth. -/
noncomputable def Tryz.pinned : Pinned := { name := "ytjikdlekkmifhaagreat", sum := "4789a0076f2cf2e3aea661a7e3d7bf06d4da353232ed274c5680e2f6503d6a1a", checked := Tryz.checked }
namespace Rows
def none {H : Type} : Left H := { results := [], args := [] }

/-- 'stopwatchlaw29.CategoriesSpec': WHATEVER THE INPUT: true; the input reads as it did. -/
def categoriesSpecSpec : ChangeSpec := { name := "categoriesSpec", fn := fun _ => fun
  | [d1, d2, d3, d4] => { results := [.lit (.bool true)], args := [d1, d2, d3, d4] }
  | _ => none }
def categoriesSpecRow : OpenClaim := { program := "ytjikdlekkmifhaagreat", sum := "4789a0076f2cf2e3aea661a7e3d7bf06d4da353232ed274c5680e2f6503d6a1a", func := "stopwatch/stopwatchlaw29.CategoriesSpec", spec := "categoriesSpec", inPlace := ["internal/bytealg.IndexByteString", "internal/bytealg.IndexString"], unfollowed := true, recurses := true, named := ["internal/bytealg.MaxLen"], loops := true, plainKeys := false, apart := false }
def CategoriesSpecSaid : Prop := categoriesSpecRow.holds Tryz.pinned (OpenSpec.ofChange categoriesSpecSpec)

/-- ITS FALSE NEIGHBOUR: 'it returns false'. Refute it at one input. -/
def categoriesSpecWrong : ChangeSpec := { name := "categoriesSpec", fn := fun _ => fun
  | [d1, d2, d3, d4] => { results := [.lit (.bool false)], args := [d1, d2, d3, d4] }
  | _ => none }
def CategoriesSpecWrongFalsely : Prop := categoriesSpecRow.holds Tryz.pinned (OpenSpec.ofChange categoriesSpecWrong)

/-- 'stopwatchlaw29.CategoriesMembers': WHATEVER THE INPUT: true; the input reads as it did. -/
def categoriesMembersSpec : ChangeSpec := { name := "categoriesMembers", fn := fun _ => fun
  | [d1, d2, d3, d4] => { results := [.lit (.bool true)], args := [d1, d2, d3, d4] }
  | _ => none }
def categoriesMembersRow : OpenClaim := { program := "ytjikdlekkmifhaagreat", sum := "4789a0076f2cf2e3aea661a7e3d7bf06d4da353232ed274c5680e2f6503d6a1a", func := "stopwatch/stopwatchlaw29.CategoriesMembers", spec := "categoriesMembers", inPlace := ["internal/bytealg.IndexByteString", "internal/bytealg.IndexString"], unfollowed := true, recurses := true, named := ["internal/bytealg.MaxLen"], loops := true, plainKeys := false, apart := false }
def CategoriesMembersSaid : Prop := categoriesMembersRow.holds Tryz.pinned (OpenSpec.ofChange categoriesMembersSpec)

/-- ITS FALSE NEIGHBOUR: 'it returns false'. Refute it at one input. -/
def categoriesMembersWrong : ChangeSpec := { name := "categoriesMembers", fn := fun _ => fun
  | [d1, d2, d3, d4] => { results := [.lit (.bool false)], args := [d1, d2, d3, d4] }
  | _ => none }
def CategoriesMembersWrongFalsely : Prop := categoriesMembersRow.holds Tryz.pinned (OpenSpec.ofChange categoriesMembersWrong)

/-- 'stopwatchlaw29.CategoriesTables': WHATEVER THE INPUT: true; the input reads as it did. -/
def categoriesTablesSpec : ChangeSpec := { name := "categoriesTables", fn := fun _ => fun
  | [d1, d2] => { results := [.lit (.bool true)], args := [d1, d2] }
  | _ => none }
def categoriesTablesRow : OpenClaim := { program := "ytjikdlekkmifhaagreat", sum := "4789a0076f2cf2e3aea661a7e3d7bf06d4da353232ed274c5680e2f6503d6a1a", func := "stopwatch/stopwatchlaw29.CategoriesTables", spec := "categoriesTables", inPlace := ["internal/bytealg.IndexByteString", "internal/bytealg.IndexString"], unfollowed := true, recurses := true, named := ["internal/bytealg.MaxLen"], loops := true, plainKeys := false, apart := false }
def CategoriesTablesSaid : Prop := categoriesTablesRow.holds Tryz.pinned (OpenSpec.ofChange categoriesTablesSpec)

/-- ITS FALSE NEIGHBOUR: 'it returns false'. Refute it at one input. -/
def categoriesTablesWrong : ChangeSpec := { name := "categoriesTables", fn := fun _ => fun
  | [d1, d2] => { results := [.lit (.bool false)], args := [d1, d2] }
  | _ => none }
def CategoriesTablesWrongFalsely : Prop := categoriesTablesRow.holds Tryz.pinned (OpenSpec.ofChange categoriesTablesWrong)

/-- 'stopwatchlaw29.CategoriesOrder': WHATEVER THE INPUT: true; the input reads as it did. -/
def categoriesOrderSpec : ChangeSpec := { name := "categoriesOrder", fn := fun _ => fun
  | [d1, d2, d3, d4, d5] => { results := [.lit (.bool true)], args := [d1, d2, d3, d4, d5] }
  | _ => none }
def categoriesOrderRow : OpenClaim := { program := "ytjikdlekkmifhaagreat", sum := "4789a0076f2cf2e3aea661a7e3d7bf06d4da353232ed274c5680e2f6503d6a1a", func := "stopwatch/stopwatchlaw29.CategoriesOrder", spec := "categoriesOrder", inPlace := ["internal/bytealg.IndexByteString", "internal/bytealg.IndexString"], unfollowed := true, recurses := true, named := ["internal/bytealg.MaxLen"], loops := true, plainKeys := false, apart := false }
def CategoriesOrderSaid : Prop := categoriesOrderRow.holds Tryz.pinned (OpenSpec.ofChange categoriesOrderSpec)

/-- ITS FALSE NEIGHBOUR: 'it returns false'. Refute it at one input. -/
def categoriesOrderWrong : ChangeSpec := { name := "categoriesOrder", fn := fun _ => fun
  | [d1, d2, d3, d4, d5] => { results := [.lit (.bool false)], args := [d1, d2, d3, d4, d5] }
  | _ => none }
def CategoriesOrderWrongFalsely : Prop := categoriesOrderRow.holds Tryz.pinned (OpenSpec.ofChange categoriesOrderWrong)

/-- 'stopwatchlaw29.CategoriesOf': WHATEVER THE INPUT: true; the input reads as it did. -/
def categoriesOfSpec : ChangeSpec := { name := "categoriesOf", fn := fun _ => fun
  | [d1, d2] => { results := [.lit (.bool true)], args := [d1, d2] }
  | _ => none }
def categoriesOfRow : OpenClaim := { program := "ytjikdlekkmifhaagreat", sum := "4789a0076f2cf2e3aea661a7e3d7bf06d4da353232ed274c5680e2f6503d6a1a", func := "stopwatch/stopwatchlaw29.CategoriesOf", spec := "categoriesOf", inPlace := ["internal/bytealg.IndexByteString", "internal/bytealg.IndexString"], unfollowed := true, recurses := true, named := ["internal/bytealg.MaxLen"], loops := true, plainKeys := false, apart := false }
def CategoriesOfSaid : Prop := categoriesOfRow.holds Tryz.pinned (OpenSpec.ofChange categoriesOfSpec)

/-- ITS FALSE NEIGHBOUR: 'it returns false'. Refute it at one input. -/
def categoriesOfWrong : ChangeSpec := { name := "categoriesOf", fn := fun _ => fun
  | [d1, d2] => { results := [.lit (.bool false)], args := [d1, d2] }
  | _ => none }
def CategoriesOfWrongFalsely : Prop := categoriesOfRow.holds Tryz.pinned (OpenSpec.ofChange categoriesOfWrong)

/- THE SECOND FORM. 'bulk': how many values and letters a reading holds, each counted each time it is reached (what is shared counts as often as it is met; a slice's spare places count too). A statement '..UptoSaid' is the law's where the arguments, and the package variables that the reading takes, are together of bulk at most 1048576: NARROWER than '..Said'. Prove '..Said' where nothing that the law and all that it calls make is longer than what came in: it says more and counts as full. Else prove '..UptoSaid'. A law counts once. -/
mutual
def uptoBulk {H : Type} : DataW H → Nat
  | .lit (.string bytes) => bytes.length + 1
  | .lit _ => 1
  | .nil => 1
  | .ptr d => uptoBulk d + 1
  | .slice elems spare => uptoBulkAll elems + uptoBulkAll spare + 1
  | .agg parts => uptoBulkAll parts + 1
  | .iface _ d => uptoBulk d + 1
  | .map entries => uptoBulkEntries entries + 1
  | .held _ => 1
def uptoBulkAll {H : Type} : List (DataW H) → Nat
  | [] => 0
  | d :: r => uptoBulk d + uptoBulkAll r
def uptoBulkEntries {H : Type} : List (Lit × DataW H) → Nat
  | [] => 0
  | x :: r => uptoBulkEntry x + uptoBulkEntries r
def uptoBulkEntry {H : Type} : Lit × DataW H → Nat
  | (.string bytes, d) => bytes.length + uptoBulk d + 1
  | (_, d) => uptoBulk d + 1
 end
def uptoSmall : (H : Type) → List (DataW H) → Bool := fun _ ds => decide (uptoBulkAll ds ≤ 1048576)
def OpenSpec.upto (s : _root_.Go.ChangeSpec) : _root_.Go.OpenSpec := { _root_.Go.OpenSpec.ofChange s with cond := some uptoSmall }

/-- 'stopwatchlaw29.CategoriesSpec', WHERE WHAT IT READS IS OF BULK AT MOST 1048576: true; the input reads as it did. -/
def categoriesSpecUptoRow : OpenClaim := { program := "ytjikdlekkmifhaagreat", sum := "4789a0076f2cf2e3aea661a7e3d7bf06d4da353232ed274c5680e2f6503d6a1a", func := "stopwatch/stopwatchlaw29.CategoriesSpec", spec := "categoriesSpec", inPlace := ["internal/bytealg.IndexByteString", "internal/bytealg.IndexString"], unfollowed := true, recurses := true, named := ["internal/bytealg.MaxLen"], loops := true, plainKeys := false, apart := false, narrowed := true }
def CategoriesSpecUptoSaid : Prop := categoriesSpecUptoRow.holds Tryz.pinned (OpenSpec.upto categoriesSpecSpec)

/-- 'stopwatchlaw29.CategoriesMembers', WHERE WHAT IT READS IS OF BULK AT MOST 1048576: true; the input reads as it did. -/
def categoriesMembersUptoRow : OpenClaim := { program := "ytjikdlekkmifhaagreat", sum := "4789a0076f2cf2e3aea661a7e3d7bf06d4da353232ed274c5680e2f6503d6a1a", func := "stopwatch/stopwatchlaw29.CategoriesMembers", spec := "categoriesMembers", inPlace := ["internal/bytealg.IndexByteString", "internal/bytealg.IndexString"], unfollowed := true, recurses := true, named := ["internal/bytealg.MaxLen"], loops := true, plainKeys := false, apart := false, narrowed := true }
def CategoriesMembersUptoSaid : Prop := categoriesMembersUptoRow.holds Tryz.pinned (OpenSpec.upto categoriesMembersSpec)

/-- 'stopwatchlaw29.CategoriesTables', WHERE WHAT IT READS IS OF BULK AT MOST 1048576: true; the input reads as it did. -/
def categoriesTablesUptoRow : OpenClaim := { program := "ytjikdlekkmifhaagreat", sum := "4789a0076f2cf2e3aea661a7e3d7bf06d4da353232ed274c5680e2f6503d6a1a", func := "stopwatch/stopwatchlaw29.CategoriesTables", spec := "categoriesTables", inPlace := ["internal/bytealg.IndexByteString", "internal/bytealg.IndexString"], unfollowed := true, recurses := true, named := ["internal/bytealg.MaxLen"], loops := true, plainKeys := false, apart := false, narrowed := true }
def CategoriesTablesUptoSaid : Prop := categoriesTablesUptoRow.holds Tryz.pinned (OpenSpec.upto categoriesTablesSpec)

/-- 'stopwatchlaw29.CategoriesOrder', WHERE WHAT IT READS IS OF BULK AT MOST 1048576: true; the input reads as it did. -/
def categoriesOrderUptoRow : OpenClaim := { program := "ytjikdlekkmifhaagreat", sum := "4789a0076f2cf2e3aea661a7e3d7bf06d4da353232ed274c5680e2f6503d6a1a", func := "stopwatch/stopwatchlaw29.CategoriesOrder", spec := "categoriesOrder", inPlace := ["internal/bytealg.IndexByteString", "internal/bytealg.IndexString"], unfollowed := true, recurses := true, named := ["internal/bytealg.MaxLen"], loops := true, plainKeys := false, apart := false, narrowed := true }
def CategoriesOrderUptoSaid : Prop := categoriesOrderUptoRow.holds Tryz.pinned (OpenSpec.upto categoriesOrderSpec)

/-- 'stopwatchlaw29.CategoriesOf', WHERE WHAT IT READS IS OF BULK AT MOST 1048576: true; the input reads as it did. -/
def categoriesOfUptoRow : OpenClaim := { program := "ytjikdlekkmifhaagreat", sum := "4789a0076f2cf2e3aea661a7e3d7bf06d4da353232ed274c5680e2f6503d6a1a", func := "stopwatch/stopwatchlaw29.CategoriesOf", spec := "categoriesOf", inPlace := ["internal/bytealg.IndexByteString", "internal/bytealg.IndexString"], unfollowed := true, recurses := true, named := ["internal/bytealg.MaxLen"], loops := true, plainKeys := false, apart := false, narrowed := true }
def CategoriesOfUptoSaid : Prop := categoriesOfUptoRow.holds Tryz.pinned (OpenSpec.upto categoriesOfSpec)

end Rows
end Go.Proofs.YtjikdlekkmifhaaGreat
