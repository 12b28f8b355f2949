/- make of slices. -/
import Derived.Test.YtkjlhfabbbomjaaGreatDoorSwR
set_option linter.unusedVariables false
set_option linter.unusedSectionVars false
set_option linter.unusedSimpArgs false
namespace Go.Sw
def mk {α : Type} (n : Int) (z : α) : Option (List α) := bif decide (0 ≤ n) && decide (n ≤ 4294967296) then some (List.replicate n.toNat z) else none
section
variable {P : Program} {o : Oper} {env : Env} {H : Heap} {ro : Nat → Prop} {σ : Sig} {w : World}
end
end Go.Sw
