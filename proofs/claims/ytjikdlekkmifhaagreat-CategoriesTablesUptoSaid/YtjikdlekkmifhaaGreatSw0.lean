/- What the package-level variables hold: of bytealg.MaxLen no more than that it is some number. -/
import Derived.Calls
import Derived.Tactics
import Derived.Below
set_option linter.unusedVariables false
set_option linter.unusedSimpArgs false
namespace Go.Sw
def nG : Nat := 1
def GP (w : World) : Prop := ∃ m : Int, w.cell? ⟨0, 0, none⟩ = some (.int .i64 m)
theorem GP.keep {w w' : World} (h : ∀ b, b < nG → w'.heap[b]? = w.heap[b]?) (g : GP w) : GP w' := by
 obtain ⟨m, hm⟩ := g
 refine ⟨m, ?_⟩
 rw [← hm]
 unfold World.cell?
 rw [h 0 (by decide)]
theorem GP.size {w : World} (g : GP w) (b : Nat) (hb : b < nG) : b < w.heap.size := by
 obtain ⟨m, hm⟩ := g
 have : b = 0 := by unfold nG at hb; omega
 subst this
 unfold World.cell? at hm
 split at hm
 ·rename_i h
  exact (Array.getElem?_eq_some_iff.1 h).1
 ·cases hm
end Go.Sw
