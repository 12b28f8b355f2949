/- What the package-level variables hold: some numbers that are told; bytealg.MaxLen no more than that it is some number. -/
import Derived.Calls
import Derived.Tactics
import Derived.Below
set_option linter.unusedVariables false
set_option linter.unusedSimpArgs false
namespace Go.Sw
def gMax : Nat := 11
def nG : Nat := 12
def gTab : List (List Int) := [[1, 9999], [-1099511627776, 1099511627776], [0, 1048576], [0, 39], [0, 255], [0, 1099511627776], [0, 255], [1, 1048576], [0, 1], [0, 31], [1, 1048576]]
theorem gOk : ((List.range nG).all fun b => Nat.beq b gMax || !(gTab.getD b []).isEmpty) = true := by decide
theorem gLt : Nat.ble gTab.length nG = true := by decide
theorem gMaxLt : Nat.blt gMax nG = true := by decide
structure GP (w : World) : Prop where
 max : ∃ m : Int, w.cell? ⟨gMax, 0, none⟩ = some (.int .i64 m)
 tab : ∀ (g : Nat) (zs : List Int), gTab[g]? = some zs → ∀ (i : Nat) (z : Int), zs[i]? = some z → w.cell? ⟨g, i, none⟩ = some (.int .i64 z)
theorem GP.keep {w w' : World} (h : ∀ b, b < nG → w'.heap[b]? = w.heap[b]?) (g : GP w) : GP w' := by
 obtain ⟨m, hm⟩ := g.max
 refine ⟨⟨m, ?_⟩, fun g' zs hz i z hi => ?_⟩
 ·rw [← hm]
  unfold World.cell?
  rw [h gMax (by simpa using gMaxLt)]
 ·rw [← g.tab g' zs hz i z hi]
  unfold World.cell?
  have h1 := (List.getElem?_eq_some_iff.1 hz).1
  have h2 : gTab.length ≤ nG := by simpa using gLt
  rw [h g' (by omega)]
theorem cell_size {w : World} {b i : Nat} {v : Value} (h : w.cell? ⟨b, i, none⟩ = some v) : b < w.heap.size := by
 cases e : w.heap[b]? with
 | none => simp [World.cell?, e] at h
 | some o => exact (Array.getElem?_eq_some_iff.1 e).1
theorem GP.size {w : World} (g : GP w) (b : Nat) (hb : b < nG) : b < w.heap.size := by
 have h := List.all_eq_true.1 gOk b (List.mem_range.2 hb)
 rw [Bool.or_eq_true] at h
 rcases h with h | h
 ·obtain ⟨m, hm⟩ := g.max
  rw [Nat.eq_of_beq_eq_true h]
  exact cell_size hm
 ·cases e : gTab[b]? with
  | none => rw [List.getD_eq_getElem?_getD, e] at h; simp at h
  | some zs =>
   cases zs with
   | nil => rw [List.getD_eq_getElem?_getD, e] at h; simp at h
   | cons z zs => exact cell_size (g.tab b _ e 0 z rfl)
end Go.Sw
