/- What a row's list of package-level variables gives. -/
import Derived.Test.YtkjlhfabbbomjaaGreatDoorSxK
import Derived.LaidLaws
import Derived.Lib.LaidTab
import Derived.ChangeArms
import Derived.ChangeSame
set_option linter.unusedVariables false
namespace Go.Sw
theorem laid_mem {P : Program} {W : World} {name : String} {d : DataW Unit} : ∀ {laid : List (String × DataW Unit)} {ps : List MemPlace}, DataW.LaidVars P W laid ps → (name, d) ∈ laid →
  ∃ (g : Nat) (t : TypeId) (cs : Array Value) (fuel : Nat) (p : List MemPlace), P.globalNamed name = some g ∧ (P.globals[g]?).map (·.type) = some t ∧ W.var? P name = some cs ∧ DataW.trod (fun _ => ()) P W 0 (fun _ => true) false fuel t cs.toList = some (d, p) := by
 intro laid
 induction laid with
 | nil => intro ps h hm; cases hm
 | cons x laid ih =>
  intro ps h hm
  obtain ⟨g, t, cs, fuel, p, q, h1, h2, h3, h4, h5, h6⟩ := h
  rcases List.mem_cons.1 hm with e | hm
  ·subst e
   exact ⟨g, t, cs, fuel, p, h1, h2, h3, h4⟩
  ·exact ih h5 hm
theorem scope_cells {P : Program} {W : World} {name : String} {a b : Int} {g t e : Nat} {f0 f1 : Field} {laid : List (String × DataW Unit)} {ps : List MemPlace} (h : DataW.LaidVars P W laid ps) (hm : (name, DataW.agg [.lit (.int .i64 a), .lit (.int .i64 b)]) ∈ laid)
  (hg : P.globalNamed name = some g) (hty : (P.globals[g]?).map (·.type) = some t) (ht : P.underlying t = some (.struct #[f0, f1])) (e0 : f0.type = e) (e1 : f1.type = e) (o0 : f0.offset = 0) (o1 : f1.offset = 1) (he : P.underlying e = some (.int .i64)) (hce : P.cellsOf e = 1) (hct : P.cellsOf t = 2) :
  W.cell? ⟨g, 0, none⟩ = some (.int .i64 a) ∧ W.cell? ⟨g, 1, none⟩ = some (.int .i64 b) := by
 obtain ⟨g', t', cs, fuel, p, h1, h2, h3, h4⟩ := laid_mem h hm
 obtain rfl := Option.some.inj (hg.symm.trans h1)
 obtain rfl := Option.some.inj (hty.symm.trans h2)
 obtain ⟨y0, y1, n, q1, q2, q3, q4⟩ := Go.ChangeShapes.trod_struct2 ht h4
 rw [e0, o0, hce] at q3
 rw [e1, o1, hce] at q4
 obtain ⟨m0, r1, r2, _⟩ := DataW.trod_int he q3
 obtain ⟨m1, r3, r4, _⟩ := DataW.trod_int he q4
 subst r2 r4
 have q1' : a = m0 ∧ b = m1 := by simpa using congrArg Prod.fst q1
 obtain ⟨rfl, rfl⟩ := q1'
 rw [World.var?_cell hg h3, World.var?_cell hg h3]
 rw [hct] at q2
 constructor
 ·have := congrArg (·[0]?) r1
  simpa [List.getElem?_take] using this
 ·have := congrArg (·[0]?) r3
  simpa [List.getElem?_take, List.getElem?_drop] using this
theorem tab_two {w : World} {g : Nat} {a b : Int} (s : w.cell? ⟨g, 0, none⟩ = some (.int .i64 a) ∧ w.cell? ⟨g, 1, none⟩ = some (.int .i64 b)) : ∀ (zs : List Int), some [a, b] = some zs → ∀ (i : Nat) (z : Int), zs[i]? = some z → w.cell? ⟨g, i, none⟩ = some (.int .i64 z)
 | zs, h, 0, z, hi => by cases h; cases hi; exact s.1
 | zs, h, 1, z, hi => by cases h; cases hi; exact s.2
 | zs, h, i + 2, z, hi => by cases h; simp at hi
end Go.Sw
