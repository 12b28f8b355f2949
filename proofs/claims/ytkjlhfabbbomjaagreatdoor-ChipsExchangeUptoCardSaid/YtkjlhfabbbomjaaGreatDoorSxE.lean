/- Loads of package-level variables; what else the laws of facts ask for. -/
import Derived.Test.YtkjlhfabbbomjaaGreatDoorSxD
set_option linter.unusedVariables false
set_option linter.unusedSectionVars false
set_option linter.unusedSimpArgs false
namespace Go.Sw
section
variable {P : Program} {o : Oper} {env : Env} {H : Heap}
theorem CR.glob {ro : Nat → Prop} {σ : Sig} {w : World} (g : GP w) {b : Nat} {zs : List Int} (h : gTab[b]? = some zs) : ∀ (i : Nat), CR ro σ w b ((zs.drop i).map (A.int .i64)) i := by
 intro i
 generalize hl : zs.drop i = l
 induction l generalizing i with
 | nil => trivial
 | cons z l ih =>
  have hz : zs[i]? = some z := by
   have := congrArg (·[0]?) hl
   simpa using this
  have hl' : zs.drop (i + 1) = l := by
   rw [← List.drop_drop, hl]; rfl
  exact ⟨⟨_, g.tab b zs h i z hz, by simp [plainV], rfl⟩, ih (i + 1) hl'⟩
theorem OpV.loadG {t n g : Nat} {zs : List Int} (ha : ∀ w, (isAgg t).run P w = .ok true w) (hs : ∀ w, (sizeOf t).run P w = .ok n w) (hg : gTab[g]? = some zs) (hl : zs.length = n) (ho : o.op = .load t (.global g) := by exact rfl) :
  OpV P o env H (.agg (zs.map (A.int .i64))) := by
 intro fr ro σ N a w r
 obtain ⟨l, q1, _, q2⟩ := run_loadCellsFrom (P := P) (b := g) (cs := zs.map (A.int .i64)) (off := 0) 0 (by simpa using CR.glob (ro := ro) (σ := σ) r.sim.roOk.gp hg 0)
 have q2 := q2 w #[] rfl
 rw [List.length_map, hl] at q2
 refine ⟨.agg l.toArray, ?_, l, rfl, q1⟩
 have h2 : a.eval (.global g) = .pointer (some ⟨g, 0, none⟩) := rfl
 generalize a.eval = ρ at *
 simp [execOp, ho, h2, Instr.loadAt, Instr.sureAddr, loadVar, ha, hs, loadCells, q2, go_sem]
end
end Go.Sw
