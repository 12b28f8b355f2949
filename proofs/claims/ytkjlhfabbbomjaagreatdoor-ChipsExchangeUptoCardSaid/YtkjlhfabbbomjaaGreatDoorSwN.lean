/- Keys, equality of plain values, maps. -/
import Derived.Test.YtkjlhfabbbomjaaGreatDoorSwM
set_option linter.unusedVariables false
set_option linter.unusedSectionVars false
set_option linter.unusedSimpArgs false
namespace Go.Sw
mutual
def sclA : A → Bool
 | .bool _ => true
 | .int _ _ => true
 | .str _ => true
 | .agg cs => sclL cs
 | _ => false
def sclL : List A → Bool
 | [] => true
 | a :: r => sclA a && sclL r
end
mutual
def valA : A → Value
 | .bool b => .bool b
 | .int k n => .int k n
 | .str s => .string ⟨s.toArray⟩
 | .agg cs => .agg (valL cs).toArray
 | _ => .bool false
def valL : List A → List Value
 | [] => []
 | a :: r => valA a :: valL r
end
mutual
theorem VR.val {ro : Nat → Prop} {σ : Sig} {w : World} : ∀ {a : A} {v : Value}, sclA a = true → VR ro σ w a v → v = valA a
 | .bool _, _, _, h => h
 | .int _ _, _, _, h => h
 | .str _, _, _, h => h
 | .agg cs, v, hs, h => by
  obtain ⟨l, rfl, h⟩ := h
  rw [valA, LR.val hs h]
theorem LR.val {ro : Nat → Prop} {σ : Sig} {w : World} : ∀ {as : List A} {l : List Value}, sclL as = true → LR ro σ w as l → l = valL as
 | [], l, _, h => h
 | a :: r, l, hs, h => by
  obtain ⟨v, l', rfl, h1, h2⟩ := h
  simp only [sclL, Bool.and_eq_true] at hs
  rw [valL, VR.val hs.1 h1, LR.val hs.2 h2]
end
mutual
theorem VR.ofVal {ro : Nat → Prop} {σ : Sig} {w : World} : ∀ {a : A}, sclA a = true → VR ro σ w a (valA a)
 | .bool _, _ => rfl
 | .int _ _, _ => rfl
 | .str _, _ => rfl
 | .agg cs, hs => ⟨valL cs, rfl, LR.ofVal hs⟩
theorem LR.ofVal {ro : Nat → Prop} {σ : Sig} {w : World} : ∀ {as : List A}, sclL as = true → LR ro σ w as (valL as)
 | [], _ => rfl
 | a :: r, hs => by
  simp only [sclL, Bool.and_eq_true] at hs
  exact ⟨_, _, rfl, VR.ofVal hs.1, LR.ofVal hs.2⟩
end
end Go.Sw
