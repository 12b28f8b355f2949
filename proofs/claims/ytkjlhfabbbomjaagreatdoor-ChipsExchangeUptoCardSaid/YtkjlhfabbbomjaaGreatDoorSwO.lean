/- Maps: keys, what a map holds as a list of pairs, the operations on maps. -/
import Derived.Test.YtkjlhfabbbomjaaGreatDoorSwN
import Derived.Maps.Keyed
import Derived.Laws.StructEq
set_option linter.unusedVariables false
set_option linter.unusedSectionVars false
set_option linter.unusedSimpArgs false
namespace Go.Sw
open Go.MapKept
structure KeyTy (P : Program) (kt : TypeId) {α : Type} (ek : α → A) : Prop where
 scl : ∀ x, sclA (ek x) = true
 inj : ∀ x y, valA (ek x) = valA (ek y) → x = y
 check : ∀ (w : World) em x, (Instr.checkKey em 10000 kt (valA (ek x))).run P w = .ok () w
 find : ∀ (w : World) x (es : List MapEntry), (∀ e ∈ es, ∃ y, e.key = valA (ek y)) →
  ((Instr.findKey kt (valA (ek x)) es).run P w = .ok none w ∧ ∀ e ∈ es, e.key ≠ valA (ek x)) ∨ ∃ j e, (Instr.findKey kt (valA (ek x)) es).run P w = .ok (some (j, e.val)) w ∧ es[j]? = some e ∧ e.key = valA (ek x)
 stays : ∀ (w : World) x, (Instr.keyThatStays (valA (ek x)) (valA (ek x))).run P w = .ok (valA (ek x)) w
section
variable {P : Program} {kt : TypeId}
theorem KeyTy.plain {α : Type} {ek : α → A} {d : TypeDesc} (hk : P.underlying kt = some d) (hp : ∀ x, IsKey d (valA (ek x))) (hs : ∀ x, sclA (ek x) = true) (hi : ∀ x y, valA (ek x) = valA (ek y) → x = y) : KeyTy P kt ek := by
 refine ⟨hs, hi, fun w em x => run_checkKey hk (hp x) em 9999, fun w x es hes => ?_, fun w x => run_keyThatStays (hp x)⟩
 ·have hks : ∀ y ∈ es, IsKey d y.key := fun y hy => by
   obtain ⟨l, hl⟩ := hes y hy
   rw [hl]; exact hp l
  rcases findNow_spec (hp x) es 0 hks with ⟨h1, h2⟩ | ⟨j, e0, h1, h2, h3⟩
  ·exact Or.inl ⟨run_findKey hk h1, h2⟩
  ·exact Or.inr ⟨j, e0, by simpa using run_findKey hk h1, h2, h3⟩
theorem KeyTy.int {q : IntKind} (hk : P.underlying kt = some (.int q)) : KeyTy P kt (fun n => A.int q n) :=
 KeyTy.plain hk (fun x => by simp [IsKey, valA]) (fun _ => rfl) (fun x y h => by simpa [valA] using h)
theorem KeyTy.str (hk : P.underlying kt = some .string) : KeyTy P kt A.str :=
 KeyTy.plain hk (fun x => by simp [IsKey, valA]) (fun _ => rfl) (fun x y h => by simpa [valA] using h)
theorem KeyTy.struct {α : Type} [DecidableEq α] {ek : α → A} {fs : Array Field} (hk : P.underlying kt = some (.struct fs)) (hs : ∀ x, sclA (ek x) = true) (hi : ∀ x y, valA (ek x) = valA (ek y) → x = y)
  (hc : ∀ (w : World) em x, (Instr.checkKey em 10000 kt (valA (ek x))).run P w = .ok () w)
  (he : ∀ (w : World) x y, (Op.equal kt (valA (ek x)) (valA (ek y))).run P w = .ok (decide (x = y)) w) (hb : ∀ x, Instr.sameBits 10000 (valA (ek x)) (valA (ek x)) = true) : KeyTy P kt ek := by
 refine ⟨hs, hi, hc, fun w x es hes => ?_, fun w x => by simp [Instr.keyThatStays, hb x]⟩
 ·have asking : ∀ (es : List MapEntry) (i : Nat), (∀ e ∈ es, ∃ y, e.key = valA (ek y)) →
    ((Instr.findAsking kt (valA (ek x)) es i).run P w = .ok none w ∧ ∀ e ∈ es, e.key ≠ valA (ek x)) ∨
    ∃ j e, (Instr.findAsking kt (valA (ek x)) es i).run P w = .ok (some (i + j, e.val)) w ∧ es[j]? = some e ∧ e.key = valA (ek x) := by
   intro es
   induction es with
   | nil => intro i _; exact .inl ⟨by simp [Instr.findAsking], by simp⟩
   | cons e es ih =>
    intro i hall
    obtain ⟨y, hy⟩ := hall e (by simp)
    have hr := he w x y
    by_cases hxy : x = y
    ·subst hxy
     exact .inr ⟨0, e, by simp [Instr.findAsking, hy, hr], rfl, hy⟩
    ·rcases ih (i + 1) (fun z hz => hall z (by simp [hz])) with ⟨h1, h2⟩ | ⟨j, e', h1, h2, h3⟩
     ·refine .inl ⟨by simp [Instr.findAsking, hy, hr, hxy, h1], fun z hz => ?_⟩
      rcases List.mem_cons.1 hz with rfl | hz
      ·rw [hy]; intro q; exact hxy (hi _ _ q).symm
      ·exact h2 z hz
     ·exact .inr ⟨j + 1, e', by simp [Instr.findAsking, hy, hr, hxy, h1, Nat.add_assoc, Nat.add_comm 1 j], by simpa using h2, h3⟩
  cases es with
  | nil => exact .inl ⟨by simp [Instr.findKey, run_underlying hk, Instr.findNow, Result.andThen], by simp⟩
  | cons e es =>
   have hn : Instr.findNow (.struct fs) (valA (ek x)) (e :: es) 0 = none := by
    simp only [Instr.findNow]
    have : ∀ v v', Instr.sameNow (.struct fs) v v' = none := by intro v v'; cases v <;> cases v' <;> rfl
    rw [this]
   have hf : (Instr.findKey kt (valA (ek x)) (e :: es)).run P w = (Instr.findAsking kt (valA (ek x)) (e :: es) 0).run P w := by
    simp only [Instr.findKey, Sem.run_bind, run_underlying hk, Result.andThen, hn]
   rw [hf]
   simpa using asking (e :: es) 0 hes
def mget {α β : Type} [DecidableEq α] (l : List (α × β)) (k : α) : Option β := (l.find? fun p => decide (p.1 = k)).map (·.2)
def mset {α β : Type} [DecidableEq α] (l : List (α × β)) (k : α) (v : β) : List (α × β) := bif l.any fun p => decide (p.1 = k) then l.map fun p => bif decide (p.1 = k) then (p.1, v) else p else l ++ [(k, v)]
def mgetD {α β : Type} [DecidableEq α] (l : List (α × β)) (k : α) (z : β) : β := (mget l k).getD z
def mhas {α β : Type} [DecidableEq α] (l : List (α × β)) (k : α) : Bool := l.any fun p => decide (p.1 = k)
def menc {α β : Type} (ek : α → A) (ev : β → A) (l : List (α × β)) : List (A × A) := l.map fun p => (ek p.1, ev p.2)
section
variable {α β : Type} [DecidableEq α] {ek : α → A} {ev : β → A} {ro : Nat → Prop} {w : World} (K : KeyTy P kt ek)
include K
theorem ER.keys : ∀ {l : List (α × β)} {es : List MapEntry}, ER ro [] w (menc ek ev l) es → es.map (·.key) = l.map fun p => valA (ek p.1)
 | [], es, h => by cases (show es = [] from h); rfl
 | p :: l, es, h => by
  obtain ⟨e, l', rfl, h1, h2, h3⟩ := h
  simp only [List.map_cons]
  rw [VR.val (K.scl _) h1, ER.keys (l := l) h3]
theorem ER.keyed {l : List (α × β)} {es : List MapEntry} (h : ER ro [] w (menc ek ev l) es) : ∀ e ∈ es, ∃ y, e.key = valA (ek y) := by
 intro e he
 have : e.key ∈ es.map (·.key) := List.mem_map_of_mem he
 rw [ER.keys K h] at this
 obtain ⟨p, _, hp⟩ := List.mem_map.1 this
 exact ⟨p.1, hp.symm⟩
theorem ER.find : ∀ {l : List (α × β)} {es : List MapEntry}, ER ro [] w (menc ek ev l) es → ∀ (x : α), (es.map (·.key)).Nodup →
  ((∀ e : MapEntry, e ∈ es → e.key ≠ valA (ek x)) → mget l x = none ∧ mhas l x = false) ∧
  (∀ (j : Nat) (e : MapEntry), es[j]? = some e → e.key = valA (ek x) → mhas l x = true ∧ ∃ v, mget l x = some v ∧ VR ro [] w (ev v) e.val)
 | [], es, h, x, _ => by
  cases (show es = [] from h)
  exact ⟨fun _ => ⟨rfl, rfl⟩, fun j e he => by simp at he⟩
 | p :: l, es, h, x, hn => by
  obtain ⟨e0, l', rfl, h1, h2, h3⟩ := h
  have hk : e0.key = valA (ek p.1) := VR.val (K.scl _) h1
  simp only [List.map_cons, List.nodup_cons] at hn
  obtain ⟨a1, a2⟩ := ER.find (l := l) h3 x hn.2
  by_cases hp : p.1 = x
  ·subst hp
   constructor
   ·intro q; exact absurd hk (q e0 (by simp))
   ·intro j e he hx
    cases j with
    | zero =>
     simp only [List.getElem?_cons_zero, Option.some.injEq] at he
     subst he
     exact ⟨by simp [mhas], p.2, by simp [mget], h2⟩
    | succ j =>
     simp only [List.getElem?_cons_succ] at he
     exact absurd (hk.trans hx.symm ▸ List.mem_map_of_mem (f := fun e : MapEntry => e.key) (List.mem_of_getElem? he)) hn.1
  ·have e1 : mget (p :: l) x = mget l x := by simp [mget, hp]
   have e2 : mhas (p :: l) x = mhas l x := by simp [mhas, hp]
   rw [e1, e2]
   constructor
   ·intro q; exact a1 fun e he => q e (by simp [he])
   ·intro j e he hx
    cases j with
    | zero =>
     simp only [List.getElem?_cons_zero, Option.some.injEq] at he
     subst he
     exact absurd (K.inj _ _ (hk.symm.trans hx)) hp
    | succ j => exact a2 j e (by simpa using he) hx
end
end
end Go.Sw
