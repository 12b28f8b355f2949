/- The rules that generated walks use: cuts, leaves; and the functions that may not end, with which the Lean functions are written. -/
import Derived.Test.YtkjlhfabbbomjaaGreatDoorSwI
set_option linter.unusedVariables false
set_option linter.unusedSectionVars false
set_option linter.unusedSimpArgs false
namespace Go.Sw
section
variable {P : Program} {h0 N : Nat} {env : Env} {H : Heap} {Q : Post} {c c' : Code}
def CutP (h0 : Nat) (Eb : Env) (Hb : Heap) (Q : Post) : Post
 | .normal, env, H => Le h0 env H Eb Hb
 | .exit id, env, H => Q (.exit id) env H
 | .ret, env, H => Q .ret env H
theorem TC.cut (Eb : Env) (Hb : Heap) (h : TC P h0 N c env H (CutP h0 Eb Hb Q)) (k : ∀ env H, Le h0 env H Eb Hb → Q .normal env H) : TC P h0 N c env H Q :=
 h.mono fun x env' H' q => by
  cases x with
  | normal => exact k _ _ q
  | exit id => exact q
  | ret => exact q
theorem seqN (h : TC P h0 N c env H Q) : Seq P h0 N c Q .normal env H := h
theorem seqX {id : Nat} (h : Q (.exit id) env H) : Seq P h0 N c Q (.exit id) env H := h
theorem seqR (h : Q .ret env H) : Seq P h0 N c Q .ret env H := h
theorem bloN {id : Nat} (h : Q .normal env H) : Blo id Q .normal env H := h
theorem bloE {id : Nat} (h : Q .normal env H) : Blo id Q (.exit id) env H := by simp only [Blo, Nat.beq_refl, cond_true]; exact h
theorem bloR {id : Nat} (h : Q .ret env H) : Blo id Q .ret env H := h
theorem cutN {Eb : Env} {Hb : Heap} (h : Le h0 env H Eb Hb) : CutP h0 Eb Hb Q .normal env H := h
def CutEP {S B : Type} (h0 : Nat) (b : Ctl S B) (Eb : S → Env) (Hb : S → Heap) (Q : Post) : Post
 | .normal, env, H => ∃ s, b = .cont s ∧ Le h0 env H (Eb s) (Hb s)
 | .exit id, env, H => Q (.exit id) env H
 | .ret, env, H => Q .ret env H
theorem TC.cutE {S B : Type} {b : Ctl S B} (Eb : S → Env) (Hb : S → Heap) (h : TC P h0 N c env H (CutEP h0 b Eb Hb Q)) (k : ∀ s env H, b = .cont s → Le h0 env H (Eb s) (Hb s) → Q .normal env H) : TC P h0 N c env H Q :=
 h.mono fun x env' H' q => by
  cases x with
  | normal => obtain ⟨s, e, q⟩ := q; exact k s _ _ e q
  | exit id => exact q
  | ret => exact q
section
variable {S B : Type} {b : Ctl S B} {Eb : S → Env} {Hb : S → Heap}
theorem cutEN {s : S} (e : b = .cont s) (h : Le h0 env H (Eb s) (Hb s)) : CutEP h0 b Eb Hb Q .normal env H := ⟨s, e, h⟩
theorem cutER (h : Q .ret env H) : CutEP h0 b Eb Hb Q .ret env H := h
end
theorem TC.condT {x : Operand} {t : Bool} (hx : opA env x = .bool t) (h : t = true) (ht : TC P h0 N c env H Q) : TC P h0 N (.cond x c c') env H Q := TC.cond hx (fun _ => ht) (fun q => by rw [h] at q; cases q)
theorem TC.condF {x : Operand} {t : Bool} (hx : opA env x = .bool t) (h : t = false) (hf : TC P h0 N c' env H Q) : TC P h0 N (.cond x c c') env H Q := TC.cond hx (fun q => by rw [h] at q; cases q) (fun _ => hf)
section
variable {S B : Type} {I : S → Env → Heap → Prop}
theorem loopN {s : S} {d : Ctl S B} (e : some (Ctl.cont s) = some d) (h : I s env H) : LoopPost I d Q .normal env H := ⟨s, (Option.some.inj e).symm, h⟩
theorem loopX {id : Nat} {b : B} {d : Ctl S B} (e : some (Ctl.done b) = some d) (h : Q (.exit id) env H) : LoopPost I d Q (.exit id) env H := ⟨⟨b, (Option.some.inj e).symm⟩, h⟩
theorem loopR {b : B} {d : Ctl S B} (e : some (Ctl.done b) = some d) (h : Q .ret env H) : LoopPost I d Q .ret env H := ⟨⟨b, (Option.some.inj e).symm⟩, h⟩
end
end
theorem bnd {α β : Type} {x : Option α} {f : α → Option β} {r : β} (h : x.bind f = some r) : ∃ a, x = some a ∧ f a = some r := Option.bind_eq_some_iff.1 h
theorem ifT {α : Type} {c : Bool} {x y : Option α} {r : α} (hc : c = true) (h : (bif c then x else y) = some r) : x = some r := by subst hc; exact h
theorem ifF {α : Type} {c : Bool} {x y : Option α} {r : α} (hc : c = false) (h : (bif c then x else y) = some r) : y = some r := by subst hc; exact h
def idx {α : Type} (l : List α) (i : Int) : Option α := bif decide (0 ≤ i) then l[i.toNat]? else none
theorem idx_ok {α : Type} {l : List α} {i : Int} {x : α} (h : idx l i = some x) : 0 ≤ i ∧ l[i.toNat]? = some x := by
 unfold idx at h
 by_cases q : 0 ≤ i
 ·rw [decide_eq_true q] at h; exact ⟨q, h⟩
 ·rw [decide_eq_false q] at h; simp at h
def app {α : Type} (l m : List α) : Option (List α) := bif Nat.ble (l.length + m.length) lenMax then some (l ++ m) else none
theorem app_ok {α : Type} {l m r : List α} (h : app l m = some r) : l.length + m.length ≤ lenMax ∧ l ++ m = r := by
 unfold app at h
 cases q : Nat.ble (l.length + m.length) lenMax with
 | true => rw [q] at h; exact ⟨Nat.le_of_ble_eq_true q, Option.some.inj h⟩
 | false => rw [q] at h; simp at h
def setI {α : Type} (l : List α) (i : Int) (x : α) : Option (List α) := bif decide (0 ≤ i) && decide (i < (l.length : Int)) then some (l.set i.toNat x) else none
theorem map_get {α : Type} {e : α → List A} {l : List α} {i : Nat} {x : α} (h : l[i]? = some x) : (l.map e)[i]? = some (e x) := by simp [h]
end Go.Sw
