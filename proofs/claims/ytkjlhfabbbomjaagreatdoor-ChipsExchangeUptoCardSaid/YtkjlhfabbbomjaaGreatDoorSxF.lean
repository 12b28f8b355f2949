/- Equality of structs. -/
import Derived.Test.YtkjlhfabbbomjaaGreatDoorSxE
set_option linter.unusedVariables false
set_option linter.unusedSectionVars false
set_option linter.unusedSimpArgs false
namespace Go.Sw
open Go.Proofs
section
variable {P : Program}
def toV (agg : Bool) (l : List Value) : Value := bif agg then .agg l.toArray else l.headD .nilFunc
structure EqTy (P : Program) (t : TypeId) (h k : Nat) (agg : Bool) (ok : List Value → Prop) : Prop where
 len : ∀ l, ok l → l.length = k
 ia : ∀ w, (isAgg t).run P w = .ok agg w
 so : ∀ w, (sizeOf t).run P w = .ok k w
 eq : ∀ (w : World) (d : Nat) (l m : List Value), ok l → ok m → ∃ b : Bool, (Op.equalIn (d + h) t (toV agg l) (toV agg m)).run P w = .ok b w ∧ (b = true ↔ l = m)
structure EqFs (P : Program) (fs : List Field) (h off k : Nat) (ok : List Value → Prop) : Prop where
 len : ∀ l, ok l → l.length = k
 eq : ∀ (w : World) (d : Nat) (p q l m : List Value), p.length = off → q.length = off → ok l → ok m → ∃ b : Bool, (Op.eqFields (d + h) (p ++ l).toArray (q ++ m).toArray fs).run P w = .ok b w ∧ (b = true ↔ l = m)
theorem EqTy.int {t : TypeId} {k : IntKind} (hu : P.underlying t = some (.int k)) (ia : ∀ w, (isAgg t).run P w = .ok false w) (so : ∀ w, (sizeOf t).run P w = .ok 1 w) (h : Nat) : EqTy P t (h + 1) 1 false (fun l => ∃ n : Int, l = [.int k n]) := by
 refine ⟨?_, ia, so, ?_⟩
 ·rintro _ ⟨n, rfl⟩; rfl
 ·rintro w d _ _ ⟨n, rfl⟩ ⟨m, rfl⟩
  exact ⟨_, run_equalIn_int w (d + h) t k k n m hu, by simp⟩
theorem EqTy.bool {t : TypeId} (hu : P.underlying t = some .bool) (ia : ∀ w, (isAgg t).run P w = .ok false w) (so : ∀ w, (sizeOf t).run P w = .ok 1 w) (h : Nat) : EqTy P t (h + 1) 1 false (fun l => ∃ n : Bool, l = [.bool n]) := by
 refine ⟨?_, ia, so, ?_⟩
 ·rintro _ ⟨n, rfl⟩; rfl
 ·rintro w d _ _ ⟨n, rfl⟩ ⟨m, rfl⟩
  exact ⟨_, run_equalIn_bool' w (d + h) t n m hu, by simp⟩
theorem EqTy.str {t : TypeId} (hu : P.underlying t = some .string) (ia : ∀ w, (isAgg t).run P w = .ok false w) (so : ∀ w, (sizeOf t).run P w = .ok 1 w) (h : Nat) : EqTy P t (h + 1) 1 false (fun l => ∃ s : List UInt8, l = [.string ⟨s.toArray⟩]) := by
 refine ⟨?_, ia, so, ?_⟩
 ·rintro _ ⟨n, rfl⟩; rfl
 ·rintro w d _ _ ⟨n, rfl⟩ ⟨m, rfl⟩
  exact ⟨_, run_equalIn_string w (d + h) t _ _ hu, by simp [Go.ByteArray.toList_eq]⟩
theorem EqFs.nil (h off : Nat) : EqFs P [] h off 0 (fun l => l = []) := by
 refine ⟨?_, ?_⟩
 ·rintro _ rfl; rfl
 ·rintro w d p q _ _ _ _ rfl rfl
  exact ⟨true, by simp [Op.eqFields], by simp⟩
theorem part_run {t : TypeId} {k : Nat} {agg : Bool} {w : World} (ia : ∀ w, (isAgg t).run P w = .ok agg w) (so : ∀ w, (sizeOf t).run P w = .ok k w) (p l1 l2 : List Value) (hl : l1.length = k) (h1 : agg = false → k = 1) :
  (part t (p ++ (l1 ++ l2)).toArray p.length).run P w = .ok (toV agg l1) w := by
 unfold part
 cases agg with
 | true =>
  simp [ia, so, go_sem, toV]
  rw [← hl]
  simp [List.extract]
 | false =>
  have := h1 rfl
  subst this
  match l1, hl with
  | [v], _ => simp [ia, go_sem, toV]
theorem EqFs.cons {f : Field} {fs : List Field} {h off k1 k2 : Nat} {agg : Bool} {ok1 ok2 : List Value → Prop} (ho : Nat.beq f.offset off = true) (hn : f.name ≠ "_") (h1 : EqTy P f.type h k1 agg ok1) (hk : agg = false → k1 = 1) (h2 : EqFs P fs h (off + k1) k2 ok2) :
  EqFs P (f :: fs) h off (k1 + k2) (fun l => ∃ l1 l2, l = l1 ++ l2 ∧ ok1 l1 ∧ ok2 l2) := by
 have ho' : f.offset = off := Nat.eq_of_beq_eq_true ho
 refine ⟨?_, ?_⟩
 ·rintro _ ⟨l1, l2, rfl, a, b⟩
  rw [List.length_append, h1.len _ a, h2.len _ b]
 ·rintro w d p q _ _ hp hq ⟨l1, l2, rfl, a1, a2⟩ ⟨m1, m2, rfl, b1, b2⟩
  have e1 := part_run (P := P) (w := w) h1.ia h1.so p l1 l2 (h1.len _ a1) hk
  have e2 := part_run (P := P) (w := w) h1.ia h1.so q m1 m2 (h1.len _ b1) hk
  rw [hp] at e1
  rw [hq] at e2
  obtain ⟨b3, e3, f3⟩ := h1.eq w d l1 m1 a1 b1
  obtain ⟨b4, e4, f4⟩ := h2.eq w d (p ++ l1) (q ++ m1) l2 m2 (by rw [List.length_append, hp, h1.len _ a1]) (by rw [List.length_append, hq, h1.len _ b1]) a2 b2
  rw [List.append_assoc, List.append_assoc] at e4
  have hl : l1.length = m1.length := by rw [h1.len _ a1, h1.len _ b1]
  refine ⟨b3 && b4, ?_, ?_⟩
  ·generalize (p ++ (l1 ++ l2)).toArray = X at *
   generalize (q ++ (m1 ++ m2)).toArray = Y at *
   cases b3 <;> simp [Op.eqFields, hn, ho', Sem.run_bind, Result.andThen, e1, e2, e3, e4]
  ·rw [Bool.and_eq_true, f3, f4]
   constructor
   ·rintro ⟨rfl, rfl⟩; rfl
   ·intro e; exact List.append_inj e hl
theorem EqTy.struct {t : TypeId} {h k : Nat} {ok : List Value → Prop} (hu : P.underlying t = some (.struct (P.fieldsOf t))) (hs : P.stoodInHeld t = false) (ia : ∀ w, (isAgg t).run P w = .ok true w) (so : ∀ w, (sizeOf t).run P w = .ok k w) (hf : EqFs P (P.fieldsOf t).toList h 0 k ok) : EqTy P t (h + 1) k true ok := by
 refine ⟨hf.len, ia, so, fun w d l m a b => ?_⟩
 obtain ⟨r, e1, e2⟩ := hf.eq w d [] [] l m rfl rfl a b
 refine ⟨r, ?_, e2⟩
 show (Op.equalIn (d + h + 1) t (.agg l.toArray) (.agg m.toArray)).run P w = _
 rw [run_equalIn_agg w (d + h) t _ _ hu hs]
 simpa using e1
theorem EqTy.struct' {t : TypeId} {h k : Nat} {fs : Array Field} {ok : List Value → Prop} (hu : P.underlying t = some (.struct fs)) (hs : P.stoodInHeld t = false) (ia : ∀ w, (isAgg t).run P w = .ok true w) (so : ∀ w, (sizeOf t).run P w = .ok k w) (hf : EqFs P fs.toList h 0 k ok) : EqTy P t (h + 1) k true ok := by
 have e : P.fieldsOf t = fs := by simp [Program.fieldsOf, hu]
 exact EqTy.struct (by rw [e]; exact hu) hs ia so (by rw [e]; exact hf)
structure EqD (P : Program) (t : TypeId) {α : Type} (cells : α → List A) : Prop where
 scl : ∀ x, sclL (cells x) = true
 inj : ∀ x y, valL (cells x) = valL (cells y) → x = y
 guard : P.eqGuardType P.depth t = false
 eq : ∀ (w : World) x y, ∃ b : Bool, (Op.equalIn 10000 t (.agg (valL (cells x)).toArray) (.agg (valL (cells y)).toArray)).run P w = .ok b w ∧ (b = true ↔ valL (cells x) = valL (cells y))
theorem EqD.mk' {α : Type} {cells : α → List A} {t h k : Nat} {ok : List Value → Prop} (E : EqTy P t h k true ok) (hh : Nat.ble h 10000 = true) (hok : ∀ x, ok (valL (cells x))) (hs : ∀ x, sclL (cells x) = true) (hi : ∀ x y, valL (cells x) = valL (cells y) → x = y) (hg : P.eqGuardType P.depth t = false) : EqD P t cells := by
 refine ⟨hs, hi, hg, fun w x y => ?_⟩
 have := E.eq w (10000 - h) (valL (cells x)) (valL (cells y)) (hok x) (hok y)
 rwa [show 10000 - h + h = 10000 by have := Nat.le_of_ble_eq_true hh; omega] at this
variable {o : Oper} {env : Env} {H : Heap}
theorem OpV.aggEq {α : Type} [DecidableEq α] {cells : α → List A} {t u : TypeId} {x y : Operand} {p q : α} (E : EqD P t cells) (hx : opA env x = .agg (cells p)) (hy : opA env y = .agg (cells q)) (ho : o.op = .binOp .eql t x y u := by exact rfl) : OpV P o env H (.bool (p == q)) := by
 intro fr ro σ N a w r
 have h1 := opA_ok r x
 have h2 := opA_ok r y
 rw [hx] at h1
 rw [hy] at h2
 have e1 := VR.val (a := .agg (cells p)) (E.scl p) h1
 have e2 := VR.val (a := .agg (cells q)) (E.scl q) h2
 obtain ⟨b, e3, e4⟩ := E.eq w p q
 have hb : b = (p == q) := by
  rw [Bool.eq_iff_iff, e4, beq_iff_eq]
  exact ⟨E.inj p q, fun e => by rw [e]⟩
 refine ⟨.bool (p == q), ?_, rfl⟩
 rw [← hb]
 generalize a.eval = ρ at *
 have e1' : ρ x = .agg (valL (cells p)).toArray := e1
 have e2' : ρ y = .agg (valL (cells q)).toArray := e2
 simp [execOp, ho, e1', e2', go_sem, run_eqGuard_agg _ _ _ _ _ _ _ E.guard, run_eql_struct, e3]
end
end Go.Sw
