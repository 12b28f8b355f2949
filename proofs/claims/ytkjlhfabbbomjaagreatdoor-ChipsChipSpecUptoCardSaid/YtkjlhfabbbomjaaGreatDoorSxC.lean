/- Plain tools: what a function gives from some fuel on. -/
import Derived.Test.YtkjlhfabbbomjaaGreatDoorSxB
set_option linter.unusedVariables false
set_option linter.unusedSectionVars false
set_option linter.unusedSimpArgs false
namespace Go.Sw
def Ev {α : Type} (f : Nat → Option α) (v : α) : Prop := ∃ N, ∀ n, N ≤ n → f n = some v
section
variable {α β : Type} {f g : Nat → Option α} {v w : α}
theorem Ev.pure (v : α) : Ev (fun _ => some v) v := ⟨0, fun _ _ => rfl⟩
theorem Ev.const {o : Option α} (h : o = some v) : Ev (fun _ => o) v := ⟨0, fun _ _ => h⟩
theorem Ev.bind {k : Nat → α → Option β} {b : β} (h : Ev f v) (hk : Ev (fun n => k n v) b) : Ev (fun n => (f n).bind (k n)) b := by
 obtain ⟨N, h⟩ := h
 obtain ⟨M, hk⟩ := hk
 exact ⟨max N M, fun n hn => by show (f n).bind (k n) = some b; rw [h n (by omega), Option.bind_some]; exact hk n (by omega)⟩
theorem Ev.bif {c : Bool} (ht : c = true → Ev f v) (hf : c = false → Ev g w) : Ev (fun n => bif c then f n else g n) (bif c then v else w) := by
 cases c with
 | true => exact ht rfl
 | false => exact hf rfl
theorem Ev.and {c d : Bool} {h : Nat → Option Bool} (ht : c = true → Ev h d) : Ev (fun n => bif c then h n else some false) (c && d) := by
 cases c with
 | true => exact ht rfl
 | false => exact Ev.pure _
theorem Ev.or {c d : Bool} {h : Nat → Option Bool} (hf : c = false → Ev h d) : Ev (fun n => bif c then some true else h n) (c || d) := by
 cases c with
 | true => exact Ev.pure _
 | false => exact hf rfl
theorem Ev.eq (h : Ev f v) (e : v = w) : Ev f w := e ▸ h
theorem Ev.congr (h : Ev f v) (e : ∀ n, g n = f n) : Ev g v := by
 obtain ⟨N, h⟩ := h
 exact ⟨N, fun n hn => by rw [e]; exact h n hn⟩
theorem Ev.succ (h : Ev (fun n => f (n + 1)) v) : Ev f v := by
 obtain ⟨N, h⟩ := h
 refine ⟨N + 1, fun n hn => ?_⟩
 obtain ⟨m, rfl⟩ : ∃ m, n = m + 1 := ⟨n - 1, by omega⟩
 exact h m (by omega)
theorem Ev.ex (h : Ev f v) : ∃ n, f n = some v := let ⟨N, h⟩ := h; ⟨N, h N (Nat.le_refl _)⟩
theorem Ev.all {k : Nat} {F : Nat → Nat → Option α} {V : Nat → α} (h : ∀ i, i < k → Ev (F i) (V i)) : ∃ N, ∀ n, N ≤ n → ∀ i, i < k → F i n = some (V i) := by
 induction k with
 | zero => exact ⟨0, fun n _ i hi => absurd hi (Nat.not_lt_zero _)⟩
 | succ k ih =>
  obtain ⟨N, hN⟩ := ih fun i hi => h i (by omega)
  obtain ⟨M, hM⟩ := h k (by omega)
  refine ⟨max N M, fun n hn i hi => ?_⟩
  rcases Nat.lt_succ_iff_lt_or_eq.1 hi with q | rfl
  ·exact hN n (by omega) i q
  ·exact hM n (by omega)
end
section
variable {S B α : Type} {step : Nat → S → Option (Ctl S B)}
theorem Ev.iter {s0 : S} (st : Nat → S) (k : Nat) {b : B} (h0 : st 0 = s0) (hc : ∀ i, i < k → Ev (fun n => step n (st i)) (.cont (st (i + 1)))) (hd : Ev (fun n => step n (st k)) (.done b)) :
  Ev (fun n => Go.Sw.iter (step n) n s0) b := by
 obtain ⟨N, hN⟩ := Ev.all hc
 obtain ⟨M, hM⟩ := hd
 exact ⟨max (max N M) (k + 1), fun n hn => iter_cnt s0 st b k h0 (fun i hi => hN n (by omega) i hi) (hM n (by omega)) n (by omega)⟩
structure At (l : List α) (i : Nat) (x : α) : Prop where
 get : l[i]? = some x
 lt : decide ((i : Int) < (l.length : Int)) = true
 ix : idx l (i : Int) = some x
 nx : IntKind.i64.wrap ((i : Int) + 1) = ((i + 1 : Nat) : Int)
theorem At.mk' {l : List α} {i : Nat} {x : α} (hl : l.length ≤ 4611686018427387904) (h : l[i]? = some x) : At l i x := by
 have hi := (List.getElem?_eq_some_iff.1 h).1
 exact ⟨h, decide_eq_true (by omega), idx_nat h, wrap_succ (by omega)⟩
theorem At.mem {l : List α} {i : Nat} {x : α} (h : At l i x) : x ∈ l := List.mem_of_getElem? h.get
theorem At.lt' {l : List α} {i : Nat} {x : α} (h : At l i x) : i < l.length := (List.getElem?_eq_some_iff.1 h.get).1
theorem At.take {l : List α} {i : Nat} {x : α} (h : At l i x) : l.take (i + 1) = l.take i ++ [x] := by
 rw [List.take_add_one, h.get]; rfl
theorem end_ (l : List α) : decide ((l.length : Int) < (l.length : Int)) = false := decide_eq_false (by omega)
theorem Ev.iter_fold {β : Type} {s0 : S} (l : List α) (g : β → α → β) (a0 : β) (st : β → Nat → S) (out : β → B) (hl : l.length ≤ 4611686018427387904) (h0 : st a0 0 = s0)
  (hc : ∀ i x a, At l i x → a = (l.take i).foldl g a0 → Ev (fun n => step n (st a i)) (.cont (st (g a x) (i + 1))))
  (hd : Ev (fun n => step n (st (l.foldl g a0) l.length)) (.done (out (l.foldl g a0)))) : Ev (fun n => Go.Sw.iter (step n) n s0) (out (l.foldl g a0)) := by
 refine Ev.iter (fun i => st ((l.take i).foldl g a0) i) l.length (by simpa using h0) (fun i hi => ?_) (by simpa using hd)
 have ha := At.mk' (x := l[i]) hl (List.getElem?_eq_getElem hi)
 have := hc i _ _ ha rfl
 rw [ha.take, List.foldl_append]
 exact this
theorem Ev.contains (l : List α) (q : α → Bool) (g : Nat → α → Option Bool) (hl : l.length ≤ 4611686018427387904) (hg : ∀ x ∈ l, Ev (fun n => g n x) (q x)) :
  Ev (fun n => (((Go.Sw.iter (fun s : Int => bif decide (s < (l.length : Int)) then (idx l s).bind fun x => (g n x).bind fun r => (bif r then some (Ctl.done (Ctl.done s)) else some (Ctl.cont (IntKind.i64.wrap (s + 1)))) else some (Ctl.done (Ctl.cont ()))) n (0 : Int) : Option (Ctl Unit Int)).bind fun b =>
   match b with
   | .cont _ => some (-1)
   | .done s => some s) : Option Int).bind fun r => some (decide (0 ≤ r))) (l.any q) := by
 cases e : l.any q with
 | false =>
  refine Ev.bind (v := (-1 : Int)) (Ev.bind (v := Ctl.cont ()) (Ev.iter (fun i => (i : Int)) l.length rfl (fun i hi => ?_) ?_) (Ev.pure _)) (Ev.pure _)
  ·have ha := At.mk' (x := l[i]) hl (List.getElem?_eq_getElem hi)
   simp only [ha.lt, cond_true, ha.ix, Option.bind_some]
   have hq : q l[i] = false := by
    rw [Bool.eq_false_iff]; intro h
    rw [List.any_eq_true.2 ⟨_, ha.mem, h⟩] at e; cases e
   refine Ev.bind ((hg _ ha.mem).eq hq) ?_
   simp only [cond_false, ha.nx]
   exact Ev.pure _
  ·simp only [end_, cond_false]; exact Ev.pure _
 | true =>
  obtain ⟨x, hx, h⟩ := List.any_eq_true.1 e
  have key : ∀ k, k ≤ l.length → (∀ (i : Nat) (x : α), l[i]? = some x → i < k → q x = false) ∨ ∃ (i : Nat) (x : α), l[i]? = some x ∧ i < k ∧ q x = true ∧ ∀ (j : Nat) (y : α), l[j]? = some y → j < i → q y = false := by
   intro k
   induction k with
   | zero => intro _; exact .inl fun i x _ hi => absurd hi (Nat.not_lt_zero _)
   | succ k ih =>
    intro hk
    rcases ih (by omega) with h | ⟨i, x, h1, h2, h3⟩
    ·have hg : l[k]? = some l[k] := List.getElem?_eq_getElem (by omega)
     cases e : q l[k] with
     | true => exact .inr ⟨k, _, hg, Nat.lt_succ_self _, e, h⟩
     | false =>
      refine .inl fun i x hx hi => ?_
      rcases Nat.lt_succ_iff_lt_or_eq.1 hi with z | rfl
      ·exact h i x hx z
      ·rw [hg] at hx; cases hx; exact e
    ·exact .inr ⟨i, x, h1, by omega, h3⟩
  rcases key l.length (Nat.le_refl _) with h' | ⟨i, x, h1, h2, h3, h4⟩
  ·obtain ⟨j, hj, rfl⟩ := List.getElem_of_mem hx
   rw [h' j _ (List.getElem?_eq_getElem hj) hj] at h; cases h
  ·refine Ev.bind (v := (i : Int)) (Ev.bind (v := Ctl.done (i : Int)) (Ev.iter (fun i => (i : Int)) i rfl (fun j hj => ?_) ?_) (Ev.pure _)) ?_
   ·have ha := At.mk' (x := l[j]) hl (List.getElem?_eq_getElem (by omega))
    simp only [ha.lt, cond_true, ha.ix, Option.bind_some]
    refine Ev.bind ((hg _ ha.mem).eq (h4 j _ ha.get hj)) ?_
    simp only [cond_false, ha.nx]
    exact Ev.pure _
   ·have ha := At.mk' hl h1
    simp only [ha.lt, cond_true, ha.ix, Option.bind_some]
    refine Ev.bind ((hg _ ha.mem).eq h3) ?_
    exact Ev.pure _
   ·rw [decide_eq_true (by omega)]
    exact Ev.pure _
end
section
variable {S B α : Type} {step : Nat → S → Option (Ctl S B)}
theorem Ev.iter_down {s0 : S} (st : Nat → S) (k : Nat) (R : Nat → B) (h0 : st 0 = s0) (hc : ∀ i, i < k → (Ev (fun n => step n (st i)) (.cont (st (i + 1))) ∧ R i = R (i + 1)) ∨ Ev (fun n => step n (st i)) (.done (R i)))
  (hd : Ev (fun n => step n (st k)) (.done (R k))) : Ev (fun n => Go.Sw.iter (step n) n s0) (R 0) := by
 have key : ∀ m, m ≤ k → (∀ i, i < m → Ev (fun n => step n (st i)) (.cont (st (i + 1))) ∧ R i = R (i + 1)) ∨ ∃ j, j < m ∧ (∀ i, i < j → Ev (fun n => step n (st i)) (.cont (st (i + 1))) ∧ R i = R (i + 1)) ∧ Ev (fun n => step n (st j)) (.done (R j)) := by
  intro m
  induction m with
  | zero => intro _; exact .inl fun i hi => absurd hi (Nat.not_lt_zero _)
  | succ m ih =>
   intro hm
   rcases ih (by omega) with h | ⟨j, h1, h2⟩
   ·rcases hc m (by omega) with q | q
    ·refine .inl fun i hi => ?_
     rcases Nat.lt_succ_iff_lt_or_eq.1 hi with z | rfl
     ·exact h i z
     ·exact q
    ·exact .inr ⟨m, Nat.lt_succ_self _, h, q⟩
   ·exact .inr ⟨j, by omega, h2⟩
 have same : ∀ m, (∀ i, i < m → R i = R (i + 1)) → R 0 = R m := by
  intro m
  induction m with
  | zero => intro _; rfl
  | succ m ih => intro h; exact (ih fun i hi => h i (by omega)).trans (h m (Nat.lt_succ_self _))
 rcases key k (Nat.le_refl _) with h | ⟨j, h1, h2, h3⟩
 ·rw [same k fun i hi => (h i hi).2]
  exact Ev.iter st k h0 (fun i hi => (h i hi).1) hd
 ·rw [same j fun i hi => (h2 i hi).2]
  exact Ev.iter st j h0 (fun i hi => (h2 i hi).1) h3
theorem At.drop {l : List α} {i : Nat} {x : α} (h : At l i x) : l.drop i = x :: l.drop (i + 1) := by
 have := h.lt'
 rw [List.drop_eq_getElem_cons this, (List.getElem?_eq_some_iff.1 h.get).2]
theorem Ev.list_down {s0 : S} (l : List α) (st : Nat → S) (R : Nat → B) (hl : l.length ≤ 4611686018427387904) (h0 : st 0 = s0)
  (hc : ∀ i x, At l i x → (Ev (fun n => step n (st i)) (.cont (st (i + 1))) ∧ R i = R (i + 1)) ∨ Ev (fun n => step n (st i)) (.done (R i)))
  (hd : Ev (fun n => step n (st l.length)) (.done (R l.length))) : Ev (fun n => Go.Sw.iter (step n) n s0) (R 0) :=
 Ev.iter_down st l.length R h0 (fun i hi => hc i _ (At.mk' hl (List.getElem?_eq_getElem hi))) hd
end
section
variable {α β : Type} [DecidableEq α]
end
def EvI {S B : Type} (step : Nat → S → Option (Ctl S B)) (s : S) (b : B) : Prop := ∃ N, ∀ n k, N ≤ n → N ≤ k → Go.Sw.iter (step n) k s = some b
section
variable {S B : Type} {step : Nat → S → Option (Ctl S B)} {s s' : S} {b : B}
theorem EvI.done (h : Ev (fun n => step n s) (.done b)) : EvI step s b := by
 obtain ⟨N, h⟩ := h
 refine ⟨N + 1, fun n k hn hk => ?_⟩
 obtain ⟨k', rfl⟩ : ∃ k', k = k' + 1 := ⟨k - 1, by omega⟩
 have := h n (by omega)
 simp only [Go.Sw.iter, this]
theorem EvI.cont (h : Ev (fun n => step n s) (.cont s')) (q : EvI step s' b) : EvI step s b := by
 obtain ⟨N, h⟩ := h
 obtain ⟨M, q⟩ := q
 refine ⟨max N M + 1, fun n k hn hk => ?_⟩
 obtain ⟨k', rfl⟩ : ∃ k', k = k' + 1 := ⟨k - 1, by omega⟩
 have := h n (by omega)
 simp only [Go.Sw.iter, this]
 exact q n k' (by omega) (by omega)
theorem EvI.ev (h : EvI step s b) : Ev (fun n => Go.Sw.iter (step n) n s) b := by
 obtain ⟨N, h⟩ := h
 exact ⟨N, fun n hn => h n n hn hn⟩
theorem EvI.eq {b' : B} (h : EvI step s b) (e : b = b') : EvI step s b' := e ▸ h
end
end Go.Sw
