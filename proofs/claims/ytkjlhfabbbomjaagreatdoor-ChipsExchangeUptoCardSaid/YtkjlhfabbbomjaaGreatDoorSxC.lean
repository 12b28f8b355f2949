/- Plain tools: what a function gives from some fuel on. -/
import Derived.Test.YtkjlhfabbbomjaaGreatDoorSxB
set_option linter.unusedVariables false
set_option linter.unusedSectionVars false
set_option linter.unusedSimpArgs false
namespace Go.Sw
def Ev {α : Type} (f : Nat → Option α) (v : α) : Prop := ∃ N, ∀ n, N ≤ n → f n = some v
section
variable {α β : Type} {f g : Nat → Option α} {v w : α}
theorem Ev.pure (v : α) : Ev (fun _ => some v) v := ⟨0, fun _ _ => rfl⟩
theorem Ev.const {o : Option α} (h : o = some v) : Ev (fun _ => o) v := ⟨0, fun _ _ => h⟩
theorem Ev.bind {k : Nat → α → Option β} {b : β} (h : Ev f v) (hk : Ev (fun n => k n v) b) : Ev (fun n => (f n).bind (k n)) b := by
 obtain ⟨N, h⟩ := h
 obtain ⟨M, hk⟩ := hk
 exact ⟨max N M, fun n hn => by show (f n).bind (k n) = some b; rw [h n (by omega), Option.bind_some]; exact hk n (by omega)⟩
theorem Ev.bif {c : Bool} (ht : c = true → Ev f v) (hf : c = false → Ev g w) : Ev (fun n => bif c then f n else g n) (bif c then v else w) := by
 cases c with
 | true => exact ht rfl
 | false => exact hf rfl
theorem Ev.and {c d : Bool} {h : Nat → Option Bool} (ht : c = true → Ev h d) : Ev (fun n => bif c then h n else some false) (c && d) := by
 cases c with
 | true => exact ht rfl
 | false => exact Ev.pure _
theorem Ev.or {c d : Bool} {h : Nat → Option Bool} (hf : c = false → Ev h d) : Ev (fun n => bif c then some true else h n) (c || d) := by
 cases c with
 | true => exact Ev.pure _
 | false => exact hf rfl
theorem Ev.eq (h : Ev f v) (e : v = w) : Ev f w := e ▸ h
theorem Ev.congr (h : Ev f v) (e : ∀ n, g n = f n) : Ev g v := by
 obtain ⟨N, h⟩ := h
 exact ⟨N, fun n hn => by rw [e]; exact h n hn⟩
theorem Ev.succ (h : Ev (fun n => f (n + 1)) v) : Ev f v := by
 obtain ⟨N, h⟩ := h
 refine ⟨N + 1, fun n hn => ?_⟩
 obtain ⟨m, rfl⟩ : ∃ m, n = m + 1 := ⟨n - 1, by omega⟩
 exact h m (by omega)
theorem Ev.ex (h : Ev f v) : ∃ n, f n = some v := let ⟨N, h⟩ := h; ⟨N, h N (Nat.le_refl _)⟩
theorem Ev.all {k : Nat} {F : Nat → Nat → Option α} {V : Nat → α} (h : ∀ i, i < k → Ev (F i) (V i)) : ∃ N, ∀ n, N ≤ n → ∀ i, i < k → F i n = some (V i) := by
 induction k with
 | zero => exact ⟨0, fun n _ i hi => absurd hi (Nat.not_lt_zero _)⟩
 | succ k ih =>
  obtain ⟨N, hN⟩ := ih fun i hi => h i (by omega)
  obtain ⟨M, hM⟩ := h k (by omega)
  refine ⟨max N M, fun n hn i hi => ?_⟩
  rcases Nat.lt_succ_iff_lt_or_eq.1 hi with q | rfl
  ·exact hN n (by omega) i q
  ·exact hM n (by omega)
end
section
variable {S B α : Type} {step : Nat → S → Option (Ctl S B)}
theorem Ev.iter {s0 : S} (st : Nat → S) (k : Nat) {b : B} (h0 : st 0 = s0) (hc : ∀ i, i < k → Ev (fun n => step n (st i)) (.cont (st (i + 1)))) (hd : Ev (fun n => step n (st k)) (.done b)) :
  Ev (fun n => Go.Sw.iter (step n) n s0) b := by
 obtain ⟨N, hN⟩ := Ev.all hc
 obtain ⟨M, hM⟩ := hd
 exact ⟨max (max N M) (k + 1), fun n hn => iter_cnt s0 st b k h0 (fun i hi => hN n (by omega) i hi) (hM n (by omega)) n (by omega)⟩
structure At (l : List α) (i : Nat) (x : α) : Prop where
 get : l[i]? = some x
 lt : decide ((i : Int) < (l.length : Int)) = true
 ix : idx l (i : Int) = some x
 nx : IntKind.i64.wrap ((i : Int) + 1) = ((i + 1 : Nat) : Int)
theorem At.mk' {l : List α} {i : Nat} {x : α} (hl : l.length ≤ 4611686018427387904) (h : l[i]? = some x) : At l i x := by
 have hi := (List.getElem?_eq_some_iff.1 h).1
 exact ⟨h, decide_eq_true (by omega), idx_nat h, wrap_succ (by omega)⟩
theorem At.mem {l : List α} {i : Nat} {x : α} (h : At l i x) : x ∈ l := List.mem_of_getElem? h.get
theorem At.lt' {l : List α} {i : Nat} {x : α} (h : At l i x) : i < l.length := (List.getElem?_eq_some_iff.1 h.get).1
theorem At.take {l : List α} {i : Nat} {x : α} (h : At l i x) : l.take (i + 1) = l.take i ++ [x] := by
 rw [List.take_add_one, h.get]; rfl
theorem end_ (l : List α) : decide ((l.length : Int) < (l.length : Int)) = false := decide_eq_false (by omega)
theorem Ev.iter_any {s0 : S} (l : List α) (q : α → Bool) (st : Nat → S) (bx b : B) (hl : l.length ≤ 4611686018427387904) (h0 : st 0 = s0)
  (hc : ∀ i x, At l i x → q x = false → Ev (fun n => step n (st i)) (.cont (st (i + 1))))
  (hx : ∀ i x, At l i x → q x = true → Ev (fun n => step n (st i)) (.done bx))
  (hd : Ev (fun n => step n (st l.length)) (.done b)) : Ev (fun n => Go.Sw.iter (step n) n s0) (bif l.any q then bx else b) := by
 have key : ∀ k, k ≤ l.length → (∀ i x, l[i]? = some x → i < k → q x = false) ∨ ∃ i x, l[i]? = some x ∧ i < k ∧ q x = true ∧ ∀ j y, l[j]? = some y → j < i → q y = false := by
  intro k
  induction k with
  | zero => intro _; exact .inl fun i x _ hi => absurd hi (Nat.not_lt_zero _)
  | succ k ih =>
   intro hk
   rcases ih (by omega) with h | ⟨i, x, h1, h2, h3⟩
   ·have hg : l[k]? = some l[k] := List.getElem?_eq_getElem (by omega)
    cases e : q l[k] with
    | true => exact .inr ⟨k, _, hg, Nat.lt_succ_self _, e, h⟩
    | false =>
     refine .inl fun i x hx hi => ?_
     rcases Nat.lt_succ_iff_lt_or_eq.1 hi with z | rfl
     ·exact h i x hx z
     ·rw [hg] at hx; cases hx; exact e
   ·exact .inr ⟨i, x, h1, by omega, h3⟩
 rcases key l.length (Nat.le_refl _) with h | ⟨i, x, h1, h2, h3, h4⟩
 ·have : l.any q = false := by
   rw [Bool.eq_false_iff]
   intro e
   obtain ⟨x, hx, e⟩ := List.any_eq_true.1 e
   obtain ⟨i, hi, rfl⟩ := List.getElem_of_mem hx
   rw [h i _ (List.getElem?_eq_getElem hi) hi] at e
   cases e
  rw [this]
  exact Ev.iter st l.length h0 (fun i hi => hc i _ (At.mk' hl (List.getElem?_eq_getElem hi)) (h i _ (List.getElem?_eq_getElem hi) hi)) hd
 ·have : l.any q = true := List.any_eq_true.2 ⟨x, List.mem_of_getElem? h1, h3⟩
  rw [this]
  refine Ev.iter st i h0 (fun j hj => ?_) (hx i x (At.mk' hl h1) h3)
  have hj' : l[j]? = some l[j] := List.getElem?_eq_getElem (by omega)
  exact hc j _ (At.mk' hl hj') (h4 j _ hj' hj)
theorem Ev.contains (l : List α) (q : α → Bool) (g : Nat → α → Option Bool) (hl : l.length ≤ 4611686018427387904) (hg : ∀ x ∈ l, Ev (fun n => g n x) (q x)) :
  Ev (fun n => (((Go.Sw.iter (fun s : Int => bif decide (s < (l.length : Int)) then (idx l s).bind fun x => (g n x).bind fun r => (bif r then some (Ctl.done (Ctl.done s)) else some (Ctl.cont (IntKind.i64.wrap (s + 1)))) else some (Ctl.done (Ctl.cont ()))) n (0 : Int) : Option (Ctl Unit Int)).bind fun b =>
   match b with
   | .cont _ => some (-1)
   | .done s => some s) : Option Int).bind fun r => some (decide (0 ≤ r))) (l.any q) := by
 cases e : l.any q with
 | false =>
  refine Ev.bind (v := (-1 : Int)) (Ev.bind (v := Ctl.cont ()) (Ev.iter (fun i => (i : Int)) l.length rfl (fun i hi => ?_) ?_) (Ev.pure _)) (Ev.pure _)
  ·have ha := At.mk' (x := l[i]) hl (List.getElem?_eq_getElem hi)
   simp only [ha.lt, cond_true, ha.ix, Option.bind_some]
   have hq : q l[i] = false := by
    rw [Bool.eq_false_iff]; intro h
    rw [List.any_eq_true.2 ⟨_, ha.mem, h⟩] at e; cases e
   refine Ev.bind ((hg _ ha.mem).eq hq) ?_
   simp only [cond_false, ha.nx]
   exact Ev.pure _
  ·simp only [end_, cond_false]; exact Ev.pure _
 | true =>
  obtain ⟨x, hx, h⟩ := List.any_eq_true.1 e
  have key : ∀ k, k ≤ l.length → (∀ (i : Nat) (x : α), l[i]? = some x → i < k → q x = false) ∨ ∃ (i : Nat) (x : α), l[i]? = some x ∧ i < k ∧ q x = true ∧ ∀ (j : Nat) (y : α), l[j]? = some y → j < i → q y = false := by
   intro k
   induction k with
   | zero => intro _; exact .inl fun i x _ hi => absurd hi (Nat.not_lt_zero _)
   | succ k ih =>
    intro hk
    rcases ih (by omega) with h | ⟨i, x, h1, h2, h3⟩
    ·have hg : l[k]? = some l[k] := List.getElem?_eq_getElem (by omega)
     cases e : q l[k] with
     | true => exact .inr ⟨k, _, hg, Nat.lt_succ_self _, e, h⟩
     | false =>
      refine .inl fun i x hx hi => ?_
      rcases Nat.lt_succ_iff_lt_or_eq.1 hi with z | rfl
      ·exact h i x hx z
      ·rw [hg] at hx; cases hx; exact e
    ·exact .inr ⟨i, x, h1, by omega, h3⟩
  rcases key l.length (Nat.le_refl _) with h' | ⟨i, x, h1, h2, h3, h4⟩
  ·obtain ⟨j, hj, rfl⟩ := List.getElem_of_mem hx
   rw [h' j _ (List.getElem?_eq_getElem hj) hj] at h; cases h
  ·refine Ev.bind (v := (i : Int)) (Ev.bind (v := Ctl.done (i : Int)) (Ev.iter (fun i => (i : Int)) i rfl (fun j hj => ?_) ?_) (Ev.pure _)) ?_
   ·have ha := At.mk' (x := l[j]) hl (List.getElem?_eq_getElem (by omega))
    simp only [ha.lt, cond_true, ha.ix, Option.bind_some]
    refine Ev.bind ((hg _ ha.mem).eq (h4 j _ ha.get hj)) ?_
    simp only [cond_false, ha.nx]
    exact Ev.pure _
   ·have ha := At.mk' hl h1
    simp only [ha.lt, cond_true, ha.ix, Option.bind_some]
    refine Ev.bind ((hg _ ha.mem).eq h3) ?_
    exact Ev.pure _
   ·rw [decide_eq_true (by omega)]
    exact Ev.pure _
end
section
variable {S B α : Type} {step : Nat → S → Option (Ctl S B)}
theorem Ev.iter_down {s0 : S} (st : Nat → S) (k : Nat) (R : Nat → B) (h0 : st 0 = s0) (hc : ∀ i, i < k → (Ev (fun n => step n (st i)) (.cont (st (i + 1))) ∧ R i = R (i + 1)) ∨ Ev (fun n => step n (st i)) (.done (R i)))
  (hd : Ev (fun n => step n (st k)) (.done (R k))) : Ev (fun n => Go.Sw.iter (step n) n s0) (R 0) := by
 have key : ∀ m, m ≤ k → (∀ i, i < m → Ev (fun n => step n (st i)) (.cont (st (i + 1))) ∧ R i = R (i + 1)) ∨ ∃ j, j < m ∧ (∀ i, i < j → Ev (fun n => step n (st i)) (.cont (st (i + 1))) ∧ R i = R (i + 1)) ∧ Ev (fun n => step n (st j)) (.done (R j)) := by
  intro m
  induction m with
  | zero => intro _; exact .inl fun i hi => absurd hi (Nat.not_lt_zero _)
  | succ m ih =>
   intro hm
   rcases ih (by omega) with h | ⟨j, h1, h2⟩
   ·rcases hc m (by omega) with q | q
    ·refine .inl fun i hi => ?_
     rcases Nat.lt_succ_iff_lt_or_eq.1 hi with z | rfl
     ·exact h i z
     ·exact q
    ·exact .inr ⟨m, Nat.lt_succ_self _, h, q⟩
   ·exact .inr ⟨j, by omega, h2⟩
 have same : ∀ m, (∀ i, i < m → R i = R (i + 1)) → R 0 = R m := by
  intro m
  induction m with
  | zero => intro _; rfl
  | succ m ih => intro h; exact (ih fun i hi => h i (by omega)).trans (h m (Nat.lt_succ_self _))
 rcases key k (Nat.le_refl _) with h | ⟨j, h1, h2, h3⟩
 ·rw [same k fun i hi => (h i hi).2]
  exact Ev.iter st k h0 (fun i hi => (h i hi).1) hd
 ·rw [same j fun i hi => (h2 i hi).2]
  exact Ev.iter st j h0 (fun i hi => (h2 i hi).1) h3
theorem At.drop {l : List α} {i : Nat} {x : α} (h : At l i x) : l.drop i = x :: l.drop (i + 1) := by
 have := h.lt'
 rw [List.drop_eq_getElem_cons this, (List.getElem?_eq_some_iff.1 h.get).2]
theorem Ev.list_down {s0 : S} (l : List α) (st : Nat → S) (R : Nat → B) (hl : l.length ≤ 4611686018427387904) (h0 : st 0 = s0)
  (hc : ∀ i x, At l i x → (Ev (fun n => step n (st i)) (.cont (st (i + 1))) ∧ R i = R (i + 1)) ∨ Ev (fun n => step n (st i)) (.done (R i)))
  (hd : Ev (fun n => step n (st l.length)) (.done (R l.length))) : Ev (fun n => Go.Sw.iter (step n) n s0) (R 0) :=
 Ev.iter_down st l.length R h0 (fun i hi => hc i _ (At.mk' hl (List.getElem?_eq_getElem hi))) hd
end
section
variable {α β : Type} [DecidableEq α]
theorem mset_keys (l : List (α × β)) (k : α) (v : β) : (mset l k v).map (·.1) = if k ∈ l.map (·.1) then l.map (·.1) else l.map (·.1) ++ [k] := by
 unfold mset
 have e : (l.any fun p => decide (p.1 = k)) = decide (k ∈ l.map (·.1)) := by
  rw [Bool.eq_iff_iff]
  simp only [List.any_eq_true, decide_eq_true_eq, List.mem_map]
 rw [e]
 by_cases h : k ∈ l.map (·.1)
 ·rw [decide_eq_true h, if_pos h, cond_true, List.map_map]
  apply List.map_congr_left
  intro p _
  simp only [Function.comp]
  cases decide (p.1 = k) <;> rfl
 ·rw [decide_eq_false h, if_neg h, cond_false, List.map_append]; rfl
def msetAll {γ : Type} (key : γ → α) (v : β) (l : List γ) : List (α × β) := l.foldl (fun m x => mset m (key x) v) []
theorem msetAll_nodup {γ : Type} (key : γ → α) (v : β) (l : List γ) : (msetAll key v l).length ≤ l.length ∧ ((msetAll key v l).length = l.length ↔ (l.map key).Nodup) := by
 have gen : ∀ (l : List γ) (m : List (α × β)), (m.map (·.1)).Nodup → (l.foldl (fun m x => mset m (key x) v) m).length ≤ m.length + l.length ∧ ((l.foldl (fun m x => mset m (key x) v) m).length = m.length + l.length ↔ (m.map (·.1) ++ l.map key).Nodup) := by
  intro l
  induction l with
  | nil => intro m hm; simpa using hm
  | cons x l ih =>
   intro m hm
   have hk := mset_keys m (key x) v
   have hlen : (mset m (key x) v).length = ((mset m (key x) v).map (·.1)).length := by simp
   by_cases h : key x ∈ m.map (·.1)
   ·rw [if_pos h] at hk
    obtain ⟨h1, h2⟩ := ih (mset m (key x) v) (by rw [hk]; exact hm)
    have e : (mset m (key x) v).length = m.length := by rw [hlen, hk]; simp
    rw [List.foldl_cons]
    refine ⟨by simp only [List.length_cons]; omega, ⟨fun q => ?_, fun q => ?_⟩⟩
    ·simp only [List.length_cons] at q; omega
    ·exfalso
     have := (List.nodup_append.1 q).2.2 _ h (key x) (by simp)
     exact this rfl
   ·rw [if_neg h] at hk
    have hn : ((mset m (key x) v).map (·.1)).Nodup := by
     rw [hk]
     refine List.nodup_append.2 ⟨hm, by simp, ?_⟩
     intro a ha b hb e
     simp only [List.mem_singleton] at hb
     exact h (by rw [← hb, ← e]; exact ha)
    obtain ⟨h1, h2⟩ := ih (mset m (key x) v) hn
    have e : (mset m (key x) v).length = m.length + 1 := by rw [hlen, hk]; simp
    rw [List.foldl_cons]
    refine ⟨by simp only [List.length_cons]; omega, ?_⟩
    rw [hk] at h2
    rw [show m.length + (x :: l).length = (mset m (key x) v).length + l.length by rw [e]; simp; omega, h2]
    simp [List.append_assoc]
 have := gen l [] (by simp)
 simpa [msetAll] using this
end
def chkL {α κ : Type} [DecidableEq κ] (ok : α → Bool) (key : α → κ) : List κ → List α → Bool
 | _, [] => true
 | seen, x :: r => ok x && !seen.contains (key x) && chkL ok key (seen ++ [key x]) r
theorem chkL_eq {α κ : Type} [DecidableEq κ] (ok : α → Bool) (key : α → κ) : ∀ (l : List α) (seen : List κ), seen.Nodup → chkL ok key seen l = (l.all ok && decide ((seen ++ l.map key).Nodup))
 | [], seen, h => by simp [chkL, h]
 | x :: r, seen, h => by
  simp only [chkL, List.all_cons, List.map_cons]
  by_cases hk : key x ∈ seen
  ·have : ¬ (seen ++ key x :: r.map key).Nodup := by
    intro q
    exact (List.nodup_append.1 q).2.2 _ hk (key x) (by simp) rfl
   simp [hk, this]
  ·have hn : (seen ++ [key x]).Nodup := by
    refine List.nodup_append.2 ⟨h, by simp, ?_⟩
    intro a ha b hb e
    simp only [List.mem_singleton] at hb
    exact hk (by rw [← hb, ← e]; exact ha)
   rw [chkL_eq ok key r _ hn]
   have : (seen.contains (key x)) = false := by simpa using hk
   rw [this]
   simp [Bool.and_assoc]
theorem Ev.chk {α κ B : Type} [DecidableEq κ] {step : Nat → Int → Option (Ctl Int B)} (l : List α) (ok : α → Bool) (key : α → κ) (bx b : B) (hl : l.length ≤ 4611686018427387904)
  (hc : ∀ i x, At l i x → ok x = true → ((l.take i).map key).contains (key x) = false → Ev (fun n => step n (i : Int)) (.cont ((i + 1 : Nat) : Int)))
  (hx : ∀ i x, At l i x → ok x = false → Ev (fun n => step n (i : Int)) (.done bx))
  (hy : ∀ i x, At l i x → ok x = true → ((l.take i).map key).contains (key x) = true → Ev (fun n => step n (i : Int)) (.done bx))
  (hd : Ev (fun n => step n (l.length : Int)) (.done b)) : Ev (fun n => Go.Sw.iter (step n) n 0) (bif l.all ok && decide ((l.map key).Nodup) then b else bx) := by
 have e := chkL_eq ok key l [] (by simp)
 rw [List.nil_append] at e
 rw [← e]
 refine Ev.list_down l (fun i => (i : Int)) (fun i => bif chkL ok key ((l.take i).map key) (l.drop i) then b else bx) hl rfl (fun i x ha => ?_) ?_
 ·rw [ha.drop]
  simp only [chkL]
  rw [show (l.take i).map key ++ [key x] = (l.take (i + 1)).map key by rw [ha.take]; simp]
  cases h1 : ok x with
  | false => exact .inr (by simpa using hx i x ha h1)
  | true =>
   cases h2 : ((l.take i).map key).contains (key x) with
   | true => exact .inr (by simpa using hy i x ha h1 h2)
   | false => exact .inl ⟨hc i x ha h1 h2, by simp⟩
 ·rw [List.drop_length]
  exact hd
theorem Ev.inner {α κ B : Type} [DecidableEq κ] {step : Nat → Int → Option (Ctl Int B)} (l : List α) (i : Nat) (key : α → κ) (k : κ) (bx b : B) (hl : l.length ≤ 4611686018427387904) (hi : i ≤ l.length)
  (hc : ∀ j y, j < i → At l j y → decide (key y = k) = false → Ev (fun n => step n (j : Int)) (.cont ((j + 1 : Nat) : Int)))
  (hx : ∀ j y, j < i → At l j y → decide (key y = k) = true → Ev (fun n => step n (j : Int)) (.done bx))
  (hd : Ev (fun n => step n (i : Int)) (.done b)) : Ev (fun n => Go.Sw.iter (step n) n 0) (bif ((l.take i).map key).contains k then bx else b) := by
 have e : ((l.take i).map key).contains k = (l.take i).any fun y => decide (key y = k) := by
  rw [Bool.eq_iff_iff]
  simp only [List.contains_eq_mem, decide_eq_true_eq, List.mem_map, List.any_eq_true]
 rw [e]
 have hlen : (l.take i).length = i := by simp; omega
 have hat : ∀ j y, At (l.take i) j y → j < i ∧ At l j y := by
  intro j y hj
  have hj2 := hj.lt'
  have hjg := hj.get
  rw [List.getElem?_take] at hjg
  split at hjg
  ·exact ⟨by omega, At.mk' hl hjg⟩
  ·cases hjg
 refine Ev.iter_any (l.take i) (fun y => decide (key y = k)) (fun i => (i : Int)) _ _ (by omega) rfl (fun j y hj hq => ?_) (fun j y hj hq => ?_) ?_
 ·obtain ⟨h1, h2⟩ := hat j y hj; exact hc j y h1 h2 hq
 ·obtain ⟨h1, h2⟩ := hat j y hj; exact hx j y h1 h2 hq
 ·rw [hlen]; exact hd
def EvI {S B : Type} (step : Nat → S → Option (Ctl S B)) (s : S) (b : B) : Prop := ∃ N, ∀ n k, N ≤ n → N ≤ k → Go.Sw.iter (step n) k s = some b
section
variable {S B : Type} {step : Nat → S → Option (Ctl S B)} {s s' : S} {b : B}
theorem EvI.done (h : Ev (fun n => step n s) (.done b)) : EvI step s b := by
 obtain ⟨N, h⟩ := h
 refine ⟨N + 1, fun n k hn hk => ?_⟩
 obtain ⟨k', rfl⟩ : ∃ k', k = k' + 1 := ⟨k - 1, by omega⟩
 have := h n (by omega)
 simp only [Go.Sw.iter, this]
theorem EvI.cont (h : Ev (fun n => step n s) (.cont s')) (q : EvI step s' b) : EvI step s b := by
 obtain ⟨N, h⟩ := h
 obtain ⟨M, q⟩ := q
 refine ⟨max N M + 1, fun n k hn hk => ?_⟩
 obtain ⟨k', rfl⟩ : ∃ k', k = k' + 1 := ⟨k - 1, by omega⟩
 have := h n (by omega)
 simp only [Go.Sw.iter, this]
 exact q n k' (by omega) (by omega)
theorem EvI.ev (h : EvI step s b) : Ev (fun n => Go.Sw.iter (step n) n s) b := by
 obtain ⟨N, h⟩ := h
 exact ⟨N, fun n hn => h n n hn hn⟩
theorem EvI.eq {b' : B} (h : EvI step s b) (e : b = b') : EvI step s b' := e ▸ h
end
end Go.Sw
