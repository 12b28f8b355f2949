/- Sorted lists, sorting, deleting, all orders of a map: what the functions of lists come to, with no program in sight. -/
import Derived.Test.YtjikdlekkmifhaaGreatSxC
set_option linter.unusedVariables false
set_option linter.unusedSimpArgs false
namespace Go.Sw
theorem strict_eq {α : Type} {lt : α → α → Prop} (hasym : ∀ a b, lt a b → ¬ lt b a) : ∀ {l m : List α}, l.Pairwise lt → m.Pairwise lt → (∀ x, x ∈ l ↔ x ∈ m) → l = m := by
 intro l
 induction l with
 | nil =>
  intro m _ _ h
  cases m with
  | nil => rfl
  | cons y m => exact absurd ((h y).2 (by simp)) (by simp)
 | cons x l ih =>
  intro m hl hm h
  cases m with
  | nil => exact absurd ((h x).1 (by simp)) (by simp)
  | cons y m =>
   obtain ⟨l1, l2⟩ := List.pairwise_cons.1 hl
   obtain ⟨m1, m2⟩ := List.pairwise_cons.1 hm
   have hxy : x = y := by
    rcases List.mem_cons.1 ((h x).1 (by simp)) with e | e
    ·exact e
    ·rcases List.mem_cons.1 ((h y).2 (by simp)) with e2 | e2
     ·exact e2.symm
     ·exact absurd (m1 x e) (hasym _ _ (l1 y e2))
   subst hxy
   rw [ih l2 m2 fun z => ?_]
   constructor
   ·intro hz
    rcases List.mem_cons.1 ((h z).1 (by simp [hz])) with e | e
    ·subst e; exact absurd (l1 z hz) (hasym _ _ (l1 z hz))
    ·exact e
   ·intro hz
    rcases List.mem_cons.1 ((h z).2 (by simp [hz])) with e | e
    ·subst e; exact absurd (m1 z hz) (hasym _ _ (m1 z hz))
    ·exact e
theorem dedupA_spec : ∀ (l : List Int) (p : Int), (∀ x ∈ l, p ≤ x) → l.Pairwise (· ≤ ·) → (dedupA p l).Pairwise (· < ·) ∧ (∀ x ∈ dedupA p l, p < x) ∧ ∀ x, x ∈ p :: dedupA p l ↔ x ∈ p :: l
 | [], p, _, _ => ⟨List.Pairwise.nil, by simp [dedupA], by simp [dedupA]⟩
 | y :: l, p, h, hp => by
  obtain ⟨h1, h2⟩ := List.pairwise_cons.1 hp
  unfold dedupA
  by_cases e : y = p
  ·subst e
   obtain ⟨k1, k2, k3⟩ := dedupA_spec l y h1 h2
   rw [beq_self_eq_true, cond_true]
   refine ⟨k1, k2, fun x => ?_⟩
   rw [k3 x]; simp
  ·have e' : (y == p) = false := by simpa using e
   rw [e', cond_false]
   obtain ⟨k1, k2, k3⟩ := dedupA_spec l y h1 h2
   have hy := h y (by simp)
   refine ⟨List.pairwise_cons.2 ⟨k2, k1⟩, fun x hx => ?_, fun x => ?_⟩
   ·rcases List.mem_cons.1 hx with rfl | hx
    ·omega
    ·have := k2 x hx; omega
   ·rw [List.mem_cons, k3 x]; simp
theorem dedup_sort (l : List Int) : (dedup (isort ltI l)).Pairwise (· < ·) ∧ ∀ x, x ∈ dedup (isort ltI l) ↔ x ∈ l := by
 have hs : (isort ltI l).Pairwise (· ≤ ·) := (isort_sorted (ltI_swo l)).imp fun {a b} h => by simp [ltI] at h; exact h
 have hm : ∀ x, x ∈ isort ltI l ↔ x ∈ l := fun x => (isort_perm ltI l).mem_iff
 generalize isort ltI l = m at hs hm
 cases m with
 | nil => exact ⟨List.Pairwise.nil, fun x => by rw [← hm x]; rfl⟩
 | cons y m =>
  obtain ⟨h1, h2⟩ := List.pairwise_cons.1 hs
  obtain ⟨k1, k2, k3⟩ := dedupA_spec m y h1 h2
  exact ⟨List.pairwise_cons.2 ⟨k2, k1⟩, fun x => (k3 x).trans (hm x)⟩
def insB (b : Int) : List Int → List Int
 | [] => [b]
 | x :: l => bif decide (x < b) then x :: insB b l else b :: x :: l
theorem insB_mem (b : Int) : ∀ (l : List Int) (x : Int), x ∈ insB b l ↔ x = b ∨ x ∈ l
 | [], x => by simp [insB]
 | y :: l, x => by
  unfold insB
  cases decide (y < b)
  ·simp
  ·simp only [cond_true, List.mem_cons, insB_mem b l x]
   constructor
   ·rintro (h | h | h) <;> simp [h]
   ·rintro (h | h | h) <;> simp [h]
theorem insB_sorted (b : Int) : ∀ (l : List Int), b ∉ l → l.Pairwise (· < ·) → (insB b l).Pairwise (· < ·)
 | [], _, _ => by simp [insB]
 | y :: l, hn, h => by
  obtain ⟨h1, h2⟩ := List.pairwise_cons.1 h
  unfold insB
  have hby : b ≠ y := fun e => hn (by simp [e])
  by_cases q : y < b
  ·rw [decide_eq_true q, cond_true]
   refine List.pairwise_cons.2 ⟨fun x hx => ?_, insB_sorted b l (fun e => hn (by simp [e])) h2⟩
   rcases (insB_mem b l x).1 hx with rfl | hx
   ·exact q
   ·exact h1 x hx
  ·rw [decide_eq_false q, cond_false]
   refine List.pairwise_cons.2 ⟨fun x hx => ?_, h⟩
   rcases List.mem_cons.1 hx with rfl | hx
   ·omega
   ·have := h1 x hx; omega
theorem insB_len (b : Int) : ∀ l : List Int, (insB b l).length = l.length + 1
 | [] => rfl
 | y :: l => by
  unfold insB
  cases decide (y < b)
  ·simp
  ·simp [insB_len b l]
def posB (b : Int) : List Int → Nat
 | [] => 0
 | x :: l => bif decide (x < b) then posB b l + 1 else 0
theorem posB_le (b : Int) : ∀ l : List Int, posB b l ≤ l.length
 | [] => Nat.le_refl _
 | x :: l => by
  unfold posB
  have := posB_le b l
  cases decide (x < b) <;> simp <;> omega
theorem insB_cut (b : Int) : ∀ l : List Int, l.take (posB b l) ++ b :: l.drop (posB b l) = insB b l
 | [] => rfl
 | x :: l => by
  unfold posB insB
  cases decide (x < b)
  ·simp
  ·simp [insB_cut b l]
theorem slc_nat {α : Type} (l : List α) {a b : Nat} (h : a ≤ b) (hb : b ≤ l.length) : slc l (a : Int) (b : Int) = some ((l.take b).drop a) := by
 unfold slc
 rw [decT (show (0 : Int) ≤ (a : Int) by omega), decT (show (a : Int) ≤ (b : Int) by omega), decT (show (b : Int) ≤ (l.length : Int) by omega)]
 simp
theorem slc_to {α : Type} (l : List α) {b : Nat} (hb : b ≤ l.length) : slc l 0 (b : Int) = some (l.take b) := by
 have := slc_nat l (Nat.zero_le b) hb
 simpa using this
theorem slc_from {α : Type} (l : List α) {a : Nat} (hb : a ≤ l.length) : slc l (a : Int) (l.length : Int) = some (l.drop a) := by
 have := slc_nat l hb (Nat.le_refl _)
 simpa using this
theorem app_two {α : Type} (l m : List α) (h : l.length + m.length ≤ 4294967296) : app l m = some (l ++ m) := by
 unfold app
 rw [Nat.ble_eq_true_of_le (by unfold lenMax; exact h)]; rfl
theorem setI_nat {α : Type} (l : List α) {i : Nat} (x : α) (h : i < l.length) : setI l (i : Int) x = some (l.set i x) := by
 unfold setI
 rw [decT (show (0 : Int) ≤ (i : Int) by omega), decT (show (i : Int) < (l.length : Int) by omega)]
 simp
theorem sortI_eq (l : List Int) (h : l.length ≤ 4294967296) : sortI l = some (isort ltI l) := by
 unfold sortI
 rw [Nat.ble_eq_true_of_le (by unfold lenMax; exact h)]; rfl
theorem dedupF_eq (l : List Int) (h : l.length ≤ 4294967296) : dedupF l = some (dedup l) := by
 unfold dedupF
 rw [Nat.ble_eq_true_of_le (by unfold lenMax; exact h)]; rfl
def firstI {α : Type} (q : α → Bool) : List α → Nat → Int
 | [], _ => -1
 | x :: l, i => bif q x then (i : Int) else firstI q l (i + 1)
theorem Ev.first {α : Type} {step : Nat → Int → Option (Ctl Int (Ctl Unit Int))} (l : List α) (q : α → Bool) (hl : l.length ≤ 4611686018427387904)
  (hs : ∀ i x, At l i x → Ev (fun n => step n (i : Int)) (bif q x then .done (.done (i : Int)) else .cont ((i + 1 : Nat) : Int))) (hd : Ev (fun n => step n (l.length : Int)) (.done (.cont ()))) :
  Ev (fun n => (Go.Sw.iter (step n) n 0).bind fun b => match b with | .cont _ => some (-1) | .done v => some v) (firstI q l 0) := by
 have loop : ∀ (r : List α) (i : Nat), l.drop i = r → i ≤ l.length → ∃ res : Ctl Unit Int, EvI step (i : Int) res ∧ (match res with | .cont _ => some (-1) | .done v => some v) = some (firstI q r i) := by
  intro r
  induction r with
  | nil =>
   intro i hr hi
   have : i = l.length := by have := List.drop_eq_nil_iff.1 hr; omega
   subst this
   exact ⟨.cont (), EvI.done hd, rfl⟩
  | cons x r ih =>
   intro i hr hi
   obtain ⟨ha, hr'⟩ := At.of_drop hl hr
   have s := hs i x ha
   unfold firstI
   cases h : q x with
   | true =>
    rw [h] at s
    exact ⟨_, EvI.done s, rfl⟩
   | false =>
    rw [h] at s
    obtain ⟨res, p1, p2⟩ := ih (i + 1) hr' (by have := ha.lt'; omega)
    exact ⟨res, EvI.cont s p1, p2⟩
 obtain ⟨res, p1, p2⟩ := loop l 0 rfl (Nat.zero_le _)
 exact Ev.bind p1.ev (Ev.const p2)
theorem firstI_spec {α : Type} (q : α → Bool) : ∀ (l : List α) (i : Nat), (firstI q l i = -1 ∧ l.all (fun x => !q x) = true) ∨ ∃ j x, firstI q l i = ((i + j : Nat) : Int) ∧ l[j]? = some x ∧ q x = true ∧ (l.take j).all (fun x => !q x) = true
 | [], _ => .inl ⟨rfl, rfl⟩
 | x :: l, i => by
  unfold firstI
  cases h : q x with
  | true => exact .inr ⟨0, x, rfl, rfl, h, rfl⟩
  | false =>
   rcases firstI_spec q l (i + 1) with ⟨h1, h2⟩ | ⟨j, y, h1, h2, h3, h4⟩
   ·exact .inl ⟨h1, by simp [h, h2]⟩
   ·refine .inr ⟨j + 1, y, by rw [cond_false, h1]; congr 1; omega, h2, h3, by simp [h, h4]⟩
theorem filter_all {α : Type} {p : α → Bool} {l : List α} (h : l.all p = true) : l.filter p = l := List.filter_eq_self.2 (List.all_eq_true.1 h)
theorem Ev.delete {α : Type} {first : Nat → Option Int} {step : Nat → List α × Int × Int → Option (Ctl (List α × Int × Int) (List α × Int))} (l0 : List α) (q : α → Bool) (hl : l0.length ≤ 1048576)
  (hf : Ev first (firstI q l0 0))
  (hs : ∀ (l : List α) (i j : Nat) x y, l.length ≤ 1048576 → At l j x → l[i]? = some y → x ∈ l0 → i ≤ j → Ev (fun n => step n (l, (i : Int), (j : Int))) (.cont (bif q x then l else l.set i x, (bif q x then (i : Int) else ((i + 1 : Nat) : Int)), ((j + 1 : Nat) : Int))))
  (hd : ∀ (l : List α) (i : Int), Ev (fun n => step n (l, i, (l.length : Int))) (.done (l, i))) :
  Ev (fun n => (first n).bind fun r1 => bif r1 == -1 then some l0 else (Go.Sw.iter (step n) n (l0, r1, IntKind.i64.wrap (r1 + 1))).bind fun b => (slc b.1 0 b.2).bind fun x => some x) (l0.filter fun x => !q x) := by
 refine Ev.bind hf ?_
 rcases firstI_spec q l0 0 with ⟨h1, h2⟩ | ⟨j0, x0, h1, h2, h3, h4⟩
 ·rw [h1, filter_all h2]
  exact Ev.pure _
 ·have hj0 := (List.getElem?_eq_some_iff.1 h2).1
  rw [Nat.zero_add] at h1
  rw [h1]
  have e0 : (((j0 : Nat) : Int) == -1) = false := by simp
  rw [e0, wrap_succ (by omega)]
  have loop : ∀ (r l : List α) (i j : Nat), l0.drop j = r → j ≤ l0.length → i < j → l.length = l0.length → l.drop j = l0.drop j → l.take i = (l0.take j).filter (fun x => !q x) → ∃ l' : List α, ∃ i' : Nat, EvI step (l, (i : Int), (j : Int)) (l', (i' : Int)) ∧ i' ≤ l'.length ∧ l'.take i' = l0.filter fun x => !q x := by
   intro r
   induction r with
   | nil =>
    intro l i j hr hj hij hlen hdr htk
    have : j = l.length := by have := List.drop_eq_nil_iff.1 hr; omega
    subst this
    refine ⟨l, i, EvI.done (hd l _), by omega, ?_⟩
    rw [htk, hlen, List.take_length]
   | cons x r ih =>
    intro l i j hr hj hij hlen hdr htk
    have hr2 : l.drop j = x :: r := by rw [hdr, hr]
    obtain ⟨ha, hr'⟩ := At.of_drop (by omega) hr2
    obtain ⟨ha0, hr0⟩ := At.of_drop (by omega) hr
    have hlt := ha.lt'
    have s := hs l i j x l[i] (by omega) ha (List.getElem?_eq_getElem (by omega)) ha0.mem (by omega)
    cases h : q x with
    | true =>
     rw [h] at s
     obtain ⟨l', i', k1, k2, k3⟩ := ih l i (j + 1) hr0 (by omega) (by omega) hlen (by rw [hr', hr0]) (by rw [ha0.take, List.filter_append, htk]; simp [h])
     exact ⟨l', i', EvI.cont s k1, k2, k3⟩
    | false =>
     rw [h] at s
     obtain ⟨l', i', k1, k2, k3⟩ := ih (l.set i x) (i + 1) (j + 1) hr0 (by omega) (by omega) (by simpa using hlen) (by rw [List.drop_set_of_lt (by omega), hr', hr0])
      (by
       rw [ha0.take, List.filter_append, ← htk]
       have : i < (l.set i x).length := by simp; omega
       rw [List.take_add_one, List.getElem?_eq_getElem this]
       simp [h, List.take_set_of_le])
     exact ⟨l', i', EvI.cont s k1, k2, k3⟩
  have hget : l0.take (j0 + 1) = l0.take j0 ++ [x0] := by rw [List.take_add_one, h2]; rfl
  obtain ⟨l', i', k1, k2, k3⟩ := loop _ l0 j0 (j0 + 1) rfl (by omega) (by omega) rfl rfl (by rw [hget, List.filter_append, filter_all h4]; simp [h3])
  refine Ev.ff (Ev.bind k1.ev ?_)
  rw [← k3]
  exact Ev.const (by simp [slc_to l' k2])
theorem Ev.forall_list {ι α : Type} {F : Nat → ι → Option α} {V : ι → α} : ∀ (L : List ι), (∀ p ∈ L, Ev (fun n => F n p) (V p)) → ∃ N, ∀ n, N ≤ n → ∀ p ∈ L, F n p = some (V p)
 | [], _ => ⟨0, fun _ _ p hp => by cases hp⟩
 | x :: L, h => by
  obtain ⟨N, hN⟩ := Ev.forall_list L fun p hp => h p (by simp [hp])
  obtain ⟨M, hM⟩ := h x (by simp)
  refine ⟨N + M, fun n hn p hp => ?_⟩
  rcases List.mem_cons.1 hp with rfl | hp
  ·exact hM n (by omega)
  ·exact hN n (by omega) p hp
theorem Ev.anyP {E R : Type} [DecidableEq R] {k : Nat → List E → Option R} {l : List E} {r : R} (h : ∀ p, p.Perm l → Ev (fun n => k n p) r) : Ev (fun n => Go.Sw.anyP (k n) l) r := by
 obtain ⟨N, hN⟩ := Ev.forall_list (F := fun n p => k n p) (V := fun _ => r) (perms l) fun p hp => h p (perms_perm l p hp)
 exact ⟨N, fun n hn => anyP_eq fun p hp => hN n hn p (perms_mem l p hp)⟩
theorem Ev.isNil {α R : Type} [DecidableEq R] {l : List α} {x y : Nat → Option R} {v : R} (hx : l = [] → Ev x v) (hy : Ev y v) : Ev (fun n => Go.Sw.isNil l (x n) (y n)) v := by
 unfold Go.Sw.isNil
 cases q : l.isEmpty with
 | false => exact hy
 | true =>
  obtain ⟨N, hN⟩ := hx (List.isEmpty_iff.1 q)
  obtain ⟨M, hM⟩ := hy
  exact ⟨N + M, fun n hn => by dsimp only; rw [hN n (by omega), hM n (by omega)]; simp⟩
end Go.Sw
