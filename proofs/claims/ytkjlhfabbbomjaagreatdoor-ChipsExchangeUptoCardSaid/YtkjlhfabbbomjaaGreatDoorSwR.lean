/- Loops over maps: the entries come in any order. make of slices. -/
import Derived.Test.YtkjlhfabbbomjaaGreatDoorSwQ
set_option linter.unusedVariables false
set_option linter.unusedSectionVars false
set_option linter.unusedSimpArgs false
namespace Go.Sw
def insAll {E : Type} (x : E) : List E → List (List E)
 | [] => [[x]]
 | y :: l => (x :: y :: l) :: (insAll x l).map (y :: ·)
def perms {E : Type} : List E → List (List E)
 | [] => [[]]
 | x :: l => (perms l).flatMap (insAll x)
theorem insAll_mem {E : Type} (x : E) : ∀ (a b : List E), a ++ x :: b ∈ insAll x (a ++ b)
 | [], [] => by simp [insAll]
 | [], y :: b => by simp [insAll]
 | y :: a, b => by
  simp only [List.cons_append, insAll, List.mem_cons, List.mem_map]
  exact .inr ⟨a ++ x :: b, insAll_mem x a b, rfl⟩
theorem perms_mem {E : Type} : ∀ (l p : List E), p.Perm l → p ∈ perms l
 | [], p, h => by rw [List.perm_nil.1 h]; simp [perms]
 | x :: l, p, h => by
  have hx : x ∈ p := h.mem_iff.2 (by simp)
  obtain ⟨a, b, rfl⟩ := List.append_of_mem hx
  have h2 : (a ++ b).Perm l := (List.perm_cons x).1 ((List.perm_middle.symm).trans h)
  simp only [perms, List.mem_flatMap]
  exact ⟨a ++ b, perms_mem l _ h2, insAll_mem x a b⟩
def anyP {E R : Type} [DecidableEq R] (k : List E → Option R) (l : List E) : Option R := bif (perms l).all (fun p => decide (k p = k l)) then k l else none
theorem anyP_ok {E R : Type} [DecidableEq R] {k : List E → Option R} {l : List E} {r : R} (h : anyP k l = some r) (p : List E) (hp : p.Perm l) : k p = some r := by
 unfold anyP at h
 cases q : (perms l).all (fun p => decide (k p = k l)) with
 | true =>
  rw [q] at h
  have := List.all_eq_true.1 q p (perms_mem l p hp)
  rw [of_decide_eq_true this]; exact h
 | false => rw [q] at h; cases h
section
variable {P : Program} {o : Oper} {env : Env} {H : Heap} {h0 N : Nat} {Q : Post} {c : Code}
section
variable {S E B : Type} {stepE : S → E → Option (Ctl S B)} {stepN : S → Option B} {G : B → Prop} (Es : S → Env) (Hp : S → List (A × A) → Heap) {enc : E → A × A}
theorem perm_lift {α β : Type} {f : α → β} : ∀ {m m' : List β}, m.Perm m' → ∀ {l : List α}, m' = l.map f → ∃ l' : List α, l'.Perm l ∧ l'.map f = m := by
 intro m m' h
 induction h with
 | nil => intro l hl; exact ⟨[], by rw [List.map_eq_nil_iff.1 hl.symm], rfl⟩
 | cons x _ ih =>
  intro l hl
  cases l with
  | nil => cases hl
  | cons a l =>
   simp only [List.map_cons, List.cons.injEq] at hl
   obtain ⟨l', h1, h2⟩ := ih hl.2
   exact ⟨a :: l', h1.cons _, by simp [h2, hl.1]⟩
 | swap x y m =>
  intro l hl
  match l, hl with
  | a :: b :: l, hl =>
   simp only [List.map_cons, List.cons.injEq] at hl
   exact ⟨b :: a :: l, List.Perm.swap _ _ _, by simp [hl.1, hl.2.1, hl.2.2]⟩
 | trans _ _ ih1 ih2 =>
  intro l hl
  obtain ⟨l1, h1, h2⟩ := ih2 hl
  obtain ⟨l2, h3, h4⟩ := ih1 h2.symm
  exact ⟨l2, h3.trans h1, h4⟩
end
theorem Le.forget {i : Nat} {cur : Option (A × A)} {es : List (A × A)} {H' : Heap} (hH : H[i]? = some (.iter cur es)) (hH' : H.set i (.iter none es) = H') : Le h0 env H env H' := by
 subst hH'
 intro fr ro σ N a w r
 refine ⟨ro, σ, ⟨r.sim.weaken (x' := .iter none es) hH rfl ?_, r.env, r.size, r.defers⟩, fun _ q => q, rfl⟩
 intro y h
 cases y with
 | none => exact h
 | some b =>
  rcases h with ⟨h1, h2, h3⟩ | ⟨m, l, clock, seen, left, h1, h2, h3, h4, h5, h6, h7, h8⟩
  ·exact .inl ⟨h1, rfl, h3⟩
  ·exact .inr ⟨m, l, clock, seen, left, h1, h2, h3, h4, h5, h6, h7, fun x hx => by cases hx⟩
end
end Go.Sw
