/- CategoriesOf, in plain Lean: the categories of a starter are those whose ages contain the starter's. -/
import Derived.Test.YtjikdlekkmifhaaGreatSwX
import Derived.Test.YtjikdlekkmifhaaGreatW29Of
set_option linter.unusedVariables false
set_option linter.unusedSimpArgs false
namespace Go.Sw

def fits (s : Starter) (c : Category) : Bool := decide (c.From ≤ s.Age) && decide (s.Age ≤ c.To)
/-- The categories below k of a starter. -/
def ofN (c : Course) (s : Starter) (k : Nat) : List Nat := (List.range k).filter fun i => (c.Categories[i]?).any (fits s)
def ofL (c : Course) (s : Starter) (k : Nat) : List Int := (ofN c s k).map Int.ofNat

theorem ofN_le (c : Course) (s : Starter) (k : Nat) : (ofN c s k).length ≤ k := by
  unfold ofN
  exact Nat.le_trans (List.length_filter_le _ _) (by simp)
theorem ofL_succ (c : Course) (s : Starter) (k : Nat) {x : Category} (h : c.Categories[k]? = some x) : ofL c s (k + 1) = bif fits s x then ofL c s k ++ [(k : Int)] else ofL c s k := by
  unfold ofL ofN
  rw [List.range_succ, List.filter_append, List.map_append]
  simp only [List.filter_cons, h, Option.any_some, List.filter_nil]
  cases fits s x <;> simp

theorem F_Of_eq (n : Nat) (c : Course) (s : Starter) (hl : c.Categories.length < 4294967296) (hn : c.Categories.length < n) : F_categories_Of n c s = some (ofL c s c.Categories.length) := by
  unfold F_categories_Of
  rw [iter_cnt (s, [], 0) (fun i => (s, ofL c s i, (i : Int))) (ofL c s c.Categories.length) c.Categories.length rfl ?_ ?_ n hn]
  · rfl
  · intro i hi
    have hx : c.Categories[i]? = some c.Categories[i] := List.getElem?_eq_getElem hi
    generalize c.Categories[i] = x at hx
    have hle := ofN_le c s i
    have hla : (ofL c s i).length ≤ i := by unfold ofL; simpa using hle
    simp only [F_categories_Of_L1]
    rw [decT (show (i : Int) < (c.Categories.length : Int) by omega), cond_true, idx_nat hx, Option.bind_some]
    rw [ofL_succ c s i hx, fits]
    by_cases h1 : x.From ≤ s.Age
    · by_cases h2 : s.Age ≤ x.To
      · simp only [h1, h2, decide_true, cond_true, Bool.and_true, Option.bind_some]
        rw [app_one _ _ (by omega), Option.bind_some, Option.bind_some, wrap_succ (by omega)]
      · simp only [h1, h2, decide_true, decide_false, cond_true, cond_false, Bool.and_false, Option.bind_some]
        rw [wrap_succ (by omega)]
    · simp only [h1, decide_false, cond_false, Bool.false_and, Option.bind_some]
      rw [wrap_succ (by omega)]
  · simp only [F_categories_Of_L1]
    rw [decF (by omega)]; rfl

theorem F_Name_at (n : Nat) (c : Course) {i : Nat} {x : Category} (h : c.Categories[i]? = some x) : F_categories_Name n c (i : Int) = some (x.Name, 0) := by
  have hi : i < c.Categories.length := (List.getElem?_eq_some_iff.1 h).1
  unfold F_categories_Name
  have e1 : ((i : Int) == -1) = false := beq_false_of_ne (by omega)
  rw [e1, decF (show ¬ (i : Int) < 0 by omega), decF (show ¬ (c.Categories.length : Int) ≤ (i : Int) by omega)]
  simp only [cond_false, Option.bind_some, idx_nat h]
theorem F_Name_end (n : Nat) (c : Course) : F_categories_Name n c (c.Categories.length : Int) = some ([], 290) := by
  unfold F_categories_Name
  have e1 : ((c.Categories.length : Int) == -1) = false := beq_false_of_ne (by omega)
  rw [e1, decF (show ¬ (c.Categories.length : Int) < 0 by omega), decT (show (c.Categories.length : Int) ≤ (c.Categories.length : Int) by omega)]
  simp only [cond_false, cond_true, Option.bind_some]

theorem F_In_eq (n : Nat) (l : List Int) (x : Int) (hl : l.length < n) (hb : l.length < 4294967296) : F_stopwatchref29_In n l x = some (l.contains x) := by
  unfold F_stopwatchref29_In
  by_cases h : l.contains x = true
  · have hm : x ∈ l := by simpa using h
    obtain ⟨k, hk, hk2⟩ : ∃ k : Nat, l[k]? = some x ∧ ∀ j : Nat, j < k → l[j]? ≠ some x := by
      have : ∃ k : Nat, k < l.length ∧ l[k]? = some x := by
        obtain ⟨k, hk, e⟩ := List.getElem_of_mem hm
        exact ⟨k, hk, by rw [List.getElem?_eq_getElem hk, e]⟩
      have least : ∀ m : Nat, (∃ k : Nat, k < m ∧ l[k]? = some x) → ∃ k : Nat, l[k]? = some x ∧ ∀ j : Nat, j < k → l[j]? ≠ some x := by
        intro m
        induction m with
        | zero => rintro ⟨k, hk, _⟩; omega
        | succ m ih =>
          rintro ⟨k, hk, e⟩
          by_cases q : ∃ k : Nat, k < m ∧ l[k]? = some x
          · exact ih q
          · have : k = m := by
              rcases Nat.lt_succ_iff_lt_or_eq.1 hk with z | z
              · exact absurd ⟨k, z, e⟩ q
              · exact z
            subst this
            exact ⟨k, e, fun j hj e' => q ⟨j, hj, e'⟩⟩
      exact least _ this
    have hkl : k < l.length := (List.getElem?_eq_some_iff.1 hk).1
    rw [iter_cnt (0 : Int) (fun i => (i : Int)) (Ctl.done true) k rfl ?_ ?_ n (by omega)]
    · simp only [Option.bind_some, h]
    · intro i hi
      have hx : l[i]? = some l[i] := List.getElem?_eq_getElem (by omega)
      have hne : l[i] ≠ x := fun e => hk2 i hi (by rw [hx, e])
      simp only [F_stopwatchref29_In_L1]
      rw [decT (show (i : Int) < (l.length : Int) by omega), cond_true, idx_nat hx, Option.bind_some, beq_false_of_ne hne, cond_false, wrap_succ (by omega)]
    · simp only [F_stopwatchref29_In_L1]
      rw [decT (show (k : Int) < (l.length : Int) by omega), cond_true, idx_nat hk, Option.bind_some, beq_self_eq_true, cond_true]
  · have hm : x ∉ l := by simpa using h
    rw [iter_cnt (0 : Int) (fun i => (i : Int)) (Ctl.cont ()) l.length rfl ?_ ?_ n hl]
    · simp only [Option.bind_some]
      rw [Bool.eq_false_iff.2 h]
    · intro i hi
      have hx : l[i]? = some l[i] := List.getElem?_eq_getElem hi
      have hne : l[i] ≠ x := fun e => hm (e ▸ List.getElem_mem hi)
      simp only [F_stopwatchref29_In_L1]
      rw [decT (show (i : Int) < (l.length : Int) by omega), cond_true, idx_nat hx, Option.bind_some, beq_false_of_ne hne, cond_false, wrap_succ (by omega)]
    · simp only [F_stopwatchref29_In_L1]
      rw [decF (by omega), cond_false]

theorem sane_ok : F_stopwatchlaw29_sane 110 = some true := by decide +kernel

theorem ofN_mem {c : Course} {s : Starter} {k i : Nat} : i ∈ ofN c s k ↔ i < k ∧ (c.Categories[i]?).any (fits s) = true := by
  unfold ofN; simp
theorem ofN_sorted (c : Course) (s : Starter) (k : Nat) : (ofN c s k).Pairwise (· < ·) := by
  unfold ofN
  exact List.Pairwise.filter _ List.pairwise_lt_range

theorem law_CategoriesOf (a1 : Course) (a2 : Starter) (w0 : Course.wf a1) (w1 : Starter.wf a2) : ∃ n, F_stopwatchlaw29_CategoriesOf n a1 a2 = some true := by
  refine ⟨110, ?_⟩
  unfold F_stopwatchlaw29_CategoriesOf
  rw [sane_ok]
  simp only [Option.bind_some, Bool.not_true, cond_false]
  by_cases hlen : 100 < a1.Categories.length
  · rw [decT (show (100 : Int) < (a1.Categories.length : Int) by omega), cond_true]
  · rw [decF (show ¬ (100 : Int) < (a1.Categories.length : Int) by omega), cond_false]
    rw [F_Of_eq 110 a1 a2 (by omega) (by omega), Option.bind_some]
    generalize hN : ofN a1 a2 a1.Categories.length = N
    have hL : ofL a1 a2 a1.Categories.length = N.map Int.ofNat := by rw [← hN]; rfl
    have hNl : N.length ≤ a1.Categories.length := by rw [← hN]; exact ofN_le _ _ _
    have hsort : N.Pairwise (· < ·) := by rw [← hN]; exact ofN_sorted _ _ _
    have hmem : ∀ i, i ∈ N ↔ i < a1.Categories.length ∧ (a1.Categories[i]?).any (fits a2) = true := by intro i; rw [← hN]; exact ofN_mem
    rw [hL]
    have hget : ∀ j, (hj : j < N.length) → (N.map Int.ofNat)[j]? = some ((N[j] : Nat) : Int) := by intro j hj; simp [hj]
    -- the first loop
    rw [iter_cnt (a1, a2, 0) (fun j => (a1, a2, (j : Int))) (Ctl.cont (a1, a2)) N.length rfl ?_ ?_ 110 (by omega)]
    · simp only [Option.bind_some]
      -- the second loop
      rw [iter_cnt (a1, a2, 0) (fun j => (a1, a2, (j : Int))) (Ctl.cont a1) a1.Categories.length rfl ?_ ?_ 110 (by omega)]
      · simp only [Option.bind_some, F_Name_end]
        rfl
      · intro i hi
        have hx : a1.Categories[i]? = some a1.Categories[i] := List.getElem?_eq_getElem hi
        have hin : (N.map Int.ofNat).contains (i : Int) = fits a2 a1.Categories[i] := by
          have e1 : (N.map Int.ofNat).contains (i : Int) = decide (i ∈ N) := by
            rw [Bool.eq_iff_iff]
            simp only [List.contains_eq_mem, List.mem_map, decide_eq_true_eq]
            constructor
            · rintro ⟨j, hj, e⟩
              have : j = i := Int.ofNat.inj e
              rw [← this]; exact hj
            · intro h; exact ⟨i, h, rfl⟩
          rw [e1, Bool.eq_iff_iff, decide_eq_true_eq, hmem, hx]
          simp [hi]
        simp only [F_stopwatchlaw29_CategoriesOf_L2]
        rw [decT (show (i : Int) < (a1.Categories.length : Int) by omega), cond_true, F_In_eq 110 _ _ (by simp; omega) (by simp; omega), Option.bind_some, idx_nat hx, Option.bind_some, hin]
        generalize a1.Categories[i] = x
        unfold fits
        by_cases h1 : x.From ≤ a2.Age
        · simp only [h1, decide_true, cond_true, Bool.true_and, Option.bind_some, bne_self_eq_false, cond_false]
          rw [wrap_succ (by omega)]
        · simp only [h1, decide_false, cond_false, Bool.false_and, Option.bind_some, bne_self_eq_false]
          rw [wrap_succ (by omega)]
      · simp only [F_stopwatchlaw29_CategoriesOf_L2]
        rw [decF (by omega), cond_false]
    · intro j hj
      have hNj : N[j] ∈ N := List.getElem_mem hj
      have hlt := ((hmem _).1 hNj).1
      have hc : a1.Categories[N[j]]? = some a1.Categories[N[j]] := List.getElem?_eq_getElem hlt
      simp only [F_stopwatchlaw29_CategoriesOf_L1]
      rw [decT (show (j : Int) < ((N.map Int.ofNat).length : Int) by simp; omega), cond_true, idx_nat (hget j hj), Option.bind_some, Option.bind_some]
      rw [decF (show ¬ ((N[j] : Nat) : Int) < 0 by omega), cond_false, decF (show ¬ (a1.Categories.length : Int) ≤ ((N[j] : Nat) : Int) by omega), cond_false]
      have hb : (bif decide ((0 : Int) < (j : Int)) then (idx (N.map Int.ofNat) (IntKind.i64.wrap ((j : Int) - 1))).bind fun x85 => some (a1, a2, decide (((N[j] : Nat) : Int) ≤ x85)) else some (a1, a2, false)) = some (a1, a2, false) := by
        cases j with
        | zero => rfl
        | succ j =>
          rw [decT (show (0 : Int) < ((j + 1 : Nat) : Int) by omega), cond_true, wrap64 (by omega) (by omega), show ((j + 1 : Nat) : Int) - 1 = (j : Int) by omega, idx_nat (hget j (by omega)), Option.bind_some]
          have : N[j] < N[j + 1] := (List.pairwise_iff_getElem.1 hsort) j (j + 1) (by omega) hj (by omega)
          rw [decF (show ¬ ((N[j + 1] : Nat) : Int) ≤ ((N[j] : Nat) : Int) by omega)]
      simp only [Option.bind_some] at hb ⊢
      rw [hb]
      simp only [Option.bind_some, cond_false, F_Name_at 110 a1 hc, idx_nat hc]
      simp only [bne_self_eq_false, cond_false, Option.bind_some]
      rw [wrap_succ (by omega)]
    · simp only [F_stopwatchlaw29_CategoriesOf_L1]
      rw [decF (by simp), cond_false]
end Go.Sw
