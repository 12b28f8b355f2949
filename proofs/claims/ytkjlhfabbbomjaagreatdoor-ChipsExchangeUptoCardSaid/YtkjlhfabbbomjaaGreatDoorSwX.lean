/- Plain tools for the functions in the Option monad. -/
import Derived.Test.YtkjlhfabbbomjaaGreatDoorSwW
set_option linter.unusedVariables false
set_option linter.unusedSectionVars false
set_option linter.unusedSimpArgs false
namespace Go.Sw
theorem iter_count {S B : Type} {step : S → Option (Ctl S B)} (st : Nat → S) (b : B) (k : Nat) (hc : ∀ i, i < k → step (st i) = some (.cont (st (i + 1)))) (hd : step (st k) = some (.done b)) : ∀ n, k < n → iter step n (st 0) = some b := by
 have key : ∀ m i n, k - i = m → i ≤ k → m < n → iter step n (st i) = some b := by
  intro m
  induction m with
  | zero =>
   intro i n h1 h2 h3
   have : i = k := by omega
   subst this
   obtain ⟨n', rfl⟩ : ∃ n', n = n' + 1 := ⟨n - 1, by omega⟩
   simp [iter, hd]
  | succ m ih =>
   intro i n h1 h2 h3
   obtain ⟨n', rfl⟩ : ∃ n', n = n' + 1 := ⟨n - 1, by omega⟩
   simp only [iter, hc i (by omega)]
   exact ih (i + 1) n' (by omega) (by omega) (by omega)
 intro n hn
 exact key k 0 n (by omega) (Nat.zero_le _) hn
theorem iter_cnt {S B : Type} {step : S → Option (Ctl S B)} (s0 : S) (st : Nat → S) (b : B) (k : Nat) (h0 : st 0 = s0) (hc : ∀ i, i < k → step (st i) = some (.cont (st (i + 1)))) (hd : step (st k) = some (.done b)) (n : Nat) (hn : k < n) : iter step n s0 = some b := by
 rw [← h0]; exact iter_count st b k hc hd n hn
theorem idx_nat {α : Type} {l : List α} {i : Nat} {x : α} (h : l[i]? = some x) : idx l (i : Int) = some x := by
 unfold idx
 have : decide ((0 : Int) ≤ i) = true := by simp
 rw [this]; simpa using h
theorem wrap64 {n : Int} (h0 : -9223372036854775808 ≤ n) (h1 : n ≤ 9223372036854775807) : IntKind.i64.wrap n = n := by
 unfold IntKind.wrap
 simp [IntKind.bits, IntKind.signed]
 omega
theorem wrap_succ {i : Nat} (h : i < 9223372036854775807) : IntKind.i64.wrap ((i : Int) + 1) = ((i + 1 : Nat) : Int) := by
 rw [wrap64 (by omega) (by omega)]; omega
end Go.Sw
