/- The order and repetition of facts have no effect on starters and pairs. -/
import Derived.Test.YtkjlhfabbbomjaaGreatDoorQ18Or
set_option linter.unusedVariables false
set_option linter.unusedSimpArgs false
namespace Go.Sw
theorem law_ChipsOrder (c : Course) (l : List Fact) (t : Int) (hc : Course.wf c) (hl : l.length ≤ 1048576 ∧ ∀ f ∈ l, Fact.wf f) (ht : IsInt .i64 t) : ∃ n, F_ex n c l t = some true := by
 have w := QfP hc
 have q := Qgp hc
 obtain ⟨t1, t2⟩ := Qjs hc
 obtain ⟨b, pb, fb⟩ := Qhq c w q t1 t2
 refine Ev.ex ?_
 unfold F_ex
 refine Ev.bind (Ev.const Qlf) ?_
 simp only [Bool.not_true, cond_false]
 refine Ev.bind (v := !b || (!decide ((l.length : Int) ≤ 14) || ((l.length : Int) == 0))) (Ev.bind pb (Ev.or fun _ => Ev.bind (v := ()) (Qb _) (Ev.or fun _ => Qb _))) ?_
 cases h6 : (!b || (!decide ((l.length : Int) ≤ 14) || ((l.length : Int) == 0))) with
 | true => exact Qb _
 | false =>
  rw [Bool.or_eq_false_iff, Bool.or_eq_false_iff, Bool.not_eq_false', Bool.not_eq_false'] at h6
  obtain ⟨hb, h14', h0⟩ := h6
  have h14 : l.length ≤ 14 := by have := of_decide_eq_true h14'; omega
  have hne : l ≠ [] := by rintro rfl; simp at h0
  obtain ⟨e, he⟩ := QeE c w q (fb hb) t1 t2
  obtain ⟨k, x, q1, q2, q3, q4, q5⟩ := Qjr l t hne
  simp only [cond_false, q1, q2, Option.bind_some, q4, Qld l q3, QhY l q3]
  rw [QeF [z_Fact] _ (by simp; omega)]
  simp only [Option.bind_some]
  rw [QeF _ _ (by simp; omega)]
  simp only [Option.bind_some]
  rw [QeF _ [x] (by simp; omega)]
  simp only [Option.bind_some]
  have hm : ∀ f, validS f = true → (f ∈ l ↔ f ∈ [z_Fact] ++ l.drop k ++ l.take k ++ [x]) := by
   intro f hf
   have hz : f ≠ z_Fact := by rintro rfl; rw [Qii] at hf; cases hf
   simp only [List.mem_append, List.mem_singleton]
   constructor
   ·intro h
    rw [← List.take_append_drop k l, List.mem_append] at h
    rcases h with h | h
    ·exact .inl (.inr h)
    ·exact .inl (.inl (.inr h))
   ·rintro (((h | h) | h) | h)
    ·exact absurd h hz
    ·exact List.mem_of_mem_drop h
    ·exact List.mem_of_mem_take h
    ·rw [h]; exact q5
  have hlen : ([z_Fact] ++ l.drop k ++ l.take k ++ [x]).length ≤ 16 := by simp; omega
  generalize [z_Fact] ++ l.drop k ++ l.take k ++ [x] = m at hm hlen
  refine Ev.bind (Qbe e c l (by omega) he) (Ev.bind (Qbe e c m (by omega) he) (Ev.bind (Qfz e c l (by omega) he) (Ev.bind (Qfz e c m (by omega) he) ?_)))
  rw [← QeU (e := e) (c := c) hm, ← Qf1 (st := startF e c l) hm]
  have k1 := QfU e c l
  have k2 := Qhj (startF e c l) l
  refine Ev.bind (v := true) (Ev.bind (QiZ _ _ (by omega)) ?_) (Qb _)
  rw [Yk rfl, beq_self_eq_true, beq_self_eq_true]
  refine Qha (Qha (Ev.bind (Qi0 _ _ (by omega)) ?_))
  rw [Yk rfl]
  exact Qb _
end Go.Sw
