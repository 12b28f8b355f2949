/- CategoriesOrder: the plain law. -/
import Derived.Test.YtjikdlekkmifhaaGreatQ29Or
set_option linter.unusedVariables false
set_option linter.unusedSimpArgs false
namespace Go.Sw
theorem sane_ok : F_cw 300 = some true := by decide +kernel
theorem wrapU_nonneg (n : Int) : 0 ≤ IntKind.u64.wrap n := by
 unfold IntKind.wrap
 simp [IntKind.bits, IntKind.signed]
 omega
theorem wrapU_small {n : Nat} (h : n ≤ 1048576) : IntKind.u64.wrap (n : Int) = (n : Int) := by
 unfold IntKind.wrap
 simp [IntKind.bits, IntKind.signed]
 omega
theorem ev_deal : ∀ (m : Nat) (left out : List Starter) (g : Int), left.length = m → 0 ≤ g → out.length + 2 * m ≤ 1048576 →
  ∃ res, EvI (fun n => F_ej n) (g, left, out) res ∧ res.length ≤ 1048576 ∧ ∀ x, x ∈ res ↔ x ∈ left ∨ x ∈ out := by
 intro m
 induction m with
 | zero =>
  intro left out g hm _ hb
  have : left = [] := List.length_eq_zero_iff.1 hm
  subst this
  refine ⟨out, EvI.done ?_, by omega, by simp⟩
  unfold F_ej
  exact Ev.pure _
 | succ m ih =>
  intro left out g hm hg hb
  have hmod0 : 0 ≤ Int.tmod g (left.length : Int) := Int.tmod_nonneg _ hg
  have hmod1 : Int.tmod g (left.length : Int) < (left.length : Int) := Int.tmod_lt_of_pos _ (by omega)
  obtain ⟨j, hj⟩ : ∃ j : Nat, Int.tmod g (left.length : Int) = (j : Int) := ⟨(Int.tmod g (left.length : Int)).toNat, by omega⟩
  have hjl : j < left.length := by omega
  have hu : IntKind.u64.wrap (left.length : Int) = (left.length : Int) := wrapU_small (by omega)
  have hw : IntKind.i64.wrap (j : Int) = (j : Int) := wrap64 (by omega) (by omega)
  have hw1 : IntKind.i64.wrap ((j : Int) + 1) = ((j + 1 : Nat) : Int) := wrap_succ (by omega)
  have hget : left[j]? = some left[j] := List.getElem?_eq_getElem hjl
  have hnz : nz (left.length : Int) = some () := by
   unfold nz
   have : ((left.length : Int) == 0) = false := by simp; intro e; rw [e] at hm; simp at hm
   rw [this]; rfl
  generalize hg' : IntKind.u64.wrap ((IntKind.u64.wrap (Int.tdiv g 3)) + 1) = g'
  have hg0 : 0 ≤ g' := by rw [← hg']; exact wrapU_nonneg _
  obtain ⟨out', hout, hlen, hmem⟩ : ∃ out' : List Starter, (bif (Int.tmod g' 2 == 0) then out ++ [left[j]] ++ [left[j]] else out ++ [left[j]]) = out' ∧ out'.length ≤ out.length + 2 ∧ ∀ x, x ∈ out' ↔ x ∈ out ∨ x = left[j] := by
   refine ⟨_, rfl, ?_, fun x => ?_⟩
   ·cases (Int.tmod g' 2 == 0) <;> simp
   ·cases (Int.tmod g' 2 == 0) <;> simp
  have hl2 : (left.take j ++ left.drop (j + 1)).length = m := by simp; omega
  obtain ⟨res, p1, p2, p3⟩ := ih (left.take j ++ left.drop (j + 1)) out' g' hl2 hg0 (by omega)
  refine ⟨res, EvI.cont ?_ p1, p2, fun x => ?_⟩
  ·unfold F_ej
   simp only [hu, hj, hw, hw1, hnz, hg', Option.bind_some, idx_nat hget, decT (show (0 : Int) < (left.length : Int) by omega), cond_true]
   refine Ev.bind0 (app_one _ _ (by omega)) ?_
   refine Ev.bind (v := out') ?_ ?_
   ·rw [← hout]
    exact Ev.bif (fun _ => Ev.bind0 (app_one _ _ (by simp; omega)) (Ev.pure _)) fun _ => Ev.pure _
   ·refine Ev.bind0 (slc_to left (by omega)) ?_
    refine Ev.bind0 (app_two _ _ (by simp; omega)) ?_
    refine Ev.bind0 (slc_from left (by omega)) ?_
    refine Ev.bind0 (app_two _ _ (by simp; omega)) ?_
    simp only [List.nil_append]
    exact Ev.pure _
  ·rw [p3, hmem]
   have hx : x ∈ left ↔ x ∈ left.take j ++ left.drop (j + 1) ∨ x = left[j] := by
    have e : left = left.take j ++ left[j] :: left.drop (j + 1) := by
     rw [List.getElem_cons_drop]; simp
    constructor
    ·intro h
     rw [e] at h
     simp only [List.mem_append, List.mem_cons] at h ⊢
     rcases h with h | h | h
     ·exact .inl (.inl h)
     ·exact .inr h
     ·exact .inl (.inr h)
    ·rintro (h | h)
     ·rw [List.mem_append] at h
      rcases h with h | h
      ·exact List.mem_of_mem_take h
      ·exact List.mem_of_mem_drop h
     ·rw [h]; exact List.getElem_mem _
   rw [hx]
   constructor
   ·rintro (h | h | h)
    ·exact .inl (.inl h)
    ·exact .inr h
    ·exact .inl (.inr h)
   ·rintro ((h | h) | h)
    ·exact .inl h
    ·exact .inr (.inr h)
    ·exact .inr (.inl h)
theorem law_CategoriesOrder (a1 : Course) (a2 : List Starter) (a3 a4 a5 : Int) (w0 : Course.wf a1) (w1 : (fun l => l.length ≤ 1048576 ∧ ∀ x ∈ l, Starter.wf x) a2) (w2 : IsInt .i64 a3) (w3 : IsInt .i64 a4) (w4 : IsInt .u64 a5) : ∃ n, F_dl n a1 a2 a3 a4 a5 = some true := by
 refine Ev.ex ?_
 unfold F_dl
 obtain ⟨hst, _⟩ := w1
 refine Ev.bind0 sane_ok (Ev.ff (few_law w0 hst fun w q k hd hk hs => ?_))
 obtain ⟨t1, t2⟩ := ties_of w0
 have h5 : 0 ≤ a5 := w4.1
 obtain ⟨st, p1, p2, p3⟩ := ev_deal a2.length a2 [] a5 rfl h5 (by simp; omega)
 have hmem : ∀ x, x ∈ a2 ↔ x ∈ st := fun x => by rw [p3]; simp
 refine Ev.bind0 (app_two _ _ (by simp; omega)) (Ev.bind p1.ev ?_)
 have e1 : membersE a1 st a3 a4 = membersE a1 a2 a3 a4 := by unfold membersE; rw [memS_congr a1 hmem]
 have e2 : tablesE a1 st = tablesE a1 a2 := by unfold tablesE; rw [tabs_congr a1 hmem]
 refine Ev.bind (ev_Members a1 w q k t1 t2 a2 hst a3 a4) (Ev.bind (ev_Members a1 w q k t1 t2 st p2 a3 a4) (Ev.bind (ev_Tables a1 w a2 hst hk) (Ev.bind (ev_Tables a1 w st p2 hk) ?_)))
 rw [e1, e2]
 have hm := Nat.le_trans (membersE_len a1 a2 a3 a4) hst
 have ht := tables_len a1 w a2 hd hk
 have e3 : ((membersE a1 a2 a3 a4).2 == (membersE a1 a2 a3 a4).2) = true := by simp
 rw [e3]
 refine Ev.bind (v := true) (Ev.bind (ev_Same _ hm) (Ev.tt (Ev.tt (Ev.bind (ev_Same _ ?_) (Ev.tt (Ev.bind (ev_Same _ ?_) (Ev.pure _))))))) (Ev.pure _)
 ·unfold tablesE; simpa using ht
 ·unfold tablesE; simpa using ht
end Go.Sw
