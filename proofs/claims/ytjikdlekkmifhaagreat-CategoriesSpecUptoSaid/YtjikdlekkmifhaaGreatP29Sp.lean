/- CategoriesSpec: the plain law. -/
import Derived.Test.YtjikdlekkmifhaaGreatPCd
set_option linter.unusedVariables false
set_option linter.unusedSimpArgs false
namespace Go.Sw
theorem sane_ok : F_eu 300 = some true := by decide +kernel
theorem law_CategoriesSpec (a1 : Course) (a2 : List Starter) (a3 a4 : Int) (w0 : Course.wf a1) (w1 : (fun l => l.length ≤ 1048576 ∧ ∀ x ∈ l, Starter.wf x) a2) (w2 : IsInt .i64 a3) (w3 : IsInt .i64 a4) : ∃ n, F_dd n a1 a2 a3 a4 = some true := by
 refine Ev.ex ?_
 unfold F_dd
 obtain ⟨hst, _⟩ := w1
 refine Ev.bind0 sane_ok (Ev.ff (few_law w0 hst fun w q k hd hk hs => ?_))
 obtain ⟨t1, t2⟩ := ties_of w0
 have hm : (membersE a1 a2 a3 a4).1.length ≤ 1048576 := by
  unfold membersE
  have : (memS a1 a2 a3 a4).length ≤ 1048576 := by
   unfold memS
   refine Nat.le_trans (dedup_le _) ?_
   rw [(isort_perm ltI _).length_eq]
   unfold bibs
   rw [List.length_map]
   exact Nat.le_trans (List.length_filter_le _ _) hst
  cases courseE a1 == 0 <;> cases (decide (a3 < 0) || decide ((a1.Distances.length : Int) ≤ a3)) <;> cases (decide (a4 < -1) || decide ((a1.Categories.length : Int) ≤ a4)) <;> simp [this]
 have ht := tables_len a1 w a2 hd hk
 refine Ev.bind (Ev.checks a2 (fun _ => true) (Ctl.done false) (Ctl.cont ()) (by omega) (fun i x ha => ?_) ?_) ?_
 ·unfold F_hh
  simp only [ha.lt, cond_true, ha.ix, Option.bind_some, ha.nx]
  refine Ev.bind (ev_Of a1 w x) (Ev.bind (ev_refOf a1 w x) (Ev.bind (ev_Same _ (ofS_len a1 w x)) (Ev.pure _)))
 ·unfold F_hh
  simp only [end_, cond_false]
  exact Ev.pure _
 ·have e : a2.all (fun _ => true) = true := by simp
  rw [e]
  refine Ev.bind (ev_Name a1 a4) (Ev.bind (ev_Name2 a1 a4) (Ev.bind (ev_Members a1 w q k t1 t2 a2 hst a3 a4) (Ev.bind (ev_refMembers a1 w q k t1 t2 a2 hst a3 a4) (Ev.bind (ev_Tables a1 w a2 hst hk) (Ev.bind (ev_refTables a1 w a2 hst hd hk) (Ev.bind (v := true) ?_ (Ev.pure _)))))))
  have e1 : ((nameS a1 a4).1 == (nameS a1 a4).1) = true := by simp
  have e2 : ((nameS a1 a4).2 == (nameS a1 a4).2) = true := by simp
  have e3 : ((membersE a1 a2 a3 a4).2 == (membersE a1 a2 a3 a4).2) = true := by simp
  rw [e1, e2, e3]
  refine Ev.tt (Ev.tt (Ev.bind (ev_Same _ hm) (Ev.tt (Ev.tt (Ev.bind (ev_Same _ ?_) (Ev.tt (Ev.bind (ev_Same _ ?_) (Ev.pure _))))))))
  ·unfold tablesE; simpa using ht
  ·unfold tablesE; simpa using ht
end Go.Sw
