/- CategoriesTables: the plain law. -/
import Derived.Test.YtjikdlekkmifhaaGreatQ29Ta
set_option linter.unusedVariables false
set_option linter.unusedSimpArgs false
namespace Go.Sw
theorem sane_ok : F_em 300 = some true := by decide +kernel
theorem tabN_le (c : Course) (st : List Starter) {i : Nat} : ∀ (k : Nat), ∃ t, tabN c st (i + k) = tabN c st i ++ t
 | 0 => ⟨[], by simp⟩
 | k + 1 => by
  obtain ⟨t, h⟩ := tabN_le c st (i := i) k
  exact ⟨t ++ (tabD c st ((i + k : Nat) : Int) (c.Categories.length + 1)).map fun k' => { distance := ((i + k : Nat) : Int), category := k' }, by
   rw [← Nat.add_assoc, tabN_succ, h, List.append_assoc]⟩
theorem tabD_succ (c : Course) (st : List Starter) (d : Int) (i : Nat) : tabD c st d (i + 1) = tabD c st d i ++ bif anyB c st d ((i : Int) - 1) then [(i : Int) - 1] else [] := by
 unfold tabD
 rw [ksN_succ, List.filter_append]
 cases e : anyB c st d ((i : Int) - 1) <;> simp [e]
theorem tabD_le (c : Course) (st : List Starter) (d : Int) {i : Nat} : ∀ (k : Nat), ∃ t, tabD c st d (i + k) = tabD c st d i ++ t
 | 0 => ⟨[], by simp⟩
 | k + 1 => by
  obtain ⟨t, h⟩ := tabD_le c st d (i := i) k
  exact ⟨_, by rw [← Nat.add_assoc, tabD_succ, h, List.append_assoc]⟩
theorem tab_at (c : Course) (st : List Starter) (i j : Nat) (hi : i < c.Distances.length) (hj : j ≤ c.Categories.length) (h : anyB c st (i : Int) ((j : Int) - 1) = true) :
  (tabs c st)[(tabN c st i).length + (tabD c st (i : Int) j).length]? = some { distance := (i : Int), category := (j : Int) - 1 } := by
 obtain ⟨t1, h1⟩ := tabN_le c st (i := i + 1) (c.Distances.length - (i + 1))
 have e1 : i + 1 + (c.Distances.length - (i + 1)) = c.Distances.length := by omega
 rw [e1] at h1
 obtain ⟨t2, h2⟩ := tabD_le c st (i : Int) (i := j + 1) (c.Categories.length - j)
 have e2 : j + 1 + (c.Categories.length - j) = c.Categories.length + 1 := by omega
 have hs := tabD_succ c st (i : Int) j
 rw [h, cond_true] at hs
 rw [e2, hs] at h2
 unfold tabs
 rw [h1, tabN_succ, h2]
 simp only [List.map_append, List.map_cons, List.map_nil, List.append_assoc]
 rw [List.getElem?_append_right (by omega)]
 rw [List.getElem?_append_right (by simp)]
 simp
theorem law_CategoriesTables (a1 : Course) (a2 : List Starter) (w0 : Course.wf a1) (w1 : (fun l => l.length ≤ 1048576 ∧ ∀ x ∈ l, Starter.wf x) a2) : ∃ n, F_cw n a1 a2 = some true := by
 refine Ev.ex ?_
 unfold F_cw
 obtain ⟨hst, _⟩ := w1
 refine Ev.bind0 sane_ok (Ev.ff ?_)
 have w := CourseOk.of w0
 have q := PartsOk.of w0
 obtain ⟨t1, t2⟩ := ties_of w0
 obtain ⟨b, p1, p2⟩ := ev_FewCourse a1 w q t1 t2
 cases b with
 | false => exact Ev.bind (v := true) (Ev.bind p1 (Ev.pure _)) (Ev.pure _)
 | true =>
 have k := p2 rfl
 refine Ev.bind (Ev.bind p1 (Ev.ff (Ev.bind (ev_Few29 a1 a2) (Ev.or fun _ => Ev.bind (ev_refCourse a1 w q k t1 t2) (Ev.pure _))))) ?_
 cases hf : few29 a1 a2 with
 | false => exact Ev.pure _
 | true =>
 cases hc : courseE a1 != 0 with
 | true => exact Ev.pure _
 | false =>
 have hc0 : (courseE a1 == 0) = true := by simpa [bne] using hc
 unfold few29 at hf
 simp only [Bool.and_eq_true, decide_eq_true_eq] at hf
 have hd : a1.Distances.length ≤ 10 := by omega
 have hk : a1.Categories.length ≤ 40 := by omega
 refine Ev.ff (Ev.bind (ev_Tables a1 w a2 hst hk) ?_)
 have ht := tables_len a1 w a2 hd hk
 have hnl := tabN_len a1 a2
 have e0 : (((tablesE a1 a2).1.length : Int) != ((tablesE a1 a2).2.length : Int)) = false := by unfold tablesE; simp
 rw [e0]
 refine Ev.ff (Ev.bind (v := (Ctl.cont ((tabs a1 a2).length : Int) : Ctl Int Bool)) ?_ ?_)
 ·refine Ev.iter (fun i => (((tabN a1 a2 i).length : Int), (i : Int))) a1.Distances.length (by simp [tabN]) (fun i hi => ?_) ?_
  ·have hw : IntKind.i64.wrap ((i : Int) + 1) = ((i + 1 : Nat) : Int) := wrap_succ (by omega)
   have hmul : i * (a1.Categories.length + 1) ≤ 10 * 41 := Nat.mul_le_mul (by omega) (by omega)
   have hn := hnl i
   unfold F_gm
   simp only [decT (show (i : Int) < (a1.Distances.length : Int) by omega), cond_true, hw]
   refine Ev.bind (v := (Ctl.cont ((tabN a1 a2 (i + 1)).length : Int) : Ctl Int (Ctl (Int × Int) (Ctl Int Bool)))) ?_ (Ev.const rfl)
   have es : (tabN a1 a2 (i + 1)).length = (tabN a1 a2 i).length + (tabD a1 a2 (i : Int) (a1.Categories.length + 1)).length := by rw [tabN_succ]; simp
   rw [es]
   refine Ev.iter (fun j => ((((tabN a1 a2 i).length + (tabD a1 a2 (i : Int) j).length : Nat) : Int), (j : Int) - 1)) (a1.Categories.length + 1) (by simp [tabD, ksN]) (fun j hj => ?_) ?_
   ·have hw2 : IntKind.i64.wrap ((j : Int) - 1 + 1) = ((j + 1 : Nat) : Int) - 1 := by rw [wrap64 (by omega) (by omega)]; omega
    have hjl := tabD_len a1 a2 (i : Int) j
    have hM : membersE a1 a2 (i : Int) ((j : Int) - 1) = (memS a1 a2 (i : Int) ((j : Int) - 1), 0) := by
     unfold membersE
     rw [hc0, cond_true, decF (show ¬ (i : Int) < 0 by omega), decF (show ¬ (a1.Distances.length : Int) ≤ (i : Int) by omega), decF (show ¬ (j : Int) - 1 < -1 by omega), decF (show ¬ (a1.Categories.length : Int) ≤ (j : Int) - 1 by omega)]
     rfl
    unfold F_go
    simp only [decT (show (j : Int) - 1 < (a1.Categories.length : Int) by omega), cond_true, hw2]
    refine Ev.bind (v := (Ctl.cont (((tabN a1 a2 i).length + (tabD a1 a2 (i : Int) (j + 1)).length : Nat) : Int) : Ctl Int (Ctl (Int × Int) (Ctl Int (Ctl (Int × Int) (Ctl Int Bool)))))) ?_ ?_
    case refine_2 => exact Ev.pure _
    refine Ev.bind (ev_Members a1 w q k t1 t2 a2 hst _ _) ?_
    rw [hM]
    dsimp only
    rw [memS_empty]
    have e0 : ((0 : Int) != 0) = false := rfl
    rw [e0]
    refine Ev.ff ?_
    cases hB : anyB a1 a2 (i : Int) ((j : Int) - 1) with
    | false =>
     have : tabD a1 a2 (i : Int) (j + 1) = tabD a1 a2 (i : Int) j := by rw [tabD_succ, hB]; simp
     rw [this]
     exact Ev.pure _
    | true =>
     have e1 : (tabD a1 a2 (i : Int) (j + 1)).length = (tabD a1 a2 (i : Int) j).length + 1 := by rw [tabD_succ, hB]; simp
     have hat := tab_at a1 a2 i j hi (by omega) hB
     have hlt := (List.getElem?_eq_some_iff.1 hat).1
     refine Ev.ff (Ev.bind (v := false) ?_ ?_)
     ·have i1 : idx (tablesE a1 a2).1 (((tabN a1 a2 i).length + (tabD a1 a2 (i : Int) j).length : Nat) : Int) = some (i : Int) := by
       refine idx_nat ?_
       unfold tablesE
       rw [List.getElem?_map, hat]; rfl
      have i2 : idx (tablesE a1 a2).2 (((tabN a1 a2 i).length + (tabD a1 a2 (i : Int) j).length : Nat) : Int) = some ((j : Int) - 1) := by
       refine idx_nat ?_
       unfold tablesE
       rw [List.getElem?_map, hat]; rfl
      have i3 : ((tablesE a1 a2).1.length : Int) = ((tabs a1 a2).length : Int) := by unfold tablesE; simp
      rw [i1, i2, i3, decF (show ¬ ((tabs a1 a2).length : Int) ≤ (((tabN a1 a2 i).length + (tabD a1 a2 (i : Int) j).length : Nat) : Int) by omega)]
      have n1 : ((i : Int) != (i : Int)) = false := by simp
      have n2 : (((j : Int) - 1) != ((j : Int) - 1)) = false := by simp
      simp only [Option.bind_some, n1, n2, cond_false]
      exact Ev.pure _
     ·rw [e1, ← Nat.add_assoc, wrap_succ (by omega)]
      exact Ev.pure _
   ·unfold F_go
    simp only [decF (show ¬ ((a1.Categories.length + 1 : Nat) : Int) - 1 < (a1.Categories.length : Int) by omega), cond_false]
    exact Ev.pure _
  ·unfold F_gm
   simp only [end_, cond_false]
   exact Ev.pure _
 ·refine Ev.const ?_
  unfold tablesE
  simp
end Go.Sw
