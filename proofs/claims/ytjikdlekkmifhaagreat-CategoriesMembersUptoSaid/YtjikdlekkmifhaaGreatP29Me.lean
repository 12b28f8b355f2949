/- CategoriesMembers: the plain law. -/
import Derived.Test.YtjikdlekkmifhaaGreatQ29Me
set_option linter.unusedVariables false
set_option linter.unusedSimpArgs false
namespace Go.Sw
theorem sane_ok : F_ci 300 = some true := by decide +kernel
theorem law_CategoriesMembers (a1 : Course) (a2 : List Starter) (a3 a4 : Int) (w0 : Course.wf a1) (w1 : (fun l => l.length ≤ 1048576 ∧ ∀ x ∈ l, Starter.wf x) a2) (w2 : IsInt .i64 a3) (w3 : IsInt .i64 a4) : ∃ n, F_dm n a1 a2 a3 a4 = some true := by
 refine Ev.ex ?_
 unfold F_dm
 obtain ⟨hst, _⟩ := w1
 refine Ev.bind0 sane_ok (Ev.ff (few_law w0 hst fun w q k hd hk hs => ?_))
 obtain ⟨t1, t2⟩ := ties_of w0
 refine Ev.bind (ev_Members a1 w q k t1 t2 a2 hst a3 a4) (Ev.bind (ev_Members a1 w q k t1 t2 a2 hst a3 (-1)) ?_)
 cases hc : courseE a1 == 0 with
 | false =>
  have e1 : membersE a1 a2 a3 a4 = ([], courseE a1) := by unfold membersE; rw [hc]; rfl
  have e2 : (courseE a1 != 0) = true := by simp only [bne, hc]; rfl
  rw [e1]
  dsimp only
  rw [e2]
  exact Ev.pure _
 | true =>
 cases hr : (decide (a3 < 0) || decide ((a1.Distances.length : Int) ≤ a3)) with
 | true =>
  have e1 : membersE a1 a2 a3 a4 = ([], 90) := by unfold membersE; rw [hc, hr]; rfl
  rw [e1]
  exact Ev.pure _
 | false =>
 cases hq : (decide (a4 < -1) || decide ((a1.Categories.length : Int) ≤ a4)) with
 | true =>
  have e1 : membersE a1 a2 a3 a4 = ([], 290) := by unfold membersE; rw [hc, hr, hq]; rfl
  rw [e1]
  exact Ev.pure _
 | false =>
 have e1 : membersE a1 a2 a3 a4 = (memS a1 a2 a3 a4, 0) := by unfold membersE; rw [hc, hr, hq]; rfl
 have e2 : membersE a1 a2 a3 (-1) = (memS a1 a2 a3 (-1), 0) := by
  unfold membersE
  rw [hc, hr, decF (show ¬ (-1 : Int) < -1 by omega), decF (show ¬ (a1.Categories.length : Int) ≤ -1 by omega)]; rfl
 rw [e1, e2]
 have z : ((0 : Int) != 0) = false := rfl
 simp only [Bool.or_eq_false_iff, decide_eq_false_iff_not] at hr hq
 obtain ⟨r1, r2⟩ := hr
 obtain ⟨q1, q2⟩ := hq
 have hb : Ev (fun n : Nat => ((bif ((0 : Int) != 0) then some true else (bif decide (a3 < 0) then some true else (bif decide ((a1.Distances.length : Int) ≤ a3) then some true else (bif decide (a4 < (-1)) then some true else some (decide ((a1.Categories.length : Int) ≤ a4)))))) : Option Bool)) false := by
  rw [z, decF r1, decF r2, decF q1, decF q2]
  exact Ev.pure _
 have hcat : a4 ≠ -1 → ∃ x, idx a1.Categories a4 = some x ∧ ∀ s : Starter, inL a4 (ofS a1 s) = (decide (x.From ≤ s.Age) && decide (s.Age ≤ x.To)) := by
  intro hne
  obtain ⟨j, rfl⟩ : ∃ j : Nat, a4 = (j : Int) := ⟨a4.toNat, by omega⟩
  have hj : j < a1.Categories.length := by omega
  have hg : a1.Categories[j]? = some a1.Categories[j] := List.getElem?_eq_getElem hj
  refine ⟨_, idx_nat hg, fun s => ?_⟩
  have := ofL_get s.Age a1.Categories 0 j _ hg
  rw [Nat.zero_add] at this
  exact this
 have hbel : ∀ (i : Nat) (s : Starter), At a2 i s → Ev (fun n : Nat => (bif (s.Distance == a3) then (bif (a4 == (-1)) then some true else (idx a1.Categories a4).bind fun x422 => (idx a2 (i : Int)).bind fun x423 => (bif decide (x422.From ≤ x423.Age) then (idx a2 (i : Int)).bind fun x425 => (idx a1.Categories a4).bind fun x426 => some (decide (x425.Age ≤ x426.To)) else some false)) else some false : Option Bool)) (belS a1 s a3 a4) := by
  intro i s ha
  unfold belS
  refine Ev.and fun _ => ?_
  by_cases hne : a4 = -1
  ·rw [hne]; exact Ev.pure _
  ·obtain ⟨x, h1, h2⟩ := hcat hne
   have hf : (a4 == -1) = false := by simpa using hne
   rw [hf, h2, h1, Bool.false_or]
   simp only [ha.ix, Option.bind_some, cond_false]
   exact Ev.and fun _ => Ev.pure _
 dsimp only
 rw [z]
 rw [z] at hb
 refine Ev.ff (Ev.bind hb (Ev.ff ?_))
 have hml := memS_len a1 a2 a3 a4
 have hml2 := memS_len a1 a2 a3 (-1)
 have hso := memS_sorted a1 a2 a3 a4
 have hmm := memS_mem a1 a2 a3 a4
 have hm1 := memS_mem a1 a2 a3 (-1)
 generalize memS a1 a2 a3 a4 = M at *
 generalize memS a1 a2 a3 (-1) = M1 at *
 refine Ev.bind (Ev.checks M (fun _ => true) (Ctl.done false) (Ctl.cont ()) (by omega) (fun i x ha => ?_) ?_) ?_
 ·obtain ⟨s0, hs0, hb0, hx0⟩ := (hmm x).1 ha.mem
  have hin : Ev (fun n => F_q n M1 x) true := by
   have : inL x M1 = true := (inL_iff _ _).2 ((hm1 x).2 ⟨s0, hs0, belS_all a1 s0 a3 a4 hb0, hx0⟩)
   rw [← this]
   exact ev_In _ _ (by omega)
  unfold F_ey
  simp only [ha.lt, cond_true, ha.ix, Option.bind_some, ha.nx]
  refine Ev.bind (v := true) ?_ (Ev.bind (v := false) ?_ (Ev.pure _))
  ·have e : true = a2.foldl (fun b s => b || ((s.Bib == x) && belS a1 s a3 a4)) false := by
    have gen : ∀ (l : List Starter) (b : Bool), l.foldl (fun b s => b || ((s.Bib == x) && belS a1 s a3 a4)) b = (b || l.any fun s => (s.Bib == x) && belS a1 s a3 a4) := by
     intro l
     induction l with
     | nil => simp
     | cons x l ih => intro b; rw [List.foldl_cons, ih, List.any_cons, Bool.or_assoc]
    rw [gen, Bool.false_or]
    exact (List.any_eq_true.2 ⟨s0, hs0, by rw [hx0, hb0]; simp⟩).symm
   rw [e]
   refine Ev.iter_fold a2 (fun b s => b || ((s.Bib == x) && belS a1 s a3 a4)) false (fun b j => (b, (j : Int))) (fun b => b) (by omega) rfl (fun j s b hj _ => ?_) ?_
   ·unfold F_fd
    simp only [hj.lt, cond_true, hj.nx]
    refine Ev.bind (v := b || ((s.Bib == x) && belS a1 s a3 a4)) (Ev.or fun _ => ?_) (Ev.pure _)
    simp only [hj.ix, ha.ix, Option.bind_some]
    refine Ev.and fun _ => ?_
    have := hbel j s hj
    simp only [hj.ix, Option.bind_some] at this
    exact this
   ·unfold F_fd
    simp only [end_, cond_false]
    exact Ev.pure _
  ·refine Ev.ff ?_
   by_cases hi : i = 0
   ·subst hi
    refine Ev.ff ?_
    exact Ev.bind hin (Ev.pure _)
   ·have hlt := ha.lt'
    have e5 : IntKind.i64.wrap ((i : Int) - 1) = ((i - 1 : Nat) : Int) := by rw [wrap64 (by omega) (by omega)]; omega
    have hp : M[i - 1]? = some M[i - 1] := List.getElem?_eq_getElem (by omega)
    have hlt2 : M[i - 1] < x := by
     have hx : M[i] = x := by
      have := ha.get
      rw [List.getElem?_eq_getElem hlt] at this
      exact Option.some.inj this
     rw [← hx]
     exact (List.pairwise_iff_getElem.1 hso) _ _ _ _ (by omega)
    rw [decT (show (0 : Int) < (i : Int) by omega), e5, idx_nat hp]
    refine Ev.tt ?_
    simp only [Option.bind_some, decF (show ¬ x ≤ M[i - 1] by omega), cond_false]
    exact Ev.bind hin (Ev.pure _)
 ·unfold F_ey
  simp only [end_, cond_false]
  exact Ev.pure _
 ·have e : M.all (fun _ => true) = true := by simp
  rw [e]
  refine Ev.bind (Ev.checks a2 (fun _ => true) (Ctl.done false) (Ctl.cont ()) (by omega) (fun i s ha => ?_) ?_) ?_
  ·unfold F_ff
   have hbl := hbel i s ha
   simp only [ha.ix, Option.bind_some] at hbl
   simp only [ha.lt, cond_true, ha.ix, Option.bind_some, ha.nx]
   refine Ev.bind hbl (Ev.bind (v := false) ?_ (Ev.pure _))
   cases hB : belS a1 s a3 a4 with
   | false => exact Ev.pure _
   | true =>
    have : inL s.Bib M = true := (inL_iff _ _).2 ((hmm _).2 ⟨s, ha.mem, hB, rfl⟩)
    refine Ev.tt (Ev.bind (v := true) ?_ (Ev.pure _))
    rw [← this]
    exact ev_In _ _ (by omega)
  ·unfold F_ff
   simp only [end_, cond_false]
   exact Ev.pure _
  ·have e : a2.all (fun _ => true) = true := by simp
   rw [e]
   exact Ev.pure _
end Go.Sw
