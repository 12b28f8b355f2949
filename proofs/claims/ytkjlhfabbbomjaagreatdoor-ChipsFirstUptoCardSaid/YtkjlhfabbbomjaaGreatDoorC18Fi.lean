/- The first valid record of a bib counts. -/
import Derived.Test.YtkjlhfabbbomjaaGreatDoorQ18Fi
set_option linter.unusedVariables false
set_option linter.unusedSimpArgs false
namespace Go.Sw
def minStep (P : Fact -> Bool) (a f : Fact) : Fact := bif P f && ((a.Kind == 0) || decide (cmpF f a < 0)) then f else a
theorem QgL {P : Fact -> Bool} (hk : ∀ f, P f = true -> (f.Kind == 0) = false) : ∀ (l p : List Fact) (a : Fact), ((a = z_Fact /\ ∀ g ∈ p, P g = false) \/ (a ∈ p /\ P a = true /\ ∀ g ∈ p, P g = true -> ¬ cmpF g a < 0)) ->
  ((l.foldl (minStep P) a = z_Fact /\ ∀ g ∈ p ++ l, P g = false) \/ (l.foldl (minStep P) a ∈ p ++ l /\ P (l.foldl (minStep P) a) = true /\ ∀ g ∈ p ++ l, P g = true -> ¬ cmpF g (l.foldl (minStep P) a) < 0))
 | [], p, a, h => by simpa using h
 | f :: l, p, a, h => by
  have key : ((minStep P a f = z_Fact /\ ∀ g ∈ p ++ [f], P g = false) \/ (minStep P a f ∈ p ++ [f] /\ P (minStep P a f) = true /\ ∀ g ∈ p ++ [f], P g = true -> ¬ cmpF g (minStep P a f) < 0)) := by
   unfold minStep
   cases q : P f with
   | false =>
    simp only [Bool.false_and, cond_false]
    rcases h with ⟨h1, h2⟩ | ⟨h1, h2, h3⟩
    ·refine .inl ⟨h1, fun g hg => ?_⟩
     rcases List.mem_append.1 hg with hg | hg
     ·exact h2 g hg
     ·rw [List.mem_singleton] at hg; rw [hg]; exact q
    ·refine .inr ⟨by simp [h1], h2, fun g hg hp => ?_⟩
     rcases List.mem_append.1 hg with hg | hg
     ·exact h3 g hg hp
     ·rw [List.mem_singleton] at hg; rw [hg, q] at hp; cases hp
   | true =>
    simp only [Bool.true_and]
    rcases h with ⟨h1, h2⟩ | ⟨h1, h2, h3⟩
    ·have e : (a.Kind == 0) = true := by rw [h1]; rfl
     rw [e]
     simp only [Bool.true_or, cond_true]
     refine .inr ⟨by simp, q, fun g hg hp => ?_⟩
     rcases List.mem_append.1 hg with hg | hg
     ·rw [h2 g hg] at hp; cases hp
     ·rw [List.mem_singleton] at hg; rw [hg]; have := cmpF_ok.refl f; omega
    ·rw [hk a h2, Bool.false_or]
     cases lt : decide (cmpF f a < 0) with
     | true =>
      have lt' := of_decide_eq_true lt
      simp only [cond_true]
      refine .inr ⟨by simp, q, fun g hg hp => ?_⟩
      rcases List.mem_append.1 hg with hg | hg
      ·intro k; exact h3 g hg hp (cmpF_ok.trans _ _ _ k lt')
      ·rw [List.mem_singleton] at hg; rw [hg]; have := cmpF_ok.refl f; omega
     | false =>
      have lt' := of_decide_eq_false lt
      simp only [cond_false]
      refine .inr ⟨by simp [h1], h2, fun g hg hp => ?_⟩
      rcases List.mem_append.1 hg with hg | hg
      ·exact h3 g hg hp
      ·rw [List.mem_singleton] at hg; rw [hg]; exact lt'
  have := QgL hk l (p ++ [f]) (minStep P a f) key
  rw [List.foldl_cons]
  simpa using this
def isOf (y : Starter) (f : Fact) : Bool := (f.Kind == 1) && ((f.Starter == y) && validS f)
theorem law_ChipsFirst (c : Course) (l : List Fact) (hc : Course.wf c) (hl : l.length <= 1048576 /\ ∀ f ∈ l, Fact.wf f) : ∃ n, F_ey n c l = some true := by
 have w := QfZ hc
 have q := Qgy hc
 obtain ⟨t1, t2⟩ := Qi0 hc
 obtain ⟨b, pb, fb⟩ := Qhg c w q t1 t2
 refine Ev.ex ?_
 unfold F_ey
 refine Ev.bind (Ev.const QjF) ?_
 simp only [Bool.not_true, cond_false]
 cases hb : b with
 | false =>
  refine Ev.bind (v := true) (Ev.bind pb ?_) (Qa _)
  rw [hb]; exact Qa _
 | true =>
 cases h14' : decide ((l.length : Int) <= 14) with
 | false =>
  refine Ev.bind (v := true) (Ev.bind pb ?_) (Qa _)
  rw [hb]; exact QG (Ev.bind (v := ()) (Qa _) (Qa _))
 | true =>
 have h14 : l.length <= 14 := by have := of_decide_eq_true h14'; omega
 obtain ⟨e, he, he2⟩ := QfI c w q (fb hb) t1 t2
 refine Ev.bind (v := e != 0) (Ev.bind pb ?_) ?_
 ·rw [hb]
  refine QG (Ev.bind (v := ()) (Qa _) (QG (Ev.bind he2 (Qa _))))
 cases h0 : (e != 0) with
 | true => exact Qa _
 | false =>
  have e0 : e = 0 := by simpa [bne] using h0
  subst e0
  simp only [cond_false]
  refine Ev.bind (QfB 0 c l (by omega) he) ?_
  unfold startF
  simp only [bne_self_eq_false, cond_false]
  cases decide (((ordF (firstS c l)).map chipK).Nodup) with
  | false => exact Qa _
  | true =>
   simp only [cond_true, bne_self_eq_false, cond_false]
   have hlen : ((ordF (firstS c l)).map (·.Starter)).length <= l.length := by rw [List.length_map, Qff]; exact (Qcq c l).len
   have hmem : ∀ s, s ∈ (ordF (firstS c l)).map (·.Starter) ↔ ∃ f, FirstIs c l f /\ f.Starter = s := by
    intro s
    rw [List.mem_map]
    constructor
    ·rintro ⟨f, f1, f2⟩; exact ⟨f, (Qeb c l f).1 f1, f2⟩
    ·rintro ⟨f, f1, f2⟩; exact ⟨f, (Qeb c l f).2 f1, f2⟩
   have hsort : ((ordF (firstS c l)).map (·.Starter)).Pairwise fun s t => s.Bib < t.Bib := by
    rw [List.pairwise_map]
    exact QeJ c l
   generalize (ordF (firstS c l)).map (·.Starter) = x at *
   refine Ev.bind (v := (Ctl.cont () : Ctl Unit Bool)) ?_ ?_
   ·refine Ev.iter (fun i => (i : Int)) l.length rfl (fun i hi => ?_) ?_
    ·have ha := Yn (x := l[i]) (show l.length <= 4611686018427387904 by omega) (List.getElem?_eq_getElem hi)
     generalize l[i] = f at ha
     unfold F_hn
     simp only [ha.lt, cond_true, ha.ix, Option.bind_some, ha.nx]
     refine Ev.bind (v := (Ctl.cont () : Ctl Unit (Ctl Int (Ctl Unit Bool)))) ?_ (Qa _)
     refine Ev.bind (v := !okS c f) ?_ ?_
     ·unfold okS bne
      cases (f.Kind == 1) with
      | false => exact Qa _
      | true =>
       simp only [Bool.not_true, cond_false, Bool.true_and]
       refine Ev.bind (Qae f) ?_
       cases validS f with
       | false => exact Qa _
       | true =>
        cases decide ((c.Distances.length : Int) <= f.Starter.Distance) with
        | true => exact Qa _
        | false => cases decide ((c.Waves.length : Int) <= f.Starter.Wave) <;> exact Qa _
     ·cases ho : okS c f with
      | false => exact Qa _
      | true =>
       simp only [Bool.not_true, cond_false]
       refine Ev.bind (v := x.any fun s => s.Bib == f.Starter.Bib) ?_ ?_
       ·have hfold : ∀ (m : List Starter) (a : Bool), m.foldl (fun a (s : Starter) => a || (s.Bib == f.Starter.Bib)) a = (a || m.any fun s => s.Bib == f.Starter.Bib) := by
         intro m
         induction m with
         | nil => intro a; simp
         | cons s m ih => intro a; rw [List.foldl_cons, ih, List.any_cons, Bool.or_assoc]
        refine Ev.eq (QZ x (fun a (s : Starter) => a || (s.Bib == f.Starter.Bib)) false (fun a i => (a, (i : Int))) (fun a => a) (by omega) rfl (fun j s a hb _ => ?_) ?_) (by rw [hfold]; simp)
        ·unfold F_hm
         simp only [hb.lt, cond_true, hb.ix, Option.bind_some, hb.nx]
         cases a <;> exact Qa _
        ·unfold F_hm
         simp only [Yf, cond_false]
         exact Qa _
       ·have : (x.any fun s => s.Bib == f.Starter.Bib) = true := by
         rw [List.any_eq_true]
         obtain ⟨g, g1, g2, g3, g4⟩ := Qb3 ha.mem ho
         exact ⟨g.Starter, (hmem _).2 ⟨g, ⟨g1, g2, g4⟩, rfl⟩, by rw [g3]; simp⟩
        rw [this]; exact Qa _
    ·unfold F_hn
     simp only [Yf, cond_false]
     exact Qa _
   ·simp only
    refine Ev.bind (v := (Ctl.cont () : Ctl Unit Bool)) ?_ (Qa _)
    refine Ev.iter (fun i => (i : Int)) x.length rfl (fun i hi => ?_) ?_
    ·have ha := Yn (x := x[i]) (show x.length <= 4611686018427387904 by omega) (List.getElem?_eq_getElem hi)
     have hord : (bif decide ((0 : Int) < (i : Int)) then (idx x (IntKind.i64.wrap ((i : Int) - 1))).bind fun x537 => some (decide (x[i].Bib <= x537.Bib)) else some false) = some false := by
      by_cases h0 : i = 0
      ·subst h0; rfl
      ·rw [QL (show (0 : Int) < (i : Int) by omega), QC (by omega) (by omega)]
       have e : ((i : Int) - 1) = ((i - 1 : Nat) : Int) := by omega
       have hg : x[i - 1]? = some x[i - 1] := List.getElem?_eq_getElem (by omega)
       rw [e, Qa0 hg]
       have := List.pairwise_iff_getElem.1 hsort (i - 1) i (by omega) hi (by omega)
       simp only [cond_true, Option.bind_some]
       rw [QE (by omega)]
     generalize x[i] = y at ha hord
     unfold F_hj
     simp only [ha.lt, cond_true, ha.ix, Option.bind_some, ha.nx]
     refine Ev.bind (Ev.const hord) ?_
     simp only [cond_false]
     have hP : ∀ f, isOf y f = true -> (f.Kind == 0) = false := fun f h => by
      unfold isOf at h
      simp only [Bool.and_eq_true, beq_iff_eq] at h
      rw [h.1]; rfl
     have hmin := QgL hP l [] z_Fact (.inl ⟨rfl, by simp⟩)
     rw [List.nil_append] at hmin
     obtain ⟨g, g1, g2⟩ := (hmem y).1 ha.mem
     have hg : isOf y g = true := by
      have h1 := g1.2.1
      have h2 := QaP h1
      unfold okS at h1
      rw [Bool.and_eq_true] at h1
      unfold isOf
      rw [h1.1, g2, h2, beq_self_eq_true]; rfl
     rcases hmin with ⟨h1, h2⟩ | ⟨m1, m2, m3⟩
     ·rw [h2 g g1.1] at hg; cases hg
     refine Ev.bind (v := l.foldl (minStep (isOf y)) z_Fact) ?_ ?_
     ·refine QZ l (minStep (isOf y)) z_Fact (fun a i => (a, (i : Int))) (fun a => a) (by omega) rfl (fun j f a hb _ => ?_) ?_
      ·unfold F_hr
       simp only [hb.lt, cond_true, hb.ix, Option.bind_some, hb.nx]
       refine Ev.bind (v := isOf y f && ((a.Kind == 0) || decide (cmpF f a < 0))) ?_ ?_
       ·unfold isOf
        cases (f.Kind == 1) with
        | false => exact Qa _
        | true =>
         cases (f.Starter == y) with
         | false => exact Qa _
         | true =>
          refine Qbe (Qbe (Ev.bind (Qae f) ?_))
          cases validS f with
          | false => exact Qa _
          | true =>
           refine Qbe ?_
           cases (a.Kind == 0) with
           | true => exact Qa _
           | false => exact QG (Ev.bind (QbL f a) (Qa _))
       ·unfold minStep
        cases (isOf y f && ((a.Kind == 0) || decide (cmpF f a < 0))) <;> exact Qa _
      ·unfold F_hr
       simp only [Yf, cond_false]
       exact Qa _
     generalize l.foldl (minStep (isOf y)) z_Fact = r at *
     rw [hP r m2]
     refine QG (Ev.bind (v := (Ctl.cont () : Ctl Unit (Ctl Int (Ctl Unit Bool)))) ?_ (Qa _))
     refine Ev.iter (fun i => (i : Int)) l.length rfl (fun j hj => ?_) ?_
     ·have hb := Yn (x := l[j]) (show l.length <= 4611686018427387904 by omega) (List.getElem?_eq_getElem hj)
      generalize l[j] = f at hb
      unfold F_hw
      simp only [hb.lt, cond_true, hb.ix, Option.bind_some, hb.nx]
      refine Ev.bind (v := false) ?_ (Qa _)
      cases k1 : (f.Kind == 1) with
      | false => exact Qa _
      | true =>
       refine Qbe ?_
       cases k2 : (f.Starter.Bib == y.Bib) with
       | false => exact Qa _
       | true =>
        refine Qbe (Ev.bind (Qae f) ?_)
        cases k3 : validS f with
        | false => exact Qa _
        | true =>
         refine Qbe ?_
         cases k4 : decide (f.Starter.Distance < (c.Distances.length : Int)) with
         | false => exact Qa _
         | true =>
          refine Qbe ?_
          cases k5 : decide (f.Starter.Wave < (c.Waves.length : Int)) with
          | false => exact Qa _
          | true =>
           refine Qbe (Ev.bind (QbL f r) ((Qa _).eq ?_))
           refine QE ?_
           intro hlt
           have ho : okS c f = true := by
            have k4' := of_decide_eq_true k4
            have k5' := of_decide_eq_true k5
            unfold okS
            rw [k1, k3, QE (show ¬ (c.Distances.length : Int) <= f.Starter.Distance by omega), QE (show ¬ (c.Waves.length : Int) <= f.Starter.Wave by omega)]; rfl
           have hbib : f.Starter.Bib = g.Starter.Bib := by rw [g2]; simpa using k2
           have h1 := g1.2.2 f hb.mem ho hbib
           have h2 := m3 g g1.1 hg
           have h3 := cmpF_ok.swap g r
           by_cases z : cmpF r g < 0
           ·exact h1 (cmpF_ok.trans _ _ _ hlt z)
           ·have z0 : cmpF r g = 0 := by omega
            have := cmpF_ok.eqr f z0
            omega
     ·unfold F_hw
      simp only [Yf, cond_false]
      exact Qa _
    ·unfold F_hj
     simp only [Yf, cond_false]
     exact Qa _
end Go.Sw
