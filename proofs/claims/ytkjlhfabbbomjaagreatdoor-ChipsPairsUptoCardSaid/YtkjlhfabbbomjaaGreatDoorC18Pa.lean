/- The pairs are those of the facts. -/
import Derived.Test.YtkjlhfabbbomjaaGreatDoorQ18Pa
set_option linter.unusedVariables false
set_option linter.unusedSimpArgs false
namespace Go.Sw
def knowsB (x : List Starter) (b : Int) : Bool := x.any fun s => s.Bib == b
theorem Qd0 (x : List Starter) (b : Int) : knowsB x b = decide (b ∈ x.map (·.Bib)) := by
 unfold knowsB
 rw [Bool.eq_iff_iff, List.any_eq_true, decide_eq_true_eq, List.mem_map]
 simp
theorem Qb4 (x : List Starter) (b : Int) (hx : x.length <= 1048576) : Ev (fun n => F_z n b x) (knowsB x b) := by
 unfold F_z
 refine Ev.bind (v := (bif knowsB x b then Ctl.done true else Ctl.cont () : Ctl Unit Bool)) ?_ ?_
 ·refine Yc x (fun s => s.Bib == b) (fun i => (i : Int)) _ _ (by omega) rfl (fun i s ha hq => ?_) (fun i s ha hq => ?_) ?_
  ·unfold F_gt
   simp only [ha.lt, cond_true, ha.ix, Option.bind_some, hq, cond_false, ha.nx]
   exact Qa _
  ·unfold F_gt
   simp only [ha.lt, cond_true, ha.ix, Option.bind_some, hq]
   exact Qa _
  ·unfold F_gt
   simp only [Ye, cond_false]
   exact Qa _
 ·cases knowsB x b <;> exact Qa _
def isPair (p : Pair) (f : Fact) : Bool := (f.Kind == 7) && ((f.Pair == p) && validS f)
theorem Qg3 (bs : List Int) (l : List Fact) (f : Fact) : metS bs (l ++ [f]) = stepP bs (metS bs l) f := by
 unfold metS; rw [List.foldl_append]; rfl
theorem law_ChipsPairs (c : Course) (l : List Fact) (hc : Course.wf c) (hl : l.length <= 1048576 /\ ∀ f ∈ l, Fact.wf f) : ∃ n, F_er n c l = some true := by
 have w := QfI hc
 have q := Qgj hc
 obtain ⟨t1, t2⟩ := QjB hc
 obtain ⟨b, pb, fb⟩ := Qg7 c w q t1 t2
 refine Ev.ex ?_
 unfold F_er
 refine Ev.bind (Ev.const Qlq) ?_
 simp only [Bool.not_true, cond_false]
 cases hb : b with
 | false =>
  refine Ev.bind (v := true) (Ev.bind pb ?_) (Qa _)
  rw [hb]; exact Qa _
 | true =>
 cases h14' : decide ((l.length : Int) <= 14) with
 | false =>
  refine Ev.bind (v := true) (Ev.bind pb ?_) (Qa _)
  rw [hb]; exact Qz (Ev.bind (v := ()) (Qa _) (Qa _))
 | true =>
 have h14 : l.length <= 14 := by have := of_decide_eq_true h14'; omega
 obtain ⟨e, he, he2⟩ := Qft c w q (fb hb) t1 t2
 refine Ev.bind (v := e != 0) (Ev.bind pb ?_) ?_
 ·rw [hb]
  refine Qz (Ev.bind (v := ()) (Qa _) (Qz (Ev.bind he2 (Qa _))))
 cases h0 : (e != 0) with
 | true => exact Qa _
 | false =>
  simp only [cond_false]
  refine Ev.bind (QcE e c l (by omega) he) (Ev.bind (Qi8 e c l (by omega) he) ?_)
  have hsl := QfL e c l
  have hpl := Qg0 (startF e c l) l
  generalize startF e c l = st at *
  refine Ev.bind (v := (st.2 != 0) || ((pairF st l).2 != 0)) (Ev.or fun _ => Qa _) ?_
  unfold pairF at *
  cases k0 : (st.2 != 0) with
  | true =>
   simp only [Bool.true_or, cond_true, beq_self_eq_true]
   exact Qa _
  | false =>
   rw [k0] at hpl
   simp only [cond_false, Bool.false_or, bne_self_eq_false] at *
   have hs := Qen (QfS (st.1.map (·.Bib)) l)
   have hlen : (sortP ((metS (st.1.map (·.Bib)) l).map Prod.fst)).length = (metS (st.1.map (·.Bib)) l).length := by rw [(QaY _).length_eq, List.length_map]
   have hmem : ∀ p, p ∈ sortP ((metS (st.1.map (·.Bib)) l).map Prod.fst) ↔ ∃ f ∈ l, okP (st.1.map (·.Bib)) f = true /\ f.Pair = p := by
    intro p
    rw [(QaY _).mem_iff, (Qb0 _ l).2]
   generalize sortP ((metS (st.1.map (·.Bib)) l).map Prod.fst) = P at *
   have hok : ∀ f, okP (st.1.map (·.Bib)) f = ((f.Kind == 7) && (validS f && (knowsB st.1 f.Pair.A && knowsB st.1 f.Pair.B))) := by
    intro f; rw [Qd0, Qd0]; rfl
   refine Ev.bind (v := (Ctl.cont st.1 : Ctl (List Starter) Bool)) ?_ ?_
   ·refine Ev.iter (fun i => (st.1, (i : Int))) P.length rfl (fun i hi => ?_) ?_
    ·have ha := Ys (x := P[i]) (show P.length <= 4611686018427387904 by omega) (List.getElem?_eq_getElem hi)
     have hord : (bif decide ((0 : Int) < (i : Int)) then (idx P (IntKind.i64.wrap ((i : Int) - 1))).bind fun x97 => (bif decide (P[i].A < x97.A) then some true else (idx P (IntKind.i64.wrap ((i : Int) - 1))).bind fun x99 => (bif (x99.A == P[i].A) then (idx P (IntKind.i64.wrap ((i : Int) - 1))).bind fun x101 => some (decide (P[i].B <= x101.B)) else some false)) else some false) = some false := by
      by_cases h0 : i = 0
      ·subst h0; rfl
      ·rw [QJ (show (0 : Int) < (i : Int) by omega), QD (by omega) (by omega)]
       have e : ((i : Int) - 1) = ((i - 1 : Nat) : Int) := by omega
       have hg : P[i - 1]? = some P[i - 1] := List.getElem?_eq_getElem (by omega)
       rw [e, Qa2 hg]
       have := List.pairwise_iff_getElem.1 hs (i - 1) i (by omega) hi (by omega)
       simp only [cond_true, Option.bind_some]
       unfold ltP at this
       rw [QF (show ¬ P[i].A < P[i - 1].A by omega)]
       simp only [cond_false]
       by_cases z : P[i - 1].A = P[i].A
       ·rw [beq_iff_eq.2 z, QF (show ¬ P[i].B <= P[i - 1].B by omega)]; rfl
       ·rw [beq_eq_false_iff_ne.2 z]; rfl
     generalize P[i] = y at ha hord
     obtain ⟨f, f1, f2, f3⟩ := (hmem y).1 ha.mem
     have f2' := f2
     rw [hok] at f2
     simp only [Bool.and_eq_true] at f2
     rw [f3] at f2
     have hab := QfJ f2.2.1 f2.1
     rw [f3] at hab
     unfold F_hz
     simp only [ha.lt, cond_true, ha.ix, Option.bind_some, ha.nx]
     refine Ev.bind (v := false) ?_ (Qa _)
     refine Ev.bind (Qb4 st.1 y.A (by omega)) ?_
     rw [f2.2.2.1]
     refine Qz (Ev.bind (Qb4 st.1 y.B (by omega)) ?_)
     rw [f2.2.2.2, QF (show ¬ y.B <= y.A by omega)]
     refine Qz (Qz ?_)
     exact Ev.const hord
    ·unfold F_hz
     simp only [Ye, cond_false]
     exact Qa _
   ·simp only
    refine Ev.bind (v := (Ctl.cont (((metS (st.1.map (·.Bib)) l).length : Nat) : Int) : Ctl Int Bool)) ?_ ?_
    ·refine Ev.iter (fun i => ((((metS (st.1.map (·.Bib)) (l.take i)).length : Nat) : Int), (i : Int))) l.length (by simp [metS]) (fun i hi => ?_) ?_
     ·have ha := Ys (x := l[i]) (show l.length <= 4611686018427387904 by omega) (List.getElem?_eq_getElem hi)
      generalize l[i] = g at ha
      have hm1 := (Qb0 (st.1.map (·.Bib)) (l.take i)).1
      have hm2 := (Qb0 (st.1.map (·.Bib)) (l.take i)).2
      rw [List.length_take] at hm1
      unfold F_hy
      simp only [ha.lt, cond_true, ha.ix, Option.bind_some, ha.nx]
      rw [ha.take, Qg3]
      refine Ev.bind (v := (Ctl.cont (((stepP (st.1.map (·.Bib)) (metS (st.1.map (·.Bib)) (l.take i)) g).length : Nat) : Int) : Ctl Int (Ctl (Int × Int) (Ctl Int Bool)))) ?_ (Qa _)
      refine Ev.bind (v := !okP (st.1.map (·.Bib)) g) ?_ ?_
      ·rw [hok]
       unfold bne
       cases (g.Kind == 7) with
       | false => exact Qa _
       | true =>
        simp only [Bool.not_true, cond_false, Bool.true_and]
        refine Ev.bind (Qae g) ?_
        cases validS g with
        | false => exact Qa _
        | true =>
         refine Qz (Ev.bind (Qb4 st.1 g.Pair.A (by omega)) ?_)
         cases knowsB st.1 g.Pair.A with
         | false => exact Qa _
         | true => exact Qz (Ev.bind (Qb4 st.1 g.Pair.B (by omega)) (Qa _))
      ·cases ho : okP (st.1.map (·.Bib)) g with
       | false =>
        unfold stepP
        rw [ho]
        exact Qa _
       | true =>
        have hle : i <= l.length := by omega
        simp only [Bool.not_true, cond_false, Qlo l hle, Option.bind_some]
        refine Ev.bind (v := !((l.take i).any (isPair g.Pair))) ?_ ?_
        ·have hfold : ∀ (m : List Fact) (a : Bool), m.foldl (fun a f => a && !(isPair g.Pair f)) a = (a && !(m.any (isPair g.Pair))) := by
          intro m
          induction m with
          | nil => intro a; simp
          | cons s m ih => intro a; rw [List.foldl_cons, ih, List.any_cons, Bool.not_or, Bool.and_assoc]
         refine Ev.eq (QT (l.take i) (fun a f => a && !(isPair g.Pair f)) true (fun a i => (a, (i : Int))) (fun a => a) (by rw [List.length_take]; omega) rfl (fun j f a hb _ => ?_) ?_) (by rw [hfold]; simp)
         ·unfold F_hr
          simp only [hb.lt, cond_true, hb.ix, Option.bind_some, hb.nx]
          refine Ev.bind (v := a && !(isPair g.Pair f)) ?_ (Qa _)
          unfold isPair
          cases a with
          | false => exact Qa _
          | true =>
           cases (f.Kind == 7) with
           | false => exact Qa _
           | true =>
            cases (f.Pair == g.Pair) with
            | false => exact Qa _
            | true =>
             refine QdJ (QdJ (QdJ (Ev.bind (Qae f) ?_)))
             cases validS f <;> exact Qa _
         ·unfold F_hr
          simp only [Ye, cond_false]
          exact Qa _
        ·refine Ev.bind (v := (((stepP (st.1.map (·.Bib)) (metS (st.1.map (·.Bib)) (l.take i)) g).length : Nat) : Int)) ?_ ?_
         ·
          have hany : (l.take i).any (isPair g.Pair) = decide (g.Pair ∈ (metS (st.1.map (·.Bib)) (l.take i)).map Prod.fst) := by
           rw [Bool.eq_iff_iff, List.any_eq_true, decide_eq_true_eq, hm2]
           have ho' := ho
           rw [hok] at ho'
           simp only [Bool.and_eq_true] at ho'
           constructor
           ·rintro ⟨f, f1, f2⟩
            unfold isPair at f2
            simp only [Bool.and_eq_true, beq_iff_eq] at f2
            refine ⟨f, f1, ?_, f2.2.1⟩
            rw [hok, f2.2.2, f2.2.1, ho'.2.2.1, ho'.2.2.2, f2.1]; rfl
           ·rintro ⟨f, f1, f2, f3⟩
            refine ⟨f, f1, ?_⟩
            rw [hok] at f2
            simp only [Bool.and_eq_true] at f2
            unfold isPair
            rw [f2.1, f3, f2.2.1]; simp
          have hk : (mset (metS (st.1.map (·.Bib)) (l.take i)) g.Pair true).map Prod.fst = if g.Pair ∈ (metS (st.1.map (·.Bib)) (l.take i)).map Prod.fst then (metS (st.1.map (·.Bib)) (l.take i)).map Prod.fst else (metS (st.1.map (·.Bib)) (l.take i)).map Prod.fst ++ [g.Pair] := Qar _ g.Pair true
          have hk2 := congrArg List.length hk
          rw [List.length_map] at hk2
          unfold stepP
          rw [ho, cond_true, hk2, hany]
          by_cases z : g.Pair ∈ (metS (st.1.map (·.Bib)) (l.take i)).map Prod.fst
          ·rw [QJ z, if_pos z, List.length_map]; exact Qa _
          ·rw [QF z, if_neg z, List.length_append, List.length_map, List.length_singleton]
           refine (Qa _).eq ?_
           exact Q4 (by omega)
         ·refine Ev.bind (v := true) ?_ (Qa _)
          have hfold : ∀ (m : List Pair) (a : Bool), m.foldl (fun a f => a || (f == g.Pair)) a = (a || m.any fun f => f == g.Pair) := by
           intro m
           induction m with
           | nil => intro a; simp
           | cons s m ih => intro a; rw [List.foldl_cons, ih, List.any_cons, Bool.or_assoc]
          have hin : (P.any fun f => f == g.Pair) = true := by
           rw [List.any_eq_true]
           exact ⟨g.Pair, (hmem _).2 ⟨g, ha.mem, ho, rfl⟩, by simp⟩
          refine Ev.eq (QT P (fun a f => a || (f == g.Pair)) false (fun a i => (a, (i : Int))) (fun a => a) (by omega) rfl (fun j f a hb _ => ?_) ?_) (by rw [hfold, hin]; rfl)
          ·unfold F_hq
           simp only [hb.lt, cond_true, hb.ix, Option.bind_some, hb.nx]
           cases a <;> exact Qa _
          ·unfold F_hq
           simp only [Ye, cond_false]
           exact Qa _
     ·unfold F_hy
      simp only [Ye, cond_false, List.take_length]
      exact Qa _
    ·simp only
     rw [hlen, beq_self_eq_true]
     exact Qa _
end Go.Sw
