/- typing.Course is the reference's Course, where a course is small. -/
import Derived.Test.YtjikdlekkmifhaaGreatPTx
set_option linter.unusedVariables false
set_option linter.unusedSimpArgs false
namespace Go.Sw
theorem wrapN {a b : Nat} (h : a + b ≤ 4611686018427387904) : IntKind.i64.wrap ((a : Int) + (b : Int)) = ((a + b : Nat) : Int) := by
 rw [wrap64 (by omega) (by omega)]; omega
def lensC (c : Course) : Nat := c.Mats.length + c.Legs.length + c.Distances.length + c.Waves.length + c.Offences.length + c.Categories.length + c.Prizes.length
def fewD (d : Distance) : Prop := d.Cutoffs.length ≤ 200 ∧ szPs d.Route ≤ 200 ∧ hPs d.Route ≤ 16
structure FewOk (c : Course) : Prop where
 lens : lensC c ≤ 200
 name : c.Name.length ≤ 100
 dist : ∀ d ∈ c.Distances, fewD d
 ties : c.Ties.length ≤ 20
theorem ev_FewCourse (c : Course) (w : CourseOk c) (q : PartsOk c) (hl : c.Ties.length ≤ 1048576) (hw : ∀ x ∈ c.Ties, Step.wf x) : ∃ b, Ev (fun n => F_ar n c) b ∧ (b = true → FewOk c) := by
 have hm := w.mats
 have hg := w.legs
 have hd := w.dist
 have hv := w.wave
 have ho := w.off
 have hc := w.cat
 have hp := w.prize
 have loop : ∀ (t : List Distance) (i s : Nat), c.Distances.drop i = t → i ≤ c.Distances.length → ∃ res : Ctl Int Bool, EvI (fun n => F_ba n c) ((s : Int), (i : Int)) res ∧ (res = .done false ∨ ∃ v : Nat, res = .cont (v : Int) ∧ (v ≤ 200 → s ≤ v ∧ ∀ d ∈ t, fewD d)) := by
  intro t
  induction t with
  | nil =>
   intro i s ht hi
   refine ⟨.cont (s : Int), EvI.done ?_, Or.inr ⟨s, rfl, fun _ => ⟨Nat.le_refl _, by simp⟩⟩⟩
   unfold F_ba
   simp only [end_drop ht hi, cond_false, Option.bind_some]
   exact Ev.pure _
  | cons d t ih =>
   intro i s ht hi
   obtain ⟨ha, ht'⟩ := At.of_drop (by omega) ht
   have hlt := ha.lt'
   by_cases hs : s ≤ 200
   ·have hlen := q.len d ha.mem
    have hwf := q.wf d ha.mem
    have hcut := w.cut d ha.mem
    have p1 := ev_refCount _ d.Route (Nat.le_refl _) hlen hwf
    have p2 := ev_refDepth _ d.Route 17 (Nat.le_refl _) (Nat.le_refl _) hlen hwf
    have e1 : IntKind.i64.wrap ((s : Int) + (d.Cutoffs.length : Int)) = ((s + d.Cutoffs.length : Nat) : Int) := wrapN (by omega)
    have e2 : IntKind.i64.wrap (((s + d.Cutoffs.length : Nat) : Int) + ((min (szPs d.Route) 257 : Nat) : Int)) = ((s + d.Cutoffs.length + min (szPs d.Route) 257 : Nat) : Int) := wrapN (by omega)
    have step : Ev (fun n => F_ba n c ((s : Int), (i : Int))) (bif decide ((16 : Int) < ((min (hPs d.Route) 17 : Nat) : Int)) then .done (.done false) else .cont (((s + d.Cutoffs.length + min (szPs d.Route) 257 : Nat) : Int), ((i + 1 : Nat) : Int))) := by
     unfold F_ba
     simp only [ha.lt, cond_true, ha.ix, Option.bind_some, ha.nx, decT (show (s : Int) ≤ 200 by omega)]
     refine Ev.bind p1 (Ev.bind p2 ?_)
     rw [e1, e2]
     cases decide ((16 : Int) < ((min (hPs d.Route) 17 : Nat) : Int)) <;> exact Ev.pure _
    by_cases hh : hPs d.Route ≤ 16
    ·rw [decF (show ¬ (16 : Int) < ((min (hPs d.Route) 17 : Nat) : Int) by omega)] at step
     obtain ⟨res, k1, k2⟩ := ih (i + 1) (s + d.Cutoffs.length + min (szPs d.Route) 257) ht' (by omega)
     refine ⟨res, EvI.cont step k1, ?_⟩
     rcases k2 with k2 | ⟨v, k2, k3⟩
     ·exact Or.inl k2
     ·refine Or.inr ⟨v, k2, fun hv => ?_⟩
      obtain ⟨k4, k5⟩ := k3 hv
      refine ⟨by omega, fun x hx => ?_⟩
      rcases List.mem_cons.1 hx with rfl | hx
      ·exact ⟨by omega, by omega, hh⟩
      ·exact k5 x hx
    ·rw [decT (show (16 : Int) < ((min (hPs d.Route) 17 : Nat) : Int) by omega)] at step
     exact ⟨.done false, EvI.done step, Or.inl rfl⟩
   ·refine ⟨.cont (s : Int), EvI.done ?_, Or.inr ⟨s, rfl, fun h => absurd h hs⟩⟩
    unfold F_ba
    simp only [ha.lt, cond_true, decF (show ¬ (s : Int) ≤ 200 by omega), Option.bind_some, cond_false]
    exact Ev.pure _
 obtain ⟨res, k1, k2⟩ := loop c.Distances 0 (lensC c) rfl (Nat.zero_le _)
 have e : IntKind.i64.wrap ((IntKind.i64.wrap ((IntKind.i64.wrap ((IntKind.i64.wrap ((IntKind.i64.wrap ((IntKind.i64.wrap ((c.Mats.length : Int) + (c.Legs.length : Int))) + (c.Distances.length : Int))) + (c.Waves.length : Int))) + (c.Offences.length : Int))) + (c.Categories.length : Int))) + (c.Prizes.length : Int)) = (lensC c : Int) := by
  have h1 : c.Mats.length + c.Legs.length ≤ 4611686018427387904 := by omega
  have h2 : c.Mats.length + c.Legs.length + c.Distances.length ≤ 4611686018427387904 := by omega
  have h3 : c.Mats.length + c.Legs.length + c.Distances.length + c.Waves.length ≤ 4611686018427387904 := by omega
  have h4 : c.Mats.length + c.Legs.length + c.Distances.length + c.Waves.length + c.Offences.length ≤ 4611686018427387904 := by omega
  have h5 : c.Mats.length + c.Legs.length + c.Distances.length + c.Waves.length + c.Offences.length + c.Categories.length ≤ 4611686018427387904 := by omega
  have h6 : c.Mats.length + c.Legs.length + c.Distances.length + c.Waves.length + c.Offences.length + c.Categories.length + c.Prizes.length ≤ 4611686018427387904 := by omega
  rw [wrapN h1, wrapN h2, wrapN h3, wrapN h4, wrapN h5, wrapN h6]
  rfl
 unfold F_ar
 rw [e]
 rcases k2 with rfl | ⟨v, rfl, k3⟩
 ·exact ⟨false, Ev.bind k1.ev (Ev.pure _), fun h => by cases h⟩
 ·obtain ⟨a, b, p1, p2, p3, _, _, _, _⟩ := ev_size _ c.Ties 0 (Nat.le_refl _) (by omega) hl hw
  have hfew : Ev (fun n => F_as n c.Ties) (decide ((c.Ties.length : Int) ≤ 20) && (decide (a ≤ 80) && decide (b ≤ 300))) := by
   unfold F_as
   exact Ev.bind p1 (Ev.bind (Ev.and fun _ => Ev.and fun _ => Ev.pure _) (Ev.pure _))
  refine ⟨decide ((v : Int) ≤ 200) && (decide ((c.Name.length : Int) ≤ 100) && (decide ((c.Ties.length : Int) ≤ 20) && (decide (a ≤ 80) && decide (b ≤ 300)))), Ev.bind k1.ev (Ev.bind (Ev.and fun _ => Ev.and fun _ => Ev.bind hfew (Ev.pure _)) (Ev.pure _)), fun h => ?_⟩
  simp only [Bool.and_eq_true, decide_eq_true_eq] at h
  obtain ⟨k4, k5⟩ := k3 (by omega)
  exact ⟨by omega, by omega, k5, by omega⟩
def fitsS (c : Course) : Bool :=
 !(decide (40 < (c.Mats.length : Int)) || (decide (512 < (c.Legs.length : Int)) || (decide (8 < (c.Distances.length : Int)) || (decide (32 < (c.Waves.length : Int)) || (decide (32 < (c.Offences.length : Int)) || (decide (32 < (c.Categories.length : Int)) || decide (32 < (c.Prizes.length : Int))))))))
  && c.Distances.all fun d => !decide (64 < (d.Cutoffs.length : Int))
theorem ev_fits (c : Course) (w : CourseOk c) (q : PartsOk c) (k : FewOk c) : Ev (fun n => F_cu n c) (fitsS c) := by
 unfold F_cu fitsS
 refine Ev.bind (Ev.or fun _ => Ev.or fun _ => Ev.or fun _ => Ev.or fun _ => Ev.or fun _ => Ev.or fun _ => Ev.pure _) ?_
 cases (decide (40 < (c.Mats.length : Int)) || (decide (512 < (c.Legs.length : Int)) || (decide (8 < (c.Distances.length : Int)) || (decide (32 < (c.Waves.length : Int)) || (decide (32 < (c.Offences.length : Int)) || (decide (32 < (c.Categories.length : Int)) || decide (32 < (c.Prizes.length : Int)))))))) with
 | true => exact Ev.pure _
 | false =>
  rw [Bool.not_false, Bool.true_and]
  refine Ev.ff (Ev.bind (Ev.checks c.Distances (fun d => !decide (64 < (d.Cutoffs.length : Int))) (Ctl.done false) (Ctl.cont ()) (by have := w.dist; omega) (fun i x ha => ?_) ?_) ?_)
  ·obtain ⟨f1, f2, f3⟩ := k.dist x ha.mem
   unfold F_hk
   simp only [ha.lt, cond_true, ha.ix, Option.bind_some, ha.nx]
   refine Ev.bind (ev_depth _ x.Route 17 (Nat.le_refl _) (by omega) (Nat.le_refl _) (by omega) (q.wf x ha.mem)) ?_
   refine Ev.bind (Ev.or fun _ => Ev.or fun _ => Ev.pure _) ?_
   simp only [decF (show ¬ (16 : Int) < (hPs x.Route : Int) by omega), decF (show ¬ (256 : Int) < (szPs x.Route : Int) by omega), Bool.or_false]
   cases decide (64 < (x.Cutoffs.length : Int)) <;> exact Ev.pure _
  ·unfold F_hk
   simp only [end_, cond_false]
   exact Ev.pure _
  ·cases (c.Distances.all fun d => !decide (64 < (d.Cutoffs.length : Int))) <;> exact Ev.pure _
theorem ev_counts (c : Course) (w : CourseOk c) (q : PartsOk c) (k : FewOk c) : Ev (fun n => F_bg n c) (fitsS c) := by
 unfold F_bg fitsS
 refine Ev.bind (Ev.or fun _ => Ev.or fun _ => Ev.or fun _ => Ev.or fun _ => Ev.or fun _ => Ev.or fun _ => Ev.pure _) ?_
 cases (decide (40 < (c.Mats.length : Int)) || (decide (512 < (c.Legs.length : Int)) || (decide (8 < (c.Distances.length : Int)) || (decide (32 < (c.Waves.length : Int)) || (decide (32 < (c.Offences.length : Int)) || (decide (32 < (c.Categories.length : Int)) || decide (32 < (c.Prizes.length : Int)))))))) with
 | true => exact Ev.pure _
 | false =>
  rw [Bool.not_false, Bool.true_and]
  refine Ev.ff (Ev.bind (Ev.checks c.Distances (fun d => !decide (64 < (d.Cutoffs.length : Int))) (Ctl.done false) (Ctl.cont ()) (by have := w.dist; omega) (fun i x ha => ?_) ?_) ?_)
  ·obtain ⟨f1, f2, f3⟩ := k.dist x ha.mem
   have hlen := q.len x ha.mem
   have hwf := q.wf x ha.mem
   unfold F_gx
   simp only [ha.lt, cond_true, ha.ix, Option.bind_some, ha.nx]
   refine Ev.bind (Ev.or fun _ => Ev.bind (ev_refDepth _ x.Route 17 (Nat.le_refl _) (Nat.le_refl _) hlen hwf) (Ev.or fun _ => Ev.bind (ev_refCount _ x.Route (Nat.le_refl _) hlen hwf) (Ev.pure _))) ?_
   simp only [decF (show ¬ (16 : Int) < ((min (hPs x.Route) 17 : Nat) : Int) by omega), decF (show ¬ (256 : Int) < ((min (szPs x.Route) 257 : Nat) : Int) by omega), Bool.or_false]
   cases decide (64 < (x.Cutoffs.length : Int)) <;> exact Ev.pure _
  ·unfold F_gx
   simp only [end_, cond_false]
   exact Ev.pure _
  ·cases (c.Distances.all fun d => !decide (64 < (d.Cutoffs.length : Int))) <;> exact Ev.pure _
def courseE (c : Course) : Int :=
 bif fitsS c then bif namesS c then bif numbersS c then bif tiesE c.Ties == 0 then bif c.Distances.all (routeS c) then 0 else 72 else tiesE c.Ties else 71 else 70 else 2
theorem ev_Course (c : Course) (w : CourseOk c) (q : PartsOk c) (k : FewOk c) (hl : c.Ties.length ≤ 1048576) (hw : ∀ x ∈ c.Ties, Step.wf x) : Ev (fun n => F_cz n c) (courseE c) := by
 unfold F_cz courseE
 refine Ev.bind (ev_fits c w q k) ?_
 cases fitsS c with
 | false => exact Ev.pure _
 | true =>
 refine Ev.ff (Ev.bind (ev_names c w) ?_)
 cases namesS c with
 | false => exact Ev.pure _
 | true =>
 refine Ev.ff (Ev.bind (ev_numbers c w q) ?_)
 cases hn : numbersS c with
 | false => exact Ev.pure _
 | true =>
 refine Ev.ff (Ev.bind (ev_Ties c.Ties hl hw) ?_)
 rw [bne]
 cases (tiesE c.Ties == 0) with
 | false => exact Ev.pure _
 | true =>
 have hs : Ev (fun n => iter (F_fs n c) n ([], 0)) (msetAll legKey true c.Legs) := by
  refine Ev.gatherSet c.Legs legKey true (by have := w.legs; omega) (fun i x m ha => ?_) (fun m => ?_)
  ·unfold F_fs
   simp only [ha.lt, cond_true, ha.ix, Option.bind_some, ha.nx]
   exact Ev.pure _
  ·unfold F_fs
   simp only [end_, cond_false]
   exact Ev.pure _
 refine Ev.ff (Ev.bind hs ?_)
 have ha : Ev (fun n => F_bb n c.Distances c (msetAll legKey true c.Legs)) (c.Distances.all (routeS c)) := by
  unfold F_bb F_df F_da
  refine Ev.allC c.Distances _ (fun n x => F_cw n x c (msetAll legKey true c.Legs)) (by have := w.dist; omega) fun x hx => ?_
  unfold F_cw
  exact Ev.bind (ev_isRoute c w (NumOk.of hn) x hx (q.wf x hx) (by have := (k.dist x hx).2.1; omega)) (Ev.pure _)
 refine Ev.bind ha ?_
 cases c.Distances.all (routeS c) <;> exact Ev.pure _
theorem ev_refCourse (c : Course) (w : CourseOk c) (q : PartsOk c) (k : FewOk c) (hl : c.Ties.length ≤ 1048576) (hw : ∀ x ∈ c.Ties, Step.wf x) : Ev (fun n => F_ce n c) (courseE c) := by
 have hlens := k.lens
 unfold lensC at hlens
 have sh : Short c := ⟨by omega, by omega, by omega, by omega, by omega⟩
 unfold F_ce courseE
 refine Ev.bind (ev_counts c w q k) ?_
 cases fitsS c with
 | false => exact Ev.pure _
 | true =>
 refine Ev.ff (Ev.bind (ev_refNamed c w sh) ?_)
 cases namesS c with
 | false => exact Ev.pure _
 | true =>
 refine Ev.ff (Ev.bind (ev_refRanges c w q) ?_)
 cases hn : numbersS c with
 | false => exact Ev.pure _
 | true =>
 refine Ev.ff (Ev.bind (ev_refTies c.Ties hl hw) ?_)
 rw [bne]
 cases (tiesE c.Ties == 0) with
 | false => exact Ev.pure _
 | true =>
 refine Ev.ff (Ev.bind (Ev.checks c.Distances (routeS c) (Ctl.done 72) (Ctl.cont ()) (by have := w.dist; omega) (fun i x ha => ?_) ?_) ?_)
 ·unfold F_he
  simp only [ha.lt, cond_true, ha.ix, Option.bind_some, ha.nx]
  refine Ev.bind (ev_refRoute c w (NumOk.of hn) x ha.mem (q.wf x ha.mem) (by have := (k.dist x ha.mem).2.1; omega)) ?_
  cases routeS c x <;> exact Ev.pure _
 ·unfold F_he
  simp only [end_, cond_false]
  exact Ev.pure _
 ·cases c.Distances.all (routeS c) <;> exact Ev.pure _
end Go.Sw
