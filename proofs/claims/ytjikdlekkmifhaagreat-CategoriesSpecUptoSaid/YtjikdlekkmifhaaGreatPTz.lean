/- typing.Course and the reference's Course: numbers. -/
import Derived.Test.YtjikdlekkmifhaaGreatPTy
set_option linter.unusedVariables false
set_option linter.unusedSimpArgs false
namespace Go.Sw
theorem wrap_len {n : Nat} (h : n ≤ 1048576) : IntKind.i64.wrap ((n : Int) - 1) = (n : Int) - 1 := wrap64 (by omega) (by omega)
theorem ev_in (x lo hi : Int) : Ev (fun n => F_b n x lo hi) (inR lo hi x) := by
 unfold F_b inR
 exact Ev.bind (Ev.and fun _ => Ev.pure _) (Ev.pure _)
theorem ev_mat (c : Course) (w : CourseOk c) (x : Int) : Ev (fun n => F_g n c x) (inR 0 ((c.Mats.length : Int) - 1) x) := by
 unfold F_g
 rw [wrap_len w.mats]
 exact Ev.bind (ev_in _ _ _) (Ev.pure _)
mutual
def szP : Part → Nat
 | ⟨_, _, ps⟩ => 1 + szPs ps
def szPs : List Part → Nat
 | [] => 0
 | p :: r => szP p + szPs r
end
theorem szP_eq (p : Part) : szP p = 1 + szPs p.Parts := by cases p; rfl
theorem szPs_mem {p : Part} : ∀ {l : List Part}, p ∈ l → szP p ≤ szPs l
 | q :: r, h => by
  simp only [szPs]
  rcases List.mem_cons.1 h with rfl | h
  ·omega
  ·have := szPs_mem h; omega
mutual
def partS (k : Int) : Part → Bool
 | ⟨m, laps, ps⟩ => bif laps == 0 then inR 0 k m && ((ps.length : Int) == 0) else inR 1 64 laps && ((m == 0) && (decide (0 < (ps.length : Int)) && partsS k ps))
def partsS (k : Int) : List Part → Bool
 | [] => true
 | p :: r => partS k p && partsS k r
end
theorem partS_eq (k : Int) (p : Part) : partS k p = bif p.Laps == 0 then inR 0 k p.Mat && ((p.Parts.length : Int) == 0) else inR 1 64 p.Laps && ((p.Mat == 0) && (decide (0 < (p.Parts.length : Int)) && partsS k p.Parts)) := by cases p; rfl
theorem partsS_eq (k : Int) : ∀ l : List Part, partsS k l = l.all (partS k)
 | [] => rfl
 | p :: r => by simp only [partsS, List.all_cons, partsS_eq k r]
theorem Part.wf_parts {p : Part} (h : Part.wf p) : p.Parts.length ≤ 1048576 ∧ ∀ x ∈ p.Parts, Part.wf x := by
 cases p
 simp only [Part.wf, Part.wfs_iff] at h
 exact h.2.2.1
theorem ev_within1 (lo hi x : Int) : Ev (fun n => F_a n lo hi [x]) (inR lo hi x) := (ev_within lo hi [x] (by simp)).eq (by simp)
theorem ev_within2 (lo hi x y : Int) : Ev (fun n => F_a n lo hi [x, y]) (inR lo hi x && inR lo hi y) := (ev_within lo hi [x, y] (by simp)).eq (by simp)
theorem ev_parts (k : Int) : ∀ (m : Nat) (l : List Part), szPs l ≤ m → l.length ≤ 1048576 → (∀ x ∈ l, Part.wf x) → Ev (fun n => F_i n l k) (partsS k l) := by
 intro m
 induction m with
 | zero =>
  intro l hm hl hw
  cases l with
  | nil =>
   refine Ev.succ ?_
   show Ev (fun n => B_i (F_i n) n [] k) _
   unfold B_i F_cl F_cp
   exact Ev.allC [] (partS k) (fun n x => F_am (F_i n) n x k) (by simp) (by simp)
  | cons p r =>
   exfalso
   simp only [szPs, szP_eq] at hm
   omega
 | succ m ih =>
  intro l hm hl hw
  refine Ev.succ ?_
  show Ev (fun n => B_i (F_i n) n l k) _
  unfold B_i F_cl F_cp
  rw [partsS_eq]
  refine Ev.allC l (partS k) (fun n x => F_am (F_i n) n x k) (by omega) fun p hp => ?_
  unfold F_am
  rw [partS_eq]
  have h1 := szPs_mem hp
  rw [szP_eq] at h1
  obtain ⟨w1, w2⟩ := Part.wf_parts (hw p hp)
  refine Ev.bif (fun _ => ?_) (fun _ => ?_)
  ·exact Ev.bind (Ev.bind (ev_within1 _ _ _) (Ev.and fun _ => Ev.pure _)) (Ev.pure _)
  ·exact Ev.bind (Ev.bind (ev_within1 _ _ _) (Ev.and fun _ => Ev.and fun _ => Ev.and fun _ => Ev.bind (ih p.Parts (by omega) w1 w2) (Ev.pure _))) (Ev.pure _)
theorem ev_partly (c : Course) (w : CourseOk c) : ∀ (m : Nat) (l : List Part), szPs l ≤ m → l.length ≤ 1048576 → (∀ x ∈ l, Part.wf x) → Ev (fun n => F_n n c l) (partsS ((c.Mats.length : Int) - 1) l) := by
 intro m
 induction m with
 | zero =>
  intro l hm hl hw
  cases l with
  | nil =>
   refine Ev.succ ?_
   show Ev (fun n => B_n (F_n n) n c []) _
   unfold B_n
   exact ⟨1, fun n hn => by obtain ⟨k, rfl⟩ : ∃ k, n = k + 1 := ⟨n - 1, by omega⟩; rfl⟩
  | cons p r =>
   exfalso
   simp only [szPs, szP_eq] at hm
   omega
 | succ m ih =>
  intro l hm hl hw
  refine Ev.succ ?_
  show Ev (fun n => B_n (F_n n) n c l) _
  unfold B_n
  rw [partsS_eq]
  have step : ∀ (i : Nat) (x : Part), At l i x → Ev (fun n => F_gm n c l (F_n n) (i : Int)) (bif partS ((c.Mats.length : Int) - 1) x then .cont ((i + 1 : Nat) : Int) else .done (.done false)) := by
   intro i x ha
   unfold F_gm
   simp only [ha.lt, cond_true, ha.ix, Option.bind_some, ha.nx]
   have h1 := szPs_mem ha.mem
   rw [szP_eq] at h1
   obtain ⟨w1, w2⟩ := Part.wf_parts (hw x ha.mem)
   refine Ev.bind (Ev.and fun _ => Ev.bind (ev_mat c w _) (Ev.and fun _ => Ev.pure _)) ?_
   refine Ev.bind (Ev.bind (ev_in _ _ _) (Ev.and fun _ => Ev.and fun _ => Ev.and fun _ => Ev.bind (ih x.Parts (by omega) w1 w2) (Ev.pure _))) ?_
   rw [partS_eq]
   cases h0 : (x.Laps == 0) with
   | true =>
    have e0 : x.Laps = 0 := by simpa using h0
    simp only [cond_true, Bool.true_and]
    have : inR 1 64 x.Laps = false := by rw [e0]; rfl
    rw [this]
    simp only [Bool.false_and, Bool.not_false]
    generalize (inR 0 ((c.Mats.length : Int) - 1) x.Mat && ((x.Parts.length : Int) == 0)) = b
    cases b <;> exact Ev.pure _
   | false =>
    simp only [cond_false, Bool.false_and, Bool.not_false, cond_true]
    generalize (inR 1 64 x.Laps && ((x.Mat == 0) && (decide (0 < (x.Parts.length : Int)) && partsS ((c.Mats.length : Int) - 1) x.Parts))) = b
    cases b <;> exact Ev.pure _
  refine Ev.bind (Ev.iter_any l (fun x => !partS ((c.Mats.length : Int) - 1) x) (fun i => (i : Int)) (Ctl.done false) (Ctl.cont ()) (by omega) rfl (fun i x ha hq => ?_) (fun i x ha hq => ?_) ?_) ?_
  ·refine (step i x ha).eq ?_
   have : partS ((c.Mats.length : Int) - 1) x = true := by simpa using hq
   rw [this]; rfl
  ·refine (step i x ha).eq ?_
   have : partS ((c.Mats.length : Int) - 1) x = false := by simpa using hq
   rw [this]; rfl
  ·unfold F_gm
   simp only [end_, cond_false]
   exact Ev.pure _
  ·have e : l.any (fun x => !partS ((c.Mats.length : Int) - 1) x) = !l.all (partS ((c.Mats.length : Int) - 1)) := by rw [List.not_all_eq_any_not]
   rw [e]
   cases l.all (partS ((c.Mats.length : Int) - 1)) <;> exact Ev.pure _
def legS (k : Int) (l : Leg) : Bool := (inR 0 k l.From && inR 0 k l.To) && ((inR 0 68719476736 l.Min && inR 0 68719476736 l.Max) && decide (l.Min ≤ l.Max))
def cutS (k : Int) (x : Cutoff) : Bool := inR 0 k x.Mat && (decide (1 ≤ x.Lap) && inR 0 1099511627776 x.Limit)
def distS (k : Int) (d : Distance) : Bool := inR 1 3 d.Timing && (inR (-1) k d.Extra && (partsS k d.Route && d.Cutoffs.all (cutS k)))
def offS (o : Offence) : Bool := bif o.Out then (o.Time == 0) && (o.Laps == 0) else bif o.Laps != 0 then (o.Time == 0) && inR 1 64 o.Laps else inR 0 68719476736 o.Time
def catS (x : Category) : Bool := (inR 0 120 x.From && inR 0 120 x.To) && decide (x.From ≤ x.To)
def prizeS (c : Course) (p : Prize) : Bool := inR 0 ((c.Distances.length : Int) - 1) p.Distance && (inR (-1) ((c.Categories.length : Int) - 1) p.Category && (inR 1 4000 p.Rank && inR 1 1125899906842624 p.Amount))
def lastS (c : Course) : Bool := (inR 0 16 c.Faults.Misses && inR 0 16 c.Faults.Strays) && ((inR 0 4294967296 c.Faults.Window && inR 0 4294967296 c.Faults.Residual) && (inR 0 100000 c.Faults.Drift && (inR 0 1125899906842624 c.Fee && inR 0 1099511627776 c.Deadline)))
def legKey (l : Leg) : typing_ends := { from_ := l.From, to_ := l.To }
def prizeKey (p : Prize) : typing_place := { distance := p.Distance, category := p.Category, rank := p.Rank }
def numbersS (c : Course) : Bool :=
 let k := (c.Mats.length : Int) - 1
 c.Mats.all (fun m => inR 1 3 m.Kind) && (c.Legs.all (legS k) && (decide ((c.Legs.map legKey).Nodup) && (c.Distances.all (distS k) && (c.Waves.all (fun w => inR 0 1099511627776 w.Gun) && (c.Offences.all offS && (c.Categories.all catS && (c.Prizes.all (prizeS c) && (decide ((c.Prizes.map prizeKey).Nodup) && lastS c))))))))
structure PartsOk (c : Course) : Prop where
 len : ∀ d ∈ c.Distances, d.Route.length ≤ 1048576
 wf : ∀ d ∈ c.Distances, ∀ x ∈ d.Route, Part.wf x
theorem ev_once_legs (l : List Leg) (hl : l.length ≤ 1048576) : Ev (fun n => F_bx n l) (decide ((l.map legKey).Nodup)) := by
 unfold F_bx
 refine Ev.bind (Ev.gatherSet l legKey true (by omega) (fun i x m ha => ?_) (fun m => ?_)) ((Ev.pure _).eq ?_)
 ·unfold F_gw F_fm
  simp only [ha.lt, cond_true, ha.ix, Option.bind_some, ha.nx]
  exact Ev.pure _
 ·unfold F_gw
  simp only [end_, cond_false]
  exact Ev.pure _
 ·rw [Bool.eq_iff_iff]
  simp only [beq_iff_eq, decide_eq_true_eq]
  have := msetAll_nodup legKey true l
  rw [← this.2]
  omega
theorem ev_once_prizes (l : List Prize) (hl : l.length ≤ 1048576) : Ev (fun n => F_cm n l) (decide ((l.map prizeKey).Nodup)) := by
 unfold F_cm
 refine Ev.bind (Ev.gatherSet l prizeKey true (by omega) (fun i x m ha => ?_) (fun m => ?_)) ((Ev.pure _).eq ?_)
 ·unfold F_ha F_ey
  simp only [ha.lt, cond_true, ha.ix, Option.bind_some, ha.nx]
  exact Ev.pure _
 ·unfold F_ha
  simp only [end_, cond_false]
  exact Ev.pure _
 ·rw [Bool.eq_iff_iff]
  simp only [beq_iff_eq, decide_eq_true_eq]
  have := msetAll_nodup prizeKey true l
  rw [← this.2]
  omega
theorem ev_numbers (c : Course) (w : CourseOk c) (q : PartsOk c) : Ev (fun n => F_bq n c) (numbersS c) := by
 unfold F_bq numbersS
 rw [wrap_len w.mats]
 refine Ev.bind (v := _) ?_ (Ev.pure _)
 have h1 : Ev (fun n => F_bv n c.Mats) (c.Mats.all fun m => inR 1 3 m.Kind) := by
  unfold F_bv F_dg F_db
  refine Ev.allC c.Mats _ (fun n x => F_cy n x) (by have := w.mats; omega) fun x hx => ?_
  unfold F_cy
  exact Ev.bind (ev_within1 _ _ _) (Ev.pure _)
 have h2 : Ev (fun n => F_aw n c.Legs ((c.Mats.length : Int) - 1)) (c.Legs.all (legS ((c.Mats.length : Int) - 1))) := by
  unfold F_aw F_dk F_di
  refine Ev.allC c.Legs _ (fun n x => F_bw n x _) (by have := w.legs; omega) fun x hx => ?_
  unfold F_bw
  exact Ev.bind (Ev.bind (ev_within2 _ _ _ _) (Ev.and fun _ => Ev.bind (ev_within2 _ _ _ _) (Ev.and fun _ => Ev.pure _))) (Ev.pure _)
 have h4 : Ev (fun n => F_cf n c.Distances ((c.Mats.length : Int) - 1)) (c.Distances.all (distS ((c.Mats.length : Int) - 1))) := by
  unfold F_cf F_ee F_dp
  refine Ev.allC c.Distances _ (fun n x => F_bu n x _) (by have := w.dist; omega) fun x hx => ?_
  unfold F_bu
  have hc : Ev (fun n => F_au n x.Cutoffs ((c.Mats.length : Int) - 1)) (x.Cutoffs.all (cutS ((c.Mats.length : Int) - 1))) := by
   unfold F_au F_em F_er
   refine Ev.allC x.Cutoffs _ (fun n x => F_by n x _) (by have := w.cut x hx; omega) fun y hy => ?_
   unfold F_by
   exact Ev.bind (Ev.bind (ev_within1 _ _ _) (Ev.and fun _ => Ev.and fun _ => Ev.bind (ev_within1 _ _ _) (Ev.pure _))) (Ev.pure _)
  exact Ev.bind (Ev.bind (ev_within1 _ _ _) (Ev.and fun _ => Ev.bind (ev_within1 _ _ _) (Ev.and fun _ => Ev.bind (ev_parts _ _ x.Route (Nat.le_refl _) (q.len x hx) (q.wf x hx)) (Ev.and fun _ => Ev.bind hc (Ev.pure _))))) (Ev.pure _)
 have h5 : Ev (fun n => F_cg n c.Waves) (c.Waves.all fun w => inR 0 1099511627776 w.Gun) := by
  unfold F_cg F_fh F_eq
  refine Ev.allC c.Waves _ (fun n x => F_be n x) (by have := w.wave; omega) fun x hx => ?_
  unfold F_be
  exact Ev.bind (ev_within1 _ _ _) (Ev.pure _)
 have h6 : Ev (fun n => F_bk n c.Offences) (c.Offences.all offS) := by
  unfold F_bk F_dt F_dw
  refine Ev.allC c.Offences _ (fun n x => F_cd n x) (by have := w.off; omega) fun x hx => ?_
  unfold F_cd offS
  refine Ev.bif (fun _ => Ev.bind (Ev.and fun _ => Ev.pure _) (Ev.pure _)) fun _ => Ev.bif (fun _ => Ev.bind (Ev.and fun _ => Ev.bind (ev_within1 _ _ _) (Ev.pure _)) (Ev.pure _)) fun _ => Ev.bind (ev_within1 _ _ _) (Ev.pure _)
 have h7 : Ev (fun n => F_bo n c.Categories) (c.Categories.all catS) := by
  unfold F_bo F_fg F_dz
  refine Ev.allC c.Categories _ (fun n x => F_bt n x) (by have := w.cat; omega) fun x hx => ?_
  unfold F_bt
  exact Ev.bind (Ev.bind (ev_within2 _ _ _ _) (Ev.and fun _ => Ev.pure _)) (Ev.pure _)
 have h8 : Ev (fun n => F_ch n c.Prizes c) (c.Prizes.all (prizeS c)) := by
  unfold F_ch F_dh F_ew
  refine Ev.allC c.Prizes _ (fun n x => F_cx n x c) (by have := w.prize; omega) fun x hx => ?_
  unfold F_cx
  rw [wrap_len w.dist, wrap_len w.cat]
  exact Ev.bind (Ev.bind (ev_within1 _ _ _) (Ev.and fun _ => Ev.bind (ev_within1 _ _ _) (Ev.and fun _ => Ev.bind (ev_within1 _ _ _) (Ev.and fun _ => Ev.bind (ev_within1 _ _ _) (Ev.pure _))))) (Ev.pure _)
 refine Ev.bind h1 (Ev.and fun _ => Ev.bind h2 (Ev.and fun _ => Ev.bind (ev_once_legs _ w.legs) (Ev.and fun _ => Ev.bind h4 (Ev.and fun _ => Ev.bind h5 (Ev.and fun _ => Ev.bind h6 (Ev.and fun _ => Ev.bind h7 (Ev.and fun _ => Ev.bind h8 (Ev.and fun _ => Ev.bind (ev_once_prizes _ w.prize) (Ev.and fun _ => ?_)))))))))
 exact Ev.bind (ev_within2 _ _ _ _) (Ev.and fun _ => Ev.bind (ev_within2 _ _ _ _) (Ev.and fun _ => Ev.bind (ev_within1 _ _ _) (Ev.and fun _ => Ev.bind (ev_within1 _ _ _) (Ev.and fun _ => Ev.bind (ev_within1 _ _ _) (Ev.pure _)))))
theorem ends_eq {a b a' b' : Int} : (({ from_ := a, to_ := b } : typing_ends) = { from_ := a', to_ := b' }) ↔ a = a' ∧ b = b' := by simp
theorem ev_refDistance (c : Course) (w : CourseOk c) (d : Distance) (h1 : d.Route.length ≤ 1048576) (h2 : ∀ x ∈ d.Route, Part.wf x) (h3 : d.Cutoffs.length ≤ 1048576) : Ev (fun n => F_cs n c d) (distS ((c.Mats.length : Int) - 1) d) := by
 unfold F_cs
 have step : ∀ (i : Nat) (x : Cutoff), At d.Cutoffs i x → Ev (fun n => F_fw n c d (i : Int)) (bif cutS ((c.Mats.length : Int) - 1) x then .cont ((i + 1 : Nat) : Int) else .done (.done false)) := by
  intro i x ha
  unfold F_fw
  simp only [ha.lt, cond_true, ha.ix, Option.bind_some, ha.nx]
  have : Ev (fun n => ((F_g n c x.Mat).bind fun r42 => (bif (!r42) then some true else (bif decide (x.Lap < 1) then some true else (F_b n x.Limit 0 1099511627776).bind fun r45 => some (!r45))) : Option Bool)) (!cutS ((c.Mats.length : Int) - 1) x) := by
   refine Ev.bind (ev_mat c w _) (Ev.eq (Ev.or fun _ => Ev.or fun _ => Ev.bind (ev_in _ _ _) (Ev.pure _)) ?_)
   unfold cutS
   by_cases h : x.Lap < 1
   ·have : ¬ 1 ≤ x.Lap := by omega
    simp [h, this]
   ·have : 1 ≤ x.Lap := by omega
    simp [h, this]
  refine Ev.bind this ?_
  cases cutS ((c.Mats.length : Int) - 1) x <;> exact Ev.pure _
 refine Ev.bind (Ev.iter_any d.Cutoffs (fun x => !cutS ((c.Mats.length : Int) - 1) x) (fun i => (i : Int)) (Ctl.done false) (Ctl.cont ()) (by omega) rfl (fun i x ha hq => ?_) (fun i x ha hq => ?_) ?_) ?_
 ·refine (step i x ha).eq ?_
  have : cutS ((c.Mats.length : Int) - 1) x = true := by simpa using hq
  rw [this]; rfl
 ·refine (step i x ha).eq ?_
  have : cutS ((c.Mats.length : Int) - 1) x = false := by simpa using hq
  rw [this]; rfl
 ·unfold F_fw
  simp only [end_, cond_false]
  exact Ev.pure _
 ·have e : d.Cutoffs.any (fun x => !cutS ((c.Mats.length : Int) - 1) x) = !d.Cutoffs.all (cutS ((c.Mats.length : Int) - 1)) := by rw [List.not_all_eq_any_not]
  rw [e]
  unfold distS
  have hx : inR (-1) ((c.Mats.length : Int) - 1) d.Extra = ((d.Extra == -1) || inR 0 ((c.Mats.length : Int) - 1) d.Extra) := by
   unfold inR
   rw [Bool.eq_iff_iff]
   simp
   omega
  cases d.Cutoffs.all (cutS ((c.Mats.length : Int) - 1)) with
  | false =>
   simp only [Bool.not_false, cond_true, Bool.and_false]
   exact Ev.pure _
  | true =>
   simp only [Bool.not_true, cond_false, Bool.and_true]
   refine Ev.bind (v := _) ?_ (Ev.pure _)
   refine Ev.bind (ev_in _ _ _) ((Ev.and fun _ => Ev.bind (ev_partly c w _ d.Route (Nat.le_refl _) h1 h2) (Ev.and fun _ => Ev.or fun _ => Ev.bind (ev_mat c w _) (Ev.pure _))).eq ?_)
   rw [hx, Bool.and_comm (partsS _ _)]
theorem Ev.checks {α B : Type} {step : Nat → Int → Option (Ctl Int B)} (l : List α) (ok : α → Bool) (bx b : B) (hl : l.length ≤ 4611686018427387904)
  (hs : ∀ i x, At l i x → Ev (fun n => step n (i : Int)) (bif ok x then .cont ((i + 1 : Nat) : Int) else .done bx)) (hd : Ev (fun n => step n (l.length : Int)) (.done b)) :
  Ev (fun n => Go.Sw.iter (step n) n 0) (bif l.all ok then b else bx) := by
 have e : (bif l.all ok then b else bx) = bif l.any (fun x => !ok x) then bx else b := by
  rw [← List.not_all_eq_any_not]
  cases l.all ok <;> rfl
 rw [e]
 refine Ev.iter_any l (fun x => !ok x) (fun i => (i : Int)) bx b hl rfl (fun i x ha hq => ?_) (fun i x ha hq => ?_) hd
 ·have h : ok x = true := by simpa using hq
  have := hs i x ha
  rwa [h] at this
 ·have h : ok x = false := by simpa using hq
  have := hs i x ha
  rwa [h] at this
theorem ev_refRanges (c : Course) (w : CourseOk c) (q : PartsOk c) : Ev (fun n => F_bp n c) (numbersS c) := by
 unfold F_bp numbersS
 have h1 : Ev (fun n => iter (F_fz n c) n 0) (bif c.Mats.all (fun m => inR 1 3 m.Kind) then Ctl.cont () else Ctl.done false) := by
  refine Ev.checks c.Mats _ _ _ (by have := w.mats; omega) (fun i x ha => ?_) ?_
  ·unfold F_fz
   simp only [ha.lt, cond_true, ha.ix, Option.bind_some, ha.nx]
   refine Ev.bind (ev_in _ _ _) ?_
   cases inR 1 3 x.Kind <;> exact Ev.pure _
  ·unfold F_fz
   simp only [end_, cond_false]
   exact Ev.pure _
 have h2 : Ev (fun n => iter (F_bm n c) n 0) (bif c.Legs.all (legS ((c.Mats.length : Int) - 1)) && decide ((c.Legs.map legKey).Nodup) then Ctl.cont () else Ctl.done false) := by
  have first : ∀ x : Leg, Ev (fun n => ((F_g n c x.From).bind fun r115 => (bif (!r115) then some true else (F_g n c x.To).bind fun r117 => (bif (!r117) then some true else (bif decide (x.Min < 0) then some true else (bif decide (x.Max < x.Min) then some true else some (decide (68719476736 < x.Max)))))) : Option Bool)) (!legS ((c.Mats.length : Int) - 1) x) := by
   intro x
   refine Ev.bind (ev_mat c w _) (Ev.eq (Ev.or fun _ => Ev.bind (ev_mat c w _) (Ev.or fun _ => Ev.or fun _ => Ev.or fun _ => Ev.pure _)) ?_)
   unfold legS inR
   rw [Bool.eq_iff_iff]
   simp
   omega
  have inner : ∀ (i : Nat) (x : Leg), At c.Legs i x → Ev (fun n => iter (F_dx n c (i : Int) x) n 0) (bif ((c.Legs.take i).map legKey).contains (legKey x) then Ctl.done (Ctl.done (Ctl.done false)) else Ctl.cont ()) := by
   intro i x ha
   have hlt := ha.lt'
   refine Ev.inner c.Legs i legKey (legKey x) _ _ (by have := w.legs; omega) (by omega) (fun j y hj hy hk => ?_) (fun j y hj hy hk => ?_) ?_
   ·unfold F_dx
    rw [decT (show (j : Int) < (i : Int) by omega)]
    simp only [cond_true, hy.ix, Option.bind_some, hy.nx]
    have h : ¬ (y.From = x.From ∧ y.To = x.To) := by simpa [legKey] using hk
    refine Ev.bind (Ev.and fun _ => Ev.pure _) ?_
    have e : ((y.From == x.From) && (y.To == x.To)) = false := by
     rw [Bool.eq_false_iff]; intro z; exact h (by simpa using z)
    rw [e]
    exact Ev.pure _
   ·unfold F_dx
    rw [decT (show (j : Int) < (i : Int) by omega)]
    simp only [cond_true, hy.ix, Option.bind_some, hy.nx]
    have h : (y.From = x.From ∧ y.To = x.To) := by simpa [legKey] using hk
    refine Ev.bind (Ev.and fun _ => Ev.pure _) ?_
    have e : ((y.From == x.From) && (y.To == x.To)) = true := by simpa using h
    rw [e]
    exact Ev.pure _
   ·unfold F_dx
    rw [decF (show ¬ (i : Int) < (i : Int) by omega)]
    exact Ev.pure _
  refine Ev.chk c.Legs (legS ((c.Mats.length : Int) - 1)) legKey _ _ (by have := w.legs; omega) (fun i x ha hok hk => ?_) (fun i x ha hok => ?_) (fun i x ha hok hk => ?_) ?_
  ·unfold F_bm
   simp only [ha.lt, cond_true, ha.ix, Option.bind_some, ha.nx]
   have hf := first x; rw [hok] at hf
   have hi := inner i x ha; rw [hk] at hi
   exact Ev.bind hf (Ev.ff (Ev.bind hi (Ev.pure _)))
  ·unfold F_bm
   simp only [ha.lt, cond_true, ha.ix, Option.bind_some, ha.nx]
   have hf := first x; rw [hok] at hf
   exact Ev.bind hf (Ev.pure _)
  ·unfold F_bm
   simp only [ha.lt, cond_true, ha.ix, Option.bind_some, ha.nx]
   have hf := first x; rw [hok] at hf
   have hi := inner i x ha; rw [hk] at hi
   exact Ev.bind hf (Ev.ff (Ev.bind hi (Ev.pure _)))
  ·unfold F_bm
   simp only [end_, cond_false]
   exact Ev.pure _
 have h4 : Ev (fun n => iter (F_gj n c) n 0) (bif c.Distances.all (distS ((c.Mats.length : Int) - 1)) then Ctl.cont () else Ctl.done false) := by
  refine Ev.checks c.Distances _ _ _ (by have := w.dist; omega) (fun i x ha => ?_) ?_
  ·unfold F_gj
   simp only [ha.lt, cond_true, ha.ix, Option.bind_some, ha.nx]
   refine Ev.bind (ev_refDistance c w x (q.len x ha.mem) (q.wf x ha.mem) (w.cut x ha.mem)) ?_
   cases distS ((c.Mats.length : Int) - 1) x <;> exact Ev.pure _
  ·unfold F_gj
   simp only [end_, cond_false]
   exact Ev.pure _
 have h5 : Ev (fun n => iter (F_gb n c) n 0) (bif c.Waves.all (fun w => inR 0 1099511627776 w.Gun) then Ctl.cont () else Ctl.done false) := by
  refine Ev.checks c.Waves _ _ _ (by have := w.wave; omega) (fun i x ha => ?_) ?_
  ·unfold F_gb
   simp only [ha.lt, cond_true, ha.ix, Option.bind_some, ha.nx]
   refine Ev.bind (ev_in _ _ _) ?_
   cases inR 0 1099511627776 x.Gun <;> exact Ev.pure _
  ·unfold F_gb
   simp only [end_, cond_false]
   exact Ev.pure _
 have h6 : Ev (fun n => iter (F_fo n c) n 0) (bif c.Offences.all offS then Ctl.cont () else Ctl.done false) := by
  refine Ev.checks c.Offences _ _ _ (by have := w.off; omega) (fun i x ha => ?_) ?_
  ·unfold F_fo
   simp only [ha.lt, cond_true, ha.ix, Option.bind_some, ha.nx]
   refine Ev.bind (Ev.bind (ev_in _ _ _) (Ev.and fun _ => Ev.and fun _ => Ev.pure _)) ?_
   refine Ev.bind (Ev.and fun _ => Ev.bind (ev_in _ _ _) (Ev.and fun _ => Ev.pure _)) ?_
   refine Ev.bind (Ev.and fun _ => Ev.and fun _ => Ev.pure _) ?_
   refine Ev.bind (Ev.and fun _ => Ev.and fun _ => Ev.pure _) ?_
   have e : offS x = !(!(inR 0 68719476736 x.Time && ((x.Laps == 0) && !x.Out)) && (!((x.Time == 0) && (inR 1 64 x.Laps && !x.Out)) && !((x.Time == 0) && ((x.Laps == 0) && x.Out)))) := by
    unfold offS inR
    cases x.Out with
    | true =>
     rw [Bool.eq_iff_iff]; simp
    | false =>
     by_cases h : x.Laps = 0
     ·rw [Bool.eq_iff_iff]; simp [h]
     ·rw [Bool.eq_iff_iff]; simp [h]
   rw [e]
   generalize (!(inR 0 68719476736 x.Time && ((x.Laps == 0) && !x.Out)) && (!((x.Time == 0) && (inR 1 64 x.Laps && !x.Out)) && !((x.Time == 0) && ((x.Laps == 0) && x.Out)))) = b
   cases b <;> exact Ev.pure _
  ·unfold F_fo
   simp only [end_, cond_false]
   exact Ev.pure _
 have h7 : Ev (fun n => iter (F_gi n c) n 0) (bif c.Categories.all catS then Ctl.cont () else Ctl.done false) := by
  refine Ev.checks c.Categories _ _ _ (by have := w.cat; omega) (fun i x ha => ?_) ?_
  ·unfold F_gi
   simp only [ha.lt, cond_true, ha.ix, Option.bind_some, ha.nx]
   refine Ev.bind (Ev.or fun _ => Ev.or fun _ => Ev.pure _) ?_
   have e : (decide (x.From < 0) || (decide (x.To < x.From) || decide (120 < x.To))) = !catS x := by
    unfold catS inR
    rw [Bool.eq_iff_iff]
    simp
    omega
   rw [e]
   cases catS x <;> exact Ev.pure _
  ·unfold F_gi
   simp only [end_, cond_false]
   exact Ev.pure _
 have h8 : Ev (fun n => iter (F_at n c) n 0) (bif c.Prizes.all (prizeS c) && decide ((c.Prizes.map prizeKey).Nodup) then Ctl.cont () else Ctl.done false) := by
  have first : ∀ x : Prize, Ev (fun n => ((F_b n x.Distance 0 (IntKind.i64.wrap ((c.Distances.length : Int) - 1))).bind fun r428 => (bif (!r428) then some true else (F_b n x.Category (-1) (IntKind.i64.wrap ((c.Categories.length : Int) - 1))).bind fun r430 => (bif (!r430) then some true else (F_b n x.Rank 1 4000).bind fun r432 => (bif (!r432) then some true else (F_b n x.Amount 1 1125899906842624).bind fun r434 => some (!r434)))) : Option Bool)) (!prizeS c x) := by
   intro x
   rw [wrap_len w.dist, wrap_len w.cat]
   refine Ev.bind (ev_in _ _ _) (Ev.eq (Ev.or fun _ => Ev.bind (ev_in _ _ _) (Ev.or fun _ => Ev.bind (ev_in _ _ _) (Ev.or fun _ => Ev.bind (ev_in _ _ _) (Ev.pure _)))) ?_)
   unfold prizeS
   simp only [Bool.not_and]
  have inner : ∀ (i : Nat) (x : Prize), At c.Prizes i x → Ev (fun n => iter (F_dc n c (i : Int) x) n 0) (bif ((c.Prizes.take i).map prizeKey).contains (prizeKey x) then Ctl.done (Ctl.done (Ctl.done false)) else Ctl.cont ()) := by
   intro i x ha
   have hlt := ha.lt'
   refine Ev.inner c.Prizes i prizeKey (prizeKey x) _ _ (by have := w.prize; omega) (by omega) (fun j y hj hy hk => ?_) (fun j y hj hy hk => ?_) ?_
   ·unfold F_dc
    rw [decT (show (j : Int) < (i : Int) by omega)]
    simp only [cond_true, hy.ix, Option.bind_some, hy.nx]
    have h : ¬ (y.Distance = x.Distance ∧ y.Category = x.Category ∧ y.Rank = x.Rank) := by simpa [prizeKey] using hk
    refine Ev.bind (Ev.and fun _ => Ev.and fun _ => Ev.pure _) ?_
    have e : ((y.Distance == x.Distance) && ((y.Category == x.Category) && (y.Rank == x.Rank))) = false := by
     rw [Bool.eq_false_iff]; intro z; exact h (by simpa using z)
    rw [e]
    exact Ev.pure _
   ·unfold F_dc
    rw [decT (show (j : Int) < (i : Int) by omega)]
    simp only [cond_true, hy.ix, Option.bind_some, hy.nx]
    have h : (y.Distance = x.Distance ∧ y.Category = x.Category ∧ y.Rank = x.Rank) := by simpa [prizeKey] using hk
    refine Ev.bind (Ev.and fun _ => Ev.and fun _ => Ev.pure _) ?_
    have e : ((y.Distance == x.Distance) && ((y.Category == x.Category) && (y.Rank == x.Rank))) = true := by simpa using h
    rw [e]
    exact Ev.pure _
   ·unfold F_dc
    rw [decF (show ¬ (i : Int) < (i : Int) by omega)]
    exact Ev.pure _
  refine Ev.chk c.Prizes (prizeS c) prizeKey _ _ (by have := w.prize; omega) (fun i x ha hok hk => ?_) (fun i x ha hok => ?_) (fun i x ha hok hk => ?_) ?_
  ·unfold F_at
   simp only [ha.lt, cond_true, ha.ix, Option.bind_some, ha.nx]
   have hf := first x; rw [hok] at hf
   have hi := inner i x ha; rw [hk] at hi
   exact Ev.bind hf (Ev.ff (Ev.bind hi (Ev.pure _)))
  ·unfold F_at
   simp only [ha.lt, cond_true, ha.ix, Option.bind_some, ha.nx]
   have hf := first x; rw [hok] at hf
   exact Ev.bind hf (Ev.pure _)
  ·unfold F_at
   simp only [ha.lt, cond_true, ha.ix, Option.bind_some, ha.nx]
   have hf := first x; rw [hok] at hf
   have hi := inner i x ha; rw [hk] at hi
   exact Ev.bind hf (Ev.ff (Ev.bind hi (Ev.pure _)))
  ·unfold F_at
   simp only [end_, cond_false]
   exact Ev.pure _
 refine Ev.bind h1 ?_
 cases c.Mats.all (fun m => inR 1 3 m.Kind) with
 | false => exact Ev.pure _
 | true =>
 refine Ev.bind h2 ?_
 simp only [Bool.true_and]
 rw [← Bool.and_assoc]
 cases (c.Legs.all (legS ((c.Mats.length : Int) - 1)) && decide ((c.Legs.map legKey).Nodup)) with
 | false => exact Ev.pure _
 | true =>
 refine Ev.bind h4 ?_
 simp only [Bool.true_and]
 cases c.Distances.all (distS ((c.Mats.length : Int) - 1)) with
 | false => exact Ev.pure _
 | true =>
 refine Ev.bind h5 ?_
 simp only [Bool.true_and]
 cases c.Waves.all (fun w => inR 0 1099511627776 w.Gun) with
 | false => exact Ev.pure _
 | true =>
 refine Ev.bind h6 ?_
 simp only [Bool.true_and]
 cases c.Offences.all offS with
 | false => exact Ev.pure _
 | true =>
 refine Ev.bind h7 ?_
 simp only [Bool.true_and]
 cases c.Categories.all catS with
 | false => exact Ev.pure _
 | true =>
 refine Ev.bind h8 ?_
 simp only [Bool.true_and]
 rw [← Bool.and_assoc]
 cases (c.Prizes.all (prizeS c) && decide ((c.Prizes.map prizeKey).Nodup)) with
 | false => exact Ev.pure _
 | true =>
 simp only [Bool.true_and]
 refine Ev.bind (v := lastS c) ?_ (Ev.pure _)
 refine Ev.bind (ev_in _ _ _) ((Ev.and fun _ => Ev.bind (ev_in _ _ _) (Ev.and fun _ => Ev.bind (ev_in _ _ _) (Ev.and fun _ => Ev.bind (ev_in _ _ _) (Ev.and fun _ => Ev.bind (ev_in _ _ _) (Ev.and fun _ => Ev.bind (ev_in _ _ _) (Ev.and fun _ => Ev.bind (ev_in _ _ _) (Ev.pure _))))))).eq ?_)
 unfold lastS
 simp only [Bool.and_assoc]
end Go.Sw
