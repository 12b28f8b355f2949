/- typing.Ties and the reference's Ties, in plain Lean. -/
import Derived.Test.YtjikdlekkmifhaaGreatPTz
set_option linter.unusedVariables false
set_option linter.unusedSimpArgs false
namespace Go.Sw
mutual
def cN : Cond → Nat
 | ⟨_, _, _, ps⟩ => 1 + cNs ps
def cNs : List Cond → Nat
 | [] => 0
 | c :: r => cN c + cNs r
end
theorem cN_eq (c : Cond) : cN c = 1 + cNs c.Parts := by cases c; rfl
mutual
def cD : Nat → Cond → Bool
 | d, ⟨_, _, _, ps⟩ => cDs d ps
def cDs : Nat → List Cond → Bool
 | _, [] => true
 | d, c :: r => decide (d ≤ 16) && (cD (d + 1) c && cDs d r)
end
theorem cD_eq (d : Nat) (c : Cond) : cD d c = cDs d c.Parts := by cases c; rfl
def zeroC (c : Cond) : Bool := (c.Kind == 0) && ((c.Var == 0) && ((c.N == 0) && ((c.Parts.length : Int) == 0)))
mutual
def sN : Step → Nat
 | ⟨_, _, _, t, e⟩ => 1 + sNs t + sNs e
def sNs : List Step → Nat
 | [] => 0
 | s :: r => sN s + sNs r
end
theorem sN_eq (s : Step) : sN s = 1 + sNs s.Then + sNs s.Else := by cases s; rfl
mutual
def sC : Step → Nat
 | ⟨_, _, c, t, e⟩ => (bif zeroC c then 0 else cN c) + sCs t + sCs e
def sCs : List Step → Nat
 | [] => 0
 | s :: r => sC s + sCs r
end
theorem sC_eq (s : Step) : sC s = (bif zeroC s.Cond then 0 else cN s.Cond) + sCs s.Then + sCs s.Else := by cases s; rfl
mutual
def sD : Nat → Step → Bool
 | d, ⟨_, _, c, t, e⟩ => (zeroC c || cD 1 c) && (sDs d t && sDs d e)
def sDs : Nat → List Step → Bool
 | _, [] => true
 | d, s :: r => decide (d ≤ 16) && (sD (d + 1) s && sDs d r)
end
theorem sD_eq (d : Nat) (s : Step) : sD d s = ((zeroC s.Cond || cD 1 s.Cond) && (sDs d s.Then && sDs d s.Else)) := by cases s; rfl
mutual
def sZ : Step → Nat
 | ⟨_, _, c, t, e⟩ => 2 + cN c + sZs t + sZs e
def sZs : List Step → Nat
 | [] => 0
 | s :: r => sZ s + sZs r
end
theorem sZ_eq (s : Step) : sZ s = 2 + cN s.Cond + sZs s.Then + sZs s.Else := by cases s; rfl
def fS : typing_form → Nat
 | .ctyping_step x => sN x.Step
 | .ctyping_cond _ => 0
def fC : typing_form → Nat
 | .ctyping_step x => sC x.Step
 | .ctyping_cond x => cN x.Cond
def fD (d : Nat) : typing_form → Bool
 | .ctyping_step x => sD d x.Step
 | .ctyping_cond x => cD d x.Cond
def fZ : typing_form → Nat
 | .ctyping_step x => sZ x.Step
 | .ctyping_cond x => cN x.Cond
def fSs (l : List typing_form) : Nat := (l.map fS).sum
def fCs (l : List typing_form) : Nat := (l.map fC).sum
def fZs (l : List typing_form) : Nat := (l.map fZ).sum
def fwf : typing_form → Prop
 | .ctyping_step x => Step.wf x.Step
 | .ctyping_cond x => Cond.wf x.Cond
def ofStep (s : Step) : typing_form := .ctyping_step { Step := s }
def ofCond (c : Cond) : typing_form := .ctyping_cond { Cond := c }
theorem fS_steps : ∀ l : List Step, fSs (l.map ofStep) = sNs l
 | [] => rfl
 | s :: r => by
  have := fS_steps r
  simp only [fSs, List.map_cons, List.sum_cons] at this ⊢
  rw [this]; rfl
theorem fC_steps : ∀ l : List Step, fCs (l.map ofStep) = sCs l
 | [] => rfl
 | s :: r => by
  have := fC_steps r
  simp only [fCs, List.map_cons, List.sum_cons] at this ⊢
  rw [this]; rfl
theorem fZ_steps : ∀ l : List Step, fZs (l.map ofStep) = sZs l
 | [] => rfl
 | s :: r => by
  have := fZ_steps r
  simp only [fZs, List.map_cons, List.sum_cons] at this ⊢
  rw [this]; rfl
theorem fS_conds : ∀ l : List Cond, fSs (l.map ofCond) = 0
 | [] => rfl
 | s :: r => by
  have := fS_conds r
  simp only [fSs, List.map_cons, List.sum_cons] at this ⊢
  rw [this]; rfl
theorem fC_conds : ∀ l : List Cond, fCs (l.map ofCond) = cNs l
 | [] => rfl
 | s :: r => by
  have := fC_conds r
  simp only [fCs, List.map_cons, List.sum_cons] at this ⊢
  rw [this]; rfl
theorem fZ_conds : ∀ l : List Cond, fZs (l.map ofCond) = cNs l
 | [] => rfl
 | s :: r => by
  have := fZ_conds r
  simp only [fZs, List.map_cons, List.sum_cons] at this ⊢
  rw [this]; rfl
theorem fD_steps (d : Nat) : ∀ l : List Step, sDs d l = ((l.map ofStep).isEmpty || (decide (d ≤ 16) && (l.map ofStep).all (fD (d + 1))))
 | [] => rfl
 | s :: r => by
  rw [sDs, fD_steps d r]
  simp only [List.map_cons, List.isEmpty_cons, Bool.false_or, List.all_cons]
  rw [show fD (d + 1) (ofStep s) = sD (d + 1) s from rfl]
  cases r with
  | nil => simp
  | cons x r =>
   simp only [List.map_cons, List.isEmpty_cons, Bool.false_or, List.all_cons]
   cases decide (d ≤ 16) <;> simp
theorem fD_conds (d : Nat) : ∀ l : List Cond, cDs d l = ((l.map ofCond).isEmpty || (decide (d ≤ 16) && (l.map ofCond).all (fD (d + 1))))
 | [] => rfl
 | s :: r => by
  rw [cDs, fD_conds d r]
  simp only [List.map_cons, List.isEmpty_cons, Bool.false_or, List.all_cons]
  rw [show fD (d + 1) (ofCond s) = cD (d + 1) s from rfl]
  cases r with
  | nil => simp
  | cons x r =>
   simp only [List.map_cons, List.isEmpty_cons, Bool.false_or, List.all_cons]
   cases decide (d ≤ 16) <;> simp
theorem Cond.wf_parts {c : Cond} (h : Cond.wf c) : c.Parts.length ≤ 1048576 ∧ ∀ x ∈ c.Parts, Cond.wf x := by
 cases c
 simp only [Cond.wf, Cond.wfs_iff] at h
 exact h.2.2.2.1
theorem Step.wf_parts {s : Step} (h : Step.wf s) : Cond.wf s.Cond ∧ (s.Then.length ≤ 1048576 ∧ ∀ x ∈ s.Then, Step.wf x) ∧ (s.Else.length ≤ 1048576 ∧ ∀ x ∈ s.Else, Step.wf x) := by
 cases s
 simp only [Step.wf, Step.wfs_iff] at h
 exact ⟨h.2.2.1, h.2.2.2.1, h.2.2.2.2.1⟩
theorem ev_isZero (n : Nat) (c : Cond) : F_y n { Cond := c } = some (zeroC c) := by
 unfold F_y zeroC
 cases (c.Kind == 0) <;> cases (c.Var == 0) <;> cases (c.N == 0) <;> rfl
theorem ev_refZero (n : Nat) (c : Cond) : F_al n c = some (zeroC c) := by
 unfold F_al zeroC
 cases (c.Kind == 0) <;> cases (c.Var == 0) <;> cases (c.N == 0) <;> rfl
theorem ev_steps (l : List Step) (hl : l.length ≤ 140737488) : Ev (fun n => F_z n l) (l.map ofStep) := by
 unfold F_z
 exact Ev.bind (ev_gather l ofStep hl) (Ev.pure _)
theorem ev_conds (l : List Cond) (hl : l.length ≤ 140737488) : Ev (fun n => F_bh n l) (l.map ofCond) := by
 unfold F_bh
 exact Ev.bind (ev_gather l ofCond hl) (Ev.pure _)
def stepParts (s : Step) : List typing_form := s.Then.map ofStep ++ s.Else.map ofStep
theorem ev_stepParts (s : Step) (h : Step.wf s) : Ev (fun n => F_x n { Step := s }) (stepParts s) := by
 obtain ⟨_, ⟨h1, _⟩, ⟨h2, _⟩⟩ := Step.wf_parts h
 unfold F_x stepParts
 refine Ev.bind (ev_steps s.Then (by omega)) (Ev.bind (ev_steps s.Else (by omega)) (Ev.bind0 (app_some _ _ (by simp; omega)) (Ev.pure _)))
theorem ev_condParts (c : Cond) (h : Cond.wf c) : Ev (fun n => F_w n { Cond := c }) (c.Parts.map ofCond) := by
 obtain ⟨h1, _⟩ := Cond.wf_parts h
 unfold F_w
 exact Ev.bind (ev_conds c.Parts (by omega)) (Ev.pure _)
def okL (l : List typing_form) (d : Nat) (st co : Int) : Bool := l.isEmpty || (decide (d ≤ 16) && (l.all (fD (d + 1)) && (decide (st + fSs l ≤ 64) && decide (co + fCs l ≤ 256))))
def okR (l : List typing_form) (d : Nat) (st co : Int) : Bool := l.isEmpty || (l.all (fD (d + 1)) && (decide (st + fSs l ≤ 64) && decide (co + fCs l ≤ 256)))
def okF (f : typing_form) (d : Nat) (st co : Int) : Bool := fD (d + 1) f && (decide (st + fS f ≤ 64) && decide (co + fC f ≤ 256))
theorem fSs_cons (f : typing_form) (l : List typing_form) : fSs (f :: l) = fS f + fSs l := rfl
theorem fCs_cons (f : typing_form) (l : List typing_form) : fCs (f :: l) = fC f + fCs l := rfl
theorem fZs_cons (f : typing_form) (l : List typing_form) : fZs (f :: l) = fZ f + fZs l := rfl
theorem fSs_append (l m : List typing_form) : fSs (l ++ m) = fSs l + fSs m := by simp [fSs]
theorem fCs_append (l m : List typing_form) : fCs (l ++ m) = fCs l + fCs m := by simp [fCs]
theorem fZs_append (l m : List typing_form) : fZs (l ++ m) = fZs l + fZs m := by simp [fZs]
theorem okR_cons (f : typing_form) (r : List typing_form) (d : Nat) (st co : Int) : okR (f :: r) d st co = (okF f d st co && okR r d (st + fS f) (co + fC f)) := by
 unfold okR okF
 rw [fSs_cons, fCs_cons]
 cases r with
 | nil => simp [fSs, fCs]
 | cons g r =>
  rw [Bool.eq_iff_iff]
  simp only [List.isEmpty_cons, Bool.false_or, List.all_cons, Bool.and_eq_true, decide_eq_true_eq]
  rw [show ((fS f + fSs (g :: r) : Nat) : Int) = (fS f : Int) + (fSs (g :: r) : Int) by omega, show ((fC f + fCs (g :: r) : Nat) : Int) = (fC f : Int) + (fCs (g :: r) : Int) by omega]
  constructor
  ·rintro ⟨⟨h1, h2⟩, h3, h4⟩
   exact ⟨⟨h1, by omega, by omega⟩, h2, by omega, by omega⟩
  ·rintro ⟨⟨h1, _, _⟩, h2, h3, h4⟩
   exact ⟨⟨h1, h2⟩, by omega, by omega⟩
theorem okL_iff (l : List typing_form) (d : Nat) (st co : Int) (h1 : st ≤ 64) (h2 : co ≤ 256) : okL l d st co = true ↔ (l.isEmpty || (decide (d ≤ 16) && l.all (fD (d + 1)))) = true ∧ st + fSs l ≤ 64 ∧ co + fCs l ≤ 256 := by
 unfold okL
 cases l with
 | nil => simp [fSs, fCs, h1, h2]
 | cons f r =>
  simp only [List.isEmpty_cons, Bool.false_or, Bool.and_eq_true, decide_eq_true_eq]
  constructor
  ·rintro ⟨a, b, c, e⟩; exact ⟨⟨a, b⟩, c, e⟩
  ·rintro ⟨⟨a, b⟩, c, e⟩; exact ⟨a, b, c, e⟩
theorem stepParts_deep (s : Step) (d : Nat) : ((stepParts s).isEmpty || (decide (d ≤ 16) && (stepParts s).all (fD (d + 1)))) = (sDs d s.Then && sDs d s.Else) := by
 rw [fD_steps, fD_steps]
 unfold stepParts
 rw [List.all_append]
 cases h1 : s.Then <;> cases h2 : s.Else <;> simp <;> (cases decide (d ≤ 16) <;> simp)
def Cnt (R : Nat → List typing_form → Int → typing_count → Option (typing_count × Bool)) (l : List typing_form) (d : Nat) (st co : Int) : Prop :=
 ∃ c' : typing_count, Ev (fun n => R n l (d : Int) { steps := st, conds := co }) (c', okL l d st co) ∧ (okL l d st co = true → c' = { steps := st + fSs l, conds := co + fCs l })
theorem count_elem {R : Nat → List typing_form → Int → typing_count → Option (typing_count × Bool)} {l : List typing_form} {d : Nat} (hd : d ≤ 16) {i : Nat} {f : typing_form} (ha : At l i f) (hw : fwf f)
  (ih : ∀ l' d' st co, fZs l' < fZ f → l'.length ≤ 2097152 → (∀ f ∈ l', fwf f) → d' ≤ 17 → 0 ≤ st → st ≤ 66 → (st ≤ 65 ∨ ∀ f ∈ l', ∃ c, f = ofCond c) → 0 ≤ co → co ≤ 256 → Cnt R l' d' st co) {st co : Int} (h0 : 0 ≤ st) (h1' : st ≤ 66) (h1'' : st ≤ 65 ∨ ∃ c, f = ofCond c) (h2 : 0 ≤ co) (h3 : co ≤ 256) :
  ∃ c' : typing_count, Ev (fun n => F_ei n l (d : Int) (R n) ({ steps := st, conds := co }, (i : Int))) (bif okF f d st co then .cont (c', ((i + 1 : Nat) : Int)) else .done (.done (c', false))) ∧ (okF f d st co = true → c' = { steps := st + fS f, conds := co + fC f }) := by
 unfold F_ei
 simp only [ha.lt, cond_true, ha.ix, Option.bind_some, ha.nx]
 have ed : IntKind.i64.wrap ((d : Int) + 1) = ((d + 1 : Nat) : Int) := wrap_succ (by omega)
 cases f with
 | ctyping_step x =>
  obtain ⟨s⟩ := x
  have h1 : st ≤ 65 := by
   rcases h1'' with h | ⟨c, h⟩
   ·exact h
   ·cases h
  have hw' : Step.wf s := hw
  obtain ⟨wc, ⟨wt1, wt2⟩, ⟨we1, we2⟩⟩ := Step.wf_parts hw'
  have e1 : IntKind.i64.wrap (st + 1) = st + 1 := wrap64 (by omega) (by omega)
  simp only [typing_form.elim, ev_isZero, Option.bind_some, e1]
  have hc : ∃ c2 : typing_count, Ev (fun n => ((bif (!zeroC s.Cond) then (R n [typing_form.ctyping_cond { Cond := s.Cond }] 0 { steps := st + 1, conds := co }).bind fun r100 => some (r100.1, (!r100.2)) else some ({ steps := st + 1, conds := co }, false)) : Option (typing_count × Bool))) (c2, !(zeroC s.Cond || (cD 1 s.Cond && (decide (st + 1 ≤ 64) && decide (co + cN s.Cond ≤ 256))))) ∧
    ((zeroC s.Cond || (cD 1 s.Cond && (decide (st + 1 ≤ 64) && decide (co + cN s.Cond ≤ 256)))) = true → c2 = { steps := st + 1, conds := co + ((bif zeroC s.Cond then 0 else cN s.Cond : Nat) : Int) }) := by
   cases hz : zeroC s.Cond with
   | true =>
    refine ⟨{ steps := st + 1, conds := co }, ?_, fun _ => ?_⟩
    ·exact Ev.pure _
    ·simp
   | false =>
    obtain ⟨c2, q1, q2⟩ := ih [ofCond s.Cond] 0 (st + 1) co (by simp only [fZs, List.map_cons, List.map_nil, List.sum_cons, List.sum_nil]; show cN s.Cond + 0 < sZ s; rw [sZ_eq]; omega) (by simp) (by intro g hg; simp only [List.mem_singleton] at hg; subst hg; exact wc) (by omega) (by omega) (by omega) (.inr (by intro g hg; simp only [List.mem_singleton] at hg; exact ⟨_, hg⟩)) h2 h3
    have ek : okL [ofCond s.Cond] 0 (st + 1) co = (cD 1 s.Cond && (decide (st + 1 ≤ 64) && decide (co + cN s.Cond ≤ 256))) := by
     unfold okL
     simp only [List.isEmpty_cons, Bool.false_or, List.all_cons, List.all_nil, Bool.and_true, fSs, fCs, List.map_cons, List.map_nil, List.sum_cons, List.sum_nil]
     rw [show fD (0 + 1) (ofCond s.Cond) = cD 1 s.Cond from rfl, show fS (ofCond s.Cond) = 0 from rfl, show fC (ofCond s.Cond) = cN s.Cond from rfl]
     simp
    rw [ek] at q1 q2
    refine ⟨c2, Ev.bind q1 (Ev.pure _), fun h => ?_⟩
    rw [q2 h]
    simp [fSs, fCs, show fS (ofCond s.Cond) = 0 from rfl, show fC (ofCond s.Cond) = cN s.Cond from rfl]
  obtain ⟨c2, q1, q2⟩ := hc
  generalize hb : (zeroC s.Cond || (cD 1 s.Cond && (decide (st + 1 ≤ 64) && decide (co + cN s.Cond ≤ 256)))) = b at q1 q2
  have hF : okF (typing_form.ctyping_step { Step := s }) d st co = (sD (d + 1) s && (decide (st + sN s ≤ 64) && decide (co + sC s ≤ 256))) := rfl
  rw [hF]
  cases b with
  | false =>
   have : (sD (d + 1) s && (decide (st + sN s ≤ 64) && decide (co + sC s ≤ 256))) = false := by
    rw [Bool.eq_false_iff]
    intro hh
    simp only [Bool.and_eq_true, decide_eq_true_eq, sD_eq, sN_eq, sC_eq] at hh
    obtain ⟨⟨z1, _⟩, z2, z3⟩ := hh
    cases hz : zeroC s.Cond with
    | true => rw [hz] at hb; cases hb
    | false =>
     rw [hz] at hb z1 z3
     simp only [Bool.false_or] at hb z1
     rw [z1] at hb
     simp only [cond_false] at z3
     rw [decT (show st + 1 ≤ 64 by omega), decT (show co + (cN s.Cond : Int) ≤ 256 by omega)] at hb
     cases hb
   rw [this]
   exact ⟨c2, Ev.bind q1 (Ev.pure _), fun h => by cases h⟩
  | true =>
   obtain rfl := q2 rfl
   by_cases g1 : 64 < st + 1
   ·have : (sD (d + 1) s && (decide (st + sN s ≤ 64) && decide (co + sC s ≤ 256))) = false := by
     rw [decF (show ¬ st + (sN s : Int) ≤ 64 by rw [sN_eq]; omega)]
     simp
    rw [this]
    refine ⟨{ steps := st + 1, conds := co + ((bif zeroC s.Cond then 0 else cN s.Cond : Nat) : Int) }, Ev.bind q1 ?_, fun h => by cases h⟩
    simp only [Bool.not_true, cond_false]
    refine Ev.bind (v := (_, true)) ?_ (Ev.pure _)
    rw [decT g1]
    exact Ev.pure _
   by_cases g2 : 256 < co + ((bif zeroC s.Cond then 0 else cN s.Cond : Nat) : Int)
   ·have : (sD (d + 1) s && (decide (st + sN s ≤ 64) && decide (co + sC s ≤ 256))) = false := by
     rw [decF (show ¬ co + (sC s : Int) ≤ 256 by rw [sC_eq]; omega)]
     simp
    rw [this]
    refine ⟨{ steps := st + 1, conds := co + ((bif zeroC s.Cond then 0 else cN s.Cond : Nat) : Int) }, Ev.bind q1 ?_, fun h => by cases h⟩
    simp only [Bool.not_true, cond_false]
    refine Ev.bind (v := (_, true)) ?_ (Ev.pure _)
    rw [decF g1, decT g2]
    exact Ev.pure _
   obtain ⟨c3, p1, p2⟩ := ih (stepParts s) (d + 1) (st + 1) (co + ((bif zeroC s.Cond then 0 else cN s.Cond : Nat) : Int)) (by
     unfold stepParts
     rw [fZs_append, fZ_steps, fZ_steps]
     show _ < sZ s
     rw [sZ_eq]; omega) (by unfold stepParts; simp; omega) (by
     intro g hg
     unfold stepParts at hg
     rcases List.mem_append.1 hg with hg | hg
     ·obtain ⟨y, hy, rfl⟩ := List.mem_map.1 hg; exact wt2 y hy
     ·obtain ⟨y, hy, rfl⟩ := List.mem_map.1 hg; exact we2 y hy) (by omega) (by omega) (by omega) (.inl (by omega)) (by omega) (by omega)
   have eL : okL (stepParts s) (d + 1) (st + 1) (co + ((bif zeroC s.Cond then 0 else cN s.Cond : Nat) : Int)) = (sD (d + 1) s && (decide (st + sN s ≤ 64) && decide (co + sC s ≤ 256))) := by
    rw [Bool.eq_iff_iff, okL_iff _ _ _ _ (by omega) (by omega), stepParts_deep]
    simp only [Bool.and_eq_true, decide_eq_true_eq, sD_eq, sN_eq, sC_eq]
    have e2 : fSs (stepParts s) = sNs s.Then + sNs s.Else := by unfold stepParts; rw [fSs_append, fS_steps, fS_steps]
    have e3 : fCs (stepParts s) = sCs s.Then + sCs s.Else := by unfold stepParts; rw [fCs_append, fC_steps, fC_steps]
    rw [e2, e3]
    have hz1 : (zeroC s.Cond || cD 1 s.Cond) = true := by
     cases hz : zeroC s.Cond with
     | true => rfl
     | false =>
      rw [hz] at hb
      simp only [Bool.false_or, Bool.and_eq_true] at hb
      rw [hb.1]; rfl
    constructor
    ·rintro ⟨h4, h5, h6⟩; exact ⟨⟨hz1, h4⟩, by omega, by omega⟩
    ·rintro ⟨⟨_, h4⟩, h5, h6⟩; exact ⟨h4, by omega, by omega⟩
   rw [eL] at p1 p2
   refine ⟨c3, Ev.bind q1 ?_, fun h => ?_⟩
   ·simp only [Bool.not_true, cond_false]
    refine Ev.bind (v := (c3, !(sD (d + 1) s && (decide (st + sN s ≤ 64) && decide (co + sC s ≤ 256))))) ?_ ?_
    ·rw [decF g1, decF g2, ed]
     exact Ev.bind (ev_stepParts s hw') (Ev.bind p1 (Ev.pure _))
    ·cases (sD (d + 1) s && (decide (st + sN s ≤ 64) && decide (co + sC s ≤ 256))) <;> exact Ev.pure _
   ·rw [p2 h]
    have e2 : fSs (stepParts s) = sNs s.Then + sNs s.Else := by unfold stepParts; rw [fSs_append, fS_steps, fS_steps]
    have e3 : fCs (stepParts s) = sCs s.Then + sCs s.Else := by unfold stepParts; rw [fCs_append, fC_steps, fC_steps]
    rw [e2, e3, show fS (typing_form.ctyping_step { Step := s }) = sN s from rfl, show fC (typing_form.ctyping_step { Step := s }) = sC s from rfl, sN_eq, sC_eq]
    congr 1 <;> omega
 | ctyping_cond x =>
  obtain ⟨c⟩ := x
  have hw' : Cond.wf c := hw
  obtain ⟨wp1, wp2⟩ := Cond.wf_parts hw'
  have e1 : IntKind.i64.wrap (co + 1) = co + 1 := wrap64 (by omega) (by omega)
  simp only [typing_form.elim, e1]
  have hF : okF (typing_form.ctyping_cond { Cond := c }) d st co = (cD (d + 1) c && (decide (st ≤ 64) && decide (co + cN c ≤ 256))) := by
   show (cD (d + 1) c && (decide (st + ((0 : Nat) : Int) ≤ 64) && decide (co + cN c ≤ 256))) = _
   rw [show st + ((0 : Nat) : Int) = st by omega]
  rw [hF]
  by_cases g1 : 64 < st
  ·have : (cD (d + 1) c && (decide (st ≤ 64) && decide (co + cN c ≤ 256))) = false := by
    rw [decF (show ¬ st ≤ 64 by omega)]; simp
   rw [this]
   refine ⟨{ steps := st, conds := co + 1 }, ?_, fun h => by cases h⟩
   refine Ev.bind (v := (_, true)) ?_ (Ev.pure _)
   rw [decT g1]
   exact Ev.pure _
  by_cases g2 : 256 < co + 1
  ·have : (cD (d + 1) c && (decide (st ≤ 64) && decide (co + cN c ≤ 256))) = false := by
    rw [decF (show ¬ co + (cN c : Int) ≤ 256 by rw [cN_eq]; omega)]; simp
   rw [this]
   refine ⟨{ steps := st, conds := co + 1 }, ?_, fun h => by cases h⟩
   refine Ev.bind (v := (_, true)) ?_ (Ev.pure _)
   rw [decF g1, decT g2]
   exact Ev.pure _
  obtain ⟨c3, p1, p2⟩ := ih (c.Parts.map ofCond) (d + 1) st (co + 1) (by
    rw [fZ_conds]
    show _ < cN c
    rw [cN_eq]; omega) (by simp; omega) (by
    intro g hg
    obtain ⟨y, hy, rfl⟩ := List.mem_map.1 hg; exact wp2 y hy) (by omega) (by omega) (by omega) (.inl (by omega)) (by omega) (by omega)
  have eL : okL (c.Parts.map ofCond) (d + 1) st (co + 1) = (cD (d + 1) c && (decide (st ≤ 64) && decide (co + cN c ≤ 256))) := by
   rw [Bool.eq_iff_iff, okL_iff _ _ _ _ (by omega) (by omega), ← fD_conds, fS_conds, fC_conds]
   simp only [Bool.and_eq_true, decide_eq_true_eq, cD_eq, cN_eq]
   constructor
   ·rintro ⟨h4, h5, h6⟩; exact ⟨h4, by omega, by omega⟩
   ·rintro ⟨h4, h5, h6⟩; exact ⟨h4, by omega, by omega⟩
  rw [eL] at p1 p2
  refine ⟨c3, ?_, fun h => ?_⟩
  ·refine Ev.bind (v := (c3, !(cD (d + 1) c && (decide (st ≤ 64) && decide (co + cN c ≤ 256))))) ?_ ?_
   ·rw [decF g1, decF g2, ed]
    exact Ev.bind (ev_condParts c hw') (Ev.bind p1 (Ev.pure _))
   ·cases (cD (d + 1) c && (decide (st ≤ 64) && decide (co + cN c ≤ 256))) <;> exact Ev.pure _
  ·rw [p2 h, fS_conds, fC_conds, show fS (typing_form.ctyping_cond { Cond := c }) = 0 from rfl, show fC (typing_form.ctyping_cond { Cond := c }) = cN c from rfl, cN_eq]
   congr 1
   omega
theorem ev_count : ∀ (m : Nat) (l : List typing_form) (d : Nat) (st co : Int), fZs l ≤ m → l.length ≤ 2097152 → (∀ f ∈ l, fwf f) → d ≤ 17 → 0 ≤ st → st ≤ 66 → (st ≤ 65 ∨ ∀ f ∈ l, ∃ c, f = ofCond c) → 0 ≤ co → co ≤ 256 → Cnt F_c l d st co := by
 intro m
 induction m using Nat.strongRecOn with
 | _ m ih =>
 intro l d st co hm hl hw hd h0 h1 h1' h2 h3
 unfold Cnt
 have unf : ∀ c : typing_count, (∃ c' : typing_count, Ev (fun n => B_c (F_c n) n l (d : Int) c) (c', okL l d st co) ∧ (okL l d st co = true → c' = { steps := st + fSs l, conds := co + fCs l })) → ∃ c' : typing_count, Ev (fun n => F_c n l (d : Int) c) (c', okL l d st co) ∧ (okL l d st co = true → c' = { steps := st + fSs l, conds := co + fCs l }) := by
  rintro c ⟨c', q1, q2⟩
  exact ⟨c', Ev.succ q1, q2⟩
 refine unf _ ?_
 unfold B_c
 cases hll : l with
 | nil =>
  refine ⟨{ steps := st, conds := co }, ?_, fun _ => by simp [fSs, fCs]⟩
  refine Ev.bind (v := false) (Ev.pure _) (Ev.ff ?_)
  refine Ev.bind (v := Ctl.cont { steps := st, conds := co }) (EvI.ev (EvI.done ?_)) (Ev.pure _)
  exact Ev.pure _
 | cons f0 r0 =>
 rw [← hll]
 have hne : l.isEmpty = false := by rw [hll]; rfl
 have hpos : 0 < l.length := by rw [hll]; simp
 by_cases hdd : d ≤ 16
 rotate_left
 ·have : okL l d st co = false := by unfold okL; rw [hne, decF hdd]; rfl
  rw [this]
  refine ⟨{ steps := st, conds := co }, ?_, fun h => by cases h⟩
  rw [decT (show (0 : Int) < (l.length : Int) by omega), decT (show (16 : Int) < (d : Int) by omega)]
  exact Ev.bind (Ev.pure _) (Ev.pure _)
 have eLR : okL l d st co = okR l d st co := by unfold okL okR; rw [decT hdd, Bool.true_and]
 rw [eLR]
 have loop : ∀ (r : List typing_form) (i : Nat) (st co : Int), l.drop i = r → i ≤ l.length → 0 ≤ st → st ≤ 66 → (st ≤ 65 ∨ ∀ f ∈ l, ∃ c, f = ofCond c) → 0 ≤ co → co ≤ 256 →
   ∃ c' : typing_count, EvI (fun n => F_ei n l (d : Int) (F_c n)) ({ steps := st, conds := co }, (i : Int)) (bif okR r d st co then Ctl.cont c' else Ctl.done (c', false)) ∧ (okR r d st co = true → c' = { steps := st + fSs r, conds := co + fCs r }) := by
  intro r
  induction r with
  | nil =>
   intro i st co hr hi _ _ _ _ _
   refine ⟨{ steps := st, conds := co }, EvI.done ?_, fun _ => by simp [fSs, fCs]⟩
   unfold F_ei
   simp only [end_drop hr hi, cond_false]
   exact Ev.pure _
  | cons f r ihr =>
   intro i st co hr hi g0 g1 g1' g2 g3
   obtain ⟨ha, hr'⟩ := At.of_drop (by omega) hr
   have hfm : fZ f ≤ fZs l := by
    have : ∀ (l : List typing_form), f ∈ l → fZ f ≤ fZs l := by
     intro l
     induction l with
     | nil => intro h; cases h
     | cons x l ih =>
      intro h
      rw [fZs_cons]
      rcases List.mem_cons.1 h with rfl | h
      ·omega
      ·have := ih h; omega
    exact this l ha.mem
   obtain ⟨c', p1, p2⟩ := count_elem (R := F_c) hdd ha (hw f ha.mem) (fun l' d' st co k1 k2 k3 k4 k5 k6 k6' k7 k8 => ih (fZs l') (by omega) l' d' st co (Nat.le_refl _) k2 k3 k4 k5 k6 k6' k7 k8) g0 g1 (g1'.imp id fun h => h f ha.mem) g2 g3
   rw [okR_cons]
   cases hf : okF f d st co with
   | false =>
    rw [hf] at p1
    exact ⟨c', EvI.done p1, fun h => by cases h⟩
   | true =>
    rw [hf] at p1
    obtain rfl := p2 hf
    have hb : st + fS f ≤ 64 ∧ co + fC f ≤ 256 := by
     unfold okF at hf
     simp only [Bool.and_eq_true, decide_eq_true_eq] at hf
     exact hf.2
    obtain ⟨c2, u1, u2⟩ := ihr (i + 1) (st + fS f) (co + fC f) hr' (by have := ha.lt'; omega) (by omega) (by omega) (.inl (by omega)) (by omega) (by omega)
    refine ⟨c2, EvI.cont p1 u1, fun h => ?_⟩
    rw [u2 (by simpa using h), fSs_cons, fCs_cons]
    congr 1 <;> omega
 obtain ⟨c', p1, p2⟩ := loop l 0 st co rfl (Nat.zero_le _) h0 h1 h1' h2 h3
 refine ⟨c', ?_, p2⟩
 refine Ev.bind (v := false) ?_ (Ev.ff (Ev.bind p1.ev ?_))
 ·rw [decT (show (0 : Int) < (l.length : Int) by omega), decF (show ¬ (16 : Int) < (d : Int) by omega)]
  exact Ev.pure _
 ·cases okR l d st co <;> exact Ev.pure _
end Go.Sw
