/- typing.Ties and the reference's Ties, in plain Lean: what is valid. -/
import Derived.Test.YtjikdlekkmifhaaGreatPTt
set_option linter.unusedVariables false
set_option linter.unusedSimpArgs false
namespace Go.Sw
mutual
def vaC : Cond → Bool
 | ⟨k, v, n, ps⟩ => bif k == 1 then inR 1 3 v && (inR 0 10000 n && ((ps.length : Int) == 0)) else
   bif k == 4 then ((v == 0) && (n == 0)) && (((ps.length : Int) == 1) && vaCs ps) else
   bif (k == 2) || (k == 3) then ((v == 0) && (n == 0)) && ((decide (0 < (ps.length : Int)) && decide ((ps.length : Int) ≤ 16)) && vaCs ps) else false
def vaCs : List Cond → Bool
 | [] => true
 | c :: r => vaC c && vaCs r
end
theorem vaC_eq (c : Cond) : vaC c = bif c.Kind == 1 then inR 1 3 c.Var && (inR 0 10000 c.N && ((c.Parts.length : Int) == 0)) else
   bif c.Kind == 4 then ((c.Var == 0) && (c.N == 0)) && (((c.Parts.length : Int) == 1) && vaCs c.Parts) else
   bif (c.Kind == 2) || (c.Kind == 3) then ((c.Var == 0) && (c.N == 0)) && ((decide (0 < (c.Parts.length : Int)) && decide ((c.Parts.length : Int) ≤ 16)) && vaCs c.Parts) else false := by cases c; rfl
theorem vaCs_eq : ∀ l : List Cond, vaCs l = l.all vaC
 | [] => rfl
 | c :: r => by rw [vaCs, List.all_cons, vaCs_eq r]
mutual
def vaS : Step → Bool
 | ⟨k, b, c, t, e⟩ => bif k == 1 then inR 1 5 b && (zeroC c && (((t.length : Int) == 0) && ((e.length : Int) == 0))) else
   bif k == 2 then (b == 0) && (vaC c && (decide (0 < (t.length : Int)) && (vaSs t && vaSs e))) else false
def vaSs : List Step → Bool
 | [] => true
 | s :: r => vaS s && vaSs r
end
theorem vaS_eq (s : Step) : vaS s = bif s.Kind == 1 then inR 1 5 s.By && (zeroC s.Cond && (((s.Then.length : Int) == 0) && ((s.Else.length : Int) == 0))) else
   bif s.Kind == 2 then (s.By == 0) && (vaC s.Cond && (decide (0 < (s.Then.length : Int)) && (vaSs s.Then && vaSs s.Else))) else false := by cases s; rfl
theorem vaSs_eq : ∀ l : List Step, vaSs l = l.all vaS
 | [] => rfl
 | c :: r => by rw [vaSs, List.all_cons, vaSs_eq r]
def fV : typing_form → Bool
 | .ctyping_step x => vaS x.Step
 | .ctyping_cond x => vaC x.Cond
theorem any_ofCond (l : List Cond) : (l.map ofCond).any (fun f => !fV f) = !vaCs l := by
 rw [vaCs_eq, List.not_all_eq_any_not, List.any_map]
 rfl
theorem any_ofStep (l : List Step) : (l.map ofStep).any (fun f => !fV f) = !vaSs l := by
 rw [vaSs_eq, List.not_all_eq_any_not, List.any_map]
 rfl
theorem ev_validC {R : Nat → List typing_form → Option Bool} (c : Cond) (hw : Cond.wf c) (ih : Ev (fun n => R n (c.Parts.map ofCond)) (!vaCs c.Parts)) :
  Ev (fun n => F_ax (R n) n { Cond := c }) (vaC c) := by
 unfold F_ax
 rw [vaC_eq]
 refine Ev.bind (v := (c.Var == 0) && (c.N == 0)) (Ev.and fun _ => Ev.pure _) ?_
 refine Ev.bif (fun _ => ?_) (fun h1 => ?_)
 ·exact Ev.bind (Ev.bind (ev_within1 _ _ _) (Ev.and fun _ => Ev.bind (ev_within1 _ _ _) (Ev.and fun _ => Ev.pure _))) (Ev.pure _)
 ·have fin : ∀ b : Bool, Ev (fun n => ((bif b then (F_w n { Cond := c }).bind fun r42 => (R n r42).bind fun r43 => some (!r43) else some false) : Option Bool).bind fun b39 => some b39) (b && vaCs c.Parts) := by
   intro b
   refine Ev.bind ((Ev.and fun _ => Ev.bind (ev_condParts c hw) (Ev.bind ih (Ev.pure _)))) ((Ev.pure _).eq (by simp))
  cases h4 : (c.Kind == 4) with
  | true =>
   simp only [cond_true]
   cases hp : ((c.Var == 0) && (c.N == 0)) with
   | true =>
    refine Ev.bind (v := Ctl.cont ((c.Parts.length : Int) == 1)) (Ev.pure _) ((fin _).eq (by simp))
   | false =>
    refine Ev.bind (v := Ctl.cont false) (Ev.pure _) ((fin _).eq (by simp))
  | false =>
   simp only [cond_false]
   cases h23 : ((c.Kind == 2) || (c.Kind == 3)) with
   | true =>
    simp only [cond_true]
    have e : Ev (fun n : Nat => ((bif (c.Kind == 2) then some (c.Kind == 2) else some (c.Kind == 3)) : Option Bool)) true := by
     refine Ev.const ?_
     rw [bif_or, h23]
    cases hp : ((c.Var == 0) && (c.N == 0)) with
    | true =>
     cases h0 : decide (0 < (c.Parts.length : Int)) with
     | true =>
      refine Ev.bind (v := Ctl.cont (decide ((c.Parts.length : Int) ≤ 16))) (Ev.bind e (Ev.pure _)) ((fin _).eq (by simp))
     | false =>
      refine Ev.bind (v := Ctl.cont false) (Ev.bind e (Ev.pure _)) ((fin _).eq (by simp))
    | false =>
     refine Ev.bind (v := Ctl.cont false) (Ev.bind e (Ev.pure _)) ((fin _).eq (by simp))
   | false =>
    have e : Ev (fun n : Nat => ((bif (c.Kind == 2) then some (c.Kind == 2) else some (c.Kind == 3)) : Option Bool)) false := by
     refine Ev.const ?_
     rw [bif_or, h23]
    refine Ev.bind (v := Ctl.done false) (Ev.bind e (Ev.pure _)) (Ev.pure _)
theorem ev_invalid : ∀ (m : Nat) (l : List typing_form), fZs l ≤ m → l.length ≤ 2097152 → (∀ f ∈ l, fwf f) → Ev (fun n => F_j n l) (l.any fun f => !fV f) := by
 intro m
 induction m using Nat.strongRecOn with
 | _ m ih =>
 intro l hm hl hw
 refine Ev.succ ?_
 show Ev (fun n => B_j (F_j n) n l) _
 unfold B_j F_ea
 refine Ev.contains l _ (fun n f => F_bd (F_j n) n f) (by omega) fun f hf => ?_
 have hfm : fZ f ≤ fZs l := by
  have : ∀ (l : List typing_form), f ∈ l → fZ f ≤ fZs l := by
   intro l
   induction l with
   | nil => intro h; cases h
   | cons x l ih =>
    intro h
    rw [fZs_cons]
    rcases List.mem_cons.1 h with rfl | h
    ·omega
    ·have := ih h; omega
  exact this l hf
 unfold F_bd
 refine Ev.bind (v := fV f) ?_ (Ev.pure _)
 have condIH : ∀ c : Cond, Cond.wf c → cNs c.Parts < fZ f → Ev (fun n => F_j n (c.Parts.map ofCond)) (!vaCs c.Parts) := by
  intro c hc hs
  rw [← any_ofCond]
  obtain ⟨w1, w2⟩ := Cond.wf_parts hc
  refine ih (fZs (c.Parts.map ofCond)) (by rw [fZ_conds]; omega) _ (Nat.le_refl _) (by simp; omega) ?_
  intro g hg
  obtain ⟨y, hy, rfl⟩ := List.mem_map.1 hg; exact w2 y hy
 cases f with
 | ctyping_cond x =>
  obtain ⟨c⟩ := x
  have hc : Cond.wf c := hw _ hf
  exact ev_validC (R := F_j) c hc (condIH c hc (by show cNs c.Parts < cN c; rw [cN_eq]; omega))
 | ctyping_step x =>
  obtain ⟨s⟩ := x
  have hs : Step.wf s := hw _ hf
  obtain ⟨wc, ⟨wt1, wt2⟩, ⟨we1, we2⟩⟩ := Step.wf_parts hs
  unfold F_es
  show Ev _ (vaS s)
  rw [vaS_eq]
  simp only [typing_form.elim]
  refine Ev.bif (fun _ => ?_) (fun h1 => Ev.bif (fun _ => ?_) fun _ => Ev.pure _)
  ·refine Ev.bind (Ev.bind (ev_within1 _ _ _) (Ev.and fun _ => ?_)) (Ev.pure _)
   simp only [ev_isZero, Option.bind_some]
   refine Ev.and fun _ => Ev.bind (ev_stepParts s hs) ((Ev.pure _).eq ?_)
   unfold stepParts
   rw [Bool.eq_iff_iff]
   simp only [beq_iff_eq, Bool.and_eq_true, List.length_append, List.length_map]
   omega
  ·refine Ev.bind (Ev.and fun _ => ?_) (Ev.pure _)
   refine Ev.bind (ev_validC (R := F_j) s.Cond wc (condIH s.Cond wc (by show _ < sZ s; rw [sZ_eq, cN_eq]; omega))) (Ev.and fun _ => Ev.and fun _ => ?_)
   refine Ev.bind (ev_stepParts s hs) (Ev.bind (ih (fZs (stepParts s)) ?_ _ (Nat.le_refl _) (by unfold stepParts; simp; omega) ?_) ((Ev.pure _).eq ?_))
   ·have : fZs (stepParts s) < sZ s := by
     unfold stepParts
     rw [fZs_append, fZ_steps, fZ_steps, sZ_eq]; omega
    have h2 : fZ (typing_form.ctyping_step { Step := s }) = sZ s := rfl
    omega
   ·intro g hg
    unfold stepParts at hg
    rcases List.mem_append.1 hg with hg | hg
    ·obtain ⟨y, hy, rfl⟩ := List.mem_map.1 hg; exact wt2 y hy
    ·obtain ⟨y, hy, rfl⟩ := List.mem_map.1 hg; exact we2 y hy
   ·unfold stepParts
    rw [List.any_append, any_ofStep, any_ofStep]
    simp
def goodT (l : List Step) : Bool := sDs 0 l && (decide (sNs l ≤ 64) && decide (sCs l ≤ 256))
def tiesE (l : List Step) : Int := bif goodT l then (bif l.isEmpty || !vaSs l then 71 else 0) else 2
theorem okL_ties (l : List Step) : okL (l.map ofStep) 0 0 0 = goodT l := by
 rw [Bool.eq_iff_iff, okL_iff _ _ _ _ (by omega) (by omega), ← fD_steps, fS_steps, fC_steps]
 unfold goodT
 simp only [Bool.and_eq_true, decide_eq_true_eq]
 constructor
 ·rintro ⟨a, b, c⟩; exact ⟨a, by omega, by omega⟩
 ·rintro ⟨a, b, c⟩; exact ⟨a, by omega, by omega⟩
theorem ev_Ties (l : List Step) (hl : l.length ≤ 1048576) (hw : ∀ x ∈ l, Step.wf x) : Ev (fun n => F_bj n l) (tiesE l) := by
 unfold F_bj
 refine Ev.bind (ev_steps l (by omega)) (Ev.bind (v := tiesE l) ?_ (Ev.pure _))
 have fw : ∀ f ∈ l.map ofStep, fwf f := by
  intro g hg
  obtain ⟨y, hy, rfl⟩ := List.mem_map.1 hg; exact hw y hy
 obtain ⟨c', p1, p2⟩ := ev_count _ (l.map ofStep) 0 0 0 (Nat.le_refl _) (by simp; omega) fw (by omega) (by omega) (by omega) (.inl (by omega)) (by omega) (by omega)
 rw [okL_ties] at p1
 unfold F_fk
 have p3 : Ev (fun n => F_et n (l.map ofStep) 0 { steps := 0, conds := 0 }) (c', goodT l) := p1.shift
 refine Ev.bind p3 ?_
 unfold tiesE
 cases goodT l with
 | false => exact Ev.pure _
 | true =>
  simp only [Bool.not_true, cond_false, cond_true]
  have e : (((l.map ofStep).length : Int) == 0) = l.isEmpty := by
   cases l <;> simp
   omega
  rw [e]
  refine Ev.bind (Ev.or fun _ => Ev.bind (ev_invalid _ _ (Nat.le_refl _) (by simp; omega) fw) (Ev.pure _)) ?_
  rw [any_ofStep]
  cases (l.isEmpty || !vaSs l) <;> exact Ev.pure _
def condB (d : Nat) : Int := 256 * (18 - (d : Int)) + 1000
theorem ev_conditions : ∀ (m : Nat) (c : Cond) (d : Nat), cN c ≤ m → d ≤ 17 → Cond.wf c → ∃ v : Int, Ev (fun n => F_h n c (d : Int)) v ∧ 0 ≤ v ∧ v ≤ condB d ∧
  (d ≤ 16 ∧ cD (d + 1) c = true ∧ cN c ≤ 256 → v = cN c) ∧ (¬ (d ≤ 16 ∧ cD (d + 1) c = true ∧ cN c ≤ 256) → 256 < v) := by
 intro m
 induction m using Nat.strongRecOn with
 | _ m ih =>
 intro c d hm hd hw
 obtain ⟨wp1, wp2⟩ := Cond.wf_parts hw
 have unf : ∀ {P : Int → Prop}, (∃ v : Int, Ev (fun n => B_h (F_h n) n c (d : Int)) v ∧ P v) → ∃ v : Int, Ev (fun n => F_h n c (d : Int)) v ∧ P v := by
  rintro P ⟨v, h1, h2⟩; exact ⟨v, Ev.succ h1, h2⟩
 refine unf ?_
 unfold B_h
 by_cases hdd : d ≤ 16
 ·rw [decF (show ¬ (16 : Int) < (d : Int) by omega)]
  have ed : IntKind.i64.wrap ((d : Int) + 1) = ((d + 1 : Nat) : Int) := wrap_succ (by omega)
  have loop : ∀ (r : List Cond) (i : Nat) (a : Int), c.Parts.drop i = r → i ≤ c.Parts.length → 0 ≤ a → a ≤ condB d →
    ∃ v : Int, EvI (fun n => F_dm n c (d : Int) (F_h n)) (a, (i : Int)) v ∧ 0 ≤ v ∧ v ≤ condB d ∧
     (cDs (d + 1) r = true ∧ a + cNs r ≤ 256 → v = a + cNs r) ∧ (¬ (cDs (d + 1) r = true ∧ a + cNs r ≤ 256) → 256 < v) := by
   intro r
   induction r with
   | nil =>
    intro i a hr hi h0 h1
    refine ⟨a, EvI.done ?_, h0, h1, fun _ => by simp [cNs], fun h => ?_⟩
    ·unfold F_dm
     simp only [end_drop hr hi, cond_false, Option.bind_some]
     exact Ev.pure _
    ·simp [cDs, cNs] at h; omega
   | cons x r ihr =>
    intro i a hr hi h0 h1
    obtain ⟨ha, hr'⟩ := At.of_drop (by omega) hr
    have hx : cN x < cN c := by
     have : ∀ l : List Cond, x ∈ l → cN x ≤ cNs l := by
      intro l
      induction l with
      | nil => intro h; cases h
      | cons y l ih =>
       intro h
       rw [cNs]
       rcases List.mem_cons.1 h with rfl | h
       ·omega
       ·have := ih h; omega
     have := this _ ha.mem
     rw [cN_eq c]; omega
    by_cases hlim : a ≤ 256
    ·obtain ⟨v, p1, p2, p3, p4, p5⟩ := ih (cN x) (by omega) x (d + 1) (Nat.le_refl _) (by omega) (wp2 x ha.mem)
     have hB : condB (d + 1) + 256 = condB d := by unfold condB; omega
     have hB2 : condB d ≤ 6000 := by unfold condB; omega
     have e1 : IntKind.i64.wrap (a + v) = a + v := wrap64 (by omega) (by omega)
     obtain ⟨w, q1, q2, q3, q4, q5⟩ := ihr (i + 1) (a + v) hr' (by have := ha.lt'; omega) (by omega) (by omega)
     refine ⟨w, EvI.cont ?_ q1, q2, q3, ?_, ?_⟩
     ·unfold F_dm
      simp only [ha.lt, cond_true, decT hlim, Option.bind_some, ha.ix, ha.nx, ed]
      refine Ev.bind p1 ?_
      rw [e1]
      exact Ev.pure _
     ·rintro ⟨h2, h3⟩
      simp only [cDs, Bool.and_eq_true, decide_eq_true_eq] at h2
      rw [cNs] at h3 ⊢
      have := p4 ⟨h2.1, h2.2.1, by omega⟩
      subst this
      rw [q4 ⟨h2.2.2, by omega⟩]
      omega
     ·intro hn
      by_cases hg : d + 1 ≤ 16 ∧ cD (d + 1 + 1) x = true ∧ cN x ≤ 256
      ·have := p4 hg
       subst this
       refine q5 fun h2 => hn ⟨?_, ?_⟩
       ·simp only [cDs, Bool.and_eq_true, decide_eq_true_eq]; exact ⟨hg.1, hg.2.1, h2.1⟩
       ·rw [cNs]; omega
      ·have := p5 hg
       exact q5 fun h2 => by omega
    ·refine ⟨a, EvI.done ?_, h0, h1, fun h => ?_, fun _ => by omega⟩
     ·unfold F_dm
      simp only [ha.lt, cond_true, decF hlim, Option.bind_some, cond_false]
      exact Ev.pure _
     ·omega
  obtain ⟨v, p1, p2, p3, p4, p5⟩ := loop c.Parts 0 1 rfl (Nat.zero_le _) (by omega) (by unfold condB; omega)
  refine ⟨v, Ev.ff (Ev.bind p1.ev (Ev.pure _)), p2, p3, ?_, ?_⟩
  ·rintro ⟨_, h2, h3⟩
   rw [cD_eq] at h2
   rw [cN_eq] at h3 ⊢
   rw [p4 ⟨h2, by omega⟩]; omega
  ·intro hn
   refine p5 fun h => hn ⟨hdd, by rw [cD_eq]; exact h.1, by rw [cN_eq]; omega⟩
 ·rw [decT (show (16 : Int) < (d : Int) by omega)]
  refine ⟨1000, Ev.tt (Ev.pure _), by omega, by unfold condB; omega, fun h => absurd h.1 hdd, fun _ => by omega⟩
end Go.Sw
