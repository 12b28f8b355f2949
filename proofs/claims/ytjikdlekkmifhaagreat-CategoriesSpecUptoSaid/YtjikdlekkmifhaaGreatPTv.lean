/- The reference's Ties, in plain Lean. -/
import Derived.Test.YtjikdlekkmifhaaGreatPTu
set_option linter.unusedVariables false
set_option linter.unusedSimpArgs false
namespace Go.Sw
def sizeB : Nat → Int
 | 0 => 10000
 | k + 1 => 3 * sizeB k
theorem sizeB_ge : ∀ k, 10000 ≤ sizeB k
 | 0 => Int.le_refl _
 | k + 1 => by have := sizeB_ge k; simp only [sizeB]; omega
theorem sizeB_le {k : Nat} (h : k ≤ 17) : sizeB k ≤ 1291401630000 := by
 have : ∀ j, j ≤ 17 → sizeB j ≤ 1291401630000 := by decide +kernel
 exact this k h
def goodL (d : Nat) (l : List Step) : Prop := sDs d l = true ∧ sNs l ≤ 64 ∧ sCs l ≤ 256
theorem ev_size : ∀ (m : Nat) (l : List Step) (d : Nat), sZs l ≤ m → d ≤ 17 → l.length ≤ 1048576 → (∀ x ∈ l, Step.wf x) → ∃ a b : Int, Ev (fun n => F_m n l (d : Int)) (a, b) ∧ 0 ≤ a ∧ 0 ≤ b ∧ a ≤ sizeB (17 - d) ∧ b ≤ sizeB (17 - d) ∧
  (goodL d l → a = sNs l ∧ b = sCs l) ∧ (¬ goodL d l → 64 < a ∨ 256 < b) := by
 intro m
 induction m using Nat.strongRecOn with
 | _ m ih =>
 intro l d hm hd hl hw
 have unf : ∀ {P : Int → Int → Prop}, (∃ a b : Int, Ev (fun n => B_m (F_m n) n l (d : Int)) (a, b) ∧ P a b) → ∃ a b : Int, Ev (fun n => F_m n l (d : Int)) (a, b) ∧ P a b := by
  rintro P ⟨a, b, h1, h2⟩; exact ⟨a, b, Ev.succ h1, h2⟩
 refine unf ?_
 unfold B_m
 by_cases hbad : 0 < l.length ∧ ¬ d ≤ 16
 ·rw [decT (show (0 : Int) < (l.length : Int) by omega), decT (show (16 : Int) < (d : Int) by omega)]
  have := sizeB_ge (17 - d)
  refine ⟨1000, 1000, Ev.bind (Ev.pure _) (Ev.tt (Ev.pure _)), by omega, by omega, by omega, by omega, fun h => ?_, fun _ => by omega⟩
  exfalso
  cases l with
  | nil => simp at hbad
  | cons x r =>
   have := h.1
   simp only [sDs, Bool.and_eq_true, decide_eq_true_eq] at this
   exact hbad.2 this.1
 ·have h0 : Ev (fun n : Nat => ((bif decide (0 < (l.length : Int)) then some (decide (16 < (d : Int))) else some false) : Option Bool)) false := by
   by_cases hp : 0 < l.length
   ·have : d ≤ 16 := by
     rcases Nat.lt_or_ge 16 d with q | q
     ·exact absurd ⟨hp, by omega⟩ hbad
     ·exact q
    rw [decT (show (0 : Int) < (l.length : Int) by omega), decF (show ¬ (16 : Int) < (d : Int) by omega)]
    exact Ev.pure _
   ·rw [decF (show ¬ (0 : Int) < (l.length : Int) by omega)]
    exact Ev.pure _
  have ed : IntKind.i64.wrap ((d : Int) + 1) = ((d + 1 : Nat) : Int) := wrap_succ (by omega)
  have loop : ∀ (r : List Step) (i : Nat) (a b : Int), l.drop i = r → i ≤ l.length → 0 ≤ a → 0 ≤ b → a ≤ sizeB (17 - d) → b ≤ sizeB (17 - d) →
    ∃ a' b' : Int, EvI (fun n => F_dr n l (d : Int) (F_m n)) (a, b, (i : Int)) (a', b') ∧ 0 ≤ a' ∧ 0 ≤ b' ∧ a' ≤ sizeB (17 - d) ∧ b' ≤ sizeB (17 - d) ∧
     (sDs d r = true ∧ a + sNs r ≤ 64 ∧ b + sCs r ≤ 256 → a' = a + sNs r ∧ b' = b + sCs r) ∧ (¬ (sDs d r = true ∧ a + sNs r ≤ 64 ∧ b + sCs r ≤ 256) → 64 < a' ∨ 256 < b') := by
   intro r
   induction r with
   | nil =>
    intro i a b hr hi h0 h1 h2 h3
    refine ⟨a, b, EvI.done ?_, h0, h1, h2, h3, fun _ => by simp [sNs, sCs], fun h => ?_⟩
    ·unfold F_dr
     simp only [end_drop hr hi, cond_false, Option.bind_some]
     exact Ev.pure _
    ·simp [sDs, sNs, sCs] at h; omega
   | cons s r ihr =>
    intro i a b hr hi h0 h1 h2 h3
    obtain ⟨ha, hr'⟩ := At.of_drop (by omega) hr
    have hlt := ha.lt'
    have hd16 : d ≤ 16 := by
     rcases Nat.lt_or_ge 16 d with q | q
     ·exact absurd ⟨by omega, by omega⟩ hbad
     ·exact q
    have hsz : sZ s ≤ sZs l := by
     have : ∀ l : List Step, s ∈ l → sZ s ≤ sZs l := by
      intro l
      induction l with
      | nil => intro h; cases h
      | cons y l ih =>
       intro h
       rw [sZs]
       rcases List.mem_cons.1 h with rfl | h
       ·omega
       ·have := ih h; omega
     exact this _ ha.mem
    by_cases hlim : a ≤ 64 ∧ b ≤ 256
    ·obtain ⟨wc, ⟨wt1, wt2⟩, ⟨we1, we2⟩⟩ := Step.wf_parts (hw s ha.mem)
     have hzz := sZ_eq s
     obtain ⟨x1, x2, p1, p2, p3, p4, p5, p6, p7⟩ := ih (sZs s.Then) (by omega) s.Then (d + 1) (Nat.le_refl _) (by omega) wt1 wt2
     obtain ⟨y1, y2, q1, q2, q3, q4, q5, q6, q7⟩ := ih (sZs s.Else) (by omega) s.Else (d + 1) (Nat.le_refl _) (by omega) we1 we2
     have hB : sizeB (17 - d) = 3 * sizeB (17 - (d + 1)) := by
      rw [show 17 - d = (17 - (d + 1)) + 1 by omega]; rfl
     have hB1 := sizeB_ge (17 - (d + 1))
     have hB2 := sizeB_le (k := 17 - d) (by omega)
     have hc : ∃ z : Int, 0 ≤ z ∧ z ≤ 5608 ∧ Ev (fun n => ((bif (!zeroC s.Cond) then (idx l (i : Int)).bind fun x72 => (F_h n x72.Cond 0).bind fun r73 => some (IntKind.i64.wrap ((IntKind.i64.wrap ((IntKind.i64.wrap (b + x2)) + y2)) + r73)) else some (IntKind.i64.wrap ((IntKind.i64.wrap (b + x2)) + y2))) : Option Int)) (b + x2 + y2 + z) ∧
       ((zeroC s.Cond || cD 1 s.Cond) = true ∧ (bif zeroC s.Cond then 0 else cN s.Cond) ≤ 256 → z = ((bif zeroC s.Cond then 0 else cN s.Cond : Nat) : Int)) ∧ (¬ ((zeroC s.Cond || cD 1 s.Cond) = true ∧ (bif zeroC s.Cond then 0 else cN s.Cond) ≤ 256) → 256 < z) := by
      have e1 : IntKind.i64.wrap (b + x2) = b + x2 := wrap64 (by omega) (by omega)
      have e2 : IntKind.i64.wrap (b + x2 + y2) = b + x2 + y2 := wrap64 (by omega) (by omega)
      cases hz : zeroC s.Cond with
      | true =>
       refine ⟨0, by omega, by omega, ?_, fun _ => by simp, fun h => absurd ⟨rfl, by simp⟩ h⟩
       simp only [Bool.not_true, cond_false, e1, e2]
       exact (Ev.pure _).eq (by omega)
      | false =>
       obtain ⟨v, u1, u2, u3, u4, u5⟩ := ev_conditions _ s.Cond 0 (Nat.le_refl _) (by omega) wc
       have u3' : v ≤ 5608 := by unfold condB at u3; omega
       have e3 : IntKind.i64.wrap (b + x2 + y2 + v) = b + x2 + y2 + v := wrap64 (by omega) (by omega)
       refine ⟨v, u2, u3', ?_, fun h => ?_, fun h => ?_⟩
       ·simp only [Bool.not_false, cond_true, ha.ix, Option.bind_some, e1, e2]
        refine Ev.bind u1 ?_
        rw [e3]
        exact Ev.pure _
       ·simp only [Bool.false_or, cond_false] at h ⊢
        exact u4 ⟨by omega, h.1, h.2⟩
       ·simp only [Bool.false_or, cond_false] at h
        exact u5 fun q => h ⟨q.2.1, q.2.2⟩
     obtain ⟨z, z0, z1, z2, z3, z4⟩ := hc
     have e4 : IntKind.i64.wrap (a + 1) = a + 1 := wrap64 (by omega) (by omega)
     have e5 : IntKind.i64.wrap (a + 1 + x1) = a + 1 + x1 := wrap64 (by omega) (by omega)
     have e6 : IntKind.i64.wrap (a + 1 + x1 + y1) = a + 1 + x1 + y1 := wrap64 (by omega) (by omega)
     obtain ⟨w1, w2, v1, v2, v3, v4, v5, v6, v7⟩ := ihr (i + 1) (a + 1 + x1 + y1) (b + x2 + y2 + z) hr' (by omega) (by omega) (by omega) (by omega) (by omega)
     refine ⟨w1, w2, EvI.cont ?_ v1, v2, v3, v4, v5, ?_, ?_⟩
     ·unfold F_dr
      simp only [ha.lt, cond_true, decT hlim.1, decT hlim.2, Option.bind_some, ha.ix, ha.nx, ed, ev_refZero]
      refine Ev.bind p1 (Ev.bind q1 ?_)
      simp only [ha.ix, Option.bind_some] at z2
      refine Ev.bind z2 ?_
      rw [e4, e5, e6]
      exact Ev.pure _
     ·rintro ⟨g1, g2, g3⟩
      simp only [sDs, Bool.and_eq_true, decide_eq_true_eq, sD_eq] at g1
      obtain ⟨g11, ⟨g12, g13, g14⟩, g15⟩ := g1
      rw [sNs, sN_eq] at g2 ⊢
      rw [sCs, sC_eq] at g3 ⊢
      obtain ⟨k1, k2⟩ := p6 ⟨g13, by omega, by omega⟩
      obtain ⟨k3, k4⟩ := q6 ⟨g14, by omega, by omega⟩
      have k5 := z3 ⟨g12, by omega⟩
      obtain ⟨k6, k7⟩ := v6 ⟨g15, by omega, by omega⟩
      constructor <;> omega
     ·intro hn
      by_cases b1 : goodL (d + 1) s.Then
      ·obtain ⟨k1, k2⟩ := p6 b1
       by_cases b2 : goodL (d + 1) s.Else
       ·obtain ⟨k3, k4⟩ := q6 b2
        by_cases b3 : (zeroC s.Cond || cD 1 s.Cond) = true ∧ (bif zeroC s.Cond then 0 else cN s.Cond) ≤ 256
        ·have k5 := z3 b3
         refine v7 fun q => hn ⟨?_, ?_, ?_⟩
         ·simp only [sDs, Bool.and_eq_true, decide_eq_true_eq, sD_eq]
          exact ⟨hd16, ⟨b3.1, b1.1, b2.1⟩, q.1⟩
         ·rw [sNs, sN_eq]; omega
         ·rw [sCs, sC_eq]; omega
        ·have := z4 b3
         exact v7 fun q => by omega
       ·have := q7 b2
        exact v7 fun q => by omega
      ·have := p7 b1
       exact v7 fun q => by omega
    ·refine ⟨a, b, EvI.done ?_, h0, h1, h2, h3, fun h => ?_, fun _ => ?_⟩
     ·unfold F_dr
      have : Ev (fun n : Nat => ((bif decide ((i : Int) < (l.length : Int)) then (bif decide (a ≤ 64) then some (decide (b ≤ 256)) else some false) else some false) : Option Bool)) false := by
       rw [ha.lt]
       by_cases q : a ≤ 64
       ·rw [decT q, decF (show ¬ b ≤ 256 from fun z => hlim ⟨q, z⟩)]; exact Ev.pure _
       ·rw [decF q]; exact Ev.pure _
      exact Ev.bind this (Ev.ff (Ev.pure _))
     ·omega
     ·omega
  have hB1 := sizeB_ge (17 - d)
  obtain ⟨a, b, p1, p2, p3, p4, p5, p6, p7⟩ := loop l 0 0 0 rfl (Nat.zero_le _) (by omega) (by omega) (by omega) (by omega)
  refine ⟨a, b, Ev.bind h0 (Ev.ff (Ev.bind p1.ev (Ev.pure _))), p2, p3, p4, p5, fun h => ?_, fun h => ?_⟩
  ·obtain ⟨k1, k2⟩ := p6 ⟨h.1, by have := h.2.1; omega, by have := h.2.2; omega⟩
   constructor <;> omega
  ·exact p7 fun q => h ⟨q.1, by omega, by omega⟩
theorem ev_refParts : ∀ (m : Nat) (c : Cond), cN c ≤ m → Cond.wf c → Ev (fun n => F_u n c) (vaC c) := by
 intro m
 induction m using Nat.strongRecOn with
 | _ m ih =>
 intro c hm hw
 obtain ⟨wp1, wp2⟩ := Cond.wf_parts hw
 refine Ev.succ ?_
 show Ev (fun n => B_u (F_u n) n c) _
 unfold B_u
 rw [vaC_eq]
 have hx : ∀ x ∈ c.Parts, cN x < cN c := by
  intro x hx
  have : ∀ l : List Cond, x ∈ l → cN x ≤ cNs l := by
   intro l
   induction l with
   | nil => intro h; cases h
   | cons y l ih =>
    intro h
    rw [cNs]
    rcases List.mem_cons.1 h with rfl | h
    ·omega
    ·have := ih h; omega
  have := this _ hx
  rw [cN_eq c]; omega
 have loop : Ev (fun n => iter (F_ed n c (F_u n)) n 0) (bif c.Parts.all vaC then Ctl.cont () else Ctl.done false) := by
  refine Ev.checks c.Parts vaC _ _ (by omega) (fun i x ha => ?_) ?_
  ·unfold F_ed
   simp only [ha.lt, cond_true, ha.ix, Option.bind_some, ha.nx]
   refine Ev.bind (ih (cN x) (by have := hx x ha.mem; omega) x (Nat.le_refl _) (wp2 x ha.mem)) ?_
   cases vaC x <;> exact Ev.pure _
  ·unfold F_ed
   simp only [end_, cond_false]
   exact Ev.pure _
 have fin : Ev (fun n => ((bif (c.Var != 0) then some true else some (c.N != 0)) : Option Bool).bind fun b35 => (bif b35 then some false else (iter (F_ed n c (F_u n)) n 0 : Option (Ctl Unit Bool)).bind fun b48 => match b48 with | .cont sb48 => (some true) | .done sb48 => some sb48)) (((c.Var == 0) && (c.N == 0)) && vaCs c.Parts) := by
  refine Ev.bind (v := !((c.Var == 0) && (c.N == 0))) (Ev.const ?_) ?_
  ·rw [bif_or2]
   simp only [Bool.not_and, bne]
  ·cases ((c.Var == 0) && (c.N == 0)) with
   | false => exact Ev.pure _
   | true =>
    refine Ev.ff (Ev.bind loop ?_)
    rw [vaCs_eq]
    cases c.Parts.all vaC <;> exact Ev.pure _
 refine Ev.bif (fun _ => ?_) (fun h1 => ?_)
 ·refine Ev.bind (v := _) ((Ev.and fun _ => Ev.and fun _ => Ev.and fun _ => Ev.and fun _ => Ev.pure _).eq ?_) (Ev.pure _)
  unfold inR
  simp only [Bool.and_assoc]
 ·have e : Ev (fun n : Nat => ((bif (c.Kind == 2) then some (c.Kind == 2) else some (c.Kind == 3)) : Option Bool)) ((c.Kind == 2) || (c.Kind == 3)) := Ev.const (by rw [bif_or])
  refine Ev.bind e ?_
  cases h23 : ((c.Kind == 2) || (c.Kind == 3)) with
  | true =>
   have h4 : (c.Kind == 4) = false := by
    rw [Bool.eq_false_iff]
    simp only [Bool.or_eq_true, beq_iff_eq] at h23
    simp only [beq_iff_eq, ne_eq]
    omega
   rw [h4]
   simp only [cond_false, cond_true]
   have e2 : (bif decide ((c.Parts.length : Int) < 1) then some true else some (decide (16 < (c.Parts.length : Int)))) = some (!(decide (0 < (c.Parts.length : Int)) && decide ((c.Parts.length : Int) ≤ 16))) := by
    rw [bif_or2]
    congr 1
    rw [Bool.eq_iff_iff]
    simp only [Bool.or_eq_true, decide_eq_true_eq, Bool.not_eq_true', Bool.and_eq_false_iff, decide_eq_false_iff_not]
    omega
   rw [e2]
   cases h5 : (decide (0 < (c.Parts.length : Int)) && decide ((c.Parts.length : Int) ≤ 16)) with
   | false =>
    refine Ev.bind (v := Ctl.done false) (Ev.pure _) ((Ev.pure _).eq (by simp))
   | true =>
    refine Ev.bind (v := Ctl.cont ()) (Ev.pure _) (fin.eq (by simp))
  | false =>
   simp only [cond_false]
   cases h4 : (c.Kind == 4) with
   | true =>
    simp only [cond_true]
    cases h5 : ((c.Parts.length : Int) == 1) with
    | false =>
     refine Ev.bind (v := Ctl.done false) (Ev.const ?_) ((Ev.pure _).eq (by simp))
     simp only [bne, h5, Bool.not_false, cond_true]
    | true =>
     refine Ev.bind (v := Ctl.cont ()) (Ev.const ?_) (fin.eq (by simp))
     simp only [bne, h5, Bool.not_true, cond_false]
   | false =>
    refine Ev.bind (v := Ctl.done false) (Ev.pure _) (Ev.pure _)
theorem ev_refCond (c : Cond) (hw : Cond.wf c) (h1 : cD 1 c = true) (h2 : cN c ≤ 256) : Ev (fun n => F_ao n c) (bif vaC c then 0 else 71) := by
 obtain ⟨v, p1, _, _, p4, _⟩ := ev_conditions _ c 0 (Nat.le_refl _) (by omega) hw
 have := p4 ⟨by omega, h1, h2⟩
 unfold F_ao
 refine Ev.bind p1 ?_
 rw [decF (show ¬ 256 < v by omega)]
 refine Ev.ff (Ev.bind (ev_refParts _ c (Nat.le_refl _) hw) ?_)
 cases vaC c <;> exact Ev.pure _
theorem zero_deep {c : Cond} (h : zeroC c = true) : cD 1 c = true ∧ cN c ≤ 256 := by
 unfold zeroC at h
 simp only [Bool.and_eq_true, beq_iff_eq] at h
 have : c.Parts = [] := List.eq_nil_of_length_eq_zero (by omega)
 rw [cD_eq, cN_eq, this]
 exact ⟨rfl, by simp [cNs]⟩
theorem ev_refSteps : ∀ (m : Nat) (l : List Step) (d : Nat), sZs l ≤ m → l.length ≤ 1048576 → (∀ x ∈ l, Step.wf x) → sDs d l = true → sCs l ≤ 256 → Ev (fun n => F_e n l) (vaSs l) := by
 intro m
 induction m using Nat.strongRecOn with
 | _ m ih =>
 intro l d hm hl hw hd hc
 refine Ev.succ ?_
 show Ev (fun n => B_e (F_e n) n l) _
 unfold B_e
 have hmem : ∀ s ∈ l, sZ s ≤ sZs l ∧ sD (d + 1) s = true ∧ sC s ≤ sCs l := by
  intro s
  have : ∀ l : List Step, s ∈ l → sDs d l = true → sZ s ≤ sZs l ∧ sD (d + 1) s = true ∧ sC s ≤ sCs l := by
   intro l
   induction l with
   | nil => intro h; cases h
   | cons y l ih =>
    intro h hd
    simp only [sDs, Bool.and_eq_true] at hd
    rw [sZs, sCs]
    rcases List.mem_cons.1 h with rfl | h
    ·exact ⟨by omega, hd.2.1, by omega⟩
    ·obtain ⟨h1, h2, h3⟩ := ih h hd.2.2; exact ⟨by omega, h2, by omega⟩
  exact fun h => this l h hd
 rw [vaSs_eq]
 have loop : Ev (fun n => iter (F_go n l (F_e n)) n 0) (bif l.all vaS then Ctl.cont () else Ctl.done false) := by
  refine Ev.checks l vaS _ _ (by omega) (fun i s ha => ?_) ?_
  ·obtain ⟨m1, m2, m3⟩ := hmem s ha.mem
   obtain ⟨wc, ⟨wt1, wt2⟩, ⟨we1, we2⟩⟩ := Step.wf_parts (hw s ha.mem)
   have hzz := sZ_eq s
   have hcc := sC_eq s
   rw [sD_eq] at m2
   simp only [Bool.and_eq_true] at m2
   obtain ⟨mz, mt, me⟩ := m2
   have hcond : cD 1 s.Cond = true ∧ cN s.Cond ≤ 256 := by
    cases hz : zeroC s.Cond with
    | true => exact zero_deep hz
    | false =>
     rw [hz] at mz hcc
     simp only [cond_false] at hcc
     exact ⟨by simpa using mz, by omega⟩
   unfold F_go
   simp only [ha.lt, cond_true, ha.ix, Option.bind_some, ha.nx, ev_refZero]
   rw [vaS_eq]
   cases h1 : (s.Kind == 1) with
   | true =>
    simp only [cond_true]
    have e : Ev (fun n : Nat => ((bif decide (s.By < 1) then some true else (bif decide (5 < s.By) then some true else (bif (!zeroC s.Cond) then some true else (bif ((s.Then.length : Int) != 0) then some true else some ((s.Else.length : Int) != 0))))) : Option Bool)) (!(inR 1 5 s.By && (zeroC s.Cond && (((s.Then.length : Int) == 0) && ((s.Else.length : Int) == 0))))) := by
     refine (Ev.or fun _ => Ev.or fun _ => Ev.or fun _ => Ev.or fun _ => Ev.pure _).eq ?_
     unfold inR
     cases zeroC s.Cond with
     | false => simp
     | true =>
      rw [Bool.eq_iff_iff]
      simp only [Bool.or_eq_true, decide_eq_true_eq, Bool.not_eq_true', Bool.and_eq_false_iff, decide_eq_false_iff_not, bne_iff_ne, ne_eq, beq_eq_false_iff_ne, Bool.not_true, Bool.true_and, Bool.false_eq_true, false_or]
      omega
    cases hb : (inR 1 5 s.By && (zeroC s.Cond && (((s.Then.length : Int) == 0) && ((s.Else.length : Int) == 0)))) with
    | true => rw [hb] at e; exact Ev.bind (Ev.bind e (Ev.pure _)) (Ev.pure _)
    | false => rw [hb] at e; exact Ev.bind (Ev.bind e (Ev.pure _)) (Ev.pure _)
   | false =>
    simp only [cond_false]
    cases h2 : (s.Kind == 2) with
    | true =>
     simp only [cond_true]
     have e : Ev (fun n => ((bif (s.By != 0) then some true else (F_ao n s.Cond).bind fun r205 => (bif (r205 != 0) then some true else (bif ((s.Then.length : Int) == 0) then some true else (F_e n s.Then).bind fun r208 => (bif (!r208) then some true else (F_e n s.Else).bind fun r210 => some (!r210))))) : Option Bool)) (!((s.By == 0) && (vaC s.Cond && (decide (0 < (s.Then.length : Int)) && (vaSs s.Then && vaSs s.Else))))) := by
      have i1 := ih (sZs s.Then) (by omega) s.Then (d + 1) (Nat.le_refl _) wt1 wt2 mt (by omega)
      have i2 := ih (sZs s.Else) (by omega) s.Else (d + 1) (Nat.le_refl _) we1 we2 me (by omega)
      have j2 : Ev (fun n => (F_e n s.Else).bind fun r210 => some (!r210)) (!vaSs s.Else) := Ev.bind i2 (Ev.pure _)
      have j1 : Ev (fun n => (F_e n s.Then).bind fun r208 => (bif (!r208) then some true else (F_e n s.Else).bind fun r210 => some (!r210))) (!vaSs s.Then || !vaSs s.Else) := Ev.bind i1 (Ev.or fun _ => j2)
      refine (Ev.or fun _ => Ev.bind (ev_refCond s.Cond wc hcond.1 hcond.2) (Ev.or fun _ => Ev.or fun _ => j1)).eq ?_
      have e1 : ((bif vaC s.Cond then (0 : Int) else 71) != 0) = !vaC s.Cond := by cases vaC s.Cond <;> rfl
      have e2 : ((s.Then.length : Int) == 0) = !decide (0 < (s.Then.length : Int)) := by
       rw [Bool.eq_iff_iff]; simp
      rw [e1, e2]
      simp only [Bool.not_and, bne]
     cases hb : ((s.By == 0) && (vaC s.Cond && (decide (0 < (s.Then.length : Int)) && (vaSs s.Then && vaSs s.Else)))) with
     | true => rw [hb] at e; exact Ev.bind (Ev.bind e (Ev.pure _)) (Ev.pure _)
     | false => rw [hb] at e; exact Ev.bind (Ev.bind e (Ev.pure _)) (Ev.pure _)
    | false => exact Ev.bind (Ev.pure _) (Ev.pure _)
  ·unfold F_go
   simp only [end_, cond_false]
   exact Ev.pure _
 refine Ev.bind loop ?_
 cases l.all vaS <;> exact Ev.pure _
theorem ev_refTies (l : List Step) (hl : l.length ≤ 1048576) (hw : ∀ x ∈ l, Step.wf x) : Ev (fun n => F_ci n l) (tiesE l) := by
 unfold F_ci
 obtain ⟨a, b, p1, p2, p3, _, _, p6, p7⟩ := ev_size _ l 0 (Nat.le_refl _) (by omega) hl hw
 refine Ev.bind p1 ?_
 have hg : goodT l = true ↔ goodL 0 l := by
  unfold goodT goodL
  simp
 unfold tiesE
 cases hgt : goodT l with
 | false =>
  have := p7 (fun h => by rw [hg.2 h] at hgt; cases hgt)
  have e : (bif decide (64 < a) then some true else some (decide (256 < b))) = some true := by
   rw [bif_or2]
   rcases this with h | h
   ·rw [decT h]; rfl
   ·rw [decT h]; simp
  exact Ev.bind (Ev.const e) (Ev.pure _)
 | true =>
  have hgl := hg.1 hgt
  obtain ⟨k1, k2⟩ := p6 hgl
  have h1 := hgl.2.1
  have h2 := hgl.2.2
  have e : (bif decide (64 < a) then some true else some (decide (256 < b))) = some false := by
   rw [bif_or2, decF (show ¬ 64 < a by omega), decF (show ¬ 256 < b by omega)]; rfl
  refine Ev.bind (Ev.const e) (Ev.ff ?_)
  have e2 : ((l.length : Int) == 0) = l.isEmpty := by
   cases l <;> simp
   omega
  rw [e2]
  refine Ev.bind (Ev.or fun _ => Ev.bind (ev_refSteps _ l 0 (Nat.le_refl _) hl hw hgl.1 h2) (Ev.pure _)) ?_
  simp only [cond_true]
  cases (l.isEmpty || !vaSs l) <;> exact Ev.pure _
end Go.Sw
