/- typing.Course is the reference's Course, where a course is small. -/
import Derived.Test.YtjikdlekkmifhaaGreatPTw
set_option linter.unusedVariables false
set_option linter.unusedSimpArgs false
namespace Go.Sw
def kindAt (c : Course) (m : Int) : Int := ((c.Mats[m.toNat]?).map (·.Kind)).getD 0
def hasLeg (c : Course) (a b : Int) : Bool := c.Legs.any fun l => (l.From == a) && (l.To == b)
def rokS (c : Course) (len : Nat) : Nat → Int → List Int → Bool
 | _, _, [] => true
 | i, prev, m :: r => ((kindAt c m == 1) == decide (i = 0)) && (((kindAt c m == 3) == decide (i + 1 = len)) && ((decide (i = 0) || hasLeg c prev m) && rokS c len (i + 1) m r))
def routeR (c : Course) (d : Distance) (r : List Int) : Bool :=
 (decide (2 ≤ r.length) && decide (r.length ≤ 256)) && (rokS c r.length 0 0 r && ((bif decide (0 ≤ d.Extra) then !((r.count d.Extra : Int) == 0) && ((kindAt c d.Extra == 2) && hasLeg c d.Extra d.Extra) else true) && d.Cutoffs.all fun x => decide (x.Lap ≤ (r.count x.Mat : Int))))
def routeS (c : Course) (d : Distance) : Bool := routeR c d (expS [] d.Route)
def cntM (l : List Int) : List (Int × Int) := l.foldl (fun m k => mset m k (mgetD m k 0 + 1)) []
theorem cntM_snoc (l : List Int) (k : Int) : cntM (l ++ [k]) = mset (cntM l) k (mgetD (cntM l) k 0 + 1) := by unfold cntM; rw [List.foldl_append]; rfl
theorem cntM_get (l : List Int) (k : Int) : mgetD (cntM l) k 0 = (l.count k : Int) := by
 have gen : ∀ (l : List Int) (m : List (Int × Int)), mgetD (l.foldl (fun m k => mset m k (mgetD m k 0 + 1)) m) k 0 = mgetD m k 0 + (l.count k : Int) := by
  intro l
  induction l with
  | nil => intro m; simp
  | cons x l ih =>
   intro m
   rw [List.foldl_cons, ih, mgetD_mset, List.count_cons]
   by_cases h : k = x
   ·subst h; simp; omega
   ·have : (x == k) = false := beq_false_of_ne fun e => h e.symm
    simp [h, this]
 have := gen l []
 simpa [cntM, mgetD_nil] using this
theorem parts_mats (kk : Int) : ∀ (m : Nat) (l : List Part) (out : List Int), szPs l ≤ m → partsS kk l = true → (∀ x ∈ out, 0 ≤ x ∧ x ≤ kk) → ∀ x ∈ expS out l, 0 ≤ x ∧ x ≤ kk := by
 intro m
 induction m using Nat.strongRecOn with
 | _ m ih =>
 intro l
 have rep : ∀ (k : Nat) (out lap : List Int), (∀ x ∈ out, 0 ≤ x ∧ x ≤ kk) → (∀ x ∈ lap, 0 ≤ x ∧ x ≤ kk) → ∀ x ∈ repS k out lap, 0 ≤ x ∧ x ≤ kk := by
  intro k
  induction k with
  | zero => intro out lap h1 _; rw [repS]; exact h1
  | succ k ihk =>
   intro out lap h1 h2
   rw [repS]
   split
   ·exact h1
   ·refine ihk _ _ ?_ h2
    intro x hx
    rcases List.mem_append.1 hx with h | h
    ·exact h1 x h
    ·exact h2 x h
 have gen : ∀ (r : List Part) (out : List Int), szPs r ≤ m → partsS kk r = true → (∀ x ∈ out, 0 ≤ x ∧ x ≤ kk) → ∀ x ∈ expS out r, 0 ≤ x ∧ x ≤ kk := by
  intro r
  induction r with
  | nil => intro out _ _ h; rw [expS]; exact h
  | cons p r ihr =>
   intro out hm hv h
   rw [szPs, szP_eq] at hm
   rw [partsS, Bool.and_eq_true] at hv
   obtain ⟨hp, hr⟩ := hv
   rw [expS]
   refine ihr _ (by omega) hr (rep _ _ _ h ?_)
   rw [lapS_eq]
   rw [partS_eq] at hp
   cases h0 : (p.Laps == 0) with
   | true =>
    have e0 : p.Laps = 0 := by simpa using h0
    rw [h0, cond_true, Bool.and_eq_true] at hp
    have := hp.1
    unfold inR at this
    simp only [Bool.and_eq_true, decide_eq_true_eq] at this
    rw [e0]
    intro x hx
    simp at hx
    subst hx
    exact this
   | false =>
    rw [h0] at hp
    simp only [cond_false, Bool.and_eq_true, inR, decide_eq_true_eq] at hp
    rw [decT (show 0 < p.Laps by omega), cond_true]
    exact ih (szPs p.Parts) (by omega) p.Parts [] (Nat.le_refl _) hp.2.2.2 (by simp)
 exact fun out hm hv h => gen l out hm hv h
theorem mat_idx {c : Course} {m : Int} (h0 : 0 ≤ m) (h1 : m ≤ (c.Mats.length : Int) - 1) : ∃ x : Mat, idx c.Mats m = some x ∧ x.Kind = kindAt c m := by
 obtain ⟨k, rfl⟩ : ∃ k : Nat, m = (k : Int) := ⟨m.toNat, by omega⟩
 have hlt : k < c.Mats.length := by omega
 refine ⟨c.Mats[k], idx_nat (List.getElem?_eq_getElem hlt), ?_⟩
 unfold kindAt
 rw [Int.toNat_natCast, List.getElem?_eq_getElem hlt]; rfl
theorem legs_has (c : Course) (a b : Int) : mgetD (msetAll legKey true c.Legs) { from_ := a, to_ := b } false = hasLeg c a b := by
 rw [msetAll_get]
 unfold hasLeg
 by_cases h : ({ from_ := a, to_ := b } : typing_ends) ∈ c.Legs.map legKey
 ·rw [if_pos h]
  obtain ⟨l, hl, e⟩ := List.mem_map.1 h
  unfold legKey at e
  obtain ⟨e1, e2⟩ := ends_eq.1 e
  exact (List.any_eq_true.2 ⟨l, hl, by simp [e1, e2]⟩).symm
 ·rw [if_neg h]
  symm
  rw [Bool.eq_false_iff]
  intro q
  obtain ⟨l, hl, e⟩ := List.any_eq_true.1 q
  simp only [Bool.and_eq_true, beq_iff_eq] at e
  exact h (List.mem_map.2 ⟨l, hl, by unfold legKey; rw [e.1, e.2]⟩)
theorem ev_Leg (c : Course) (w : CourseOk c) (a b : Int) : ∃ v : Int, Ev (fun n => F_aa n c a b) v ∧ decide (v < 0) = !hasLeg c a b := by
 unfold F_aa
 have hl : c.Legs.length ≤ 4611686018427387904 := by have := w.legs; omega
 have step : ∀ i x, At c.Legs i x → Ev (fun n : Nat => F_dn n c a b (i : Int)) (bif (x.From == a) && (x.To == b) then .done (.done (i : Int)) else .cont ((i + 1 : Nat) : Int)) := by
  intro i x ha
  unfold F_dn
  simp only [ha.lt, cond_true, ha.ix, Option.bind_some, ha.nx]
  refine Ev.bind (Ev.and fun _ => Ev.pure _) ?_
  cases ((x.From == a) && (x.To == b)) <;> exact Ev.pure _
 have loop : ∀ (r : List Leg) (i : Nat), c.Legs.drop i = r → i ≤ c.Legs.length → ∃ res : Ctl Unit Int, EvI (fun n => F_dn n c a b) (i : Int) res ∧ ((r.any fun l => (l.From == a) && (l.To == b)) = true → ∃ j : Nat, res = .done (j : Int)) ∧ ((r.any fun l => (l.From == a) && (l.To == b)) = false → res = .cont ()) := by
  intro r
  induction r with
  | nil =>
   intro i hr hi
   refine ⟨.cont (), EvI.done ?_, fun h => (by simp at h), fun _ => rfl⟩
   unfold F_dn
   simp only [end_drop hr hi, cond_false]
   exact Ev.pure _
  | cons x r ih =>
   intro i hr hi
   obtain ⟨ha, hr'⟩ := At.of_drop hl hr
   have s := step i x ha
   rw [List.any_cons]
   cases h : ((x.From == a) && (x.To == b)) with
   | true =>
    rw [h] at s
    exact ⟨.done (i : Int), EvI.done s, fun _ => ⟨i, rfl⟩, fun h => by simp at h⟩
   | false =>
    rw [h] at s
    obtain ⟨res, p1, p2⟩ := ih (i + 1) hr' (by have := ha.lt'; omega)
    exact ⟨res, EvI.cont s p1, by simpa using p2⟩
 obtain ⟨res, p1, p2, p3⟩ := loop c.Legs 0 rfl (Nat.zero_le _)
 unfold hasLeg
 cases h : c.Legs.any fun l => (l.From == a) && (l.To == b) with
 | true =>
  obtain ⟨j, rfl⟩ := p2 h
  exact ⟨(j : Int), Ev.bind p1.ev (Ev.pure _), by simp⟩
 | false =>
  obtain rfl := p3 h
  exact ⟨-1, Ev.bind p1.ev (Ev.pure _), by simp⟩
theorem ev_often (l : List Int) (k : Int) (hl : l.length ≤ 1048576) : Ev (fun n => F_ac n l k) (l.count k : Int) := by
 unfold F_ac
 have loop : ∀ (r : List Int) (i : Nat) (a : Nat), l.drop i = r → i ≤ l.length → a ≤ i → EvI (fun n => F_ec n l k) ((a : Int), (i : Int)) ((a + r.count k : Nat) : Int) := by
  intro r
  induction r with
  | nil =>
   intro i a hr hi _
   refine EvI.done ?_
   unfold F_ec
   simp only [end_drop hr hi, cond_false]
   exact Ev.pure _
  | cons x r ih =>
   intro i a hr hi hai
   obtain ⟨ha, hr'⟩ := At.of_drop (by omega) hr
   have hlt := ha.lt'
   have e1 : IntKind.i64.wrap ((a : Int) + 1) = ((a + 1 : Nat) : Int) := wrap_succ (by omega)
   rw [List.count_cons]
   cases h : (x == k) with
   | true =>
    refine (EvI.cont ?_ (ih (i + 1) (a + 1) hr' (by omega) (by omega))).eq ?_
    ·unfold F_ec
     simp only [ha.lt, cond_true, ha.ix, Option.bind_some, ha.nx, h, e1]
     exact Ev.pure _
    ·simp; omega
   | false =>
    refine (EvI.cont ?_ (ih (i + 1) a hr' (by omega) (by omega))).eq ?_
    ·unfold F_ec
     simp only [ha.lt, cond_true, ha.ix, Option.bind_some, ha.nx, h, cond_false]
     exact Ev.pure _
    ·simp
 exact Ev.bind ((loop l 0 0 rfl (Nat.zero_le _) (Nat.le_refl _)).ev) ((Ev.pure _).eq (by omega))
structure NumOk (c : Course) : Prop where
 kinds : ∀ m ∈ c.Mats, 1 ≤ m.Kind ∧ m.Kind ≤ 3
 dist : ∀ d ∈ c.Distances, -1 ≤ d.Extra ∧ d.Extra ≤ (c.Mats.length : Int) - 1 ∧ partsS ((c.Mats.length : Int) - 1) d.Route = true
theorem NumOk.of {c : Course} (h : numbersS c = true) : NumOk c := by
 unfold numbersS at h
 simp only [Bool.and_eq_true, List.all_eq_true] at h
 refine ⟨fun m hm => ?_, fun d hd => ?_⟩
 ·have := h.1 m hm
  unfold inR at this
  simpa using this
 ·have := h.2.2.2.1 d hd
  unfold distS at this
  simp only [Bool.and_eq_true] at this
  obtain ⟨_, h2, h3, _⟩ := this
  unfold inR at h2
  simp only [Bool.and_eq_true, decide_eq_true_eq] at h2
  exact ⟨h2.1, h2.2, h3⟩
theorem kindAt_ok {c : Course} (q : NumOk c) {m : Int} (h0 : 0 ≤ m) (h1 : m ≤ (c.Mats.length : Int) - 1) : 1 ≤ kindAt c m ∧ kindAt c m ≤ 3 := by
 obtain ⟨x, h2, h3⟩ := mat_idx h0 h1
 have : x ∈ c.Mats := by
  obtain ⟨_, e⟩ := idx_ok h2
  exact List.mem_of_getElem? e
 rw [← h3]
 exact q.kinds x this
theorem exp_ok {c : Course} (q : NumOk c) {d : Distance} (hd : d ∈ c.Distances) : ∀ x ∈ expS [] d.Route, 0 ≤ x ∧ x ≤ (c.Mats.length : Int) - 1 :=
 parts_mats _ _ d.Route [] (Nat.le_refl _) (q.dist d hd).2.2 (by simp)
theorem rok_cons (c : Course) (len i : Nat) (prev m : Int) (r : List Int) : rokS c len i prev (m :: r) = (((kindAt c m == 1) == decide (i = 0)) && (((kindAt c m == 3) == decide (i + 1 = len)) && ((decide (i = 0) || hasLeg c prev m) && rokS c len (i + 1) m r))) := rfl
theorem nat_eq0 (i : Nat) : ((i : Int) == 0) = decide (i = 0) := by
 rw [Bool.eq_iff_iff]; simp
theorem ev_isRoute_L1 (c : Course) (r : List Int) (hr2 : 2 ≤ r.length) (hr : r.length ≤ 256) (hm : ∀ x ∈ r, 0 ≤ x ∧ x ≤ (c.Mats.length : Int) - 1) :
  Ev (fun n => iter (F_cc n c (msetAll legKey true c.Legs) r) n ([], 0)) (bif rokS c r.length 0 0 r then .cont (cntM r) else .done false) := by
 have loop : ∀ (t : List Int) (i : Nat) (prev : Int), r.drop i = t → i ≤ r.length → (0 < i → At r (i - 1) prev) → EvI (fun n => F_cc n c (msetAll legKey true c.Legs) r) (cntM (r.take i), (i : Int)) (bif rokS c r.length i prev t then .cont (cntM r) else .done false) := by
  intro t
  induction t with
  | nil =>
   intro i prev ht hi _
   refine EvI.done ?_
   unfold F_cc
   simp only [end_drop ht hi, cond_false, rokS, cond_true]
   have : r.length ≤ i := by simpa using ht
   rw [List.take_of_length_le this]
   exact Ev.pure _
  | cons m t ih =>
   intro i prev ht hi hp
   obtain ⟨ha, ht'⟩ := At.of_drop (by omega) ht
   have hlt := ha.lt'
   obtain ⟨h0, h1⟩ := hm m ha.mem
   obtain ⟨x, e1, e2⟩ := mat_idx h0 h1
   have e3 : IntKind.i64.wrap ((r.length : Int) - 1) = ((r.length - 1 : Nat) : Int) := by rw [wrap64 (by omega) (by omega)]; omega
   have e4 : ((i : Int) == ((r.length - 1 : Nat) : Int)) = decide (i + 1 = r.length) := by rw [Bool.eq_iff_iff]; simp; omega
   have hc : Ev (fun n : Nat => ((bif ((x.Kind == 1) != ((i : Int) == 0)) then some true else (bif ((x.Kind == 3) != ((i : Int) == (IntKind.i64.wrap ((r.length : Int) - 1)))) then some true else (bif decide (0 < (i : Int)) then (idx r (IntKind.i64.wrap ((i : Int) - 1))).bind fun x57 => (some (mgetD (msetAll legKey true c.Legs) ({ from_ := x57, to_ := m : typing_ends }) false)).bind fun v58 => some (!v58) else some false))) : Option Bool))
     (!(((kindAt c m == 1) == decide (i = 0)) && (((kindAt c m == 3) == decide (i + 1 = r.length)) && (decide (i = 0) || hasLeg c prev m)))) := by
    rw [e2, e3, e4, nat_eq0]
    refine Ev.eq (Ev.or fun _ => Ev.or fun _ => Ev.bif (v := !hasLeg c prev m) (w := false) (fun h => ?_) fun _ => Ev.pure _) ?_
    ·have hi0 : 0 < i := by simpa using h
     have e5 : IntKind.i64.wrap ((i : Int) - 1) = ((i - 1 : Nat) : Int) := by rw [wrap64 (by omega) (by omega)]; omega
     rw [e5, (hp hi0).ix]
     simp only [Option.bind_some, legs_has]
     exact Ev.pure _
    ·have e6 : decide (0 < (i : Int)) = !decide (i = 0) := by rw [Bool.eq_iff_iff]; simp; omega
     rw [e6]
     cases (kindAt c m == 1) <;> cases decide (i = 0) <;> cases (kindAt c m == 3) <;> cases decide (i + 1 = r.length) <;> cases hasLeg c prev m <;> rfl
   have hcnt : IntKind.i64.wrap (mgetD (cntM (r.take i)) m 0 + 1) = mgetD (cntM (r.take i)) m 0 + 1 := by
    rw [cntM_get]
    have : (r.take i).count m ≤ i := by have := List.count_le_length (a := m) (l := r.take i); simp at this; omega
    exact wrap64 (by omega) (by omega)
   have step : Ev (fun n => F_cc n c (msetAll legKey true c.Legs) r (cntM (r.take i), (i : Int))) (bif ((kindAt c m == 1) == decide (i = 0)) && (((kindAt c m == 3) == decide (i + 1 = r.length)) && (decide (i = 0) || hasLeg c prev m)) then .cont (cntM (r.take (i + 1)), ((i + 1 : Nat) : Int)) else .done (.done false)) := by
    unfold F_cc
    simp only [ha.lt, cond_true, ha.ix, Option.bind_some, ha.nx, e1]
    refine Ev.bind hc ?_
    rw [hcnt, ← cntM_snoc, ← ha.take]
    cases (((kindAt c m == 1) == decide (i = 0)) && (((kindAt c m == 3) == decide (i + 1 = r.length)) && (decide (i = 0) || hasLeg c prev m))) <;> exact Ev.pure _
   have e7 : rokS c r.length i prev (m :: t) = ((((kindAt c m == 1) == decide (i = 0)) && (((kindAt c m == 3) == decide (i + 1 = r.length)) && (decide (i = 0) || hasLeg c prev m))) && rokS c r.length (i + 1) m t) := by rw [rok_cons]; simp only [Bool.and_assoc]
   rw [e7]
   cases hv : (((kindAt c m == 1) == decide (i = 0)) && (((kindAt c m == 3) == decide (i + 1 = r.length)) && (decide (i = 0) || hasLeg c prev m))) with
   | false =>
    rw [hv] at step
    exact EvI.done step
   | true =>
    rw [hv] at step
    rw [Bool.true_and]
    exact EvI.cont step (ih (i + 1) m ht' (by omega) (fun _ => by simpa using ha))
 exact (loop r 0 0 rfl (Nat.zero_le _) (by omega)).ev
theorem ev_isRoute (c : Course) (w : CourseOk c) (q : NumOk c) (d : Distance) (hd : d ∈ c.Distances) (hw : ∀ x ∈ d.Route, Part.wf x) (hs : szPs d.Route ≤ 256) :
  Ev (fun n => F_bn n c d (msetAll legKey true c.Legs)) (routeS c d) := by
 have hlen := szPs_len d.Route
 have hm := exp_ok q hd
 have hel := expS_len _ d.Route [] (Nat.le_refl _)
 unfold F_bn routeS
 refine Ev.bind (ev_expand _ _ d.Route (Nat.le_refl _) hs (by omega) hw (q.dist d hd).2.2) ?_
 generalize expS [] d.Route = r at hm hel ⊢
 unfold routeR
 have e3 : IntKind.i64.wrap ((r.length : Int) - 1) = (r.length : Int) - 1 := by
  have : r.length ≤ 1048576 := by simp at hel; omega
  exact wrap_len this
 rw [e3]
 have e0 : (decide ((r.length : Int) - 1 < 1) || decide (256 ≤ (r.length : Int) - 1)) = !(decide (2 ≤ r.length) && decide (r.length ≤ 256)) := by
  rw [Bool.eq_iff_iff]; simp; omega
 refine Ev.bind (Ev.eq (Ev.or fun _ => Ev.pure _) e0) ?_
 cases hq : (decide (2 ≤ r.length) && decide (r.length ≤ 256)) with
 | false => exact Ev.pure _
 | true =>
  simp only [Bool.and_eq_true, decide_eq_true_eq] at hq
  rw [Bool.true_and]
  refine Ev.ff (Ev.bind (ev_isRoute_L1 c r hq.1 hq.2 hm) ?_)
  cases rokS c r.length 0 0 r with
  | false => exact Ev.pure _
  | true =>
   simp only [cond_true, Bool.true_and]
   have hx : Ev (fun n : Nat => ((bif decide (0 ≤ d.Extra) then (some (mgetD (cntM r) d.Extra 0)).bind fun v71 => (bif (v71 == 0) then some true else (idx c.Mats d.Extra).bind fun x73 => (bif (x73.Kind != 2) then some true else (some (mgetD (msetAll legKey true c.Legs) ({ from_ := d.Extra, to_ := d.Extra : typing_ends }) false)).bind fun v75 => some (!v75))) else some false) : Option Bool))
     (!(bif decide (0 ≤ d.Extra) then !((r.count d.Extra : Int) == 0) && ((kindAt c d.Extra == 2) && hasLeg c d.Extra d.Extra) else true)) := by
    rw [cntM_get]
    cases h0 : decide (0 ≤ d.Extra) with
    | false => exact Ev.pure _
    | true =>
     obtain ⟨x, e1, e2⟩ := mat_idx (c := c) (m := d.Extra) (by simpa using h0) (q.dist d hd).2.1
     simp only [cond_true, Option.bind_some, e1, legs_has, e2]
     refine Ev.eq (Ev.or fun _ => Ev.or fun _ => Ev.pure _) ?_
     rw [bne]
     cases ((r.count d.Extra : Int) == 0) <;> cases (kindAt c d.Extra == 2) <;> cases hasLeg c d.Extra d.Extra <;> rfl
   refine Ev.bind hx ?_
   cases (bif decide (0 ≤ d.Extra) then !((r.count d.Extra : Int) == 0) && ((kindAt c d.Extra == 2) && hasLeg c d.Extra d.Extra) else true) with
   | false => exact Ev.pure _
   | true =>
    rw [Bool.true_and]
    refine Ev.ff (Ev.bind ?_ (Ev.pure _))
    unfold F_fe F_de F_ek
    refine Ev.allC d.Cutoffs _ (fun n x => F_br n x (cntM r)) (by have := w.cut d hd; omega) fun x _ => ?_
    unfold F_br
    rw [cntM_get]
    exact Ev.pure _
theorem ev_refRoute_L1 (c : Course) (w : CourseOk c) (q : NumOk c) (r : List Int) (hr2 : 2 ≤ r.length) (hr : r.length ≤ 256) (hm : ∀ x ∈ r, 0 ≤ x ∧ x ≤ (c.Mats.length : Int) - 1) :
  Ev (fun n => iter (F_ct n c r) n 0) (bif rokS c r.length 0 0 r then .cont () else .done false) := by
 have loop : ∀ (t : List Int) (i : Nat) (prev : Int), r.drop i = t → i ≤ r.length → (0 < i → At r (i - 1) prev) → EvI (fun n => F_ct n c r) (i : Int) (bif rokS c r.length i prev t then .cont () else .done false) := by
  intro t
  induction t with
  | nil =>
   intro i prev ht hi _
   refine EvI.done ?_
   unfold F_ct
   simp only [end_drop ht hi, cond_false, rokS, cond_true]
   exact Ev.pure _
  | cons m t ih =>
   intro i prev ht hi hp
   obtain ⟨ha, ht'⟩ := At.of_drop (by omega) ht
   have hlt := ha.lt'
   obtain ⟨h0, h1⟩ := hm m ha.mem
   obtain ⟨x, e1, e2⟩ := mat_idx h0 h1
   have hk := kindAt_ok q h0 h1
   have e3 : IntKind.i64.wrap ((r.length : Int) - 1) = ((r.length - 1 : Nat) : Int) := by rw [wrap64 (by omega) (by omega)]; omega
   have e4 : ((i : Int) == ((r.length - 1 : Nat) : Int)) = decide (i + 1 = r.length) := by rw [Bool.eq_iff_iff]; simp; omega
   have step : Ev (fun n => F_ct n c r (i : Int)) (bif ((kindAt c m == 1) == decide (i = 0)) && (((kindAt c m == 3) == decide (i + 1 = r.length)) && (decide (i = 0) || hasLeg c prev m)) then .cont ((i + 1 : Nat) : Int) else .done (.done false)) := by
    unfold F_ct
    simp only [ha.lt, cond_true, ha.ix, Option.bind_some, ha.nx, e1, e2, e3, e4, nat_eq0]
    refine Ev.bind (v := if i = 0 then 1 else if i + 1 = r.length then 3 else 2) (Ev.const ?_) ?_
    ·by_cases g0 : i = 0
     ·simp [g0]
     ·by_cases g1 : i + 1 = r.length
      ·simp [g0, g1]
      ·simp [g0, g1]
    refine Ev.bind (v := !(((kindAt c m == 1) == decide (i = 0)) && (((kindAt c m == 3) == decide (i + 1 = r.length)) && (decide (i = 0) || hasLeg c prev m)))) ?_ ?_
    ·have hl : Ev (fun n : Nat => (bif decide (0 < (i : Int)) then (idx r (IntKind.i64.wrap ((i : Int) - 1))).bind fun x68 => (F_aa n c x68 m).bind fun r70 => some (decide (r70 < 0)) else some false : Option Bool)) (!(decide (i = 0) || hasLeg c prev m)) := by
      by_cases g0 : i = 0
      ·subst g0; exact Ev.pure _
      ·have e5 : IntKind.i64.wrap ((i : Int) - 1) = ((i - 1 : Nat) : Int) := by rw [wrap64 (by omega) (by omega)]; omega
       obtain ⟨v, p1, p2⟩ := ev_Leg c w prev m
       rw [decT (show (0 : Int) < (i : Int) by omega), e5, (hp (by omega)).ix, decF g0]
       simp only [cond_true, Option.bind_some]
       exact Ev.bind p1 ((Ev.pure _).eq (by rw [p2]; rfl))
     refine Ev.eq (Ev.or fun _ => hl) ?_
     have key : (kindAt c m != if i = 0 then 1 else if i + 1 = r.length then 3 else 2) = !(((kindAt c m == 1) == decide (i = 0)) && ((kindAt c m == 3) == decide (i + 1 = r.length))) := by
      have hcases : kindAt c m = 1 ∨ kindAt c m = 2 ∨ kindAt c m = 3 := by omega
      by_cases g0 : i = 0
      ·have g1 : ¬ i + 1 = r.length := by omega
       rcases hcases with g | g | g <;> simp [g, g0, show ¬ 1 = r.length by omega]
      ·by_cases g1 : i + 1 = r.length
       ·rcases hcases with g | g | g <;> simp [g, g0, g1]
       ·rcases hcases with g | g | g <;> simp [g, g0, g1]
     rw [key]
     cases ((kindAt c m == 1) == decide (i = 0)) <;> cases ((kindAt c m == 3) == decide (i + 1 = r.length)) <;> cases (decide (i = 0) || hasLeg c prev m) <;> rfl
    ·cases (((kindAt c m == 1) == decide (i = 0)) && (((kindAt c m == 3) == decide (i + 1 = r.length)) && (decide (i = 0) || hasLeg c prev m))) <;> exact Ev.pure _
   have e7 : rokS c r.length i prev (m :: t) = ((((kindAt c m == 1) == decide (i = 0)) && (((kindAt c m == 3) == decide (i + 1 = r.length)) && (decide (i = 0) || hasLeg c prev m))) && rokS c r.length (i + 1) m t) := by rw [rok_cons]; simp only [Bool.and_assoc]
   rw [e7]
   cases hv : (((kindAt c m == 1) == decide (i = 0)) && (((kindAt c m == 3) == decide (i + 1 = r.length)) && (decide (i = 0) || hasLeg c prev m))) with
   | false =>
    rw [hv] at step
    exact EvI.done step
   | true =>
    rw [hv] at step
    rw [Bool.true_and]
    exact EvI.cont step (ih (i + 1) m ht' (by omega) (fun _ => by simpa using ha))
 exact (loop r 0 0 rfl (Nat.zero_le _) (by omega)).ev
theorem ev_refRoute (c : Course) (w : CourseOk c) (q : NumOk c) (d : Distance) (hd : d ∈ c.Distances) (hw : ∀ x ∈ d.Route, Part.wf x) (hs : szPs d.Route ≤ 256) :
  Ev (fun n => F_av n c d) (routeS c d) := by
 have hlen := szPs_len d.Route
 have hm := exp_ok q hd
 have hel := expS_len _ d.Route [] (Nat.le_refl _)
 unfold F_av routeS
 refine Ev.bind (ev_refExpand _ _ d.Route (Nat.le_refl _) hs (by omega) hw (q.dist d hd).2.2) ?_
 generalize expS [] d.Route = r at hm hel ⊢
 unfold routeR
 have e0 : (decide ((r.length : Int) < 2) || decide (256 < (r.length : Int))) = !(decide (2 ≤ r.length) && decide (r.length ≤ 256)) := by
  rw [Bool.eq_iff_iff]; simp; omega
 refine Ev.bind (Ev.eq (Ev.or fun _ => Ev.pure _) e0) ?_
 cases hq : (decide (2 ≤ r.length) && decide (r.length ≤ 256)) with
 | false => exact Ev.pure _
 | true =>
  simp only [Bool.and_eq_true, decide_eq_true_eq] at hq
  rw [Bool.true_and]
  refine Ev.ff (Ev.bind (ev_refRoute_L1 c w q r hq.1 hq.2 hm) ?_)
  cases rokS c r.length 0 0 r with
  | false => exact Ev.pure _
  | true =>
   simp only [cond_true, Bool.true_and]
   have hx : Ev (fun n : Nat => ((bif (d.Extra != (-1)) then (idx c.Mats d.Extra).bind fun x81 => (bif (x81.Kind != 2) then some true else (F_ac n r d.Extra).bind fun r83 => (bif (r83 == 0) then some true else (F_aa n c d.Extra d.Extra).bind fun r85 => some (decide (r85 < 0)))) else some false) : Option Bool))
     (!(bif decide (0 ≤ d.Extra) then !((r.count d.Extra : Int) == 0) && ((kindAt c d.Extra == 2) && hasLeg c d.Extra d.Extra) else true)) := by
    have hq2 := q.dist d hd
    have e9 : (d.Extra != (-1)) = decide (0 ≤ d.Extra) := by rw [Bool.eq_iff_iff]; simp; omega
    rw [e9]
    cases h0 : decide (0 ≤ d.Extra) with
    | false => exact Ev.pure _
    | true =>
     obtain ⟨x, e1, e2⟩ := mat_idx (c := c) (m := d.Extra) (by simpa using h0) hq2.2.1
     obtain ⟨v, p1, p2⟩ := ev_Leg c w d.Extra d.Extra
     simp only [cond_true, Option.bind_some, e1, e2]
     refine Ev.eq (Ev.or fun _ => Ev.bind (ev_often r _ (by omega)) (Ev.or fun _ => Ev.bind p1 (Ev.pure _))) ?_
     rw [bne, p2]
     cases ((r.count d.Extra : Int) == 0) <;> cases (kindAt c d.Extra == 2) <;> cases hasLeg c d.Extra d.Extra <;> rfl
   refine Ev.bind hx ?_
   cases (bif decide (0 ≤ d.Extra) then !((r.count d.Extra : Int) == 0) && ((kindAt c d.Extra == 2) && hasLeg c d.Extra d.Extra) else true) with
   | false => exact Ev.pure _
   | true =>
    rw [Bool.true_and]
    refine Ev.ff (Ev.bind (Ev.checks d.Cutoffs (fun x => decide (x.Lap ≤ (r.count x.Mat : Int))) (Ctl.done false) (Ctl.cont ()) (by have := w.cut d hd; omega) (fun i x ha => ?_) ?_) ?_)
    ·unfold F_hf
     simp only [ha.lt, cond_true, ha.ix, Option.bind_some, ha.nx]
     refine Ev.bind (ev_often r _ (by omega)) ?_
     have : decide ((r.count x.Mat : Int) < x.Lap) = !decide (x.Lap ≤ (r.count x.Mat : Int)) := by rw [Bool.eq_iff_iff]; simp
     rw [this]
     cases decide (x.Lap ≤ (r.count x.Mat : Int)) <;> exact Ev.pure _
    ·unfold F_hf
     simp only [end_, cond_false]
     exact Ev.pure _
    ·cases (d.Cutoffs.all fun x => decide (x.Lap ≤ (r.count x.Mat : Int))) <;> exact Ev.pure _
end Go.Sw
