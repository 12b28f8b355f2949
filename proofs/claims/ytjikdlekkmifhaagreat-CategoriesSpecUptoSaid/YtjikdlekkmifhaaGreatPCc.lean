/- Categories: which tables there are. -/
import Derived.Test.YtjikdlekkmifhaaGreatPCb
set_option linter.unusedVariables false
set_option linter.unusedSimpArgs false
namespace Go.Sw
theorem ev_Same (l : List Int) (hl : l.length ≤ 1048576) : Ev (fun n => F_f n l l) true := by
 unfold F_f
 have e : ((l.length : Int) != (l.length : Int)) = false := by simp
 rw [e]
 refine Ev.ff (Ev.bind (Ev.checks l (fun _ => true) (Ctl.done false) (Ctl.cont ()) (by omega) (fun i x ha => ?_) ?_) ?_)
 ·unfold F_hj
  simp only [ha.lt, cond_true, ha.ix, Option.bind_some, ha.nx]
  have e : (x != x) = false := by simp
  rw [e]
  exact Ev.pure _
 ·unfold F_hj
  simp only [end_, cond_false]
  exact Ev.pure _
 ·have : l.all (fun _ => true) = true := by simp
  rw [this]
  exact Ev.pure _
def few29 (c : Course) (st : List Starter) : Bool := decide ((c.Distances.length : Int) ≤ 10) && (decide ((c.Categories.length : Int) ≤ 40) && decide ((st.length : Int) ≤ 20))
theorem ev_Few29 (c : Course) (st : List Starter) : Ev (fun n => F_aq n c st) (few29 c st) := by
 unfold F_aq few29
 exact Ev.bind (Ev.and fun _ => Ev.and fun _ => Ev.pure _) (Ev.pure _)
def ltT (a b : categories_table) : Prop := a.distance < b.distance ∨ (a.distance = b.distance ∧ a.category < b.category)
def cmpZ (a b : Int) : Int := bif decide (a < b) then -1 else bif decide (b < a) then 1 else 0
def cT (a b : categories_table) : Int := bif cmpZ a.distance b.distance != 0 then cmpZ a.distance b.distance else cmpZ a.category b.category
theorem cmpZ_neg (a b : Int) : cmpZ a b < 0 ↔ a < b := by
 unfold cmpZ
 by_cases h : a < b
 ·simp [h]
 ·by_cases h2 : b < a <;> simp [h, h2]
theorem cmpZ_zero (a b : Int) : cmpZ a b = 0 ↔ a = b := by
 unfold cmpZ
 by_cases h : a < b
 ·simp [h]; omega
 ·by_cases h2 : b < a
  ·simp [h, h2]; omega
  ·simp [h, h2]; omega
theorem cT_neg (a b : categories_table) : cT a b < 0 ↔ ltT a b := by
 unfold cT ltT
 by_cases h : a.distance = b.distance
 ·rw [(cmpZ_zero _ _).2 h]
  simp [h, cmpZ_neg]
 ·have : cmpZ a.distance b.distance ≠ 0 := fun e => h ((cmpZ_zero _ _).1 e)
  have e : (cmpZ a.distance b.distance != 0) = true := by simpa using this
  rw [e, cond_true, cmpZ_neg]; simp [h]
theorem T1_eq (n : Nat) (a b : categories_table) : F_aj (n + 3) a b = some (cT a b) := by
 have hc : ∀ m x y, F_ag m x y = some (cmpZ x y) := by
  intro m x y
  unfold F_ag F_ap cmpZ
  have e1 : (x != x) = false := by simp
  have e2 : (y != y) = false := by simp
  rw [e1, e2]
  cases decide (x < y) <;> cases decide (y < x) <;> rfl
 unfold F_aj
 simp only [hc, Option.bind_some]
 unfold F_fc F_hn cT
 have w1 : IntKind.i64.wrap 1 = 1 := by decide
 have w2 : IntKind.i64.wrap 2 = 2 := by decide
 have i0 : idx [cmpZ a.distance b.distance, cmpZ a.category b.category] 0 = some (cmpZ a.distance b.distance) := rfl
 have i1 : idx [cmpZ a.distance b.distance, cmpZ a.category b.category] 1 = some (cmpZ a.category b.category) := rfl
 cases h : cmpZ a.distance b.distance != 0 with
 | true => simp [Go.Sw.iter, i0, h]
 | false =>
  cases h2 : cmpZ a.category b.category != 0 with
  | true => simp [Go.Sw.iter, i0, i1, h, h2, w1]
  | false =>
   have e0 : cmpZ a.category b.category = 0 := by simpa using h2
   simp [Go.Sw.iter, i0, i1, h, h2, w1, w2]
   exact e0.symm
def ltTB (a b : categories_table) : Bool := decide (cT a b < 0)
theorem ltT_asym (a b : categories_table) (h : ltT a b) : ¬ ltT b a := by unfold ltT at *; omega
theorem tab_ext {a b : categories_table} (h1 : a.distance = b.distance) (h2 : a.category = b.category) : a = b := by cases a; cases b; simp at h1 h2; simp [h1, h2]
theorem sortT (n : Nat) (l : List categories_table) (hl : l.length ≤ 4294967296) : sortF (fun x y => F_aj (n + 3) x y) l = some (isort ltTB l) := by
 have e : (fun x y => F_aj (n + 3) x y) = fun x y => some (cT x y) := by funext x y; exact T1_eq n x y
 have e2 : ltO (fun x y => some (cT x y)) = ltTB := rfl
 rw [e, ← e2]
 refine sortF_eq (by unfold lenMax; exact hl) cT (fun _ _ _ _ => rfl) (fun x _ => ?_) (fun x _ y _ z _ => ?_) (fun x _ y _ z _ => ?_) (fun x _ y _ => ?_)
 ·rw [cT_neg]; unfold ltT; omega
 ·rw [cT_neg, cT_neg, cT_neg]; unfold ltT; omega
 ·rw [cT_neg, cT_neg, cT_neg]; unfold ltT; omega
 ·rw [cT_neg, cT_neg]; unfold ltT; intro h1 h2; exact tab_ext (by omega) (by omega)
theorem sortT_spec (l : List categories_table) (hn : l.Nodup) : (isort ltTB l).Pairwise ltT ∧ ∀ x, x ∈ isort ltTB l ↔ x ∈ l := by
 have hs : SwoOn ltTB l := by
  refine ⟨fun x _ => ?_, fun x _ y _ z _ h1 h2 => ?_, fun x _ y _ z _ h1 h2 => ?_⟩
  ·unfold ltTB; simp only [decide_eq_false_iff_not, cT_neg]; unfold ltT; omega
  ·unfold ltTB at *; simp only [decide_eq_true_eq, cT_neg] at *; unfold ltT at *; omega
  ·unfold ltTB at *; simp only [decide_eq_false_iff_not, cT_neg] at *; unfold ltT at *; omega
 have hp := isort_perm ltTB l
 have h1 := isort_sorted hs
 have h2 : (isort ltTB l).Nodup := hp.nodup_iff.2 hn
 refine ⟨(h1.and h2).imp fun {a b} h => ?_, fun x => hp.mem_iff⟩
 obtain ⟨h3, h4⟩ := h
 unfold ltTB at h3
 simp only [decide_eq_false_iff_not, cT_neg] at h3
 unfold ltT at *
 by_cases e : a.distance = b.distance
 ·have : a.category ≠ b.category := fun e2 => h4 (tab_ext e e2)
  omega
 ·omega
def ksN (i : Nat) : List Int := (List.range i).map fun j : Nat => (j : Int) - 1
def anyB (c : Course) (st : List Starter) (d k : Int) : Bool := st.any fun s => belS c s d k
def tabD (c : Course) (st : List Starter) (d : Int) (i : Nat) : List Int := (ksN i).filter fun k => anyB c st d k
def tabN (c : Course) (st : List Starter) (i : Nat) : List categories_table := (List.range i).flatMap fun d : Nat => (tabD c st d (c.Categories.length + 1)).map fun k => { distance := (d : Int), category := k }
def tabs (c : Course) (st : List Starter) : List categories_table := tabN c st c.Distances.length
def tablesE (c : Course) (st : List Starter) : List Int × List Int := ((tabs c st).map (·.distance), (tabs c st).map (·.category))
theorem ksN_succ (i : Nat) : ksN (i + 1) = ksN i ++ [(i : Int) - 1] := by unfold ksN; rw [List.range_succ]; simp
theorem ksN_mem (i : Nat) (k : Int) : k ∈ ksN i ↔ -1 ≤ k ∧ k < (i : Int) - 1 := by
 unfold ksN
 simp only [List.mem_map, List.mem_range]
 constructor
 ·rintro ⟨j, hj, rfl⟩; omega
 ·rintro ⟨h1, h2⟩; exact ⟨(k + 1).toNat, by omega, by omega⟩
theorem ksN_sorted (i : Nat) : (ksN i).Pairwise (· < ·) := by
 unfold ksN
 rw [List.pairwise_map]
 exact List.pairwise_lt_range.imp fun {a b} h => by omega
theorem tabD_len (c : Course) (st : List Starter) (d : Int) (i : Nat) : (tabD c st d i).length ≤ i := by
 unfold tabD
 refine Nat.le_trans (List.length_filter_le _ _) ?_
 unfold ksN; simp
theorem tabN_succ (c : Course) (st : List Starter) (i : Nat) : tabN c st (i + 1) = tabN c st i ++ (tabD c st (i : Int) (c.Categories.length + 1)).map fun k => { distance := (i : Int), category := k } := by
 unfold tabN; rw [List.range_succ, List.flatMap_append]; simp
theorem tabN_len (c : Course) (st : List Starter) : ∀ i, (tabN c st i).length ≤ i * (c.Categories.length + 1)
 | 0 => by simp [tabN]
 | i + 1 => by
  rw [tabN_succ, List.length_append, List.length_map, Nat.succ_mul]
  have := tabN_len c st i
  have := tabD_len c st (i : Int) (c.Categories.length + 1)
  omega
theorem tabs_mem (c : Course) (st : List Starter) (t : categories_table) : t ∈ tabs c st ↔ 0 ≤ t.distance ∧ t.distance < (c.Distances.length : Int) ∧ ∃ s ∈ st, s.Distance = t.distance ∧ (t.category = -1 ∨ t.category ∈ ofS c s) := by
 have hb : ∀ s d k, belS c s d k = true ↔ s.Distance = d ∧ (k = -1 ∨ k ∈ ofS c s) := by
  intro s d k
  unfold belS
  simp [inL_iff]
 unfold tabs tabN
 simp only [List.mem_flatMap, List.mem_range, List.mem_map]
 constructor
 ·rintro ⟨d, hd, k, hk, rfl⟩
  unfold tabD anyB at hk
  rw [List.mem_filter, List.any_eq_true] at hk
  obtain ⟨_, s, hs, e⟩ := hk
  rw [hb] at e
  exact ⟨by simp, by simpa using hd, s, hs, e⟩
 ·rintro ⟨h0, h1, s, hs, hd, hk⟩
  refine ⟨t.distance.toNat, by omega, t.category, ?_, tab_ext (by simp; omega) rfl⟩
  unfold tabD anyB
  rw [List.mem_filter, List.any_eq_true]
  have ed : ((t.distance.toNat : Nat) : Int) = t.distance := by omega
  refine ⟨?_, s, hs, by rw [hb, ed]; exact ⟨hd, hk⟩⟩
  rw [ksN_mem]
  rcases hk with e | e
  ·omega
  ·have := ofL_mem _ _ _ _ e
   simp at this
   omega
theorem tabs_sorted (c : Course) (st : List Starter) : (tabs c st).Pairwise ltT := by
 unfold tabs tabN
 rw [List.pairwise_flatMap]
 constructor
 ·intro d _
  rw [List.pairwise_map]
  unfold tabD
  exact ((ksN_sorted _).filter _).imp fun {a b} h => .inr ⟨rfl, h⟩
 ·refine List.pairwise_lt_range.imp fun {a b} h => ?_
  intro x hx y hy
  obtain ⟨_, _, rfl⟩ := List.mem_map.1 hx
  obtain ⟨_, _, rfl⟩ := List.mem_map.1 hy
  exact .inl (by simpa using h)
theorem ev_refTables (c : Course) (w : CourseOk c) (st : List Starter) (hst : st.length ≤ 1048576) (hd : c.Distances.length ≤ 10) (hk : c.Categories.length ≤ 40) : Ev (fun n => F_ca n c st) (tablesE c st) := by
 unfold F_ca
 have any : ∀ (xs ys us vs : List Int) (d k : Int), Ev (fun n => iter (F_ga n c st (xs, ys, d) (us, vs, k)) n (false, 0)) (anyB c st d k) := by
  intro xs ys us vs d k
  have e : anyB c st d k = st.foldl (fun b s => b || belS c s d k) false := by
   unfold anyB
   have gen : ∀ (l : List Starter) (b : Bool), l.foldl (fun b s => b || belS c s d k) b = (b || l.any fun s => belS c s d k) := by
    intro l
    induction l with
    | nil => simp
    | cons x l ih => intro b; rw [List.foldl_cons, ih, List.any_cons, Bool.or_assoc]
   rw [gen]; simp
  rw [e]
  refine Ev.iter_fold st (fun b s => b || belS c s d k) false (fun b i => (b, (i : Int))) (fun b => b) (by omega) rfl (fun i x b ha _ => ?_) ?_
  ·unfold F_ga
   simp only [ha.lt, cond_true, ha.ix, Option.bind_some, ha.nx]
   exact Ev.bind (Ev.or fun _ => Ev.bind (ev_belongs c w x d k) (Ev.pure _)) (Ev.pure _)
  ·unfold F_ga
   simp only [end_, cond_false]
   exact Ev.pure _
 have inner : ∀ (xs ys : List Int) (d : Nat), xs.length ≤ 1000 → ys.length ≤ 1000 → Ev (fun n => iter (F_gl n c st (xs, ys, (d : Int))) n (xs, ys, -1)) (xs ++ (tabD c st d (c.Categories.length + 1)).map (fun _ => (d : Int)), ys ++ tabD c st d (c.Categories.length + 1)) := by
  intro xs ys d hx hy
  refine Ev.iter (fun i => (xs ++ (tabD c st d i).map (fun _ => (d : Int)), ys ++ tabD c st d i, (i : Int) - 1)) (c.Categories.length + 1) (by simp [tabD, ksN]) (fun i hi => ?_) ?_
  ·have hl := tabD_len c st (d : Int) i
   have hw : IntKind.i64.wrap ((i : Int) - 1 + 1) = ((i + 1 : Nat) : Int) - 1 := by rw [wrap64 (by omega) (by omega)]; omega
   unfold F_gl
   simp only [decT (show (i : Int) - 1 < (c.Categories.length : Int) by omega), cond_true, hw]
   refine Ev.bind (any _ _ _ _ _ _) ?_
   have es : tabD c st d (i + 1) = tabD c st d i ++ bif anyB c st d ((i : Int) - 1) then [(i : Int) - 1] else [] := by
    unfold tabD
    rw [ksN_succ, List.filter_append]
    cases e : anyB c st d ((i : Int) - 1) <;> simp [e]
   rw [es]
   cases e : anyB c st d ((i : Int) - 1) with
   | false =>
    refine Ev.bind0 rfl (Ev.const ?_)
    simp
   | true =>
    refine Ev.bind0 (?_ : _ = some (xs ++ (tabD c st d i).map (fun _ => (d : Int)) ++ [(d : Int)], ys ++ tabD c st d i ++ [(i : Int) - 1])) (Ev.const ?_)
    ·rw [cond_true, app_one _ _ (by simp; omega), Option.bind_some, app_one _ _ (by simp; omega)]
     rfl
    ·simp
  ·unfold F_gl
   simp only [decF (show ¬ ((c.Categories.length + 1 : Nat) : Int) - 1 < (c.Categories.length : Int) by omega), cond_false]
   exact Ev.pure _
 refine Ev.bind (v := tablesE c st) ?_ (Ev.pure _)
 refine Ev.iter (fun i => ((tabN c st i).map (·.distance), (tabN c st i).map (·.category), (i : Int))) c.Distances.length (by simp [tabN]) (fun i hi => ?_) ?_
 ·have hl := tabN_len c st i
  have hb : i * (c.Categories.length + 1) ≤ 10 * 41 := Nat.mul_le_mul (by omega) (by omega)
  have hw : IntKind.i64.wrap ((i : Int) + 1) = ((i + 1 : Nat) : Int) := wrap_succ (by omega)
  unfold F_hl
  simp only [decT (show (i : Int) < (c.Distances.length : Int) by omega), cond_true, hw]
  refine Ev.bind (inner _ _ i (by simp; omega) (by simp; omega)) (Ev.const ?_)
  rw [tabN_succ]
  simp [Function.comp_def]
 ·unfold F_hl
  simp only [end_, cond_false]
  exact Ev.pure _
def keyT (x : Starter) (k : Int) : categories_table := { distance := x.Distance, category := k }
def putT (c : Course) (m : List (categories_table × Bool)) (x : Starter) : List (categories_table × Bool) :=
 bif decide (x.Distance < 0) || decide ((c.Distances.length : Int) ≤ x.Distance) then m else (ofS c x ++ [-1]).foldl (fun m k => mset m (keyT x k) true) m
theorem msets_spec (x : Starter) : ∀ (l : List Int) (m : List (categories_table × Bool)), (m.map (·.1)).Nodup →
  ((l.foldl (fun m k => mset m (keyT x k) true) m).map (·.1)).Nodup ∧ (∀ t, t ∈ (l.foldl (fun m k => mset m (keyT x k) true) m).map (·.1) ↔ t ∈ m.map (·.1) ∨ ∃ k ∈ l, t = keyT x k) ∧ (l.foldl (fun m k => mset m (keyT x k) true) m).length ≤ m.length + l.length
 | [], m, h => ⟨h, by simp, by simp⟩
 | k :: l, m, h => by
  rw [List.foldl_cons]
  have hk := mset_keys m (keyT x k) true
  have h1 : ((mset m (keyT x k) true).map (·.1)).Nodup := by
   rw [hk]
   split
   ·exact h
   ·rename_i hn
    rw [List.nodup_append]
    refine ⟨h, by simp, fun a ha b hb e => ?_⟩
    rw [List.mem_singleton] at hb
    subst hb; subst e
    exact hn ha
  obtain ⟨k1, k2, k3⟩ := msets_spec x l _ h1
  have hm : ∀ t, t ∈ (mset m (keyT x k) true).map (·.1) ↔ t ∈ m.map (·.1) ∨ t = keyT x k := by
   intro t
   rw [hk]
   split
   ·rename_i hy
    constructor
    ·exact .inl
    ·rintro (h | rfl)
     ·exact h
     ·exact hy
   ·simp
  have hlen : (mset m (keyT x k) true).length ≤ m.length + 1 := by
   have : (mset m (keyT x k) true).length = ((mset m (keyT x k) true).map (·.1)).length := by simp
   rw [this, hk]
   split <;> simp
  refine ⟨k1, fun t => ?_, by simp only [List.length_cons]; omega⟩
  rw [k2, hm]
  simp only [List.mem_cons, exists_eq_or_imp]
  rw [or_assoc]
theorem puts_spec (c : Course) : ∀ (st : List Starter) (m : List (categories_table × Bool)), (m.map (·.1)).Nodup →
  ((st.foldl (putT c) m).map (·.1)).Nodup ∧ (∀ t, t ∈ (st.foldl (putT c) m).map (·.1) ↔ t ∈ m.map (·.1) ∨ (0 ≤ t.distance ∧ t.distance < (c.Distances.length : Int) ∧ ∃ s ∈ st, s.Distance = t.distance ∧ (t.category = -1 ∨ t.category ∈ ofS c s))) ∧ (st.foldl (putT c) m).length ≤ m.length + st.length * (c.Categories.length + 1)
 | [], m, h => ⟨h, by simp, by simp⟩
 | s :: st, m, h => by
  rw [List.foldl_cons]
  have hp : ((putT c m s).map (·.1)).Nodup ∧ (∀ t, t ∈ (putT c m s).map (·.1) ↔ t ∈ m.map (·.1) ∨ (0 ≤ t.distance ∧ t.distance < (c.Distances.length : Int) ∧ s.Distance = t.distance ∧ (t.category = -1 ∨ t.category ∈ ofS c s))) ∧ (putT c m s).length ≤ m.length + (c.Categories.length + 1) := by
   unfold putT
   cases e : (decide (s.Distance < 0) || decide ((c.Distances.length : Int) ≤ s.Distance)) with
   | true =>
    simp only [Bool.or_eq_true, decide_eq_true_eq] at e
    refine ⟨h, fun t => ⟨.inl, ?_⟩, by rw [cond_true]; omega⟩
    rintro (h | ⟨h1, h2, h3, _⟩)
    ·exact h
    ·omega
   | false =>
    simp only [Bool.or_eq_false_iff, decide_eq_false_iff_not] at e
    obtain ⟨k1, k2, k3⟩ := msets_spec s (ofS c s ++ [-1]) m h
    rw [cond_false]
    refine ⟨k1, fun t => ?_, ?_⟩
    ·rw [k2]
     constructor
     ·rintro (h | ⟨k, hk, rfl⟩)
      ·exact .inl h
      ·refine .inr ⟨by show 0 ≤ s.Distance; omega, by show s.Distance < _; omega, rfl, ?_⟩
       rcases List.mem_append.1 hk with h | h
       ·exact .inr h
       ·exact .inl (by simpa [keyT] using h)
     ·rintro (h | ⟨h1, h2, h3, h4⟩)
      ·exact .inl h
      ·refine .inr ⟨t.category, ?_, tab_ext h3.symm rfl⟩
       rcases h4 with h | h
       ·simp [h]
       ·simp [h]
    ·have := ofL_len s.Age c.Categories 0
     have e2 : (ofS c s ++ [-1]).length ≤ c.Categories.length + 1 := by unfold ofS; simp; exact this
     omega
  obtain ⟨k1, k2, k3⟩ := puts_spec c st _ hp.1
  refine ⟨k1, fun t => ?_, by have := hp.2.2; simp only [List.length_cons, Nat.succ_mul]; omega⟩
  rw [k2, hp.2.1]
  simp only [List.mem_cons, exists_eq_or_imp]
  constructor
  ·rintro ((h | ⟨h1, h2, h3⟩) | ⟨h1, h2, h3⟩)
   ·exact .inl h
   ·exact .inr ⟨h1, h2, .inl h3⟩
   ·exact .inr ⟨h1, h2, .inr h3⟩
  ·rintro (h | ⟨h1, h2, h3 | h3⟩)
   ·exact .inl (.inl h)
   ·exact .inl (.inr ⟨h1, h2, h3⟩)
   ·exact .inr ⟨h1, h2, h3⟩
theorem run_L3 (n : Nat) : ∀ (p : List (categories_table × Bool)) (s : List categories_table), s.length + p.length ≤ 4294967295 → runP (F_gg n) (F_hb n) s p = some (s ++ p.map (·.1))
 | [], s, _ => by simp [runP, F_hb]
 | e :: p, s, h => by
  simp only [List.length_cons] at h
  have hE : F_gg n s e = some (.cont (s ++ [e.1])) := by
   unfold F_gg
   rw [app_one _ _ (by omega)]; rfl
  rw [runP, hE]
  show runP _ _ (s ++ [e.1]) p = _
  rw [run_L3 n p _ (by simp; omega)]
  simp
theorem ev_Tables (c : Course) (w : CourseOk c) (st : List Starter) (hst : st.length ≤ 1048576) (hk : c.Categories.length ≤ 40) : Ev (fun n => F_ab n c st) (tablesE c st) := by
 unfold F_ab
 obtain ⟨m1, m2, m3⟩ := puts_spec c st [] (by simp)
 have inner : ∀ (x : Starter) (m : List (categories_table × Bool)), Ev (fun n => iter (F_gn n x (ofS c x ++ [-1])) n (m, 0)) ((ofS c x ++ [-1]).foldl (fun m k => mset m (keyT x k) true) m) := by
  intro x m
  have hl : (ofS c x ++ [-1]).length ≤ 4611686018427387904 := by
   have := ofL_len x.Age c.Categories 0
   unfold ofS; simp; omega
  refine Ev.iter_fold (ofS c x ++ [-1]) (fun m k => mset m (keyT x k) true) m (fun m i => (m, (i : Int))) (fun m => m) hl rfl (fun i k m ha _ => ?_) ?_
  ·unfold F_gn
   simp only [ha.lt, cond_true, ha.ix, Option.bind_some, ha.nx]
   exact Ev.pure _
  ·unfold F_gn
   simp only [end_, cond_false]
   exact Ev.pure _
 refine Ev.bind (v := st.foldl (putT c) []) ?_ ?_
 ·refine Ev.iter_fold st (putT c) [] (fun m i => (m, (i : Int))) (fun m => m) (by omega) rfl (fun i x m ha _ => ?_) ?_
  ·unfold F_hc
   simp only [ha.lt, cond_true, ha.ix, Option.bind_some, ha.nx]
   refine Ev.bind (v := putT c m x) ?_ (Ev.pure _)
   unfold putT
   refine Ev.bind (Ev.or fun _ => Ev.pure _) (Ev.bif (fun _ => Ev.pure _) fun _ => ?_)
   refine Ev.bind (ev_Of c w x) (Ev.bind0 (app_one _ _ ?_) (Ev.bind (inner x m) (Ev.pure _)))
   have := ofS_len c w x; omega
  ·unfold F_hc
   simp only [end_, cond_false]
   exact Ev.pure _
 ·generalize st.foldl (putT c) [] = m at m1 m2 m3
  have hmul : st.length * (c.Categories.length + 1) ≤ 1048576 * 41 := Nat.mul_le_mul hst (by omega)
  simp only [List.length_nil] at m3
  refine Ev.anyP fun p hp => ?_
  have hpl : p.length = m.length := hp.length_eq
  have hpm : (p.map (·.1)).Perm (m.map (·.1)) := hp.map _
  refine Ev.bind (v := p.map (·.1)) ⟨0, fun n _ => by dsimp only; rw [run_L3 n p [] (by simp; omega)]; rfl⟩ ?_
  refine Ev.bind (v := tabs c st) ⟨3, fun n hn => ?_⟩ ?_
  ·obtain ⟨n, rfl⟩ : ∃ k, n = k + 3 := ⟨n - 3, by omega⟩
   dsimp only
   rw [sortT n _ (by simp; omega)]
   congr 1
   obtain ⟨s1, s2⟩ := sortT_spec (p.map (·.1)) (hpm.nodup_iff.2 m1)
   refine strict_eq ltT_asym s1 (tabs_sorted c st) fun t => ?_
   rw [s2, hpm.mem_iff, m2, tabs_mem]
   simp
  ·have hlen : (tabs c st).length ≤ 4000000000 := by
    have h1 : (tabs c st).length ≤ _ := tabN_len c st c.Distances.length
    have h2 : c.Distances.length * (c.Categories.length + 1) ≤ 1048576 * 41 := Nat.mul_le_mul w.dist (by omega)
    omega
   unfold tablesE
   generalize tabs c st = l at hlen
   refine Ev.bind (v := (l.map (·.distance), l.map (·.category))) ?_ (Ev.pure _)
   refine Ev.iter (fun i => ((l.take i).map (·.distance), (l.take i).map (·.category), (i : Int))) l.length (by simp) (fun i hi => ?_) ?_
   ·have ha := At.mk' (x := l[i]) (by omega) (List.getElem?_eq_getElem hi)
    unfold F_hg
    simp only [ha.lt, cond_true, ha.ix, Option.bind_some, ha.nx]
    refine Ev.bind0 (app_one _ _ (by simp; omega)) (Ev.bind0 (app_one _ _ (by simp; omega)) (Ev.const ?_))
    rw [ha.take]; simp only [List.map_append, List.map_cons, List.map_nil]
   ·unfold F_hg
    simp only [end_, cond_false]
    refine Ev.const ?_
    simp
theorem tables_len (c : Course) (w : CourseOk c) (st : List Starter) (hd : c.Distances.length ≤ 10) (hk : c.Categories.length ≤ 40) : (tabs c st).length ≤ 1048576 := by
 have h1 : (tabs c st).length ≤ _ := tabN_len c st c.Distances.length
 have h2 : c.Distances.length * (c.Categories.length + 1) ≤ 10 * 41 := Nat.mul_le_mul hd (by omega)
 omega
end Go.Sw
