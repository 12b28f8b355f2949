/- Categories: who belongs, who is a member, which tables there are. -/
import Derived.Test.YtjikdlekkmifhaaGreatPCa
import Derived.Test.YtjikdlekkmifhaaGreatPTa
set_option linter.unusedVariables false
set_option linter.unusedSimpArgs false
namespace Go.Sw
def ofL (age : Int) : List Category → Nat → List Int
 | [], _ => []
 | x :: l, i => bif decide (x.From ≤ age) && decide (age ≤ x.To) then (i : Int) :: ofL age l (i + 1) else ofL age l (i + 1)
def ofS (c : Course) (s : Starter) : List Int := ofL s.Age c.Categories 0
theorem ofL_len (age : Int) : ∀ (l : List Category) (i : Nat), (ofL age l i).length ≤ l.length
 | [], _ => Nat.le_refl _
 | x :: l, i => by
  unfold ofL
  have := ofL_len age l (i + 1)
  cases decide (x.From ≤ age) && decide (age ≤ x.To) <;> simp <;> omega
theorem ofL_mem (age : Int) : ∀ (l : List Category) (i : Nat) (x : Int), x ∈ ofL age l i → (i : Int) ≤ x ∧ x < ((i + l.length : Nat) : Int)
 | [], _, _, h => by cases h
 | y :: l, i, x, h => by
  unfold ofL at h
  have ih := ofL_mem age l (i + 1) x
  have fin : x ∈ ofL age l (i + 1) → (i : Int) ≤ x ∧ x < ((i + (y :: l).length : Nat) : Int) := fun h => by
   have := ih h
   simp only [List.length_cons]
   omega
  cases q : (decide (y.From ≤ age) && decide (age ≤ y.To)) with
  | false => rw [q] at h; exact fin h
  | true =>
   rw [q, cond_true] at h
   rcases List.mem_cons.1 h with rfl | h
   ·simp only [List.length_cons]; omega
   ·exact fin h
theorem ev_Of (c : Course) (w : CourseOk c) (s : Starter) : Ev (fun n => F_p n c s) (ofS c s) := by
 have hc := w.cat
 unfold F_p ofS
 have loop : ∀ (r : List Category) (i : Nat) (out : List Int), c.Categories.drop i = r → i ≤ c.Categories.length → out.length ≤ i → EvI (fun n => F_ev n c s) (out, (i : Int)) (out ++ ofL s.Age r i) := by
  intro r
  induction r with
  | nil =>
   intro i out hr hi ho
   refine EvI.done ?_
   unfold F_ev
   simp only [end_drop hr hi, cond_false, ofL, List.append_nil]
   exact Ev.pure _
  | cons x r ih =>
   intro i out hr hi ho
   obtain ⟨ha, hr'⟩ := At.of_drop (by omega) hr
   have hlt := ha.lt'
   have step : Ev (fun n => F_ev n c s (out, (i : Int))) (.cont ((bif decide (x.From ≤ s.Age) && decide (s.Age ≤ x.To) then out ++ [(i : Int)] else out), ((i + 1 : Nat) : Int))) := by
    unfold F_ev
    simp only [ha.lt, cond_true, ha.ix, Option.bind_some, ha.nx]
    refine Ev.bind (Ev.and fun _ => Ev.pure _) ?_
    refine Ev.bind (Ev.bif (fun _ => ?_) fun _ => Ev.pure _) (Ev.pure _)
    exact Ev.const (by rw [app_one _ _ (by omega)]; rfl)
   unfold ofL
   cases q : (decide (x.From ≤ s.Age) && decide (s.Age ≤ x.To)) with
   | true =>
    rw [q] at step
    exact (EvI.cont step (ih (i + 1) _ hr' (by omega) (by simp; omega))).eq (by simp)
   | false =>
    rw [q] at step
    exact EvI.cont step (ih (i + 1) _ hr' (by omega) (by simp; omega))
 exact Ev.bind ((loop c.Categories 0 [] rfl (Nat.zero_le _) (Nat.le_refl _)).ev) (Ev.pure _)
theorem ev_refOf (c : Course) (w : CourseOk c) (s : Starter) : Ev (fun n => F_ae n c s) (ofS c s) := by
 have hc := w.cat
 unfold F_ae ofS
 have loop : ∀ (r : List Category) (i : Nat) (out : List Int), c.Categories.drop i = r → i ≤ c.Categories.length → out.length ≤ i → EvI (fun n => F_dl n c s) (out, (i : Int)) (out ++ ofL s.Age r i) := by
  intro r
  induction r with
  | nil =>
   intro i out hr hi ho
   refine EvI.done ?_
   unfold F_dl
   simp only [end_drop hr hi, cond_false, ofL, List.append_nil]
   exact Ev.pure _
  | cons x r ih =>
   intro i out hr hi ho
   obtain ⟨ha, hr'⟩ := At.of_drop (by omega) hr
   have hlt := ha.lt'
   have step : Ev (fun n => F_dl n c s (out, (i : Int))) (.cont ((bif decide (x.From ≤ s.Age) && decide (s.Age ≤ x.To) then out ++ [(i : Int)] else out), ((i + 1 : Nat) : Int))) := by
    unfold F_dl
    simp only [ha.lt, cond_true, ha.ix, Option.bind_some, ha.nx]
    refine Ev.bind (Ev.and fun _ => Ev.pure _) ?_
    refine Ev.bind (Ev.bif (fun _ => ?_) fun _ => Ev.pure _) (Ev.pure _)
    exact Ev.const (by rw [app_one _ _ (by omega)]; rfl)
   unfold ofL
   cases q : (decide (x.From ≤ s.Age) && decide (s.Age ≤ x.To)) with
   | true =>
    rw [q] at step
    exact (EvI.cont step (ih (i + 1) _ hr' (by omega) (by simp; omega))).eq (by simp)
   | false =>
    rw [q] at step
    exact EvI.cont step (ih (i + 1) _ hr' (by omega) (by simp; omega))
 exact Ev.bind ((loop c.Categories 0 [] rfl (Nat.zero_le _) (Nat.le_refl _)).ev) (Ev.pure _)
def inL (k : Int) (l : List Int) : Bool := l.any fun x => x == k
theorem inL_iff (k : Int) (l : List Int) : inL k l = true ↔ k ∈ l := by
 unfold inL
 rw [List.any_eq_true]
 constructor
 ·rintro ⟨x, hx, e⟩; rw [← eq_of_beq e]; exact hx
 ·intro h; exact ⟨k, h, by simp⟩
theorem ev_In (l : List Int) (k : Int) (hl : l.length ≤ 1048576) : Ev (fun n => F_ah n l k) (inL k l) := by
 unfold F_ah inL
 refine Ev.bind (Ev.iter_any l (fun x => x == k) (fun i => (i : Int)) (Ctl.done true) (Ctl.cont ()) (by omega) rfl (fun i x ha hq => ?_) (fun i x ha hq => ?_) ?_) ?_
 ·unfold F_gq
  simp only [ha.lt, cond_true, ha.ix, Option.bind_some, ha.nx, hq, cond_false]
  exact Ev.pure _
 ·unfold F_gq
  simp only [ha.lt, cond_true, ha.ix, Option.bind_some, ha.nx, hq]
  exact Ev.pure _
 ·unfold F_gq
  simp only [end_, cond_false]
  exact Ev.pure _
 ·cases l.any (fun x => x == k) <;> exact Ev.pure _
theorem firstI_any {α : Type} (q : α → Bool) (l : List α) : decide (0 ≤ firstI q l 0) = l.any q := by
 rcases firstI_spec q l 0 with ⟨h1, h2⟩ | ⟨j, x, h1, h2, h3, h4⟩
 ·rw [h1]
  have : l.any q = false := by
   rw [Bool.eq_false_iff]
   intro e
   obtain ⟨x, hx, e⟩ := List.any_eq_true.1 e
   have := List.all_eq_true.1 h2 x hx
   rw [e] at this
   cases this
  rw [this]; rfl
 ·rw [h1, List.any_eq_true.2 ⟨x, List.mem_of_getElem? h2, h3⟩]
  exact decide_eq_true (by omega)
theorem ev_Contains (l : List Int) (k : Int) (hl : l.length ≤ 1048576) : Ev (fun n => F_an n l k) (inL k l) := by
 unfold F_an F_ex
 have e : inL k l = decide (0 ≤ firstI (fun x => k == x) l 0) := by
  rw [firstI_any]
  unfold inL
  congr 1
  funext x
  exact Bool.beq_comm
 rw [e]
 refine Ev.bind (Ev.first l (fun x => k == x) (by omega) (fun i x ha => ?_) ?_) (Ev.pure _)
 ·unfold F_gz
  simp only [ha.lt, cond_true, ha.ix, Option.bind_some, ha.nx]
  cases (k == x) <;> exact Ev.pure _
 ·unfold F_gz
  simp only [end_, cond_false]
  exact Ev.pure _
def belS (c : Course) (s : Starter) (d k : Int) : Bool := (s.Distance == d) && ((k == -1) || inL k (ofS c s))
theorem ofS_len (c : Course) (w : CourseOk c) (s : Starter) : (ofS c s).length ≤ 1048576 := Nat.le_trans (ofL_len _ _ _) w.cat
theorem ev_belongs (c : Course) (w : CourseOk c) (s : Starter) (d k : Int) : Ev (fun n => F_ad n c s d k) (belS c s d k) := by
 unfold F_ad belS
 exact Ev.bind (Ev.and fun _ => Ev.or fun _ => Ev.bind (ev_refOf c w s) (Ev.bind (ev_In _ _ (ofS_len c w s)) (Ev.pure _))) (Ev.pure _)
theorem ev_deleted (c : Course) (w : CourseOk c) (s : Starter) (d k : Int) : Ev (fun n => F_ak n s d k c) (!belS c s d k) := by
 unfold F_ak F_eg F_fa F_do F_fb F_du F_ep belS
 have h1 : Ev (fun n => ((bif (k == (-1)) then some true else (F_p n c s).bind fun r7 => (F_an n r7 k).bind fun r8 => some r8 : Option Bool)).bind fun b4 => some b4) ((k == -1) || inL k (ofS c s)) :=
  Ev.bind (Ev.or fun _ => Ev.bind (ev_Of c w s) (Ev.bind (ev_Contains _ _ (ofS_len c w s)) (Ev.pure _))) (Ev.pure _)
 refine Ev.bind (v := _) (Ev.bind (v := bif (s.Distance == d) && ((k == -1) || inL k (ofS c s)) then (-1) else bif (s.Distance == d) then 1 else 0) (Ev.bind0 rfl ?_) (Ev.pure _)) ((Ev.pure _).eq ?_)
 ·cases (s.Distance == d) with
  | false => exact Ev.pure _
  | true =>
   refine Ev.ff (Ev.bind (Ev.bind h1 (Ev.pure _)) ?_)
   cases ((k == -1) || inL k (ofS c s)) <;> exact Ev.pure _
 ·cases (s.Distance == d) <;> cases ((k == -1) || inL k (ofS c s)) <;> rfl
def bibs (c : Course) (st : List Starter) (d k : Int) : List Int := (st.filter fun s => belS c s d k).map (·.Bib)
def memS (c : Course) (st : List Starter) (d k : Int) : List Int := dedup (isort ltI (bibs c st d k))
def nameS (c : Course) (k : Int) : List UInt8 × Int := bif k == -1 then ([], 0) else bif decide (k < 0) || decide ((c.Categories.length : Int) ≤ k) then ([], 290) else (((c.Categories[k.toNat]?).map (·.Name)).getD [], 0)
theorem ev_Name (c : Course) (k : Int) : Ev (fun n => F_t n c k) (nameS c k) := by
 unfold F_t nameS
 refine Ev.bif (fun _ => Ev.pure _) fun _ => ?_
 refine Ev.bind (Ev.or fun _ => Ev.pure _) (Ev.bif (fun _ => Ev.pure _) fun h => ?_)
 simp only [Bool.or_eq_false_iff, decide_eq_false_iff_not] at h
 obtain ⟨j, rfl⟩ : ∃ j : Nat, k = (j : Int) := ⟨k.toNat, by omega⟩
 have hj : j < c.Categories.length := by omega
 rw [Int.toNat_natCast]
 refine Ev.bind0 (idx_nat (List.getElem?_eq_getElem hj)) ?_
 rw [List.getElem?_eq_getElem hj]
 exact Ev.pure _
theorem ev_Name2 (c : Course) (k : Int) : Ev (fun n => F_fd n c k) (nameS c k) := ev_Name c k
def membersE (c : Course) (st : List Starter) (d k : Int) : List Int × Int :=
 bif courseE c == 0 then bif decide (d < 0) || decide ((c.Distances.length : Int) ≤ d) then ([], 90) else bif decide (k < -1) || decide ((c.Categories.length : Int) ≤ k) then ([], 290) else (memS c st d k, 0) else ([], courseE c)
theorem ev_selected (c : Course) (w : CourseOk c) (st : List Starter) (hst : st.length ≤ 1048576) (d k : Int) : Ev (fun n => F_co n st d k c) (st.filter fun s => belS c s d k) := by
 unfold F_co F_eo
 refine Ev.bind (Ev.isNil (fun h => (Ev.pure _).eq h.symm) (Ev.bind0 (app_two [] st (by simp; omega)) (Ev.pure _))) (Ev.bind (v := _) ?_ (Ev.pure _))
 have e : (st.filter fun s => belS c s d k) = (st.filter fun s => !!belS c s d k) := by simp
 rw [e]
 unfold F_ds F_ez
 refine Ev.delete st (fun s => !belS c s d k) hst (Ev.first st _ (by omega) (fun i x ha => ?_) ?_) (fun l i j x y hll ha hy hx hij => ?_) (fun l i => ?_)
 ·unfold F_hi
  simp only [List.nil_append, ha.lt, cond_true, ha.ix, Option.bind_some, ha.nx]
  refine Ev.bind (ev_deleted c w x d k) ?_
  cases belS c x d k <;> exact Ev.pure _
 ·unfold F_hi
  simp only [List.nil_append, end_, cond_false]
  exact Ev.pure _
 ·unfold F_hd
  simp only [ha.lt, cond_true, ha.ix, Option.bind_some, ha.nx, idx_nat hy]
  refine Ev.bind (ev_deleted c w x d k) ?_
  have hlt := ha.lt'
  have hi := (List.getElem?_eq_some_iff.1 hy).1
  have hw : IntKind.i64.wrap ((i : Int) + 1) = ((i + 1 : Nat) : Int) := wrap_succ (by omega)
  simp only [setI_nat l x hi, Option.bind_some, hw]
  cases belS c x d k <;> exact Ev.pure _
 ·unfold F_hd
  simp only [end_, cond_false]
  exact Ev.pure _
theorem ev_Members (c : Course) (w : CourseOk c) (q : PartsOk c) (k : FewOk c) (hl : c.Ties.length ≤ 1048576) (hw : ∀ x ∈ c.Ties, Step.wf x) (st : List Starter) (hst : st.length ≤ 1048576) (d g : Int) :
  Ev (fun n => F_af n c st d g) (membersE c st d g) := by
 unfold F_af membersE
 refine Ev.bind (ev_Course c w q k hl hw) ?_
 rw [bne]
 cases courseE c == 0 with
 | false => exact Ev.pure _
 | true =>
 refine Ev.ff (Ev.bind (Ev.or fun _ => Ev.pure _) ?_)
 rw [cond_true]
 refine Ev.bif (fun _ => Ev.pure _) fun _ => ?_
 refine Ev.bind (ev_Name c g) ?_
 have hn : (nameS c g).2 = bif decide (g < -1) || decide ((c.Categories.length : Int) ≤ g) then 290 else 0 := by
  unfold nameS
  by_cases h : g = -1
  ·subst h
   simp
   have : ¬ (c.Categories.length : Int) ≤ -1 := by omega
   simp [this]
  ·have e : decide (g < 0) = decide (g < -1) := by rw [Bool.eq_iff_iff]; simp; omega
   have e2 : (g == -1) = false := by simpa using h
   rw [e, e2]
   cases (decide (g < -1) || decide ((c.Categories.length : Int) ≤ g)) <;> rfl
 rw [hn]
 cases (decide (g < -1) || decide ((c.Categories.length : Int) ≤ g)) with
 | true => exact Ev.pure _
 | false =>
 refine Ev.ff (Ev.bind0 rfl (Ev.bind0 rfl (Ev.bind (ev_selected c w st hst d g) ?_)))
 have hfl : (st.filter fun s => belS c s d g).length ≤ 1048576 := Nat.le_trans (List.length_filter_le _ _) hst
 refine Ev.bind (v := bibs c st d g) ?_ ?_
 ·unfold bibs
  generalize (st.filter fun s => belS c s d g) = l at hfl
  have loop : ∀ (r : List Starter) (i : Nat), l.drop i = r → i ≤ l.length → EvI (fun n => F_gp n l) ((l.take i).map (·.Bib), (i : Int)) (l.map (·.Bib)) := by
   intro r
   induction r with
   | nil =>
    intro i hr hi
    refine EvI.done ?_
    unfold F_gp
    simp only [end_drop hr hi, cond_false]
    have : l.length ≤ i := by simpa using hr
    rw [List.take_of_length_le this]
    exact Ev.pure _
   | cons x r ih =>
    intro i hr hi
    obtain ⟨ha, hr'⟩ := At.of_drop (by omega) hr
    have hlt := ha.lt'
    refine EvI.cont ?_ (ih (i + 1) hr' (by omega))
    unfold F_gp
    simp only [ha.lt, cond_true, ha.ix, Option.bind_some, ha.nx]
    rw [app_one _ _ (by simp; omega), ha.take]
    exact Ev.const (by simp)
  exact (loop l 0 rfl (Nat.zero_le _)).ev
 ·have hb : (bibs c st d g).length ≤ 1048576 := by unfold bibs; simpa using hfl
  refine Ev.bind0 (sortI_eq _ (by omega)) (Ev.bind0 (dedupF_eq _ ?_) (Ev.pure _))
  rw [(isort_perm ltI _).length_eq]; omega
def putS (c : Course) (d k : Int) (s : List Int) (x : Starter) : List Int := bif !belS c x d k || inL x.Bib s then s else insB x.Bib s
theorem put_spec (c : Course) (d k : Int) : ∀ (st : List Starter) (acc : List Int), acc.Pairwise (· < ·) → (st.foldl (putS c d k) acc).Pairwise (· < ·) ∧ (∀ x, x ∈ st.foldl (putS c d k) acc ↔ x ∈ acc ∨ x ∈ bibs c st d k) ∧ (st.foldl (putS c d k) acc).length ≤ acc.length + st.length
 | [], acc, h => ⟨h, by simp [bibs], by simp⟩
 | s :: st, acc, h => by
  rw [List.foldl_cons]
  have hb : ∀ x, x ∈ bibs c (s :: st) d k ↔ (belS c s d k = true ∧ x = s.Bib) ∨ x ∈ bibs c st d k := by
   intro x
   unfold bibs
   cases e : belS c s d k <;> simp [e]
  have hput : (putS c d k acc s).Pairwise (· < ·) ∧ (∀ x, x ∈ putS c d k acc s ↔ x ∈ acc ∨ (belS c s d k = true ∧ x = s.Bib)) ∧ (putS c d k acc s).length ≤ acc.length + 1 := by
   unfold putS
   cases e : belS c s d k with
   | false => simp [h]
   | true =>
    cases e2 : inL s.Bib acc with
    | true =>
     rw [inL_iff] at e2
     simp only [Bool.not_true, Bool.or_true, cond_true]
     refine ⟨h, fun x => ⟨.inl, ?_⟩, by omega⟩
     rintro (h | ⟨_, rfl⟩)
     ·exact h
     ·exact e2
    | false =>
     have : s.Bib ∉ acc := fun q => by rw [(inL_iff _ _).2 q] at e2; cases e2
     simp only [Bool.not_true, Bool.or_false, cond_false]
     refine ⟨insB_sorted _ _ this h, fun x => ?_, by rw [insB_len]; exact Nat.le_refl _⟩
     rw [insB_mem]
     constructor
     ·rintro (h | h)
      ·exact .inr ⟨trivial, h⟩
      ·exact .inl h
     ·rintro (h | ⟨_, h⟩)
      ·exact .inr h
      ·exact .inl h
  obtain ⟨k1, k2, k3⟩ := put_spec c d k st (putS c d k acc s) hput.1
  refine ⟨k1, fun x => ?_, by have := hput.2.2; simp only [List.length_cons]; omega⟩
  rw [k2, hput.2.1, hb]
  constructor
  ·rintro ((h | h) | h)
   ·exact .inl h
   ·exact .inr (.inl h)
   ·exact .inr (.inr h)
  ·rintro (h | h | h)
   ·exact .inl (.inl h)
   ·exact .inl (.inr h)
   ·exact .inr h
theorem put_mem (c : Course) (st : List Starter) (d k : Int) : st.foldl (putS c d k) [] = memS c st d k := by
 obtain ⟨h1, h2, _⟩ := put_spec c d k st [] List.Pairwise.nil
 obtain ⟨k1, k2⟩ := dedup_sort (bibs c st d k)
 refine strict_eq (lt := (· < ·)) (fun a b h => by omega) h1 k1 fun x => ?_
 show _ ↔ x ∈ dedup (isort ltI (bibs c st d k))
 rw [h2, k2]; simp
theorem ev_refMembers (c : Course) (w : CourseOk c) (q : PartsOk c) (k : FewOk c) (hl : c.Ties.length ≤ 1048576) (hw : ∀ x ∈ c.Ties, Step.wf x) (st : List Starter) (hst : st.length ≤ 1048576) (d g : Int) :
  Ev (fun n => F_bs n c st d g) (membersE c st d g) := by
 unfold F_bs membersE
 refine Ev.bind (ev_refCourse c w q k hl hw) ?_
 rw [bne]
 cases courseE c == 0 with
 | false => exact Ev.pure _
 | true =>
 refine Ev.ff (Ev.bind (Ev.or fun _ => Ev.pure _) ?_)
 rw [cond_true]
 refine Ev.bif (fun _ => Ev.pure _) fun _ => ?_
 refine Ev.bind (Ev.or fun _ => Ev.pure _) ?_
 refine Ev.bif (fun _ => Ev.pure _) fun _ => ?_
 rw [← put_mem]
 refine Ev.bind (Ev.iter_fold st (putS c d g) [] (fun s i => (s, (i : Int))) (fun s => s) (by omega) rfl (fun i x s ha hs => ?_) ?_) (Ev.pure _)
 ·have hlen : s.length ≤ i := by
   obtain ⟨_, _, h⟩ := put_spec c d g (st.take i) [] List.Pairwise.nil
   rw [← hs] at h
   simp at h
   omega
  have hlt := ha.lt'
  unfold F_gu
  simp only [ha.lt, cond_true, ha.ix, Option.bind_some, ha.nx]
  refine Ev.bind (v := putS c d g s x) ?_ (Ev.pure _)
  refine Ev.bind (Ev.bind (ev_belongs c w x d g) (Ev.or fun _ => Ev.bind (ev_In s x.Bib (by omega)) (Ev.pure _))) ?_
  unfold putS
  refine Ev.bif (fun _ => Ev.pure _) fun _ => ?_
  have loop : ∀ (r : List Int) (j : Nat), s.drop j = r → j ≤ s.length → EvI (fun n => F_fn n st (s, (i : Int))) (j : Int) ((j + posB x.Bib r : Nat) : Int) := by
   intro r
   induction r with
   | nil =>
    intro j hr hj
    refine EvI.done ?_
    unfold F_fn
    simp only [end_drop hr hj, cond_false, Option.bind_some]
    exact Ev.pure _
   | cons y r ih =>
    intro j hr hj
    obtain ⟨hb, hr'⟩ := At.of_drop (by omega) hr
    have hlt2 := hb.lt'
    have step : Ev (fun n => F_fn n st (s, (i : Int)) (j : Int)) (bif decide (y < x.Bib) then .cont ((j + 1 : Nat) : Int) else .done (j : Int)) := by
     unfold F_fn
     simp only [hb.lt, cond_true, hb.ix, ha.ix, Option.bind_some, hb.nx]
     cases decide (y < x.Bib) <;> exact Ev.pure _
    unfold posB
    cases e : decide (y < x.Bib) with
    | true =>
     rw [e] at step
     exact (EvI.cont step (ih (j + 1) hr' (by omega))).eq (by rw [cond_true]; omega)
    | false =>
     rw [e] at step
     exact EvI.done step
  refine Ev.bind ((loop s 0 rfl (Nat.zero_le _)).ev) ?_
  have hp := posB_le x.Bib s
  rw [Nat.zero_add]
  refine Ev.bind0 (slc_from s hp) ?_
  refine Ev.bind0 (app_two _ _ (by simp; omega)) ?_
  refine Ev.bind0 (slc_to s hp) ?_
  refine Ev.bind0 (app_one _ _ (by simp; omega)) ?_
  refine Ev.bind0 (app_two _ _ (by simp; omega)) ?_
  refine (Ev.pure _).eq ?_
  rw [← insB_cut]
  simp
 ·unfold F_gu
  simp only [end_, cond_false]
  exact Ev.pure _
end Go.Sw
