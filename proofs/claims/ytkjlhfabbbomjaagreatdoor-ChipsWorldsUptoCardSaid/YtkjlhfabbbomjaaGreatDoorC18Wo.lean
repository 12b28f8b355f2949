/- In each world every starter wears a chip of their own. -/
import Derived.Test.YtkjlhfabbbomjaaGreatDoorQ18Wo
set_option linter.unusedVariables false
set_option linter.unusedSimpArgs false
namespace Go.Sw
abbrev zS : Starter := { Bib := 0, Distance := 0, Wave := 0, Slot := 0, Age := 0, Chip := 0, Team := 0, Lot := 0 : Starter }
def findR (x : List Starter) (b : Int) : Starter × Bool := match fstS x b with
 | some s => (s, true)
 | none => (zS, false)
theorem Qgd (x : List Starter) (b : Int) (hx : x.length ≤ 1048576) : Ev (fun n => F_ab n x b) (findR x b) := by
 unfold F_ab
 refine Ev.bind (Qe2 x b hx) ?_
 unfold findR
 rcases QgD x b with ⟨h1, h2⟩ | ⟨j, s, h1, h2, h3⟩
 ·rw [h1, h2]; exact Qb _
 ·rw [h1, h2]
  have : decide ((j : Int) < 0) = false := decide_eq_false (by omega)
  rw [this, cond_false, QcE h3]
  exact Qb _
def swapB (pr : Pair) (b : Int) : Int := bif b == pr.A then pr.B else bif b == pr.B then pr.A else b
def chipB (p : List Pair) (w b : Int) : Option Int := bif decide (0 < w) then (idx p (w - 1)).map fun pr => swapB pr b else some b
def chipOf (x : List Starter) (b b' : Int) : Int × Int := match fstS x b, fstS x b' with
 | some _, some s => (s.Chip, 0)
 | _, _ => (0, 180)
def chipS (x : List Starter) (p : List Pair) (w b : Int) : Int × Int := bif decide (w < 0) || decide ((p.length : Int) < w) then (0, 1) else match chipB p w b with
 | none => (0, 1)
 | some b' => chipOf x b b'
theorem Qe6 {p : List Pair} {w : Int} (hp : p.length ≤ 1048576) (h0 : 0 < w) (h1 : w ≤ p.length) : ∃ pr, idx p (w - 1) = some pr ∧ IntKind.i64.wrap (w - 1) = w - 1 := by
 have hlt : (w - 1).toNat < p.length := by omega
 refine ⟨p[(w - 1).toNat], ?_, Q4 (by omega) (by omega)⟩
 unfold idx
 rw [decide_eq_true (show 0 ≤ w - 1 by omega)]
 exact List.getElem?_eq_getElem hlt
theorem Qgf (x : List Starter) (p : List Pair) (w b : Int) (hx : x.length ≤ 1048576) (hp : p.length ≤ 1048576) : Ev (fun n => F_l n x p w b) (chipS x p w b) := by
 unfold F_l chipS
 refine Ev.bind (v := decide (w < 0) || decide ((p.length : Int) < w)) ?_ ?_
 ·cases decide (w < 0) with
  | true => exact Qb _
  | false => exact Qb _
 cases e : (decide (w < 0) || decide ((p.length : Int) < w)) with
 | true => exact Qb _
 | false =>
  simp only [cond_false]
  have hw : 0 ≤ w ∧ w ≤ p.length := by
   rw [Bool.or_eq_false_iff] at e
   have e1 := of_decide_eq_false e.1
   have e2 := of_decide_eq_false e.2
   omega
  have hb : ∃ b', chipB p w b = some b' ∧ Ev (fun n => ((bif decide (0 < w) then (idx p (IntKind.i64.wrap (w - 1))).bind fun x17 => ((bif (b == x17.A) then some x17.B else (bif (b == x17.B) then some x17.A else some b)) : Option Int).bind fun b20 => some b20 else some b) : Option Int)) b' := by
   unfold chipB
   cases q : decide (0 < w) with
   | false => exact ⟨b, rfl, Qb _⟩
   | true =>
    obtain ⟨pr, h1, h2⟩ := Qe6 hp (of_decide_eq_true q) hw.2
    refine ⟨swapB pr b, by rw [h1]; rfl, ?_⟩
    rw [h2, h1]
    unfold swapB
    simp only [cond_true, Option.bind_some]
    cases (b == pr.A) with
    | true => exact Qb _
    | false =>
     cases (b == pr.B) with
     | true => exact Qb _
     | false => exact Qb _
  obtain ⟨b', h1, h2⟩ := hb
  rw [h1]
  show Ev _ (chipOf x b b')
  refine Ev.bind h2 (Ev.bind (Qgd x b hx) (Ev.bind (Qgd x b' hx) ?_))
  unfold findR chipOf
  cases fstS x b with
  | none => exact Qb _
  | some s =>
   cases fstS x b' with
   | none => exact Qb _
   | some s' => exact Qb _
def wearsB (x : List Starter) (p : List Pair) (w c : Int) (s : Starter) : Bool := bif (chipS x p w s.Bib).2 == 0 then (chipS x p w s.Bib).1 == c else false
def wearS (x : List Starter) (p : List Pair) (w c : Int) (y : List Starter) : Ctl Unit (Int × Bool) := match y.find? (wearsB x p w c) with
 | some s => .done (s.Bib, true)
 | none => .cont ()
def wearR (x : List Starter) (p : List Pair) (w c : Int) : Int × Bool := match x.find? (wearsB x p w c) with
 | some s => (s.Bib, true)
 | none => (0, false)
theorem QgG (x : List Starter) (p : List Pair) (w c : Int) (hx : x.length ≤ 1048576) (hp : p.length ≤ 1048576) : Ev (fun n => F_v n x p w c) (wearR x p w c) := by
 unfold F_v
 refine Ev.bind (v := wearS x p w c (x.drop 0)) (Qa6 x (fun i => (i : Int)) (fun i => wearS x p w c (x.drop i)) (by omega) rfl (fun i s ha => ?_) ?_) ?_
 ·have e0 : Ev (fun n => F_fg n x p w c (i : Int)) (bif wearsB x p w c s then .done (.done (s.Bib, true)) else .cont ((i + 1 : Nat) : Int)) := by
   unfold F_fg
   simp only [ha.lt, cond_true, ha.ix, Option.bind_some, ha.nx]
   refine Ev.bind (Qgf x p w s.Bib hx hp) (Ev.bind (v := wearsB x p w c s) ?_ ?_)
   ·unfold wearsB
    cases ((chipS x p w s.Bib).2 == 0) with
    | true => exact Qb _
    | false => exact Qb _
   ·cases wearsB x p w c s with
    | true => exact Qb _
    | false => exact Qb _
  cases e : wearsB x p w c s with
  | true =>
   refine .inr ?_
   rw [e] at e0
   show Ev _ (Ctl.done (wearS x p w c (x.drop i)))
   unfold wearS
   rw [ha.drop, List.find?_cons, e]
   exact e0
  | false =>
   rw [e] at e0
   refine .inl ⟨e0, ?_⟩
   show wearS x p w c (x.drop i) = wearS x p w c (x.drop (i + 1))
   unfold wearS
   rw [ha.drop, List.find?_cons, e]
 ·unfold F_fg
  simp only [QaH, cond_false, List.drop_length]; exact Qb _
 ·unfold wearS wearR
  rw [List.drop_zero]
  cases x.find? (wearsB x p w c) with
  | none => exact Qb _
  | some s => exact Qb _
theorem QdA {x : List Starter} (hd : (x.map (·.Bib)).Nodup) {s : Starter} (hs : s ∈ x) : fstS x s.Bib = some s := by
 unfold fstS
 induction x with
 | nil => cases hs
 | cons y x ih =>
  rw [List.map_cons, List.nodup_cons] at hd
  rw [List.find?_cons]
  rcases List.mem_cons.1 hs with rfl | h
  ·have : ofBib s.Bib s = true := by unfold ofBib; simp
   rw [this]
  ·have : ofBib s.Bib y = false := by
    unfold ofBib
    rw [beq_eq_false_iff_ne]
    intro q
    exact hd.1 (List.mem_map.2 ⟨s, h, q.symm⟩)
   rw [this]
   exact ih hd.2 h
theorem QeH {α : Type} {q : α → Bool} : ∀ {x : List α} {s : α}, s ∈ x → q s = true → (∀ t ∈ x, q t = true → t = s) → x.find? q = some s
 | y :: x, s, hs, h1, h2 => by
  rw [List.find?_cons]
  cases h : q y with
  | true => rw [h2 y (by simp) h]
  | false =>
   rcases List.mem_cons.1 hs with rfl | hs
   ·rw [h] at h1; cases h1
   ·exact QeH hs h1 fun t ht => h2 t (by simp [ht])
theorem QkG {x : List Starter} (hx : (x.map (·.Bib)).Nodup) {b : Int} (h : b ∈ x.map (·.Bib)) : ∃ t ∈ x, t.Bib = b ∧ fstS x b = some t := by
 obtain ⟨t, ht, rfl⟩ := List.mem_map.1 h
 exact ⟨t, ht, rfl, QdA hx ht⟩
theorem Qbk {α : Type} {k : α → Int} : ∀ {x : List α}, (x.map k).Nodup → ∀ {s t : α}, s ∈ x → t ∈ x → k s = k t → s = t
 | y :: x, h, s, t, hs, ht, e => by
  rw [List.map_cons, List.nodup_cons] at h
  rcases List.mem_cons.1 hs with es | hs <;> rcases List.mem_cons.1 ht with et | ht
  ·exact es.trans et.symm
  ·exact absurd (List.mem_map.2 ⟨t, ht, by rw [← e, es]⟩) h.1
  ·exact absurd (List.mem_map.2 ⟨s, hs, by rw [e, et]⟩) h.1
  ·exact Qbk h.2 hs ht e
structure WorldOk (x : List Starter) (p : List Pair) (i : Nat) (N : Starter → Int) (own : Starter → Bool) : Prop where
 chip : ∀ s ∈ x, chipS x p i s.Bib = (N s, 0)
 inj : ∀ s ∈ x, ∀ t ∈ x, N s = N t → s = t
 onto : ∀ s ∈ x, ∃ t ∈ x, N t = s.Chip
 mine : ∀ s ∈ x, (N s == s.Chip) = own s
 flag : ∀ s ∈ x, (bif ((i : Int) == 0) then some true else (idx p (IntKind.i64.wrap ((i : Int) - 1))).bind fun x306 => (bif (s.Bib != x306.A) then (idx p (IntKind.i64.wrap ((i : Int) - 1))).bind fun x308 => some (s.Bib != x308.B) else some false)) = some (own s)
theorem Qg7 (x : List Starter) (p : List Pair) (hx : (x.map (·.Bib)).Nodup) (hc : (x.map (·.Chip)).Nodup) (hp : ∀ q ∈ p, q.A ∈ x.map (·.Bib) ∧ q.B ∈ x.map (·.Bib) ∧ q.A < q.B) (hl : p.length ≤ 1048576) (i : Nat) (hi : i ≤ p.length) :
  ∃ N own, WorldOk x p i N own := by
 have key : ∀ sw : Int → Int, (∀ b, sw (sw b) = b) → (∀ b, b ∈ x.map (·.Bib) → sw b ∈ x.map (·.Bib)) → (∀ b, chipB p i b = some (sw b)) →
   ∃ N : Starter → Int, (∀ s ∈ x, chipS x p i s.Bib = (N s, 0)) ∧ (∀ s ∈ x, ∀ t ∈ x, N s = N t → s = t) ∧ (∀ s ∈ x, ∃ t ∈ x, N t = s.Chip) ∧ ∀ s ∈ x, (N s = s.Chip ↔ sw s.Bib = s.Bib) := by
  intro sw h1 h2 h3
  have tgt : ∀ s ∈ x, ∃ t ∈ x, t.Bib = sw s.Bib ∧ chipS x p i s.Bib = (t.Chip, 0) := by
   intro s hs
   obtain ⟨t, t1, t2, t3⟩ := QkG hx (h2 s.Bib (List.mem_map.2 ⟨s, hs, rfl⟩))
   refine ⟨t, t1, t2, ?_⟩
   unfold chipS
   have e : (decide ((i : Int) < 0) || decide ((p.length : Int) < (i : Int))) = false := by
    rw [Ye (show ¬ (i : Int) < 0 by omega), Ye (show ¬ (p.length : Int) < (i : Int) by omega)]; rfl
   rw [e, h3]
   simp only [cond_false]
   unfold chipOf
   rw [QdA hx hs, t3]
  refine ⟨fun s => (chipS x p i s.Bib).1, fun s hs => ?_, fun s hs t ht e => ?_, fun s hs => ?_, fun s hs => ?_⟩
  ·obtain ⟨t, _, _, t3⟩ := tgt s hs
   show _ = ((chipS x p (i : Int) s.Bib).1, (0 : Int))
   rw [t3]
  ·obtain ⟨s', s1, s2, s3⟩ := tgt s hs
   obtain ⟨t', t1, t2, t3⟩ := tgt t ht
   simp only [s3, t3] at e
   have e2 := Qbk hc s1 t1 e
   subst e2
   have e3 : sw s.Bib = sw t.Bib := s2.symm.trans t2
   have e4 := congrArg sw e3
   rw [h1, h1] at e4
   exact Qbk hx hs ht e4
  ·obtain ⟨t, t1, t2, t3⟩ := tgt s hs
   obtain ⟨u, u1, u2, u3⟩ := tgt t t1
   rw [t2, h1] at u2
   have := Qbk hx u1 hs u2
   subst this
   exact ⟨t, t1, by show (chipS x p (i : Int) t.Bib).1 = _; rw [u3]⟩
  ·obtain ⟨t, t1, t2, t3⟩ := tgt s hs
   simp only [t3]
   constructor
   ·intro e
    have := Qbk hc t1 hs e
    subst this
    exact t2.symm
   ·intro e
    rw [e] at t2
    rw [Qbk hx t1 hs t2]
 by_cases h0 : i = 0
 ·subst h0
  obtain ⟨N, k1, k2, k3, k4⟩ := key id (fun _ => rfl) (fun _ h => h) (fun _ => rfl)
  exact ⟨N, fun _ => true, k1, k2, k3, fun s hs => by rw [beq_iff_eq]; exact (k4 s hs).2 rfl, fun s hs => rfl⟩
 ·obtain ⟨pr, e1, e2⟩ := Qe6 hl (show (0 : Int) < (i : Int) by omega) (show (i : Int) ≤ p.length by omega)
  obtain ⟨a1, a2, a3⟩ := hp pr (List.mem_of_getElem? (Qao e1).2)
  have sww : ∀ b, swapB pr b = if b = pr.A then pr.B else if b = pr.B then pr.A else b := by
   intro b
   unfold swapB
   by_cases q : b = pr.A
   ·rw [if_pos q, beq_iff_eq.2 q]; rfl
   ·rw [if_neg q, beq_eq_false_iff_ne.2 q]
    by_cases q2 : b = pr.B
    ·rw [if_pos q2, beq_iff_eq.2 q2]; rfl
    ·rw [if_neg q2, beq_eq_false_iff_ne.2 q2]; rfl
  obtain ⟨N, k1, k2, k3, k4⟩ := key (swapB pr) (fun b => by
    rw [sww b]
    by_cases q : b = pr.A
    ·rw [if_pos q, sww, if_neg (by omega), if_pos rfl, q]
    ·rw [if_neg q]
     by_cases q2 : b = pr.B
     ·rw [if_pos q2, sww, if_pos rfl, q2]
     ·rw [if_neg q2, sww, if_neg q, if_neg q2]) (fun b hb => by
    rw [sww]
    split
    ·exact a2
    ·split
     ·exact a1
     ·exact hb) (fun b => by
    unfold chipB
    rw [YA (show (0 : Int) < (i : Int) by omega), e1]; rfl)
  refine ⟨N, fun s => (s.Bib != pr.A) && (s.Bib != pr.B), k1, k2, k3, fun s hs => ?_, fun s hs => ?_⟩
  ·have := k4 s hs
   rw [sww] at this
   rw [Bool.eq_iff_iff, beq_iff_eq, this]
   simp only [Bool.and_eq_true, bne_iff_ne, ne_eq]
   by_cases q : s.Bib = pr.A
   ·rw [if_pos q]; omega
   ·rw [if_neg q]
    by_cases q2 : s.Bib = pr.B
    ·rw [if_pos q2]; omega
    ·rw [if_neg q2]; simp [q, q2]
  ·have e3 : ((i : Int) == 0) = false := by rw [beq_eq_false_iff_ne]; omega
   rw [e3, e2, e1]
   simp only [cond_false, Option.bind_some]
   cases (s.Bib != pr.A) <;> rfl
theorem Qfj {x : List Starter} {p : List Pair} {i : Nat} {N : Starter → Int} {own : Starter → Bool} (w : WorldOk x p i N own) {s : Starter} (hs : s ∈ x) : wearR x p i (N s) = (s.Bib, true) := by
 unfold wearR
 have : x.find? (wearsB x p i (N s)) = some s := by
  refine QeH hs ?_ fun t ht h => ?_
  ·unfold wearsB
   rw [w.chip s hs]
   simp
  ·unfold wearsB at h
   rw [w.chip t ht] at h
   simp only [beq_self_eq_true, cond_true, beq_iff_eq] at h
   exact w.inj t ht s hs h
 rw [this]
theorem law_ChipsWorlds (c : Course) (l : List Fact) (hc : Course.wf c) (hl : l.length ≤ 1048576 ∧ ∀ f ∈ l, Fact.wf f) : ∃ n, F_dw n c l = some true := by
 have w := Qfi hc
 have q := QfM hc
 obtain ⟨t1, t2⟩ := QiB hc
 obtain ⟨b, pb, fb⟩ := QgF c w q t1 t2
 refine Ev.ex ?_
 unfold F_dw
 refine Ev.bind (Ev.const Qkg) ?_
 simp only [Bool.not_true, cond_false]
 refine Ev.bind (Ev.bind pb (Ev.or fun _ => Ev.bind (v := ()) (Qb _) (Qb _))) ?_
 cases h6 : (!b || !decide ((l.length : Int) ≤ 14)) with
 | true => exact Qb _
 | false =>
  rw [Bool.or_eq_false_iff, Bool.not_eq_false', Bool.not_eq_false'] at h6
  have h14 : l.length ≤ 14 := by have := of_decide_eq_true h6.2; omega
  obtain ⟨e, he⟩ := Qec c w q (fb h6.1) t1 t2
  simp only [cond_false]
  refine Ev.bind (Qcq e c l (by omega) he) (Ev.bind (Qid e c l (by omega) he) ?_)
  refine Ev.bind (v := (startF e c l).2 != 0 || (pairF (startF e c l) l).2 != 0) (Ev.or fun _ => Qb _) ?_
  cases h15 : ((startF e c l).2 != 0 || (pairF (startF e c l) l).2 != 0) with
  | true =>
   have : ((startF e c l).2 == 0 || (pairF (startF e c l) l).2 == (startF e c l).2) = true := by
    cases q0 : ((startF e c l).2 == 0) with
    | true => rfl
    | false =>
     have : ((startF e c l).2 != 0) = true := by rw [bne, q0]; rfl
     unfold pairF
     rw [this]
     simp
   refine Ev.bind (Ev.eq (Ev.or fun _ => Qb _) this) (Qb _)
  | false =>
   rw [Bool.or_eq_false_iff] at h15
   have g1 : ((startF e c l).2 == 0) = true := by have := h15.1; simpa [bne] using this
   have g2 : ((pairF (startF e c l) l).2 == 0) = true := by have := h15.2; simpa [bne] using this
   obtain ⟨x1, x2, x3⟩ := Qcf g1
   obtain ⟨_, p2, p3⟩ := Qhg g2
   generalize startF e c l = st at *
   generalize pairF st l = pr at *
   simp only [cond_false, bne_self_eq_false]
   unfold F_r
   simp only [Option.bind_some]
   refine Ev.bind (v := (Ctl.cont () : Ctl Unit Bool)) ?_ (Qb _)
   have hW : IntKind.i64.wrap ((pr.1.length : Int) + 1) = ((pr.1.length + 1 : Nat) : Int) := Qaa (by omega)
   refine Ev.iter (fun i => (i : Int)) (pr.1.length + 1) rfl (fun i hi => ?_) ?_
   ·obtain ⟨N, own, ww⟩ := Qg7 st.1 pr.1 x1 x2 p3 (by omega) i (by omega)
    unfold F_fv
    rw [hW]
    have hlt : decide ((i : Int) < ((pr.1.length + 1 : Nat) : Int)) = true := decide_eq_true (by omega)
    simp only [hlt, cond_true]
    have loop : ∀ (r : List Starter) (j : Nat), st.1.drop j = r → j ≤ st.1.length → EvI (fun n => F_fk n st pr (i : Int)) (msetAll N true (st.1.take j), (j : Int)) (.cont (msetAll N true st.1)) := by
     intro r
     induction r with
     | nil =>
      intro j hr hj
      refine EvI.done ?_
      have hlen : st.1.length ≤ j := List.drop_eq_nil_iff.1 hr
      unfold F_fk
      simp only [Q7 hr hj, cond_false, List.take_of_length_le hlen]
      exact Qb _
     | cons s r ih =>
      intro j hr hj
      obtain ⟨ha, hr'⟩ := QO (by omega) hr
      have hlt := ha.lt'
      have hn := ih (j + 1) hr' (by omega)
      rw [ha.take, QaV] at hn
      refine EvI.cont ?_ hn
      have hg : mgetD (msetAll N true (st.1.take j)) (N s) false = false := by
       rw [YG, if_neg]
       intro z
       obtain ⟨t, ht, e⟩ := List.mem_map.1 z
       have := ww.inj t (List.mem_of_mem_take ht) s ha.mem e
       subst this
       have hsplit : st.1.take j ++ t :: r = st.1 := by rw [← hr, List.take_append_drop]
       have h9 := x1
       rw [← hsplit, List.map_append, List.nodup_append] at h9
       exact h9.2.2 t.Bib (List.mem_map.2 ⟨t, ht, rfl⟩) t.Bib (by simp) rfl
      unfold F_fk
      simp only [ha.lt, cond_true, ha.ix, Option.bind_some, ha.nx]
      refine Ev.bind ((Qgf st.1 pr.1 i s.Bib (by omega) (by omega)).eq (ww.chip s ha.mem)) ?_
      refine Ev.bind ((QgG st.1 pr.1 i (N s) (by omega) (by omega)).eq (Qfj ww ha.mem)) ?_
      refine Ev.bind (Ev.const (ww.flag s ha.mem)) ?_
      have h3 := ww.mine s ha.mem
      simp only [bne_self_eq_false, cond_false, hg, Bool.not_true, h3, Option.bind_some]
      exact Qb _
    refine Ev.bind (loop st.1 0 rfl (Nat.zero_le _)).ev ?_
    refine Ev.bind (v := (Ctl.cont () : Ctl Unit (Ctl Int (Ctl Unit Bool)))) ?_ ?_
    ·refine Ev.iter (fun j => (j : Int)) st.1.length rfl (fun j hj => ?_) ?_
     ·have ha := YE (x := st.1[j]) (show st.1.length ≤ 4611686018427387904 by omega) (List.getElem?_eq_getElem hj)
      unfold F_fu
      simp only [ha.lt, cond_true, ha.ix, Option.bind_some, ha.nx]
      have : mgetD (msetAll N true st.1) st.1[j].Chip false = true := by
       rw [YG, if_pos]
       obtain ⟨t, ht, e⟩ := ww.onto _ ha.mem
       exact List.mem_map.2 ⟨t, ht, e⟩
      rw [this]
      exact Qb _
     ·unfold F_fu
      simp only [QaH, cond_false]
      exact Qb _
    ·have : IntKind.i64.wrap ((i : Int) + 1) = ((i + 1 : Nat) : Int) := Qaa (by omega)
     simp only [this]
     exact Qb _
   ·unfold F_fv
    rw [hW]
    have hlt : decide (((pr.1.length + 1 : Nat) : Int) < ((pr.1.length + 1 : Nat) : Int)) = false := decide_eq_false (by omega)
    simp only [hlt, cond_false]
    exact Qb _
end Go.Sw
