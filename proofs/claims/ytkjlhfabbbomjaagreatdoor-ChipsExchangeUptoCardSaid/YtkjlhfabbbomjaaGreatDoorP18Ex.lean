/- Who wears whose chip in the world of a pair. -/
import Derived.Test.YtkjlhfabbbomjaaGreatDoorW18Ex
import Derived.Test.YtkjlhfabbbomjaaGreatDoorSxC
set_option linter.unusedVariables false
set_option linter.unusedSimpArgs false
namespace Go.Sw
def ofBib (b : Int) (s : Starter) : Bool := s.Bib == b
def fndR (x : List Starter) (b : Int) (i : Nat) : Ctl Unit Int := match (x.drop i).findIdx? (ofBib b) with
 | some j => .done ((i + j : Nat) : Int)
 | none => .cont ()
def fndI (x : List Starter) (b : Int) : Int := match x.findIdx? (ofBib b) with
 | some j => (j : Int)
 | none => -1
theorem fndR_yes {x : List Starter} {b : Int} {i : Nat} {s : Starter} (h : At x i s) (e : ofBib b s = true) : fndR x b i = .done (i : Int) := by
 unfold fndR
 rw [h.drop, List.findIdx?_cons, e]
 simp
theorem fndR_no {x : List Starter} {b : Int} {i : Nat} {s : Starter} (h : At x i s) (e : ofBib b s = false) : fndR x b i = fndR x b (i + 1) := by
 unfold fndR
 rw [h.drop, List.findIdx?_cons, e]
 cases (x.drop (i + 1)).findIdx? (ofBib b) with
 | none => rfl
 | some j => simp; omega
theorem fndR_end (x : List Starter) (b : Int) : fndR x b x.length = .cont () := by
 unfold fndR
 simp
theorem fndR_zero (x : List Starter) (b : Int) : fndR x b 0 = match x.findIdx? (ofBib b) with
 | some j => .done (j : Int)
 | none => .cont () := by
 unfold fndR
 simp
theorem ev_indexBib (x : List Starter) (b : Int) (hx : x.length ≤ 1048576) : Ev (fun n => F_ag n x b) (fndI x b) := by
 unfold F_ag
 refine Ev.bind (v := fndR x b 0) (Ev.list_down x (fun i => (i : Int)) (fndR x b) (by omega) rfl (fun i s ha => ?_) ?_) ?_
 ·cases e : ofBib b s with
  | true =>
   refine .inr ?_
   rw [fndR_yes ha e]
   unfold F_cd
   simp only [ha.lt, cond_true, ha.ix, Option.bind_some]
   unfold ofBib at e
   refine Ev.bind (v := ()) (Ev.pure _) ?_
   rw [e]; exact Ev.pure _
  | false =>
   refine .inl ⟨?_, fndR_no ha e⟩
   unfold F_cd
   simp only [ha.lt, cond_true, ha.ix, Option.bind_some]
   unfold ofBib at e
   refine Ev.bind (v := ()) (Ev.pure _) ?_
   rw [e, ha.nx]; exact Ev.pure _
 ·unfold F_cd
  rw [fndR_end]
  simp only [end_, cond_false]; exact Ev.pure _
 ·rw [fndR_zero]
  unfold fndI
  cases x.findIdx? (ofBib b) with
  | none => exact Ev.pure _
  | some j => exact Ev.pure _
def fstS (x : List Starter) (b : Int) : Option Starter := x.find? (ofBib b)
theorem fnd_cases (x : List Starter) (b : Int) : (fndI x b = -1 ∧ fstS x b = none) ∨ ∃ (j : Nat) (s : Starter), fndI x b = (j : Int) ∧ fstS x b = some s ∧ x[j]? = some s := by
 unfold fndI fstS
 induction x with
 | nil => exact .inl ⟨rfl, rfl⟩
 | cons s x ih =>
  rw [List.findIdx?_cons, List.find?_cons]
  cases e : ofBib b s with
  | true => exact .inr ⟨0, s, rfl, rfl, rfl⟩
  | false =>
   rcases ih with ⟨h1, h2⟩ | ⟨j, s', h1, h2, h3⟩
   ·left
    cases q : x.findIdx? (ofBib b) with
    | none => exact ⟨rfl, h2⟩
    | some j => rw [q] at h1; exact absurd h1 (by show (j : Int) ≠ -1; omega)
   ·right
    cases q : x.findIdx? (ofBib b) with
    | none => rw [q] at h1; exact absurd h1 (by show (-1 : Int) ≠ j; omega)
    | some j' =>
     rw [q] at h1
     have : j' = j := by have h1' : (j' : Int) = j := h1; omega
     subst this
     exact ⟨j' + 1, s', rfl, h2, by simpa using h3⟩
abbrev zS : Starter := { Bib := 0, Distance := 0, Wave := 0, Slot := 0, Age := 0, Chip := 0, Team := 0, Lot := 0 : Starter }
def findR (x : List Starter) (b : Int) : Starter × Bool := match fstS x b with
 | some s => (s, true)
 | none => (zS, false)
theorem ev_find (x : List Starter) (b : Int) (hx : x.length ≤ 1048576) : Ev (fun n => F_k n x b) (findR x b) := by
 unfold F_k
 refine Ev.bind (ev_indexBib x b hx) ?_
 unfold findR
 rcases fnd_cases x b with ⟨h1, h2⟩ | ⟨j, s, h1, h2, h3⟩
 ·rw [h1, h2]; exact Ev.pure _
 ·rw [h1, h2]
  have : decide ((j : Int) < 0) = false := decide_eq_false (by omega)
  rw [this, cond_false, idx_nat h3]
  exact Ev.pure _
def swapB (pr : Pair) (b : Int) : Int := bif b == pr.A then pr.B else bif b == pr.B then pr.A else b
def chipB (p : List Pair) (w b : Int) : Option Int := bif decide (0 < w) then (idx p (w - 1)).map fun pr => swapB pr b else some b
def chipOf (x : List Starter) (b b' : Int) : Int × Int := match fstS x b, fstS x b' with
 | some _, some s => (s.Chip, 0)
 | _, _ => (0, 180)
def chipS (x : List Starter) (p : List Pair) (w b : Int) : Int × Int := bif decide (w < 0) || decide ((p.length : Int) < w) then (0, 1) else match chipB p w b with
 | none => (0, 1)
 | some b' => chipOf x b b'
theorem chip_idx {p : List Pair} {w : Int} (hp : p.length ≤ 1048576) (h0 : 0 < w) (h1 : w ≤ p.length) : ∃ pr, idx p (w - 1) = some pr ∧ IntKind.i64.wrap (w - 1) = w - 1 := by
 have hlt : (w - 1).toNat < p.length := by omega
 refine ⟨p[(w - 1).toNat], ?_, wrap64 (by omega) (by omega)⟩
 unfold idx
 rw [decide_eq_true (show 0 ≤ w - 1 by omega)]
 exact List.getElem?_eq_getElem hlt
theorem ev_chip (x : List Starter) (p : List Pair) (w b : Int) (hx : x.length ≤ 1048576) (hp : p.length ≤ 1048576) : Ev (fun n => F_b n x p w b) (chipS x p w b) := by
 unfold F_b chipS
 refine Ev.bind (v := decide (w < 0) || decide ((p.length : Int) < w)) ?_ ?_
 ·cases decide (w < 0) with
  | true => exact Ev.pure _
  | false => exact Ev.pure _
 cases e : (decide (w < 0) || decide ((p.length : Int) < w)) with
 | true => exact Ev.pure _
 | false =>
  simp only [cond_false]
  have hw : 0 ≤ w ∧ w ≤ p.length := by
   rw [Bool.or_eq_false_iff] at e
   have e1 := of_decide_eq_false e.1
   have e2 := of_decide_eq_false e.2
   omega
  have hb : ∃ b', chipB p w b = some b' ∧ Ev (fun n => ((bif decide (0 < w) then (idx p (IntKind.i64.wrap (w - 1))).bind fun x17 => ((bif (b == x17.A) then some x17.B else (bif (b == x17.B) then some x17.A else some b)) : Option Int).bind fun b20 => some b20 else some b) : Option Int)) b' := by
   unfold chipB
   cases q : decide (0 < w) with
   | false => exact ⟨b, rfl, Ev.pure _⟩
   | true =>
    obtain ⟨pr, h1, h2⟩ := chip_idx hp (of_decide_eq_true q) hw.2
    refine ⟨swapB pr b, by rw [h1]; rfl, ?_⟩
    rw [h2, h1]
    unfold swapB
    simp only [cond_true, Option.bind_some]
    cases (b == pr.A) with
    | true => exact Ev.pure _
    | false =>
     cases (b == pr.B) with
     | true => exact Ev.pure _
     | false => exact Ev.pure _
  obtain ⟨b', h1, h2⟩ := hb
  rw [h1]
  show Ev _ (chipOf x b b')
  refine Ev.bind h2 (Ev.bind (ev_find x b hx) (Ev.bind (ev_find x b' hx) ?_))
  unfold findR chipOf
  cases fstS x b with
  | none => exact Ev.pure _
  | some s =>
   cases fstS x b' with
   | none => exact Ev.pure _
   | some s' => exact Ev.pure _
theorem sane18 : F_aj 300 = some true := by kernel_rfl
theorem and1023 (a : Int) : 0 ≤ andI .i64 a 1023 ∧ andI .i64 a 1023 < 1024 := by
 unfold andI
 have h : (BitVec.ofInt IntKind.i64.bits a &&& BitVec.ofInt IntKind.i64.bits 1023).toNat ≤ 1023 := by
  rw [BitVec.toNat_and]
  exact Nat.le_trans Nat.and_le_right (by decide)
 generalize (BitVec.ofInt IntKind.i64.bits a &&& BitVec.ofInt IntKind.i64.bits 1023).toNat = m at h
 rw [wrap64 (by omega) (by omega)]
 omega
theorem pick (x : List Starter) (a : Int) (h : 2 ≤ x.length) : ∃ s, nz (x.length : Int) = some () ∧ idx x (Int.tmod (andI .i64 a 1023) (x.length : Int)) = some s ∧ s ∈ x := by
 obtain ⟨h1, h2⟩ := and1023 a
 have h3 : 0 ≤ Int.tmod (andI .i64 a 1023) (x.length : Int) := Int.tmod_nonneg _ h1
 have h4 : Int.tmod (andI .i64 a 1023) (x.length : Int) < x.length := Int.tmod_lt_of_pos _ (by omega)
 generalize Int.tmod (andI .i64 a 1023) (x.length : Int) = i at h3 h4
 have h5 : i.toNat < x.length := by omega
 refine ⟨x[i.toNat], ?_, ?_, List.getElem_mem _⟩
 ·unfold nz
  rw [show ((x.length : Int) == 0) = false by rw [beq_eq_false_iff_ne]; omega]; rfl
 ·unfold idx
  rw [decide_eq_true h3]
  exact List.getElem?_eq_getElem h5
theorem first_own {x : List Starter} (hd : (x.map (·.Bib)).Nodup) {s : Starter} (hs : s ∈ x) : fstS x s.Bib = some s := by
 unfold fstS
 induction x with
 | nil => cases hs
 | cons y x ih =>
  rw [List.map_cons, List.nodup_cons] at hd
  rw [List.find?_cons]
  rcases List.mem_cons.1 hs with rfl | h
  ·have : ofBib s.Bib s = true := by unfold ofBib; simp
   rw [this]
  ·have : ofBib s.Bib y = false := by
    unfold ofBib
    rw [beq_eq_false_iff_ne]
    intro q
    exact hd.1 (List.mem_map.2 ⟨s, h, q.symm⟩)
   rw [this]
   exact ih hd.2 h
theorem inner (x : List Starter) (i : Nat) (s : Starter) (hi : At x i s) (hl : x.length ≤ 1048576) : Ev (fun n => (Go.Sw.iter (F_ai n x (i : Int)) n 0 : Option (Ctl Unit (Ctl Int (Ctl Unit Bool)))))
  (bif ((x.take i).map (·.Bib)).contains s.Bib then (Ctl.done (Ctl.done (Ctl.done true)) : Ctl Unit (Ctl Int (Ctl Unit Bool))) else Ctl.cont ()) := by
 have hlt := hi.lt'
 refine Ev.inner x i (·.Bib) s.Bib (Ctl.done (Ctl.done (Ctl.done true))) (Ctl.cont ()) (by omega) (by omega) (fun j y hj hy hk => ?_) (fun j y hj hy hk => ?_) ?_
 ·unfold F_ai
  have : decide ((j : Int) < (i : Int)) = true := decide_eq_true (by omega)
  simp only [this, cond_true, hi.ix, hy.ix, hy.nx, Option.bind_some]
  have e : (s.Bib == y.Bib) = false := by
   rw [beq_eq_false_iff_ne]
   intro q
   exact of_decide_eq_false hk q.symm
  rw [e]; exact Ev.pure _
 ·unfold F_ai
  have : decide ((j : Int) < (i : Int)) = true := decide_eq_true (by omega)
  simp only [this, cond_true, hi.ix, hy.ix, hy.nx, Option.bind_some]
  have e : (s.Bib == y.Bib) = true := by
   rw [beq_iff_eq]
   exact (of_decide_eq_true hk).symm
  rw [e]; exact Ev.pure _
 ·unfold F_ai
  have : decide ((i : Int) < (i : Int)) = false := decide_eq_false (by omega)
  simp only [this, cond_false]; exact Ev.pure _
theorem law_ChipsExchange (x : List Starter) (a b c : Int) (hx : x.length ≤ 1048576 ∧ ∀ s ∈ x, Starter.wf s) (ha : IsInt .i64 a) (hb : IsInt .i64 b) (hc : IsInt .i64 c) : ∃ n, F_ah n x a b c = some true := by
 refine Ev.ex ?_
 unfold F_ah
 refine Ev.bind (Ev.const sane18) ?_
 simp only [Bool.not_true, cond_false]
 refine Ev.bind (v := decide ((x.length : Int) < 2) || decide (30 < (x.length : Int))) ?_ ?_
 ·cases decide ((x.length : Int) < 2) with
  | true => exact Ev.pure _
  | false => exact Ev.pure _
 cases e : (decide ((x.length : Int) < 2) || decide (30 < (x.length : Int))) with
 | true => exact Ev.pure _
 | false =>
  simp only [cond_false]
  rw [Bool.or_eq_false_iff] at e
  have e1 := of_decide_eq_false e.1
  have e2 := of_decide_eq_false e.2
  have h2 : 2 ≤ x.length := by omega
  refine Ev.bind (v := bif x.all (fun _ => true) && decide ((x.map (·.Bib)).Nodup) then (Ctl.cont () : Ctl Unit Bool) else Ctl.done true) ?_ ?_
  ·refine Ev.chk x (fun _ => true) (·.Bib) (Ctl.done true) (Ctl.cont ()) (by omega) (fun i s hi _ hn => ?_) (fun i s hi h => by cases h) (fun i s hi _ hn => ?_) ?_
   ·unfold F_al
    simp only [hi.lt, cond_true]
    refine Ev.bind (v := Ctl.cont ()) ?_ ?_
    ·refine Ev.eq (inner x i s hi (by omega)) ?_
     rw [hn]; rfl
    ·rw [hi.nx]; exact Ev.pure _
   ·unfold F_al
    simp only [hi.lt, cond_true]
    refine Ev.bind (v := Ctl.done (Ctl.done (Ctl.done true))) ?_ (Ev.pure _)
    refine Ev.eq (inner x i s hi (by omega)) ?_
    rw [hn]; rfl
   ·unfold F_al
    simp only [end_, cond_false]; exact Ev.pure _
  cases hnd : (x.all (fun _ => true) && decide ((x.map (·.Bib)).Nodup)) with
  | false => exact Ev.pure _
  | true =>
   simp only [cond_true]
   rw [Bool.and_eq_true] at hnd
   have nd : (x.map (·.Bib)).Nodup := of_decide_eq_true hnd.2
   have chip : ∀ (p : List Pair) (w v : Int) (r : Int × Int), p.length ≤ 1048576 → chipS x p w v = r → Ev (fun n => F_b n x p w v) r := fun p w v r hp h => h ▸ ev_chip x p w v hx.1 hp
   obtain ⟨s, n1, i1, m1⟩ := pick x a h2
   obtain ⟨t, _, i2, m2⟩ := pick x b h2
   obtain ⟨u, _, i3, m3⟩ := pick x c h2
   have f1 := first_own nd m1
   have f2 := first_own nd m2
   have f3 := first_own nd m3
   rw [n1, i1, i2, i3]
   simp only [Option.bind_some]
   have one : ∀ v v' : Int, swapB { A := s.Bib, B := t.Bib : Pair } v = v' → chipS x [{ A := s.Bib, B := t.Bib : Pair }] 1 v = chipOf x v v' := fun v v' h => by
    unfold chipS chipB
    rw [← h]; rfl
   have c1 : chipS x [{ A := s.Bib, B := t.Bib : Pair }] 1 s.Bib = (t.Chip, 0) := by
    rw [one s.Bib t.Bib (by unfold swapB; simp)]
    unfold chipOf
    rw [f1, f2]
   have c2 : chipS x [{ A := s.Bib, B := t.Bib : Pair }] 1 t.Bib = (s.Chip, 0) := by
    by_cases q : t.Bib = s.Bib
    ·have : some t = some s := by rw [← f1, ← f2, q]
     cases this
     exact c1
    ·rw [one t.Bib s.Bib (by unfold swapB; rw [beq_eq_false_iff_ne.2 q]; simp)]
     unfold chipOf
     rw [f1, f2]
   refine Ev.bind (chip _ _ _ _ (by simp) c1) (Ev.bind (chip _ _ _ _ (by simp) c2) ?_)
   simp only [bne_self_eq_false, cond_false, Option.bind_some]
   refine Ev.bind (v := (u.Bib == s.Bib) || (u.Bib == t.Bib)) ?_ ?_
   ·cases (u.Bib == s.Bib) with
    | true => exact Ev.pure _
    | false => exact Ev.pure _
   cases g : ((u.Bib == s.Bib) || (u.Bib == t.Bib)) with
   | true => exact Ev.pure _
   | false =>
    rw [Bool.or_eq_false_iff] at g
    have c3 : chipS x [{ A := s.Bib, B := t.Bib : Pair }] 1 u.Bib = (u.Chip, 0) := by
     rw [one u.Bib u.Bib (by unfold swapB; rw [g.1, g.2]; rfl)]
     unfold chipOf
     rw [f3]
    have c4 : chipS x [{ A := s.Bib, B := t.Bib : Pair }] 0 u.Bib = (u.Chip, 0) := by
     show chipOf x u.Bib u.Bib = _
     unfold chipOf
     rw [f3]
    refine Ev.bind (chip _ _ _ _ (by simp) c3) (Ev.bind (chip _ _ _ _ (by simp) c4) ?_)
    simp only [beq_self_eq_true, cond_true, Option.bind_some]
    exact Ev.pure _
end Go.Sw
