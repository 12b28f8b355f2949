/- Chip and Wearer, and the reference's. -/
import Derived.Test.YtkjlhfabbbomjaaGreatDoorW18Ch
import Derived.Test.YtkjlhfabbbomjaaGreatDoorSxC
set_option linter.unusedVariables false
set_option linter.unusedSimpArgs false
namespace Go.Sw
def ofBib (b : Int) (s : Starter) : Bool := s.Bib == b
def fndR (x : List Starter) (b : Int) (i : Nat) : Ctl Unit Int := match (x.drop i).findIdx? (ofBib b) with
 | some j => .done ((i + j : Nat) : Int)
 | none => .cont ()
def fndI (x : List Starter) (b : Int) : Int := match x.findIdx? (ofBib b) with
 | some j => (j : Int)
 | none => -1
theorem fndR_yes {x : List Starter} {b : Int} {i : Nat} {s : Starter} (h : At x i s) (e : ofBib b s = true) : fndR x b i = .done (i : Int) := by
 unfold fndR
 rw [h.drop, List.findIdx?_cons, e]
 simp
theorem fndR_no {x : List Starter} {b : Int} {i : Nat} {s : Starter} (h : At x i s) (e : ofBib b s = false) : fndR x b i = fndR x b (i + 1) := by
 unfold fndR
 rw [h.drop, List.findIdx?_cons, e]
 cases (x.drop (i + 1)).findIdx? (ofBib b) with
 | none => rfl
 | some j => simp; omega
theorem fndR_end (x : List Starter) (b : Int) : fndR x b x.length = .cont () := by
 unfold fndR
 simp
theorem fndR_zero (x : List Starter) (b : Int) : fndR x b 0 = match x.findIdx? (ofBib b) with
 | some j => .done (j : Int)
 | none => .cont () := by
 unfold fndR
 simp
theorem ev_indexBib (x : List Starter) (b : Int) (hx : x.length ≤ 1048576) : Ev (fun n => F_z n x b) (fndI x b) := by
 unfold F_z
 refine Ev.bind (v := fndR x b 0) (Ev.list_down x (fun i => (i : Int)) (fndR x b) (by omega) rfl (fun i s ha => ?_) ?_) ?_
 ·cases e : ofBib b s with
  | true =>
   refine .inr ?_
   rw [fndR_yes ha e]
   unfold F_ce
   simp only [ha.lt, cond_true, ha.ix, Option.bind_some]
   unfold ofBib at e
   refine Ev.bind (v := ()) (Ev.pure _) ?_
   rw [e]; exact Ev.pure _
  | false =>
   refine .inl ⟨?_, fndR_no ha e⟩
   unfold F_ce
   simp only [ha.lt, cond_true, ha.ix, Option.bind_some]
   unfold ofBib at e
   refine Ev.bind (v := ()) (Ev.pure _) ?_
   rw [e, ha.nx]; exact Ev.pure _
 ·unfold F_ce
  rw [fndR_end]
  simp only [end_, cond_false]; exact Ev.pure _
 ·rw [fndR_zero]
  unfold fndI
  cases x.findIdx? (ofBib b) with
  | none => exact Ev.pure _
  | some j => exact Ev.pure _
theorem ev_refFind (x : List Starter) (b : Int) (hx : x.length ≤ 1048576) : Ev (fun n => F_e n x b) (fndI x b) := by
 unfold F_e
 refine Ev.bind (v := fndR x b 0) (Ev.list_down x (fun i => (i : Int)) (fndR x b) (by omega) rfl (fun i s ha => ?_) ?_) ?_
 ·cases e : ofBib b s with
  | true =>
   refine .inr ?_
   rw [fndR_yes ha e]
   unfold F_dl
   simp only [ha.lt, cond_true, ha.ix, Option.bind_some]
   unfold ofBib at e
   rw [e]; exact Ev.pure _
  | false =>
   refine .inl ⟨?_, fndR_no ha e⟩
   unfold F_dl
   simp only [ha.lt, cond_true, ha.ix, Option.bind_some]
   unfold ofBib at e
   rw [e, ha.nx]; exact Ev.pure _
 ·unfold F_dl
  rw [fndR_end]
  simp only [end_, cond_false]; exact Ev.pure _
 ·rw [fndR_zero]
  unfold fndI
  cases x.findIdx? (ofBib b) with
  | none => exact Ev.pure _
  | some j => exact Ev.pure _
def fstS (x : List Starter) (b : Int) : Option Starter := x.find? (ofBib b)
theorem fnd_cases (x : List Starter) (b : Int) : (fndI x b = -1 ∧ fstS x b = none) ∨ ∃ (j : Nat) (s : Starter), fndI x b = (j : Int) ∧ fstS x b = some s ∧ x[j]? = some s := by
 unfold fndI fstS
 induction x with
 | nil => exact .inl ⟨rfl, rfl⟩
 | cons s x ih =>
  rw [List.findIdx?_cons, List.find?_cons]
  cases e : ofBib b s with
  | true => exact .inr ⟨0, s, rfl, rfl, rfl⟩
  | false =>
   rcases ih with ⟨h1, h2⟩ | ⟨j, s', h1, h2, h3⟩
   ·left
    cases q : x.findIdx? (ofBib b) with
    | none => exact ⟨rfl, h2⟩
    | some j => rw [q] at h1; exact absurd h1 (by show (j : Int) ≠ -1; omega)
   ·right
    cases q : x.findIdx? (ofBib b) with
    | none => rw [q] at h1; exact absurd h1 (by show (-1 : Int) ≠ j; omega)
    | some j' =>
     rw [q] at h1
     have : j' = j := by have h1' : (j' : Int) = j := h1; omega
     subst this
     exact ⟨j' + 1, s', rfl, h2, by simpa using h3⟩
abbrev zS : Starter := { Bib := 0, Distance := 0, Wave := 0, Slot := 0, Age := 0, Chip := 0, Team := 0, Lot := 0 : Starter }
def findR (x : List Starter) (b : Int) : Starter × Bool := match fstS x b with
 | some s => (s, true)
 | none => (zS, false)
theorem ev_find (x : List Starter) (b : Int) (hx : x.length ≤ 1048576) : Ev (fun n => F_q n x b) (findR x b) := by
 unfold F_q
 refine Ev.bind (ev_indexBib x b hx) ?_
 unfold findR
 rcases fnd_cases x b with ⟨h1, h2⟩ | ⟨j, s, h1, h2, h3⟩
 ·rw [h1, h2]; exact Ev.pure _
 ·rw [h1, h2]
  have : decide ((j : Int) < 0) = false := decide_eq_false (by omega)
  rw [this, cond_false, idx_nat h3]
  exact Ev.pure _
def swapB (pr : Pair) (b : Int) : Int := bif b == pr.A then pr.B else bif b == pr.B then pr.A else b
def chipB (p : List Pair) (w b : Int) : Option Int := bif decide (0 < w) then (idx p (w - 1)).map fun pr => swapB pr b else some b
def chipOf (x : List Starter) (b b' : Int) : Int × Int := match fstS x b, fstS x b' with
 | some _, some s => (s.Chip, 0)
 | _, _ => (0, 180)
def chipS (x : List Starter) (p : List Pair) (w b : Int) : Int × Int := bif decide (w < 0) || decide ((p.length : Int) < w) then (0, 1) else match chipB p w b with
 | none => (0, 1)
 | some b' => chipOf x b b'
theorem chip_idx {p : List Pair} {w : Int} (hp : p.length ≤ 1048576) (h0 : 0 < w) (h1 : w ≤ p.length) : ∃ pr, idx p (w - 1) = some pr ∧ IntKind.i64.wrap (w - 1) = w - 1 := by
 have hlt : (w - 1).toNat < p.length := by omega
 refine ⟨p[(w - 1).toNat], ?_, wrap64 (by omega) (by omega)⟩
 unfold idx
 rw [decide_eq_true (show 0 ≤ w - 1 by omega)]
 exact List.getElem?_eq_getElem hlt
theorem ev_chip (x : List Starter) (p : List Pair) (w b : Int) (hx : x.length ≤ 1048576) (hp : p.length ≤ 1048576) : Ev (fun n => F_c n x p w b) (chipS x p w b) := by
 unfold F_c chipS
 refine Ev.bind (v := decide (w < 0) || decide ((p.length : Int) < w)) ?_ ?_
 ·cases decide (w < 0) with
  | true => exact Ev.pure _
  | false => exact Ev.pure _
 cases e : (decide (w < 0) || decide ((p.length : Int) < w)) with
 | true => exact Ev.pure _
 | false =>
  simp only [cond_false]
  have hw : 0 ≤ w ∧ w ≤ p.length := by
   rw [Bool.or_eq_false_iff] at e
   have e1 := of_decide_eq_false e.1
   have e2 := of_decide_eq_false e.2
   omega
  have hb : ∃ b', chipB p w b = some b' ∧ Ev (fun n => ((bif decide (0 < w) then (idx p (IntKind.i64.wrap (w - 1))).bind fun x17 => ((bif (b == x17.A) then some x17.B else (bif (b == x17.B) then some x17.A else some b)) : Option Int).bind fun b20 => some b20 else some b) : Option Int)) b' := by
   unfold chipB
   cases q : decide (0 < w) with
   | false => exact ⟨b, rfl, Ev.pure _⟩
   | true =>
    obtain ⟨pr, h1, h2⟩ := chip_idx hp (of_decide_eq_true q) hw.2
    refine ⟨swapB pr b, by rw [h1]; rfl, ?_⟩
    rw [h2, h1]
    unfold swapB
    simp only [cond_true, Option.bind_some]
    cases (b == pr.A) with
    | true => exact Ev.pure _
    | false =>
     cases (b == pr.B) with
     | true => exact Ev.pure _
     | false => exact Ev.pure _
  obtain ⟨b', h1, h2⟩ := hb
  rw [h1]
  show Ev _ (chipOf x b b')
  refine Ev.bind h2 (Ev.bind (ev_find x b hx) (Ev.bind (ev_find x b' hx) ?_))
  unfold findR chipOf
  cases fstS x b with
  | none => exact Ev.pure _
  | some s =>
   cases fstS x b' with
   | none => exact Ev.pure _
   | some s' => exact Ev.pure _
theorem ev_refChip (x : List Starter) (p : List Pair) (w b : Int) (hx : x.length ≤ 1048576) (hp : p.length ≤ 1048576) : Ev (fun n => F_t n x p w b) (chipS x p w b) := by
 unfold F_t chipS
 refine Ev.bind (v := decide (w < 0) || decide ((p.length : Int) < w)) ?_ ?_
 ·cases decide (w < 0) with
  | true => exact Ev.pure _
  | false => exact Ev.pure _
 cases e : (decide (w < 0) || decide ((p.length : Int) < w)) with
 | true => exact Ev.pure _
 | false =>
  simp only [cond_false]
  have hw : 0 ≤ w ∧ w ≤ p.length := by
   rw [Bool.or_eq_false_iff] at e
   have e1 := of_decide_eq_false e.1
   have e2 := of_decide_eq_false e.2
   omega
  have comm : ∀ a b : Int, (a == b) = (b == a) := fun a b => by
   cases h : (a == b) with
   | true =>
    have : a = b := by simpa using h
    subst this; simp
   | false =>
    have : a ≠ b := by simpa using h
    symm; simpa using fun q => this q.symm
  have hb : ∃ b', chipB p w b = some b' ∧ (match decide (0 < w) with
    | false => b' = b
    | true => ∃ pr, idx p (w - 1) = some pr ∧ IntKind.i64.wrap (w - 1) = w - 1 ∧ b' = swapB pr b) := by
   unfold chipB
   cases q : decide (0 < w) with
   | false => exact ⟨b, rfl, rfl⟩
   | true =>
    obtain ⟨pr, h1, h2⟩ := chip_idx hp (of_decide_eq_true q) hw.2
    exact ⟨swapB pr b, by rw [h1]; rfl, pr, h1, h2, rfl⟩
  obtain ⟨b', h1, h2⟩ := hb
  rw [h1]
  show Ev _ (chipOf x b b')
  have fin : Ev (fun n => ((F_e n x b).bind fun r39 => (bif decide (r39 < 0) then some true else (F_e n x b').bind fun r41 => some (decide (r41 < 0))) : Option Bool).bind fun b37 => (bif b37 then some (0, 180) else (F_e n x b').bind fun r43 => (idx x r43).bind fun x44 => some (x44.Chip, 0)))
    (chipOf x b b') := by
   unfold chipOf
   rcases fnd_cases x b with ⟨e1, e2⟩ | ⟨j, s, e1, e2, e3⟩
   ·rw [e2]
    refine Ev.bind (v := true) (Ev.bind (ev_refFind x b hx) ?_) (Ev.pure _)
    rw [e1]; exact Ev.pure _
   ·rw [e2]
    have hj : decide ((j : Int) < 0) = false := decide_eq_false (by omega)
    rcases fnd_cases x b' with ⟨f1, f2⟩ | ⟨j', s', f1, f2, f3⟩
    ·rw [f2]
     refine Ev.bind (v := true) (Ev.bind (ev_refFind x b hx) ?_) (Ev.pure _)
     rw [e1, hj]
     refine Ev.bind (ev_refFind x b' hx) ?_
     rw [f1]; exact Ev.pure _
    ·rw [f2]
     have hj' : decide ((j' : Int) < 0) = false := decide_eq_false (by omega)
     refine Ev.bind (v := false) (Ev.bind (ev_refFind x b hx) ?_) ?_
     ·rw [e1, hj]
      refine Ev.bind (ev_refFind x b' hx) ?_
      rw [f1, hj']; exact Ev.pure _
     ·refine Ev.bind (ev_refFind x b' hx) ?_
      rw [f1, idx_nat f3]
      exact Ev.pure _
  cases q : decide (0 < w) with
  | false =>
   rw [q] at h2
   obtain rfl : b' = b := h2
   exact fin
  | true =>
   rw [q] at h2
   obtain ⟨pr, g1, g2, rfl⟩ := h2
   rw [g2, g1]
   simp only [cond_true, Option.bind_some]
   revert fin
   unfold swapB
   rw [comm b pr.A, comm b pr.B]
   cases (pr.A == b) with
   | true => exact fun fin => fin
   | false =>
    cases (pr.B == b) with
    | true => exact fun fin => fin
    | false => exact fun fin => fin
def wearsB (x : List Starter) (p : List Pair) (w c : Int) (s : Starter) : Bool := bif (chipS x p w s.Bib).2 == 0 then (chipS x p w s.Bib).1 == c else false
def wearS (x : List Starter) (p : List Pair) (w c : Int) (y : List Starter) : Ctl Unit (Int × Bool) := match y.find? (wearsB x p w c) with
 | some s => .done (s.Bib, true)
 | none => .cont ()
def wearR (x : List Starter) (p : List Pair) (w c : Int) : Int × Bool := match x.find? (wearsB x p w c) with
 | some s => (s.Bib, true)
 | none => (0, false)
theorem ev_wearer (x : List Starter) (p : List Pair) (w c : Int) (hx : x.length ≤ 1048576) (hp : p.length ≤ 1048576) : Ev (fun n => F_k n x p w c) (wearR x p w c) := by
 unfold F_k
 refine Ev.bind (v := wearS x p w c (x.drop 0)) (Ev.list_down x (fun i => (i : Int)) (fun i => wearS x p w c (x.drop i)) (by omega) rfl (fun i s ha => ?_) ?_) ?_
 ·have e0 : Ev (fun n => F_cp n x p w c (i : Int)) (bif wearsB x p w c s then .done (.done (s.Bib, true)) else .cont ((i + 1 : Nat) : Int)) := by
   unfold F_cp
   simp only [ha.lt, cond_true, ha.ix, Option.bind_some, ha.nx]
   refine Ev.bind (ev_chip x p w s.Bib hx hp) (Ev.bind (v := wearsB x p w c s) ?_ ?_)
   ·unfold wearsB
    cases ((chipS x p w s.Bib).2 == 0) with
    | true => exact Ev.pure _
    | false => exact Ev.pure _
   ·cases wearsB x p w c s with
    | true => exact Ev.pure _
    | false => exact Ev.pure _
  cases e : wearsB x p w c s with
  | true =>
   refine .inr ?_
   rw [e] at e0
   show Ev _ (Ctl.done (wearS x p w c (x.drop i)))
   unfold wearS
   rw [ha.drop, List.find?_cons, e]
   exact e0
  | false =>
   rw [e] at e0
   refine .inl ⟨e0, ?_⟩
   show wearS x p w c (x.drop i) = wearS x p w c (x.drop (i + 1))
   unfold wearS
   rw [ha.drop, List.find?_cons, e]
 ·unfold F_cp
  simp only [end_, cond_false, List.drop_length]; exact Ev.pure _
 ·unfold wearS wearR
  rw [List.drop_zero]
  cases x.find? (wearsB x p w c) with
  | none => exact Ev.pure _
  | some s => exact Ev.pure _
theorem ev_refWearer (x : List Starter) (p : List Pair) (w c : Int) (hx : x.length ≤ 1048576) (hp : p.length ≤ 1048576) : Ev (fun n => F_aa n x p w c) (wearR x p w c) := by
 unfold F_aa
 refine Ev.bind (v := wearS x p w c (x.drop 0)) (Ev.list_down x (fun i => (i : Int)) (fun i => wearS x p w c (x.drop i)) (by omega) rfl (fun i s ha => ?_) ?_) ?_
 ·have e0 : Ev (fun n => F_bn n x p w c (i : Int)) (bif wearsB x p w c s then .done (.done (s.Bib, true)) else .cont ((i + 1 : Nat) : Int)) := by
   unfold F_bn
   simp only [ha.lt, cond_true, ha.ix, Option.bind_some, ha.nx]
   refine Ev.bind (ev_refChip x p w s.Bib hx hp) (Ev.bind (v := wearsB x p w c s) ?_ ?_)
   ·unfold wearsB
    cases ((chipS x p w s.Bib).2 == 0) with
    | true => exact Ev.pure _
    | false => exact Ev.pure _
   ·cases wearsB x p w c s with
    | true => exact Ev.pure _
    | false => exact Ev.pure _
  cases e : wearsB x p w c s with
  | true =>
   refine .inr ?_
   rw [e] at e0
   show Ev _ (Ctl.done (wearS x p w c (x.drop i)))
   unfold wearS
   rw [ha.drop, List.find?_cons, e]
   exact e0
  | false =>
   rw [e] at e0
   refine .inl ⟨e0, ?_⟩
   show wearS x p w c (x.drop i) = wearS x p w c (x.drop (i + 1))
   unfold wearS
   rw [ha.drop, List.find?_cons, e]
 ·unfold F_bn
  simp only [end_, cond_false, List.drop_length]; exact Ev.pure _
 ·unfold wearS wearR
  rw [List.drop_zero]
  cases x.find? (wearsB x p w c) with
  | none => exact Ev.pure _
  | some s => exact Ev.pure _
theorem sane18 : F_am 300 = some true := by kernel_rfl
theorem law_ChipsChipSpec (x : List Starter) (p : List Pair) (w b c : Int) (hx : x.length ≤ 1048576 ∧ ∀ s ∈ x, Starter.wf s) (hp : p.length ≤ 1048576 ∧ ∀ s ∈ p, Pair.wf s) (hw : IsInt .i64 w) (hb : IsInt .i64 b) (hc : IsInt .i64 c) : ∃ n, F_al n x p w b c = some true := by
 refine Ev.ex ?_
 unfold F_al
 refine Ev.bind (Ev.const sane18) ?_
 simp only [Bool.not_true, cond_false]
 refine Ev.bind (v := decide (30 < (x.length : Int)) || decide (30 < (p.length : Int))) ?_ ?_
 ·cases decide (30 < (x.length : Int)) with
  | true => exact Ev.pure _
  | false => exact Ev.pure _
 cases e : (decide (30 < (x.length : Int)) || decide (30 < (p.length : Int))) with
 | true => exact Ev.pure _
 | false =>
  simp only [cond_false]
  have hx30 : x.length ≤ 30 := by
   rw [Bool.or_eq_false_iff] at e
   have := of_decide_eq_false e.1
   omega
  have round : ∀ v : Int, ∃ bs : List Int, bs.length ≤ 1048576 ∧ Ev (fun n => (Go.Sw.iter (F_dd n x) n ([b], 0) : Option (List Int))) bs ∧ Ev (fun n => (Go.Sw.iter (F_ek n x p c v bs) n 0 : Option (Ctl Unit (Ctl Int (Ctl Unit Bool))))) (.cont ()) := by
   intro v
   let g : List Int × Nat → Starter → List Int × Nat := fun a s => (bif decide ((a.2 : Int) < 4) then a.1 ++ [s.Bib] else a.1, a.2 + 1)
   have hlen : ∀ (l : List Starter) (a : List Int × Nat), (l.foldl g a).1.length ≤ a.1.length + l.length ∧ (l.foldl g a).2 = a.2 + l.length := by
    intro l
    induction l with
    | nil => intro a; exact ⟨Nat.le_refl _, rfl⟩
    | cons s l ih =>
     intro a
     obtain ⟨h1, h2⟩ := ih (g a s)
     simp only [List.foldl_cons, List.length_cons]
     refine ⟨Nat.le_trans h1 ?_, by rw [h2]; simp [g]; omega⟩
     simp only [g]
     cases decide ((a.2 : Int) < 4) with
     | true => simp <;> omega
     | false => simp <;> omega
   refine ⟨(x.foldl g ([b], 0)).1, ?_, ?_, ?_⟩
   ·have := (hlen x ([b], 0)).1
    simp at this
    omega
   ·refine Ev.iter_fold x g ([b], 0) (fun a i => (a.1, (i : Int))) (fun a => a.1) (by omega) rfl (fun i s a ha hfold => ?_) ?_
    ·unfold F_dd
     simp only [ha.lt, cond_true, ha.ix, Option.bind_some, ha.nx]
     have h2 := hlen (x.take i) ([b], 0)
     rw [← hfold] at h2
     have hi : a.2 = i := by
      have := h2.2
      rw [List.length_take, Nat.min_eq_left (Nat.le_of_lt ha.lt')] at this
      simpa using this
     have ha1 : a.1.length ≤ 40 := by
      have := h2.1
      rw [List.length_take, Nat.min_eq_left (Nat.le_of_lt ha.lt')] at this
      have := ha.lt'
      simp at *
      omega
     show Ev _ (Ctl.cont ((g a s).1, ((i + 1 : Nat) : Int)))
     simp only [g]
     rw [hi]
     cases decide ((i : Int) < 4) with
     | true =>
      simp only [cond_true]
      rw [app_one a.1 s.Bib (by omega)]
      exact Ev.pure _
     | false => exact Ev.pure _
    ·unfold F_dd
     simp only [end_, cond_false]; exact Ev.pure _
   ·generalize hbs : (x.foldl g ([b], 0)).1 = bs
    have hbl : bs.length ≤ 1048576 := by
     have := (hlen x ([b], 0)).1
     rw [hbs] at this
     simp at this
     omega
    refine Ev.iter (fun i => (i : Int)) bs.length rfl (fun i hi => ?_) ?_
    ·have ha := At.mk' (x := bs[i]) (show bs.length ≤ 4611686018427387904 by omega) (List.getElem?_eq_getElem hi)
     unfold F_ek
     simp only [ha.lt, cond_true, ha.ix, Option.bind_some, ha.nx]
     refine Ev.bind (ev_chip x p v _ hx.1 hp.1) (Ev.bind (ev_refChip x p v _ hx.1 hp.1) (Ev.bind (ev_wearer x p v _ hx.1 hp.1) (Ev.bind (ev_refWearer x p v _ hx.1 hp.1) ?_)))
     simp only [bne_self_eq_false, cond_false, Option.bind_some]
     exact Ev.pure _
    ·unfold F_ek
     simp only [end_, cond_false]; exact Ev.pure _
  refine Ev.bind (v := Ctl.cont ()) ?_ ?_
  ·refine Ev.iter (fun i => (i : Int)) 2 rfl (fun i hi => ?_) ?_
   ·have ha := At.mk' (l := [w, andI .i64 w 3]) (x := [w, andI .i64 w 3][i]) (by simp) (List.getElem?_eq_getElem hi)
    unfold F_ew
    simp only [ha.lt, cond_true, ha.ix, Option.bind_some, ha.nx]
    obtain ⟨bs, _, h1, h2⟩ := round ([w, andI .i64 w 3][i])
    exact Ev.bind h1 (Ev.bind h2 (Ev.pure _))
   ·unfold F_ew
    exact Ev.pure _
  ·refine Ev.bind (v := ()) (Ev.pure _) (Ev.bind (v := ()) (Ev.pure _) ?_)
   simp only [beq_self_eq_true]
   exact Ev.pure _
end Go.Sw
