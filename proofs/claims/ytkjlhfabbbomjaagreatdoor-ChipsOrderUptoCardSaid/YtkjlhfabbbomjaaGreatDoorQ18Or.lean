/- The plain laws that a law needs, with no program in sight. -/
import Derived.Test.YtkjlhfabbbomjaaGreatDoorW18Or
set_option linter.unusedVariables false
set_option linter.unusedSimpArgs false
namespace Go.Sw
def inR (lo hi x : Int) : Bool := decide (lo ≤ x) && decide (x ≤ hi)
theorem Qd0 (lo hi : Int) (l : List Int) (hl : l.length ≤ 4611686018427387904) : Ev (fun n => F_a n lo hi l) (l.all (inR lo hi)) := by
 have h : Ev (fun n => F_aq n l lo hi) (l.any fun x => !inR lo hi x) := by
  unfold F_aq F_er
  refine Ev.contains l _ (fun n x => F_an n x lo hi) hl fun x _ => ?_
  unfold F_an
  refine Ev.bind (v := !inR lo hi x) ?_ (Qb _)
  refine (Ev.or fun h => Qb _).eq ?_
  unfold inR
  rw [Bool.eq_iff_iff]
  simp
 unfold F_a
 refine Ev.bind h ((Qb _).eq ?_)
 rw [List.not_any_eq_all_not]
 simp
def okN (c : Nat) : Bool := (decide (97 ≤ c) && decide (c ≤ 122)) || (decide (48 ≤ c) && decide (c ≤ 57)) || decide (c = 95)
def okAN (c : Nat) : Bool := decide (97 ≤ c) && decide (c ≤ 122)
def okC (c : UInt8) : Bool := okN c.toNat
def okA (c : UInt8) : Bool := okAN c.toNat
def kwL : List (List UInt8) := [[99, 111, 117, 114, 115, 101], [109, 97, 116, 115], [115, 116, 97, 114, 116], [112, 97, 115, 115], [101, 110, 100], [108, 101, 103], [116, 111], [100, 105, 115, 116, 97, 110, 99, 101], [103, 117, 110], [99, 104, 105, 112], [115, 108, 111, 116], [108, 97, 112, 115], [108, 97, 112], [99, 117, 116, 111, 102, 102], [101, 120, 116, 114, 97], [119, 97, 118, 101], [111, 102, 102, 101, 110, 99, 101], [111, 117, 116], [99, 97, 116, 101, 103, 111, 114, 121], [112, 114, 105, 122, 101], [97, 108, 108], [116, 105, 101, 115], [105, 102], [101, 108, 115, 101], [97, 110, 100], [111, 114], [110, 111, 116], [111, 108, 100, 101, 114], [121, 111, 117, 110, 103, 101, 114], [98, 105, 98], [100, 114, 97, 119], [102, 105, 101, 108, 100], [115, 104, 111, 114, 116], [102, 97, 117, 108, 116, 115], [109, 105, 115, 115, 101, 115], [115, 116, 114, 97, 121, 115], [119, 105, 110, 100, 111, 119], [114, 101, 115, 105, 100, 117, 97, 108], [100, 114, 105, 102, 116], [112, 114, 111, 116, 101, 115, 116], [102, 101, 101], [100, 101, 97, 100, 108, 105, 110, 101]]
theorem Qjf (c d : Bool) : (bif c then some c else some d) = some (c || d) := by cases c <;> rfl
def kwsOf : List UInt8 → List (List UInt8)
 | [] => []
 | b :: l => (bif b == 32 && !(l.dropWhile fun c => c != 32).isEmpty then [l.takeWhile fun c => c != 32] else []) ++ kwsOf l
theorem Qcy : ∀ (l s : List UInt8), (∀ c ∈ s, c ≠ 32) → (s ++ [32]).isPrefixOf l = ((l.takeWhile fun c => c != 32) == s && !(l.dropWhile fun c => c != 32).isEmpty)
 | [], s, h => by cases s <;> simp
 | b :: l, [], h => by
  by_cases e : b = 32
  ·subst e; simp [List.isPrefixOf]
  ·have e1 : (b != 32) = true := by simpa using e
   have e2 : (32 == b) = false := by simpa using fun q => e q.symm
   simp [List.isPrefixOf, List.takeWhile_cons, e1, e2]
 | b :: l, c :: s, h => by
  have hc := h c (by simp)
  have ih := Qcy l s fun d hd => h d (by simp [hd])
  by_cases e : b = 32
  ·subst e
   have : (c == 32) = false := by simpa using hc
   simp [List.isPrefixOf, this]
  ·have e1 : (b != 32) = true := by simpa using e
   simp only [List.cons_append, List.isPrefixOf, List.takeWhile_cons, List.dropWhile_cons, e1, if_true, ih, List.cons_beq_cons]
   by_cases q : c = b
   ·subst q; simp
   ·have q1 : (c == b) = false := by simpa using q
    have q2 : (b == c) = false := by simpa using fun z => q z.symm
    simp [q1, q2]
theorem contains_cons (b : UInt8) (l t : List UInt8) (ht : t ≠ []) : Lib.contains (b :: l) t = (t.isPrefixOf (b :: l) || Lib.contains l t) := by
 unfold Lib.contains
 rw [show Lib.index (b :: l) t = if t.isPrefixOf (b :: l) then 0 else if Lib.index l t == -1 then -1 else Lib.index l t + 1 from rfl]
 cases h : t.isPrefixOf (b :: l) with
 | true => simp
 | false =>
  have := Lib.index_ge l t
  by_cases q : Lib.index l t = -1
  ·simp [q]
  ·have q1 : (Lib.index l t == -1) = false := by simpa using q
   simp only [q1, Bool.false_or]
   rw [Bool.eq_iff_iff]; simp; omega
theorem Qbh (s : List UInt8) (h : ∀ c ∈ s, c ≠ 32) : ∀ l, Lib.contains l (32 :: (s ++ [32])) = (kwsOf l).contains s
 | [] => by simp [Lib.contains, Lib.index, kwsOf]
 | b :: l => by
  rw [contains_cons b l _ (by simp), Qbh s h l]
  simp only [kwsOf, List.isPrefixOf, Qcy l s h]
  by_cases e : b = 32
  ·subst e
   cases q : !(l.dropWhile fun c => c != 32).isEmpty with
   | true =>
    simp only [q, beq_self_eq_true, Bool.true_and, Bool.and_true, cond_true, List.cons_append, List.nil_append, List.contains_cons]
    congr 1
    rw [Bool.eq_iff_iff]; simp only [beq_iff_eq]; exact ⟨fun h => h.symm, fun h => h.symm⟩
   | false => simp [q]
  ·have e1 : (b == 32) = false := by simpa using e
   have e2 : (32 == b) = false := by simpa using fun q => e q.symm
   simp [e1, e2]
def wordsL : List UInt8 := [32, 99, 111, 117, 114, 115, 101, 32, 109, 97, 116, 115, 32, 115, 116, 97, 114, 116, 32, 112, 97, 115, 115, 32, 101, 110, 100, 32, 108, 101, 103, 32, 116, 111, 32, 100, 105, 115, 116, 97, 110, 99, 101, 32, 103, 117, 110, 32, 99, 104, 105, 112, 32, 115, 108, 111, 116, 32, 108, 97, 112, 115, 32, 108, 97, 112, 32, 99, 117, 116, 111, 102, 102, 32, 101, 120, 116, 114, 97, 32, 119, 97, 118, 101, 32, 111, 102, 102, 101, 110, 99, 101, 32, 111, 117, 116, 32, 99, 97, 116, 101, 103, 111, 114, 121, 32, 112, 114, 105, 122, 101, 32, 97, 108, 108, 32, 116, 105, 101, 115, 32, 105, 102, 32, 101, 108, 115, 101, 32, 97, 110, 100, 32, 111, 114, 32, 110, 111, 116, 32, 111, 108, 100, 101, 114, 32, 121, 111, 117, 110, 103, 101, 114, 32, 98, 105, 98, 32, 100, 114, 97, 119, 32, 102, 105, 101, 108, 100, 32, 115, 104, 111, 114, 116, 32, 102, 97, 117, 108, 116, 115, 32, 109, 105, 115, 115, 101, 115, 32, 115, 116, 114, 97, 121, 115, 32, 119, 105, 110, 100, 111, 119, 32, 114, 101, 115, 105, 100, 117, 97, 108, 32, 100, 114, 105, 102, 116, 32, 112, 114, 111, 116, 101, 115, 116, 32, 102, 101, 101, 32, 100, 101, 97, 100, 108, 105, 110, 101, 32]
theorem QlL : kwsOf wordsL = kwL := by decide +kernel
def classTab : List Int := (List.range 256).map fun i => if 97 ≤ i ∧ i ≤ 122 ∨ 65 ≤ i ∧ i ≤ 90 then 2 else if 48 ≤ i ∧ i ≤ 57 then 3 else if i ∈ [123, 125, 40, 41, 91, 93, 59, 44, 61, 60, 62] then 4 else if i ∈ [32, 9, 10, 13] then 1 else 0
theorem Qgc : Ev F_bw classTab := by
 unfold F_bw
 refine Ev.bind (Qbt (step := F_dy 0) 40 (b := (iter (F_dy 0) 40 (List.replicate 256 0, 97)).getD []) (by decide +kernel)) ?_
 refine Ev.bind (Qbt (step := F_fi 0) 40 (b := (iter (F_fi 0) 40 ((iter (F_dy 0) 40 (List.replicate 256 0, 97)).getD [], 48)).getD []) (by decide +kernel)) ?_
 generalize hb : (iter (F_fi 0) 40 ((iter (F_dy 0) 40 (List.replicate 256 0, 97)).getD [], 48)).getD [] = b2
 refine Ev.bind (Qbt (step := F_fv 0) 40 (b := (iter (F_fv 0) 40 (b2, 0)).getD []) (by subst hb; decide +kernel)) ?_
 refine Ev.bind (Qbt (step := F_fy 0) 40 (b := classTab) (by subst hb; decide +kernel)) ?_
 exact Ev.const (by decide +kernel)
theorem QhB : ((List.range 256).all fun i => !okN i || decide (classTab[i]? = some (if okAN i then 2 else if i = 95 then 0 else 3))) = true := by decide +kernel
theorem Qje {c : UInt8} (h : okC c = true) : idxA 256 classTab (c.toNat : Int) = some (if okA c then 2 else if c.toNat = 95 then 0 else 3) := by
 have h1 := List.all_eq_true.1 QhB c.toNat (List.mem_range.2 c.toNat_lt)
 unfold okC at h
 rw [h] at h1
 simp only [Bool.not_true, Bool.false_or, decide_eq_true_eq] at h1
 unfold idxA
 rw [show Nat.beq classTab.length 256 = true by decide +kernel, cond_true, QcU h1]
 rfl
def goodS (s : List UInt8) : Bool := decide (1 ≤ s.length) && decide (s.length ≤ 24) && (s.head?).any okA && s.all okC
def isNameS (s : List UInt8) : Bool := goodS s && !kwL.contains s
theorem Qhr (s : List UInt8) (h : goodS s = true) : Ev (fun n => F_bs n s) true := by
 unfold goodS at h
 simp only [Bool.and_eq_true, decide_eq_true_eq, List.all_eq_true] at h
 obtain ⟨⟨⟨h1, h2⟩, h3⟩, h4⟩ := h
 unfold F_bs
 refine Ev.bind Qgc ?_
 refine QaA (v := List.replicate 256 0) (by decide +kernel) ?_
 refine QaA (v := classTab) (by decide +kernel) ?_
 refine Ev.bind (v := Ctl.cont ()) (Ev.iter (fun i => (i : Int)) s.length rfl (fun i hi => ?_) ?_) ?_
 ·have ha := YM (x := s[i]) (by omega) (List.getElem?_eq_getElem hi)
  have hc := h4 _ ha.mem
  unfold F_ft
  simp only [ha.lt, cond_true, ha.ix, Option.bind_some, Qje hc, ha.nx]
  cases i with
  | zero =>
   have : okA s[0] = true := by
    cases s with
    | nil => simp at h1
    | cons c r => simpa using h3
   simp [this]
   exact Qb _
  | succ i =>
   by_cases q : okA s[i + 1] = true
   ·simp [q]; exact Qb _
   ·by_cases q2 : s[i + 1].toNat = 95
    ·simp [q, q2]
     exact Qb _
    ·simp [q, q2]; exact Qb _
 ·unfold F_ft
  simp only [Qa8, cond_false]
  exact Qb _
 ·refine Ev.const ?_
  cases s with
  | nil => simp at h1
  | cons c r => rfl
theorem Qhp {s : List UInt8} (h : goodS s = true) : ∀ c ∈ s, c ≠ 32 := by
 unfold goodS at h
 simp only [Bool.and_eq_true, List.all_eq_true] at h
 rintro c hc rfl
 exact absurd (h.2 _ hc) (by decide)
theorem Qij {s : List UInt8} (h : goodS s = true) : s.length ≤ 24 := by
 unfold goodS at h
 simp only [Bool.and_eq_true, decide_eq_true_eq] at h
 exact h.1.1.2
theorem Qgd (s : List UInt8) (h : goodS s = true) : Ev (fun n => F_cm n s) (kwL.contains s) := by
 unfold F_cm
 refine Ev.bind (v := kwL.contains s) ?_ (Qb _)
 refine Ev.bind (Qhr s h) (Qha ?_)
 have hl := Qij h
 refine QaA (v := [32] ++ s) (by unfold cat; rw [Nat.ble_eq_true_of_le (by simp; omega)]; rfl) ?_
 refine QaA (v := [32] ++ s ++ [32]) (by unfold cat; rw [Nat.ble_eq_true_of_le (by simp; omega)]; rfl) ?_
 refine QaA (v := kwL.contains s) ?_ (Qb _)
 show hasSub wordsL ([32] ++ s ++ [32]) = some (kwL.contains s)
 unfold hasSub
 rw [show Nat.blt wordsL.length 4294967281 = true by decide +kernel, cond_true]
 rw [show [32] ++ s ++ [32] = 32 :: (s ++ [32]) by simp, Qbh s (Qhp h), QlL]
theorem ch_lt (c : UInt8) (k : Nat) : decide ((c.toNat : Int) < (k : Int)) = decide (c.toNat < k) := by
 rw [Bool.eq_iff_iff]; simp
theorem badC (c : UInt8) : (bif decide ((c.toNat : Int) < 97) then (bif decide ((c.toNat : Int) < 48) then some ((c.toNat : Int) != 95) else (bif decide (57 < (c.toNat : Int)) then some ((c.toNat : Int) != 95) else some false)) else (bif decide (122 < (c.toNat : Int)) then (bif decide ((c.toNat : Int) < 48) then some ((c.toNat : Int) != 95) else (bif decide (57 < (c.toNat : Int)) then some ((c.toNat : Int) != 95) else some false)) else some false)) = some (!okC c) := by
 unfold okC okN
 generalize c.toNat = k
 have e : ((k : Int) != 95) = !decide (k = 95) := by
  by_cases h : k = 95
  ·subst h; rfl
  ·rw [decide_eq_false h]; simp; omega
 rw [e]
 by_cases h1 : k < 48
 ·rw [Yk (show (k : Int) < 97 by omega), Yk (show (k : Int) < 48 by omega)]
  have a1 : ¬ 97 ≤ k := by omega
  have a2 : ¬ 48 ≤ k := by omega
  simp [a1, a2]
 ·rw [Yg (show ¬ (k : Int) < 48 by omega)]
  by_cases h2 : k ≤ 57
  ·rw [Yk (show (k : Int) < 97 by omega), Yg (show ¬ 57 < (k : Int) by omega)]
   have a1 : 48 ≤ k := by omega
   simp [a1, h2]
  ·rw [Yk (show 57 < (k : Int) by omega)]
   by_cases h3 : k < 97
   ·rw [Yk (show (k : Int) < 97 by omega)]
    have a1 : ¬ 97 ≤ k := by omega
    simp [a1, h2]
   ·rw [Yg (show ¬ (k : Int) < 97 by omega)]
    by_cases h4 : k ≤ 122
    ·rw [Yg (show ¬ 122 < (k : Int) by omega)]
     have a1 : 97 ≤ k := by omega
     simp [a1, h4]
    ·rw [Yk (show 122 < (k : Int) by omega)]
     simp [h2, h4]
theorem Qhk (n : Nat) (s : List UInt8) : (bif decide ((s.length : Int) < 1) then some true else (bif decide (24 < (s.length : Int)) then some true else (idx s 0).bind fun x10 => (bif decide ((x10.toNat : Int) < 97) then some true else (idx s 0).bind fun x12 => some (decide (122 < (x12.toNat : Int)))))) = some (!(decide (1 ≤ s.length) && decide (s.length ≤ 24) && (s.head?).any okA)) := by
 cases s with
 | nil => rfl
 | cons c r =>
  rw [Yg (show ¬ ((c :: r).length : Int) < 1 by simp; omega), cond_false]
  by_cases h : (c :: r).length ≤ 24
  ·rw [Yg (show ¬ 24 < ((c :: r).length : Int) by omega), cond_false]
   have e0 : idx (c :: r) 0 = some c := rfl
   simp only [e0, Option.bind_some]
   simp only [List.length_cons] at h
   have h' : r.length ≤ 23 := by omega
   simp only [List.head?_cons, Option.any_some, okA, okAN]
   rw [show (97 : Int) = ((97 : Nat) : Int) from rfl, ch_lt]
   by_cases h1 : c.toNat < 97
   ·have : ¬ 97 ≤ c.toNat := by omega
    simp [h1, this]
   ·have a1 : 97 ≤ c.toNat := by omega
    simp [h1, a1, h']
    by_cases q : c.toNat ≤ 122
    ·rw [Yg (show ¬ 122 < (c.toNat : Int) by omega), Yk q]; rfl
    ·rw [Yk (show 122 < (c.toNat : Int) by omega), Yg q]; rfl
  ·rw [Yk (show 24 < ((c :: r).length : Int) by omega), cond_true]
   simp only [List.length_cons] at h
   have h' : ¬ r.length ≤ 23 := by omega
   simp [h']
theorem Qd3 (s : List UInt8) (hl : s.length ≤ 1048576) : Ev (fun n => F_d n s) (isNameS s) := by
 unfold F_d
 refine Ev.bind (Ev.const (Qhk 0 s)) ?_
 unfold isNameS
 cases hh : (decide (1 ≤ s.length) && decide (s.length ≤ 24) && (s.head?).any okA) with
 | false =>
  simp only [Bool.not_false, cond_true]
  have : goodS s = false := by unfold goodS; rw [hh]; rfl
  rw [this]
  exact Qb _
 | true =>
  simp only [Bool.not_true, cond_false]
  have hg : goodS s = s.all okC := by unfold goodS; rw [hh]; rfl
  refine Ev.bind (Qbj s (fun c => !okC c) (fun i => (i : Int)) (Ctl.done false) (Ctl.cont ()) (by omega) rfl (fun i x ha hq => ?_) (fun i x ha hq => ?_) ?_) ?_
  ·unfold F_fm
   simp only [ha.lt, cond_true, ha.ix, Option.bind_some, badC, hq, cond_false, ha.nx]
   exact Qb _
  ·unfold F_fm
   simp only [ha.lt, cond_true, ha.ix, Option.bind_some, badC, hq]
   exact Qb _
  ·unfold F_fm
   simp only [Qa8, cond_false]
   exact Qb _
  ·rw [hg]
   have e : s.any (fun c => !okC c) = !s.all okC := by rw [List.not_all_eq_any_not]
   rw [e]
   cases q : s.all okC with
   | true =>
    simp only [Bool.not_true, cond_false, Bool.true_and]
    exact Ev.bind (Qgd s (hg.trans q)) (Qb _)
   | false =>
    simp only [Bool.not_false, cond_true, Bool.false_and]
    exact Qb _
def diffS : List (List UInt8) → List (List UInt8) → Bool
 | _, [] => true
 | seen, x :: r => isNameS x && !seen.contains x && diffS (seen ++ [x]) r
theorem Qgf (l : List (List UInt8)) (i : Nat) (x : List UInt8) (h : At l i x) : diffS (l.take i) (l.drop i) = (isNameS x && !(l.take i).contains x && diffS (l.take (i + 1)) (l.drop (i + 1))) := by
 rw [h.drop, h.take]; rfl
theorem Qbf {α : Type} (l : List α) (nm : α → List UInt8) (g : Nat → α → Option Unit) (hg : ∀ n x, g n x = some ()) (hl : l.length ≤ 1048576) (hn : ∀ x ∈ l, (nm x).length ≤ 1048576) :
  Ev (fun n => ((iter (fun s : (List (List UInt8 × Bool)) × Int => bif decide (s.2 < (l.length : Int)) then (idx l s.2).bind fun x35 => (g n x35).bind fun r36 => ((F_d n (nm x35)).bind fun r42 => (bif (!r42) then some true else (some (mgetD s.1 (nm x35) false)).bind fun v44 => some v44) : Option Bool).bind fun b40 => (bif b40 then some (.done (.done false)) else (some (mset s.1 (nm x35) true)).bind fun m46 => some (.cont (m46, IntKind.i64.wrap (s.2 + 1)))) else some (.done (.cont ()))) n ([], 0) : Option (Ctl Unit Bool)).bind fun b28 =>
   match b28 with
   | .cont _ => some true
   | .done s => some s : Option Bool)) (diffS [] (l.map nm)) := by
 have hl' : l.length ≤ 4611686018427387904 := by omega
 have hml : (l.map nm).length ≤ 4611686018427387904 := by simpa using hl'
 have key := QeM (B := Ctl Unit Bool) l (step := fun n s => bif decide (s.2 < (l.length : Int)) then (idx l s.2).bind fun x35 => (g n x35).bind fun r36 => ((F_d n (nm x35)).bind fun r42 => (bif (!r42) then some true else (some (mgetD s.1 (nm x35) false)).bind fun v44 => some v44) : Option Bool).bind fun b40 => (bif b40 then some (.done (.done false)) else (some (mset s.1 (nm x35) true)).bind fun m46 => some (.cont (m46, IntKind.i64.wrap (s.2 + 1)))) else some (.done (.cont ())))
  (s0 := (([] : List (List UInt8 × Bool)), (0 : Int))) (fun i => (msetAll nm true (l.take i), (i : Int))) (fun i => bif diffS ((l.map nm).take i) ((l.map nm).drop i) then .cont () else .done false) hl' rfl (fun i x ha => ?_) ?_
 ·refine Ev.bind key ?_
  simp only [List.take_zero, List.drop_zero]
  cases diffS [] (l.map nm) <;> exact Qb _
 ·have ha2 : At (l.map nm) i (nm x) := YM hml (by rw [List.getElem?_map, ha.get]; rfl)
  simp only [Qgf _ _ _ ha2]
  have hev : Ev (fun n => ((F_d n (nm x)).bind fun r42 => (bif (!r42) then some true else (some (mgetD (msetAll nm true (l.take i)) (nm x) false)).bind fun v44 => some v44) : Option Bool)) (!(isNameS (nm x) && !((l.map nm).take i).contains (nm x))) := by
   refine Ev.bind (Qd3 (nm x) (hn x ha.mem)) ?_
   cases isNameS (nm x) with
   | false => exact Qb _
   | true =>
    refine Qal ((Qb _).eq ?_)
    rw [QaD, List.map_take]
    by_cases h : nm x ∈ (l.map nm).take i
    ·rw [if_pos h]; simp [h]
    ·rw [if_neg h]; simp [h]
  cases hc : (isNameS (nm x) && !((l.map nm).take i).contains (nm x)) with
  | true =>
   rw [hc] at hev
   refine .inl ⟨?_, by simp⟩
   simp only [ha.lt, cond_true, ha.ix, Option.bind_some, hg]
   refine Ev.bind hev ?_
   simp only [Bool.not_true, cond_false, Option.bind_some, ha.nx]
   rw [ha.take, QbS]
   exact Qb _
  | false =>
   rw [hc] at hev
   refine .inr ?_
   simp only [ha.lt, cond_true, ha.ix, Option.bind_some, hg]
   refine Ev.bind hev ?_
   simp only [Bool.not_false, cond_true, Bool.false_and, cond_false]
   exact Qb _
 ·simp only [Qa8, cond_false]
  rw [show (l.map nm).drop l.length = [] by apply List.drop_eq_nil_of_le; simp]
  exact Qb _
theorem QlV {α : Type} {l : List α} {x : α} (h : l.length ≤ 140737488) : app l [x] = some (l ++ [x]) := Qa1 l x (by omega)
theorem Qd4 {α β : Type} (l : List α) (f : α → β) (hl : l.length ≤ 140737488) : Ev (fun n => iter (fun s : (List β) × Int => bif decide (s.2 < (l.length : Int)) then (idx l s.2).bind fun x15 => (app s.1 [f x15]).bind fun l16 => some (Ctl.cont (l16, IntKind.i64.wrap (s.2 + 1))) else some (Ctl.done s.1)) n (([] : List β), (0 : Int))) (l.map f) := by
 have e : ∀ l : List α, l.foldl (fun (a : List β) x => a ++ [f x]) [] = l.map f := by
  intro l
  have gen : ∀ (l : List α) (a : List β), l.foldl (fun (a : List β) x => a ++ [f x]) a = a ++ l.map f := by
   intro l
   induction l with
   | nil => intro a; simp
   | cons x l ih => intro a; rw [List.foldl_cons, ih]; simp
  simpa using gen l []
 rw [← e l]
 refine Yf l (fun (a : List β) x => a ++ [f x]) [] (fun a i => (a, (i : Int))) (fun a => a) (by omega) rfl (fun i x a ha haa => ?_) ?_
 ·rw [e] at haa
  have : a.length ≤ 140737488 := by rw [haa]; simp; omega
  simp only [ha.lt, cond_true, ha.ix, Option.bind_some, QlV this, ha.nx]
  exact Qb _
 ·simp only [Qa8, cond_false]
  exact Qb _
def namesS (c : Course) : Bool := isNameS c.Name && (diffS [] (c.Mats.map (·.Name)) && (diffS [] (c.Distances.map (·.Name)) && (diffS [] (c.Waves.map (·.Name)) && (diffS [] (c.Offences.map (·.Name)) && diffS [] (c.Categories.map (·.Name))))))
structure CourseOk (c : Course) : Prop where
 name : c.Name.length ≤ 1048576
 mats : c.Mats.length ≤ 1048576
 matsN : ∀ x ∈ c.Mats, x.Name.length ≤ 1048576
 legs : c.Legs.length ≤ 1048576
 dist : c.Distances.length ≤ 1048576
 distN : ∀ x ∈ c.Distances, x.Name.length ≤ 1048576
 cut : ∀ x ∈ c.Distances, x.Cutoffs.length ≤ 1048576
 wave : c.Waves.length ≤ 1048576
 waveN : ∀ x ∈ c.Waves, x.Name.length ≤ 1048576
 off : c.Offences.length ≤ 1048576
 offN : ∀ x ∈ c.Offences, x.Name.length ≤ 1048576
 cat : c.Categories.length ≤ 1048576
 catN : ∀ x ∈ c.Categories, x.Name.length ≤ 1048576
 prize : c.Prizes.length ≤ 1048576
theorem Qi2 (c : Course) (w : CourseOk c) : Ev (fun n => F_bh n c) (namesS c) := by
 unfold F_bh namesS
 refine Ev.bind (v := _) ?_ (Qb _)
 refine Ev.bind (Qd3 c.Name w.name) (Ev.and fun _ => ?_)
 have h1 : Ev (fun n => F_bc n c.Mats) (diffS [] (c.Mats.map (·.Name))) := by unfold F_bc; exact Qbf c.Mats (·.Name) F_cs (fun _ _ => rfl) w.mats w.matsN
 have h2 : Ev (fun n => F_cj n c.Distances) (diffS [] (c.Distances.map (·.Name))) := by unfold F_cj; exact Qbf c.Distances (·.Name) F_cz (fun _ _ => rfl) w.dist w.distN
 have h3 : Ev (fun n => F_aw n c.Waves) (diffS [] (c.Waves.map (·.Name))) := by unfold F_aw; exact Qbf c.Waves (·.Name) F_fb (fun _ _ => rfl) w.wave w.waveN
 have h4 : Ev (fun n => F_ar n c.Offences) (diffS [] (c.Offences.map (·.Name))) := by unfold F_ar; exact Qbf c.Offences (·.Name) F_df (fun _ _ => rfl) w.off w.offN
 have h5 : Ev (fun n => F_au n c.Categories) (diffS [] (c.Categories.map (·.Name))) := by unfold F_au; exact Qbf c.Categories (·.Name) F_eu (fun _ _ => rfl) w.cat w.catN
 refine Ev.bind h1 (Ev.and fun _ => ?_)
 refine Ev.bind h2 (Ev.and fun _ => ?_)
 refine Ev.bind h3 (Ev.and fun _ => ?_)
 refine Ev.bind h4 (Ev.and fun _ => ?_)
 exact Ev.bind h5 (Qb _)
theorem QbK {n : Nat} (h : n ≤ 1048576) : IntKind.i64.wrap ((n : Int) - 1) = (n : Int) - 1 := Q2 (by omega) (by omega)
mutual
def szP : Part → Nat
 | ⟨_, _, ps⟩ => 1 + szPs ps
def szPs : List Part → Nat
 | [] => 0
 | p :: r => szP p + szPs r
end
theorem Qaa (p : Part) : szP p = 1 + szPs p.Parts := by cases p; rfl
theorem QaN {p : Part} : ∀ {l : List Part}, p ∈ l → szP p ≤ szPs l
 | q :: r, h => by
  simp only [szPs]
  rcases List.mem_cons.1 h with rfl | h
  ·omega
  ·have := QaN h; omega
mutual
def partS (k : Int) : Part → Bool
 | ⟨m, laps, ps⟩ => bif laps == 0 then inR 0 k m && ((ps.length : Int) == 0) else inR 1 64 laps && ((m == 0) && (decide (0 < (ps.length : Int)) && partsS k ps))
def partsS (k : Int) : List Part → Bool
 | [] => true
 | p :: r => partS k p && partsS k r
end
theorem Qc5 (k : Int) (p : Part) : partS k p = bif p.Laps == 0 then inR 0 k p.Mat && ((p.Parts.length : Int) == 0) else inR 1 64 p.Laps && ((p.Mat == 0) && (decide (0 < (p.Parts.length : Int)) && partsS k p.Parts)) := by cases p; rfl
theorem Qcg (k : Int) : ∀ l : List Part, partsS k l = l.all (partS k)
 | [] => rfl
 | p :: r => by simp only [partsS, List.all_cons, Qcg k r]
theorem Ys {p : Part} (h : Part.wf p) : p.Parts.length ≤ 1048576 ∧ ∀ x ∈ p.Parts, Part.wf x := by
 cases p
 simp only [Part.wf, Qb7] at h
 exact h.2.2.1
theorem Qp (lo hi x : Int) : Ev (fun n => F_a n lo hi [x]) (inR lo hi x) := (Qd0 lo hi [x] (by simp)).eq (by simp)
theorem Qax (lo hi x y : Int) : Ev (fun n => F_a n lo hi [x, y]) (inR lo hi x && inR lo hi y) := (Qd0 lo hi [x, y] (by simp)).eq (by simp)
theorem Qi1 (k : Int) : ∀ (m : Nat) (l : List Part), szPs l ≤ m → l.length ≤ 1048576 → (∀ x ∈ l, Part.wf x) → Ev (fun n => F_f n l k) (partsS k l) := by
 intro m
 induction m with
 | zero =>
  intro l hm hl hw
  cases l with
  | nil =>
   refine Ye ?_
   show Ev (fun n => B_f (F_f n) n [] k) _
   unfold B_f F_bu F_az
   exact Yu [] (partS k) (fun n x => F_ao (F_f n) n x k) (by simp) (by simp)
  | cons p r =>
   exfalso
   simp only [szPs, Qaa] at hm
   omega
 | succ m ih =>
  intro l hm hl hw
  refine Ye ?_
  show Ev (fun n => B_f (F_f n) n l k) _
  unfold B_f F_bu F_az
  rw [Qcg]
  refine Yu l (partS k) (fun n x => F_ao (F_f n) n x k) (by omega) fun p hp => ?_
  unfold F_ao
  rw [Qc5]
  have h1 := QaN hp
  rw [Qaa] at h1
  obtain ⟨w1, w2⟩ := Ys (hw p hp)
  refine Qbk (fun _ => ?_) (fun _ => ?_)
  ·exact Ev.bind (Ev.bind (Qp _ _ _) (Ev.and fun _ => Qb _)) (Qb _)
  ·exact Ev.bind (Ev.bind (Qp _ _ _) (Ev.and fun _ => Ev.and fun _ => Ev.and fun _ => Ev.bind (ih p.Parts (by omega) w1 w2) (Qb _))) (Qb _)
def legS (k : Int) (l : Leg) : Bool := (inR 0 k l.From && inR 0 k l.To) && ((inR 0 68719476736 l.Min && inR 0 68719476736 l.Max) && decide (l.Min ≤ l.Max))
def cutS (k : Int) (x : Cutoff) : Bool := inR 0 k x.Mat && (decide (1 ≤ x.Lap) && inR 0 1099511627776 x.Limit)
def distS (k : Int) (d : Distance) : Bool := inR 1 3 d.Timing && (inR (-1) k d.Extra && (partsS k d.Route && d.Cutoffs.all (cutS k)))
def offS (o : Offence) : Bool := bif o.Out then (o.Time == 0) && (o.Laps == 0) else bif o.Laps != 0 then (o.Time == 0) && inR 1 64 o.Laps else inR 0 68719476736 o.Time
def catS (x : Category) : Bool := (inR 0 120 x.From && inR 0 120 x.To) && decide (x.From ≤ x.To)
def prizeS (c : Course) (p : Prize) : Bool := inR 0 ((c.Distances.length : Int) - 1) p.Distance && (inR (-1) ((c.Categories.length : Int) - 1) p.Category && (inR 1 4000 p.Rank && inR 1 1125899906842624 p.Amount))
def lastS (c : Course) : Bool := (inR 0 16 c.Faults.Misses && inR 0 16 c.Faults.Strays) && ((inR 0 4294967296 c.Faults.Window && inR 0 4294967296 c.Faults.Residual) && (inR 0 100000 c.Faults.Drift && (inR 0 1125899906842624 c.Fee && inR 0 1099511627776 c.Deadline)))
def legKey (l : Leg) : typing_ends := { from_ := l.From, to_ := l.To }
def prizeKey (p : Prize) : typing_place := { distance := p.Distance, category := p.Category, rank := p.Rank }
def numbersS (c : Course) : Bool :=
 let k := (c.Mats.length : Int) - 1
 c.Mats.all (fun m => inR 1 3 m.Kind) && (c.Legs.all (legS k) && (decide ((c.Legs.map legKey).Nodup) && (c.Distances.all (distS k) && (c.Waves.all (fun w => inR 0 1099511627776 w.Gun) && (c.Offences.all offS && (c.Categories.all catS && (c.Prizes.all (prizeS c) && (decide ((c.Prizes.map prizeKey).Nodup) && lastS c))))))))
structure PartsOk (c : Course) : Prop where
 len : ∀ d ∈ c.Distances, d.Route.length ≤ 1048576
 wf : ∀ d ∈ c.Distances, ∀ x ∈ d.Route, Part.wf x
theorem QeD (l : List Leg) (hl : l.length ≤ 1048576) : Ev (fun n => F_bd n l) (decide ((l.map legKey).Nodup)) := by
 unfold F_bd
 refine Ev.bind (Qar l legKey true (by omega) (fun i x m ha => ?_) (fun m => ?_)) ((Qb _).eq ?_)
 ·unfold F_fw F_cw
  simp only [ha.lt, cond_true, ha.ix, Option.bind_some, ha.nx]
  exact Qb _
 ·unfold F_fw
  simp only [Qa8, cond_false]
  exact Qb _
 ·rw [Bool.eq_iff_iff]
  simp only [beq_iff_eq, decide_eq_true_eq]
  have := Qbw legKey true l
  rw [← this.2]
  omega
theorem Qdz (l : List Prize) (hl : l.length ≤ 1048576) : Ev (fun n => F_bq n l) (decide ((l.map prizeKey).Nodup)) := by
 unfold F_bq
 refine Ev.bind (Qar l prizeKey true (by omega) (fun i x m ha => ?_) (fun m => ?_)) ((Qb _).eq ?_)
 ·unfold F_fu F_dv
  simp only [ha.lt, cond_true, ha.ix, Option.bind_some, ha.nx]
  exact Qb _
 ·unfold F_fu
  simp only [Qa8, cond_false]
  exact Qb _
 ·rw [Bool.eq_iff_iff]
  simp only [beq_iff_eq, decide_eq_true_eq]
  have := Qbw prizeKey true l
  rw [← this.2]
  omega
theorem Qf7 (c : Course) (w : CourseOk c) (q : PartsOk c) : Ev (fun n => F_bz n c) (numbersS c) := by
 unfold F_bz numbersS
 rw [QbK w.mats]
 refine Ev.bind (v := _) ?_ (Qb _)
 have h1 : Ev (fun n => F_bi n c.Mats) (c.Mats.all fun m => inR 1 3 m.Kind) := by
  unfold F_bi F_ea F_de
  refine Yu c.Mats _ (fun n x => F_bj n x) (by have := w.mats; omega) fun x hx => ?_
  unfold F_bj
  exact Ev.bind (Qp _ _ _) (Qb _)
 have h2 : Ev (fun n => F_av n c.Legs ((c.Mats.length : Int) - 1)) (c.Legs.all (legS ((c.Mats.length : Int) - 1))) := by
  unfold F_av F_ej F_ec
  refine Yu c.Legs _ (fun n x => F_cf n x _) (by have := w.legs; omega) fun x hx => ?_
  unfold F_cf
  exact Ev.bind (Ev.bind (Qax _ _ _ _) (Ev.and fun _ => Ev.bind (Qax _ _ _ _) (Ev.and fun _ => Qb _))) (Qb _)
 have h4 : Ev (fun n => F_bo n c.Distances ((c.Mats.length : Int) - 1)) (c.Distances.all (distS ((c.Mats.length : Int) - 1))) := by
  unfold F_bo F_dj F_cx
  refine Yu c.Distances _ (fun n x => F_ba n x _) (by have := w.dist; omega) fun x hx => ?_
  unfold F_ba
  have hc : Ev (fun n => F_at n x.Cutoffs ((c.Mats.length : Int) - 1)) (x.Cutoffs.all (cutS ((c.Mats.length : Int) - 1))) := by
   unfold F_at F_dl F_dx
   refine Yu x.Cutoffs _ (fun n x => F_cn n x _) (by have := w.cut x hx; omega) fun y hy => ?_
   unfold F_cn
   exact Ev.bind (Ev.bind (Qp _ _ _) (Ev.and fun _ => Ev.and fun _ => Ev.bind (Qp _ _ _) (Qb _))) (Qb _)
  exact Ev.bind (Ev.bind (Qp _ _ _) (Ev.and fun _ => Ev.bind (Qp _ _ _) (Ev.and fun _ => Ev.bind (Qi1 _ _ x.Route (Nat.le_refl _) (q.len x hx) (q.wf x hx)) (Ev.and fun _ => Ev.bind hc (Qb _))))) (Qb _)
 have h5 : Ev (fun n => F_bf n c.Waves) (c.Waves.all fun w => inR 0 1099511627776 w.Gun) := by
  unfold F_bf F_dq F_ew
  refine Yu c.Waves _ (fun n x => F_cb n x) (by have := w.wave; omega) fun x hx => ?_
  unfold F_cb
  exact Ev.bind (Qp _ _ _) (Qb _)
 have h6 : Ev (fun n => F_ce n c.Offences) (c.Offences.all offS) := by
  unfold F_ce F_cp F_ep
  refine Yu c.Offences _ (fun n x => F_cc n x) (by have := w.off; omega) fun x hx => ?_
  unfold F_cc offS
  refine Qbk (fun _ => Ev.bind (Ev.and fun _ => Qb _) (Qb _)) fun _ => Qbk (fun _ => Ev.bind (Ev.and fun _ => Ev.bind (Qp _ _ _) (Qb _)) (Qb _)) fun _ => Ev.bind (Qp _ _ _) (Qb _)
 have h7 : Ev (fun n => F_bn n c.Categories) (c.Categories.all catS) := by
  unfold F_bn F_dk F_dm
  refine Yu c.Categories _ (fun n x => F_bv n x) (by have := w.cat; omega) fun x hx => ?_
  unfold F_bv
  exact Ev.bind (Ev.bind (Qax _ _ _ _) (Ev.and fun _ => Qb _)) (Qb _)
 have h8 : Ev (fun n => F_bx n c.Prizes c) (c.Prizes.all (prizeS c)) := by
  unfold F_bx F_dh F_el
  refine Yu c.Prizes _ (fun n x => F_cl n x c) (by have := w.prize; omega) fun x hx => ?_
  unfold F_cl
  rw [QbK w.dist, QbK w.cat]
  exact Ev.bind (Ev.bind (Qp _ _ _) (Ev.and fun _ => Ev.bind (Qp _ _ _) (Ev.and fun _ => Ev.bind (Qp _ _ _) (Ev.and fun _ => Ev.bind (Qp _ _ _) (Qb _))))) (Qb _)
 refine Ev.bind h1 (Ev.and fun _ => Ev.bind h2 (Ev.and fun _ => Ev.bind (QeD _ w.legs) (Ev.and fun _ => Ev.bind h4 (Ev.and fun _ => Ev.bind h5 (Ev.and fun _ => Ev.bind h6 (Ev.and fun _ => Ev.bind h7 (Ev.and fun _ => Ev.bind h8 (Ev.and fun _ => Ev.bind (Qdz _ w.prize) (Ev.and fun _ => ?_)))))))))
 exact Ev.bind (Qax _ _ _ _) (Ev.and fun _ => Ev.bind (Qax _ _ _ _) (Ev.and fun _ => Ev.bind (Qp _ _ _) (Ev.and fun _ => Ev.bind (Qp _ _ _) (Ev.and fun _ => Ev.bind (Qp _ _ _) (Qb _)))))
theorem ends_eq {a b a' b' : Int} : (({ from_ := a, to_ := b } : typing_ends) = { from_ := a', to_ := b' }) ↔ a = a' ∧ b = b' := by simp
theorem Qcs {α B : Type} {step : Nat → Int → Option (Ctl Int B)} (l : List α) (ok : α → Bool) (bx b : B) (hl : l.length ≤ 4611686018427387904)
  (hs : ∀ i x, At l i x → Ev (fun n => step n (i : Int)) (bif ok x then .cont ((i + 1 : Nat) : Int) else .done bx)) (hd : Ev (fun n => step n (l.length : Int)) (.done b)) :
  Ev (fun n => Go.Sw.iter (step n) n 0) (bif l.all ok then b else bx) := by
 have e : (bif l.all ok then b else bx) = bif l.any (fun x => !ok x) then bx else b := by
  rw [← List.not_all_eq_any_not]
  cases l.all ok <;> rfl
 rw [e]
 refine Qbj l (fun x => !ok x) (fun i => (i : Int)) bx b hl rfl (fun i x ha hq => ?_) (fun i x ha hq => ?_) hd
 ·have h : ok x = true := by simpa using hq
  have := hs i x ha
  rwa [h] at this
 ·have h : ok x = false := by simpa using hq
  have := hs i x ha
  rwa [h] at this
mutual
def cN : Cond → Nat
 | ⟨_, _, _, ps⟩ => 1 + cNs ps
def cNs : List Cond → Nat
 | [] => 0
 | c :: r => cN c + cNs r
end
theorem Qea (c : Cond) : cN c = 1 + cNs c.Parts := by cases c; rfl
mutual
def cD : Nat → Cond → Bool
 | d, ⟨_, _, _, ps⟩ => cDs d ps
def cDs : Nat → List Cond → Bool
 | _, [] => true
 | d, c :: r => decide (d ≤ 16) && (cD (d + 1) c && cDs d r)
end
theorem cD_eq (d : Nat) (c : Cond) : cD d c = cDs d c.Parts := by cases c; rfl
def zeroC (c : Cond) : Bool := (c.Kind == 0) && ((c.Var == 0) && ((c.N == 0) && ((c.Parts.length : Int) == 0)))
mutual
def sNp : Step → Nat
 | ⟨_, _, _, t, e⟩ => 1 + sNs t + sNs e
def sNs : List Step → Nat
 | [] => 0
 | s :: r => sNp s + sNs r
end
theorem QgC (s : Step) : sNp s = 1 + sNs s.Then + sNs s.Else := by cases s; rfl
mutual
def sC : Step → Nat
 | ⟨_, _, c, t, e⟩ => (bif zeroC c then 0 else cN c) + sCs t + sCs e
def sCs : List Step → Nat
 | [] => 0
 | s :: r => sC s + sCs r
end
theorem QgD (s : Step) : sC s = (bif zeroC s.Cond then 0 else cN s.Cond) + sCs s.Then + sCs s.Else := by cases s; rfl
mutual
def sDp : Nat → Step → Bool
 | d, ⟨_, _, c, t, e⟩ => (zeroC c || cD 1 c) && (sDs d t && sDs d e)
def sDs : Nat → List Step → Bool
 | _, [] => true
 | d, s :: r => decide (d ≤ 16) && (sDp (d + 1) s && sDs d r)
end
theorem QkZ (d : Nat) (s : Step) : sDp d s = ((zeroC s.Cond || cD 1 s.Cond) && (sDs d s.Then && sDs d s.Else)) := by cases s; rfl
mutual
def sZ : Step → Nat
 | ⟨_, _, c, t, e⟩ => 2 + cN c + sZs t + sZs e
def sZs : List Step → Nat
 | [] => 0
 | s :: r => sZ s + sZs r
end
theorem QgB (s : Step) : sZ s = 2 + cN s.Cond + sZs s.Then + sZs s.Else := by cases s; rfl
def fS : typing_form → Nat
 | .ctyping_step x => sNp x.Step
 | .ctyping_cond _ => 0
def fC : typing_form → Nat
 | .ctyping_step x => sC x.Step
 | .ctyping_cond x => cN x.Cond
def fD (d : Nat) : typing_form → Bool
 | .ctyping_step x => sDp d x.Step
 | .ctyping_cond x => cD d x.Cond
def fZ : typing_form → Nat
 | .ctyping_step x => sZ x.Step
 | .ctyping_cond x => cN x.Cond
def fSs (l : List typing_form) : Nat := (l.map fS).sum
def fCs (l : List typing_form) : Nat := (l.map fC).sum
def fZs (l : List typing_form) : Nat := (l.map fZ).sum
def fwf : typing_form → Prop
 | .ctyping_step x => Step.wf x.Step
 | .ctyping_cond x => Cond.wf x.Cond
def ofStep (s : Step) : typing_form := .ctyping_step { Step := s }
def ofCond (c : Cond) : typing_form := .ctyping_cond { Cond := c }
theorem QaR : ∀ l : List Step, fSs (l.map ofStep) = sNs l
 | [] => rfl
 | s :: r => by
  have := QaR r
  simp only [fSs, List.map_cons, List.sum_cons] at this ⊢
  rw [this]; rfl
theorem QaS : ∀ l : List Step, fCs (l.map ofStep) = sCs l
 | [] => rfl
 | s :: r => by
  have := QaS r
  simp only [fCs, List.map_cons, List.sum_cons] at this ⊢
  rw [this]; rfl
theorem Qbd : ∀ l : List Step, fZs (l.map ofStep) = sZs l
 | [] => rfl
 | s :: r => by
  have := Qbd r
  simp only [fZs, List.map_cons, List.sum_cons] at this ⊢
  rw [this]; rfl
theorem Qdv : ∀ l : List Cond, fSs (l.map ofCond) = 0
 | [] => rfl
 | s :: r => by
  have := Qdv r
  simp only [fSs, List.map_cons, List.sum_cons] at this ⊢
  rw [this]; rfl
theorem Qdx : ∀ l : List Cond, fCs (l.map ofCond) = cNs l
 | [] => rfl
 | s :: r => by
  have := Qdx r
  simp only [fCs, List.map_cons, List.sum_cons] at this ⊢
  rw [this]; rfl
theorem Qdt : ∀ l : List Cond, fZs (l.map ofCond) = cNs l
 | [] => rfl
 | s :: r => by
  have := Qdt r
  simp only [fZs, List.map_cons, List.sum_cons] at this ⊢
  rw [this]; rfl
theorem Qb0 (d : Nat) : ∀ l : List Step, sDs d l = ((l.map ofStep).isEmpty || (decide (d ≤ 16) && (l.map ofStep).all (fD (d + 1))))
 | [] => rfl
 | s :: r => by
  rw [sDs, Qb0 d r]
  simp only [List.map_cons, List.isEmpty_cons, Bool.false_or, List.all_cons]
  rw [show fD (d + 1) (ofStep s) = sDp (d + 1) s from rfl]
  cases r with
  | nil => simp
  | cons x r =>
   simp only [List.map_cons, List.isEmpty_cons, Bool.false_or, List.all_cons]
   cases decide (d ≤ 16) <;> simp
theorem Qfu (d : Nat) : ∀ l : List Cond, cDs d l = ((l.map ofCond).isEmpty || (decide (d ≤ 16) && (l.map ofCond).all (fD (d + 1))))
 | [] => rfl
 | s :: r => by
  rw [cDs, Qfu d r]
  simp only [List.map_cons, List.isEmpty_cons, Bool.false_or, List.all_cons]
  rw [show fD (d + 1) (ofCond s) = cD (d + 1) s from rfl]
  cases r with
  | nil => simp
  | cons x r =>
   simp only [List.map_cons, List.isEmpty_cons, Bool.false_or, List.all_cons]
   cases decide (d ≤ 16) <;> simp
theorem Qaf {c : Cond} (h : Cond.wf c) : c.Parts.length ≤ 1048576 ∧ ∀ x ∈ c.Parts, Cond.wf x := by
 cases c
 simp only [Cond.wf, Qca] at h
 exact h.2.2.2.1
theorem Qae {s : Step} (h : Step.wf s) : Cond.wf s.Cond ∧ (s.Then.length ≤ 1048576 ∧ ∀ x ∈ s.Then, Step.wf x) ∧ (s.Else.length ≤ 1048576 ∧ ∀ x ∈ s.Else, Step.wf x) := by
 cases s
 simp only [Step.wf, Qb5] at h
 exact ⟨h.2.2.1, h.2.2.2.1, h.2.2.2.2.1⟩
theorem Qd2 (n : Nat) (c : Cond) : F_r n { Cond := c } = some (zeroC c) := by
 unfold F_r zeroC
 cases (c.Kind == 0) <;> cases (c.Var == 0) <;> cases (c.N == 0) <;> rfl
theorem Qdy (l : List Step) (hl : l.length ≤ 140737488) : Ev (fun n => F_s n l) (l.map ofStep) := by
 unfold F_s
 exact Ev.bind (Qd4 l ofStep hl) (Qb _)
theorem Qi7 (l : List Cond) (hl : l.length ≤ 140737488) : Ev (fun n => F_cg n l) (l.map ofCond) := by
 unfold F_cg
 exact Ev.bind (Qd4 l ofCond hl) (Qb _)
def stepParts (s : Step) : List typing_form := s.Then.map ofStep ++ s.Else.map ofStep
theorem QaZ (s : Step) (h : Step.wf s) : Ev (fun n => F_q n { Step := s }) (stepParts s) := by
 obtain ⟨_, ⟨h1, _⟩, ⟨h2, _⟩⟩ := Qae h
 unfold F_q stepParts
 refine Ev.bind (Qdy s.Then (by omega)) (Ev.bind (Qdy s.Else (by omega)) (QaA (QfF _ _ (by simp; omega)) (Qb _)))
theorem Qb1 (c : Cond) (h : Cond.wf c) : Ev (fun n => F_n n { Cond := c }) (c.Parts.map ofCond) := by
 obtain ⟨h1, _⟩ := Qaf h
 unfold F_n
 exact Ev.bind (Qi7 c.Parts (by omega)) (Qb _)
def okL (l : List typing_form) (d : Nat) (st co : Int) : Bool := l.isEmpty || (decide (d ≤ 16) && (l.all (fD (d + 1)) && (decide (st + fSs l ≤ 64) && decide (co + fCs l ≤ 256))))
def okR (l : List typing_form) (d : Nat) (st co : Int) : Bool := l.isEmpty || (l.all (fD (d + 1)) && (decide (st + fSs l ≤ 64) && decide (co + fCs l ≤ 256)))
def okF (f : typing_form) (d : Nat) (st co : Int) : Bool := fD (d + 1) f && (decide (st + fS f ≤ 64) && decide (co + fC f ≤ 256))
theorem Qft (f : typing_form) (l : List typing_form) : fSs (f :: l) = fS f + fSs l := rfl
theorem Qfv (f : typing_form) (l : List typing_form) : fCs (f :: l) = fC f + fCs l := rfl
theorem Qfs (f : typing_form) (l : List typing_form) : fZs (f :: l) = fZ f + fZs l := rfl
theorem Qdu (l m : List typing_form) : fSs (l ++ m) = fSs l + fSs m := by simp [fSs]
theorem Qdw (l m : List typing_form) : fCs (l ++ m) = fCs l + fCs m := by simp [fCs]
theorem Qds (l m : List typing_form) : fZs (l ++ m) = fZs l + fZs m := by simp [fZs]
theorem Qh4 (f : typing_form) (r : List typing_form) (d : Nat) (st co : Int) : okR (f :: r) d st co = (okF f d st co && okR r d (st + fS f) (co + fC f)) := by
 unfold okR okF
 rw [Qft, Qfv]
 cases r with
 | nil => simp [fSs, fCs]
 | cons g r =>
  rw [Bool.eq_iff_iff]
  simp only [List.isEmpty_cons, Bool.false_or, List.all_cons, Bool.and_eq_true, decide_eq_true_eq]
  rw [show ((fS f + fSs (g :: r) : Nat) : Int) = (fS f : Int) + (fSs (g :: r) : Int) by omega, show ((fC f + fCs (g :: r) : Nat) : Int) = (fC f : Int) + (fCs (g :: r) : Int) by omega]
  constructor
  ·rintro ⟨⟨h1, h2⟩, h3, h4⟩
   exact ⟨⟨h1, by omega, by omega⟩, h2, by omega, by omega⟩
  ·rintro ⟨⟨h1, _, _⟩, h2, h3, h4⟩
   exact ⟨⟨h1, h2⟩, by omega, by omega⟩
theorem Qer (l : List typing_form) (d : Nat) (st co : Int) (h1 : st ≤ 64) (h2 : co ≤ 256) : okL l d st co = true ↔ (l.isEmpty || (decide (d ≤ 16) && l.all (fD (d + 1)))) = true ∧ st + fSs l ≤ 64 ∧ co + fCs l ≤ 256 := by
 unfold okL
 cases l with
 | nil => simp [fSs, fCs, h1, h2]
 | cons f r =>
  simp only [List.isEmpty_cons, Bool.false_or, Bool.and_eq_true, decide_eq_true_eq]
  constructor
  ·rintro ⟨a, b, c, e⟩; exact ⟨⟨a, b⟩, c, e⟩
  ·rintro ⟨⟨a, b⟩, c, e⟩; exact ⟨a, b, c, e⟩
theorem Qc0 (s : Step) (d : Nat) : ((stepParts s).isEmpty || (decide (d ≤ 16) && (stepParts s).all (fD (d + 1)))) = (sDs d s.Then && sDs d s.Else) := by
 rw [Qb0, Qb0]
 unfold stepParts
 rw [List.all_append]
 cases h1 : s.Then <;> cases h2 : s.Else <;> simp <;> (cases decide (d ≤ 16) <;> simp)
def Cnt (R : Nat → List typing_form → Int → typing_count → Option (typing_count × Bool)) (l : List typing_form) (d : Nat) (st co : Int) : Prop :=
 ∃ c' : typing_count, Ev (fun n => R n l (d : Int) { steps := st, conds := co }) (c', okL l d st co) ∧ (okL l d st co = true → c' = { steps := st + fSs l, conds := co + fCs l })
theorem Qgg {R : Nat → List typing_form → Int → typing_count → Option (typing_count × Bool)} {l : List typing_form} {d : Nat} (hd : d ≤ 16) {i : Nat} {f : typing_form} (ha : At l i f) (hw : fwf f)
  (ih : ∀ l' d' st co, fZs l' < fZ f → l'.length ≤ 2097152 → (∀ f ∈ l', fwf f) → d' ≤ 17 → 0 ≤ st → st ≤ 66 → (st ≤ 65 ∨ ∀ f ∈ l', ∃ c, f = ofCond c) → 0 ≤ co → co ≤ 256 → Cnt R l' d' st co) {st co : Int} (h0 : 0 ≤ st) (h1' : st ≤ 66) (h1'' : st ≤ 65 ∨ ∃ c, f = ofCond c) (h2 : 0 ≤ co) (h3 : co ≤ 256) :
  ∃ c' : typing_count, Ev (fun n => F_ez n l (d : Int) (R n) ({ steps := st, conds := co }, (i : Int))) (bif okF f d st co then .cont (c', ((i + 1 : Nat) : Int)) else .done (.done (c', false))) ∧ (okF f d st co = true → c' = { steps := st + fS f, conds := co + fC f }) := by
 unfold F_ez
 simp only [ha.lt, cond_true, ha.ix, Option.bind_some, ha.nx]
 have ed : IntKind.i64.wrap ((d : Int) + 1) = ((d + 1 : Nat) : Int) := QaK (by omega)
 cases f with
 | ctyping_step x =>
  obtain ⟨s⟩ := x
  have h1 : st ≤ 65 := by
   rcases h1'' with h | ⟨c, h⟩
   ·exact h
   ·cases h
  have hw' : Step.wf s := hw
  obtain ⟨wc, ⟨wt1, wt2⟩, ⟨we1, we2⟩⟩ := Qae hw'
  have e1 : IntKind.i64.wrap (st + 1) = st + 1 := Q2 (by omega) (by omega)
  simp only [typing_form.elim, Qd2, Option.bind_some, e1]
  have hc : ∃ c2 : typing_count, Ev (fun n => ((bif (!zeroC s.Cond) then (R n [typing_form.ctyping_cond { Cond := s.Cond }] 0 { steps := st + 1, conds := co }).bind fun r100 => some (r100.1, (!r100.2)) else some ({ steps := st + 1, conds := co }, false)) : Option (typing_count × Bool))) (c2, !(zeroC s.Cond || (cD 1 s.Cond && (decide (st + 1 ≤ 64) && decide (co + cN s.Cond ≤ 256))))) ∧
    ((zeroC s.Cond || (cD 1 s.Cond && (decide (st + 1 ≤ 64) && decide (co + cN s.Cond ≤ 256)))) = true → c2 = { steps := st + 1, conds := co + ((bif zeroC s.Cond then 0 else cN s.Cond : Nat) : Int) }) := by
   cases hz : zeroC s.Cond with
   | true =>
    refine ⟨{ steps := st + 1, conds := co }, ?_, fun _ => ?_⟩
    ·exact Qb _
    ·simp
   | false =>
    obtain ⟨c2, q1, q2⟩ := ih [ofCond s.Cond] 0 (st + 1) co (by simp only [fZs, List.map_cons, List.map_nil, List.sum_cons, List.sum_nil]; show cN s.Cond + 0 < sZ s; rw [QgB]; omega) (by simp) (by intro g hg; simp only [List.mem_singleton] at hg; subst hg; exact wc) (by omega) (by omega) (by omega) (.inr (by intro g hg; simp only [List.mem_singleton] at hg; exact ⟨_, hg⟩)) h2 h3
    have ek : okL [ofCond s.Cond] 0 (st + 1) co = (cD 1 s.Cond && (decide (st + 1 ≤ 64) && decide (co + cN s.Cond ≤ 256))) := by
     unfold okL
     simp only [List.isEmpty_cons, Bool.false_or, List.all_cons, List.all_nil, Bool.and_true, fSs, fCs, List.map_cons, List.map_nil, List.sum_cons, List.sum_nil]
     rw [show fD (0 + 1) (ofCond s.Cond) = cD 1 s.Cond from rfl, show fS (ofCond s.Cond) = 0 from rfl, show fC (ofCond s.Cond) = cN s.Cond from rfl]
     simp
    rw [ek] at q1 q2
    refine ⟨c2, Ev.bind q1 (Qb _), fun h => ?_⟩
    rw [q2 h]
    simp [fSs, fCs, show fS (ofCond s.Cond) = 0 from rfl, show fC (ofCond s.Cond) = cN s.Cond from rfl]
  obtain ⟨c2, q1, q2⟩ := hc
  generalize hb : (zeroC s.Cond || (cD 1 s.Cond && (decide (st + 1 ≤ 64) && decide (co + cN s.Cond ≤ 256)))) = b at q1 q2
  have hF : okF (typing_form.ctyping_step { Step := s }) d st co = (sDp (d + 1) s && (decide (st + sNp s ≤ 64) && decide (co + sC s ≤ 256))) := rfl
  rw [hF]
  cases b with
  | false =>
   have : (sDp (d + 1) s && (decide (st + sNp s ≤ 64) && decide (co + sC s ≤ 256))) = false := by
    rw [Bool.eq_false_iff]
    intro hh
    simp only [Bool.and_eq_true, decide_eq_true_eq, QkZ, QgC, QgD] at hh
    obtain ⟨⟨z1, _⟩, z2, z3⟩ := hh
    cases hz : zeroC s.Cond with
    | true => rw [hz] at hb; cases hb
    | false =>
     rw [hz] at hb z1 z3
     simp only [Bool.false_or] at hb z1
     rw [z1] at hb
     simp only [cond_false] at z3
     rw [Yk (show st + 1 ≤ 64 by omega), Yk (show co + (cN s.Cond : Int) ≤ 256 by omega)] at hb
     cases hb
   rw [this]
   exact ⟨c2, Ev.bind q1 (Qb _), fun h => by cases h⟩
  | true =>
   obtain rfl := q2 rfl
   by_cases g1 : 64 < st + 1
   ·have : (sDp (d + 1) s && (decide (st + sNp s ≤ 64) && decide (co + sC s ≤ 256))) = false := by
     rw [Yg (show ¬ st + (sNp s : Int) ≤ 64 by rw [QgC]; omega)]
     simp
    rw [this]
    refine ⟨{ steps := st + 1, conds := co + ((bif zeroC s.Cond then 0 else cN s.Cond : Nat) : Int) }, Ev.bind q1 ?_, fun h => by cases h⟩
    simp only [Bool.not_true, cond_false]
    refine Ev.bind (v := (_, true)) ?_ (Qb _)
    rw [Yk g1]
    exact Qb _
   by_cases g2 : 256 < co + ((bif zeroC s.Cond then 0 else cN s.Cond : Nat) : Int)
   ·have : (sDp (d + 1) s && (decide (st + sNp s ≤ 64) && decide (co + sC s ≤ 256))) = false := by
     rw [Yg (show ¬ co + (sC s : Int) ≤ 256 by rw [QgD]; omega)]
     simp
    rw [this]
    refine ⟨{ steps := st + 1, conds := co + ((bif zeroC s.Cond then 0 else cN s.Cond : Nat) : Int) }, Ev.bind q1 ?_, fun h => by cases h⟩
    simp only [Bool.not_true, cond_false]
    refine Ev.bind (v := (_, true)) ?_ (Qb _)
    rw [Yg g1, Yk g2]
    exact Qb _
   obtain ⟨c3, p1, p2⟩ := ih (stepParts s) (d + 1) (st + 1) (co + ((bif zeroC s.Cond then 0 else cN s.Cond : Nat) : Int)) (by
     unfold stepParts
     rw [Qds, Qbd, Qbd]
     show _ < sZ s
     rw [QgB]; omega) (by unfold stepParts; simp; omega) (by
     intro g hg
     unfold stepParts at hg
     rcases List.mem_append.1 hg with hg | hg
     ·obtain ⟨y, hy, rfl⟩ := List.mem_map.1 hg; exact wt2 y hy
     ·obtain ⟨y, hy, rfl⟩ := List.mem_map.1 hg; exact we2 y hy) (by omega) (by omega) (by omega) (.inl (by omega)) (by omega) (by omega)
   have eL : okL (stepParts s) (d + 1) (st + 1) (co + ((bif zeroC s.Cond then 0 else cN s.Cond : Nat) : Int)) = (sDp (d + 1) s && (decide (st + sNp s ≤ 64) && decide (co + sC s ≤ 256))) := by
    rw [Bool.eq_iff_iff, Qer _ _ _ _ (by omega) (by omega), Qc0]
    simp only [Bool.and_eq_true, decide_eq_true_eq, QkZ, QgC, QgD]
    have e2 : fSs (stepParts s) = sNs s.Then + sNs s.Else := by unfold stepParts; rw [Qdu, QaR, QaR]
    have e3 : fCs (stepParts s) = sCs s.Then + sCs s.Else := by unfold stepParts; rw [Qdw, QaS, QaS]
    rw [e2, e3]
    have hz1 : (zeroC s.Cond || cD 1 s.Cond) = true := by
     cases hz : zeroC s.Cond with
     | true => rfl
     | false =>
      rw [hz] at hb
      simp only [Bool.false_or, Bool.and_eq_true] at hb
      rw [hb.1]; rfl
    constructor
    ·rintro ⟨h4, h5, h6⟩; exact ⟨⟨hz1, h4⟩, by omega, by omega⟩
    ·rintro ⟨⟨_, h4⟩, h5, h6⟩; exact ⟨h4, by omega, by omega⟩
   rw [eL] at p1 p2
   refine ⟨c3, Ev.bind q1 ?_, fun h => ?_⟩
   ·simp only [Bool.not_true, cond_false]
    refine Ev.bind (v := (c3, !(sDp (d + 1) s && (decide (st + sNp s ≤ 64) && decide (co + sC s ≤ 256))))) ?_ ?_
    ·rw [Yg g1, Yg g2, ed]
     exact Ev.bind (QaZ s hw') (Ev.bind p1 (Qb _))
    ·cases (sDp (d + 1) s && (decide (st + sNp s ≤ 64) && decide (co + sC s ≤ 256))) <;> exact Qb _
   ·rw [p2 h]
    have e2 : fSs (stepParts s) = sNs s.Then + sNs s.Else := by unfold stepParts; rw [Qdu, QaR, QaR]
    have e3 : fCs (stepParts s) = sCs s.Then + sCs s.Else := by unfold stepParts; rw [Qdw, QaS, QaS]
    rw [e2, e3, show fS (typing_form.ctyping_step { Step := s }) = sNp s from rfl, show fC (typing_form.ctyping_step { Step := s }) = sC s from rfl, QgC, QgD]
    congr 1 <;> omega
 | ctyping_cond x =>
  obtain ⟨c⟩ := x
  have hw' : Cond.wf c := hw
  obtain ⟨wp1, wp2⟩ := Qaf hw'
  have e1 : IntKind.i64.wrap (co + 1) = co + 1 := Q2 (by omega) (by omega)
  simp only [typing_form.elim, e1]
  have hF : okF (typing_form.ctyping_cond { Cond := c }) d st co = (cD (d + 1) c && (decide (st ≤ 64) && decide (co + cN c ≤ 256))) := by
   show (cD (d + 1) c && (decide (st + ((0 : Nat) : Int) ≤ 64) && decide (co + cN c ≤ 256))) = _
   rw [show st + ((0 : Nat) : Int) = st by omega]
  rw [hF]
  by_cases g1 : 64 < st
  ·have : (cD (d + 1) c && (decide (st ≤ 64) && decide (co + cN c ≤ 256))) = false := by
    rw [Yg (show ¬ st ≤ 64 by omega)]; simp
   rw [this]
   refine ⟨{ steps := st, conds := co + 1 }, ?_, fun h => by cases h⟩
   refine Ev.bind (v := (_, true)) ?_ (Qb _)
   rw [Yk g1]
   exact Qb _
  by_cases g2 : 256 < co + 1
  ·have : (cD (d + 1) c && (decide (st ≤ 64) && decide (co + cN c ≤ 256))) = false := by
    rw [Yg (show ¬ co + (cN c : Int) ≤ 256 by rw [Qea]; omega)]; simp
   rw [this]
   refine ⟨{ steps := st, conds := co + 1 }, ?_, fun h => by cases h⟩
   refine Ev.bind (v := (_, true)) ?_ (Qb _)
   rw [Yg g1, Yk g2]
   exact Qb _
  obtain ⟨c3, p1, p2⟩ := ih (c.Parts.map ofCond) (d + 1) st (co + 1) (by
    rw [Qdt]
    show _ < cN c
    rw [Qea]; omega) (by simp; omega) (by
    intro g hg
    obtain ⟨y, hy, rfl⟩ := List.mem_map.1 hg; exact wp2 y hy) (by omega) (by omega) (by omega) (.inl (by omega)) (by omega) (by omega)
  have eL : okL (c.Parts.map ofCond) (d + 1) st (co + 1) = (cD (d + 1) c && (decide (st ≤ 64) && decide (co + cN c ≤ 256))) := by
   rw [Bool.eq_iff_iff, Qer _ _ _ _ (by omega) (by omega), ← Qfu, Qdv, Qdx]
   simp only [Bool.and_eq_true, decide_eq_true_eq, cD_eq, Qea]
   constructor
   ·rintro ⟨h4, h5, h6⟩; exact ⟨h4, by omega, by omega⟩
   ·rintro ⟨h4, h5, h6⟩; exact ⟨h4, by omega, by omega⟩
  rw [eL] at p1 p2
  refine ⟨c3, ?_, fun h => ?_⟩
  ·refine Ev.bind (v := (c3, !(cD (d + 1) c && (decide (st ≤ 64) && decide (co + cN c ≤ 256))))) ?_ ?_
   ·rw [Yg g1, Yg g2, ed]
    exact Ev.bind (Qb1 c hw') (Ev.bind p1 (Qb _))
   ·cases (cD (d + 1) c && (decide (st ≤ 64) && decide (co + cN c ≤ 256))) <;> exact Qb _
  ·rw [p2 h, Qdv, Qdx, show fS (typing_form.ctyping_cond { Cond := c }) = 0 from rfl, show fC (typing_form.ctyping_cond { Cond := c }) = cN c from rfl, Qea]
   congr 1
   omega
theorem Qi6 : ∀ (m : Nat) (l : List typing_form) (d : Nat) (st co : Int), fZs l ≤ m → l.length ≤ 2097152 → (∀ f ∈ l, fwf f) → d ≤ 17 → 0 ≤ st → st ≤ 66 → (st ≤ 65 ∨ ∀ f ∈ l, ∃ c, f = ofCond c) → 0 ≤ co → co ≤ 256 → Cnt F_e l d st co := by
 intro m
 induction m using Nat.strongRecOn with
 | _ m ih =>
 intro l d st co hm hl hw hd h0 h1 h1' h2 h3
 unfold Cnt
 have unf : ∀ c : typing_count, (∃ c' : typing_count, Ev (fun n => B_e (F_e n) n l (d : Int) c) (c', okL l d st co) ∧ (okL l d st co = true → c' = { steps := st + fSs l, conds := co + fCs l })) → ∃ c' : typing_count, Ev (fun n => F_e n l (d : Int) c) (c', okL l d st co) ∧ (okL l d st co = true → c' = { steps := st + fSs l, conds := co + fCs l }) := by
  rintro c ⟨c', q1, q2⟩
  exact ⟨c', Ye q1, q2⟩
 refine unf _ ?_
 unfold B_e
 cases hll : l with
 | nil =>
  refine ⟨{ steps := st, conds := co }, ?_, fun _ => by simp [fSs, fCs]⟩
  refine Ev.bind (v := false) (Qb _) (Qal ?_)
  refine Ev.bind (v := Ctl.cont { steps := st, conds := co }) (EvI.ev (EvI.done ?_)) (Qb _)
  exact Qb _
 | cons f0 r0 =>
 rw [← hll]
 have hne : l.isEmpty = false := by rw [hll]; rfl
 have hpos : 0 < l.length := by rw [hll]; simp
 by_cases hdd : d ≤ 16
 rotate_left
 ·have : okL l d st co = false := by unfold okL; rw [hne, Yg hdd]; rfl
  rw [this]
  refine ⟨{ steps := st, conds := co }, ?_, fun h => by cases h⟩
  rw [Yk (show (0 : Int) < (l.length : Int) by omega), Yk (show (16 : Int) < (d : Int) by omega)]
  exact Ev.bind (Qb _) (Qb _)
 have eLR : okL l d st co = okR l d st co := by unfold okL okR; rw [Yk hdd, Bool.true_and]
 rw [eLR]
 have loop : ∀ (r : List typing_form) (i : Nat) (st co : Int), l.drop i = r → i ≤ l.length → 0 ≤ st → st ≤ 66 → (st ≤ 65 ∨ ∀ f ∈ l, ∃ c, f = ofCond c) → 0 ≤ co → co ≤ 256 →
   ∃ c' : typing_count, EvI (fun n => F_ez n l (d : Int) (F_e n)) ({ steps := st, conds := co }, (i : Int)) (bif okR r d st co then Ctl.cont c' else Ctl.done (c', false)) ∧ (okR r d st co = true → c' = { steps := st + fSs r, conds := co + fCs r }) := by
  intro r
  induction r with
  | nil =>
   intro i st co hr hi _ _ _ _ _
   refine ⟨{ steps := st, conds := co }, EvI.done ?_, fun _ => by simp [fSs, fCs]⟩
   unfold F_ez
   simp only [Q5 hr hi, cond_false]
   exact Qb _
  | cons f r ihr =>
   intro i st co hr hi g0 g1 g1' g2 g3
   obtain ⟨ha, hr'⟩ := QE (by omega) hr
   have hfm : fZ f ≤ fZs l := by
    have : ∀ (l : List typing_form), f ∈ l → fZ f ≤ fZs l := by
     intro l
     induction l with
     | nil => intro h; cases h
     | cons x l ih =>
      intro h
      rw [Qfs]
      rcases List.mem_cons.1 h with rfl | h
      ·omega
      ·have := ih h; omega
    exact this l ha.mem
   obtain ⟨c', p1, p2⟩ := Qgg (R := F_e) hdd ha (hw f ha.mem) (fun l' d' st co k1 k2 k3 k4 k5 k6 k6' k7 k8 => ih (fZs l') (by omega) l' d' st co (Nat.le_refl _) k2 k3 k4 k5 k6 k6' k7 k8) g0 g1 (g1'.imp id fun h => h f ha.mem) g2 g3
   rw [Qh4]
   cases hf : okF f d st co with
   | false =>
    rw [hf] at p1
    exact ⟨c', EvI.done p1, fun h => by cases h⟩
   | true =>
    rw [hf] at p1
    obtain rfl := p2 hf
    have hb : st + fS f ≤ 64 ∧ co + fC f ≤ 256 := by
     unfold okF at hf
     simp only [Bool.and_eq_true, decide_eq_true_eq] at hf
     exact hf.2
    obtain ⟨c2, u1, u2⟩ := ihr (i + 1) (st + fS f) (co + fC f) hr' (by have := ha.lt'; omega) (by omega) (by omega) (.inl (by omega)) (by omega) (by omega)
    refine ⟨c2, EvI.cont p1 u1, fun h => ?_⟩
    rw [u2 (by simpa using h), Qft, Qfv]
    congr 1 <;> omega
 obtain ⟨c', p1, p2⟩ := loop l 0 st co rfl (Nat.zero_le _) h0 h1 h1' h2 h3
 refine ⟨c', ?_, p2⟩
 refine Ev.bind (v := false) ?_ (Qal (Ev.bind p1.ev ?_))
 ·rw [Yk (show (0 : Int) < (l.length : Int) by omega), Yg (show ¬ (16 : Int) < (d : Int) by omega)]
  exact Qb _
 ·cases okR l d st co <;> exact Qb _
mutual
def vaC : Cond → Bool
 | ⟨k, v, n, ps⟩ => bif k == 1 then inR 1 3 v && (inR 0 10000 n && ((ps.length : Int) == 0)) else
   bif k == 4 then ((v == 0) && (n == 0)) && (((ps.length : Int) == 1) && vaCs ps) else
   bif (k == 2) || (k == 3) then ((v == 0) && (n == 0)) && ((decide (0 < (ps.length : Int)) && decide ((ps.length : Int) ≤ 16)) && vaCs ps) else false
def vaCs : List Cond → Bool
 | [] => true
 | c :: r => vaC c && vaCs r
end
theorem Qlb (c : Cond) : vaC c = bif c.Kind == 1 then inR 1 3 c.Var && (inR 0 10000 c.N && ((c.Parts.length : Int) == 0)) else
   bif c.Kind == 4 then ((c.Var == 0) && (c.N == 0)) && (((c.Parts.length : Int) == 1) && vaCs c.Parts) else
   bif (c.Kind == 2) || (c.Kind == 3) then ((c.Var == 0) && (c.N == 0)) && ((decide (0 < (c.Parts.length : Int)) && decide ((c.Parts.length : Int) ≤ 16)) && vaCs c.Parts) else false := by cases c; rfl
theorem Qgw : ∀ l : List Cond, vaCs l = l.all vaC
 | [] => rfl
 | c :: r => by rw [vaCs, List.all_cons, Qgw r]
mutual
def vaS : Step → Bool
 | ⟨k, b, c, t, e⟩ => bif k == 1 then inR 1 5 b && (zeroC c && (((t.length : Int) == 0) && ((e.length : Int) == 0))) else
   bif k == 2 then (b == 0) && (vaC c && (decide (0 < (t.length : Int)) && (vaSs t && vaSs e))) else false
def vaSs : List Step → Bool
 | [] => true
 | s :: r => vaS s && vaSs r
end
theorem Qla (s : Step) : vaS s = bif s.Kind == 1 then inR 1 5 s.By && (zeroC s.Cond && (((s.Then.length : Int) == 0) && ((s.Else.length : Int) == 0))) else
   bif s.Kind == 2 then (s.By == 0) && (vaC s.Cond && (decide (0 < (s.Then.length : Int)) && (vaSs s.Then && vaSs s.Else))) else false := by cases s; rfl
theorem Qgv : ∀ l : List Step, vaSs l = l.all vaS
 | [] => rfl
 | c :: r => by rw [vaSs, List.all_cons, Qgv r]
def fV : typing_form → Bool
 | .ctyping_step x => vaS x.Step
 | .ctyping_cond x => vaC x.Cond
theorem Qgj (l : List Cond) : (l.map ofCond).any (fun f => !fV f) = !vaCs l := by
 rw [Qgw, List.not_all_eq_any_not, List.any_map]
 rfl
theorem QbG (l : List Step) : (l.map ofStep).any (fun f => !fV f) = !vaSs l := by
 rw [Qgv, List.not_all_eq_any_not, List.any_map]
 rfl
theorem Qd1 {R : Nat → List typing_form → Option Bool} (c : Cond) (hw : Cond.wf c) (ih : Ev (fun n => R n (c.Parts.map ofCond)) (!vaCs c.Parts)) :
  Ev (fun n => F_bl (R n) n { Cond := c }) (vaC c) := by
 unfold F_bl
 rw [Qlb]
 refine Ev.bind (v := (c.Var == 0) && (c.N == 0)) (Ev.and fun _ => Qb _) ?_
 refine Qbk (fun _ => ?_) (fun h1 => ?_)
 ·exact Ev.bind (Ev.bind (Qp _ _ _) (Ev.and fun _ => Ev.bind (Qp _ _ _) (Ev.and fun _ => Qb _))) (Qb _)
 ·have fin : ∀ b : Bool, Ev (fun n => ((bif b then (F_n n { Cond := c }).bind fun r42 => (R n r42).bind fun r43 => some (!r43) else some false) : Option Bool).bind fun b39 => some b39) (b && vaCs c.Parts) := by
   intro b
   refine Ev.bind ((Ev.and fun _ => Ev.bind (Qb1 c hw) (Ev.bind ih (Qb _)))) ((Qb _).eq (by simp))
  cases h4 : (c.Kind == 4) with
  | true =>
   simp only [cond_true]
   cases hp : ((c.Var == 0) && (c.N == 0)) with
   | true =>
    refine Ev.bind (v := Ctl.cont ((c.Parts.length : Int) == 1)) (Qb _) ((fin _).eq (by simp))
   | false =>
    refine Ev.bind (v := Ctl.cont false) (Qb _) ((fin _).eq (by simp))
  | false =>
   simp only [cond_false]
   cases h23 : ((c.Kind == 2) || (c.Kind == 3)) with
   | true =>
    simp only [cond_true]
    have e : Ev (fun n : Nat => ((bif (c.Kind == 2) then some (c.Kind == 2) else some (c.Kind == 3)) : Option Bool)) true := by
     refine Ev.const ?_
     rw [Qjf, h23]
    cases hp : ((c.Var == 0) && (c.N == 0)) with
    | true =>
     cases h0 : decide (0 < (c.Parts.length : Int)) with
     | true =>
      refine Ev.bind (v := Ctl.cont (decide ((c.Parts.length : Int) ≤ 16))) (Ev.bind e (Qb _)) ((fin _).eq (by simp))
     | false =>
      refine Ev.bind (v := Ctl.cont false) (Ev.bind e (Qb _)) ((fin _).eq (by simp))
    | false =>
     refine Ev.bind (v := Ctl.cont false) (Ev.bind e (Qb _)) ((fin _).eq (by simp))
   | false =>
    have e : Ev (fun n : Nat => ((bif (c.Kind == 2) then some (c.Kind == 2) else some (c.Kind == 3)) : Option Bool)) false := by
     refine Ev.const ?_
     rw [Qjf, h23]
    refine Ev.bind (v := Ctl.done false) (Ev.bind e (Qb _)) (Qb _)
theorem Qf9 : ∀ (m : Nat) (l : List typing_form), fZs l ≤ m → l.length ≤ 2097152 → (∀ f ∈ l, fwf f) → Ev (fun n => F_k n l) (l.any fun f => !fV f) := by
 intro m
 induction m using Nat.strongRecOn with
 | _ m ih =>
 intro l hm hl hw
 refine Ye ?_
 show Ev (fun n => B_k (F_k n) n l) _
 unfold B_k F_dw
 refine Ev.contains l _ (fun n f => F_bm (F_k n) n f) (by omega) fun f hf => ?_
 have hfm : fZ f ≤ fZs l := by
  have : ∀ (l : List typing_form), f ∈ l → fZ f ≤ fZs l := by
   intro l
   induction l with
   | nil => intro h; cases h
   | cons x l ih =>
    intro h
    rw [Qfs]
    rcases List.mem_cons.1 h with rfl | h
    ·omega
    ·have := ih h; omega
  exact this l hf
 unfold F_bm
 refine Ev.bind (v := fV f) ?_ (Qb _)
 have condIH : ∀ c : Cond, Cond.wf c → cNs c.Parts < fZ f → Ev (fun n => F_k n (c.Parts.map ofCond)) (!vaCs c.Parts) := by
  intro c hc hs
  rw [← Qgj]
  obtain ⟨w1, w2⟩ := Qaf hc
  refine ih (fZs (c.Parts.map ofCond)) (by rw [Qdt]; omega) _ (Nat.le_refl _) (by simp; omega) ?_
  intro g hg
  obtain ⟨y, hy, rfl⟩ := List.mem_map.1 hg; exact w2 y hy
 cases f with
 | ctyping_cond x =>
  obtain ⟨c⟩ := x
  have hc : Cond.wf c := hw _ hf
  exact Qd1 (R := F_k) c hc (condIH c hc (by show cNs c.Parts < cN c; rw [Qea]; omega))
 | ctyping_step x =>
  obtain ⟨s⟩ := x
  have hs : Step.wf s := hw _ hf
  obtain ⟨wc, ⟨wt1, wt2⟩, ⟨we1, we2⟩⟩ := Qae hs
  unfold F_eg
  show Ev _ (vaS s)
  rw [Qla]
  simp only [typing_form.elim]
  refine Qbk (fun _ => ?_) (fun h1 => Qbk (fun _ => ?_) fun _ => Qb _)
  ·refine Ev.bind (Ev.bind (Qp _ _ _) (Ev.and fun _ => ?_)) (Qb _)
   simp only [Qd2, Option.bind_some]
   refine Ev.and fun _ => Ev.bind (QaZ s hs) ((Qb _).eq ?_)
   unfold stepParts
   rw [Bool.eq_iff_iff]
   simp only [beq_iff_eq, Bool.and_eq_true, List.length_append, List.length_map]
   omega
  ·refine Ev.bind (Ev.and fun _ => ?_) (Qb _)
   refine Ev.bind (Qd1 (R := F_k) s.Cond wc (condIH s.Cond wc (by show _ < sZ s; rw [QgB, Qea]; omega))) (Ev.and fun _ => Ev.and fun _ => ?_)
   refine Ev.bind (QaZ s hs) (Ev.bind (ih (fZs (stepParts s)) ?_ _ (Nat.le_refl _) (by unfold stepParts; simp; omega) ?_) ((Qb _).eq ?_))
   ·have : fZs (stepParts s) < sZ s := by
     unfold stepParts
     rw [Qds, Qbd, Qbd, QgB]; omega
    have h2 : fZ (typing_form.ctyping_step { Step := s }) = sZ s := rfl
    omega
   ·intro g hg
    unfold stepParts at hg
    rcases List.mem_append.1 hg with hg | hg
    ·obtain ⟨y, hy, rfl⟩ := List.mem_map.1 hg; exact wt2 y hy
    ·obtain ⟨y, hy, rfl⟩ := List.mem_map.1 hg; exact we2 y hy
   ·unfold stepParts
    rw [List.any_append, QbG, QbG]
    simp
def goodT (l : List Step) : Bool := sDs 0 l && (decide (sNs l ≤ 64) && decide (sCs l ≤ 256))
def tiesE (l : List Step) : Int := bif goodT l then (bif l.isEmpty || !vaSs l then 71 else 0) else 2
theorem Qh5 (l : List Step) : okL (l.map ofStep) 0 0 0 = goodT l := by
 rw [Bool.eq_iff_iff, Qer _ _ _ _ (by omega) (by omega), ← Qb0, QaR, QaS]
 unfold goodT
 simp only [Bool.and_eq_true, decide_eq_true_eq]
 constructor
 ·rintro ⟨a, b, c⟩; exact ⟨a, by omega, by omega⟩
 ·rintro ⟨a, b, c⟩; exact ⟨a, by omega, by omega⟩
theorem QkM (l : List Step) (hl : l.length ≤ 1048576) (hw : ∀ x ∈ l, Step.wf x) : Ev (fun n => F_ax n l) (tiesE l) := by
 unfold F_ax
 refine Ev.bind (Qdy l (by omega)) (Ev.bind (v := tiesE l) ?_ (Qb _))
 have fw : ∀ f ∈ l.map ofStep, fwf f := by
  intro g hg
  obtain ⟨y, hy, rfl⟩ := List.mem_map.1 hg; exact hw y hy
 obtain ⟨c', p1, p2⟩ := Qi6 _ (l.map ofStep) 0 0 0 (Nat.le_refl _) (by simp; omega) fw (by omega) (by omega) (by omega) (.inl (by omega)) (by omega) (by omega)
 rw [Qh5] at p1
 unfold F_dc
 have p3 : Ev (fun n => F_ed n (l.map ofStep) 0 { steps := 0, conds := 0 }) (c', goodT l) := p1.shift
 refine Ev.bind p3 ?_
 unfold tiesE
 cases goodT l with
 | false => exact Qb _
 | true =>
  simp only [Bool.not_true, cond_false, cond_true]
  have e : (((l.map ofStep).length : Int) == 0) = l.isEmpty := by
   cases l <;> simp
   omega
  rw [e]
  refine Ev.bind (Ev.or fun _ => Ev.bind (Qf9 _ _ (Nat.le_refl _) (by simp; omega) fw) (Qb _)) ?_
  rw [QbG]
  cases (l.isEmpty || !vaSs l) <;> exact Qb _
mutual
def hP : Part → Nat
 | ⟨_, _, ps⟩ => bif ps.isEmpty then 0 else 1 + hPs ps
def hPs : List Part → Nat
 | [] => 0
 | p :: r => max (hP p) (hPs r)
end
theorem Qk4 (p : Part) : hP p = bif p.Parts.isEmpty then 0 else 1 + hPs p.Parts := by cases p; rfl
theorem QgJ {p : Part} : ∀ {l : List Part}, p ∈ l → hP p ≤ hPs l
 | q :: r, h => by
  simp only [hPs]
  rcases List.mem_cons.1 h with rfl | h
  ·omega
  ·have := QgJ h; omega
theorem Qe5 {α : Type} (l : List α) : ((l.length : Int) == 0) = l.isEmpty := by
 cases l <;> simp
 omega
theorem Qag : ∀ l : List Part, l.length ≤ szPs l
 | [] => Nat.le_refl _
 | p :: r => by have := Qag r; rw [szPs, Qaa, List.length_cons]; omega
theorem Qi5 : ∀ (m : Nat) (l : List Part) (k : Nat), szPs l ≤ m → hPs l ≤ k → k ≤ 17 → szPs l ≤ 256 → (∀ x ∈ l, Part.wf x) → Ev (fun n => F_c n l (k : Int)) ((hPs l : Int), (szPs l : Int)) := by
 intro m
 induction m using Nat.strongRecOn with
 | _ m ih =>
 intro l k hm hk hk17 hs256 hw
 have hlen := Qag l
 refine Ye ?_
 show Ev (fun n => B_c (F_c n) n l (k : Int)) _
 unfold B_c
 have loop : ∀ (r : List Part) (i : Nat) (a b : Nat), l.drop i = r → i ≤ l.length → a ≤ 17 → b + (szPs r - r.length) ≤ 256 → EvI (fun n => F_y n l (k : Int) (F_c n)) ((a : Int), (b : Int), (i : Int)) (((max a (hPs r) : Nat) : Int), ((b + (szPs r - r.length) : Nat) : Int)) := by
  intro r
  induction r with
  | nil =>
   intro i a b hr hi _ _
   refine EvI.done ?_
   unfold F_y
   simp only [Q5 hr hi, cond_false, Option.bind_some]
   refine (Qb _).eq ?_
   simp [hPs, szPs]
  | cons p r ihr =>
   intro i a b hr hi ha0 hb0
   obtain ⟨ha, hr'⟩ := QE (by omega) hr
   obtain ⟨w1, w2⟩ := Ys (hw p ha.mem)
   have hs := QaN ha.mem
   have hh := QgJ ha.mem
   rw [Qaa] at hs
   have hr2 := Qag r
   rw [szPs, Qaa, List.length_cons] at hb0
   have step : Ev (fun n => F_y n l (k : Int) (F_c n) ((a : Int), (b : Int), (i : Int))) (.cont (((max a (hP p) : Nat) : Int), ((b + szPs p.Parts : Nat) : Int), ((i + 1 : Nat) : Int))) := by
    unfold F_y
    simp only [ha.lt, cond_true, ha.ix, Option.bind_some, ha.nx, Qe5]
    rw [Qk4] at hh ⊢
    cases hp : p.Parts.isEmpty with
    | true =>
     have e0 : p.Parts = [] := by simpa using hp
     simp only [cond_true, Option.bind_some]
     rw [e0]
     simp only [szPs, Nat.add_zero, Nat.max_zero]
     exact Qb _
    | false =>
     rw [hp] at hh
     simp only [cond_false] at hh ⊢
     have hk0 : 0 < k := by omega
     have e1 : IntKind.i64.wrap ((k : Int) - 1) = ((k - 1 : Nat) : Int) := by rw [Q2 (by omega) (by omega)]; omega
     have e2 : ((k : Int) == 0) = false := beq_false_of_ne (by omega)
     rw [e2, Yg (show ¬ (256 : Int) < (b : Int) by omega), e1]
     simp only [cond_false, Option.bind_some]
     refine Ev.bind (Ev.bind (ih (szPs p.Parts) (by omega) p.Parts (k - 1) (Nat.le_refl _) (by omega) (by omega) (by omega) w2) (Qb _)) ((Qb _).eq ?_)
     have e3 : IntKind.i64.wrap ((hPs p.Parts : Int) + 1) = ((hPs p.Parts + 1 : Nat) : Int) := QaK (by omega)
     have e4 : IntKind.i64.wrap ((b : Int) + (szPs p.Parts : Int)) = ((b + szPs p.Parts : Nat) : Int) := by rw [Q2 (by omega) (by omega)]; omega
     simp only [e3, e4]
     congr 2
     split <;> omega
   refine (EvI.cont step (ihr (i + 1) _ _ hr' (by have := ha.lt'; omega) (by omega) (by omega))).eq ?_
   rw [hPs, szPs, Qaa, List.length_cons]
   congr 1 <;> omega
 refine Ev.bind ((loop l 0 0 l.length rfl (Nat.zero_le _) (by omega) (by omega)).ev) ((Qb _).eq ?_)
 congr 1 <;> omega
def repS : Nat → List Int → List Int → List Int
 | 0, out, _ => out
 | k + 1, out, lap => if 256 < out.length then out else repS k (out ++ lap) lap
mutual
def lapS : Part → List Int
 | ⟨m, laps, ps⟩ => bif decide (0 < laps) then expS [] ps else [m]
def expS : List Int → List Part → List Int
 | out, [] => out
 | out, p :: r => expS (repS (p.Laps.toNat + (bif decide (0 < p.Laps) then 0 else 1)) out (lapS p)) r
end
theorem QcS (p : Part) : lapS p = bif decide (0 < p.Laps) then expS [] p.Parts else [p.Mat] := by cases p; rfl
theorem Qc3 {k : Nat} {out lap : List Int} (h : 256 < out.length) : repS k out lap = out := by
 cases k with
 | zero => rfl
 | succ k => rw [repS, if_pos h]
theorem Qfx : ∀ (l : List Part) {out : List Int}, 256 < out.length → expS out l = out
 | [], out, h => by rw [expS]
 | p :: r, out, h => by rw [expS, Qc3 h]; exact Qfx r h
theorem Qc2 : ∀ (k : Nat) (out lap : List Int), (repS k out lap).length ≤ max out.length (256 + lap.length)
 | 0, out, lap => by rw [repS]; omega
 | k + 1, out, lap => by
  rw [repS]
  split
  ·omega
  ·have := Qc2 k (out ++ lap) lap
   rw [List.length_append] at this
   omega
theorem Qfw : ∀ (m : Nat) (l : List Part) (out : List Int), szPs l ≤ m → (expS out l).length ≤ max out.length (256 + 257 * szPs l) := by
 intro m
 induction m using Nat.strongRecOn with
 | _ m ih =>
 intro l
 have lapL : ∀ p ∈ l, szPs l ≤ m → (lapS p).length ≤ 257 * szP p := by
  intro p hp hm
  have hs := QaN hp
  rw [QcS, Qaa] at *
  cases decide (0 < p.Laps) with
  | true =>
   have := ih (szPs p.Parts) (by omega) p.Parts [] (Nat.le_refl _)
   simp only [cond_true, List.length_nil] at this ⊢
   omega
  | false => simp; omega
 have gen : ∀ (r : List Part) (out : List Int), (∀ p ∈ r, (lapS p).length ≤ 257 * szP p) → (expS out r).length ≤ max out.length (256 + 257 * szPs r) := by
  intro r
  induction r with
  | nil => intro out _; rw [expS]; omega
  | cons p r ihr =>
   intro out hl
   rw [expS, szPs]
   have h1 := ihr (repS (p.Laps.toNat + (bif decide (0 < p.Laps) then 0 else 1)) out (lapS p)) fun q hq => hl q (by simp [hq])
   have h2 := Qc2 (p.Laps.toNat + (bif decide (0 < p.Laps) then 0 else 1)) out (lapS p)
   have h3 := hl p (by simp)
   omega
 intro out hm
 exact gen l out fun p hp => lapL p hp hm
theorem Qif (p : Part) : (lapS p).length ≤ 257 * szP p := by
 rw [QcS, Qaa]
 cases decide (0 < p.Laps) with
 | true =>
  have := Qfw _ p.Parts [] (Nat.le_refl _)
  simp only [cond_true, List.length_nil] at this ⊢
  omega
 | false => simp; omega
theorem Qhs (kk : Int) : ∀ (m : Nat) (l : List Part), szPs l ≤ m → szPs l ≤ 256 → l.length ≤ 1048576 → (∀ x ∈ l, Part.wf x) → partsS kk l = true → Ev (fun n => F_m n l) (expS [] l) := by
 intro m
 induction m using Nat.strongRecOn with
 | _ m ih =>
 intro l hm hs256 hl hw hv
 rw [Qcg, List.all_eq_true] at hv
 refine Ye ?_
 show Ev (fun n => B_m (F_m n) n l) _
 unfold B_m
 have inner : ∀ (p : Part) (lap : List Int) (hp : p.Laps = 0 ∨ 0 < p.Laps ∧ p.Laps ≤ 64) (hlap : lap.length ≤ 100000) (j : Nat) (k : Nat) (out : List Int), j + k = p.Laps.toNat + (bif decide (0 < p.Laps) then 0 else 1) → out.length ≤ 200000 →
   ∃ res : Ctl (List Int) (Ctl ((List Int) × Int) (Ctl (List Int) (List Int))), EvI (fun n => F_eo n p lap) (out, (j : Int)) res ∧
    (res = .cont (repS k out lap) ∨ (256 < (repS k out lap).length ∧ res = .done (.done (.done (repS k out lap))))) := by
  intro p lap hp hlap j k
  induction k generalizing j with
  | zero =>
   intro out hj _
   refine ⟨_, EvI.done (b := .cont out) ?_, .inl rfl⟩
   unfold F_eo
   have : ¬ ((j : Int) < if p.Laps < 1 then 1 else p.Laps) := by
    rcases hp with h | ⟨h, h'⟩
    ·rw [h] at hj ⊢; simp at hj ⊢; omega
    ·rw [Yk h] at hj; simp at hj; rw [if_neg (by omega)]; omega
   rw [Yg this]
   exact Qb _
  | succ k ihk =>
   intro out hj hout
   have hlt : ((j : Int) < if p.Laps < 1 then 1 else p.Laps) := by
    rcases hp with h | ⟨h, h'⟩
    ·rw [h] at hj ⊢; simp at hj ⊢; omega
    ·rw [Yk h] at hj; simp at hj; rw [if_neg (by omega)]; omega
   have hj64 : j ≤ 64 := by
    rcases hp with h | ⟨h, h'⟩
    ·rw [h] at hj; simp at hj; omega
    ·rw [Yk h] at hj; simp at hj; omega
   by_cases hb : 256 < out.length
   ·refine ⟨_, EvI.done (b := .done (.done (.done out))) ?_, .inr ⟨by rw [Qc3 hb]; exact hb, by rw [Qc3 hb]⟩⟩
    unfold F_eo
    rw [Yk hlt, Yk (show (256 : Int) < (out.length : Int) by omega)]
    exact Qb _
   ·obtain ⟨res, p1, p2⟩ := ihk (j + 1) (out ++ lap) (by omega) (by rw [List.length_append]; omega)
    refine ⟨res, EvI.cont ?_ p1, by rw [repS, if_neg hb]; exact p2⟩
    unfold F_eo
    rw [Yk hlt, Yg (show ¬ (256 : Int) < (out.length : Int) by omega)]
    refine Qha (Qal (QaA (QfF out lap (by omega)) ?_))
    rw [QaK (by omega)]
    exact Qb _
 have loop : ∀ (r : List Part) (i : Nat) (out : List Int), l.drop i = r → i ≤ l.length → out.length ≤ 100000 →
   ∃ res : Ctl (List Int) (List Int), EvI (fun n => F_cq n l (F_m n)) (out, (i : Int)) res ∧ (res = .cont (expS out r) ∨ res = .done (expS out r)) := by
  intro r
  induction r with
  | nil =>
   intro i out hr hi _
   refine ⟨.cont out, EvI.done ?_, .inl (by rw [expS])⟩
   unfold F_cq
   simp only [Q5 hr hi, cond_false]
   exact Qb _
  | cons p r ihr =>
   intro i out hr hi hout
   obtain ⟨ha, hr'⟩ := QE (by omega) hr
   have hlt := ha.lt'
   have hs := QaN ha.mem
   obtain ⟨w1, w2⟩ := Ys (hw p ha.mem)
   have hp := hv p ha.mem
   rw [Qc5] at hp
   have hlaps : p.Laps = 0 ∨ 0 < p.Laps ∧ p.Laps ≤ 64 := by
    cases h0 : (p.Laps == 0) with
    | true => exact .inl (by simpa using h0)
    | false =>
     rw [h0] at hp
     simp only [cond_false, inR, Bool.and_eq_true, decide_eq_true_eq] at hp
     exact .inr ⟨by omega, by omega⟩
   have hll := Qif p
   have hb : Ev (fun n => ((bif decide (0 < p.Laps) then (F_m n p.Parts).bind fun r62 => some r62 else some [p.Mat]) : Option (List Int))) (lapS p) := by
    rw [QcS]
    refine Qbk (fun h => ?_) (fun _ => Qb _)
    rw [Qaa] at hs
    refine Ev.bind (ih (szPs p.Parts) (by omega) p.Parts (Nat.le_refl _) (by omega) w1 w2 ?_) (Qb _)
    have : (p.Laps == 0) = false := by
     simp only [decide_eq_true_eq] at h
     exact beq_false_of_ne (by omega)
    rw [this] at hp
    simp only [cond_false, Bool.and_eq_true] at hp
    exact hp.2.2.2
   obtain ⟨res, p1, p2⟩ := inner p (lapS p) hlaps (by omega) 0 _ out (Nat.zero_add _) (by omega)
   rw [expS]
   rcases p2 with rfl | ⟨hbig, rfl⟩
   ·obtain ⟨res2, q1, q2⟩ := ihr (i + 1) (repS (p.Laps.toNat + (bif decide (0 < p.Laps) then 0 else 1)) out (lapS p)) hr' (by omega) (by
     have := Qc2 (p.Laps.toNat + (bif decide (0 < p.Laps) then 0 else 1)) out (lapS p)
     omega)
    refine ⟨res2, EvI.cont ?_ q1, q2⟩
    unfold F_cq
    simp only [ha.lt, cond_true, ha.ix, Option.bind_some, ha.nx]
    exact Ev.bind hb (Ev.bind p1.ev (Qb _))
   ·refine ⟨.done (repS (p.Laps.toNat + (bif decide (0 < p.Laps) then 0 else 1)) out (lapS p)), EvI.done ?_, .inr (by rw [Qfx r hbig])⟩
    unfold F_cq
    simp only [ha.lt, cond_true, ha.ix, Option.bind_some, ha.nx]
    exact Ev.bind hb (Ev.bind p1.ev (Qb _))
 obtain ⟨res, p1, p2⟩ := loop l 0 [] rfl (Nat.zero_le _) (by simp)
 rcases p2 with rfl | rfl
 ·exact Ev.bind p1.ev (Qb _)
 ·exact Ev.bind p1.ev (Qb _)
def kindAt (c : Course) (m : Int) : Int := ((c.Mats[m.toNat]?).map (·.Kind)).getD 0
def hasLeg (c : Course) (a b : Int) : Bool := c.Legs.any fun l => (l.From == a) && (l.To == b)
def rokS (c : Course) (len : Nat) : Nat → Int → List Int → Bool
 | _, _, [] => true
 | i, prev, m :: r => ((kindAt c m == 1) == decide (i = 0)) && (((kindAt c m == 3) == decide (i + 1 = len)) && ((decide (i = 0) || hasLeg c prev m) && rokS c len (i + 1) m r))
def routeR (c : Course) (d : Distance) (r : List Int) : Bool :=
 (decide (2 ≤ r.length) && decide (r.length ≤ 256)) && (rokS c r.length 0 0 r && ((bif decide (0 ≤ d.Extra) then !((r.count d.Extra : Int) == 0) && ((kindAt c d.Extra == 2) && hasLeg c d.Extra d.Extra) else true) && d.Cutoffs.all fun x => decide (x.Lap ≤ (r.count x.Mat : Int))))
def routeS (c : Course) (d : Distance) : Bool := routeR c d (expS [] d.Route)
def cntM (l : List Int) : List (Int × Int) := l.foldl (fun m k => mset m k (mgetD m k 0 + 1)) []
theorem QhA (l : List Int) (k : Int) : cntM (l ++ [k]) = mset (cntM l) k (mgetD (cntM l) k 0 + 1) := by unfold cntM; rw [List.foldl_append]; rfl
theorem QdC (l : List Int) (k : Int) : mgetD (cntM l) k 0 = (l.count k : Int) := by
 have gen : ∀ (l : List Int) (m : List (Int × Int)), mgetD (l.foldl (fun m k => mset m k (mgetD m k 0 + 1)) m) k 0 = mgetD m k 0 + (l.count k : Int) := by
  intro l
  induction l with
  | nil => intro m; simp
  | cons x l ih =>
   intro m
   rw [List.foldl_cons, ih, Qdc, List.count_cons]
   by_cases h : k = x
   ·subst h; simp; omega
   ·have : (x == k) = false := beq_false_of_ne fun e => h e.symm
    simp [h, this]
 have := gen l []
 simpa [cntM, Qhm] using this
theorem Qf0 (kk : Int) : ∀ (m : Nat) (l : List Part) (out : List Int), szPs l ≤ m → partsS kk l = true → (∀ x ∈ out, 0 ≤ x ∧ x ≤ kk) → ∀ x ∈ expS out l, 0 ≤ x ∧ x ≤ kk := by
 intro m
 induction m using Nat.strongRecOn with
 | _ m ih =>
 intro l
 have rep : ∀ (k : Nat) (out lap : List Int), (∀ x ∈ out, 0 ≤ x ∧ x ≤ kk) → (∀ x ∈ lap, 0 ≤ x ∧ x ≤ kk) → ∀ x ∈ repS k out lap, 0 ≤ x ∧ x ≤ kk := by
  intro k
  induction k with
  | zero => intro out lap h1 _; rw [repS]; exact h1
  | succ k ihk =>
   intro out lap h1 h2
   rw [repS]
   split
   ·exact h1
   ·refine ihk _ _ ?_ h2
    intro x hx
    rcases List.mem_append.1 hx with h | h
    ·exact h1 x h
    ·exact h2 x h
 have gen : ∀ (r : List Part) (out : List Int), szPs r ≤ m → partsS kk r = true → (∀ x ∈ out, 0 ≤ x ∧ x ≤ kk) → ∀ x ∈ expS out r, 0 ≤ x ∧ x ≤ kk := by
  intro r
  induction r with
  | nil => intro out _ _ h; rw [expS]; exact h
  | cons p r ihr =>
   intro out hm hv h
   rw [szPs, Qaa] at hm
   rw [partsS, Bool.and_eq_true] at hv
   obtain ⟨hp, hr⟩ := hv
   rw [expS]
   refine ihr _ (by omega) hr (rep _ _ _ h ?_)
   rw [QcS]
   rw [Qc5] at hp
   cases h0 : (p.Laps == 0) with
   | true =>
    have e0 : p.Laps = 0 := by simpa using h0
    rw [h0, cond_true, Bool.and_eq_true] at hp
    have := hp.1
    unfold inR at this
    simp only [Bool.and_eq_true, decide_eq_true_eq] at this
    rw [e0]
    intro x hx
    simp at hx
    subst hx
    exact this
   | false =>
    rw [h0] at hp
    simp only [cond_false, Bool.and_eq_true, inR, decide_eq_true_eq] at hp
    rw [Yk (show 0 < p.Laps by omega), cond_true]
    exact ih (szPs p.Parts) (by omega) p.Parts [] (Nat.le_refl _) hp.2.2.2 (by simp)
 exact fun out hm hv h => gen l out hm hv h
theorem QgI {c : Course} {m : Int} (h0 : 0 ≤ m) (h1 : m ≤ (c.Mats.length : Int) - 1) : ∃ x : Mat, idx c.Mats m = some x ∧ x.Kind = kindAt c m := by
 obtain ⟨k, rfl⟩ : ∃ k : Nat, m = (k : Int) := ⟨m.toNat, by omega⟩
 have hlt : k < c.Mats.length := by omega
 refine ⟨c.Mats[k], QcU (List.getElem?_eq_getElem hlt), ?_⟩
 unfold kindAt
 rw [Int.toNat_natCast, List.getElem?_eq_getElem hlt]; rfl
theorem Qe6 (c : Course) (a b : Int) : mgetD (msetAll legKey true c.Legs) { from_ := a, to_ := b } false = hasLeg c a b := by
 rw [QaD]
 unfold hasLeg
 by_cases h : ({ from_ := a, to_ := b } : typing_ends) ∈ c.Legs.map legKey
 ·rw [if_pos h]
  obtain ⟨l, hl, e⟩ := List.mem_map.1 h
  unfold legKey at e
  obtain ⟨e1, e2⟩ := ends_eq.1 e
  exact (List.any_eq_true.2 ⟨l, hl, by simp [e1, e2]⟩).symm
 ·rw [if_neg h]
  symm
  rw [Bool.eq_false_iff]
  intro q
  obtain ⟨l, hl, e⟩ := List.any_eq_true.1 q
  simp only [Bool.and_eq_true, beq_iff_eq] at e
  exact h (List.mem_map.2 ⟨l, hl, by unfold legKey; rw [e.1, e.2]⟩)
structure NumOk (c : Course) : Prop where
 kinds : ∀ m ∈ c.Mats, 1 ≤ m.Kind ∧ m.Kind ≤ 3
 dist : ∀ d ∈ c.Distances, -1 ≤ d.Extra ∧ d.Extra ≤ (c.Mats.length : Int) - 1 ∧ partsS ((c.Mats.length : Int) - 1) d.Route = true
theorem Qjp {c : Course} (h : numbersS c = true) : NumOk c := by
 unfold numbersS at h
 simp only [Bool.and_eq_true, List.all_eq_true] at h
 refine ⟨fun m hm => ?_, fun d hd => ?_⟩
 ·have := h.1 m hm
  unfold inR at this
  simpa using this
 ·have := h.2.2.2.1 d hd
  unfold distS at this
  simp only [Bool.and_eq_true] at this
  obtain ⟨_, h2, h3, _⟩ := this
  unfold inR at h2
  simp only [Bool.and_eq_true, decide_eq_true_eq] at h2
  exact ⟨h2.1, h2.2, h3⟩
theorem QlQ {c : Course} (q : NumOk c) {d : Distance} (hd : d ∈ c.Distances) : ∀ x ∈ expS [] d.Route, 0 ≤ x ∧ x ≤ (c.Mats.length : Int) - 1 :=
 Qf0 _ _ d.Route [] (Nat.le_refl _) (q.dist d hd).2.2 (by simp)
theorem Qh0 (c : Course) (len i : Nat) (prev m : Int) (r : List Int) : rokS c len i prev (m :: r) = (((kindAt c m == 1) == decide (i = 0)) && (((kindAt c m == 3) == decide (i + 1 = len)) && ((decide (i = 0) || hasLeg c prev m) && rokS c len (i + 1) m r))) := rfl
theorem Qjz (i : Nat) : ((i : Int) == 0) = decide (i = 0) := by
 rw [Bool.eq_iff_iff]; simp
theorem QdL (c : Course) (r : List Int) (hr2 : 2 ≤ r.length) (hr : r.length ≤ 256) (hm : ∀ x ∈ r, 0 ≤ x ∧ x ≤ (c.Mats.length : Int) - 1) :
  Ev (fun n => iter (F_br n c (msetAll legKey true c.Legs) r) n ([], 0)) (bif rokS c r.length 0 0 r then .cont (cntM r) else .done false) := by
 have loop : ∀ (t : List Int) (i : Nat) (prev : Int), r.drop i = t → i ≤ r.length → (0 < i → At r (i - 1) prev) → EvI (fun n => F_br n c (msetAll legKey true c.Legs) r) (cntM (r.take i), (i : Int)) (bif rokS c r.length i prev t then .cont (cntM r) else .done false) := by
  intro t
  induction t with
  | nil =>
   intro i prev ht hi _
   refine EvI.done ?_
   unfold F_br
   simp only [Q5 ht hi, cond_false, rokS, cond_true]
   have : r.length ≤ i := by simpa using ht
   rw [List.take_of_length_le this]
   exact Qb _
  | cons m t ih =>
   intro i prev ht hi hp
   obtain ⟨ha, ht'⟩ := QE (by omega) ht
   have hlt := ha.lt'
   obtain ⟨h0, h1⟩ := hm m ha.mem
   obtain ⟨x, e1, e2⟩ := QgI h0 h1
   have e3 : IntKind.i64.wrap ((r.length : Int) - 1) = ((r.length - 1 : Nat) : Int) := by rw [Q2 (by omega) (by omega)]; omega
   have e4 : ((i : Int) == ((r.length - 1 : Nat) : Int)) = decide (i + 1 = r.length) := by rw [Bool.eq_iff_iff]; simp; omega
   have hc : Ev (fun n : Nat => ((bif ((x.Kind == 1) != ((i : Int) == 0)) then some true else (bif ((x.Kind == 3) != ((i : Int) == (IntKind.i64.wrap ((r.length : Int) - 1)))) then some true else (bif decide (0 < (i : Int)) then (idx r (IntKind.i64.wrap ((i : Int) - 1))).bind fun x57 => (some (mgetD (msetAll legKey true c.Legs) ({ from_ := x57, to_ := m : typing_ends }) false)).bind fun v58 => some (!v58) else some false))) : Option Bool))
     (!(((kindAt c m == 1) == decide (i = 0)) && (((kindAt c m == 3) == decide (i + 1 = r.length)) && (decide (i = 0) || hasLeg c prev m)))) := by
    rw [e2, e3, e4, Qjz]
    refine Ev.eq (Ev.or fun _ => Ev.or fun _ => Qbk (v := !hasLeg c prev m) (w := false) (fun h => ?_) fun _ => Qb _) ?_
    ·have hi0 : 0 < i := by simpa using h
     have e5 : IntKind.i64.wrap ((i : Int) - 1) = ((i - 1 : Nat) : Int) := by rw [Q2 (by omega) (by omega)]; omega
     rw [e5, (hp hi0).ix]
     simp only [Option.bind_some, Qe6]
     exact Qb _
    ·have e6 : decide (0 < (i : Int)) = !decide (i = 0) := by rw [Bool.eq_iff_iff]; simp; omega
     rw [e6]
     cases (kindAt c m == 1) <;> cases decide (i = 0) <;> cases (kindAt c m == 3) <;> cases decide (i + 1 = r.length) <;> cases hasLeg c prev m <;> rfl
   have hcnt : IntKind.i64.wrap (mgetD (cntM (r.take i)) m 0 + 1) = mgetD (cntM (r.take i)) m 0 + 1 := by
    rw [QdC]
    have : (r.take i).count m ≤ i := by have := List.count_le_length (a := m) (l := r.take i); simp at this; omega
    exact Q2 (by omega) (by omega)
   have step : Ev (fun n => F_br n c (msetAll legKey true c.Legs) r (cntM (r.take i), (i : Int))) (bif ((kindAt c m == 1) == decide (i = 0)) && (((kindAt c m == 3) == decide (i + 1 = r.length)) && (decide (i = 0) || hasLeg c prev m)) then .cont (cntM (r.take (i + 1)), ((i + 1 : Nat) : Int)) else .done (.done false)) := by
    unfold F_br
    simp only [ha.lt, cond_true, ha.ix, Option.bind_some, ha.nx, e1]
    refine Ev.bind hc ?_
    rw [hcnt, ← QhA, ← ha.take]
    cases (((kindAt c m == 1) == decide (i = 0)) && (((kindAt c m == 3) == decide (i + 1 = r.length)) && (decide (i = 0) || hasLeg c prev m))) <;> exact Qb _
   have e7 : rokS c r.length i prev (m :: t) = ((((kindAt c m == 1) == decide (i = 0)) && (((kindAt c m == 3) == decide (i + 1 = r.length)) && (decide (i = 0) || hasLeg c prev m))) && rokS c r.length (i + 1) m t) := by rw [Qh0]; simp only [Bool.and_assoc]
   rw [e7]
   cases hv : (((kindAt c m == 1) == decide (i = 0)) && (((kindAt c m == 3) == decide (i + 1 = r.length)) && (decide (i = 0) || hasLeg c prev m))) with
   | false =>
    rw [hv] at step
    exact EvI.done step
   | true =>
    rw [hv] at step
    rw [Bool.true_and]
    exact EvI.cont step (ih (i + 1) m ht' (by omega) (fun _ => by simpa using ha))
 exact (loop r 0 0 rfl (Nat.zero_le _) (by omega)).ev
theorem Qf8 (c : Course) (w : CourseOk c) (q : NumOk c) (d : Distance) (hd : d ∈ c.Distances) (hw : ∀ x ∈ d.Route, Part.wf x) (hs : szPs d.Route ≤ 256) :
  Ev (fun n => F_bg n c d (msetAll legKey true c.Legs)) (routeS c d) := by
 have hlen := Qag d.Route
 have hm := QlQ q hd
 have hel := Qfw _ d.Route [] (Nat.le_refl _)
 unfold F_bg routeS
 refine Ev.bind (Qhs _ _ d.Route (Nat.le_refl _) hs (by omega) hw (q.dist d hd).2.2) ?_
 generalize expS [] d.Route = r at hm hel ⊢
 unfold routeR
 have e3 : IntKind.i64.wrap ((r.length : Int) - 1) = (r.length : Int) - 1 := by
  have : r.length ≤ 1048576 := by simp at hel; omega
  exact QbK this
 rw [e3]
 have e0 : (decide ((r.length : Int) - 1 < 1) || decide (256 ≤ (r.length : Int) - 1)) = !(decide (2 ≤ r.length) && decide (r.length ≤ 256)) := by
  rw [Bool.eq_iff_iff]; simp; omega
 refine Ev.bind (Ev.eq (Ev.or fun _ => Qb _) e0) ?_
 cases hq : (decide (2 ≤ r.length) && decide (r.length ≤ 256)) with
 | false => exact Qb _
 | true =>
  simp only [Bool.and_eq_true, decide_eq_true_eq] at hq
  rw [Bool.true_and]
  refine Qal (Ev.bind (QdL c r hq.1 hq.2 hm) ?_)
  cases rokS c r.length 0 0 r with
  | false => exact Qb _
  | true =>
   simp only [cond_true, Bool.true_and]
   have hx : Ev (fun n : Nat => ((bif decide (0 ≤ d.Extra) then (some (mgetD (cntM r) d.Extra 0)).bind fun v71 => (bif (v71 == 0) then some true else (idx c.Mats d.Extra).bind fun x73 => (bif (x73.Kind != 2) then some true else (some (mgetD (msetAll legKey true c.Legs) ({ from_ := d.Extra, to_ := d.Extra : typing_ends }) false)).bind fun v75 => some (!v75))) else some false) : Option Bool))
     (!(bif decide (0 ≤ d.Extra) then !((r.count d.Extra : Int) == 0) && ((kindAt c d.Extra == 2) && hasLeg c d.Extra d.Extra) else true)) := by
    rw [QdC]
    cases h0 : decide (0 ≤ d.Extra) with
    | false => exact Qb _
    | true =>
     obtain ⟨x, e1, e2⟩ := QgI (c := c) (m := d.Extra) (by simpa using h0) (q.dist d hd).2.1
     simp only [cond_true, Option.bind_some, e1, Qe6, e2]
     refine Ev.eq (Ev.or fun _ => Ev.or fun _ => Qb _) ?_
     rw [bne]
     cases ((r.count d.Extra : Int) == 0) <;> cases (kindAt c d.Extra == 2) <;> cases hasLeg c d.Extra d.Extra <;> rfl
   refine Ev.bind hx ?_
   cases (bif decide (0 ≤ d.Extra) then !((r.count d.Extra : Int) == 0) && ((kindAt c d.Extra == 2) && hasLeg c d.Extra d.Extra) else true) with
   | false => exact Qb _
   | true =>
    rw [Bool.true_and]
    refine Qal (Ev.bind ?_ (Qb _))
    unfold F_dd F_co F_ek
    refine Yu d.Cutoffs _ (fun n x => F_ca n x (cntM r)) (by have := w.cut d hd; omega) fun x _ => ?_
    unfold F_ca
    rw [QdC]
    exact Qb _
def lensC (c : Course) : Nat := c.Mats.length + c.Legs.length + c.Distances.length + c.Waves.length + c.Offences.length + c.Categories.length + c.Prizes.length
def fewD (d : Distance) : Prop := d.Cutoffs.length ≤ 200 ∧ szPs d.Route ≤ 200 ∧ hPs d.Route ≤ 16
structure FewOk (c : Course) : Prop where
 lens : lensC c ≤ 200
 name : c.Name.length ≤ 100
 dist : ∀ d ∈ c.Distances, fewD d
 ties : c.Ties.length ≤ 200
def fitsS (c : Course) : Bool :=
 !(decide (40 < (c.Mats.length : Int)) || (decide (512 < (c.Legs.length : Int)) || (decide (8 < (c.Distances.length : Int)) || (decide (32 < (c.Waves.length : Int)) || (decide (32 < (c.Offences.length : Int)) || (decide (32 < (c.Categories.length : Int)) || decide (32 < (c.Prizes.length : Int))))))))
  && c.Distances.all fun d => !decide (64 < (d.Cutoffs.length : Int))
theorem QkL (c : Course) (w : CourseOk c) (q : PartsOk c) (k : FewOk c) : Ev (fun n => F_ac n c) (fitsS c) := by
 unfold F_ac fitsS
 refine Ev.bind (Ev.or fun _ => Ev.or fun _ => Ev.or fun _ => Ev.or fun _ => Ev.or fun _ => Ev.or fun _ => Qb _) ?_
 cases (decide (40 < (c.Mats.length : Int)) || (decide (512 < (c.Legs.length : Int)) || (decide (8 < (c.Distances.length : Int)) || (decide (32 < (c.Waves.length : Int)) || (decide (32 < (c.Offences.length : Int)) || (decide (32 < (c.Categories.length : Int)) || decide (32 < (c.Prizes.length : Int)))))))) with
 | true => exact Qb _
 | false =>
  rw [Bool.not_false, Bool.true_and]
  refine Qal (Ev.bind (Qcs c.Distances (fun d => !decide (64 < (d.Cutoffs.length : Int))) (Ctl.done false) (Ctl.cont ()) (by have := w.dist; omega) (fun i x ha => ?_) ?_) ?_)
  ·obtain ⟨f1, f2, f3⟩ := k.dist x ha.mem
   unfold F_ef
   simp only [ha.lt, cond_true, ha.ix, Option.bind_some, ha.nx]
   refine Ev.bind (Qi5 _ x.Route 17 (Nat.le_refl _) (by omega) (Nat.le_refl _) (by omega) (q.wf x ha.mem)) ?_
   refine Ev.bind (Ev.or fun _ => Ev.or fun _ => Qb _) ?_
   simp only [Yg (show ¬ (16 : Int) < (hPs x.Route : Int) by omega), Yg (show ¬ (256 : Int) < (szPs x.Route : Int) by omega), Bool.or_false]
   cases decide (64 < (x.Cutoffs.length : Int)) <;> exact Qb _
  ·unfold F_ef
   simp only [Qa8, cond_false]
   exact Qb _
  ·cases (c.Distances.all fun d => !decide (64 < (d.Cutoffs.length : Int))) <;> exact Qb _
def courseE (c : Course) : Int :=
 bif fitsS c then bif namesS c then bif numbersS c then bif tiesE c.Ties == 0 then bif c.Distances.all (routeS c) then 0 else 72 else tiesE c.Ties else 71 else 70 else 2
theorem Qhu (c : Course) (w : CourseOk c) (q : PartsOk c) (k : FewOk c) (hl : c.Ties.length ≤ 1048576) (hw : ∀ x ∈ c.Ties, Step.wf x) : Ev (fun n => F_v n c) (courseE c) := by
 unfold F_v courseE
 refine Ev.bind (QkL c w q k) ?_
 cases fitsS c with
 | false => exact Qb _
 | true =>
 refine Qal (Ev.bind (Qi2 c w) ?_)
 cases namesS c with
 | false => exact Qb _
 | true =>
 refine Qal (Ev.bind (Qf7 c w q) ?_)
 cases hn : numbersS c with
 | false => exact Qb _
 | true =>
 refine Qal (Ev.bind (QkM c.Ties hl hw) ?_)
 rw [bne]
 cases (tiesE c.Ties == 0) with
 | false => exact Qb _
 | true =>
 have hs : Ev (fun n => iter (F_fe n c) n ([], 0)) (msetAll legKey true c.Legs) := by
  refine Qar c.Legs legKey true (by have := w.legs; omega) (fun i x m ha => ?_) (fun m => ?_)
  ·unfold F_fe
   simp only [ha.lt, cond_true, ha.ix, Option.bind_some, ha.nx]
   exact Qb _
  ·unfold F_fe
   simp only [Qa8, cond_false]
   exact Qb _
 refine Qal (Ev.bind hs ?_)
 have ha : Ev (fun n => F_ch n c.Distances c (msetAll legKey true c.Legs)) (c.Distances.all (routeS c)) := by
  unfold F_ch F_di F_et
  refine Yu c.Distances _ (fun n x => F_bk n x c (msetAll legKey true c.Legs)) (by have := w.dist; omega) fun x hx => ?_
  unfold F_bk
  exact Ev.bind (Qf8 c w (Qjp hn) x hx (q.wf x hx) (by have := (k.dist x hx).2.1; omega)) (Qb _)
 refine Ev.bind ha ?_
 cases c.Distances.all (routeS c) <;> exact Qb _
theorem Qgz {α : Type} (l : List α) {a b : Nat} (h : a ≤ b) (hb : b ≤ l.length) : slc l (a : Int) (b : Int) = some ((l.take b).drop a) := by
 unfold slc
 rw [Yk (show (0 : Int) ≤ (a : Int) by omega), Yk (show (a : Int) ≤ (b : Int) by omega), Yk (show (b : Int) ≤ (l.length : Int) by omega)]
 simp
theorem Qld {α : Type} (l : List α) {b : Nat} (hb : b ≤ l.length) : slc l 0 (b : Int) = some (l.take b) := by
 have := Qgz l (Nat.zero_le b) hb
 simpa using this
theorem QhY {α : Type} (l : List α) {a : Nat} (hb : a ≤ l.length) : slc l (a : Int) (l.length : Int) = some (l.drop a) := by
 have := Qgz l hb (Nat.le_refl _)
 simpa using this
def firstI {α : Type} (q : α → Bool) : List α → Nat → Int
 | [], _ => -1
 | x :: l, i => bif q x then (i : Int) else firstI q l (i + 1)
theorem Ev.first {α : Type} {step : Nat → Int → Option (Ctl Int (Ctl Unit Int))} (l : List α) (q : α → Bool) (hl : l.length ≤ 4611686018427387904)
  (hs : ∀ i x, At l i x → Ev (fun n => step n (i : Int)) (bif q x then .done (.done (i : Int)) else .cont ((i + 1 : Nat) : Int))) (hd : Ev (fun n => step n (l.length : Int)) (.done (.cont ()))) :
  Ev (fun n => (Go.Sw.iter (step n) n 0).bind fun b => match b with | .cont _ => some (-1) | .done v => some v) (firstI q l 0) := by
 have loop : ∀ (r : List α) (i : Nat), l.drop i = r → i ≤ l.length → ∃ res : Ctl Unit Int, EvI step (i : Int) res ∧ (match res with | .cont _ => some (-1) | .done v => some v) = some (firstI q r i) := by
  intro r
  induction r with
  | nil =>
   intro i hr hi
   have : i = l.length := by have := List.drop_eq_nil_iff.1 hr; omega
   subst this
   exact ⟨.cont (), EvI.done hd, rfl⟩
  | cons x r ih =>
   intro i hr hi
   obtain ⟨ha, hr'⟩ := QE hl hr
   have s := hs i x ha
   unfold firstI
   cases h : q x with
   | true =>
    rw [h] at s
    exact ⟨_, EvI.done s, rfl⟩
   | false =>
    rw [h] at s
    obtain ⟨res, p1, p2⟩ := ih (i + 1) hr' (by have := ha.lt'; omega)
    exact ⟨res, EvI.cont s p1, p2⟩
 obtain ⟨res, p1, p2⟩ := loop l 0 rfl (Nat.zero_le _)
 exact Ev.bind p1.ev (Ev.const p2)
theorem Qht : ∀ (k : Nat) (l : List Part), k ≤ 17 → szPs l ≤ 256 → (∀ x ∈ l, Part.wf x) → ∃ s : Nat, s ≤ szPs l ∧ Ev (fun n => F_c n l (k : Int)) (((min (hPs l) k : Nat) : Int), (s : Int)) := by
 intro k
 induction k using Nat.strongRecOn with
 | _ k ih =>
 intro l hk17 hs256 hw
 have hlen := Qag l
 have loop : ∀ (r : List Part) (i a b : Nat), l.drop i = r → i ≤ l.length → a ≤ 17 → b + (szPs r - r.length) ≤ 256 → ∃ s : Nat, s ≤ b + (szPs r - r.length) ∧ EvI (fun n => F_y n l (k : Int) (F_c n)) ((a : Int), (b : Int), (i : Int)) (((max a (min (hPs r) k) : Nat) : Int), (s : Int)) := by
  intro r
  induction r with
  | nil =>
   intro i a b hr hi _ _
   refine ⟨b, by omega, EvI.done ?_⟩
   unfold F_y
   simp only [Q5 hr hi, cond_false, Option.bind_some]
   refine (Qb _).eq ?_
   simp [hPs]
  | cons p r ihr =>
   intro i a b hr hi ha0 hb0
   obtain ⟨ha, hr'⟩ := QE (by omega) hr
   obtain ⟨w1, w2⟩ := Ys (hw p ha.mem)
   have hs := QaN ha.mem
   rw [Qaa] at hs
   have hr2 := Qag r
   rw [szPs, Qaa, List.length_cons] at hb0 ⊢
   have step : ∃ t : Nat, t ≤ szPs p.Parts ∧ Ev (fun n => F_y n l (k : Int) (F_c n) ((a : Int), (b : Int), (i : Int))) (.cont (((max a (min (hP p) k) : Nat) : Int), ((b + t : Nat) : Int), ((i + 1 : Nat) : Int))) := by
    unfold F_y
    simp only [ha.lt, cond_true, ha.ix, Option.bind_some, ha.nx, Qe5]
    rw [Qk4]
    cases hp : p.Parts.isEmpty with
    | true =>
     refine ⟨0, Nat.zero_le _, ?_⟩
     simp only [cond_true, Option.bind_some, Nat.zero_min, Nat.max_zero, Nat.add_zero]
     exact Qb _
    | false =>
     simp only [cond_false]
     by_cases hk0 : k = 0
     ·subst hk0
      refine ⟨0, Nat.zero_le _, ?_⟩
      simp only [Nat.min_zero, Nat.max_zero, Nat.add_zero]
      exact Qb _
     ·obtain ⟨t, ht, p1⟩ := ih (k - 1) (by omega) p.Parts (by omega) (by omega) w2
      refine ⟨t, ht, ?_⟩
      have e1 : IntKind.i64.wrap ((k : Int) - 1) = ((k - 1 : Nat) : Int) := by rw [Q2 (by omega) (by omega)]; omega
      have e2 : ((k : Int) == 0) = false := beq_false_of_ne (by omega)
      rw [e2, Yg (show ¬ (256 : Int) < (b : Int) by omega), e1]
      simp only [cond_false, Option.bind_some]
      refine Ev.bind (Ev.bind p1 (Qb _)) ((Qb _).eq ?_)
      have e3 : IntKind.i64.wrap (((min (hPs p.Parts) (k - 1) : Nat) : Int) + 1) = ((min (hPs p.Parts) (k - 1) + 1 : Nat) : Int) := QaK (by omega)
      have e4 : IntKind.i64.wrap ((b : Int) + (t : Int)) = ((b + t : Nat) : Int) := by rw [Q2 (by omega) (by omega)]; omega
      simp only [e3, e4]
      congr 2
      split <;> omega
   obtain ⟨t, ht, p1⟩ := step
   obtain ⟨s, hs', p2⟩ := ihr (i + 1) (max a (min (hP p) k)) (b + t) hr' (by have := ha.lt'; omega) (by omega) (by omega)
   refine ⟨s, by omega, (EvI.cont p1 p2).eq ?_⟩
   rw [hPs]
   congr 1
   omega
 obtain ⟨s, hs, p⟩ := loop l 0 0 l.length rfl (Nat.zero_le _) (by omega) (by omega)
 refine ⟨s, by omega, Ye ?_⟩
 show Ev (fun n => B_c (F_c n) n l (k : Int)) _
 unfold B_c
 refine Ev.bind p.ev ((Qb _).eq ?_)
 rw [Nat.zero_max]
structure FewL (c : Course) : Prop where
 lens : lensC c ≤ 200
 name : c.Name.length ≤ 100
 dist : ∀ d ∈ c.Distances, d.Cutoffs.length ≤ 12 ∧ szPs d.Route ≤ 24
 ties : c.Ties.length ≤ 200
def fitsG (c : Course) : Bool :=
 !(decide (40 < (c.Mats.length : Int)) || (decide (512 < (c.Legs.length : Int)) || (decide (8 < (c.Distances.length : Int)) || (decide (32 < (c.Waves.length : Int)) || (decide (32 < (c.Offences.length : Int)) || (decide (32 < (c.Categories.length : Int)) || decide (32 < (c.Prizes.length : Int))))))))
  && c.Distances.all fun d => !(decide (64 < (d.Cutoffs.length : Int)) || decide (16 < hPs d.Route))
theorem Qi3 (c : Course) (w : CourseOk c) (q : PartsOk c) (k : FewL c) : Ev (fun n => F_ac n c) (fitsG c) := by
 unfold F_ac fitsG
 refine Ev.bind (Ev.or fun _ => Ev.or fun _ => Ev.or fun _ => Ev.or fun _ => Ev.or fun _ => Ev.or fun _ => Qb _) ?_
 cases (decide (40 < (c.Mats.length : Int)) || (decide (512 < (c.Legs.length : Int)) || (decide (8 < (c.Distances.length : Int)) || (decide (32 < (c.Waves.length : Int)) || (decide (32 < (c.Offences.length : Int)) || (decide (32 < (c.Categories.length : Int)) || decide (32 < (c.Prizes.length : Int)))))))) with
 | true => exact Qb _
 | false =>
  rw [Bool.not_false, Bool.true_and]
  refine Qal (Ev.bind (Qcs c.Distances (fun d => !(decide (64 < (d.Cutoffs.length : Int)) || decide (16 < hPs d.Route))) (Ctl.done false) (Ctl.cont ()) (by have := w.dist; omega) (fun i x ha => ?_) ?_) ?_)
  ·obtain ⟨f1, f2⟩ := k.dist x ha.mem
   unfold F_ef
   simp only [ha.lt, cond_true, ha.ix, Option.bind_some, ha.nx]
   obtain ⟨s, hs, p⟩ := Qht 17 x.Route (Nat.le_refl _) (by omega) (q.wf x ha.mem)
   refine Ev.bind p ?_
   refine Ev.bind (Ev.or fun _ => Ev.or fun _ => Qb _) ?_
   simp only [Yg (show ¬ (256 : Int) < (s : Int) by omega), Bool.or_false]
   have e : decide ((16 : Int) < ((min (hPs x.Route) 17 : Nat) : Int)) = decide (16 < hPs x.Route) := by
    rw [decide_eq_decide]; omega
   rw [e]
   cases (decide (64 < (x.Cutoffs.length : Int)) || decide (16 < hPs x.Route)) <;> exact Qb _
  ·unfold F_ef
   simp only [Qa8, cond_false]
   exact Qb _
  ·cases c.Distances.all (fun d => !(decide (64 < (d.Cutoffs.length : Int)) || decide (16 < hPs d.Route))) <;> exact Qb _
theorem QeE (c : Course) (w : CourseOk c) (q : PartsOk c) (k : FewL c) (hl : c.Ties.length ≤ 1048576) (hw : ∀ x ∈ c.Ties, Step.wf x) : ∃ e, Ev (fun n => F_v n c) e := by
 by_cases hh : ∀ d ∈ c.Distances, hPs d.Route ≤ 16
 ·exact ⟨_, Qhu c w q ⟨k.lens, k.name, fun d hd => ⟨by have := (k.dist d hd).1; omega, by have := (k.dist d hd).2; omega, hh d hd⟩, k.ties⟩ hl hw⟩
 ·refine ⟨2, ?_⟩
  unfold F_v
  refine Ev.bind (Qi3 c w q k) ?_
  have : fitsG c = false := by
   unfold fitsG
   rw [Bool.and_eq_false_iff]
   right
   rw [List.all_eq_false]
   have := Classical.not_forall.1 hh
   obtain ⟨d, hd⟩ := this
   have hd2 : d ∈ c.Distances ∧ ¬ hPs d.Route ≤ 16 := by
    refine Classical.byContradiction fun z => hd fun hm => Classical.byContradiction fun y => z ⟨hm, y⟩
   refine ⟨d, hd2.1, ?_⟩
   have : decide (16 < hPs d.Route) = true := decide_eq_true (by omega)
   rw [this]; simp
  rw [this]; exact Qb _
theorem QfW : ∀ (k : Nat) (l : List Part), k ≤ 21 → l.length ≤ 1048576 → (∀ x ∈ l, Part.wf x) → ∃ v : Nat, v ≤ 1048576 + 500 * (k + 1) ∧ (v < 500 → szPs l ≤ v) ∧ Ev (fun n => F_i n l ((21 - k : Nat) : Int)) (v : Int) := by
 intro k
 induction k with
 | zero =>
  intro l _ hl hw
  refine ⟨500, by omega, by omega, Ye ?_⟩
  show Ev (fun n => B_i (F_i n) n l ((21 - 0 : Nat) : Int)) _
  unfold B_i
  exact Qb _
 | succ k ih =>
  intro l hk hl hw
  have loop : ∀ (r : List Part) (i a : Nat), l.drop i = r → i ≤ l.length → a ≤ 1048576 + 500 * (k + 1 + 1) → ∃ v : Nat, v ≤ 1048576 + 500 * (k + 1 + 1) ∧ a ≤ v ∧ (v < 500 → a + (szPs r - r.length) ≤ v) ∧ EvI (fun n => F_dg n l ((21 - (k + 1) : Nat) : Int) (F_i n)) ((a : Int), (i : Int)) (v : Int) := by
   intro r
   induction r with
   | nil =>
    intro i a hr hi hb
    refine ⟨a, hb, Nat.le_refl _, fun _ => by simp [szPs], EvI.done ?_⟩
    unfold F_dg
    simp only [Q5 hr hi, cond_false, Option.bind_some]
    exact Qb _
   | cons p r ihr =>
    intro i a hr hi hb
    obtain ⟨ha, hr'⟩ := QE (by omega) hr
    obtain ⟨w1, w2⟩ := Ys (hw p ha.mem)
    by_cases h5 : a < 500
    ·obtain ⟨u, u1, u2, u3⟩ := ih p.Parts (by omega) w1 w2
     have e1 : IntKind.i64.wrap (((21 - (k + 1) : Nat) : Int) + 1) = ((21 - k : Nat) : Int) := by rw [Q2 (by omega) (by omega)]; omega
     have e2 : IntKind.i64.wrap ((a : Int) + (u : Int)) = ((a + u : Nat) : Int) := by rw [Q2 (by omega) (by omega)]; omega
     obtain ⟨v, v1, v2, v3, v4⟩ := ihr (i + 1) (a + u) hr' (by have := ha.lt'; omega) (by omega)
     refine ⟨v, v1, by omega, fun hv => ?_, EvI.cont ?_ v4⟩
     ·have := v3 hv
      have := u2 (by omega)
      have := Qag r
      rw [szPs, Qaa, List.length_cons]
      omega
     ·unfold F_dg
      simp only [ha.lt, cond_true, ha.ix, Option.bind_some, ha.nx, Yk (show (a : Int) < 500 by omega), e1]
      refine Ev.bind u3 ?_
      rw [e2]; exact Qb _
    ·refine ⟨a, hb, Nat.le_refl _, fun hv => absurd hv h5, EvI.done ?_⟩
     unfold F_dg
     simp only [ha.lt, cond_true, Option.bind_some, Yg (show ¬ (a : Int) < 500 by omega), cond_false]
     exact Qb _
  obtain ⟨v, v1, v2, v3, v4⟩ := loop l 0 l.length rfl (Nat.zero_le _) (Nat.le_trans hl (Nat.le_add_right _ _))
  have := Qag l
  refine ⟨v, v1, fun hv => by have := v3 hv; omega, Ye ?_⟩
  show Ev (fun n => B_i (F_i n) n l ((21 - (k + 1) : Nat) : Int)) _
  unfold B_i
  rw [Yg (show ¬ (20 : Int) < ((21 - (k + 1) : Nat) : Int) by omega)]
  exact Qal (Ev.bind v4.ev (Qb _))
theorem QfC : ∀ (k : Nat) (l : List Cond), k ≤ 21 → l.length ≤ 1048576 → (∀ x ∈ l, Cond.wf x) → ∃ v : Nat, v ≤ 1048576 + 500 * (k + 1) ∧ Ev (fun n => F_g n l ((21 - k : Nat) : Int)) (v : Int) := by
 intro k
 induction k with
 | zero =>
  intro l _ hl hw
  refine ⟨500, by omega, Ye ?_⟩
  show Ev (fun n => B_g (F_g n) n l ((21 - 0 : Nat) : Int)) _
  unfold B_g
  exact Qb _
 | succ k ih =>
  intro l hk hl hw
  have loop : ∀ (r : List Cond) (i a : Nat), l.drop i = r → i ≤ l.length → a ≤ 1048576 + 500 * (k + 1 + 1) → ∃ v : Nat, v ≤ 1048576 + 500 * (k + 1 + 1) ∧ EvI (fun n => F_dz n l ((21 - (k + 1) : Nat) : Int) (F_g n)) ((a : Int), (i : Int)) (v : Int) := by
   intro r
   induction r with
   | nil =>
    intro i a hr hi hb
    refine ⟨a, hb, EvI.done ?_⟩
    unfold F_dz
    simp only [Q5 hr hi, cond_false, Option.bind_some]
    exact Qb _
   | cons p r ihr =>
    intro i a hr hi hb
    obtain ⟨ha, hr'⟩ := QE (by omega) hr
    have hwp := Qaf (hw p ha.mem)
    by_cases h5 : a < 500
    ·obtain ⟨u, u1, u3⟩ := ih p.Parts (by omega) hwp.1 hwp.2
     have e1 : IntKind.i64.wrap (((21 - (k + 1) : Nat) : Int) + 1) = ((21 - k : Nat) : Int) := by rw [Q2 (by omega) (by omega)]; omega
     have e2 : IntKind.i64.wrap ((a : Int) + (u : Int)) = ((a + u : Nat) : Int) := by rw [Q2 (by omega) (by omega)]; omega
     obtain ⟨v, v1, v4⟩ := ihr (i + 1) (a + u) hr' (by have := ha.lt'; omega) (by omega)
     refine ⟨v, v1, EvI.cont ?_ v4⟩
     unfold F_dz
     simp only [ha.lt, cond_true, ha.ix, Option.bind_some, ha.nx, Yk (show (a : Int) < 500 by omega), e1]
     refine Ev.bind u3 ?_
     rw [e2]; exact Qb _
    ·refine ⟨a, hb, EvI.done ?_⟩
     unfold F_dz
     simp only [ha.lt, cond_true, Option.bind_some, Yg (show ¬ (a : Int) < 500 by omega), cond_false]
     exact Qb _
  obtain ⟨v, v1, v4⟩ := loop l 0 l.length rfl (Nat.zero_le _) (Nat.le_trans hl (Nat.le_add_right _ _))
  refine ⟨v, v1, Ye ?_⟩
  show Ev (fun n => B_g (F_g n) n l ((21 - (k + 1) : Nat) : Int)) _
  unfold B_g
  rw [Yg (show ¬ (20 : Int) < ((21 - (k + 1) : Nat) : Int) by omega)]
  exact Qal (Ev.bind v4.ev (Qb _))
def Cs : Nat → Nat
 | 0 => 500
 | k + 1 => 4194304 + 2 * Cs k
theorem Qk9 : ∀ k, k < 22 → Cs k ≤ 1125899906842624 := by decide
theorem QeS : ∀ (k : Nat) (l : List Step), k ≤ 21 → l.length ≤ 1048576 → (∀ x ∈ l, Step.wf x) → ∃ v : Nat, v ≤ Cs k ∧ (v < 500 → l.length ≤ v) ∧ Ev (fun n => F_h n l ((21 - k : Nat) : Int)) (v : Int) := by
 intro k
 induction k with
 | zero =>
  intro l _ hl hw
  refine ⟨500, Nat.le_refl _, by omega, Ye ?_⟩
  show Ev (fun n => B_h (F_h n) n l ((21 - 0 : Nat) : Int)) _
  unfold B_h
  exact Qb _
 | succ k ih =>
  intro l hk hl hw
  have hc1 := Qk9 k (by omega)
  have hc2 := Qk9 (k + 1) (by omega)
  have hce : Cs (k + 1) = 4194304 + 2 * Cs k := rfl
  have loop : ∀ (r : List Step) (i a : Nat), l.drop i = r → i ≤ l.length → a ≤ Cs (k + 1) → ∃ v : Nat, v ≤ Cs (k + 1) ∧ a ≤ v ∧ EvI (fun n => F_eb n l ((21 - (k + 1) : Nat) : Int) (F_h n)) ((a : Int), (i : Int)) (v : Int) := by
   intro r
   induction r with
   | nil =>
    intro i a hr hi hb
    refine ⟨a, hb, Nat.le_refl _, EvI.done ?_⟩
    unfold F_eb
    simp only [Q5 hr hi, cond_false, Option.bind_some]
    exact Qb _
   | cons p r ihr =>
    intro i a hr hi hb
    obtain ⟨ha, hr'⟩ := QE (by omega) hr
    obtain ⟨wc, wt, we⟩ := Qae (hw p ha.mem)
    by_cases h5 : a < 500
    ·obtain ⟨u, u1, u3⟩ := QfC 21 [p.Cond] (Nat.le_refl _) (by simp) (by simpa using wc)
     obtain ⟨x, x1, _, x3⟩ := ih p.Then (by omega) wt.1 wt.2
     obtain ⟨y, y1, _, y3⟩ := ih p.Else (by omega) we.1 we.2
     have e1 : IntKind.i64.wrap (((21 - (k + 1) : Nat) : Int) + 1) = ((21 - k : Nat) : Int) := by rw [Q2 (by omega) (by omega)]; omega
     have e2 : IntKind.i64.wrap ((a : Int) + (u : Int)) = ((a + u : Nat) : Int) := by rw [Q2 (by omega) (by omega)]; omega
     have e3 : IntKind.i64.wrap (((a + u : Nat) : Int) + (x : Int)) = ((a + u + x : Nat) : Int) := by rw [Q2 (by omega) (by omega)]; omega
     have e4 : IntKind.i64.wrap (((a + u + x : Nat) : Int) + (y : Int)) = ((a + u + x + y : Nat) : Int) := by rw [Q2 (by omega) (by omega)]; omega
     obtain ⟨v, v1, v2, v4⟩ := ihr (i + 1) (a + u + x + y) hr' (by have := ha.lt'; omega) (by omega)
     refine ⟨v, v1, by omega, EvI.cont ?_ v4⟩
     unfold F_eb
     simp only [ha.lt, cond_true, ha.ix, Option.bind_some, ha.nx, Yk (show (a : Int) < 500 by omega), e1]
     refine Ev.bind u3 (Ev.bind x3 (Ev.bind y3 ?_))
     rw [e2, e3, e4]; exact Qb _
    ·refine ⟨a, hb, Nat.le_refl _, EvI.done ?_⟩
     unfold F_eb
     simp only [ha.lt, cond_true, Option.bind_some, Yg (show ¬ (a : Int) < 500 by omega), cond_false]
     exact Qb _
  obtain ⟨v, v1, v2, v4⟩ := loop l 0 l.length rfl (Nat.zero_le _) (by omega)
  refine ⟨v, v1, fun _ => v2, Ye ?_⟩
  show Ev (fun n => B_h (F_h n) n l ((21 - (k + 1) : Nat) : Int)) _
  unfold B_h
  rw [Yg (show ¬ (20 : Int) < ((21 - (k + 1) : Nat) : Int) by omega)]
  exact Qal (Ev.bind v4.ev (Qb _))
theorem Qhq (c : Course) (w : CourseOk c) (q : PartsOk c) (hl : c.Ties.length ≤ 1048576) (hw : ∀ x ∈ c.Ties, Step.wf x) : ∃ b, Ev (fun n => F_x n c) b ∧ (b = true → FewL c) := by
 have hd := w.dist
 have hm := w.mats
 have loop : ∀ (r : List Distance) (i : Nat), c.Distances.drop i = r → i ≤ c.Distances.length → ∃ res : Ctl Unit Bool, EvI (fun n => F_cy n c) (i : Int) res ∧ (res = .done false ∨ (res = .cont () ∧ ∀ d ∈ r, d.Cutoffs.length ≤ 12 ∧ szPs d.Route ≤ 24)) := by
  intro r
  induction r with
  | nil =>
   intro i hr hi
   refine ⟨.cont (), EvI.done ?_, .inr ⟨rfl, fun d h => by cases h⟩⟩
   unfold F_cy
   simp only [Q5 hr hi, cond_false]
   exact Qb _
  | cons d r ihr =>
   intro i hr hi
   obtain ⟨ha, hr'⟩ := QE (by omega) hr
   obtain ⟨v, v1, v2, v3⟩ := QfW 21 d.Route (Nat.le_refl _) (q.len d ha.mem) (q.wf d ha.mem)
   have step : Ev (fun n => F_cy n c (i : Int)) (bif (decide ((24 : Int) < (v : Int)) || (decide (12 < (d.Cutoffs.length : Int)) || decide (60 < (d.Name.length : Int)))) then .done (.done false) else .cont ((i + 1 : Nat) : Int)) := by
    unfold F_cy
    simp only [ha.lt, cond_true, ha.ix, Option.bind_some, ha.nx]
    refine Ev.bind (v := decide ((24 : Int) < (v : Int)) || (decide (12 < (d.Cutoffs.length : Int)) || decide (60 < (d.Name.length : Int)))) (Ev.bind v3 (Ev.or fun _ => Ev.or fun _ => Qb _)) ?_
    cases (decide ((24 : Int) < (v : Int)) || (decide (12 < (d.Cutoffs.length : Int)) || decide (60 < (d.Name.length : Int)))) <;> exact Qb _
   cases hb : (decide ((24 : Int) < (v : Int)) || (decide (12 < (d.Cutoffs.length : Int)) || decide (60 < (d.Name.length : Int)))) with
   | true =>
    rw [hb] at step
    exact ⟨.done false, EvI.done step, .inl rfl⟩
   | false =>
    rw [hb] at step
    obtain ⟨res, p1, p2⟩ := ihr (i + 1) hr' (by have := ha.lt'; omega)
    refine ⟨res, EvI.cont step p1, ?_⟩
    rcases p2 with p2 | ⟨p2, p3⟩
    ·exact .inl p2
    ·refine .inr ⟨p2, fun x hx => ?_⟩
     rcases List.mem_cons.1 hx with rfl | hx
     ·simp only [Bool.or_eq_false_iff, decide_eq_false_iff_not] at hb
      have := v2 (by omega)
      exact ⟨by omega, by omega⟩
     ·exact p3 x hx
 obtain ⟨res, p1, p2⟩ := loop c.Distances 0 rfl (Nat.zero_le _)
 rcases p2 with rfl | ⟨rfl, p3⟩
 ·refine ⟨false, ?_, fun h => by cases h⟩
  unfold F_x
  exact Ev.bind p1.ev (Qb _)
 ·have l2 : ∃ res : Ctl Unit Bool, Ev (fun n => iter (F_fk n c) n (0 : Int)) res ∧ (res = .done false ∨ res = .cont ()) := by
   refine ⟨_, Qcs c.Mats (fun m => !decide (60 < (m.Name.length : Int))) (Ctl.done false) (Ctl.cont ()) (by omega) (fun i x ha => ?_) ?_, ?_⟩
   ·unfold F_fk
    simp only [ha.lt, cond_true, ha.ix, Option.bind_some, ha.nx]
    cases decide (60 < (x.Name.length : Int)) <;> exact Qb _
   ·unfold F_fk
    simp only [Qa8, cond_false]
    exact Qb _
   ·cases c.Mats.all (fun m => !decide (60 < (m.Name.length : Int))) with
    | true => exact .inr rfl
    | false => exact .inl rfl
  obtain ⟨res2, q1, q2⟩ := l2
  rcases q2 with rfl | rfl
  ·refine ⟨false, ?_, fun h => by cases h⟩
   unfold F_x
   exact Ev.bind p1.ev (Ev.bind q1 (Qb _))
  ·obtain ⟨v, v1, v2, v3⟩ := QeS 21 c.Ties (Nat.le_refl _) hl hw
   cases hb : (decide (12 < (c.Mats.length : Int)) || (decide (30 < (c.Legs.length : Int)) || (decide (4 < (c.Distances.length : Int)) || (decide (6 < (c.Waves.length : Int)) || (decide (6 < (c.Offences.length : Int)) || (decide (6 < (c.Categories.length : Int)) || (decide (6 < (c.Prizes.length : Int)) || decide (60 < (c.Name.length : Int))))))))) with
   | true =>
    refine ⟨false, ?_, fun h => by cases h⟩
    unfold F_x
    refine Ev.bind p1.ev (Ev.bind q1 (Ev.bind (v := true) (Ev.eq (Ev.or fun _ => Ev.or fun _ => Ev.or fun _ => Ev.or fun _ => Ev.or fun _ => Ev.or fun _ => Ev.or fun _ => Qb _) hb) (Qb _)))
   | false =>
    refine ⟨decide ((v : Int) ≤ 100), ?_, fun h => ?_⟩
    ·unfold F_x
     refine Ev.bind p1.ev (Ev.bind q1 (Ev.bind (v := false) (Ev.eq (Ev.or fun _ => Ev.or fun _ => Ev.or fun _ => Ev.or fun _ => Ev.or fun _ => Ev.or fun _ => Ev.or fun _ => Qb _) hb) (Ev.bind v3 (Qb _))))
    ·have h := of_decide_eq_true h
     have := v2 (by omega)
     simp only [Bool.or_eq_false_iff, decide_eq_false_iff_not] at hb
     obtain ⟨b1, b2, b3, b4, b5, b6, b7, b8⟩ := hb
     exact ⟨by unfold lensC; omega, by omega, p3, by omega⟩
set_option maxRecDepth 4000
def openU (f : Fact) : U_facts_open_rxk :=
 bif f.Kind == 1 then .c0 () else bif f.Kind == 2 then .c1 () else bif f.Kind == 3 then .c2 () else bif f.Kind == 4 then .c3 () else bif f.Kind == 5 then .c4 () else bif f.Kind == 6 then .c5 ()
 else bif f.Kind == 7 then .c6 () else bif f.Kind == 8 then .c7 () else bif f.Kind == 9 then .c8 () else bif f.Kind == 10 then
  (bif (f.Ruling.Kind == 1) || (f.Ruling.Kind == 2) then .c9 (0, 0, 0, 0, 0, 0) else bif f.Ruling.Kind == 3 then .c9 (1, 9999, 0, 255, 1, 1099511627776) else bif f.Ruling.Kind == 4 then .c9 (1, 9999, 0, 255, 1, 64) else .c9 (1, 9999, 0, 255, 0, 0))
 else bif f.Kind == 11 then .c10 () else bif f.Kind == 12 then .c11 () else bif f.Kind == 13 then .c12 () else .c13 ()
theorem QgH (n : Nat) (f : Fact) (b : Int) : F_ag n f b = some (openU f) := by
 unfold F_ag openU
 cases (f.Kind == 1) with
 | true => rfl
 | false =>
 cases (f.Kind == 2) with
 | true => rfl
 | false =>
 cases (f.Kind == 3) with
 | true => rfl
 | false =>
 cases (f.Kind == 4) with
 | true => rfl
 | false =>
 cases (f.Kind == 5) with
 | true => rfl
 | false =>
 cases (f.Kind == 6) with
 | true => rfl
 | false =>
 cases (f.Kind == 7) with
 | true => rfl
 | false =>
 cases (f.Kind == 8) with
 | true => rfl
 | false =>
 cases (f.Kind == 9) with
 | true => rfl
 | false =>
 cases (f.Kind == 10) with
 | true =>
  cases (f.Ruling.Kind == 1) with
  | true => rfl
  | false =>
  cases (f.Ruling.Kind == 2) with
  | true => rfl
  | false =>
  cases (f.Ruling.Kind == 3) with
  | true => rfl
  | false =>
  cases (f.Ruling.Kind == 4) with
  | true => rfl
  | false => rfl
 | false =>
 cases (f.Kind == 11) with
 | true => rfl
 | false =>
 cases (f.Kind == 12) with
 | true => rfl
 | false =>
 cases (f.Kind == 13) with
 | true => rfl
 | false => rfl
def headL : List Ent := [⟨false, 3, 1, 13⟩, ⟨false, 0, 0, 31⟩, ⟨false, 1, 1, 1048576⟩, ⟨false, 2, 0, 1099511627776⟩]
def bodyL : U_facts_open_rxk → List Ent
 | .c0 _ => [⟨false, 4, 1, 9999⟩, ⟨false, 5, 0, 7⟩, ⟨false, 6, 0, 31⟩, ⟨false, 7, (-1099511627776), 1099511627776⟩, ⟨false, 8, 0, 120⟩, ⟨false, 9, 0, 1048576⟩, ⟨false, 10, 0, 9999⟩, ⟨false, 11, 0, 1048576⟩]
 | .c1 _ => [⟨false, 12, 0, 39⟩, ⟨false, 13, 0, 255⟩, ⟨false, 14, 0, 1048576⟩, ⟨false, 15, (-1099511627776), 1099511627776⟩]
 | .c2 _ => [⟨false, 16, 0, 39⟩, ⟨false, 17, 0, 255⟩, ⟨false, 18, (-1099511627776), 1099511627776⟩, ⟨false, 19, (-1099511627776), 1099511627776⟩, ⟨false, 20, 0, 1099511627776⟩]
 | .c3 _ => [⟨false, 21, 0, 39⟩, ⟨false, 22, 0, 255⟩, ⟨false, 23, (-1099511627776), 1099511627776⟩, ⟨false, 24, 0, 39⟩, ⟨false, 25, 0, 255⟩, ⟨false, 26, (-1099511627776), 1099511627776⟩, ⟨false, 27, (-1099511627776), 1099511627776⟩, ⟨false, 28, (-1099511627776), 1099511627776⟩]
 | .c4 _ => [⟨false, 29, 1, 9999⟩, ⟨false, 30, 0, 255⟩, ⟨false, 31, (-1099511627776), 1099511627776⟩, ⟨false, 32, (-1099511627776), 1099511627776⟩]
 | .c5 _ => [⟨false, 33, 0, 39⟩, ⟨false, 34, 0, 255⟩, ⟨false, 35, (-1099511627776), 1099511627776⟩, ⟨false, 36, (-1099511627776), 1099511627776⟩]
 | .c6 _ => [⟨false, 37, 1, 9999⟩, ⟨false, 38, 1, 9999⟩]
 | .c7 _ => [⟨false, 39, 1, 1048576⟩, ⟨false, 40, 1, 9999⟩, ⟨false, 41, 0, 31⟩, ⟨false, 42, 0, 255⟩]
 | .c8 _ => [⟨false, 43, 1, 1048576⟩, ⟨false, 44, 0, 9999⟩, ⟨false, 45, 0, 1125899906842624⟩, ⟨false, 46, 0, 1⟩]
 | .c9 x => [⟨false, 47, 1, 1048576⟩, ⟨false, 48, 1, 2⟩, ⟨false, 49, 1, 5⟩, ⟨false, 50, x.1, x.2.1⟩, ⟨false, 51, x.2.2.1, x.2.2.2.1⟩, ⟨false, 52, x.2.2.2.2.1, x.2.2.2.2.2⟩]
 | .c10 _ => [⟨false, 53, 1, 1048576⟩, ⟨true, 0, 0, 1⟩]
 | .c11 _ => []
 | .c12 _ => [⟨false, 55, 0, 31⟩, ⟨false, 56, 1, 1048576⟩]
 | .c13 _ => []
def fineU (f : Fact) : U_facts_open_rxk → Bool
 | .c3 _ => decide (f.Sync.Min ≤ f.Sync.Max)
 | .c4 _ => decide (f.Hand.Lo ≤ f.Hand.Hi)
 | .c5 _ => decide (f.Silence.Lo ≤ f.Silence.Hi)
 | .c6 _ => decide (f.Pair.A < f.Pair.B)
 | .c13 _ => false
 | _ => true
def entsS (f : Fact) : List Ent := headL ++ bodyL (openU f)
def goodE (e : Ent) : Bool := bif e.fl then e.off == 0 else decide (e.off < 57) && !(e.off == 54)
theorem Qhw (f : Fact) : ∀ e ∈ entsS f, goodE e = true := by
 have h : ∀ u : U_facts_open_rxk, (headL ++ bodyL u).all goodE = true := by intro u; cases u <;> rfl
 exact List.all_eq_true.1 (h (openU f))
theorem QdB (f : Fact) : (entsS f).length ≤ 12 := by
 have h : ∀ u : U_facts_open_rxk, (headL ++ bodyL u).length ≤ 12 := by intro u; cases u <;> exact Nat.le_of_ble_eq_true rfl
 exact h (openU f)
def isI : Option A → Bool
 | some (.int .i64 _) => true
 | _ => false
theorem QlN {x : Option A} (h : isI x = true) : ∃ v, x = some (.int .i64 v) := by
 unfold isI at h
 split at h
 ·exact ⟨_, rfl⟩
 ·cases h
theorem Qik {f : Fact} {b : Int} {e : Ent} (h : goodE e = true) : ∃ v, getE (Fact.c f) b e = some v := by
 unfold goodE at h
 unfold getE
 cases hf : e.fl with
 | true =>
  rw [hf] at h
  simp only [cond_true] at h ⊢
  rw [h]; exact ⟨b, rfl⟩
 | false =>
  rw [hf] at h
  simp only [cond_false, Bool.and_eq_true, decide_eq_true_eq, Bool.not_eq_true'] at h ⊢
  have all : (List.range 57).all (fun o => (o == 54) || isI (Fact.c f)[o]?) = true := by rfl
  have := List.all_eq_true.1 all e.off (List.mem_range.2 h.1)
  rw [h.2, Bool.false_or] at this
  obtain ⟨v, hv⟩ := QlN this
  rw [hv]; exact ⟨v, rfl⟩
theorem Qh1 {x : Fact} {s v : Int} {e : Ent} (h : goodE e = true) : ∃ q, putE Fact.put x s e v = some q := by
 unfold goodE at h
 unfold putE
 cases hf : e.fl with
 | true =>
  rw [hf] at h
  simp only [cond_true] at h ⊢
  rw [h]; exact ⟨_, rfl⟩
 | false =>
  rw [hf] at h
  simp only [cond_false, Bool.and_eq_true, decide_eq_true_eq, Bool.not_eq_true'] at h ⊢
  have all : (List.range 57).all (fun o => (o == 54) || (Fact.put x o v).isSome) = true := by rfl
  have := List.all_eq_true.1 all e.off (List.mem_range.2 h.1)
  rw [h.2, Bool.false_or] at this
  obtain ⟨y, hy⟩ := Option.isSome_iff_exists.1 this
  rw [hy]; exact ⟨_, rfl⟩
def getV (f : Fact) (b : Int) (e : Ent) : Int := (getE (Fact.c f) b e).getD 0
def putV (x : Fact) (s : Int) (e : Ent) (v : Int) : Fact × Int := (putE Fact.put x s e v).getD (x, s)
theorem Qil {f : Fact} {b : Int} {e : Ent} (h : goodE e = true) : getE (Fact.c f) b e = some (getV f b e) := by
 obtain ⟨v, hv⟩ := Qik (f := f) (b := b) h
 unfold getV
 rw [hv]; rfl
theorem Qlq {x : Fact} {s v : Int} {e : Ent} (h : goodE e = true) : putE Fact.put x s e v = some (putV x s e v) := by
 obtain ⟨q, hq⟩ := Qh1 (x := x) (s := s) (v := v) h
 unfold putV
 rw [hq]; rfl
def inE (f : Fact) (b : Int) (e : Ent) : Bool := !(decide (getV f b e < e.lo)) && !(decide (e.hi < getV f b e))
def numR (f : Fact) (b : Int) : List Ent → List Int × Fact × Int → Ctl (List Int × Fact × Int) (List Int × Bool)
 | [], a => .cont a
 | e :: r, a => bif inE f b e then numR f b r (a.1 ++ [getV f b e], putV a.2.1 a.2.2 e (getV f b e)) else .done ([], false)
theorem QeG {α : Type} (l m : List α) (h : l.length + m.length ≤ 1000) : app l m = some (l ++ m) := by
 unfold app
 have : Nat.ble (l.length + m.length) lenMax = true := Nat.ble_eq_true_of_le (Nat.le_trans h (by decide))
 rw [this]; rfl
theorem Qjy (f : Fact) (b : Int) (E : List Ent) (hE : ∀ e ∈ E, goodE e = true) (hl : E.length ≤ 12) : ∀ (r : List Ent) (i : Nat) (a : List Int × Fact × Int), E.drop i = r → i ≤ E.length → a.1.length = i →
  EvI (fun n => F_dp n f b E E) (a.1, a.2.1, a.2.2, (i : Int)) (numR f b r a) := by
 intro r
 induction r with
 | nil =>
  intro i a hr hi ha
  refine EvI.done ?_
  unfold F_dp
  simp only [Q5 hr hi, cond_false]
  exact Qb _
 | cons e r ih =>
  intro i a hr hi hal
  obtain ⟨ha, hr'⟩ := QE (by omega) hr
  have hg := hE e ha.mem
  have hlt := ha.lt'
  unfold numR
  cases hin : inE f b e with
  | true =>
   have h2 := hin
   unfold inE at h2
   simp only [Bool.and_eq_true, Bool.not_eq_true'] at h2
   refine EvI.cont ?_ (ih (i + 1) (a.1 ++ [getV f b e], putV a.2.1 a.2.2 e (getV f b e)) hr' (by omega) (by simp [hal]))
   unfold F_dp
   simp only [ha.lt, cond_true, ha.ix, Option.bind_some, ha.nx, Qil hg, h2.1, h2.2, cond_false, Qlq hg]
   rw [QeG a.1 [getV f b e] (by simp; omega)]
   exact Qb _
  | false =>
   refine EvI.done ?_
   unfold F_dp
   simp only [ha.lt, cond_true, ha.ix, Option.bind_some, Qil hg]
   unfold inE at hin
   cases h1 : decide (getV f b e < e.lo) with
   | true => exact Qb _
   | false =>
    rw [h1] at hin
    simp only [Bool.not_false, Bool.true_and, Bool.not_eq_false'] at hin
    simp only [cond_false, hin, cond_true]
    exact Qb _
def suspB (f : Fact) : Int := bif f.Appeal.Suspends then 1 else 0
def restS (f : Fact) : Fact := { z_Fact with Ruling := { z_Ruling with Kind := f.Ruling.Kind : Ruling }, Kind := f.Kind : Fact }
def lastF (f x : Fact) (s : Int) : Fact :=
 let y : Fact := bif f.Kind != 10 then { x with Ruling := { x.Ruling with Kind := 0 : Ruling } : Fact } else x
 { y with Appeal := { Case := y.Appeal.Case, Suspends := s == 1 : Appeal } : Fact }
def numF (f : Fact) : List Int × Bool := bif fineU f (openU f) then (match numR f (suspB f) (entsS f) ([], restS f, 0) with
  | .cont a => (a.1, lastF f a.2.1 a.2.2 == f)
  | .done r => r) else ([], false)
theorem Qhz (n : Nat) (f : Fact) : F_ay n ({ z_Fact with Ruling := { z_Ruling with Kind := f.Ruling.Kind : Ruling } : Fact }) 0 f = some (entsS f) := by
 have hu : openU ({ ({ z_Fact with Ruling := { z_Ruling with Kind := f.Ruling.Kind : Ruling } : Fact }) with Kind := f.Kind : Fact }) = openU f := rfl
 unfold F_ay entsS
 rw [QgH]
 simp only [Option.bind_some]
 rw [hu]
 unfold F_aa
 generalize openU f = u
 cases u <;> (simp only [Option.bind_some]; unfold bodyL; exact congrArg (Option.bind · _) (QeG _ _ (by simp)))
theorem QgX (f : Fact) : Ev (fun n => F_ae n f) (numF f) := by
 unfold F_ae
 refine Ev.bind (v := suspB f) ?_ ?_
 ·unfold suspB
  cases f.Appeal.Suspends <;> exact Qb _
 refine Ev.bind (v := bif fineU f (openU f) then .cont (bodyL (openU f)) else .done ([], false)) ?_ ?_
 ·simp only [QgH, Option.bind_some]
  unfold F_b F_eq F_dt F_du F_dr
  generalize openU f = u
  cases u with
  | c3 => unfold fineU; cases decide (f.Sync.Min ≤ f.Sync.Max) <;> exact Qb _
  | c4 => unfold fineU; cases decide (f.Hand.Lo ≤ f.Hand.Hi) <;> exact Qb _
  | c5 => unfold fineU; cases decide (f.Silence.Lo ≤ f.Silence.Hi) <;> exact Qb _
  | c6 => unfold fineU; cases decide (f.Pair.A < f.Pair.B) <;> exact Qb _
  | _ => exact Qb _
 unfold numF
 cases fineU f (openU f) with
 | false => exact Qb _
 | true =>
  simp only [cond_true]
  have e : app headL (bodyL (openU f)) = some (entsS f) := QeG _ _ (by have := QdB f; unfold entsS at this; rw [List.length_append] at this; omega)
  unfold F_aa
  simp only [Option.bind_some]
  refine Ev.bind (Ev.const e) ?_
  refine Ev.bind (Ev.const (Qhz 0 f)) ?_
  refine Ev.bind (Qjy f (suspB f) (entsS f) (Qhw f) (QdB f) (entsS f) 0 ([], restS f, 0) rfl (Nat.zero_le _) rfl).ev ?_
  cases numR f (suspB f) (entsS f) ([], restS f, 0) with
  | done r => exact Qb _
  | cont a =>
   simp only
   refine Ev.bind (v := bif f.Kind != 10 then { a.2.1 with Ruling := { a.2.1.Ruling with Kind := 0 : Ruling } : Fact } else a.2.1) ?_ (Qb _)
   cases (f.Kind != 10) <;> exact Qb _
def validS (f : Fact) : Bool := (numF f).2
theorem Qby (f : Fact) : Ev (fun n => F_z n f) (bif validS f then 0 else 120) := by
 unfold F_z
 refine Ev.bind (QgX f) ?_
 unfold validS
 cases (numF f).2 <;> exact Qb _
theorem QfS {f : Fact} (h : validS f = true) : (f.Kind == 0) = false := by
 cases q : (f.Kind == 0) with
 | false => rfl
 | true =>
  have hk : f.Kind = 0 := by simpa using q
  have hu : openU f = .c13 () := by unfold openU; rw [hk]; rfl
  unfold validS numF at h
  rw [hu] at h
  cases h
set_option maxRecDepth 4000
def numN (v : Nat) : List Int := if h : 128 ≤ v then orI .u8 (IntKind.u8.wrap (v : Int)) 128 :: numN (v / 128) else [IntKind.u8.wrap (v : Int)]
termination_by v
decreasing_by omega
theorem Qdb {v : Nat} (h : 128 ≤ v) : numN v = orI .u8 (IntKind.u8.wrap (v : Int)) 128 :: numN (v / 128) := by
 rw [numN, dif_pos h]
theorem Qav {v : Nat} (h : ¬ 128 ≤ v) : numN v = [IntKind.u8.wrap (v : Int)] := by
 rw [numN, dif_neg h]
theorem shr7 (v : Nat) : shrI .u64 (v : Int) 7 = ((v / 128 : Nat) : Int) := by
 show Int.fdiv (v : Int) (2 ^ 7) = _
 rw [Int.fdiv_eq_ediv_of_nonneg _ (by decide)]
 omega
theorem Qh8 : ∀ (k v : Nat), v < 128 ^ (k + 1) → (numN v).length ≤ k + 1 := by
 intro k
 induction k with
 | zero =>
  intro v hv
  rw [Qav (by omega)]
  simp
 | succ k ih =>
  intro v hv
  by_cases h : 128 ≤ v
  ·rw [Qdb h, List.length_cons]
   have := ih (v / 128) (by rw [Nat.div_lt_iff_lt_mul (by decide)]; rw [Nat.pow_succ] at hv; exact hv)
   omega
  ·rw [Qav h]; simp
theorem Qes : ∀ (k v : Nat) (l : List Int), v < 128 ^ (k + 1) → l.length + k < 4294967296 → ∃ (l' : List Int) (v' : Nat), EvI (fun n => F_cv n) (l, (v : Int)) (l', (v' : Int)) ∧ l' ++ [IntKind.u8.wrap (v' : Int)] = l ++ numN v ∧ l'.length ≤ l.length + k := by
 intro k
 induction k with
 | zero =>
  intro v l hv hl
  refine ⟨l, v, EvI.done ?_, by rw [Qav (by omega)], Nat.le_refl _⟩
  unfold F_cv
  simp only [Yg (show ¬ (128 : Int) ≤ (v : Int) by omega), cond_false]
  exact Qb _
 | succ k ih =>
  intro v l hv hl
  by_cases h : 128 ≤ v
  ·obtain ⟨l', v', p1, p2, p3⟩ := ih (v / 128) (l ++ [orI .u8 (IntKind.u8.wrap (v : Int)) 128]) (by rw [Nat.div_lt_iff_lt_mul (by decide)]; rw [Nat.pow_succ] at hv; exact hv) (by simp; omega)
   refine ⟨l', v', EvI.cont ?_ p1, ?_, ?_⟩
   ·unfold F_cv
    simp only [Yk (show (128 : Int) ≤ (v : Int) by omega), cond_true, shr7]
    rw [Qa1 l _ (by omega)]
    exact Qb _
   ·rw [p2, Qdb h]; simp
   ·simp at p3; omega
  ·refine ⟨l, v, EvI.done ?_, by rw [Qav h], by omega⟩
   unfold F_cv
   simp only [Yg (show ¬ (128 : Int) ≤ (v : Int) by omega), cond_false]
   exact Qb _
theorem QdA (v : Nat) (l : List Int) (hv : v < 18446744073709551616) (hl : l.length ≤ 1000000) : Ev (fun n => F_p n l (v : Int)) (l ++ numN v) := by
 obtain ⟨l', v', p1, p2, p3⟩ := Qes 9 v l (Nat.lt_of_lt_of_le hv (by decide)) (by omega)
 unfold F_p
 refine Ev.bind p1.ev ?_
 simp only
 rw [Qa1 l' _ (by omega), p2]
 exact Qb _
theorem Qc9 {v : Nat} (hv : v < 18446744073709551616) : (numN v).length ≤ 10 := Qh8 9 v (Nat.lt_of_lt_of_le hv (by decide))
def zigI (x : Int) : Int := xorI .u64 (shlI .u64 (IntKind.u64.wrap x) 1) (IntKind.u64.wrap (shrI .i64 x 63))
theorem wrapU (x : Int) : 0 ≤ IntKind.u64.wrap x ∧ IntKind.u64.wrap x < 18446744073709551616 := by
 have e : IntKind.u64.wrap x = x % 18446744073709551616 := by
  unfold IntKind.wrap
  rfl
 rw [e]
 omega
theorem Qel (x : Int) : ∃ z : Nat, zigI x = (z : Int) ∧ z < 18446744073709551616 := by
 have h := wrapU ((BitVec.ofInt IntKind.u64.bits (shlI .u64 (IntKind.u64.wrap x) 1) ^^^ BitVec.ofInt IntKind.u64.bits (IntKind.u64.wrap (shrI .i64 x 63))).toNat)
 refine ⟨(zigI x).toNat, ?_, ?_⟩
 ·unfold zigI xorI; omega
 ·unfold zigI xorI; omega
def oneB (x : Int) : List Int := 1 :: numN (zigI x).toNat
theorem Qe2 (x : Int) : (oneB x).length ≤ 11 := by
 obtain ⟨z, h1, h2⟩ := Qel x
 unfold oneB
 rw [h1]
 have := Qc9 h2
 simp; omega
theorem Qfy (l : List Int) (x : Int) (hl : l.length ≤ 100000) : Ev (fun n => F_af n l ({ Kind := 1, N := x, S := [], L := [] : Value })) (l ++ oneB x) := by
 unfold F_af F_am
 rw [Qa1 l 1 (by omega)]
 simp only [Option.bind_some]
 obtain ⟨z, h1, h2⟩ := Qel x
 have h1' := h1
 unfold zigI at h1'
 rw [h1']
 refine Ev.bind (QdA z (l ++ [1]) h2 (by simp; omega)) ((Qb _).eq ?_)
 unfold oneB
 rw [h1]
 simp
def mkV (x : Int) : Value := { Kind := 1, N := x, S := [], L := [] : Value }
def listV (l : List Int) : Value := { Kind := 3, N := 0, S := [], L := l.map mkV : Value }
theorem Qf4 (x : Int) : Ev (fun n => F_j n (mkV x)) (0, true) := by
 refine Ye ?_
 show Ev (fun n => B_j (F_j n) n (mkV x)) _
 unfold B_j mkV
 simp only
 cases (x == 0) with
 | true => exact Qb _
 | false => exact Qb _
theorem Qfa (l : List Int) (hl : l.length ≤ 1000) : Ev (fun n => F_j n (listV l)) (1, true) := by
 refine Ye ?_
 show Ev (fun n => B_j (F_j n) n (listV l)) _
 unfold B_j listV
 simp only
 refine Ev.bind (v := [false, (((l.map mkV).length : Int) == 0), (((l.map mkV).length : Int) == 0), true]) (Qb _) ?_
 refine Ev.bind (v := false) (Qb _) ?_
 refine Ev.bind (v := (Ctl.cont (0 : Int) : Ctl Int (Int × Bool))) ?_ (Qb _)
 refine Ev.iter (fun i => ((0 : Int), (i : Int))) (l.map mkV).length rfl (fun i hi => ?_) ?_
 ·have ha := YM (x := (l.map mkV)[i]) (show (l.map mkV).length ≤ 4611686018427387904 by rw [List.length_map]; omega) (List.getElem?_eq_getElem hi)
  have hx : ∃ y, (l.map mkV)[i] = mkV y := by
   rw [List.getElem_map]; exact ⟨_, rfl⟩
  obtain ⟨y, hy⟩ := hx
  unfold F_fq
  simp only [ha.lt, cond_true, ha.ix, Option.bind_some, ha.nx]
  rw [hy]
  exact Ev.bind (Qf4 y) (Qb _)
 ·unfold F_fq
  simp only [Qa8, cond_false]
  exact Qb _
def listB (l : List Int) : List Int := [3] ++ numN l.length ++ (l.map oneB).flatten
theorem QeC (l : List Int) (hl : l.length ≤ 1000) : Ev (fun n => F_ap n (listV l)) (listB l) := by
 unfold F_ap
 have e0 : app ([] : List Int) [3] = some [3] := rfl
 rw [e0]
 simp only [Option.bind_some]
 have e1 : IntKind.u64.wrap (((listV l).L.length : Int)) = ((l.length : Nat) : Int) := by
  have : IntKind.u64.wrap (((listV l).L.length : Int)) = (((listV l).L.length : Int)) % 18446744073709551616 := by unfold IntKind.wrap; rfl
  rw [this]
  unfold listV
  rw [List.length_map]
  omega
 rw [e1]
 have n10 := Qc9 (show l.length < 18446744073709551616 by omega)
 refine Ev.bind (QdA l.length [3] (by omega) (by simp)) ?_
 refine Ev.bind (v := listB l) ?_ (Qb _)
 have hlen : ∀ m : List Int, (m.map oneB).flatten.length ≤ 11 * m.length := by
  intro m
  induction m with
  | nil => simp
  | cons x m ih =>
   have := Qe2 x
   simp only [List.map_cons, List.flatten_cons, List.length_append, List.length_cons]
   omega
 have h := Yf (step := fun n => F_fn n (listV l)) (l.map mkV) (fun (a : List Int) (v : Value) => a ++ oneB v.N) ([3] ++ numN l.length) (fun a i => (a, (i : Int))) (fun a => a) (by rw [List.length_map]; omega) rfl (fun i x a ha hf => ?_) ?_
 ·refine Ev.eq h ?_
  have : ∀ (m : List Int) (a : List Int), (m.map mkV).foldl (fun (a : List Int) (v : Value) => a ++ oneB v.N) a = a ++ (m.map oneB).flatten := by
   intro m
   induction m with
   | nil => intro a; simp
   | cons x m ih => intro a; simp only [List.map_cons, List.foldl_cons, List.flatten_cons]; rw [ih]; simp [mkV]
  rw [this]; rfl
 ·have hx : ∃ y, x = mkV y := by
   obtain ⟨y, _, hy⟩ := List.mem_map.1 ha.mem
   exact ⟨y, hy.symm⟩
  obtain ⟨y, rfl⟩ := hx
  have hal : a.length ≤ 100000 := by
   have : ∀ (m : List Int) (a : List Int), ((m.map mkV).foldl (fun (a : List Int) (v : Value) => a ++ oneB v.N) a).length ≤ a.length + 11 * m.length := by
    intro m
    induction m with
    | nil => intro a; simp
    | cons x m ih =>
     intro a
     simp only [List.map_cons, List.foldl_cons, List.length_cons]
     have h1 := ih (a ++ oneB (mkV x).N)
     have h2 := Qe2 (mkV x).N
     rw [List.length_append] at h1
     omega
   have h2 := this (l.take i) ([3] ++ numN l.length)
   rw [List.map_take, ← hf, List.length_append, List.length_take] at h2
   simp at h2
   omega
  unfold F_fn
  have hlt : decide ((i : Int) < ((listV l).L.length : Int)) = true := ha.lt
  have hix : idx (listV l).L (i : Int) = some (mkV y) := ha.ix
  simp only [hlt, cond_true, hix, Option.bind_some, ha.nx]
  refine Ev.bind (Qfy a y hal) ?_
  exact Qb _
 ·unfold F_fn
  have hlt : decide (((l.map mkV).length : Int) < ((listV l).L.length : Int)) = false := Qa8 _
  simp only [hlt, cond_false]
  exact Qb _
theorem Qh7 {f : Fact} {b : Int} : ∀ (r : List Ent) (a c : List Int × Fact × Int), numR f b r a = .cont c → c.1.length = a.1.length + r.length := by
 intro r
 induction r with
 | nil => intro a c h; cases h; rfl
 | cons e r ih =>
  intro a c h
  unfold numR at h
  cases q : inE f b e with
  | false => rw [q] at h; cases h
  | true =>
   rw [q] at h
   have := ih _ _ h
   simp at this
   rw [this, List.length_cons]; omega
theorem Qh9 (f : Fact) : (numF f).1.length ≤ 12 := by
 unfold numF
 cases fineU f (openU f) with
 | false => simp
 | true =>
  simp only [cond_true]
  cases h : numR f (suspB f) (entsS f) ([], restS f, 0) with
  | cont a =>
   have := Qh7 _ _ _ h
   have := QdB f
   simp at *
   omega
  | done r =>
   have : ∀ (E : List Ent) (a : List Int × Fact × Int), numR f (suspB f) E a = .done r → r = ([], false) := by
    intro E
    induction E with
    | nil => intro a h; cases h
    | cons e E ih =>
     intro a h
     unfold numR at h
     cases q : inE f (suspB f) e with
     | false => rw [q] at h; cases h; rfl
     | true => rw [q] at h; exact ih _ h
   rw [this _ _ h]; simp
def encF (f : Fact) : List Int × Int := bif validS f then (listB (numF f).1, 0) else ([], 120)
theorem Qd5 (f : Fact) : Ev (fun n => F_ab n f) (encF f) := by
 unfold F_ab
 refine Ev.bind (QgX f) ?_
 have hl := Qh9 f
 unfold encF validS
 generalize numF f = r at *
 cases h : r.2 with
 | false => exact Qb _
 | true =>
  simp only [Bool.not_true, cond_false, cond_true]
  refine Ev.bind (v := r.1.map mkV) ?_ ?_
  ·refine Ev.eq (Yf r.1 (fun (a : List Value) (x : Int) => a ++ [mkV x]) [] (fun a i => (a, (i : Int))) (fun a => a) (by omega) rfl (fun i x a ha hf => ?_) ?_) ?_
   ·unfold F_fs
    simp only [ha.lt, cond_true, ha.ix, Option.bind_some, ha.nx]
    have hal : a.length ≤ 12 := by
     have : ∀ (m : List Int) (a : List Value), (m.foldl (fun (a : List Value) (x : Int) => a ++ [mkV x]) a).length = a.length + m.length := by
      intro m
      induction m with
      | nil => intro a; simp
      | cons x m ih => intro a; simp only [List.foldl_cons, List.length_cons]; rw [ih]; simp; omega
     rw [hf, this, List.length_take]
     simp; omega
    have e := Qa1 a (mkV x) (by omega)
    unfold mkV at e
    rw [e]
    exact Qb _
   ·unfold F_fs
    simp only [Qa8, cond_false]
    exact Qb _
   ·have : ∀ (m : List Int) (a : List Value), m.foldl (fun (a : List Value) (x : Int) => a ++ [mkV x]) a = a ++ m.map mkV := by
     intro m
     induction m with
     | nil => intro a; simp
     | cons x m ih => intro a; simp only [List.foldl_cons, List.map_cons]; rw [ih]; simp
    rw [this]; rfl
  refine Ev.bind (v := (listB r.1, 0)) ?_ (Qb _)
  have fc := Qfa r.1 (by omega)
  unfold F_em F_ey
  have e : ({ Kind := 3, N := 0, S := [], L := r.1.map mkV : Value }) = listV r.1 := rfl
  rw [e]
  refine Ev.bind (v := 0) (Ev.bind fc (Qb _)) ?_
  unfold F_as
  exact Ev.bind (QeC r.1 (by omega)) (Qb _)
def cmpI (a b : Int) : Int := bif decide (a < b) then -1 else bif decide (b < a) then 1 else 0
theorem QgY (n : Nat) (a b : Int) : F_l n a b = some (cmpI a b) := by
 unfold F_l F_al cmpI
 simp only [Option.bind_some, bne_self_eq_false, cond_false]
 cases decide (a < b) with
 | true => rfl
 | false => cases decide (b < a) <;> rfl
def orL : List Int → Int
 | [] => 0
 | x :: r => bif x != 0 then x else orL r
theorem ev_or (l : List Int) (hl : l.length ≤ 1000) : Ev (fun n => F_w n l) (orL l) := by
 unfold F_w
 have loop : ∀ (r : List Int) (i : Nat), l.drop i = r → i ≤ l.length → EvI (fun n => F_ai n l) (i : Int) (bif orL r == 0 then Ctl.cont () else Ctl.done (orL r)) := by
  intro r
  induction r with
  | nil =>
   intro i hr hi
   refine EvI.done ?_
   unfold F_ai
   simp only [Q5 hr hi, cond_false]
   exact Qb _
  | cons x r ih =>
   intro i hr hi
   obtain ⟨ha, hr'⟩ := QE (by omega) hr
   have hlt := ha.lt'
   unfold orL
   cases q : (x != 0) with
   | true =>
    have e : (x == 0) = false := by simpa [bne] using q
    simp only [cond_true, e, cond_false]
    refine EvI.done ?_
    unfold F_ai
    simp only [ha.lt, cond_true, ha.ix, Option.bind_some, q]
    exact Qb _
   | false =>
    simp only [cond_false]
    refine EvI.cont ?_ (ih (i + 1) hr' (by omega))
    unfold F_ai
    simp only [ha.lt, cond_true, ha.ix, Option.bind_some, q, cond_false, ha.nx]
    exact Qb _
 refine Ev.bind (loop l 0 rfl (Nat.zero_le _)).ev ?_
 cases h : (orL l == 0) with
 | true =>
  have e : orL l = 0 := by simpa using h
  rw [e]
  exact Qb _
 | false => exact Qb _
def cmpF (f g : Fact) : Int := bif orL [cmpI f.At g.At, cmpI f.Crew g.Crew, cmpI f.No g.No] != 0 then orL [cmpI f.At g.At, cmpI f.Crew g.Crew, cmpI f.No g.No] else cmpB (encF f).1 (encF g).1
theorem Qgb (f g : Fact) : Ev (fun n => F_ci n f g) (cmpF f g) := by
 unfold F_ci cmpF
 simp only [QgY, Option.bind_some]
 refine Ev.bind (ev_or _ (by simp)) ?_
 cases (orL [cmpI f.At g.At, cmpI f.Crew g.Crew, cmpI f.No g.No] != 0) with
 | true => exact Qb _
 | false =>
  simp only [cond_false]
  refine Ev.bind (Qd5 f) (Ev.bind (Qd5 g) ?_)
  exact Qb _
def okS (c : Course) (f : Fact) : Bool := (f.Kind == 1) && (validS f && (!decide ((c.Distances.length : Int) ≤ f.Starter.Distance) && !decide ((c.Waves.length : Int) ≤ f.Starter.Wave)))
def stepS (c : Course) (m : List (Int × Fact)) (f : Fact) : List (Int × Fact) :=
 bif okS c f then (bif !(mhas m f.Starter.Bib) || decide (cmpF f (mgetD m f.Starter.Bib z_Fact) < 0) then mset m f.Starter.Bib f else m) else m
def firstS (c : Course) (l : List Fact) : List (Int × Fact) := l.foldl (stepS c) []
theorem Qi4 (c : Course) (l : List Fact) (hl : l.length ≤ 1048576) : Ev (fun n => iter (F_fj n c l) n ([], 0)) (firstS c l) := by
 refine Yf l (stepS c) [] (fun a i => (a, (i : Int))) (fun a => a) (by omega) rfl (fun i x a ha _ => ?_) ?_
 ·unfold F_fj
  simp only [ha.lt, cond_true, ha.ix, Option.bind_some, ha.nx]
  refine Ev.bind (v := stepS c a x) ?_ (Qb _)
  refine Ev.bind (v := !okS c x) ?_ ?_
  ·unfold okS bne
   cases (x.Kind == 1) with
   | false => exact Qb _
   | true =>
    refine Ev.bind (Qby x) ?_
    cases validS x with
    | false => exact Qb _
    | true =>
     simp only [cond_true, Bool.true_and]
     cases decide ((c.Distances.length : Int) ≤ x.Starter.Distance) with
     | true => exact Qb _
     | false =>
      cases decide ((c.Waves.length : Int) ≤ x.Starter.Wave) <;> exact Qb _
  ·unfold stepS
   cases okS c x with
   | false => exact Qb _
   | true =>
    simp only [Bool.not_true, cond_false, cond_true]
    refine Ev.bind (v := !(mhas a x.Starter.Bib) || decide (cmpF x (mgetD a x.Starter.Bib z_Fact) < 0)) (Ev.or fun _ => Ev.bind (Qgb _ _) (Qb _)) ?_
    cases (!(mhas a x.Starter.Bib) || decide (cmpF x (mgetD a x.Starter.Bib z_Fact) < 0)) <;> exact Qb _
 ·unfold F_fj
  simp only [Qa8, cond_false]
  exact Qb _
theorem Qe4 {β : Type} (m : List (Int × β)) (k : Int) : mhas m k = (mget m k).isSome := by
 unfold mhas mget
 rw [Option.isSome_map]
 induction m with
 | nil => rfl
 | cons p m ih =>
  rw [List.any_cons, List.find?_cons, ih]
  cases decide (p.1 = k) <;> rfl
theorem QbT {β : Type} (m : List (Int × β)) (k : Int) : k ∈ m.map Prod.fst ↔ ∃ v, mget m k = some v := by
 have h := Qe4 m k
 rw [← Option.isSome_iff_exists, ← h]
 unfold mhas
 simp only [List.any_eq_true, decide_eq_true_eq, List.mem_map]
structure FirstOk (c : Course) (l : List Fact) (m : List (Int × Fact)) : Prop where
 nodup : (m.map Prod.fst).Nodup
 ok : ∀ k f, mget m k = some f → f.Starter.Bib = k ∧ okS c f = true ∧ f ∈ l
 len : m.length ≤ l.length
theorem Qia {β : Type} (m : List (Int × β)) (k : Int) (v : β) : (mset m k v).length ≤ m.length + 1 := by
 have := congrArg List.length (QaQ m k v)
 rw [List.length_map] at this
 rw [this]
 split <;> simp
theorem Qf2 {β : Type} {m : List (Int × β)} (k : Int) (v : β) (h : (m.map Prod.fst).Nodup) : ((mset m k v).map Prod.fst).Nodup := by
 have e := QaQ m k v
 have e' : (mset m k v).map Prod.fst = if k ∈ m.map Prod.fst then m.map Prod.fst else m.map Prod.fst ++ [k] := e
 rw [e']
 split
 ·exact h
 ·rename_i hk
  rw [List.nodup_append]
  refine ⟨h, by simp, fun a ha b hb => ?_⟩
  rw [List.mem_singleton] at hb
  rintro rfl
  exact hk (hb ▸ ha)
theorem Qbp (c : Course) (l : List Fact) : FirstOk c l (firstS c l) := by
 have gen : ∀ (r : List Fact) (p : List Fact) (m : List (Int × Fact)), FirstOk c p m → FirstOk c (p ++ r) (r.foldl (stepS c) m) := by
  intro r
  induction r with
  | nil => intro p m h; simpa using h
  | cons f r ih =>
   intro p m h
   have hs : FirstOk c (p ++ [f]) (stepS c m f) := by
    have keep : FirstOk c (p ++ [f]) m := ⟨h.nodup, fun k g hg => by obtain ⟨a, b, d⟩ := h.ok k g hg; exact ⟨a, b, List.mem_append_left _ d⟩, by have := h.len; simp; omega⟩
    unfold stepS
    cases q : okS c f with
    | false => exact keep
    | true =>
     simp only [cond_true]
     cases (!(mhas m f.Starter.Bib) || decide (cmpF f (mgetD m f.Starter.Bib z_Fact) < 0)) with
     | false => exact keep
     | true =>
      refine ⟨Qf2 _ _ h.nodup, fun k g hg => ?_, ?_⟩
      ·simp only [cond_true] at hg
       rw [Qbo] at hg
       by_cases e : k = f.Starter.Bib
       ·rw [if_pos e] at hg
        cases hg
        exact ⟨e.symm, q, by simp⟩
       ·rw [if_neg e] at hg
        exact keep.ok k g hg
      ·have := Qia m f.Starter.Bib f
       have := h.len
       simp only [cond_true, List.length_append, List.length_singleton]
       omega
   have := ih (p ++ [f]) _ hs
   simpa using this
 have := gen l [] [] ⟨by simp, (fun k f h => by cases h), Nat.le_refl _⟩
 simpa [firstS] using this
theorem Qho {l m : List Int} (h : l.Perm m) : isort ltI l = isort ltI m :=
 Qat ((Qw ltI l).trans (h.trans (Qw ltI m).symm)) (fun x _ y _ a b => by simp [ltI] at *; omega) (QP (QcR l)) (QP (QcR m))
theorem Qez {n : Nat} (h : n ≤ 1048576) : Nat.ble n lenMax = true := Nat.ble_eq_true_of_le (Nat.le_trans h (by decide))
theorem Qhc (n : Nat) (m : List (Int × Fact)) (h : m.length ≤ 1048576) : F_bp n m = some (isort ltI (m.map Prod.fst)) := by
 unfold F_bp anyK
 have hl : (List.map Prod.fst m).length ≤ 1048576 := by rw [List.length_map]; exact h
 rw [Qez hl, cond_true]
 refine Qg4 fun p hp => ?_
 unfold sortI
 rw [Qez (by rw [hp.length_eq]; exact hl)]
 show some (isort ltI p) = _
 rw [Qho hp]
def ordF (m : List (Int × Fact)) : List Fact := (isort ltI (m.map Prod.fst)).map fun k => mgetD m k z_Fact
theorem Qc7 (m : List (Int × Fact)) : (ordF m).length = m.length := by
 unfold ordF
 rw [List.length_map, (Qw _ _).length_eq, List.length_map]
theorem Qga (m : List (Int × Fact)) (h : m.length ≤ 1048576) : Ev (fun n => F_be n m) (ordF m) := by
 unfold F_be F_do
 simp only [Option.bind_some]
 refine Ev.bind (v := isort ltI (m.map Prod.fst)) ⟨0, fun n _ => Qhc n m h⟩ ?_
 have hl : (isort ltI (m.map Prod.fst)).length = m.length := by rw [(Qw _ _).length_eq, List.length_map]
 refine Ev.bind (v := ordF m) ?_ (Qb _)
 unfold ordF
 generalize isort ltI (m.map Prod.fst) = ks at hl
 have e : ks.map (fun k => mgetD m k z_Fact) = ks.foldl (fun (a : List Fact) k => a ++ [mgetD m k z_Fact]) [] := by
  have : ∀ (r : List Int) (a : List Fact), r.foldl (fun (a : List Fact) k => a ++ [mgetD m k z_Fact]) a = a ++ r.map fun k => mgetD m k z_Fact := by
   intro r
   induction r with
   | nil => intro a; simp
   | cons x r ih => intro a; simp only [List.foldl_cons, List.map_cons]; rw [ih]; simp
  rw [this]; rfl
 rw [e]
 refine Yf ks (fun (a : List Fact) k => a ++ [mgetD m k z_Fact]) [] (fun a i => (a, (i : Int))) (fun a => a) (by omega) rfl (fun i x a ha hf => ?_) ?_
 ·unfold F_fr
  simp only [ha.lt, cond_true, ha.ix, Option.bind_some, ha.nx]
  have hal : a.length = i := by
   have : ∀ (r : List Int) (a : List Fact), (r.foldl (fun (a : List Fact) k => a ++ [mgetD m k z_Fact]) a).length = a.length + r.length := by
    intro r
    induction r with
    | nil => intro a; rfl
    | cons x r ih => intro a; simp only [List.foldl_cons]; rw [ih]; simp; omega
   rw [hf, this, List.length_take]
   have := ha.lt'
   simp; omega
  have := ha.lt'
  rw [Qa1 a _ (by omega)]
  exact Qb _
 ·unfold F_fr
  simp only [Qa8, cond_false]
  exact Qb _
def chipK (f : Fact) : Int := f.Starter.Chip
def startF (e : Int) (c : Course) (l : List Fact) : List Starter × Int := bif e != 0 then ([], e) else
 bif decide (((ordF (firstS c l)).map chipK).Nodup) then ((ordF (firstS c l)).map (·.Starter), 0) else ([], 180)
theorem QkK (L : List Fact) (hl : L.length ≤ 1048576) : Ev (fun n => iter (F_cd n L) n ([], [], 0)) (bif decide ((L.map chipK).Nodup) then Ctl.cont (L.map (·.Starter)) else Ctl.done ([], 180)) := by
 have loop : ∀ (r : List Fact) (i : Nat), L.drop i = r → i ≤ L.length → EvI (fun n => F_cd n L) ((L.take i).map (·.Starter), msetAll chipK true (L.take i), (i : Int))
   (bif chkL (fun _ => true) chipK ((L.take i).map chipK) r then Ctl.cont (L.map (·.Starter)) else Ctl.done ([], 180)) := by
  intro r
  induction r with
  | nil =>
   intro i hr hi
   refine EvI.done ?_
   have hlen : L.length ≤ i := List.drop_eq_nil_iff.1 hr
   have e : L.take i = L := List.take_of_length_le hlen
   unfold F_cd
   simp only [Q5 hr hi, cond_false, e, chkL, cond_true]
   exact Qb _
  | cons f r ih =>
   intro i hr hi
   obtain ⟨ha, hr'⟩ := QE (by omega) hr
   have hlt := ha.lt'
   have hg := QaD chipK true false (L.take i) (chipK f)
   simp only [chkL, Bool.true_and]
   cases q : ((L.take i).map chipK).contains (chipK f) with
   | true =>
    have hm : chipK f ∈ (L.take i).map chipK := by simpa using q
    rw [if_pos hm] at hg
    simp only [Bool.not_true, Bool.false_and, cond_false]
    refine EvI.done ?_
    unfold F_cd
    simp only [ha.lt, cond_true, ha.ix, Option.bind_some]
    rw [show f.Starter.Chip = chipK f from rfl, hg]
    exact Qb _
   | false =>
    have hm : ¬ chipK f ∈ (L.take i).map chipK := by
     intro z
     have : ((L.take i).map chipK).contains (chipK f) = true := by simpa using z
     rw [q] at this; cases this
    rw [if_neg hm] at hg
    simp only [Bool.not_false, Bool.true_and]
    have hn := ih (i + 1) hr' (by omega)
    rw [ha.take, QbS, List.map_append, List.map_append] at hn
    refine EvI.cont ?_ hn
    unfold F_cd
    simp only [ha.lt, cond_true, ha.ix, Option.bind_some, ha.nx]
    rw [show f.Starter.Chip = chipK f from rfl, hg]
    simp only [cond_false]
    rw [Qa1 _ _ (by rw [List.length_map, List.length_take]; omega)]
    exact Qb _
 refine Ev.eq (loop L 0 rfl (Nat.zero_le _)).ev ?_
 have := Qg2 (fun _ => true) chipK L [] (by simp)
 simp only [List.take_zero, List.map_nil]
 rw [this, List.all_eq_true.2 (fun _ _ => rfl), Bool.true_and, List.nil_append]
theorem Qbe (e : Int) (c : Course) (l : List Fact) (hl : l.length ≤ 16) (he : Ev (fun n => F_v n c) e) : Ev (fun n => F_o n c l) (startF e c l) := by
 unfold F_o startF
 refine Ev.bind he ?_
 cases (e != 0) with
 | true => exact Qb _
 | false =>
  simp only [cond_false]
  refine Ev.bind (Qi4 c l (by omega)) ?_
  have h := Qbp c l
  have hlen := h.len
  rw [Yg (show ¬ (4000 : Int) < ((firstS c l).length : Int) by omega)]
  refine Qal (Ev.bind (Qga _ (by omega)) ?_)
  refine Ev.bind (QkK _ (by rw [Qc7]; omega)) ?_
  cases decide (((ordF (firstS c l)).map chipK).Nodup) <;> exact Qb _
theorem QeT {e : Int} {c : Course} {l : List Fact} (h : ((startF e c l).2 == 0) = true) : ((startF e c l).1.map (·.Bib)).Nodup ∧ ((startF e c l).1.map (·.Chip)).Nodup ∧ (startF e c l).1.length ≤ l.length := by
 unfold startF at h ⊢
 cases q : (e != 0) with
 | true =>
  rw [q] at h
  simp only [cond_true] at h
  have : e = 0 := by simpa using h
  rw [this] at q; cases q
 | false =>
  rw [q] at h
  simp only [cond_false] at h ⊢
  cases q2 : decide (((ordF (firstS c l)).map chipK).Nodup) with
  | false => rw [q2] at h; cases h
  | true =>
   simp only [cond_true]
   have hf := Qbp c l
   refine ⟨?_, ?_, by rw [List.length_map, Qc7]; exact hf.len⟩
   ·have e : ((ordF (firstS c l)).map (·.Starter)).map (·.Bib) = isort ltI ((firstS c l).map Prod.fst) := by
     unfold ordF
     rw [List.map_map, List.map_map]
     conv => rhs; rw [← List.map_id (isort ltI ((firstS c l).map Prod.fst))]
     refine List.map_congr_left fun k hk => ?_
     have hk' := (Qw ltI _).mem_iff.1 hk
     obtain ⟨v, hv⟩ := (QbT _ _).1 hk'
     have := (hf.ok k v hv).1
     simp only [Function.comp, mgetD, hv, Option.getD_some, id]
     exact this
    rw [e]
    exact (Qw ltI _).symm.nodup hf.nodup
   ·have := of_decide_eq_true q2
    rw [List.map_map]
    exact this
def cmpP (a b : Pair) : Int := orL [cmpI a.A b.A, cmpI a.B b.B]
theorem or2 (n : Nat) (a b : Int) : F_w (n + 3) [a, b] = some (orL [a, b]) := by
 unfold F_w
 have s0 : F_ai (n + 3) [a, b] 0 = bif a != 0 then some (.done (.done a)) else some (.cont 1) := rfl
 have s1 : F_ai (n + 3) [a, b] 1 = bif b != 0 then some (.done (.done b)) else some (.cont 2) := rfl
 have s2 : F_ai (n + 3) [a, b] 2 = some (.done (.cont ())) := rfl
 unfold orL orL orL
 rw [iter, s0]
 cases q : (a != 0) with
 | true => rfl
 | false =>
  simp only [cond_false]
  rw [iter, s1]
  cases q2 : (b != 0) with
  | true => rfl
  | false =>
   simp only [cond_false]
   rw [iter, s2]
   rfl
theorem Qhi (n : Nat) : (fun x y => F_ak (n + 3) x y) = fun x y => some (cmpP x y) := by
 funext x y
 unfold F_ak cmpP
 simp only [QgY, Option.bind_some, or2]
theorem Qg0 {a b : Int} : cmpI a b < 0 ↔ a < b := by
 unfold cmpI
 by_cases h : a < b
 ·rw [decide_eq_true h]; simp [h]
 ·rw [decide_eq_false h]
  by_cases h2 : b < a
  ·rw [decide_eq_true h2]; simp; omega
  ·rw [decide_eq_false h2]; simp; omega
theorem Qcn {a b : Int} : cmpI a b = 0 ↔ a = b := by
 unfold cmpI
 by_cases h : a < b
 ·rw [decide_eq_true h]; simp; omega
 ·rw [decide_eq_false h]
  by_cases h2 : b < a
  ·rw [decide_eq_true h2]; simp; omega
  ·rw [decide_eq_false h2]; simp; omega
theorem Q0 (x y : Pair) : cmpP x y < 0 ↔ (x.A < y.A ∨ (x.A = y.A ∧ x.B < y.B)) := by
 unfold cmpP orL orL orL
 cases q : (cmpI x.A y.A != 0) with
 | true =>
  have : ¬ cmpI x.A y.A = 0 := by simpa using q
  rw [Qcn] at this
  simp only [cond_true]
  rw [Qg0]; omega
 | false =>
  have : cmpI x.A y.A = 0 := by simpa [bne] using q
  rw [Qcn] at this
  simp only [cond_false]
  cases q2 : (cmpI x.B y.B != 0) with
  | true =>
   simp only [cond_true]
   rw [Qg0]; omega
  | false =>
   have h2 : cmpI x.B y.B = 0 := by simpa [bne] using q2
   rw [Qcn] at h2
   simp only [cond_false]
   omega
theorem Qc6 {x y : Pair} (h1 : x.A = y.A) (h2 : x.B = y.B) : x = y := by
 cases x; cases y; simp_all
def sortP (l : List Pair) : List Pair := isort (ltO fun x y => some (cmpP x y)) l
theorem QhW (n : Nat) (l : List Pair) (hl : l.length ≤ 1048576) : sortF (fun x y => F_ak (n + 3) x y) l = some (sortP l) := by
 rw [Qhi]
 refine QhX (Nat.le_trans hl (by decide)) cmpP (fun _ _ _ _ => rfl) (fun x _ => ?_) (fun x _ y _ z _ => ?_) (fun x _ y _ z _ => ?_) (fun x _ y _ => ?_)
 ·rw [Q0]; omega
 ·rw [Q0, Q0, Q0]; omega
 ·rw [Q0, Q0, Q0]; omega
 ·rw [Q0, Q0]
  intro h1 h2
  exact Qc6 (by omega) (by omega)
theorem QaV (l : List Pair) : (sortP l).Perm l := Qw _ l
theorem Qhd {l m : List Pair} (h : l.Perm m) : sortP l = sortP m := by
 have sw : ∀ l : List Pair, SwoOn (ltO fun x y => some (cmpP x y)) l := fun l =>
  ⟨fun x _ => by simp only [ltO, decide_eq_false_iff_not]; rw [Q0]; omega, fun x _ y _ z _ a b => by simp only [ltO, decide_eq_true_eq] at *; rw [Q0] at *; omega, fun x _ y _ z _ a b => by simp only [ltO, decide_eq_false_iff_not] at *; rw [Q0] at *; omega⟩
 refine Qat ((Qw _ l).trans (h.trans (Qw _ m).symm)) (fun x _ y _ a b => ?_) (QP (sw l)) (QP (sw m))
 simp only [ltO, decide_eq_false_iff_not] at a b
 rw [Q0] at a b
 exact Qc6 (by omega) (by omega)
theorem Qf6 (m : List (Pair × Bool)) (h : m.length ≤ 1048576) : Ev (fun n => F_aj n m) (sortP (m.map Prod.fst)) := by
 refine ⟨3, fun n hn => ?_⟩
 obtain ⟨k, rfl⟩ : ∃ k, n = k + 3 := ⟨n - 3, by omega⟩
 show F_aj (k + 3) m = _
 unfold F_aj anyK
 have hl : (List.map Prod.fst m).length ≤ 1048576 := by rw [List.length_map]; exact h
 rw [Qez hl, cond_true]
 refine Qg4 fun p hp => ?_
 rw [QhW k p (by rw [hp.length_eq]; exact hl)]
 show some (sortP p) = _
 rw [Qhd hp]
def okP (bs : List Int) (f : Fact) : Bool := (f.Kind == 7) && (validS f && (decide (f.Pair.A ∈ bs) && decide (f.Pair.B ∈ bs)))
def stepP (bs : List Int) (m : List (Pair × Bool)) (f : Fact) : List (Pair × Bool) := bif okP bs f then mset m f.Pair true else m
def metS (bs : List Int) (l : List Fact) : List (Pair × Bool) := l.foldl (stepP bs) []
theorem QcP (bs : List Int) (l : List Fact) : (metS bs l).length ≤ l.length ∧ ∀ p, p ∈ (metS bs l).map Prod.fst ↔ ∃ f ∈ l, okP bs f = true ∧ f.Pair = p := by
 have gen : ∀ (r : List Fact) (m : List (Pair × Bool)), (r.foldl (stepP bs) m).length ≤ m.length + r.length ∧ ∀ p, p ∈ (r.foldl (stepP bs) m).map Prod.fst ↔ p ∈ m.map Prod.fst ∨ ∃ f ∈ r, okP bs f = true ∧ f.Pair = p := by
  intro r
  induction r with
  | nil => intro m; exact ⟨Nat.le_refl _, fun p => by simp⟩
  | cons f r ih =>
   intro m
   obtain ⟨h1, h2⟩ := ih (stepP bs m f)
   have hk := QaQ m f.Pair true
   have hk' : (mset m f.Pair true).map Prod.fst = if f.Pair ∈ m.map Prod.fst then m.map Prod.fst else m.map Prod.fst ++ [f.Pair] := hk
   have hlen : (mset m f.Pair true).length ≤ m.length + 1 := by
    have := congrArg List.length hk'
    rw [List.length_map] at this
    rw [this]
    split <;> simp
   simp only [List.foldl_cons, List.length_cons]
   unfold stepP at h1 h2 ⊢
   cases q : okP bs f with
   | false =>
    rw [q] at h1 h2
    simp only [cond_false] at h1 h2 ⊢
    refine ⟨by omega, fun p => ?_⟩
    rw [h2 p]
    simp [q]
   | true =>
    rw [q] at h1 h2
    simp only [cond_true] at h1 h2 ⊢
    refine ⟨by omega, fun p => ?_⟩
    rw [h2 p, hk']
    by_cases hm : f.Pair ∈ m.map Prod.fst
    ·rw [if_pos hm]
     constructor
     ·rintro (h | ⟨g, a, b, d⟩)
      ·exact .inl h
      ·exact .inr ⟨g, List.mem_cons_of_mem _ a, b, d⟩
     ·rintro (h | ⟨g, a, b, d⟩)
      ·exact .inl h
      ·rcases List.mem_cons.1 a with rfl | a
       ·exact .inl (d ▸ hm)
       ·exact .inr ⟨g, a, b, d⟩
    ·rw [if_neg hm, List.mem_append, List.mem_singleton]
     constructor
     ·rintro ((h | h) | ⟨g, a, b, d⟩)
      ·exact .inl h
      ·exact .inr ⟨f, by simp, q, h.symm⟩
      ·exact .inr ⟨g, List.mem_cons_of_mem _ a, b, d⟩
     ·rintro (h | ⟨g, a, b, d⟩)
      ·exact .inl (.inl h)
      ·rcases List.mem_cons.1 a with rfl | a
       ·exact .inl (.inr d.symm)
       ·exact .inr ⟨g, a, b, d⟩
 have := gen l []
 simpa [metS] using this
def pairF (st : List Starter × Int) (l : List Fact) : List Pair × Int := bif st.2 != 0 then ([], st.2) else (sortP ((metS (st.1.map (·.Bib)) l).map Prod.fst), 0)
theorem Qfz (e : Int) (c : Course) (l : List Fact) (hl : l.length ≤ 16) (he : Ev (fun n => F_v n c) e) : Ev (fun n => F_u n c l) (pairF (startF e c l) l) := by
 unfold F_u pairF
 refine Ev.bind (Qbe e c l hl he) ?_
 have hok := @QeT e c l
 generalize startF e c l = st at *
 cases q : (st.2 != 0) with
 | true => exact Qb _
 | false =>
  have h0 : (st.2 == 0) = true := by simpa [bne] using q
  obtain ⟨_, _, hsl⟩ := hok h0
  simp only [cond_false]
  have k1 : Ev (fun n => iter (F_fg n st) n ([], 0)) (msetAll (fun s : Starter => s.Bib) true st.1) := by
   refine Qar st.1 (fun s : Starter => s.Bib) true (by omega) (fun i x m ha => ?_) (fun m => ?_)
   ·unfold F_fg
    simp only [ha.lt, cond_true, ha.ix, Option.bind_some, ha.nx]
    exact Qb _
   ·unfold F_fg
    simp only [Qa8, cond_false]
    exact Qb _
  refine Ev.bind k1 ?_
  have hg : ∀ b, mgetD (msetAll (fun s : Starter => s.Bib) true st.1) b false = decide (b ∈ st.1.map (·.Bib)) := by
   intro b
   rw [QaD]
   by_cases h : b ∈ st.1.map (·.Bib)
   ·rw [if_pos h, decide_eq_true h]
   ·rw [if_neg h, decide_eq_false h]
  have k2 : Ev (fun n => iter (F_ff n l (msetAll (fun s : Starter => s.Bib) true st.1)) n ([], 0)) (metS (st.1.map (·.Bib)) l) := by
   refine Yf l (stepP (st.1.map (·.Bib))) [] (fun a i => (a, (i : Int))) (fun a => a) (by omega) rfl (fun i x a ha _ => ?_) ?_
   ·unfold F_ff
    simp only [ha.lt, cond_true, ha.ix, Option.bind_some, ha.nx, hg]
    refine Ev.bind (v := okP (st.1.map (·.Bib)) x) ?_ ?_
    ·unfold okP
     cases (x.Kind == 7) with
     | false => exact Qb _
     | true =>
      refine Ev.bind (Qby x) ?_
      cases validS x with
      | false => exact Qb _
      | true =>
       cases decide (x.Pair.A ∈ st.1.map (·.Bib)) with
       | false => exact Qb _
       | true => exact Qb _
    ·unfold stepP
     cases okP (st.1.map (·.Bib)) x <;> exact Qb _
   ·unfold F_ff
    simp only [Qa8, cond_false]
    exact Qb _
  refine Ev.bind k2 ?_
  have hm := (QcP (st.1.map (·.Bib)) l).1
  rw [Yg (show ¬ (16 : Int) < ((metS (st.1.map (·.Bib)) l).length : Int) by omega)]
  unfold F_fa
  refine Qal (Ev.bind (Qb ()) (Ev.bind (Qf6 _ (by omega)) (Qb _)))
set_option maxRecDepth 4000
theorem Qjx (f : Fact) (b : Int) : ∀ (E : List Ent) (a : List Int × Fact × Int), numR f b E a = bif E.all (inE f b) then .cont (a.1 ++ E.map (getV f b), E.foldl (fun p e => putV p.1 p.2 e (getV f b e)) a.2) else .done ([], false) := by
 intro E
 induction E with
 | nil => intro a; simp [numR]
 | cons e E ih =>
  intro a
  unfold numR
  rw [List.all_cons]
  cases h : inE f b e with
  | false => rfl
  | true =>
   simp only [cond_true, Bool.true_and, List.map_cons, List.foldl_cons]
   rw [ih]
   simp
def onlyS (f : Fact) : Fact := { Crew := f.Crew, No := f.No, At := f.At, Kind := f.Kind, Starter := (bif f.Kind == 1 then f.Starter else z_Fact.Starter), Read := (bif f.Kind == 2 then f.Read else z_Fact.Read), Beacon := (bif f.Kind == 3 then f.Beacon else z_Fact.Beacon), Sync := (bif f.Kind == 4 then f.Sync else z_Fact.Sync), Hand := (bif f.Kind == 5 then f.Hand else z_Fact.Hand), Silence := (bif f.Kind == 6 then f.Silence else z_Fact.Silence), Pair := (bif f.Kind == 7 then f.Pair else z_Fact.Pair), Report := (bif f.Kind == 8 then f.Report else z_Fact.Report), Protest := (bif f.Kind == 9 then f.Protest else z_Fact.Protest), Ruling := (bif f.Kind == 10 then f.Ruling else z_Fact.Ruling), Appeal := (bif f.Kind == 11 then f.Appeal else z_Fact.Appeal), Void := (bif f.Kind == 13 then f.Void else z_Fact.Void) : Fact }
def numsS (f : Fact) : List Int := [f.Kind, f.Crew, f.No, f.At] ++ (
 bif f.Kind == 1 then [f.Starter.Bib, f.Starter.Distance, f.Starter.Wave, f.Starter.Slot, f.Starter.Age, f.Starter.Chip, f.Starter.Team, f.Starter.Lot]
 else bif f.Kind == 2 then [f.Read.Mat, f.Read.Epoch, f.Read.Chip, f.Read.Local]
 else bif f.Kind == 3 then [f.Beacon.Mat, f.Beacon.Epoch, f.Beacon.Local, f.Beacon.True, f.Beacon.Err]
 else bif f.Kind == 4 then [f.Sync.MatA, f.Sync.EpochA, f.Sync.LocalA, f.Sync.MatB, f.Sync.EpochB, f.Sync.LocalB, f.Sync.Min, f.Sync.Max]
 else bif f.Kind == 5 then [f.Hand.Bib, f.Hand.Position, f.Hand.Lo, f.Hand.Hi]
 else bif f.Kind == 6 then [f.Silence.Mat, f.Silence.Epoch, f.Silence.Lo, f.Silence.Hi]
 else bif f.Kind == 7 then [f.Pair.A, f.Pair.B]
 else bif f.Kind == 8 then [f.Report.Case, f.Report.Bib, f.Report.Offence, f.Report.Position]
 else bif f.Kind == 9 then [f.Protest.Case, f.Protest.By, f.Protest.Fee, f.Protest.Form]
 else bif f.Kind == 10 then [f.Ruling.Case, f.Ruling.Instance, f.Ruling.Kind, f.Ruling.Bib, f.Ruling.Position, f.Ruling.Amount]
 else bif f.Kind == 11 then [f.Appeal.Case, suspB f]
 else bif f.Kind == 13 then [f.Void.Crew, f.Void.No] else [])
theorem kinds (f : Fact) : f.Kind = 1 ∨ f.Kind = 2 ∨ f.Kind = 3 ∨ f.Kind = 4 ∨ f.Kind = 5 ∨ f.Kind = 6 ∨ f.Kind = 7 ∨ f.Kind = 8 ∨ f.Kind = 9 ∨ f.Kind = 10 ∨ f.Kind = 11 ∨ f.Kind = 12 ∨ f.Kind = 13 ∨ openU f = .c13 () := by
 by_cases h1 : f.Kind = 1; · exact .inl h1
 by_cases h2 : f.Kind = 2; · exact .inr (.inl h2)
 by_cases h3 : f.Kind = 3; · exact .inr (.inr (.inl h3))
 by_cases h4 : f.Kind = 4; · exact .inr (.inr (.inr (.inl h4)))
 by_cases h5 : f.Kind = 5; · exact .inr (.inr (.inr (.inr (.inl h5))))
 by_cases h6 : f.Kind = 6; · exact .inr (.inr (.inr (.inr (.inr (.inl h6)))))
 by_cases h7 : f.Kind = 7; · exact .inr (.inr (.inr (.inr (.inr (.inr (.inl h7))))))
 by_cases h8 : f.Kind = 8; · exact .inr (.inr (.inr (.inr (.inr (.inr (.inr (.inl h8)))))))
 by_cases h9 : f.Kind = 9; · exact .inr (.inr (.inr (.inr (.inr (.inr (.inr (.inr (.inl h9))))))))
 by_cases h10 : f.Kind = 10; · exact .inr (.inr (.inr (.inr (.inr (.inr (.inr (.inr (.inr (.inl h10)))))))))
 by_cases h11 : f.Kind = 11; · exact .inr (.inr (.inr (.inr (.inr (.inr (.inr (.inr (.inr (.inr (.inl h11))))))))))
 by_cases h12 : f.Kind = 12; · exact .inr (.inr (.inr (.inr (.inr (.inr (.inr (.inr (.inr (.inr (.inr (.inl h12)))))))))))
 by_cases h13 : f.Kind = 13; · exact .inr (.inr (.inr (.inr (.inr (.inr (.inr (.inr (.inr (.inr (.inr (.inr (.inl h13))))))))))))
 refine .inr (.inr (.inr (.inr (.inr (.inr (.inr (.inr (.inr (.inr (.inr (.inr (.inr ?_))))))))))))
 unfold openU
 simp only [beq_eq_false_iff_ne.2 h1, beq_eq_false_iff_ne.2 h2, beq_eq_false_iff_ne.2 h3, beq_eq_false_iff_ne.2 h4, beq_eq_false_iff_ne.2 h5, beq_eq_false_iff_ne.2 h6, beq_eq_false_iff_ne.2 h7, beq_eq_false_iff_ne.2 h8, beq_eq_false_iff_ne.2 h9, beq_eq_false_iff_ne.2 h10, beq_eq_false_iff_ne.2 h11, beq_eq_false_iff_ne.2 h12, beq_eq_false_iff_ne.2 h13, cond_false]
def copyS (f : Fact) : Fact × Int := (entsS f).foldl (fun p e => putV p.1 p.2 e (getV f (suspB f) e)) (restS f, 0)
theorem Qet (f : Fact) : numF f = bif fineU f (openU f) then (bif (entsS f).all (inE f (suspB f)) then ((entsS f).map (getV f (suspB f)), lastF f (copyS f).1 (copyS f).2 == f) else ([], false)) else ([], false) := by
 unfold numF
 rw [Qjx]
 cases fineU f (openU f) with
 | false => rfl
 | true =>
  simp only [cond_true]
  cases (entsS f).all (inE f (suspB f)) with
  | false => rfl
  | true => simp only [cond_true, List.nil_append]; rfl
theorem Qcl (f : Fact) (h : ¬ openU f = .c13 ()) : lastF f (copyS f).1 (copyS f).2 = onlyS f ∧ (entsS f).map (getV f (suspB f)) = numsS f := by
 rcases kinds f with k | k | k | k | k | k | k | k | k | k | k | k | k | k
 case inr.inr.inr.inr.inr.inr.inr.inr.inr.inr.inl =>
  obtain ⟨Cr, No, At, Ki, S, R, B, Sy, Ha, Si, Pa, Re, Pr, Ru, ⟨Ca, Su⟩, Vo⟩ := f
  simp only at k
  subst k
  cases Su <;> exact ⟨by kernel_rfl, by kernel_rfl⟩
 case inr.inr.inr.inr.inr.inr.inr.inr.inr.inl =>
  obtain ⟨Cr, No, At, Ki, S, R, B, Sy, Ha, Si, Pa, Re, Pr, ⟨r1, r2, r3, r4, r5, r6⟩, Ap, Vo⟩ := f
  simp only at k
  subst k
  have : ∃ x, openU ⟨Cr, No, At, 10, S, R, B, Sy, Ha, Si, Pa, Re, Pr, ⟨r1, r2, r3, r4, r5, r6⟩, Ap, Vo⟩ = .c9 x := by
   unfold openU
   show ∃ x, (bif (r3 == 1) || (r3 == 2) then U_facts_open_rxk.c9 (0, 0, 0, 0, 0, 0) else bif r3 == 3 then .c9 (1, 9999, 0, 255, 1, 1099511627776) else bif r3 == 4 then .c9 (1, 9999, 0, 255, 1, 64) else .c9 (1, 9999, 0, 255, 0, 0)) = .c9 x
   cases ((r3 == 1) || (r3 == 2)) with
   | true => exact ⟨_, rfl⟩
   | false =>
    cases (r3 == 3) with
    | true => exact ⟨_, rfl⟩
    | false => cases (r3 == 4) <;> exact ⟨_, rfl⟩
  obtain ⟨x, hx⟩ := this
  unfold copyS entsS
  rw [hx]
  exact ⟨by kernel_rfl, by kernel_rfl⟩
 case inr.inr.inr.inr.inr.inr.inr.inr.inr.inr.inr.inr.inr => exact absurd k h
 all_goals
  obtain ⟨Cr, No, At, Ki, S, R, B, Sy, Ha, Si, Pa, Re, Pr, Ru, Ap, Vo⟩ := f
  simp only at k
  subst k
  exact ⟨by kernel_rfl, by kernel_rfl⟩
def contS (f : Fact) : Bool := fineU f (openU f) && (bodyL (openU f)).all (inE f (suspB f))
def headS (f : Fact) : Bool := headL.all (inE f (suspB f))
theorem QdP (f : Fact) : validS f = (headS f && contS f && (onlyS f == f)) := by
 unfold validS contS headS
 rw [Qet]
 by_cases h : openU f = .c13 ()
 ·have : fineU f (openU f) = false := by rw [h]; rfl
  rw [this]
  simp
 ·obtain ⟨h1, h2⟩ := Qcl f h
  rw [h1]
  unfold entsS
  rw [List.all_append]
  cases fineU f (openU f) with
  | false => simp
  | true =>
   cases headL.all (inE f (suspB f)) with
   | false => rfl
   | true => cases (bodyL (openU f)).all (inE f (suspB f)) <;> rfl
theorem QfR {f : Fact} (h : validS f = true) : (numF f).1 = numsS f := by
 have hv := h
 unfold validS at h
 rw [Qet] at h ⊢
 by_cases q : openU f = .c13 ()
 ·have : fineU f (openU f) = false := by rw [q]; rfl
  rw [this] at h; cases h
 ·obtain ⟨h1, h2⟩ := Qcl f q
  cases a : fineU f (openU f) with
  | false => rw [a] at h; cases h
  | true =>
   rw [a] at h
   cases b : (entsS f).all (inE f (suspB f)) with
   | false => rw [b] at h; cases h
   | true => exact h2
theorem QcZ {f : Fact} (h : validS f = true) : onlyS f = f := by
 rw [QdP] at h
 simp only [Bool.and_eq_true, beq_iff_eq] at h
 exact h.2
theorem Qh6 {f g : Fact} (hf : validS f = true) (hg : validS g = true) (h : numsS f = numsS g) : f = g := by
 have e1 := QcZ hf
 have e2 := QcZ hg
 rw [← e1, ← e2]
 unfold numsS at h
 have hk : f.Kind = g.Kind := by
  simp only [List.cons_append, List.cons.injEq] at h
  exact h.1
 have nk := QfS hf
 rcases kinds f with k | k | k | k | k | k | k | k | k | k | k | k | k | k
 case inr.inr.inr.inr.inr.inr.inr.inr.inr.inr.inr.inr.inr =>
  rw [QdP] at hf
  unfold contS at hf
  rw [k] at hf
  simp [fineU] at hf
 all_goals
  have k2 := hk.symm.trans k
  clear hf hg hk nk e1 e2
  obtain ⟨Cr, No, At, Ki, ⟨s1, s2, s3, s4, s5, s6, s7, s8⟩, ⟨rd1, rd2, rd3, rd4⟩, ⟨b1, b2, b3, b4, b5⟩, ⟨y1, y2, y3, y4, y5, y6, y7, y8⟩, ⟨h1, h2, h3, h4⟩, ⟨i1, i2, i3, i4⟩, ⟨p1, p2⟩, ⟨u1, u2, u3, u4⟩, ⟨o1, o2, o3, o4⟩, ⟨r1, r2, r3, r4, r5, r6⟩, ⟨a1, a2⟩, ⟨v1, v2⟩⟩ := f
  obtain ⟨Cr', No', At', Ki', ⟨s1', s2', s3', s4', s5', s6', s7', s8'⟩, ⟨rd1', rd2', rd3', rd4'⟩, ⟨b1', b2', b3', b4', b5'⟩, ⟨y1', y2', y3', y4', y5', y6', y7', y8'⟩, ⟨h1', h2', h3', h4'⟩, ⟨i1', i2', i3', i4'⟩, ⟨p1', p2'⟩, ⟨u1', u2', u3', u4'⟩, ⟨o1', o2', o3', o4'⟩, ⟨r1', r2', r3', r4', r5', r6'⟩, ⟨a1', a2'⟩, ⟨v1', v2'⟩⟩ := g
  simp only at k k2
  subst k
  subst k2
  first
   | (simp [suspB] at h; simp [onlyS, h]; done)
   | (cases a2 <;> cases a2' <;> simp [suspB] at h <;> simp [onlyS, h])
set_option maxRecDepth 4000
theorem Qen (x : Int) : IntKind.u64.wrap x = x % 18446744073709551616 := by unfold IntKind.wrap; rfl
theorem QfQ (x : Int) : IntKind.u8.wrap x = x % 256 := by unfold IntKind.wrap; rfl
theorem or8 (a b : Int) : orI .u8 a b = (((BitVec.ofInt 8 a ||| BitVec.ofInt 8 b).toNat : Nat) : Int) % 256 := by unfold orI; exact QfQ _
theorem QkX (a b : Int) : xorI .u64 a b = (((BitVec.ofInt 64 a ^^^ BitVec.ofInt 64 b).toNat : Nat) : Int) % 18446744073709551616 := by unfold xorI; exact Qen _
theorem or128 (v : Nat) : orI .u8 (IntKind.u8.wrap (v : Int)) 128 = ((v % 128 + 128 : Nat) : Int) := by
 have key : ∀ m : Fin 256, ((BitVec.ofNat 8 m.val ||| 128#8).toNat) = m.val % 128 + 128 := by decide
 have hm : v % 256 < 256 := Nat.mod_lt _ (by decide)
 have k : (BitVec.ofNat 8 (v % 256) ||| 128#8).toNat = v % 256 % 128 + 128 := key ⟨v % 256, hm⟩
 have e : BitVec.ofInt 8 ((v : Int) % 256) = BitVec.ofNat 8 (v % 256) := by
  have : ((v : Int) % 256) = ((v % 256 : Nat) : Int) := by omega
  rw [this]
  exact BitVec.ofInt_natCast 8 (v % 256)
 have e2 : BitVec.ofInt 8 128 = 128#8 := by rfl
 rw [or8, QfQ, e, e2, k]
 omega
theorem Qcj (v : Nat) : numN v = if 128 ≤ v then ((v % 128 + 128 : Nat) : Int) :: numN (v / 128) else [(v : Int)] := by
 by_cases h : 128 ≤ v
 ·rw [Qdb h, if_pos h, or128]
 ·rw [Qav h, if_neg h, QfQ]
  congr 1
  omega
theorem Qe3 : ∀ (v w : Nat) (a b : List Int), numN v ++ a = numN w ++ b → v = w ∧ a = b := by
 intro v
 induction v using Nat.strongRecOn with
 | _ v ih =>
 intro w a b h
 rw [Qcj v, Qcj w] at h
 by_cases hv : 128 ≤ v
 ·rw [if_pos hv] at h
  by_cases hw : 128 ≤ w
  ·rw [if_pos hw] at h
   simp only [List.cons_append, List.cons.injEq] at h
   obtain ⟨h1, h2⟩ := ih (v / 128) (by omega) (w / 128) a b h.2
   exact ⟨by omega, h2⟩
  ·rw [if_neg hw] at h
   simp only [List.cons_append, List.cons.injEq] at h
   omega
 ·rw [if_neg hv] at h
  by_cases hw : 128 ≤ w
  ·rw [if_pos hw] at h
   simp only [List.cons_append, List.cons.injEq] at h
   omega
  ·rw [if_neg hw] at h
   simp only [List.cons_append, List.cons.injEq, List.nil_append] at h
   exact ⟨by omega, h.2⟩
theorem Qda : ∀ (v : Nat), ∀ x ∈ numN v, 0 ≤ x ∧ x < 256 := by
 intro v
 induction v using Nat.strongRecOn with
 | _ v ih =>
 intro x hx
 rw [Qcj v] at hx
 by_cases hv : 128 ≤ v
 ·rw [if_pos hv] at hx
  rcases List.mem_cons.1 hx with rfl | hx
  ·omega
  ·exact ih (v / 128) (by omega) x hx
 ·rw [if_neg hv] at hx
  rcases List.mem_cons.1 hx with rfl | hx
  ·omega
  ·cases hx
theorem Qek {x : Int} (h0 : 0 ≤ x) (h1 : x < 9223372036854775808) : zigI x = 2 * x := by
 unfold zigI shlI
 have e1 : shrI .i64 x 63 = 0 := by
  show Int.fdiv x (2 ^ 63) = 0
  rw [Int.fdiv_eq_ediv_of_nonneg _ (by decide)]
  omega
 have e2 : (2 : Int) ^ (min (1 : Int).toNat IntKind.u64.bits) = 2 := by decide
 rw [e1, e2, QkX]
 simp only [Qen]
 have e3 : BitVec.ofInt 64 ((0 : Int) % 18446744073709551616) = 0#64 := by rfl
 rw [e3, BitVec.xor_zero, BitVec.toNat_ofInt]
 omega
theorem Qem {x : Int} (h0 : x < 0) (h1 : -9223372036854775808 ≤ x) : zigI x = -2 * x - 1 := by
 unfold zigI shlI
 have e1 : shrI .i64 x 63 = -1 := by
  show Int.fdiv x (2 ^ 63) = -1
  rw [Int.fdiv_eq_ediv_of_nonneg _ (by decide)]
  omega
 have e2 : (2 : Int) ^ (min (1 : Int).toNat IntKind.u64.bits) = 2 := by decide
 rw [e1, e2, QkX]
 simp only [Qen]
 have e3 : BitVec.ofInt 64 ((-1 : Int) % 18446744073709551616) = BitVec.allOnes 64 := by decide
 rw [e3, BitVec.xor_allOnes, BitVec.toNat_not, BitVec.toNat_ofInt]
 omega
def in63 (x : Int) : Prop := -9223372036854775808 ≤ x ∧ x < 9223372036854775808
theorem Qjq {x y : Int} (hx : in63 x) (hy : in63 y) (h : zigI x = zigI y) : x = y := by
 obtain ⟨a, b⟩ := hx
 obtain ⟨c, d⟩ := hy
 by_cases p : 0 ≤ x
 ·rw [Qek p b] at h
  by_cases q : 0 ≤ y
  ·rw [Qek q d] at h; omega
  ·rw [Qem (by omega) c] at h; omega
 ·rw [Qem (by omega) a] at h
  by_cases q : 0 ≤ y
  ·rw [Qek q d] at h; omega
  ·rw [Qem (by omega) c] at h; omega
theorem Qe1 : ∀ (l m : List Int), l.length = m.length → (∀ x ∈ l, in63 x) → (∀ x ∈ m, in63 x) → (l.map oneB).flatten = (m.map oneB).flatten → l = m
 | [], [], _, _, _, _ => rfl
 | x :: l, y :: m, hl, h1, h2, h => by
  simp only [List.map_cons, List.flatten_cons, oneB, List.cons_append, List.cons.injEq, true_and] at h
  obtain ⟨e1, e2⟩ := Qe3 _ _ _ _ h
  obtain ⟨z, p1, p2⟩ := Qel x
  obtain ⟨z', q1, q2⟩ := Qel y
  rw [p1, q1] at e1
  have : x = y := Qjq (h1 x (by simp)) (h2 y (by simp)) (by rw [p1, q1] at *; simp only [Int.toNat_natCast] at e1; omega)
  rw [this, Qe1 l m (by simpa using hl) (fun z hz => h1 z (by simp [hz])) (fun z hz => h2 z (by simp [hz])) e2]
theorem Qhn {l m : List Int} (h1 : ∀ x ∈ l, in63 x) (h2 : ∀ x ∈ m, in63 x) (h : listB l = listB m) : l = m := by
 unfold listB at h
 rw [List.append_assoc, List.append_assoc] at h
 simp only [List.cons_append, List.nil_append, List.cons.injEq, true_and] at h
 obtain ⟨e1, e2⟩ := Qe3 _ _ _ _ h
 exact Qe1 l m e1 h1 h2 e2
theorem QcA (l : List Int) : ∀ x ∈ listB l, 0 ≤ x ∧ x < 256 := by
 intro x hx
 unfold listB at hx
 simp only [List.mem_append, List.mem_singleton, List.mem_flatten, List.mem_map] at hx
 rcases hx with (rfl | hx) | ⟨m, ⟨y, _, rfl⟩, hx⟩
 ·omega
 ·exact Qda _ x hx
 ·unfold oneB at hx
  rcases List.mem_cons.1 hx with rfl | hx
  ·omega
  ·exact Qda _ x hx
structure CmpOK {α : Type} (c : α → α → Int) : Prop where
 swap : ∀ x y, c y x = - c x y
 trans : ∀ x y z, c x y < 0 → c y z < 0 → c x z < 0
 eqt : ∀ x y z, c x y = 0 → c x z = c y z
section
variable {α : Type} {c d : α → α → Int}
theorem CmpOK.refl (h : CmpOK c) (x : α) : c x x = 0 := by have := h.swap x x; omega
theorem CmpOK.eqr (h : CmpOK c) {x y : α} (z : α) (e : c x y = 0) : c z x = c z y := by
 rw [h.swap x z, h.swap y z, h.eqt x y z e]
theorem Qct (h : CmpOK c) (k : CmpOK d) : CmpOK fun x y => bif c x y != 0 then c x y else d x y := by
 refine ⟨fun x y => ?_, fun x y z => ?_, fun x y z => ?_⟩
 ·show (bif c y x != 0 then c y x else d y x) = - (bif c x y != 0 then c x y else d x y)
  have e := h.swap x y
  by_cases q : c x y = 0
  ·have q2 : c y x = 0 := by omega
   rw [q, q2]; exact k.swap x y
  ·have q2 : ¬ c y x = 0 := by omega
   rw [bne_iff_ne.2 q, bne_iff_ne.2 q2]; exact e
 ·show (bif c x y != 0 then c x y else d x y) < 0 → (bif c y z != 0 then c y z else d y z) < 0 → (bif c x z != 0 then c x z else d x z) < 0
  by_cases q : c x y = 0
  ·have e := h.eqt x y z q
   rw [q, e]
   by_cases q2 : c y z = 0
   ·rw [q2]; exact k.trans x y z
   ·rw [bne_iff_ne.2 q2]
    intro _ b; exact b
  ·rw [bne_iff_ne.2 q]
   by_cases q2 : c y z = 0
   ·have e := h.eqr x q2
    rw [q2, ← e, bne_iff_ne.2 q]
    intro a _; exact a
   ·rw [bne_iff_ne.2 q2]
    intro a b
    have := h.trans x y z a b
    rw [bne_iff_ne.2 (show ¬ c x z = 0 by omega)]
    exact this
 ·show (bif c x y != 0 then c x y else d x y) = 0 → (bif c x z != 0 then c x z else d x z) = (bif c y z != 0 then c y z else d y z)
  by_cases q : c x y = 0
  ·rw [q, h.eqt x y z q]
   intro e
   have e : d x y = 0 := e
   rw [k.eqt x y z e]
  ·rw [bne_iff_ne.2 q]
   intro e; exact absurd e q
theorem CmpOK.on {β : Type} (h : CmpOK c) (f : β → α) : CmpOK fun x y => c (f x) (f y) :=
 ⟨fun x y => h.swap _ _, fun x y z => h.trans _ _ _, fun x y z => h.eqt _ _ _⟩
end
theorem cmpI_ok : CmpOK cmpI := by
 have e : ∀ a b, cmpI a b = if a < b then -1 else if b < a then 1 else 0 := by
  intro a b
  unfold cmpI
  by_cases h : a < b
  ·rw [decide_eq_true h, if_pos h]; rfl
  ·rw [decide_eq_false h, if_neg h]
   by_cases h2 : b < a
   ·rw [decide_eq_true h2, if_pos h2]; rfl
   ·rw [decide_eq_false h2, if_neg h2]; rfl
 refine ⟨fun x y => ?_, fun x y z => ?_, fun x y z => ?_⟩
 ·rw [e, e]; split <;> split <;> omega
 ·rw [e, e, e]
  intro a b
  have h1 : x < y := by
   by_cases q : x < y
   ·exact q
   ·rw [if_neg q] at a; split at a <;> omega
  have h2 : y < z := by
   by_cases q : y < z
   ·exact q
   ·rw [if_neg q] at b; split at b <;> omega
  rw [if_pos (by omega)]; omega
 ·rw [e x y]
  intro h
  have : x = y := by
   by_cases q : x < y
   ·rw [if_pos q] at h; omega
   ·rw [if_neg q] at h; split at h <;> omega
  rw [this]
theorem cb_ok : CmpOK Lib.compareBytes := by
 have sw : ∀ x y : List UInt8, Lib.compareBytes y x = - Lib.compareBytes x y := by
  intro x
  induction x with
  | nil => intro y; cases y <;> simp [Lib.compareBytes]
  | cons a x ih =>
   intro y
   cases y with
   | nil => simp [Lib.compareBytes]
   | cons b y =>
    unfold Lib.compareBytes
    by_cases h : a < b
    ·have h' : ¬ b < a := by rw [UInt8.lt_iff_toNat_lt] at *; omega
     rw [if_pos h, if_neg h', if_pos h]; rfl
    ·rw [if_neg h]
     by_cases h2 : b < a
     ·rw [if_pos h2, if_neg h, if_pos h2]
     ·rw [if_neg h2, if_neg h2, if_neg h]; exact ih y
 have eq : ∀ x y : List UInt8, Lib.compareBytes x y = 0 → x = y := by
  intro x
  induction x with
  | nil => intro y h; cases y with
   | nil => rfl
   | cons b y => simp [Lib.compareBytes] at h
  | cons a x ih =>
   intro y h
   cases y with
   | nil => simp [Lib.compareBytes] at h
   | cons b y =>
    unfold Lib.compareBytes at h
    by_cases q : a < b
    ·rw [if_pos q] at h; omega
    ·rw [if_neg q] at h
     by_cases q2 : b < a
     ·rw [if_pos q2] at h; omega
     ·rw [if_neg q2] at h
      have : a = b := by
       rw [UInt8.lt_iff_toNat_lt] at q q2
       exact UInt8.toNat_inj.1 (by omega)
      rw [this, ih y h]
 refine ⟨sw, ?_, fun x y z h => by rw [eq x y h]⟩
 intro x
 induction x with
 | nil =>
  intro y z h k
  cases y with
  | nil => simp [Lib.compareBytes] at h
  | cons b y => cases z with
   | nil => simp [Lib.compareBytes] at k
   | cons d z => simp [Lib.compareBytes]
 | cons a x ih =>
  intro y z h k
  cases y with
  | nil => simp [Lib.compareBytes] at h
  | cons b y =>
   cases z with
   | nil => simp [Lib.compareBytes] at k
   | cons d z =>
    unfold Lib.compareBytes at h k ⊢
    simp only [UInt8.lt_iff_toNat_lt] at *
    by_cases q : a.toNat < b.toNat
    ·by_cases r : b.toNat < d.toNat
     ·rw [if_pos (by omega)]; omega
     ·rw [if_neg r] at k
      by_cases r2 : d.toNat < b.toNat
      ·rw [if_pos r2] at k; omega
      ·rw [if_pos (by omega)]; omega
    ·rw [if_neg q] at h
     by_cases q2 : b.toNat < a.toNat
     ·rw [if_pos q2] at h; omega
     ·rw [if_neg q2] at h
      by_cases r : b.toNat < d.toNat
      ·rw [if_pos (by omega)]; omega
      ·rw [if_neg r] at k
       by_cases r2 : d.toNat < b.toNat
       ·rw [if_pos r2] at k; omega
       ·rw [if_neg r2] at k
        rw [if_neg (by omega), if_neg (by omega)]
        exact ih y z h k
theorem Qk8 : ∀ {x y : List UInt8}, Lib.compareBytes x y = 0 → x = y
 | [], [], _ => rfl
 | [], _ :: _, h => by simp [Lib.compareBytes] at h
 | _ :: _, [], h => by simp [Lib.compareBytes] at h
 | a :: x, b :: y, h => by
  unfold Lib.compareBytes at h
  by_cases q : a < b
  ·rw [if_pos q] at h; omega
  ·rw [if_neg q] at h
   by_cases q2 : b < a
   ·rw [if_pos q2] at h; omega
   ·rw [if_neg q2] at h
    have : a = b := by
     rw [UInt8.lt_iff_toNat_lt] at q q2
     exact UInt8.toNat_inj.1 (by omega)
    rw [this, Qk8 h]
theorem Qeb : ∀ {l m : List Int}, (∀ x ∈ l, 0 ≤ x ∧ x < 256) → (∀ x ∈ m, 0 ≤ x ∧ x < 256) → l.map byteOf = m.map byteOf → l = m
 | [], [], _, _, _ => rfl
 | [], _ :: _, _, _, h => by simp at h
 | _ :: _, [], _, _, h => by simp at h
 | x :: l, y :: m, h1, h2, h => by
  simp only [List.map_cons, List.cons.injEq] at h
  have a1 := h1 x (by simp)
  have a2 := h2 y (by simp)
  have e := congrArg UInt8.toNat h.1
  unfold byteOf at e
  rw [UInt8.toNat_ofNat', UInt8.toNat_ofNat'] at e
  have : x = y := by omega
  rw [this, Qeb (fun z hz => h1 z (by simp [hz])) (fun z hz => h2 z (by simp [hz])) h.2]
theorem QfD (f g : Fact) : cmpF f g = bif cmpI f.At g.At != 0 then cmpI f.At g.At else bif cmpI f.Crew g.Crew != 0 then cmpI f.Crew g.Crew else bif cmpI f.No g.No != 0 then cmpI f.No g.No else cmpB (encF f).1 (encF g).1 := by
 unfold cmpF orL orL orL orL
 generalize cmpI f.At g.At = a
 generalize cmpI f.Crew g.Crew = b
 generalize cmpI f.No g.No = d
 cases h1 : (a != 0) with
 | true => simp only [cond_true, h1]
 | false =>
  simp only [cond_false]
  cases h2 : (b != 0) with
  | true => simp only [cond_true, h2]
  | false =>
   simp only [cond_false]
   cases h3 : (d != 0) with
   | true => simp only [cond_true, h3]
   | false => rfl
theorem cmpF_ok : CmpOK cmpF := by
 have h := Qct (cmpI_ok.on fun f : Fact => f.At) (Qct (cmpI_ok.on fun f : Fact => f.Crew) (Qct (cmpI_ok.on fun f : Fact => f.No) (cb_ok.on fun f : Fact => (encF f).1.map byteOf)))
 have e : cmpF = fun f g => bif cmpI f.At g.At != 0 then cmpI f.At g.At else bif cmpI f.Crew g.Crew != 0 then cmpI f.Crew g.Crew else bif cmpI f.No g.No != 0 then cmpI f.No g.No else cmpB (encF f).1 (encF g).1 := by
  funext f g; exact QfD f g
 rw [e]; exact h
def wideE (e : Ent) : Bool := decide (-1125899906842624 ≤ e.lo) && decide (e.hi ≤ 1125899906842624)
theorem Qhv (f : Fact) : (entsS f).all wideE = true := by
 unfold entsS
 rw [List.all_append, Bool.and_eq_true]
 refine ⟨rfl, ?_⟩
 rcases kinds f with k | k | k | k | k | k | k | k | k | k | k | k | k | k
 case inr.inr.inr.inr.inr.inr.inr.inr.inr.inl =>
  unfold openU
  rw [k]
  show (bodyL (bif (f.Ruling.Kind == 1) || (f.Ruling.Kind == 2) then .c9 (0, 0, 0, 0, 0, 0) else bif f.Ruling.Kind == 3 then .c9 (1, 9999, 0, 255, 1, 1099511627776) else bif f.Ruling.Kind == 4 then .c9 (1, 9999, 0, 255, 1, 64) else .c9 (1, 9999, 0, 255, 0, 0))).all wideE = true
  cases ((f.Ruling.Kind == 1) || (f.Ruling.Kind == 2)) with
  | true => rfl
  | false =>
   cases (f.Ruling.Kind == 3) with
   | true => rfl
   | false => cases (f.Ruling.Kind == 4) <;> rfl
 case inr.inr.inr.inr.inr.inr.inr.inr.inr.inr.inr.inr.inr => rw [k]; rfl
 all_goals
  unfold openU
  rw [k]
  rfl
theorem Qc8 {f : Fact} (h : validS f = true) : ∀ x ∈ numsS f, in63 x := by
 have h0 := h
 unfold validS at h
 rw [Qet] at h
 by_cases q : openU f = .c13 ()
 ·rw [q] at h; cases h
 ·rw [← (Qcl f q).2]
  cases a : fineU f (openU f) with
  | false => rw [a] at h; cases h
  | true =>
   rw [a] at h
   cases b : (entsS f).all (inE f (suspB f)) with
   | false => rw [b] at h; cases h
   | true =>
    intro x hx
    obtain ⟨e, he, rfl⟩ := List.mem_map.1 hx
    have h1 := List.all_eq_true.1 b e he
    have h2 := List.all_eq_true.1 (Qhv f) e he
    unfold inE at h1
    unfold wideE at h2
    simp only [Bool.and_eq_true, Bool.not_eq_true', decide_eq_false_iff_not, decide_eq_true_eq] at h1 h2
    unfold in63
    omega
theorem Qd6 {f : Fact} (h : validS f = true) : encF f = (listB (numsS f), 0) := by
 unfold encF
 rw [h, QfR h]; rfl
theorem Qg1 {f g : Fact} (hf : validS f = true) (hg : validS g = true) (h : cmpF f g = 0) : f = g := by
 rw [QfD] at h
 have z : cmpB (encF f).1 (encF g).1 = 0 := by
  cases h1 : (cmpI f.At g.At != 0) with
  | true => rw [h1] at h; exact absurd h (bne_iff_ne.1 h1)
  | false =>
   rw [h1] at h
   cases h2 : (cmpI f.Crew g.Crew != 0) with
   | true => rw [h2] at h; exact absurd h (bne_iff_ne.1 h2)
   | false =>
    rw [h2] at h
    cases h3 : (cmpI f.No g.No != 0) with
    | true => rw [h3] at h; exact absurd h (bne_iff_ne.1 h3)
    | false => rw [h3] at h; exact h
 rw [Qd6 hf, Qd6 hg] at z
 have e := Qeb (QcA _) (QcA _) (Qk8 z)
 exact Qh6 hf hg (Qhn (Qc8 hf) (Qc8 hg) e)
set_option maxRecDepth 4000
theorem Qbz {α : Type} {R : α → α → Prop} (irr : ∀ x, ¬ R x x) (tr : ∀ x y z, R x y → R y z → R x z) : ∀ {l m : List α}, l.Pairwise R → m.Pairwise R → (∀ x, x ∈ l ↔ x ∈ m) → l = m
 | [], [], _, _, _ => rfl
 | [], b :: m, _, _, h => by have := (h b).2 (by simp); cases this
 | a :: l, [], _, _, h => by have := (h a).1 (by simp); cases this
 | a :: l, b :: m, hl, hm, h => by
  rw [List.pairwise_cons] at hl hm
  have e : a = b := by
   rcases List.mem_cons.1 ((h a).1 (by simp)) with e | h1
   ·exact e
   ·rcases List.mem_cons.1 ((h b).2 (by simp)) with e | h2
    ·exact e.symm
    ·exact absurd (tr _ _ _ (hl.1 b h2) (hm.1 a h1)) (irr a)
  subst e
  congr 1
  refine Qbz irr tr hl.2 hm.2 fun x => ?_
  constructor
  ·intro hx
   rcases List.mem_cons.1 ((h x).1 (List.mem_cons_of_mem _ hx)) with e | h1
   ·subst e; exact absurd (hl.1 x hx) (irr x)
   ·exact h1
  ·intro hx
   rcases List.mem_cons.1 ((h x).2 (List.mem_cons_of_mem _ hx)) with e | h1
   ·subst e; exact absurd (hm.1 x hx) (irr x)
   ·exact h1
def FirstIs (c : Course) (l : List Fact) (f : Fact) : Prop := f ∈ l ∧ okS c f = true ∧ ∀ g ∈ l, okS c g = true → g.Starter.Bib = f.Starter.Bib → ¬ cmpF g f < 0
theorem Qey {c : Course} {l : List Fact} {g0 : Fact} (hg0 : g0 ∈ l) (h0 : okS c g0 = true) : ∃ f, f ∈ l ∧ okS c f = true ∧ (f.Starter.Bib = g0.Starter.Bib ∧ ∀ g ∈ l, okS c g = true → g.Starter.Bib = f.Starter.Bib → ¬ cmpF g f < 0) := by
 have fin : ∀ (s : List Fact), (∃ g ∈ s, okS c g = true ∧ g.Starter.Bib = g0.Starter.Bib) → ∃ f ∈ s, okS c f = true ∧ f.Starter.Bib = g0.Starter.Bib ∧ ∀ g ∈ s, okS c g = true → g.Starter.Bib = g0.Starter.Bib → ¬ cmpF g f < 0 := by
  intro s
  induction s with
  | nil => rintro ⟨g, hg, _⟩; cases hg
  | cons y s ihs =>
   intro hall
   by_cases hy : okS c y = true ∧ y.Starter.Bib = g0.Starter.Bib
   ·by_cases hs : ∃ g ∈ s, okS c g = true ∧ g.Starter.Bib = g0.Starter.Bib
    ·obtain ⟨f, f1, f2, f3, f4⟩ := ihs hs
     by_cases hlt : cmpF y f < 0
     ·refine ⟨y, by simp, hy.1, hy.2, ?_⟩
      intro g hg g1 g2
      rcases List.mem_cons.1 hg with rfl | hg
      ·have := cmpF_ok.refl g; omega
      ·intro k
       exact f4 g hg g1 g2 (cmpF_ok.trans _ _ _ k hlt)
     ·refine ⟨f, by simp [f1], f2, f3, ?_⟩
      intro g hg g1 g2
      rcases List.mem_cons.1 hg with rfl | hg
      ·exact hlt
      ·exact f4 g hg g1 g2
    ·refine ⟨y, by simp, hy.1, hy.2, ?_⟩
     intro g hg g1 g2
     rcases List.mem_cons.1 hg with rfl | hg
     ·have := cmpF_ok.refl g; omega
     ·exact absurd ⟨g, hg, g1, g2⟩ hs
   ·have hs : ∃ g ∈ s, okS c g = true ∧ g.Starter.Bib = g0.Starter.Bib := by
     obtain ⟨g, hg, g1, g2⟩ := hall
     rcases List.mem_cons.1 hg with rfl | hg
     ·exact absurd ⟨g1, g2⟩ hy
     ·exact ⟨g, hg, g1, g2⟩
    obtain ⟨f, f1, f2, f3, f4⟩ := ihs hs
    refine ⟨f, by simp [f1], f2, f3, ?_⟩
    intro g hg g1 g2
    rcases List.mem_cons.1 hg with rfl | hg
    ·exact absurd ⟨g1, g2⟩ hy
    ·exact f4 g hg g1 g2
 obtain ⟨f, f1, f2, f3, f4⟩ := fin l ⟨g0, hg0, h0, rfl⟩
 exact ⟨f, f1, f2, f3, fun g a b d => f4 g a b (d.trans f3)⟩
theorem YD {c : Course} {f : Fact} (h : okS c f = true) : validS f = true := by
 unfold okS at h
 simp only [Bool.and_eq_true] at h
 exact h.2.1
theorem FirstIs.one {c : Course} {l : List Fact} {f g : Fact} (hf : FirstIs c l f) (hg : FirstIs c l g) (e : f.Starter.Bib = g.Starter.Bib) : f = g := by
 have h1 := hf.2.2 g hg.1 hg.2.1 e.symm
 have h2 := hg.2.2 f hf.1 hf.2.1 e
 have := cmpF_ok.swap f g
 exact Qg1 (YD hf.2.1) (YD hg.2.1) (by omega)
theorem Qcm (c : Course) (l : List Fact) : ∀ b f, mget (firstS c l) b = some f ↔ f.Starter.Bib = b ∧ FirstIs c l f := by
 have gen : ∀ (r p : List Fact) (m : List (Int × Fact)), (∀ b f, mget m b = some f ↔ f.Starter.Bib = b ∧ FirstIs c p f) → ∀ b f, mget (r.foldl (stepS c) m) b = some f ↔ f.Starter.Bib = b ∧ FirstIs c (p ++ r) f := by
  intro r
  induction r with
  | nil => intro p m h b f; rw [List.foldl_nil, List.append_nil]; exact h b f
  | cons x r ih =>
   intro p m h
   have hs : ∀ b f, mget (stepS c m x) b = some f ↔ f.Starter.Bib = b ∧ FirstIs c (p ++ [x]) f := by
    intro b f
    unfold stepS
    cases q : okS c x with
    | false =>
     simp only [cond_false]
     rw [h b f]
     unfold FirstIs
     simp only [List.mem_append, List.mem_singleton]
     constructor
     ·rintro ⟨a, b1, b2, b3⟩
      refine ⟨a, .inl b1, b2, ?_⟩
      rintro g (hg | rfl) h1 h2
      ·exact b3 g hg h1 h2
      ·rw [q] at h1; cases h1
     ·rintro ⟨a, b1 | b1, b2, b3⟩
      ·exact ⟨a, b1, b2, fun g hg h1 h2 => b3 g (.inl hg) h1 h2⟩
      ·subst b1; rw [q] at b2; cases b2
    | true =>
     simp only [cond_true]
     have hm : mhas m x.Starter.Bib = (mget m x.Starter.Bib).isSome := Qe4 m _
     cases e : mget m x.Starter.Bib with
     | none =>
      rw [e] at hm
      have hm' : mhas m x.Starter.Bib = false := by simpa using hm
      rw [hm']
      simp only [Bool.not_false, Bool.true_or, cond_true]
      rw [Qbo]
      have no : ∀ g ∈ p, okS c g = true → g.Starter.Bib = x.Starter.Bib → False := by
       intro g hg h1 h2
       have : ∃ f, FirstIs c p f ∧ f.Starter.Bib = x.Starter.Bib := by
        obtain ⟨f, f1, f2, f3⟩ := Qey hg h1
        exact ⟨f, ⟨f1, f2, f3.2⟩, f3.1.trans h2⟩
       obtain ⟨f, f1, f2⟩ := this
       have := (h x.Starter.Bib f).2 ⟨f2, f1⟩
       rw [e] at this; cases this
      by_cases hb : b = x.Starter.Bib
      ·subst hb
       rw [if_pos rfl]
       constructor
       ·rintro ⟨⟩
        refine ⟨rfl, by simp, q, ?_⟩
        intro g hg g1 g2
        rcases List.mem_append.1 hg with hg | hg
        ·exact (no g hg g1 g2).elim
        ·rw [List.mem_singleton] at hg
         subst hg
         have := cmpF_ok.refl g; omega
       ·rintro ⟨h1, h2, h3, h4⟩
        rcases List.mem_append.1 h2 with hg | hg
        ·exact (no f hg h3 h1).elim
        ·rw [List.mem_singleton] at hg
         rw [hg]
      ·rw [if_neg hb, h b f]
       unfold FirstIs
       simp only [List.mem_append, List.mem_singleton]
       constructor
       ·rintro ⟨a, b1, b2, b3⟩
        refine ⟨a, .inl b1, b2, ?_⟩
        rintro g (hg | rfl) h1 h2
        ·exact b3 g hg h1 h2
        ·exact absurd (a.symm.trans h2.symm) hb
       ·rintro ⟨a, b1 | b1, b2, b3⟩
        ·exact ⟨a, b1, b2, fun g hg h1 h2 => b3 g (.inl hg) h1 h2⟩
        ·subst b1; exact absurd a.symm hb
     | some y =>
      rw [e] at hm
      have hm' : mhas m x.Starter.Bib = true := by simpa using hm
      have hy := (h x.Starter.Bib y).1 e
      have hd : mgetD m x.Starter.Bib z_Fact = y := by unfold mgetD; rw [e]; rfl
      rw [hm', hd]
      simp only [Bool.not_true, Bool.false_or]
      cases lt : decide (cmpF x y < 0) with
      | true =>
       have lt' := of_decide_eq_true lt
       simp only [cond_true]
       rw [Qbo]
       by_cases hb : b = x.Starter.Bib
       ·subst hb
        rw [if_pos rfl]
        constructor
        ·rintro ⟨⟩
         refine ⟨rfl, by simp, q, ?_⟩
         intro g hg g1 g2
         rcases List.mem_append.1 hg with hg | hg
         ·intro k
          exact hy.2.2.2 g hg g1 (g2.trans hy.1.symm) (cmpF_ok.trans _ _ _ k lt')
         ·rw [List.mem_singleton] at hg
          subst hg
          have := cmpF_ok.refl g; omega
        ·rintro ⟨h1, h2, h3, h4⟩
         rcases List.mem_append.1 h2 with hg | hg
         ·exfalso
          have k := hy.2.2.2 f hg h3 (h1.trans hy.1.symm)
          have k2 := h4 x (by simp) q h1.symm
          have k3 := cmpF_ok.swap x f
          have k4 := cmpF_ok.swap y f
          have k5 : cmpF f x ≤ 0 := by omega
          rcases Int.lt_or_eq_of_le k5 with z | z
          ·exact k (cmpF_ok.trans _ _ _ z lt')
          ·have := cmpF_ok.eqt f x y z
           omega
         ·rw [List.mem_singleton] at hg
          rw [hg]
       ·rw [if_neg hb, h b f]
        unfold FirstIs
        simp only [List.mem_append, List.mem_singleton]
        constructor
        ·rintro ⟨a, b1, b2, b3⟩
         refine ⟨a, .inl b1, b2, ?_⟩
         rintro g (hg | rfl) h1 h2
         ·exact b3 g hg h1 h2
         ·exact absurd (a.symm.trans h2.symm) hb
        ·rintro ⟨a, b1 | b1, b2, b3⟩
         ·exact ⟨a, b1, b2, fun g hg h1 h2 => b3 g (.inl hg) h1 h2⟩
         ·subst b1; exact absurd a.symm hb
      | false =>
       have lt' := of_decide_eq_false lt
       simp only [cond_false]
       rw [h b f]
       unfold FirstIs
       simp only [List.mem_append, List.mem_singleton]
       constructor
       ·rintro ⟨a, b1, b2, b3⟩
        refine ⟨a, .inl b1, b2, ?_⟩
        rintro g (hg | rfl) h1 h2
        ·exact b3 g hg h1 h2
        ·have : f = y := FirstIs.one ⟨b1, b2, b3⟩ hy.2 (h2.symm.trans hy.1.symm)
         rw [this]; exact lt'
       ·rintro ⟨a, b1 | b1, b2, b3⟩
        ·exact ⟨a, b1, b2, fun g hg h1 h2 => b3 g (.inl hg) h1 h2⟩
        ·subst b1
         have k := b3 y (.inl hy.2.1) hy.2.2.1 hy.1
         have k3 := cmpF_ok.swap f y
         have : f = y := Qg1 (YD b2) (YD hy.2.2.1) (by omega)
         subst this
         exact ⟨a, hy.2⟩
   have := ih (p ++ [x]) _ hs
   rw [List.foldl_cons]
   intro b f
   rw [this b f, List.append_assoc]; rfl
 have := gen l [] [] (fun b f => by
  constructor
  ·intro h; cases h
  ·rintro ⟨_, h, _⟩; cases h)
 intro b f
 have := this b f
 rw [List.nil_append] at this
 exact this
theorem Qic {m : List (Int × Fact)} {f : Fact} (h : ∀ b f, mget m b = some f → f.Starter.Bib = b) : f ∈ ordF m ↔ mget m f.Starter.Bib = some f := by
 unfold ordF
 rw [List.mem_map]
 constructor
 ·rintro ⟨k, hk, rfl⟩
  obtain ⟨v, hv⟩ := (QbT m k).1 ((Qw ltI _).mem_iff.1 hk)
  have : mgetD m k z_Fact = v := by unfold mgetD; rw [hv]; rfl
  rw [this, h k v hv]; exact hv
 ·intro hf
  refine ⟨f.Starter.Bib, (Qw ltI _).mem_iff.2 ((QbT m _).2 ⟨f, hf⟩), ?_⟩
  unfold mgetD; rw [hf]; rfl
def ltS (f g : Fact) : Prop := f.Starter.Bib < g.Starter.Bib
theorem Qe0 {m : List (Int × Fact)} (hn : (m.map Prod.fst).Nodup) (h : ∀ b f, mget m b = some f → f.Starter.Bib = b) : (ordF m).Pairwise ltS := by
 unfold ordF
 rw [List.pairwise_map]
 have hs := QP (QcR (m.map Prod.fst))
 have hp := Qw ltI (m.map Prod.fst)
 have hn' := hp.symm.nodup hn
 have hk : ∀ k ∈ isort ltI (m.map Prod.fst), (mgetD m k z_Fact).Starter.Bib = k := by
  intro k hk
  obtain ⟨v, hv⟩ := (QbT m k).1 (hp.mem_iff.1 hk)
  have : mgetD m k z_Fact = v := by unfold mgetD; rw [hv]; rfl
  rw [this]; exact h k v hv
 generalize isort ltI (m.map Prod.fst) = ks at *
 have key : ks.Pairwise fun a b => a < b := by
  refine List.Pairwise.imp₂ ?_ hs hn'
  intro a b h1 h2
  simp [ltI] at h1
  have : a ≠ b := h2
  omega
 refine List.Pairwise.imp_of_mem (fun {a b} ha hb hab => ?_) key
 show (mgetD m a z_Fact).Starter.Bib < (mgetD m b z_Fact).Starter.Bib
 rw [hk a ha, hk b hb]; exact hab
theorem QdY (c : Course) (l : List Fact) (f : Fact) : f ∈ ordF (firstS c l) ↔ FirstIs c l f := by
 rw [Qic fun b f h => ((Qcm c l b f).1 h).1, Qcm]
 exact ⟨fun h => h.2, fun h => ⟨rfl, h⟩⟩
theorem QbU (c : Course) (l : List Fact) : (ordF (firstS c l)).Pairwise ltS := Qe0 (Qbp c l).nodup fun b f h => ((Qcm c l b f).1 h).1
theorem QjB (x : Fact) : ¬ ltS x x := by unfold ltS; omega
theorem QlI (x y z : Fact) : ltS x y → ltS y z → ltS x z := by unfold ltS; omega
theorem QeL {c : Course} {l m : List Fact} (h : ∀ f, validS f = true → (f ∈ l ↔ f ∈ m)) {f : Fact} : FirstIs c l f ↔ FirstIs c m f := by
 unfold FirstIs
 constructor
 ·rintro ⟨a, b, d⟩
  exact ⟨(h f (YD b)).1 a, b, fun g hg h1 h2 => d g ((h g (YD h1)).2 hg) h1 h2⟩
 ·rintro ⟨a, b, d⟩
  exact ⟨(h f (YD b)).2 a, b, fun g hg h1 h2 => d g ((h g (YD h1)).1 hg) h1 h2⟩
theorem Qfe {c : Course} {l m : List Fact} (h : ∀ f, validS f = true → (f ∈ l ↔ f ∈ m)) : ordF (firstS c l) = ordF (firstS c m) :=
 Qbz QjB QlI (QbU c l) (QbU c m) fun f => by rw [QdY, QdY, QeL h]
theorem QeU {e : Int} {c : Course} {l m : List Fact} (h : ∀ f, validS f = true → (f ∈ l ↔ f ∈ m)) : startF e c l = startF e c m := by
 unfold startF
 rw [Qfe h]
theorem QdU {bs : List Int} {f : Fact} (h : okP bs f = true) : validS f = true := by
 unfold okP at h
 simp only [Bool.and_eq_true] at h
 exact h.2.1
def ltP (x y : Pair) : Prop := x.A < y.A ∨ (x.A = y.A ∧ x.B < y.B)
theorem QjC (x : Pair) : ¬ ltP x x := by unfold ltP; omega
theorem QlJ (x y z : Pair) : ltP x y → ltP y z → ltP x z := by unfold ltP; omega
theorem Qdd (bs : List Int) (l : List Fact) : ((metS bs l).map Prod.fst).Nodup := by
 have gen : ∀ (r : List Fact) (m : List (Pair × Bool)), (m.map Prod.fst).Nodup → ((r.foldl (stepP bs) m).map Prod.fst).Nodup := by
  intro r
  induction r with
  | nil => intro m h; exact h
  | cons f r ih =>
   intro m h
   refine ih _ ?_
   unfold stepP
   cases okP bs f with
   | false => exact h
   | true =>
    have e : (mset m f.Pair true).map Prod.fst = if f.Pair ∈ m.map Prod.fst then m.map Prod.fst else m.map Prod.fst ++ [f.Pair] := QaQ m f.Pair true
    simp only [cond_true]
    rw [e]
    split
    ·exact h
    ·rename_i hk
     rw [List.nodup_append]
     refine ⟨h, by simp, fun a ha b hb => ?_⟩
     rw [List.mem_singleton] at hb
     rintro rfl
     exact hk (hb ▸ ha)
 exact gen l [] (by simp)
theorem QbL {l : List Pair} (h : l.Nodup) : (sortP l).Pairwise ltP := by
 have sw : SwoOn (ltO fun x y => some (cmpP x y)) l :=
  ⟨fun x _ => by simp only [ltO, decide_eq_false_iff_not]; rw [Q0]; omega, fun x _ y _ z _ a b => by simp only [ltO, decide_eq_true_eq] at *; rw [Q0] at *; omega, fun x _ y _ z _ a b => by simp only [ltO, decide_eq_false_iff_not] at *; rw [Q0] at *; omega⟩
 have hs := QP sw
 have hn := (QaV l).symm.nodup h
 unfold sortP at *
 refine List.Pairwise.imp₂ ?_ hs hn
 intro a b h1 h2
 simp only [ltO, decide_eq_false_iff_not] at h1
 rw [Q0] at h1
 have : ¬ (a.A = b.A ∧ a.B = b.B) := fun q => h2 (Qc6 q.1 q.2)
 unfold ltP
 omega
theorem Qf1 {st : List Starter × Int} {l m : List Fact} (h : ∀ f, validS f = true → (f ∈ l ↔ f ∈ m)) : pairF st l = pairF st m := by
 unfold pairF
 cases (st.2 != 0) with
 | true => rfl
 | false =>
  simp only [cond_false]
  congr 1
  refine Qbz QjC QlJ (QbL (Qdd _ l)) (QbL (Qdd _ m)) fun p => ?_
  rw [(QaV _).mem_iff, (QaV _).mem_iff, (QcP _ l).2, (QcP _ m).2]
  constructor
  ·rintro ⟨f, a, b, d⟩; exact ⟨f, (h f (QdU b)).1 a, b, d⟩
  ·rintro ⟨f, a, b, d⟩; exact ⟨f, (h f (QdU b)).2 a, b, d⟩
set_option maxRecDepth 4000
theorem QeF {α : Type} (l m : List α) (h : l.length + m.length ≤ 4000000) : app l m = some (l ++ m) := by
 unfold app
 have : Nat.ble (l.length + m.length) lenMax = true := Nat.ble_eq_true_of_le (Nat.le_trans h (by decide))
 rw [this]; rfl
theorem Qhb {α : Type} [DecidableEq α] (l m : List α) (step : Nat → Int → Option (Ctl Int (Ctl Unit Bool))) (hl : l.length ≤ 4611686018427387904)
  (hs : ∀ n s, step n s = (bif decide (s < (l.length : Int)) then (idx l s).bind fun x => (idx m s).bind fun y => (bif (x != y) then some (.done (.done false)) else some (.cont (IntKind.i64.wrap (s + 1)))) else some (.done (.cont ())))) :
  Ev (fun n => (bif ((l.length : Int) != (m.length : Int)) then some false else (Go.Sw.iter (step n) n 0 : Option (Ctl Unit Bool)).bind fun b11 => match b11 with | .cont sb11 => (some true) | .done sb11 => some sb11)) (decide (l = m)) := by
 by_cases hlen : l.length = m.length
 ·rw [show ((l.length : Int) != (m.length : Int)) = false by rw [hlen]; simp]
  simp only [cond_false]
  have loop : ∀ (r r' : List α) (i : Nat), l.drop i = r → m.drop i = r' → i ≤ l.length → EvI step (i : Int) (bif decide (r = r') then Ctl.cont () else Ctl.done false) := by
   intro r
   induction r with
   | nil =>
    intro r' i hr hr' hi
    have h1 : l.length ≤ i := List.drop_eq_nil_iff.1 hr
    have : r' = [] := by rw [← hr']; exact List.drop_eq_nil_iff.2 (by omega)
    subst this
    refine EvI.done ?_
    refine QdJ (Qb _) fun n => ?_
    rw [hs, Q5 hr hi]; simp
   | cons x r ih =>
    intro r' i hr hr' hi
    obtain ⟨ha, hr2⟩ := QE hl hr
    have hlt := ha.lt'
    cases r' with
    | nil =>
     have h1 : m.length ≤ i := List.drop_eq_nil_iff.1 hr'
     omega
    | cons y r' =>
     obtain ⟨hb, hr2'⟩ := QE (by omega) hr'
     by_cases e : x = y
     ·subst e
      refine EvI.cont ?_ ((ih r' (i + 1) hr2 hr2' (by omega)).eq ?_)
      ·refine QdJ (Qb _) fun n => ?_
       rw [hs, ha.lt, ha.ix, hb.ix, cond_true, Option.bind_some, Option.bind_some, ha.nx]; simp
      ·congr 1; simp
     ·refine EvI.done ?_
      refine QdJ (Qb _) fun n => ?_
      rw [hs, ha.lt, ha.ix, hb.ix, cond_true, Option.bind_some, Option.bind_some, bne_iff_ne.2 e]; simp [e]
  refine Ev.bind (loop l m 0 rfl rfl (Nat.zero_le _)).ev ?_
  cases decide (l = m) <;> exact Qb _
 ·rw [show ((l.length : Int) != (m.length : Int)) = true by rw [bne_iff_ne]; omega]
  refine (Qb _).eq ?_
  rw [Yg fun e => hlen (by rw [e])]
theorem QiZ (l m : List Starter) (hl : l.length ≤ 1048576) : Ev (fun n => F_cu n l m) (decide (l = m)) := Qhb l m (fun n => F_fx n l m) (by omega) fun n s => rfl
theorem Qi0 (l m : List Pair) (hl : l.length ≤ 1048576) : Ev (fun n => F_ds n l m) (decide (l = m)) := Qhb l m (fun n => F_fz n l m) (by omega) fun n s => rfl
theorem QkQ (a : Int) : 0 ≤ andI .i64 a 1023 ∧ andI .i64 a 1023 < 1024 := by
 unfold andI
 have h : (BitVec.ofInt IntKind.i64.bits a &&& BitVec.ofInt IntKind.i64.bits 1023).toNat ≤ 1023 := by
  rw [BitVec.toNat_and]
  exact Nat.le_trans Nat.and_le_right (by decide)
 generalize (BitVec.ofInt IntKind.i64.bits a &&& BitVec.ofInt IntKind.i64.bits 1023).toNat = m at h
 rw [Q2 (by omega) (by omega)]
 omega
theorem Qjr {α : Type} (l : List α) (a : Int) (h : l ≠ []) : ∃ (k : Nat) (x : α), nz (l.length : Int) = some () ∧ Int.tmod (andI .i64 a 1023) (l.length : Int) = (k : Int) ∧ k ≤ l.length ∧ idx l (k : Int) = some x ∧ x ∈ l := by
 have hpos := List.length_pos_iff.2 h
 obtain ⟨h1, h2⟩ := QkQ a
 have h3 : 0 ≤ Int.tmod (andI .i64 a 1023) (l.length : Int) := Int.tmod_nonneg _ h1
 have h4 : Int.tmod (andI .i64 a 1023) (l.length : Int) < l.length := Int.tmod_lt_of_pos _ (by omega)
 generalize Int.tmod (andI .i64 a 1023) (l.length : Int) = i at h3 h4
 have h5 : i.toNat < l.length := by omega
 refine ⟨i.toNat, l[i.toNat], ?_, by omega, by omega, QcU (List.getElem?_eq_getElem h5), List.getElem_mem _⟩
 unfold nz
 rw [show ((l.length : Int) == 0) = false by rw [beq_eq_false_iff_ne]; omega]; rfl
theorem Qlf : F_ee 300 = some true := by kernel_rfl
theorem QfP {c : Course} (h : Course.wf c) : CourseOk c := by
 obtain ⟨h1, ⟨h2, k2⟩, ⟨h3, k3⟩, ⟨h4, k4⟩, ⟨h5, k5⟩, ⟨h6, k6⟩, ⟨h7, k7⟩, ⟨h8, k8⟩, _⟩ := h
 exact ⟨h1, h2, fun x hx => (k2 x hx).1, h3, h4, fun x hx => (k4 x hx).1, fun x hx => (k4 x hx).2.2.2.1.1, h5, fun x hx => (k5 x hx).1, h6, fun x hx => (k6 x hx).1, h7, fun x hx => (k7 x hx).1, h8⟩
theorem Qgp {c : Course} (h : Course.wf c) : PartsOk c := by
 obtain ⟨_, _, _, ⟨h4, k4⟩, _⟩ := h
 exact ⟨fun d hd => (k4 d hd).2.1.1, fun d hd => (k4 d hd).2.1.2⟩
theorem Qjs {c : Course} (h : Course.wf c) : c.Ties.length ≤ 1048576 ∧ ∀ x ∈ c.Ties, Step.wf x := by
 obtain ⟨_, _, _, _, _, _, _, _, h9, _⟩ := h
 exact h9
theorem Qii : validS z_Fact = false := by rfl
theorem QfU (e : Int) (c : Course) (l : List Fact) : (startF e c l).1.length ≤ l.length := by
 unfold startF
 cases (e != 0) with
 | true => exact Nat.zero_le _
 | false =>
  simp only [cond_false]
  cases decide (((ordF (firstS c l)).map chipK).Nodup) with
  | false => exact Nat.zero_le _
  | true => simp only [cond_true]; rw [List.length_map, Qc7]; exact (Qbp c l).len
theorem Qhj (st : List Starter × Int) (l : List Fact) : (pairF st l).1.length ≤ l.length := by
 unfold pairF
 cases (st.2 != 0) with
 | true => exact Nat.zero_le _
 | false => simp only [cond_false]; rw [(QaV _).length_eq, List.length_map]; exact (QcP _ l).1
end Go.Sw
