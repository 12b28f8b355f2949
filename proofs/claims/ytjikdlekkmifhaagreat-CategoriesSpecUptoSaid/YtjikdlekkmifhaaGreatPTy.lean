/- typing.Course and the reference's Course, in plain Lean. -/
import Derived.Test.YtjikdlekkmifhaaGreatSxC
import Derived.Test.YtjikdlekkmifhaaGreatW29Sp
set_option linter.unusedVariables false
set_option linter.unusedSimpArgs false
namespace Go.Sw
def inR (lo hi x : Int) : Bool := decide (lo ≤ x) && decide (x ≤ hi)
theorem ev_within (lo hi : Int) (l : List Int) (hl : l.length ≤ 4611686018427387904) : Ev (fun n => F_a n lo hi l) (l.all (inR lo hi)) := by
 have h : Ev (fun n => F_cq n l lo hi) (l.any fun x => !inR lo hi x) := by
  unfold F_cq F_dy
  refine Ev.contains l _ (fun n x => F_bc n x lo hi) hl fun x _ => ?_
  unfold F_bc
  refine Ev.bind (v := !inR lo hi x) ?_ (Ev.pure _)
  refine (Ev.or fun h => Ev.pure _).eq ?_
  unfold inR
  rw [Bool.eq_iff_iff]
  simp
 unfold F_a
 refine Ev.bind h ((Ev.pure _).eq ?_)
 rw [List.not_any_eq_all_not]
 simp
def okN (c : Nat) : Bool := (decide (97 ≤ c) && decide (c ≤ 122)) || (decide (48 ≤ c) && decide (c ≤ 57)) || decide (c = 95)
def okAN (c : Nat) : Bool := decide (97 ≤ c) && decide (c ≤ 122)
def okC (c : UInt8) : Bool := okN c.toNat
def okA (c : UInt8) : Bool := okAN c.toNat
def kwL : List (List UInt8) := [[99, 111, 117, 114, 115, 101], [109, 97, 116, 115], [115, 116, 97, 114, 116], [112, 97, 115, 115], [101, 110, 100], [108, 101, 103], [116, 111], [100, 105, 115, 116, 97, 110, 99, 101], [103, 117, 110], [99, 104, 105, 112], [115, 108, 111, 116], [108, 97, 112, 115], [108, 97, 112], [99, 117, 116, 111, 102, 102], [101, 120, 116, 114, 97], [119, 97, 118, 101], [111, 102, 102, 101, 110, 99, 101], [111, 117, 116], [99, 97, 116, 101, 103, 111, 114, 121], [112, 114, 105, 122, 101], [97, 108, 108], [116, 105, 101, 115], [105, 102], [101, 108, 115, 101], [97, 110, 100], [111, 114], [110, 111, 116], [111, 108, 100, 101, 114], [121, 111, 117, 110, 103, 101, 114], [98, 105, 98], [100, 114, 97, 119], [102, 105, 101, 108, 100], [115, 104, 111, 114, 116], [102, 97, 117, 108, 116, 115], [109, 105, 115, 115, 101, 115], [115, 116, 114, 97, 121, 115], [119, 105, 110, 100, 111, 119], [114, 101, 115, 105, 100, 117, 97, 108], [100, 114, 105, 102, 116], [112, 114, 111, 116, 101, 115, 116], [102, 101, 101], [100, 101, 97, 100, 108, 105, 110, 101]]
theorem bif_or (c d : Bool) : (bif c then some c else some d) = some (c || d) := by cases c <;> rfl
theorem bif_or2 (c d : Bool) : (bif c then some true else some d) = some (c || d) := by cases c <;> rfl
theorem refKeyword_eq (n : Nat) (s : List UInt8) : F_bz n s = some (kwL.contains s) := by
 unfold F_bz
 simp only [bif_or, bif_or2, Option.bind_some]
 simp only [kwL, List.contains_cons, List.contains_nil, Bool.or_false, Bool.or_assoc]
def kwsOf : List UInt8 → List (List UInt8)
 | [] => []
 | b :: l => (bif b == 32 && !(l.dropWhile fun c => c != 32).isEmpty then [l.takeWhile fun c => c != 32] else []) ++ kwsOf l
theorem prefix_word : ∀ (l s : List UInt8), (∀ c ∈ s, c ≠ 32) → (s ++ [32]).isPrefixOf l = ((l.takeWhile fun c => c != 32) == s && !(l.dropWhile fun c => c != 32).isEmpty)
 | [], s, h => by cases s <;> simp
 | b :: l, [], h => by
  by_cases e : b = 32
  ·subst e; simp [List.isPrefixOf]
  ·have e1 : (b != 32) = true := by simpa using e
   have e2 : (32 == b) = false := by simpa using fun q => e q.symm
   simp [List.isPrefixOf, List.takeWhile_cons, e1, e2]
 | b :: l, c :: s, h => by
  have hc := h c (by simp)
  have ih := prefix_word l s fun d hd => h d (by simp [hd])
  by_cases e : b = 32
  ·subst e
   have : (c == 32) = false := by simpa using hc
   simp [List.isPrefixOf, this]
  ·have e1 : (b != 32) = true := by simpa using e
   simp only [List.cons_append, List.isPrefixOf, List.takeWhile_cons, List.dropWhile_cons, e1, if_true, ih, List.cons_beq_cons]
   by_cases q : c = b
   ·subst q; simp
   ·have q1 : (c == b) = false := by simpa using q
    have q2 : (b == c) = false := by simpa using fun z => q z.symm
    simp [q1, q2]
theorem contains_cons (b : UInt8) (l t : List UInt8) (ht : t ≠ []) : Lib.contains (b :: l) t = (t.isPrefixOf (b :: l) || Lib.contains l t) := by
 unfold Lib.contains
 rw [show Lib.index (b :: l) t = if t.isPrefixOf (b :: l) then 0 else if Lib.index l t == -1 then -1 else Lib.index l t + 1 from rfl]
 cases h : t.isPrefixOf (b :: l) with
 | true => simp
 | false =>
  have := Lib.index_ge l t
  by_cases q : Lib.index l t = -1
  ·simp [q]
  ·have q1 : (Lib.index l t == -1) = false := by simpa using q
   simp only [q1, Bool.false_or]
   rw [Bool.eq_iff_iff]; simp; omega
theorem contains_words (s : List UInt8) (h : ∀ c ∈ s, c ≠ 32) : ∀ l, Lib.contains l (32 :: (s ++ [32])) = (kwsOf l).contains s
 | [] => by simp [Lib.contains, Lib.index, kwsOf]
 | b :: l => by
  rw [contains_cons b l _ (by simp), contains_words s h l]
  simp only [kwsOf, List.isPrefixOf, prefix_word l s h]
  by_cases e : b = 32
  ·subst e
   cases q : !(l.dropWhile fun c => c != 32).isEmpty with
   | true =>
    simp only [q, beq_self_eq_true, Bool.true_and, Bool.and_true, cond_true, List.cons_append, List.nil_append, List.contains_cons]
    congr 1
    rw [Bool.eq_iff_iff]; simp only [beq_iff_eq]; exact ⟨fun h => h.symm, fun h => h.symm⟩
   | false => simp [q]
  ·have e1 : (b == 32) = false := by simpa using e
   have e2 : (32 == b) = false := by simpa using fun q => e q.symm
   simp [e1, e2]
def wordsL : List UInt8 := [32, 99, 111, 117, 114, 115, 101, 32, 109, 97, 116, 115, 32, 115, 116, 97, 114, 116, 32, 112, 97, 115, 115, 32, 101, 110, 100, 32, 108, 101, 103, 32, 116, 111, 32, 100, 105, 115, 116, 97, 110, 99, 101, 32, 103, 117, 110, 32, 99, 104, 105, 112, 32, 115, 108, 111, 116, 32, 108, 97, 112, 115, 32, 108, 97, 112, 32, 99, 117, 116, 111, 102, 102, 32, 101, 120, 116, 114, 97, 32, 119, 97, 118, 101, 32, 111, 102, 102, 101, 110, 99, 101, 32, 111, 117, 116, 32, 99, 97, 116, 101, 103, 111, 114, 121, 32, 112, 114, 105, 122, 101, 32, 97, 108, 108, 32, 116, 105, 101, 115, 32, 105, 102, 32, 101, 108, 115, 101, 32, 97, 110, 100, 32, 111, 114, 32, 110, 111, 116, 32, 111, 108, 100, 101, 114, 32, 121, 111, 117, 110, 103, 101, 114, 32, 98, 105, 98, 32, 100, 114, 97, 119, 32, 102, 105, 101, 108, 100, 32, 115, 104, 111, 114, 116, 32, 102, 97, 117, 108, 116, 115, 32, 109, 105, 115, 115, 101, 115, 32, 115, 116, 114, 97, 121, 115, 32, 119, 105, 110, 100, 111, 119, 32, 114, 101, 115, 105, 100, 117, 97, 108, 32, 100, 114, 105, 102, 116, 32, 112, 114, 111, 116, 101, 115, 116, 32, 102, 101, 101, 32, 100, 101, 97, 100, 108, 105, 110, 101, 32]
theorem kws_eq : kwsOf wordsL = kwL := by decide +kernel
def classTab : List Int := (List.range 256).map fun i => if 97 ≤ i ∧ i ≤ 122 ∨ 65 ≤ i ∧ i ≤ 90 then 2 else if 48 ≤ i ∧ i ≤ 57 then 3 else if i ∈ [123, 125, 40, 41, 91, 93, 59, 44, 61, 60, 62] then 4 else if i ∈ [32, 9, 10, 13] then 1 else 0
theorem ev_classes : Ev F_cb classTab := by
 unfold F_cb
 refine Ev.bind (Ev.closed (step := F_dj 0) 40 (b := (iter (F_dj 0) 40 (List.replicate 256 0, 97)).getD []) (by decide +kernel)) ?_
 refine Ev.bind (Ev.closed (step := F_fv 0) 40 (b := (iter (F_fv 0) 40 ((iter (F_dj 0) 40 (List.replicate 256 0, 97)).getD [], 48)).getD []) (by decide +kernel)) ?_
 generalize hb : (iter (F_fv 0) 40 ((iter (F_dj 0) 40 (List.replicate 256 0, 97)).getD [], 48)).getD [] = b2
 refine Ev.bind (Ev.closed (step := F_gy 0) 40 (b := (iter (F_gy 0) 40 (b2, 0)).getD []) (by subst hb; decide +kernel)) ?_
 refine Ev.bind (Ev.closed (step := F_hm 0) 40 (b := classTab) (by subst hb; decide +kernel)) ?_
 exact Ev.const (by decide +kernel)
theorem class_all : ((List.range 256).all fun i => !okN i || decide (classTab[i]? = some (if okAN i then 2 else if i = 95 then 0 else 3))) = true := by decide +kernel
theorem class_ok {c : UInt8} (h : okC c = true) : idxA 256 classTab (c.toNat : Int) = some (if okA c then 2 else if c.toNat = 95 then 0 else 3) := by
 have h1 := List.all_eq_true.1 class_all c.toNat (List.mem_range.2 c.toNat_lt)
 unfold okC at h
 rw [h] at h1
 simp only [Bool.not_true, Bool.false_or, decide_eq_true_eq] at h1
 unfold idxA
 rw [show Nat.beq classTab.length 256 = true by decide +kernel, cond_true, idx_nat h1]
 rfl
def goodS (s : List UInt8) : Bool := decide (1 ≤ s.length) && decide (s.length ≤ 24) && (s.head?).any okA && s.all okC
def isNameS (s : List UInt8) : Bool := goodS s && !kwL.contains s
theorem ev_isWord (s : List UInt8) (h : goodS s = true) : Ev (fun n => F_cn n s) true := by
 unfold goodS at h
 simp only [Bool.and_eq_true, decide_eq_true_eq, List.all_eq_true] at h
 obtain ⟨⟨⟨h1, h2⟩, h3⟩, h4⟩ := h
 unfold F_cn
 refine Ev.bind ev_classes ?_
 refine Ev.bind0 (v := List.replicate 256 0) (by decide +kernel) ?_
 refine Ev.bind0 (v := classTab) (by decide +kernel) ?_
 refine Ev.bind (v := Ctl.cont ()) (Ev.iter (fun i => (i : Int)) s.length rfl (fun i hi => ?_) ?_) ?_
 ·have ha := At.mk' (x := s[i]) (by omega) (List.getElem?_eq_getElem hi)
  have hc := h4 _ ha.mem
  unfold F_gv
  simp only [ha.lt, cond_true, ha.ix, Option.bind_some, class_ok hc, ha.nx]
  cases i with
  | zero =>
   have : okA s[0] = true := by
    cases s with
    | nil => simp at h1
    | cons c r => simpa using h3
   simp [this]
   exact Ev.pure _
  | succ i =>
   by_cases q : okA s[i + 1] = true
   ·simp [q]; exact Ev.pure _
   ·by_cases q2 : s[i + 1].toNat = 95
    ·simp [q, q2]
     exact Ev.pure _
    ·simp [q, q2]; exact Ev.pure _
 ·unfold F_gv
  simp only [end_, cond_false]
  exact Ev.pure _
 ·refine Ev.const ?_
  cases s with
  | nil => simp at h1
  | cons c r => rfl
theorem good_no32 {s : List UInt8} (h : goodS s = true) : ∀ c ∈ s, c ≠ 32 := by
 unfold goodS at h
 simp only [Bool.and_eq_true, List.all_eq_true] at h
 rintro c hc rfl
 exact absurd (h.2 _ hc) (by decide)
theorem good_len {s : List UInt8} (h : goodS s = true) : s.length ≤ 24 := by
 unfold goodS at h
 simp only [Bool.and_eq_true, decide_eq_true_eq] at h
 exact h.1.1.2
theorem ev_Keyword (s : List UInt8) (h : goodS s = true) : Ev (fun n => F_cj n s) (kwL.contains s) := by
 unfold F_cj
 refine Ev.bind (v := kwL.contains s) ?_ (Ev.pure _)
 refine Ev.bind (ev_isWord s h) (Ev.tt ?_)
 have hl := good_len h
 refine Ev.bind0 (v := [32] ++ s) (by unfold cat; rw [Nat.ble_eq_true_of_le (by simp; omega)]; rfl) ?_
 refine Ev.bind0 (v := [32] ++ s ++ [32]) (by unfold cat; rw [Nat.ble_eq_true_of_le (by simp; omega)]; rfl) ?_
 refine Ev.bind0 (v := kwL.contains s) ?_ (Ev.pure _)
 show hasSub wordsL ([32] ++ s ++ [32]) = some (kwL.contains s)
 unfold hasSub
 rw [show Nat.blt wordsL.length 4294967281 = true by decide +kernel, cond_true]
 rw [show [32] ++ s ++ [32] = 32 :: (s ++ [32]) by simp, contains_words s (good_no32 h), kws_eq]
theorem ch_lt (c : UInt8) (k : Nat) : decide ((c.toNat : Int) < (k : Int)) = decide (c.toNat < k) := by
 rw [Bool.eq_iff_iff]; simp
theorem badC (c : UInt8) : (bif decide ((c.toNat : Int) < 97) then (bif decide ((c.toNat : Int) < 48) then some ((c.toNat : Int) != 95) else (bif decide (57 < (c.toNat : Int)) then some ((c.toNat : Int) != 95) else some false)) else (bif decide (122 < (c.toNat : Int)) then (bif decide ((c.toNat : Int) < 48) then some ((c.toNat : Int) != 95) else (bif decide (57 < (c.toNat : Int)) then some ((c.toNat : Int) != 95) else some false)) else some false)) = some (!okC c) := by
 unfold okC okN
 generalize c.toNat = k
 have e : ((k : Int) != 95) = !decide (k = 95) := by
  by_cases h : k = 95
  ·subst h; rfl
  ·rw [decide_eq_false h]; simp; omega
 rw [e]
 by_cases h1 : k < 48
 ·rw [decT (show (k : Int) < 97 by omega), decT (show (k : Int) < 48 by omega)]
  have a1 : ¬ 97 ≤ k := by omega
  have a2 : ¬ 48 ≤ k := by omega
  simp [a1, a2]
 ·rw [decF (show ¬ (k : Int) < 48 by omega)]
  by_cases h2 : k ≤ 57
  ·rw [decT (show (k : Int) < 97 by omega), decF (show ¬ 57 < (k : Int) by omega)]
   have a1 : 48 ≤ k := by omega
   simp [a1, h2]
  ·rw [decT (show 57 < (k : Int) by omega)]
   by_cases h3 : k < 97
   ·rw [decT (show (k : Int) < 97 by omega)]
    have a1 : ¬ 97 ≤ k := by omega
    simp [a1, h2]
   ·rw [decF (show ¬ (k : Int) < 97 by omega)]
    by_cases h4 : k ≤ 122
    ·rw [decF (show ¬ 122 < (k : Int) by omega)]
     have a1 : 97 ≤ k := by omega
     simp [a1, h4]
    ·rw [decT (show 122 < (k : Int) by omega)]
     simp [h2, h4]
theorem name_head (n : Nat) (s : List UInt8) : (bif decide ((s.length : Int) < 1) then some true else (bif decide (24 < (s.length : Int)) then some true else (idx s 0).bind fun x10 => (bif decide ((x10.toNat : Int) < 97) then some true else (idx s 0).bind fun x12 => some (decide (122 < (x12.toNat : Int)))))) = some (!(decide (1 ≤ s.length) && decide (s.length ≤ 24) && (s.head?).any okA)) := by
 cases s with
 | nil => rfl
 | cons c r =>
  rw [decF (show ¬ ((c :: r).length : Int) < 1 by simp; omega), cond_false]
  by_cases h : (c :: r).length ≤ 24
  ·rw [decF (show ¬ 24 < ((c :: r).length : Int) by omega), cond_false]
   have e0 : idx (c :: r) 0 = some c := rfl
   simp only [e0, Option.bind_some]
   simp only [List.length_cons] at h
   have h' : r.length ≤ 23 := by omega
   simp only [List.head?_cons, Option.any_some, okA, okAN]
   rw [show (97 : Int) = ((97 : Nat) : Int) from rfl, ch_lt]
   by_cases h1 : c.toNat < 97
   ·have : ¬ 97 ≤ c.toNat := by omega
    simp [h1, this]
   ·have a1 : 97 ≤ c.toNat := by omega
    simp [h1, a1, h']
    by_cases q : c.toNat ≤ 122
    ·rw [decF (show ¬ 122 < (c.toNat : Int) by omega), decT q]; rfl
    ·rw [decT (show 122 < (c.toNat : Int) by omega), decF q]; rfl
  ·rw [decT (show 24 < ((c :: r).length : Int) by omega), cond_true]
   simp only [List.length_cons] at h
   have h' : ¬ r.length ≤ 23 := by omega
   simp [h']
theorem ev_isName (s : List UInt8) (hl : s.length ≤ 1048576) : Ev (fun n => F_d n s) (isNameS s) := by
 unfold F_d
 refine Ev.bind (Ev.const (name_head 0 s)) ?_
 unfold isNameS
 cases hh : (decide (1 ≤ s.length) && decide (s.length ≤ 24) && (s.head?).any okA) with
 | false =>
  simp only [Bool.not_false, cond_true]
  have : goodS s = false := by unfold goodS; rw [hh]; rfl
  rw [this]
  exact Ev.pure _
 | true =>
  simp only [Bool.not_true, cond_false]
  have hg : goodS s = s.all okC := by unfold goodS; rw [hh]; rfl
  refine Ev.bind (Ev.iter_any s (fun c => !okC c) (fun i => (i : Int)) (Ctl.done false) (Ctl.cont ()) (by omega) rfl (fun i x ha hq => ?_) (fun i x ha hq => ?_) ?_) ?_
  ·unfold F_gs
   simp only [ha.lt, cond_true, ha.ix, Option.bind_some, badC, hq, cond_false, ha.nx]
   exact Ev.pure _
  ·unfold F_gs
   simp only [ha.lt, cond_true, ha.ix, Option.bind_some, badC, hq]
   exact Ev.pure _
  ·unfold F_gs
   simp only [end_, cond_false]
   exact Ev.pure _
  ·rw [hg]
   have e : s.any (fun c => !okC c) = !s.all okC := by rw [List.not_all_eq_any_not]
   rw [e]
   cases q : s.all okC with
   | true =>
    simp only [Bool.not_true, cond_false, Bool.true_and]
    exact Ev.bind (ev_Keyword s (hg.trans q)) (Ev.pure _)
   | false =>
    simp only [Bool.not_false, cond_true, Bool.false_and]
    exact Ev.pure _
theorem ev_refName (s : List UInt8) (hl : s.length ≤ 1048576) : Ev (fun n => F_ai n s) (isNameS s) := by
 unfold F_ai
 refine Ev.bind (Ev.const (name_head 0 s)) ?_
 unfold isNameS
 cases hh : (decide (1 ≤ s.length) && decide (s.length ≤ 24) && (s.head?).any okA) with
 | false =>
  simp only [Bool.not_false, cond_true]
  have : goodS s = false := by unfold goodS; rw [hh]; rfl
  rw [this]
  exact Ev.pure _
 | true =>
  simp only [Bool.not_true, cond_false]
  have hg : goodS s = s.all okC := by unfold goodS; rw [hh]; rfl
  cases s with
  | nil => simp at hh
  | cons c r =>
   have hc : okC c = true := by
    simp only [Bool.and_eq_true, List.head?_cons, Option.any_some] at hh
    have := hh.2
    unfold okA at this
    unfold okC okN
    unfold okAN at this
    rw [this]; rfl
   have hr : r.length ≤ 24 := by
    simp only [Bool.and_eq_true, decide_eq_true_eq, List.length_cons] at hh
    omega
   have hb : ∀ (i : Nat) (x : UInt8), At r i x → decide (((i + 1 : Nat) : Int) < ((c :: r).length : Int)) = true ∧ idx (c :: r) ((i + 1 : Nat) : Int) = some x ∧ IntKind.i64.wrap (((i + 1 : Nat) : Int) + 1) = ((i + 1 + 1 : Nat) : Int) := by
    intro i x ha
    have := ha.lt'
    exact ⟨decide_eq_true (by simp; omega), idx_nat (by simpa using ha.get), wrap_succ (by omega)⟩
   refine Ev.bind (Ev.iter_any r (fun c => !okC c) (fun i => ((i + 1 : Nat) : Int)) (Ctl.done false) (Ctl.cont ()) (by omega) rfl (fun i x ha hq => ?_) (fun i x ha hq => ?_) ?_) ?_
   ·obtain ⟨b1, b2, b3⟩ := hb i x ha
    unfold F_gf
    simp only [b1, cond_true, b2, Option.bind_some, badC, hq, cond_false, b3]
    exact Ev.pure _
   ·obtain ⟨b1, b2, b3⟩ := hb i x ha
    unfold F_gf
    simp only [b1, cond_true, b2, Option.bind_some, badC, hq]
    exact Ev.pure _
   ·unfold F_gf
    rw [decF (by simp), cond_false]
    exact Ev.pure _
   ·rw [hg]
    have e : r.any (fun c => !okC c) = !(c :: r).all okC := by rw [List.all_cons, hc, Bool.true_and, List.not_all_eq_any_not]
    rw [e]
    cases q : (c :: r).all okC with
    | true =>
     simp only [Bool.not_true, cond_false, Bool.true_and]
     exact Ev.bind (Ev.const (refKeyword_eq 0 _)) (Ev.pure _)
    | false =>
     simp only [Bool.not_false, cond_true, Bool.false_and]
     exact Ev.pure _
def diffS : List (List UInt8) → List (List UInt8) → Bool
 | _, [] => true
 | seen, x :: r => isNameS x && !seen.contains x && diffS (seen ++ [x]) r
theorem diffS_cons (l : List (List UInt8)) (i : Nat) (x : List UInt8) (h : At l i x) : diffS (l.take i) (l.drop i) = (isNameS x && !(l.take i).contains x && diffS (l.take (i + 1)) (l.drop (i + 1))) := by
 rw [h.drop, h.take]; rfl
theorem ev_named {α : Type} (l : List α) (nm : α → List UInt8) (g : Nat → α → Option Unit) (hg : ∀ n x, g n x = some ()) (hl : l.length ≤ 1048576) (hn : ∀ x ∈ l, (nm x).length ≤ 1048576) :
  Ev (fun n => ((iter (fun s : (List (List UInt8 × Bool)) × Int => bif decide (s.2 < (l.length : Int)) then (idx l s.2).bind fun x35 => (g n x35).bind fun r36 => ((F_d n (nm x35)).bind fun r42 => (bif (!r42) then some true else (some (mgetD s.1 (nm x35) false)).bind fun v44 => some v44) : Option Bool).bind fun b40 => (bif b40 then some (.done (.done false)) else (some (mset s.1 (nm x35) true)).bind fun m46 => some (.cont (m46, IntKind.i64.wrap (s.2 + 1)))) else some (.done (.cont ()))) n ([], 0) : Option (Ctl Unit Bool)).bind fun b28 =>
   match b28 with
   | .cont _ => some true
   | .done s => some s : Option Bool)) (diffS [] (l.map nm)) := by
 have hl' : l.length ≤ 4611686018427387904 := by omega
 have hml : (l.map nm).length ≤ 4611686018427387904 := by simpa using hl'
 have key := Ev.list_down (B := Ctl Unit Bool) l (step := fun n s => bif decide (s.2 < (l.length : Int)) then (idx l s.2).bind fun x35 => (g n x35).bind fun r36 => ((F_d n (nm x35)).bind fun r42 => (bif (!r42) then some true else (some (mgetD s.1 (nm x35) false)).bind fun v44 => some v44) : Option Bool).bind fun b40 => (bif b40 then some (.done (.done false)) else (some (mset s.1 (nm x35) true)).bind fun m46 => some (.cont (m46, IntKind.i64.wrap (s.2 + 1)))) else some (.done (.cont ())))
  (s0 := (([] : List (List UInt8 × Bool)), (0 : Int))) (fun i => (msetAll nm true (l.take i), (i : Int))) (fun i => bif diffS ((l.map nm).take i) ((l.map nm).drop i) then .cont () else .done false) hl' rfl (fun i x ha => ?_) ?_
 ·refine Ev.bind key ?_
  simp only [List.take_zero, List.drop_zero]
  cases diffS [] (l.map nm) <;> exact Ev.pure _
 ·have ha2 : At (l.map nm) i (nm x) := At.mk' hml (by rw [List.getElem?_map, ha.get]; rfl)
  simp only [diffS_cons _ _ _ ha2]
  have hev : Ev (fun n => ((F_d n (nm x)).bind fun r42 => (bif (!r42) then some true else (some (mgetD (msetAll nm true (l.take i)) (nm x) false)).bind fun v44 => some v44) : Option Bool)) (!(isNameS (nm x) && !((l.map nm).take i).contains (nm x))) := by
   refine Ev.bind (ev_isName (nm x) (hn x ha.mem)) ?_
   cases isNameS (nm x) with
   | false => exact Ev.pure _
   | true =>
    refine Ev.ff ((Ev.pure _).eq ?_)
    rw [msetAll_get, List.map_take]
    by_cases h : nm x ∈ (l.map nm).take i
    ·rw [if_pos h]; simp [h]
    ·rw [if_neg h]; simp [h]
  cases hc : (isNameS (nm x) && !((l.map nm).take i).contains (nm x)) with
  | true =>
   rw [hc] at hev
   refine .inl ⟨?_, by simp⟩
   simp only [ha.lt, cond_true, ha.ix, Option.bind_some, hg]
   refine Ev.bind hev ?_
   simp only [Bool.not_true, cond_false, Option.bind_some, ha.nx]
   rw [ha.take, msetAll_snoc]
   exact Ev.pure _
  | false =>
   rw [hc] at hev
   refine .inr ?_
   simp only [ha.lt, cond_true, ha.ix, Option.bind_some, hg]
   refine Ev.bind hev ?_
   simp only [Bool.not_false, cond_true, Bool.false_and, cond_false]
   exact Ev.pure _
 ·simp only [end_, cond_false]
  rw [show (l.map nm).drop l.length = [] by apply List.drop_eq_nil_of_le; simp]
  exact Ev.pure _
theorem app_ev {α : Type} {l : List α} {x : α} (h : l.length ≤ 140737488) : app l [x] = some (l ++ [x]) := app_one l x (by omega)
theorem ev_refDifferent (l : List (List UInt8)) (hl : l.length ≤ 1048576) (hn : ∀ x ∈ l, x.length ≤ 1048576) : Ev (fun n => F_q n l) (diffS [] l) := by
 unfold F_q
 have hl' : l.length ≤ 4611686018427387904 := by omega
 refine Ev.bind (Ev.list_down (B := Ctl Unit Bool) l (fun i => (i : Int)) (fun i => bif diffS (l.take i) (l.drop i) then .cont () else .done false) hl' rfl (fun i x ha => ?_) ?_) ?_
 ·simp only [diffS_cons _ _ _ ha]
  unfold F_gt
  simp only [ha.lt, cond_true, ha.ix, Option.bind_some]
  cases hx : isNameS x with
  | false =>
   refine .inr (Ev.bind ((ev_refName x (hn x ha.mem)).eq hx) ?_)
   exact Ev.pure _
  | true =>
   have hlt := ha.lt'
   have inner : Ev (fun n => iter (F_fl n l (i : Int)) n 0) (bif (l.take i).contains x then Ctl.done (Ctl.done (Ctl.done false)) else Ctl.cont ()) := by
    have e : (l.take i).contains x = (l.take i).any fun y => y == x := by
     rw [Bool.eq_iff_iff]; simp
    rw [e]
    have hlen : (l.take i).length = i := by simp; omega
    refine Ev.iter_any (l.take i) (fun y => y == x) (fun i => (i : Int)) _ _ (by omega) rfl (fun j y hj hq => ?_) (fun j y hj hq => ?_) ?_
    ·have hj2 := hj.lt'
     have hjg : l[j]? = some y := by
      have := hj.get
      rw [List.getElem?_take] at this
      split at this
      ·exact this
      ·cases this
     unfold F_fl
     rw [decT (show (j : Int) < (i : Int) by omega)]
     simp only [cond_true, idx_nat hjg, ha.ix, Option.bind_some, hq, cond_false, hj.nx]
     exact Ev.pure _
    ·have hj2 := hj.lt'
     have hjg : l[j]? = some y := by
      have := hj.get
      rw [List.getElem?_take] at this
      split at this
      ·exact this
      ·cases this
     unfold F_fl
     rw [decT (show (j : Int) < (i : Int) by omega)]
     simp only [cond_true, idx_nat hjg, ha.ix, Option.bind_some, hq]
     exact Ev.pure _
    ·unfold F_fl
     rw [hlen, decF (show ¬ (i : Int) < (i : Int) by omega)]
     exact Ev.pure _
   cases hc : (l.take i).contains x with
   | true =>
    rw [hc] at inner
    refine .inr (Ev.bind ((ev_refName x (hn x ha.mem)).eq hx) (Ev.ff (Ev.bind inner ?_)))
    exact Ev.pure _
   | false =>
    rw [hc] at inner
    refine .inl ⟨Ev.bind ((ev_refName x (hn x ha.mem)).eq hx) (Ev.ff (Ev.bind inner ?_)), by simp⟩
    simp only [cond_false, ha.nx]
    exact Ev.pure _
 ·unfold F_gt
  simp only [end_, cond_false, List.drop_length]
  exact Ev.pure _
 ·simp only [List.take_zero, List.drop_zero]
  cases diffS [] l <;> exact Ev.pure _
theorem ev_gather {α β : Type} (l : List α) (f : α → β) (hl : l.length ≤ 140737488) : Ev (fun n => iter (fun s : (List β) × Int => bif decide (s.2 < (l.length : Int)) then (idx l s.2).bind fun x15 => (app s.1 [f x15]).bind fun l16 => some (Ctl.cont (l16, IntKind.i64.wrap (s.2 + 1))) else some (Ctl.done s.1)) n (([] : List β), (0 : Int))) (l.map f) := by
 have e : ∀ l : List α, l.foldl (fun (a : List β) x => a ++ [f x]) [] = l.map f := by
  intro l
  have gen : ∀ (l : List α) (a : List β), l.foldl (fun (a : List β) x => a ++ [f x]) a = a ++ l.map f := by
   intro l
   induction l with
   | nil => intro a; simp
   | cons x l ih => intro a; rw [List.foldl_cons, ih]; simp
  simpa using gen l []
 rw [← e l]
 refine Ev.iter_fold l (fun (a : List β) x => a ++ [f x]) [] (fun a i => (a, (i : Int))) (fun a => a) (by omega) rfl (fun i x a ha haa => ?_) ?_
 ·rw [e] at haa
  have : a.length ≤ 140737488 := by rw [haa]; simp; omega
  simp only [ha.lt, cond_true, ha.ix, Option.bind_some, app_ev this, ha.nx]
  exact Ev.pure _
 ·simp only [end_, cond_false]
  exact Ev.pure _
def namesS (c : Course) : Bool := isNameS c.Name && (diffS [] (c.Mats.map (·.Name)) && (diffS [] (c.Distances.map (·.Name)) && (diffS [] (c.Waves.map (·.Name)) && (diffS [] (c.Offences.map (·.Name)) && diffS [] (c.Categories.map (·.Name))))))
structure CourseOk (c : Course) : Prop where
 name : c.Name.length ≤ 1048576
 mats : c.Mats.length ≤ 1048576
 matsN : ∀ x ∈ c.Mats, x.Name.length ≤ 1048576
 legs : c.Legs.length ≤ 1048576
 dist : c.Distances.length ≤ 1048576
 distN : ∀ x ∈ c.Distances, x.Name.length ≤ 1048576
 cut : ∀ x ∈ c.Distances, x.Cutoffs.length ≤ 1048576
 wave : c.Waves.length ≤ 1048576
 waveN : ∀ x ∈ c.Waves, x.Name.length ≤ 1048576
 off : c.Offences.length ≤ 1048576
 offN : ∀ x ∈ c.Offences, x.Name.length ≤ 1048576
 cat : c.Categories.length ≤ 1048576
 catN : ∀ x ∈ c.Categories, x.Name.length ≤ 1048576
 prize : c.Prizes.length ≤ 1048576
theorem ev_names (c : Course) (w : CourseOk c) : Ev (fun n => F_az n c) (namesS c) := by
 unfold F_az namesS
 refine Ev.bind (v := _) ?_ (Ev.pure _)
 refine Ev.bind (ev_isName c.Name w.name) (Ev.and fun _ => ?_)
 have h1 : Ev (fun n => F_bl n c.Mats) (diffS [] (c.Mats.map (·.Name))) := by unfold F_bl; exact ev_named c.Mats (·.Name) F_el (fun _ _ => rfl) w.mats w.matsN
 have h2 : Ev (fun n => F_cr n c.Distances) (diffS [] (c.Distances.map (·.Name))) := by unfold F_cr; exact ev_named c.Distances (·.Name) F_fj (fun _ _ => rfl) w.dist w.distN
 have h3 : Ev (fun n => F_bi n c.Waves) (diffS [] (c.Waves.map (·.Name))) := by unfold F_bi; exact ev_named c.Waves (·.Name) F_ef (fun _ _ => rfl) w.wave w.waveN
 have h4 : Ev (fun n => F_cv n c.Offences) (diffS [] (c.Offences.map (·.Name))) := by unfold F_cv; exact ev_named c.Offences (·.Name) F_en (fun _ _ => rfl) w.off w.offN
 have h5 : Ev (fun n => F_bf n c.Categories) (diffS [] (c.Categories.map (·.Name))) := by unfold F_bf; exact ev_named c.Categories (·.Name) F_eh (fun _ _ => rfl) w.cat w.catN
 refine Ev.bind h1 (Ev.and fun _ => ?_)
 refine Ev.bind h2 (Ev.and fun _ => ?_)
 refine Ev.bind h3 (Ev.and fun _ => ?_)
 refine Ev.bind h4 (Ev.and fun _ => ?_)
 exact Ev.bind h5 (Ev.pure _)
structure Short (c : Course) : Prop where
 mats : c.Mats.length ≤ 140737488
 dist : c.Distances.length ≤ 140737488
 wave : c.Waves.length ≤ 140737488
 off : c.Offences.length ≤ 140737488
 cat : c.Categories.length ≤ 140737488
theorem ev_refNamed (c : Course) (w : CourseOk c) (s : Short c) : Ev (fun n => F_ck n c) (namesS c) := by
 unfold F_ck namesS
 refine Ev.bind (ev_gather c.Mats (·.Name) s.mats) ?_
 refine Ev.bind (ev_gather c.Distances (·.Name) s.dist) ?_
 refine Ev.bind (ev_gather c.Waves (·.Name) s.wave) ?_
 refine Ev.bind (ev_gather c.Offences (·.Name) s.off) ?_
 refine Ev.bind (ev_gather c.Categories (·.Name) s.cat) ?_
 refine Ev.bind (v := _) ?_ (Ev.pure _)
 refine Ev.bind (ev_refName c.Name w.name) (Ev.and fun _ => ?_)
 have mk : ∀ {α : Type} (l : List α) (nm : α → List UInt8), l.length ≤ 1048576 → (∀ x ∈ l, (nm x).length ≤ 1048576) → Ev (fun n => F_q n (l.map nm)) (diffS [] (l.map nm)) := by
  intro α l nm hl hn
  refine ev_refDifferent _ (by simpa using hl) fun x hx => ?_
  obtain ⟨y, hy, rfl⟩ := List.mem_map.1 hx
  exact hn y hy
 refine Ev.bind (mk c.Mats (·.Name) w.mats w.matsN) (Ev.and fun _ => ?_)
 refine Ev.bind (mk c.Distances (·.Name) w.dist w.distN) (Ev.and fun _ => ?_)
 refine Ev.bind (mk c.Waves (·.Name) w.wave w.waveN) (Ev.and fun _ => ?_)
 refine Ev.bind (mk c.Offences (·.Name) w.off w.offN) (Ev.and fun _ => ?_)
 exact Ev.bind (mk c.Categories (·.Name) w.cat w.catN) (Ev.pure _)
end Go.Sw
