/- Regions that draw: any order of the operations that obeys the edges. -/
import Derived.Test.YtkjlhfabbbomjaaGreatDoorSwK
import Derived.Orders
set_option linter.unusedVariables false
set_option linter.unusedSectionVars false
set_option linter.unusedSimpArgs false
namespace Go.Sw
theorem upon_put {P : Program} {rd : Option Nat} {o : Oper} {a : Act} {next : Act → World → Prop} {Q : Exit → Act → World → Prop} {res : Result Next}
  (hn : ∀ a' w', next a' w' → a'.defers = a.defers) (h : o.uponIn (WF rd) 0 P a next Q res) :
  o.uponIn (WF rd) 0 P a (fun a' w' => next a' w' ∧ ∃ v, a' = a.put o.dst v) Q res := by
 cases res with
 | ok n w' =>
  cases n with
  | value v => exact ⟨h, _, rfl⟩
  | skip => exact ⟨h, _, rfl⟩
  | defer d =>
   have := congrArg List.length (hn _ _ h)
   exfalso
   revert this
   cases o.dst <;> simp [Act.put]
  | enter f args =>
   exact ⟨h.1, CallsIn.mono h.2 (fun e w'' he => by cases e <;> first | exact ⟨he, _, rfl⟩ | exact he)⟩
  | row r args => exact ⟨h.1, RowsIn.mono h.2 (fun _ _ he => ⟨he, _, rfl⟩)⟩
  | round l f tmps assign body => exact ⟨h.1, RoundIn.mono h.2 (fun e w'' he => by cases e <;> first | exact ⟨he, _, rfl⟩ | exact he)⟩
  | _ => exact h.elim
 | halt x w' => cases x <;> first | exact h | exact h.elim
def Post1 (e : Env) (H : Heap) : Post := fun x e' H' => x = .normal ∧ e' = e ∧ H' = H
theorem Post1.mk {e : Env} {H : Heap} : Post1 e H .normal e H := ⟨rfl, rfl, rfl⟩
inductive Sb (af bf ds : List Nat) (xs : List A) (env0 : Env) : Env → Prop
 | nil : Sb af bf ds xs env0 []
 | dep (j : Nat) {s : Nat} {a : A} {r : Env} (h1 : af.contains j = true) (h2 : ds[j]? = some s) (h3 : xs[j]? = some a) (k : Sb af bf ds xs env0 r) : Sb af bf ds xs env0 ((s, a) :: r)
 | old {s : Nat} {a : A} {r : Env} (h1 : ds.contains s = false) (h2 : lk env0 s = a) (k : Sb af bf ds xs env0 r) : Sb af bf ds xs env0 ((s, a) :: r)
 | pre (j : Nat) {s : Nat} {a : A} {r : Env} (h1 : bf.contains j = true) (h2 : ds[j]? = some s) (h3 : lk env0 s = a) (k : Sb af bf ds xs env0 r) : Sb af bf ds xs env0 ((s, a) :: r)
def afters (o : Oper) : List Nat := (o.after.toList.filter (Region.binds .any)).map (·.on)
def befs (l : List Oper) (i : Nat) : List Nat := (List.range l.length).filter fun j => ((l[j]?).map afters).getD [] |>.contains i
inductive OblAt (P : Program) (N : Nat) (l : List Oper) (ds : List Nat) (xs : List A) (env0 : Env) (i : Nat) (H H' : Heap) : Prop
 | mk (o : Oper) (e : Env) (d : Nat) (x : A) (ho : l[i]? = some o) (hd : o.dst = some d) (hx : xs[i]? = some x) (hs : Sb (afters o) (befs l i) ds xs env0 e)
   (h : WO P H.length N l.toArray [o] e H (Post1 (up e d x) H')) : OblAt P N l ds xs env0 i H H'
theorem least {p : Nat → Prop} (hdec : ∀ i, p i ∨ ¬ p i) : ∀ n, p n → ∃ i, i ≤ n ∧ p i ∧ ∀ j, j < i → ¬ p j := by
 intro n
 induction n using Nat.strongRecOn with
 | ind n ih =>
  intro h
  by_cases q : ∃ j, j < n ∧ p j
  ·obtain ⟨j, hj, hp⟩ := q
   obtain ⟨i, h1, h2, h3⟩ := ih j hj hp
   exact ⟨i, by omega, h2, h3⟩
  ·exact ⟨n, Nat.le_refl _, h, fun j hj hp => q ⟨j, hj, hp⟩⟩
def onL (L : Array Bool) (i : Nat) : Prop := L[i]? = some true
theorem getD_of {L : Array Bool} {i : Nat} (hi : i < L.size) (b : Bool) : L.getD i b = true ↔ onL L i := by
 unfold onL
 rw [Array.getD_eq_getD_getElem?, Array.getElem?_eq_getElem hi]
 simp
theorem mem_ready {l : List Oper} {L : Array Bool} (hs : L.size = l.length) {i : Nat} :
  i ∈ Region.ready .any l.toArray L ↔ ∃ o, l[i]? = some o ∧ ¬ onL L i ∧ ∀ j ∈ afters o, onL L j := by
 unfold Region.ready
 simp only [List.mem_filter, List.mem_range, List.size_toArray, Bool.and_eq_true, Bool.not_eq_true', List.getElem?_toArray]
 have hof : ∀ j, L.getD j false = true ↔ onL L j := by
  intro j
  unfold onL
  rw [Array.getD_eq_getD_getElem?]
  cases L[j]? <;> simp
 constructor
 ·rintro ⟨h1, h2, h3⟩
  refine ⟨l[i], List.getElem?_eq_getElem h1, ?_, ?_⟩
  ·intro q
   rw [← getD_of (by omega) true] at q
   rw [q] at h2; cases h2
  ·rw [List.getElem?_eq_getElem h1] at h3
   simp only [Option.map_some, Option.getD_some, Array.all_eq_true'] at h3
   intro j hj
   unfold afters at hj
   simp only [List.mem_map, List.mem_filter, Array.mem_toList_iff] at hj
   obtain ⟨e, ⟨he, hb⟩, rfl⟩ := hj
   have := h3 e he
   rw [hb] at this
   exact (hof _).1 (by simpa using this)
 ·rintro ⟨o, h1, h2, h3⟩
  have hi : i < l.length := (List.getElem?_eq_some_iff.1 h1).1
  refine ⟨hi, ?_, ?_⟩
  ·rw [← getD_of (by omega) true] at h2
   simpa using h2
  ·rw [h1]
   simp only [Option.map_some, Option.getD_some, Array.all_eq_true']
   intro e he
   cases hb : Region.binds .any e with
   | false => simp
   | true =>
    have := (hof _).2 (h3 e.on (by unfold afters; simp only [List.mem_map, List.mem_filter, Array.mem_toList_iff]; exact ⟨e, ⟨he, hb⟩, rfl⟩))
    simpa using this
theorem onL_set {L : Array Bool} {i j : Nat} (hi : i < L.size) : onL (L.setIfInBounds i true) j ↔ j = i ∨ onL L j := by
 unfold onL
 rw [Array.getElem?_setIfInBounds]
 by_cases h : i = j
 ·subst h; simp [hi]
 ·have h' : ¬ j = i := fun q => h q.symm
  simp [h, h']
def unl (L : Array Bool) : Nat := L.toList.countP (!·)
theorem unl_set {L : Array Bool} {i : Nat} (hi : i < L.size) (h : ¬ onL L i) : unl (L.setIfInBounds i true) + 1 = unl L := by
 unfold unl
 have hi' : i < L.toList.length := by simpa using hi
 have hv : L.toList[i] = false := by
  unfold onL at h
  rw [Array.getElem?_eq_getElem hi] at h
  simpa using h
 rw [Array.toList_setIfInBounds, List.countP_set hi']
 have : 0 < L.toList.countP (!·) := List.countP_pos_iff.2 ⟨L.toList[i], List.getElem_mem hi', by rw [hv]; rfl⟩
 rw [hv, if_pos (by rfl), if_neg (by decide)]
 omega
theorem unl_pos {L : Array Bool} {i : Nat} (hi : i < L.size) (h : ¬ onL L i) : 0 < unl L := by have := unl_set hi h; omega
inductive Reach (l : List Oper) (m : Nat) : Nat → Prop
 | one {o : Oper} {j : Nat} (ho : l[m]? = some o) (hj : j ∈ afters o) : Reach l m j
 | step {o : Oper} {i j : Nat} (h : Reach l m i) (ho : l[i]? = some o) (hj : j ∈ afters o) : Reach l m j
def reachL (l : List Oper) : Nat → List Nat → List Nat
 | 0, S => S
 | j + 1, S => reachL l j (bif S.contains j then S ++ (match l[j]? with | some o => afters o | none => []) else S)
theorem reachL_ok {l : List Oper} {m : Nat} : ∀ (n : Nat) (S : List Nat), (∀ j ∈ S, Reach l m j) → ∀ j ∈ reachL l n S, Reach l m j
 | 0, S, h, j, hj => h j hj
 | n + 1, S, h, j, hj => by
  refine reachL_ok n _ ?_ j hj
  intro i hi
  cases q : S.contains n with
  | false => rw [q] at hi; exact h i hi
  | true =>
   rw [q] at hi
   rcases List.mem_append.1 hi with z | z
   ·exact h i z
   ·cases ho : l[n]? with
    | none => rw [ho] at z; cases z
    | some o => rw [ho] at z; exact .step (h n (by simpa using q)) ho z
def fullE (ds : List Nat) (xs : List A) (env0 : Env) : Env := ds.zip xs ++ env0
theorem lk_full {ds : List Nat} {xs : List A} {env0 : Env} (hl : ds.length = xs.length) (s : Nat) :
  (∃ (j : Nat) (x : A), ds[j]? = some s ∧ xs[j]? = some x ∧ lk (fullE ds xs env0) s = x) ∨ (ds.contains s = false ∧ lk (fullE ds xs env0) s = lk env0 s) := by
 unfold fullE
 induction ds generalizing xs with
 | nil => right; simp
 | cons d ds ih =>
  cases xs with
  | nil => simp at hl
  | cons x xs =>
   simp only [List.length_cons, Nat.add_right_cancel_iff] at hl
   simp only [List.zip_cons_cons, List.cons_append, lk]
   cases h : Nat.beq s d with
   | true =>
    obtain rfl := Nat.eq_of_beq_eq_true h
    left; exact ⟨0, x, rfl, rfl, by simp⟩
   | false =>
    have hne : s ≠ d := fun q => by subst q; simp [Nat.beq_refl] at h
    rcases ih hl with ⟨j, y, h1, h2, h3⟩ | ⟨h1, h2⟩
    ·left; exact ⟨j + 1, y, by simpa using h1, by simpa using h2, by simpa using h3⟩
    ·right; refine ⟨?_, by simpa using h2⟩
     simp only [List.contains_cons, h1, Bool.or_false]
     simpa using hne
def drawChk.nodupB : List Nat → Bool
 | [] => true
 | x :: r => !r.contains x && drawChk.nodupB r
def drawChk.goB (l : List Oper) (m : Nat) : Nat → List Oper → Bool
 | _, [] => true
 | i, o :: r => (afters o).all (fun j => Nat.blt j i) && (bif Nat.beq i m then (List.range m).all (fun j => (reachL l m (afters o)).contains j) else bif Nat.blt m i then (afters o).contains (i - 1) else true) && drawChk.goB l m (i + 1) r
def drawChk.loB (m k : Nat) (los : List Nat) (hs : List Bool) : Nat → List Oper → Bool
 | _, [] => (List.range k).all fun j => (List.range m).any fun i => hs.getD i false && Nat.beq (los.getD i 0) j
 | i, o :: r => (bif Nat.blt i m then
   (Nat.beq (los.getD i 0) 0 || (afters o).any (fun j => Nat.blt j m && Nat.ble (los.getD i 0) (los.getD j 0 + (if hs.getD j false then 1 else 0))))
   && (!hs.getD i false || (Nat.blt (los.getD i 0) k && (List.range m).all (fun j => !hs.getD j false || !Nat.beq (los.getD i 0) (los.getD j 0) || Nat.beq i j)))
  else true) && drawChk.loB m k los hs (i + 1) r
def drawChk (l : List Oper) (m k N : Nat) (ds los : List Nat) (hs : List Bool) : Bool :=
 Nat.ble m l.length && (ds.length == m) && (l.take m).map (·.dst) == ds.map some && ds.all (fun d => Nat.blt d N) && drawChk.nodupB ds
 && drawChk.goB l m 0 l && (drawChk.loB m k los hs 0 l)
theorem nodupB_spec {ds : List Nat} (h : drawChk.nodupB ds = true) : ∀ (i j d : Nat), ds[i]? = some d → ds[j]? = some d → i = j := by
 induction ds with
 | nil => intro i j d h1; simp at h1
 | cons x r ih =>
  simp only [drawChk.nodupB, Bool.and_eq_true, Bool.not_eq_true'] at h
  have hn : ∀ (i : Nat), r[i]? ≠ some x := by
   intro i q
   have : r.contains x = true := by simpa using List.mem_of_getElem? q
   rw [this] at h; cases h.1
  intro i j d h1 h2
  cases i with
  | zero =>
   cases j with
   | zero => rfl
   | succ j => simp at h1 h2; subst h1; exact absurd h2 (hn j)
  | succ i =>
   cases j with
   | zero => simp at h1 h2; subst h2; exact absurd h1 (hn i)
   | succ j => simp at h1 h2; rw [ih h.2 i j d h1 h2]
theorem goB_spec {l : List Oper} {m : Nat} : ∀ (r : List Oper) (b : Nat), drawChk.goB l m b r = true → ∀ (i : Nat) (o : Oper), r[i]? = some o →
  (∀ j ∈ afters o, j < b + i) ∧ (b + i = m → ∀ j, j < m → j ∈ reachL l m (afters o)) ∧ (m < b + i → b + i - 1 ∈ afters o) := by
 intro r
 induction r with
 | nil => intro b h i o h1; simp at h1
 | cons x r ih =>
  intro b h i o h1
  simp only [drawChk.goB, Bool.and_eq_true] at h
  cases i with
  | zero =>
   simp at h1; subst h1
   refine ⟨fun j hj => ?_, fun hm j hj => ?_, fun hm => ?_⟩
   ·have := List.all_eq_true.1 h.1.1 j hj; simpa using this
   ·have h2 := h.1.2
    have hb : Nat.beq b m = true := by subst hm; simp
    rw [hb] at h2
    simp only [cond_true] at h2
    have := List.all_eq_true.1 h2 j (List.mem_range.2 hj)
    simpa using this
   ·have h2 := h.1.2
    have hb : Nat.beq b m = false := by
     cases q : Nat.beq b m with
     | false => rfl
     | true => have := Nat.eq_of_beq_eq_true q; omega
    have hc : Nat.blt m b = true := by simpa using hm
    rw [hb, hc] at h2
    simpa using h2
  | succ i =>
   have := ih (b + 1) h.2 i o (by simpa using h1)
   have e : b + 1 + i = b + (i + 1) := by omega
   rw [e] at this
   exact this
inductive Ob (P : Program) (N : Nat) (l : List Oper) (ds : List Nat) (xs : List A) (env0 : Env) : Nat → List (List (Heap × Heap)) → Prop
 | nil {i : Nat} : Ob P N l ds xs env0 i []
 | cons {i : Nat} {s : List (Heap × Heap)} {r : List (List (Heap × Heap))} (h : ∀ p ∈ s, OblAt P N l ds xs env0 i p.1 p.2) (k : Ob P N l ds xs env0 (i + 1) r) : Ob P N l ds xs env0 i (s :: r)
theorem Ob.get {P : Program} {N : Nat} {l : List Oper} {ds : List Nat} {xs : List A} {env0 : Env} {b : Nat} {ss : List (List (Heap × Heap))} (h : Ob P N l ds xs env0 b ss) :
  ∀ (i : Nat) (s : List (Heap × Heap)), ss[i]? = some s → ∀ p ∈ s, OblAt P N l ds xs env0 (b + i) p.1 p.2 := by
 induction h with
 | nil => intro i s h; simp at h
 | @cons b1 s1 r1 h _ ih =>
  intro i s hs p hp
  cases i with
  | zero => simp at hs; subst hs; exact h p hp
  | succ i =>
   have := ih i s (by simpa using hs) p hp
   rwa [show b1 + 1 + i = b1 + (i + 1) by omega] at this
theorem Ob.st0 {P : Program} {N : Nat} {l : List Oper} {ds : List Nat} {xs : List A} {env0 : Env} {i : Nat} : ∀ p ∈ ([] : List (Heap × Heap)), OblAt P N l ds xs env0 i p.1 p.2 := by
 intro p hp; cases hp
theorem Ob.stC {P : Program} {N : Nat} {l : List Oper} {ds : List Nat} {xs : List A} {env0 : Env} {i : Nat} {H H' : Heap} {r : List (Heap × Heap)} (h : OblAt P N l ds xs env0 i H H')
  (k : ∀ p ∈ r, OblAt P N l ds xs env0 i p.1 p.2) : ∀ p ∈ (H, H') :: r, OblAt P N l ds xs env0 i p.1 p.2 := by
 intro p hp
 rcases List.mem_cons.1 hp with rfl | q
 ·exact h
 ·exact k p q
theorem LookL.nil {H : Heap} : LookL H [] [] := trivial
theorem LookL.cons {H : Heap} {as as' bs : List A} {a b : A} (e : as = a :: as') (h : Look H a b) (k : LookL H as' bs) : LookL H as (b :: bs) := by subst e; exact ⟨h, k⟩
section
variable {P : Program} {o : Oper} {env : Env} {H : Heap} {α : Type} {e : α → List A}
theorem OpV.ixME {t et k : Nat} {x y : Operand} {l : List α} {kk : IntKind} {i : Int} {v : α} {cs : List A} (h : idx l i = some v) (he : e v = cs) (ht : ∀ w, (underlying t).run P w = .ok (.slice et) w) (hs : ∀ w, (sizeOf et).run P w = .ok k w)
  (ho : o.op = .indexAddr t x y := by exact rfl) (hx : opA env x = .rsl k (l.map e) := by exact rfl) (hy : opA env y = .int kk i := by exact rfl) : OpV P o env H (.rp cs) :=
 he ▸ OpV.ixM h ht hs ho hx hy
end
end Go.Sw
