/- Regions that draw: any order of the operations that obeys the edges. -/
import Derived.Test.YtkjlhfabbbomjaaGreatDoorSwK
import Derived.Orders
set_option linter.unusedVariables false
set_option linter.unusedSectionVars false
set_option linter.unusedSimpArgs false
namespace Go.Sw
theorem upon_put {P : Program} {rd : Option Nat} {o : Oper} {a : Act} {next : Act → World → Prop} {Q : Exit → Act → World → Prop} {res : Result Next}
  (hn : ∀ a' w', next a' w' → a'.defers = a.defers) (h : o.uponIn (WF rd) 0 P a next Q res) :
  o.uponIn (WF rd) 0 P a (fun a' w' => next a' w' ∧ ∃ v, a' = a.put o.dst v) Q res := by
 cases res with
 | ok n w' =>
  cases n with
  | value v => exact ⟨h, _, rfl⟩
  | skip => exact ⟨h, _, rfl⟩
  | defer d =>
   have := congrArg List.length (hn _ _ h)
   exfalso
   revert this
   cases o.dst <;> simp [Act.put]
  | enter f args =>
   exact ⟨h.1, CallsIn.mono h.2 (fun e w'' he => by cases e <;> first | exact ⟨he, _, rfl⟩ | exact he)⟩
  | row r args => exact ⟨h.1, RowsIn.mono h.2 (fun _ _ he => ⟨he, _, rfl⟩)⟩
  | round l f tmps assign body => exact ⟨h.1, RoundIn.mono h.2 (fun e w'' he => by cases e <;> first | exact ⟨he, _, rfl⟩ | exact he)⟩
  | _ => exact h.elim
 | halt x w' => cases x <;> first | exact h | exact h.elim
def Post1 (e : Env) (H : Heap) : Post := fun x e' H' => x = .normal ∧ e' = e ∧ H' = H
theorem Post1.mk {e : Env} {H : Heap} : Post1 e H .normal e H := ⟨rfl, rfl, rfl⟩
inductive Sb (af bf ds : List Nat) (xs : List A) (env0 : Env) : Env → Prop
 | nil : Sb af bf ds xs env0 []
 | dep (j : Nat) {s : Nat} {a : A} {r : Env} (h1 : af.contains j = true) (h2 : ds[j]? = some s) (h3 : xs[j]? = some a) (k : Sb af bf ds xs env0 r) : Sb af bf ds xs env0 ((s, a) :: r)
 | old {s : Nat} {a : A} {r : Env} (h1 : ds.contains s = false) (h2 : lk env0 s = a) (k : Sb af bf ds xs env0 r) : Sb af bf ds xs env0 ((s, a) :: r)
 | pre (j : Nat) {s : Nat} {a : A} {r : Env} (h1 : bf.contains j = true) (h2 : ds[j]? = some s) (h3 : lk env0 s = a) (k : Sb af bf ds xs env0 r) : Sb af bf ds xs env0 ((s, a) :: r)
def afters (o : Oper) : List Nat := (o.after.toList.filter (Region.binds .any)).map (·.on)
def befs (l : List Oper) (i : Nat) : List Nat := (List.range l.length).filter fun j => ((l[j]?).map afters).getD [] |>.contains i
inductive OblAt (P : Program) (N : Nat) (l : List Oper) (ds : List Nat) (xs : List A) (env0 : Env) (i : Nat) (H H' : Heap) : Prop
 | mk (o : Oper) (e : Env) (d : Nat) (x : A) (ho : l[i]? = some o) (hd : o.dst = some d) (hx : xs[i]? = some x) (hs : Sb (afters o) (befs l i) ds xs env0 e)
   (h : WO P H.length N l.toArray [o] e H (Post1 (up e d x) H')) : OblAt P N l ds xs env0 i H H'
theorem OblAt.use {P : Program} {N : Nat} {l : List Oper} {ds : List Nat} {xs : List A} {env0 : Env} {i : Nat} {H H' : Heap} (hb : OblAt P N l ds xs env0 i H H')
  {Q : Exit → Act → World → Prop} {K : Act → World → Prop} {fr ro : Nat → Prop} {σ : Sig} {a : Act} {w : World} {o : Oper} {rd : Option Nat} (ho : l[i]? = some o)
  (hsim : Sim fr ro σ H w) (hN : a.tmps.size = N) (hdef : Marks fr a.defers w) (hrd : RdOk rd fr w)
  (hD : ∀ j ∈ afters o, ∀ s x, ds[j]? = some s → xs[j]? = some x → VR ro σ w x (a.tmps.getD s undef))
  (hE : ∀ s, ds.contains s = false → VR ro σ w (lk env0 s) (a.tmps.getD s undef)) (hP : ∀ j s, (befs l i).contains j = true → ds[j]? = some s → VR ro σ w (lk env0 s) (a.tmps.getD s undef))
  (hK : ∀ v w' ro' τ d x, o.dst = some d → xs[i]? = some x → VR ro' (σ ++ τ) w' x ((a.put o.dst v).tmps.getD d undef) → Sim fr ro' (σ ++ τ) H' w' → Evolve fr ro w ro' w' → K (a.put o.dst v) w') :
  wpOpIn (WF rd) 0 P l.toArray Q i K a w := by
 obtain ⟨o', e, d, x, ho', hd, hx, hs, h⟩ := hb
 obtain rfl : o' = o := Option.some.inj (ho'.symm.trans ho)
 have hrel : Rel fr ro σ H e N a w := by
  refine ⟨hsim, ?_, hN, hdef⟩
  intro s
  clear h
  induction hs with
  | nil => exact trivial
  | @dep j s1 x1 r h1 h2 h3 _ ih =>
   unfold lk
   cases hb : Nat.beq s s1 with
   | false => exact ih
   | true =>
    obtain rfl := Nat.eq_of_beq_eq_true hb
    exact hD j (by simpa using h1) _ _ h2 h3
  | @old s1 x1 r h1 h2 _ ih =>
   unfold lk
   cases hb : Nat.beq s s1 with
   | false => exact ih
   | true =>
    obtain rfl := Nat.eq_of_beq_eq_true hb
    subst h2
    exact hE _ h1
  | @pre j s1 x1 r h1 h2 h3 _ ih =>
   unfold lk
   cases hb : Nat.beq s s1 with
   | false => exact ih
   | true =>
    obtain rfl := Nat.eq_of_beq_eq_true hb
    subst h3
    exact hP j _ h1 h2
 have h' := h rd fr ro σ a w hrel hrd
 have fin : ∀ v w', PostO H.length fr ro σ w N a.defers (Post1 (up e d x) H') .normal (a.put o'.dst v) w' → K (a.put o'.dst v) w' := by
  rintro v w' ⟨_, env', H2, ro', σ', fr', _, ⟨_, rfl, rfl⟩, r', he, ht, _, hgr⟩
  have hσ : σ' = σ ++ σ'.drop H.length := by
   conv => lhs; rw [← List.take_append_drop H.length σ']
   rw [ht, ← hsim.len, List.take_length]
  have hv := r'.env d
  unfold lk at hv
  rw [Nat.beq_refl] at hv
  rw [hσ] at hv
  refine hK v w' ro' (σ'.drop H.length) d x hd hx hv ?_ he
  rw [← hσ]; exact r'.sim.frMono hgr.sub
 unfold wpOpIn
 have ho2 : l.toArray[i]? = some o' := by simpa using ho
 rw [ho2]
 simp only
 unfold wpL wpListIn at h'
 split at h'
 ·rename_i hw
  rw [if_pos hw]
  obtain ⟨hab, h'⟩ := h'
  refine ⟨hab, ?_⟩
  have h2 := upon_put (by
   intro a' w' q
   unfold wpListIn at q
   obtain ⟨_, _, _, _, _, _, _, _, _, _, _, q, _⟩ := q
   exact q) h'
  generalize (o'.semAt (WF rd).round a.eval).run P w = res at *
  cases res with
  | ok n w' =>
   cases n with
   | value v => exact fin _ _ h2.1
   | skip => exact fin _ _ h2.1
   | defer df =>
    exfalso
    obtain ⟨⟨_, _, _, _, _, _, _, _, _, _, _, q, _⟩, _⟩ := h2
    have := congrArg List.length q
    revert this
    cases o'.dst <;> simp [Act.put]
   | enter f args =>
    refine ⟨h2.1, CallsIn.mono h2.2 (fun e w'' he => ?_)⟩
    cases e with
    | returned v => exact fin _ _ he.1
    | panicked c => obtain ⟨x1, _, _, _, _, _, h1, ⟨rfl, _⟩, _⟩ := he; exact h1.elim
    | outgrown => obtain ⟨a1, w1, x1, _, _, _, _, _, h1, ⟨rfl, _⟩, _⟩ := he; exact h1.elim
   | row r args =>
    exact ⟨h2.1, RowsIn.mono h2.2 (fun _ _ he => fin _ _ he.1)⟩
   | round l f tmps assign body =>
    refine ⟨h2.1, RoundIn.mono h2.2 (fun e w'' he => ?_)⟩
    cases e with
    | returned v => exact fin _ _ he.1
    | panicked c => obtain ⟨x1, _, _, _, _, _, h1, ⟨rfl, _⟩, _⟩ := he; exact h1.elim
    | outgrown => obtain ⟨a1, w1, x1, _, _, _, _, _, h1, ⟨rfl, _⟩, _⟩ := he; exact h1.elim
   | _ => exact h2.elim
  | halt x w' =>
   cases x with
   | panic v => obtain ⟨x1, _, _, _, _, _, h1, ⟨rfl, _⟩, _⟩ := h2; exact h1.elim
   | _ => exact h2.elim
 ·rename_i hw
  rw [if_neg hw]
  obtain ⟨hab, h'⟩ := h'
  refine ⟨hab, ?_⟩
  unfold wpListIn at h'
  exact fin _ _ h'
theorem least {p : Nat → Prop} (hdec : ∀ i, p i ∨ ¬ p i) : ∀ n, p n → ∃ i, i ≤ n ∧ p i ∧ ∀ j, j < i → ¬ p j := by
 intro n
 induction n using Nat.strongRecOn with
 | ind n ih =>
  intro h
  by_cases q : ∃ j, j < n ∧ p j
  ·obtain ⟨j, hj, hp⟩ := q
   obtain ⟨i, h1, h2, h3⟩ := ih j hj hp
   exact ⟨i, by omega, h2, h3⟩
  ·exact ⟨n, Nat.le_refl _, h, fun j hj hp => q ⟨j, hj, hp⟩⟩
def onL (L : Array Bool) (i : Nat) : Prop := L[i]? = some true
theorem getD_of {L : Array Bool} {i : Nat} (hi : i < L.size) (b : Bool) : L.getD i b = true ↔ onL L i := by
 unfold onL
 rw [Array.getD_eq_getD_getElem?, Array.getElem?_eq_getElem hi]
 simp
theorem mem_ready {l : List Oper} {L : Array Bool} (hs : L.size = l.length) {i : Nat} :
  i ∈ Region.ready .any l.toArray L ↔ ∃ o, l[i]? = some o ∧ ¬ onL L i ∧ ∀ j ∈ afters o, onL L j := by
 unfold Region.ready
 simp only [List.mem_filter, List.mem_range, List.size_toArray, Bool.and_eq_true, Bool.not_eq_true', List.getElem?_toArray]
 have hof : ∀ j, L.getD j false = true ↔ onL L j := by
  intro j
  unfold onL
  rw [Array.getD_eq_getD_getElem?]
  cases L[j]? <;> simp
 constructor
 ·rintro ⟨h1, h2, h3⟩
  refine ⟨l[i], List.getElem?_eq_getElem h1, ?_, ?_⟩
  ·intro q
   rw [← getD_of (by omega) true] at q
   rw [q] at h2; cases h2
  ·rw [List.getElem?_eq_getElem h1] at h3
   simp only [Option.map_some, Option.getD_some, Array.all_eq_true'] at h3
   intro j hj
   unfold afters at hj
   simp only [List.mem_map, List.mem_filter, Array.mem_toList_iff] at hj
   obtain ⟨e, ⟨he, hb⟩, rfl⟩ := hj
   have := h3 e he
   rw [hb] at this
   exact (hof _).1 (by simpa using this)
 ·rintro ⟨o, h1, h2, h3⟩
  have hi : i < l.length := (List.getElem?_eq_some_iff.1 h1).1
  refine ⟨hi, ?_, ?_⟩
  ·rw [← getD_of (by omega) true] at h2
   simpa using h2
  ·rw [h1]
   simp only [Option.map_some, Option.getD_some, Array.all_eq_true']
   intro e he
   cases hb : Region.binds .any e with
   | false => simp
   | true =>
    have := (hof _).2 (h3 e.on (by unfold afters; simp only [List.mem_map, List.mem_filter, Array.mem_toList_iff]; exact ⟨e, ⟨he, hb⟩, rfl⟩))
    simpa using this
theorem onL_set {L : Array Bool} {i j : Nat} (hi : i < L.size) : onL (L.setIfInBounds i true) j ↔ j = i ∨ onL L j := by
 unfold onL
 rw [Array.getElem?_setIfInBounds]
 by_cases h : i = j
 ·subst h; simp [hi]
 ·have h' : ¬ j = i := fun q => h q.symm
  simp [h, h']
def unl (L : Array Bool) : Nat := L.toList.countP (!·)
theorem unl_set {L : Array Bool} {i : Nat} (hi : i < L.size) (h : ¬ onL L i) : unl (L.setIfInBounds i true) + 1 = unl L := by
 unfold unl
 have hi' : i < L.toList.length := by simpa using hi
 have hv : L.toList[i] = false := by
  unfold onL at h
  rw [Array.getElem?_eq_getElem hi] at h
  simpa using h
 rw [Array.toList_setIfInBounds, List.countP_set hi']
 have : 0 < L.toList.countP (!·) := List.countP_pos_iff.2 ⟨L.toList[i], List.getElem_mem hi', by rw [hv]; rfl⟩
 rw [hv, if_pos (by rfl), if_neg (by decide)]
 omega
theorem unl_pos {L : Array Bool} {i : Nat} (hi : i < L.size) (h : ¬ onL L i) : 0 < unl L := by have := unl_set hi h; omega
inductive Reach (l : List Oper) (m : Nat) : Nat → Prop
 | one {o : Oper} {j : Nat} (ho : l[m]? = some o) (hj : j ∈ afters o) : Reach l m j
 | step {o : Oper} {i j : Nat} (h : Reach l m i) (ho : l[i]? = some o) (hj : j ∈ afters o) : Reach l m j
def reachL (l : List Oper) : Nat → List Nat → List Nat
 | 0, S => S
 | j + 1, S => reachL l j (bif S.contains j then S ++ (match l[j]? with | some o => afters o | none => []) else S)
theorem reachL_ok {l : List Oper} {m : Nat} : ∀ (n : Nat) (S : List Nat), (∀ j ∈ S, Reach l m j) → ∀ j ∈ reachL l n S, Reach l m j
 | 0, S, h, j, hj => h j hj
 | n + 1, S, h, j, hj => by
  refine reachL_ok n _ ?_ j hj
  intro i hi
  cases q : S.contains n with
  | false => rw [q] at hi; exact h i hi
  | true =>
   rw [q] at hi
   rcases List.mem_append.1 hi with z | z
   ·exact h i z
   ·cases ho : l[n]? with
    | none => rw [ho] at z; cases z
    | some o => rw [ho] at z; exact .step (h n (by simpa using q)) ho z
structure DrawOK (l : List Oper) (m k : Nat) (ds los : List Nat) (hs : List Bool) (N : Nat) : Prop where
 len : m ≤ l.length
 dst : ∀ i o, i < m → l[i]? = some o → ∃ d, o.dst = some d ∧ ds[i]? = some d ∧ d < N
 dsl : ds.length = m
 nodup : ∀ (i j d : Nat), ds[i]? = some d → ds[j]? = some d → i = j
 back : ∀ i o, l[i]? = some o → ∀ j ∈ afters o, j < i
 mid : ∀ o, l[m]? = some o → ∀ j, j < m → Reach l m j
 chain : ∀ i o, m < i → l[i]? = some o → i - 1 ∈ afters o
 lo : ∀ i o, i < m → l[i]? = some o → los.getD i 0 = 0 ∨ ∃ j ∈ afters o, j < m ∧ los.getD i 0 ≤ los.getD j 0 + (if hs.getD j false then 1 else 0)
 hlo : ∀ i, i < m → hs.getD i false = true → los.getD i 0 < k
 hne : ∀ i j, i < m → j < m → hs.getD i false = true → hs.getD j false = true → los.getD i 0 = los.getD j 0 → i = j
theorem draw_suffix {P : Program} {l : List Oper} {m k : Nat} {ds los : List Nat} {hs : List Bool} {N : Nat} (ok : DrawOK l m k ds los hs N) {Q : Exit → Act → World → Prop} {rd : Option Nat} :
  ∀ (fuel t : Nat) (L : Array Bool) (a : Act) (w : World), L.size = l.length → (∀ i, i < l.length → (onL L i ↔ i < t)) → unl L ≤ fuel → m ≤ t → t ≤ l.length →
   wpL P rd l.toArray Q (l.drop t) a w → wpAnyIn (WF rd) 0 P .any l.toArray Q fuel L a w := by
 intro fuel
 induction fuel with
 | zero =>
  intro t L a w hsz hL hf hm ht h
  have : t = l.length := by
   rcases Nat.lt_or_ge t l.length with q | q
   ·have := unl_pos (L := L) (i := t) (by omega) (fun z => by have := (hL t q).1 z; omega); omega
   ·omega
  subst this
  refine ⟨List.eq_nil_iff_forall_not_mem.2 fun i hi => ?_, ?_⟩
  ·obtain ⟨o, h1, h2, _⟩ := (mem_ready hsz).1 hi
   have hi' := (List.getElem?_eq_some_iff.1 h1).1
   exact h2 ((hL i hi').2 hi')
  ·rw [List.drop_length] at h; exact h
 | succ fuel ih =>
  intro t L a w hsz hL hf hm ht h
  have key : ∀ i o, l[i]? = some o → ¬ onL L i → (∀ j ∈ afters o, onL L j) → i = t := by
   intro i o h1 h2 h3
   have hi' := (List.getElem?_eq_some_iff.1 h1).1
   have hge : t ≤ i := by
    rcases Nat.lt_or_ge i t with q | q
    ·exact absurd ((hL i hi').2 q) h2
    ·exact q
   rcases Nat.lt_or_ge t i with q | q
   ·have := (hL (i - 1) (by omega)).1 (h3 _ (ok.chain i o (by omega) h1))
    omega
   ·omega
  rcases Nat.lt_or_ge t l.length with htl | htl
  ·have ho : l[t]? = some l[t] := List.getElem?_eq_getElem htl
   have htn : ¬ onL L t := fun q => by have := (hL t htl).1 q; omega
   have hr : t ∈ Region.ready .any l.toArray L := by
    refine (mem_ready hsz).2 ⟨_, ho, htn, fun j hj => ?_⟩
    have := ok.back t _ ho j hj
    exact (hL j (by omega)).2 this
   refine ⟨fun q => (by rw [q] at hr; cases hr), fun i hi => ?_⟩
   obtain ⟨o, h1, h2, h3⟩ := (mem_ready hsz).1 hi
   obtain rfl := key i o h1 h2 h3
   rw [List.drop_eq_getElem_cons htl] at h
   obtain rfl : l[i] = o := by rw [List.getElem?_eq_getElem htl] at h1; exact Option.some.inj h1
   unfold wpOpIn
   rw [show l.toArray[i]? = some l[i] by rw [List.getElem?_toArray]; exact h1]
   simp only
   unfold wpL wpListIn at h
   have nx : ∀ a w, wpL P rd l.toArray Q (l.drop (i + 1)) a w → wpAnyIn (WF rd) 0 P .any l.toArray Q fuel (L.setIfInBounds i true) a w := by
    intro a w q
    have hu := unl_set (L := L) (i := i) (by omega) htn
    refine ih (i + 1) _ a w (by simpa using hsz) (fun j hj => ?_) (by omega) (by omega) (by omega) q
    rw [onL_set (by omega), hL j hj]
    omega
   split at h
   ·rename_i hw; rw [if_pos hw]; exact Oper.wpIn_mono nx h
   ·rename_i hw; rw [if_neg hw]; exact ⟨h.1, nx _ _ h.2⟩
  ·have : t = l.length := by omega
   subst this
   rw [List.drop_length] at h
   refine ⟨fun _ => h, fun i hi => ?_⟩
   obtain ⟨o, h1, h2, _⟩ := (mem_ready hsz).1 hi
   have hi' := (List.getElem?_eq_some_iff.1 h1).1
   exact absurd ((hL i hi').2 hi') h2
def fullE (ds : List Nat) (xs : List A) (env0 : Env) : Env := ds.zip xs ++ env0
theorem lk_full {ds : List Nat} {xs : List A} {env0 : Env} (hl : ds.length = xs.length) (s : Nat) :
  (∃ (j : Nat) (x : A), ds[j]? = some s ∧ xs[j]? = some x ∧ lk (fullE ds xs env0) s = x) ∨ (ds.contains s = false ∧ lk (fullE ds xs env0) s = lk env0 s) := by
 unfold fullE
 induction ds generalizing xs with
 | nil => right; simp
 | cons d ds ih =>
  cases xs with
  | nil => simp at hl
  | cons x xs =>
   simp only [List.length_cons, Nat.add_right_cancel_iff] at hl
   simp only [List.zip_cons_cons, List.cons_append, lk]
   cases h : Nat.beq s d with
   | true =>
    obtain rfl := Nat.eq_of_beq_eq_true h
    left; exact ⟨0, x, rfl, rfl, by simp⟩
   | false =>
    have hne : s ≠ d := fun q => by subst q; simp [Nat.beq_refl] at h
    rcases ih hl with ⟨j, y, h1, h2, h3⟩ | ⟨h1, h2⟩
    ·left; exact ⟨j + 1, y, by simpa using h1, by simpa using h2, by simpa using h3⟩
    ·right; refine ⟨?_, by simpa using h2⟩
     simp only [List.contains_cons, h1, Bool.or_false]
     simpa using hne
theorem draw_go {P : Program} {l : List Oper} {m k : Nat} {ds los : List Nat} {hs : List Bool} {N h0 : Nat} {xs : List A} {env0 : Env} {Hs : List Heap} {Q : Post} (ok : DrawOK l m k ds los hs N)
  (hxs : xs.length = m) (hHs : Hs.length = k + 1) (hh0 : ∀ H ∈ Hs, h0 ≤ H.length)
  (hob : ∀ i j H H', i < m → los.getD i 0 ≤ j → j ≤ k → (hs.getD i false = true → j = los.getD i 0) → Hs[j]? = some H → Hs[j + (if hs.getD i false then 1 else 0)]? = some H' → OblAt P N l ds xs env0 i H H')
  (hk : ∀ H, Hs[k]? = some H → WO P h0 N l.toArray (l.drop m) (fullE ds xs env0) H Q) (hall : ∀ j, j < k → ∃ i, i < m ∧ hs.getD i false = true ∧ los.getD i 0 = j)
  {fr ro0 : Nat → Prop} {σ0 : Sig} {w0 : World} {rd : Option Nat} {ds0 : List Deferred} (hm0 : Marks fr ds0 w0) (hrd : RdOk rd fr w0) :
  ∀ (fuel : Nat) (L : Array Bool) (a : Act) (w : World) (ro : Nat → Prop) (σ : Sig) (st : Nat) (H : Heap),
   L.size = l.length → unl L ≤ fuel → (∀ i, m ≤ i → ¬ onL L i) → st ≤ k → Hs[st]? = some H → Sim fr ro σ H w → a.tmps.size = N → a.defers = ds0 →
   (∀ (i d : Nat) (x : A), onL L i → ds[i]? = some d → xs[i]? = some x → VR ro σ w x (a.tmps.getD d undef)) → (∀ s, (∀ j, ds[j]? = some s → ¬ onL L j) → VR ro σ w (lk env0 s) (a.tmps.getD s undef)) →
   Evolve fr ro0 w0 ro w → σ.take h0 = σ0.take h0 →
   (∀ i, i < m → onL L i → los.getD i 0 + (if hs.getD i false then 1 else 0) ≤ st) → (∀ i, i < m → hs.getD i false = true → (onL L i ↔ los.getD i 0 < st)) →
   (∀ i o, onL L i → l[i]? = some o → ∀ j ∈ afters o, onL L j) →
   wpAnyIn (WF rd) 0 P .any l.toArray (PostO h0 fr ro0 σ0 w0 N ds0 Q) fuel L a w := by
 have fin : ∀ (fuel : Nat) (L : Array Bool) (a : Act) (w : World) (ro : Nat → Prop) (σ : Sig) (st : Nat) (H : Heap),
   L.size = l.length → unl L ≤ fuel → (∀ i, m ≤ i → ¬ onL L i) → st ≤ k → Hs[st]? = some H → Sim fr ro σ H w → a.tmps.size = N → a.defers = ds0 →
   (∀ (i d : Nat) (x : A), onL L i → ds[i]? = some d → xs[i]? = some x → VR ro σ w x (a.tmps.getD d undef)) → (∀ s, (∀ j, ds[j]? = some s → ¬ onL L j) → VR ro σ w (lk env0 s) (a.tmps.getD s undef)) →
   Evolve fr ro0 w0 ro w → σ.take h0 = σ0.take h0 →
   (∀ i, i < m → hs.getD i false = true → (onL L i ↔ los.getD i 0 < st)) → (∀ i, i < m → onL L i) →
   wpAnyIn (WF rd) 0 P .any l.toArray (PostO h0 fr ro0 σ0 w0 N ds0 Q) fuel L a w := by
  intro fuel L a w ro σ st H hsz hu hsuf hst hH hsim hN hdef hD hE hev htk hI2 hdone
  have hst' : st = k := by
   rcases Nat.lt_or_ge st k with q | q
   ·obtain ⟨i, h1, h2, h3⟩ := hall st q
    have := (hI2 i h1 h2).1 (hdone i h1)
    omega
   ·omega
  subst hst'
  refine draw_suffix ok fuel m L a w hsz (fun i hi => ⟨fun q => ?_, fun q => hdone i q⟩) hu (Nat.le_refl _) ok.len ?_
  ·rcases Nat.lt_or_ge i m with z | z
   ·exact z
   ·exact absurd q (hsuf i z)
  ·have hr : Rel fr ro σ H (fullE ds xs env0) N a w := by
    refine ⟨hsim, fun s => ?_, hN, by rw [hdef]; exact hm0.keep hev⟩
    rcases lk_full (env0 := env0) (by rw [ok.dsl, hxs]) s with ⟨j, x, h1, h2, h3⟩ | ⟨h1, h2⟩
    ·rw [h3]
     have hj : j < m := by have := (List.getElem?_eq_some_iff.1 h1).1; rw [ok.dsl] at this; exact this
     exact hD j s x (hdone j hj) h1 h2
    ·rw [h2]; exact hE s (fun j q => absurd (List.mem_of_getElem? q) (by simpa using h1))
   have hkk := hk H hH rd fr ro σ a w hr (hrd.to hev fun _ q => q)
   rw [hdef] at hkk
   exact wpL_mono (fun e a w q => q.step hev htk) _ _ _ hkk
 intro fuel
 induction fuel with
 | zero =>
  intro L a w ro σ st H hsz hu hsuf hst hH hsim hN hdef hD hE hev htk hI1 hI2 hcl
  refine fin 0 L a w ro σ st H hsz hu hsuf hst hH hsim hN hdef hD hE hev htk hI2 (fun i hi => ?_)
  by_cases q : onL L i
  ·exact q
  ·have := unl_pos (L := L) (i := i) (by have := ok.len; omega) q
   omega
 | succ fuel ih =>
  intro L a w ro σ st H hsz hu hsuf hst hH hsim hN hdef hD hE hev htk hI1 hI2 hcl
  by_cases hdone : ∀ i, i < m → onL L i
  ·exact fin (fuel + 1) L a w ro σ st H hsz hu hsuf hst hH hsim hN hdef hD hE hev htk hI2 hdone
  ·have hex : ∃ i, i < m ∧ ¬ onL L i := by
    refine Classical.byContradiction fun q => hdone fun i hi => Classical.byContradiction fun z => q ⟨i, hi, z⟩
   obtain ⟨n, hn, hn2⟩ := hex
   obtain ⟨i0, h1, h2, h3⟩ := least (p := fun i => ¬ onL L i) (fun i => Classical.em _) n hn2
   have hlm := ok.len
   have hi0 : l[i0]? = some l[i0] := List.getElem?_eq_getElem (by omega)
   have hr : i0 ∈ Region.ready .any l.toArray L := (mem_ready hsz).2 ⟨_, hi0, h2, fun j hj => Classical.byContradiction fun z => h3 j (ok.back i0 _ hi0 j hj) z⟩
   refine ⟨fun q => (by rw [q] at hr; cases hr), fun i hi => ?_⟩
   obtain ⟨o, ho, hno, haf⟩ := (mem_ready hsz).1 hi
   have him : i < m := by
    rcases Nat.lt_or_ge i m with q | q
    ·exact q
    ·exfalso
     rcases Nat.lt_or_ge m i with z | z
     ·exact hsuf (i - 1) (by omega) (haf _ (ok.chain i o z ho))
     ·have : i = m := by omega
      subst this
      have hre : ∀ j, Reach l i j → onL L j := by
       intro j hj
       induction hj with
       | one ho' hj => rw [ho] at ho'; cases ho'; exact haf _ hj
       | step _ ho' hj ihr => exact hcl _ _ ihr ho' _ hj
      exact hn2 (hre n (ok.mid o ho n hn))
   have hlo : los.getD i 0 ≤ st := by
    rcases ok.lo i o him ho with q | ⟨j, hj, hjm, hjl⟩
    ·omega
    ·exact Nat.le_trans hjl (hI1 j hjm (haf j hj))
   have hex : hs.getD i false = true → st = los.getD i 0 := by
    intro q
    have := hI2 i him q
    rcases Nat.lt_or_ge (los.getD i 0) st with z | z
    ·exact absurd (this.2 z) hno
    ·omega
   have hst2 : st + (if hs.getD i false then 1 else 0) ≤ k := by
    cases q : hs.getD i false with
    | false => simpa using hst
    | true => have := ok.hlo i him q; have := hex q; simp; omega
   have hH2 : Hs[st + (if hs.getD i false then 1 else 0)]? = some Hs[st + (if hs.getD i false then 1 else 0)] := List.getElem?_eq_getElem (by omega)
   have hb := hob i st H _ him hlo hst hex hH hH2
   refine hb.use ho hsim hN (by rw [hdef]; exact hm0.keep hev) (hrd.to hev fun _ q => q) (fun j hj s x q1 q2 => hD j s x (haf j hj) q1 q2) (fun s h1 => hE s (fun j q => absurd (List.mem_of_getElem? q) (by simpa using h1))) (fun j s h1 h2 => hE s (fun j' q q' => ?_)) ?_
   ·obtain rfl := ok.nodup j' j s q h2
    have hj := List.mem_filter.1 (List.contains_iff_mem.1 h1)
    cases hlj : l[j']? with
    | none => rw [hlj] at hj; simp at hj
    | some oj =>
     rw [hlj] at hj
     exact hno (hcl j' oj q' hlj i (by simpa using hj.2))
   intro v w' ro' τ d x hd hx hv hsim' hev'
   obtain ⟨d', hd', hdi, hdN⟩ := ok.dst i o him ho
   obtain rfl : d = d' := Option.some.inj (hd.symm.trans hd')
   have hput : a.put o.dst v = { a with tmps := a.tmps.setIfInBounds d v } := by rw [hd]; rfl
   have hext := hev'.ext σ τ
   have hget : ∀ s, s ≠ d → (a.put o.dst v).tmps.getD s undef = a.tmps.getD s undef := by
    intro s hs'
    rw [hput]
    simp only [Array.getD_eq_getD_getElem?, Array.getElem?_setIfInBounds]
    rw [if_neg (fun q => hs' q.symm)]
   have hu' := unl_set (L := L) (i := i) (by omega) hno
   have hli : i < L.size := by omega
   refine ih _ _ w' ro' (σ ++ τ) _ _ (by simpa using hsz) (by omega) (fun j hj q => ?_) hst2 hH2 hsim' ?_ ?_ ?_ ?_ (hev.trans hev') ?_ ?_ ?_ ?_
   ·rcases (onL_set hli).1 q with z | z
    ·omega
    ·exact hsuf j hj z
   ·rw [hput]; simpa using hN
   ·rw [hput]; exact hdef
   ·intro j s y hj hs1 hy
    by_cases hji : j = i
    ·subst hji
     obtain rfl : s = d := Option.some.inj (hs1.symm.trans hdi)
     obtain rfl : y = x := Option.some.inj (hy.symm.trans hx)
     exact hv
    ·have hne : s ≠ d := fun q => hji (ok.nodup j i d (by rw [← q]; exact hs1) hdi)
     rw [hget s hne]
     rcases (onL_set hli).1 hj with z | z
     ·exact absurd z hji
     ·exact (hD j s y z hs1 hy).mono hext
   ·intro s hs1
    have hne : s ≠ d := by
     rintro rfl
     exact hs1 i hdi ((onL_set hli).2 (.inl rfl))
    rw [hget s hne]
    exact (hE s (fun j q z => hs1 j q ((onL_set hli).2 (.inr z)))).mono hext
   ·rw [← htk]
    refine take_append_sig ?_
    rw [hsim.len]
    exact hh0 H (List.mem_of_getElem? hH)
   ·intro j hj hj2
    rcases (onL_set hli).1 hj2 with z | z
    ·subst z
     exact Nat.add_le_add_right hlo _
    ·have := hI1 j hj z
     have : st ≤ st + (if hs.getD i false then 1 else 0) := Nat.le_add_right _ _
     omega
   ·intro j hj hj2
    rw [onL_set hli]
    cases q : hs.getD i false with
    | false =>
     have hji : j ≠ i := by rintro rfl; rw [q] at hj2; cases hj2
     simp only [hji, false_or]
     simpa using hI2 j hj hj2
    | true =>
     have he := hex q
     simp only [if_true]
     constructor
     ·rintro (rfl | z)
      ·omega
      ·have := (hI2 j hj hj2).1 z; omega
     ·intro z
      by_cases hji : j = i
      ·exact .inl hji
      ·right
       refine (hI2 j hj hj2).2 ?_
       have : los.getD j 0 ≠ los.getD i 0 := fun y => hji (ok.hne j i hj him hj2 q y)
       omega
   ·intro j o' hj ho' j' hj'
    rcases (onL_set hli).1 hj with z | z
    ·subst z
     rw [ho] at ho'; cases ho'
     exact (onL_set hli).2 (.inr (haf _ hj'))
    ·exact (onL_set hli).2 (.inr (hcl j o' z ho' j' hj'))
def drawChk.nodupB : List Nat → Bool
 | [] => true
 | x :: r => !r.contains x && drawChk.nodupB r
def drawChk.goB (l : List Oper) (m : Nat) : Nat → List Oper → Bool
 | _, [] => true
 | i, o :: r => (afters o).all (fun j => Nat.blt j i) && (bif Nat.beq i m then (List.range m).all (fun j => (reachL l m (afters o)).contains j) else bif Nat.blt m i then (afters o).contains (i - 1) else true) && drawChk.goB l m (i + 1) r
def drawChk.loB (m k : Nat) (los : List Nat) (hs : List Bool) : Nat → List Oper → Bool
 | _, [] => (List.range k).all fun j => (List.range m).any fun i => hs.getD i false && Nat.beq (los.getD i 0) j
 | i, o :: r => (bif Nat.blt i m then
   (Nat.beq (los.getD i 0) 0 || (afters o).any (fun j => Nat.blt j m && Nat.ble (los.getD i 0) (los.getD j 0 + (if hs.getD j false then 1 else 0))))
   && (!hs.getD i false || (Nat.blt (los.getD i 0) k && (List.range m).all (fun j => !hs.getD j false || !Nat.beq (los.getD i 0) (los.getD j 0) || Nat.beq i j)))
  else true) && drawChk.loB m k los hs (i + 1) r
def drawChk (l : List Oper) (m k N : Nat) (ds los : List Nat) (hs : List Bool) : Bool :=
 Nat.ble m l.length && (ds.length == m) && (l.take m).map (·.dst) == ds.map some && ds.all (fun d => Nat.blt d N) && drawChk.nodupB ds
 && drawChk.goB l m 0 l && (drawChk.loB m k los hs 0 l)
theorem nodupB_spec {ds : List Nat} (h : drawChk.nodupB ds = true) : ∀ (i j d : Nat), ds[i]? = some d → ds[j]? = some d → i = j := by
 induction ds with
 | nil => intro i j d h1; simp at h1
 | cons x r ih =>
  simp only [drawChk.nodupB, Bool.and_eq_true, Bool.not_eq_true'] at h
  have hn : ∀ (i : Nat), r[i]? ≠ some x := by
   intro i q
   have : r.contains x = true := by simpa using List.mem_of_getElem? q
   rw [this] at h; cases h.1
  intro i j d h1 h2
  cases i with
  | zero =>
   cases j with
   | zero => rfl
   | succ j => simp at h1 h2; subst h1; exact absurd h2 (hn j)
  | succ i =>
   cases j with
   | zero => simp at h1 h2; subst h2; exact absurd h1 (hn i)
   | succ j => simp at h1 h2; rw [ih h.2 i j d h1 h2]
theorem goB_spec {l : List Oper} {m : Nat} : ∀ (r : List Oper) (b : Nat), drawChk.goB l m b r = true → ∀ (i : Nat) (o : Oper), r[i]? = some o →
  (∀ j ∈ afters o, j < b + i) ∧ (b + i = m → ∀ j, j < m → j ∈ reachL l m (afters o)) ∧ (m < b + i → b + i - 1 ∈ afters o) := by
 intro r
 induction r with
 | nil => intro b h i o h1; simp at h1
 | cons x r ih =>
  intro b h i o h1
  simp only [drawChk.goB, Bool.and_eq_true] at h
  cases i with
  | zero =>
   simp at h1; subst h1
   refine ⟨fun j hj => ?_, fun hm j hj => ?_, fun hm => ?_⟩
   ·have := List.all_eq_true.1 h.1.1 j hj; simpa using this
   ·have h2 := h.1.2
    have hb : Nat.beq b m = true := by subst hm; simp
    rw [hb] at h2
    simp only [cond_true] at h2
    have := List.all_eq_true.1 h2 j (List.mem_range.2 hj)
    simpa using this
   ·have h2 := h.1.2
    have hb : Nat.beq b m = false := by
     cases q : Nat.beq b m with
     | false => rfl
     | true => have := Nat.eq_of_beq_eq_true q; omega
    have hc : Nat.blt m b = true := by simpa using hm
    rw [hb, hc] at h2
    simpa using h2
  | succ i =>
   have := ih (b + 1) h.2 i o (by simpa using h1)
   have e : b + 1 + i = b + (i + 1) := by omega
   rw [e] at this
   exact this
theorem loB_spec {m k : Nat} {los : List Nat} {hs : List Bool} : ∀ (r : List Oper) (b : Nat), drawChk.loB m k los hs b r = true →
  (∀ (i : Nat) (o : Oper), r[i]? = some o → b + i < m →
   (los.getD (b + i) 0 = 0 ∨ ∃ j ∈ afters o, j < m ∧ los.getD (b + i) 0 ≤ los.getD j 0 + (if hs.getD j false then 1 else 0)) ∧
   (hs.getD (b + i) false = true → los.getD (b + i) 0 < k ∧ ∀ j, j < m → hs.getD j false = true → los.getD (b + i) 0 = los.getD j 0 → b + i = j)) ∧
  (∀ j, j < k → ∃ i, i < m ∧ hs.getD i false = true ∧ los.getD i 0 = j) := by
 intro r
 induction r with
 | nil =>
  intro b h
  refine ⟨fun i o h1 => by simp at h1, fun j hj => ?_⟩
  simp only [drawChk.loB] at h
  have := List.all_eq_true.1 h j (List.mem_range.2 hj)
  obtain ⟨i, h1, h2⟩ := List.any_eq_true.1 this
  simp only [Bool.and_eq_true] at h2
  exact ⟨i, List.mem_range.1 h1, h2.1, Nat.eq_of_beq_eq_true h2.2⟩
 | cons x r ih =>
  intro b h
  simp only [drawChk.loB, Bool.and_eq_true] at h
  obtain ⟨k1, k2⟩ := ih (b + 1) h.2
  refine ⟨fun i o h1 hm => ?_, k2⟩
  cases i with
  | zero =>
   simp at h1; subst h1
   simp only [Nat.add_zero] at hm ⊢
   have hb : Nat.blt b m = true := by simpa using hm
   have h3 := h.1
   rw [hb] at h3
   simp only [cond_true, Bool.and_eq_true, Bool.or_eq_true] at h3
   refine ⟨?_, fun hh => ?_⟩
   ·rcases h3.1 with q | q
    ·left; exact Nat.eq_of_beq_eq_true q
    ·right
     obtain ⟨j, h4, h5⟩ := List.any_eq_true.1 q
     simp only [Bool.and_eq_true] at h5
     exact ⟨j, h4, by simpa using h5.1, by simpa using h5.2⟩
   ·rcases h3.2 with q | q
    ·rw [hh] at q; cases q
    ·refine ⟨by simpa using q.1, fun j hj hh2 he => ?_⟩
     have := List.all_eq_true.1 q.2 j (List.mem_range.2 hj)
     rw [hh2, he] at this
     simp only [Bool.not_true, Bool.false_or, Nat.beq_refl, Bool.or_eq_true] at this
     exact Nat.eq_of_beq_eq_true this
  | succ i =>
   have e : b + 1 + i = b + (i + 1) := by omega
   have := k1 i o (by simpa using h1) (by omega)
   rw [e] at this
   exact this
theorem drawChk_ok {l : List Oper} {m k N : Nat} {ds los : List Nat} {hs : List Bool} (h : drawChk l m k N ds los hs = true) :
  DrawOK l m k ds los hs N ∧ ∀ j, j < k → ∃ i, i < m ∧ hs.getD i false = true ∧ los.getD i 0 = j := by
 unfold drawChk at h
 simp only [Bool.and_eq_true] at h
 obtain ⟨⟨⟨⟨⟨⟨h1, h2⟩, h3⟩, h4⟩, h5⟩, h6⟩, h7⟩ := h
 have hlm : m ≤ l.length := Nat.le_of_ble_eq_true h1
 have hds : ds.length = m := by simpa using h2
 have h3' : (l.take m).map (·.dst) = ds.map some := by simpa using h3
 have g := goB_spec l 0 h6
 have q := loB_spec l 0 h7
 refine ⟨⟨hlm, fun i o hi ho => ?_, hds, nodupB_spec h5, fun i o ho => by have := (g i o ho).1; simpa using this, fun o ho j hj => reachL_ok m (afters o) (fun i hi => .one ho hi) j ((g m o ho).2.1 (by omega) j hj),
  fun i o hi ho => by have := (g i o ho).2.2 (by omega); simpa using this, fun i o hi ho => by have := (q.1 i o ho (by omega)).1; simpa using this,
  fun i hi hh => ?_, fun i j hi hj hh hh2 he => ?_⟩, q.2⟩
 ·have := congrArg (fun z => z[i]?) h3'
  simp only [List.getElem?_map, List.getElem?_take, hi, if_true, ho, Option.map_some] at this
  have hi' : i < ds.length := by omega
  rw [List.getElem?_eq_getElem hi'] at this
  simp only [Option.map_some, Option.some.injEq] at this
  refine ⟨ds[i], this, List.getElem?_eq_getElem hi', ?_⟩
  have := List.all_eq_true.1 h4 ds[i] (List.getElem_mem hi')
  simpa using this
 ·have ho : l[i]? = some l[i] := List.getElem?_eq_getElem (by omega)
  have := ((q.1 i _ ho (by omega)).2 (by simpa using hh)).1
  simpa using this
 ·have ho : l[i]? = some l[i] := List.getElem?_eq_getElem (by omega)
  have := ((q.1 i _ ho (by omega)).2 (by simpa using hh)).2 j hj hh2 (by simpa using he)
  simpa using this
inductive Ob (P : Program) (N : Nat) (l : List Oper) (ds : List Nat) (xs : List A) (env0 : Env) : Nat → List (List (Heap × Heap)) → Prop
 | nil {i : Nat} : Ob P N l ds xs env0 i []
 | cons {i : Nat} {s : List (Heap × Heap)} {r : List (List (Heap × Heap))} (h : ∀ p ∈ s, OblAt P N l ds xs env0 i p.1 p.2) (k : Ob P N l ds xs env0 (i + 1) r) : Ob P N l ds xs env0 i (s :: r)
theorem Ob.get {P : Program} {N : Nat} {l : List Oper} {ds : List Nat} {xs : List A} {env0 : Env} {b : Nat} {ss : List (List (Heap × Heap))} (h : Ob P N l ds xs env0 b ss) :
  ∀ (i : Nat) (s : List (Heap × Heap)), ss[i]? = some s → ∀ p ∈ s, OblAt P N l ds xs env0 (b + i) p.1 p.2 := by
 induction h with
 | nil => intro i s h; simp at h
 | @cons b1 s1 r1 h _ ih =>
  intro i s hs p hp
  cases i with
  | zero => simp at hs; subst hs; exact h p hp
  | succ i =>
   have := ih i s (by simpa using hs) p hp
   rwa [show b1 + 1 + i = b1 + (i + 1) by omega] at this
def stagesOf (Hs : List Heap) (k lo : Nat) (h : Bool) : List (Heap × Heap) :=
 bif h then [(Hs.getD lo [], Hs.getD (lo + 1) [])] else ((Hs.take (k + 1)).drop lo).map (fun H => (H, H))
theorem Ob.st0 {P : Program} {N : Nat} {l : List Oper} {ds : List Nat} {xs : List A} {env0 : Env} {i : Nat} : ∀ p ∈ ([] : List (Heap × Heap)), OblAt P N l ds xs env0 i p.1 p.2 := by
 intro p hp; cases hp
theorem Ob.stC {P : Program} {N : Nat} {l : List Oper} {ds : List Nat} {xs : List A} {env0 : Env} {i : Nat} {H H' : Heap} {r : List (Heap × Heap)} (h : OblAt P N l ds xs env0 i H H')
  (k : ∀ p ∈ r, OblAt P N l ds xs env0 i p.1 p.2) : ∀ p ∈ (H, H') :: r, OblAt P N l ds xs env0 i p.1 p.2 := by
 intro p hp
 rcases List.mem_cons.1 hp with rfl | q
 ·exact h
 ·exact k p q
theorem TC.draw {P : Program} {h0 N : Nat} {id : Nat} {l : List Oper} {env : Env} {H : Heap} {Q : Post} (m k : Nat) (ds los : List Nat) (hs : List Bool) (xs : List A) (Hs : List Heap) (Hk : Heap)
  (hm : P.follows .mixedOrders = true) (hc : drawChk l m k N ds los hs = true) (hxs : Nat.beq xs.length m = true) (hHs : Nat.beq Hs.length (k + 1) = true)
  (hh : Hs.all (fun H => Nat.ble h0 H.length) = true) (hlos : Nat.beq los.length m = true) (hhs : Nat.beq hs.length m = true) (h0' : Hs[0]? = some H) (hk' : Hs[k]? = some Hk)
  (hob : Ob P N l ds xs env 0 ((los.zip hs).map fun q => stagesOf Hs k q.1 q.2)) (hk : WO P h0 N l.toArray (l.drop m) (fullE ds xs env) Hk Q) :
  TC P h0 N (.region id l.toArray true) env H Q := by
 intro rd fr ro σ a w r hrd
 obtain ⟨ok, hall⟩ := drawChk_ok hc
 have hxs' := Nat.eq_of_beq_eq_true hxs
 have hHs' := Nat.eq_of_beq_eq_true hHs
 have hlos' := Nat.eq_of_beq_eq_true hlos
 have hhs' := Nat.eq_of_beq_eq_true hhs
 have hev : Evolve fr ro w ro { w with drawn := w.drawn + 1 } := ⟨fun _ q => q, fun _ _ => rfl, fun _ _ => rfl, Nat.le_refl _, fun _ _ q => q, rfl, rfl, rfl, Nat.le_succ _⟩
 have hext : Ext ro σ w ro σ { w with drawn := w.drawn + 1 } := by have := hev.ext σ []; simpa using this
 have hsim : Sim fr ro σ H { w with drawn := w.drawn + 1 } := ⟨r.sim.len, r.sim.roOk.to (fun _ q => q) (fun _ _ => rfl) r.sim.roLt, r.sim.frLt, r.sim.roFr, r.sim.own, r.sim.inj, fun i s x q1 q2 => BR.keep hext (fun b hb _ => rfl) (r.sim.blk i s x q1 q2)⟩
 refine Code.wpIn_mono (fun e a w q => PostO.postW q) (wpIn_region_any hm ?_)
 rw [List.size_toArray]
 have hrep : ∀ i, ¬ onL (Array.replicate l.length false) i := by
  intro i q
  unfold onL at q
  rw [Array.getElem?_replicate] at q
  split at q <;> simp at q
 refine draw_go ok hxs' hHs' (fun X hX => Nat.le_of_ble_eq_true (List.all_eq_true.1 hh X hX)) ?_ (fun X hX => by rw [hk'] at hX; cases hX; exact hk) hall (ro0 := ro) (σ0 := σ) (w0 := w) (ds0 := a.defers) r.defers hrd
  l.length _ a _ ro σ 0 H (by simp) ?_ (fun i _ => hrep i) (Nat.zero_le _) h0' hsim r.size rfl (fun i d x q => absurd q (hrep i)) (fun s _ => (r.env s).mono hext) hev rfl
  (fun i _ q => absurd q (hrep i)) (fun i _ _ => ⟨fun q => absurd q (hrep i), fun q => absurd q (Nat.not_lt_zero _)⟩) (fun i o q => absurd q (hrep i))
 ·intro i j X X' hi hlo hj hex hX hX'
  have e1 : los[i]? = some (los.getD i 0) := by rw [List.getD_eq_getElem?_getD, List.getElem?_eq_getElem (by omega)]; rfl
  have e2 : hs[i]? = some (hs.getD i false) := by rw [List.getD_eq_getElem?_getD, List.getElem?_eq_getElem (by omega)]; rfl
  have e3 : ((los.zip hs).map fun q => stagesOf Hs k q.1 q.2)[i]? = some (stagesOf Hs k (los.getD i 0) (hs.getD i false)) := by
   have e4 : (los.zip hs)[i]? = some (los.getD i 0, hs.getD i false) := List.getElem?_zip_eq_some.2 ⟨e1, e2⟩
   rw [List.getElem?_map, e4]; rfl
  have := hob.get i _ e3 (X, X') ?_
  ·simpa using this
  ·unfold stagesOf
   cases q : hs.getD i false with
   | true =>
    rw [q] at hX'
    have := hex q
    subst this
    simp only [cond_true, List.mem_singleton, Prod.mk.injEq]
    simp only [if_true] at hX'
    exact ⟨by rw [List.getD_eq_getElem?_getD, hX]; rfl, by rw [List.getD_eq_getElem?_getD, hX']; rfl⟩
   | false =>
    rw [q] at hX'
    simp at hX'
    rw [hX] at hX'
    cases hX'
    simp only [cond_false, List.mem_map, Prod.mk.injEq]
    refine ⟨X, ?_, rfl, rfl⟩
    have : ((Hs.take (k + 1)).drop (los.getD i 0))[j - los.getD i 0]? = some X := by
     rw [List.getElem?_drop, List.getElem?_take, show los.getD i 0 + (j - los.getD i 0) = j by omega, if_pos (by omega)]
     exact hX
    exact List.mem_of_getElem? this
 ·unfold unl
  simp [List.countP_replicate]
theorem LookL.nil {H : Heap} : LookL H [] [] := trivial
theorem LookL.cons {H : Heap} {as as' bs : List A} {a b : A} (e : as = a :: as') (h : Look H a b) (k : LookL H as' bs) : LookL H as (b :: bs) := by subst e; exact ⟨h, k⟩
section
variable {P : Program} {o : Oper} {env : Env} {H : Heap} {α : Type} {e : α → List A}
theorem OpV.ixME {t et k : Nat} {x y : Operand} {l : List α} {kk : IntKind} {i : Int} {v : α} {cs : List A} (h : idx l i = some v) (he : e v = cs) (ht : ∀ w, (underlying t).run P w = .ok (.slice et) w) (hs : ∀ w, (sizeOf et).run P w = .ok k w)
  (ho : o.op = .indexAddr t x y := by exact rfl) (hx : opA env x = .rsl k (l.map e) := by exact rfl) (hy : opA env y = .int kk i := by exact rfl) : OpV P o env H (.rp cs) :=
 he ▸ OpV.ixM h ht hs ho hx hy
end
end Go.Sw
