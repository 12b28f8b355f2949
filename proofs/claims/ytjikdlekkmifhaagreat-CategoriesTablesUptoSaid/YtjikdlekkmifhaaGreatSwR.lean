/- Loops over maps: the entries come in any order. make of slices. -/
import Derived.Test.YtjikdlekkmifhaaGreatSwQ
set_option linter.unusedVariables false
set_option linter.unusedSectionVars false
set_option linter.unusedSimpArgs false
namespace Go.Sw
def runP {S E B : Type} (stepE : S → E → Option (Ctl S B)) (stepN : S → Option B) : S → List E → Option B
 | s, [] => stepN s
 | s, e :: p => match stepE s e with
  | some (.cont s') => runP stepE stepN s' p
  | some (.done b) => some b
  | none => none
def insAll {E : Type} (x : E) : List E → List (List E)
 | [] => [[x]]
 | y :: l => (x :: y :: l) :: (insAll x l).map (y :: ·)
def perms {E : Type} : List E → List (List E)
 | [] => [[]]
 | x :: l => (perms l).flatMap (insAll x)
theorem insAll_mem {E : Type} (x : E) : ∀ (a b : List E), a ++ x :: b ∈ insAll x (a ++ b)
 | [], [] => by simp [insAll]
 | [], y :: b => by simp [insAll]
 | y :: a, b => by
  simp only [List.cons_append, insAll, List.mem_cons, List.mem_map]
  exact .inr ⟨a ++ x :: b, insAll_mem x a b, rfl⟩
theorem perms_mem {E : Type} : ∀ (l p : List E), p.Perm l → p ∈ perms l
 | [], p, h => by rw [List.perm_nil.1 h]; simp [perms]
 | x :: l, p, h => by
  have hx : x ∈ p := h.mem_iff.2 (by simp)
  obtain ⟨a, b, rfl⟩ := List.append_of_mem hx
  have h2 : (a ++ b).Perm l := (List.perm_cons x).1 ((List.perm_middle.symm).trans h)
  simp only [perms, List.mem_flatMap]
  exact ⟨a ++ b, perms_mem l _ h2, insAll_mem x a b⟩
def anyP {E R : Type} [DecidableEq R] (k : List E → Option R) (l : List E) : Option R := bif (perms l).all (fun p => decide (k p = k l)) then k l else none
theorem anyP_ok {E R : Type} [DecidableEq R] {k : List E → Option R} {l : List E} {r : R} (h : anyP k l = some r) (p : List E) (hp : p.Perm l) : k p = some r := by
 unfold anyP at h
 cases q : (perms l).all (fun p => decide (k p = k l)) with
 | true =>
  rw [q] at h
  have := List.all_eq_true.1 q p (perms_mem l p hp)
  rw [of_decide_eq_true this]; exact h
 | false => rw [q] at h; cases h
theorem perms_perm {E : Type} : ∀ (l p : List E), p ∈ perms l → p.Perm l
 | [], p, h => by simp [perms] at h; rw [h]
 | x :: l, p, h => by
  simp only [perms, List.mem_flatMap] at h
  obtain ⟨q, hq, hp⟩ := h
  have ins : ∀ (q p : List E), p ∈ insAll x q → p.Perm (x :: q) := by
   intro q
   induction q with
   | nil => intro p hp; simp [insAll] at hp; rw [hp]
   | cons y q ih =>
    intro p hp
    simp only [insAll, List.mem_cons, List.mem_map] at hp
    rcases hp with rfl | ⟨z, hz, rfl⟩
    ·exact .refl _
    ·exact ((ih z hz).cons y).trans (List.Perm.swap _ _ _)
  exact (ins q p hp).trans ((perms_perm l q hq).cons x)
theorem anyP_eq {E R : Type} [DecidableEq R] {k : List E → Option R} {l : List E} {r : R} (h : ∀ p, p.Perm l → k p = some r) : anyP k l = some r := by
 unfold anyP
 have : (perms l).all (fun p => decide (k p = k l)) = true := List.all_eq_true.2 fun p hp => by
  rw [h p (perms_perm l p hp), h l (.refl _)]; simp
 rw [this]; exact h l (.refl _)
def AllP {S E B : Type} (stepE : S → E → Option (Ctl S B)) (stepN : S → Option B) (G : B → Prop) (s : S) (l : List E) : Prop := ∀ p, p.Perm l → ∃ b, runP stepE stepN s p = some b ∧ G b
section
variable {P : Program} {o : Oper} {env : Env} {H : Heap} {h0 N : Nat} {Q : Post} {c : Code}
def LoopPostM (I : Env → Heap → Prop) (Q : Post) : Post
 | .normal, env, H => I env H
 | .exit id, env, H => Q (.exit id) env H
 | .ret, env, H => Q .ret env H
theorem TC.loopI {I : Nat → Env → Heap → Prop} (body : ∀ n env H, I n env H → TC P h0 N c env H (LoopPostM (fun env H => ∃ n', n' < n ∧ I n' env H) Q)) {n : Nat} (hI : I n env H) : TC P h0 N (.loop c) env H Q := by
 intro fr ro σ a w r b k cs
 have key : ∀ m n env H ro1 σ1 a1 w1, n < m → I n env H → Rel fr ro1 σ1 H env N a1 w1 → Evolve fr ro w ro1 w1 → σ1.take h0 = σ.take h0 →
   ∃ e a' w', PostW h0 fr ro σ w N Q e a' w' ∧ Arrives P (lone (b.at a1 (.code c :: .inLoop c :: k)) cs w1) b k cs e a' w' := by
  intro m
  induction m with
  | zero => intro n env H ro1 σ1 a1 w1 hn; exact absurd hn (Nat.not_lt_zero _)
  | succ m ih =>
   intro n env H ro1 σ1 a1 w1 hn hI r1 ev1 t1
   obtain ⟨e, a', w', hq, harr⟩ := body n env H hI fr ro1 σ1 a1 w1 r1 b (.inLoop c :: k) cs
   obtain ⟨x, env', H', ro', σ', q1, q2, q3, q4, q5⟩ := hq
   have hp : ∀ x, Q x env' H' → ExR e x → PostW h0 fr ro σ w N Q e a' w' := fun x q q' => ⟨x, env', H', ro', σ', q', q, q3, ev1.trans q4, q5.trans t1⟩
   cases e with
   | normal =>
    obtain rfl : x = .normal := q1
    obtain ⟨n', hn', q2⟩ := q2
    obtain ⟨e2, a2, w2, hq2, harr2⟩ := ih n' env' H' ro' σ' a' w' (by omega) q2 q3 (ev1.trans q4) (q5.trans t1)
    exact ⟨e2, a2, w2, hq2, .of_steps (Steps.trans harr (.one step_inLoop)) harr2⟩
   | exit id =>
    obtain rfl : x = .exit id := q1
    exact ⟨_, a', w', hp _ q2 rfl, .pass (x := .inLoop c) rfl (fun _ _ => .inl (by simp)) harr⟩
   | ret =>
    obtain rfl : x = .ret := q1
    exact ⟨_, a', w', hp _ q2 rfl, .pass (x := .inLoop c) rfl (fun _ _ => .inl (by simp)) harr⟩
   | _ => exact q1.elim
 obtain ⟨e, a', w', hq, harr⟩ := key (n + 1) n env H ro σ a w (Nat.lt_succ_self _) hI r (Evolve.refl _ _ _) rfl
 exact ⟨e, a', w', hq, .of_steps (.one step_loop) harr⟩
section
variable {S E B : Type} {stepE : S → E → Option (Ctl S B)} {stepN : S → Option B} {G : B → Prop} (Es : S → Env) (Hp : S → List (A × A) → Heap) {enc : E → A × A}
def AtP (stepE : S → E → Option (Ctl S B)) (stepN : S → Option B) (G : B → Prop) (enc : E → A × A) (h0 n : Nat) (env : Env) (H : Heap) : Prop :=
 ∃ s l, l.length = n ∧ AllP stepE stepN G s l ∧ Le h0 env H (Es s) (Hp s (l.map enc))
theorem TC.loopP {s0 : S} {l0 : List E} (h : AllP stepE stepN G s0 l0) (hI : Le h0 env H (Es s0) (Hp s0 (l0.map enc)))
  (body : ∀ s l, AllP stepE stepN G s l → TC P h0 N c (Es s) (Hp s (l.map enc)) (LoopPostM (fun env H => ∃ n', n' < l.length ∧ AtP Es Hp stepE stepN G enc h0 n' env H) Q)) : TC P h0 N (.loop c) env H Q :=
 TC.loopI (I := AtP Es Hp stepE stepN G enc h0) (fun n env H ⟨s, l, hn, ha, hle⟩ => by subst hn; exact TC.le hle (body s l ha)) ⟨s0, l0, rfl, h, hI⟩
theorem perm_lift {α β : Type} {f : α → β} : ∀ {m m' : List β}, m.Perm m' → ∀ {l : List α}, m' = l.map f → ∃ l' : List α, l'.Perm l ∧ l'.map f = m := by
 intro m m' h
 induction h with
 | nil => intro l hl; exact ⟨[], by rw [List.map_eq_nil_iff.1 hl.symm], rfl⟩
 | cons x _ ih =>
  intro l hl
  cases l with
  | nil => cases hl
  | cons a l =>
   simp only [List.map_cons, List.cons.injEq] at hl
   obtain ⟨l', h1, h2⟩ := ih hl.2
   exact ⟨a :: l', h1.cons _, by simp [h2, hl.1]⟩
 | swap x y m =>
  intro l hl
  match l, hl with
  | a :: b :: l, hl =>
   simp only [List.map_cons, List.cons.injEq] at hl
   exact ⟨b :: a :: l, List.Perm.swap _ _ _, by simp [hl.1, hl.2.1, hl.2.2]⟩
 | trans _ _ ih1 ih2 =>
  intro l hl
  obtain ⟨l1, h1, h2⟩ := ih2 hl
  obtain ⟨l2, h3, h4⟩ := ih1 h2.symm
  exact ⟨l2, h3.trans h1, h4⟩
theorem WO.nextP {all : Array Oper} {L : List Oper} {d i : Nat} {x : Operand} {cur : Option (A × A)} {s : S} {l : List E} (hl : AllP stepE stepN G s l)
  (k0 : ∀ b, stepN s = some b → G b → WO P h0 N all L (up env d (.tup [.bool false])) H Q)
  (k1 : ∀ e l' D, stepE s e = some D → (∀ b, D = .done b → G b) → (l'.length < l.length ∧ ∀ s', D = .cont s' → AllP stepE stepN G s' l') →
   WO P h0 N all L (up env d (.tup [.bool true, (enc e).1, (enc e).2])) (H.set i (.iter (some (enc e)) (l'.map enc))) Q)
  (ho : o.op = .next x false := by exact rfl) (hx : opA env x = .ptr i 0 := by exact rfl) (hH : H[i]? = some (.iter cur (l.map enc)) := by exact rfl)
  (hg : wantedA all o env true := by exact rfl) (hd : o.dst = some d := by exact rfl) (hN : Nat.blt d N = true := by exact rfl) (hh : Nat.ble h0 H.length = true := by exact rfl) : WO P h0 N all (o :: L) env H Q := by
 refine WO.opE (Nat.le_of_ble_eq_true hh) hg hd hN (OpE.next ho hx hH) ?_
 rintro v H' (⟨h1, rfl, rfl⟩ | ⟨e, es', h1, rfl, rfl⟩)
 ·have : l = [] := List.map_eq_nil_iff.1 h1
  subst this
  obtain ⟨b, q1, q2⟩ := hl [] (.refl _)
  exact k0 b q1 q2
 ·obtain ⟨l1, q1, q2⟩ := perm_lift h1 rfl
  cases l1 with
  | nil => cases q2
  | cons a l' =>
   simp only [List.map_cons, List.cons.injEq] at q2
   obtain ⟨rfl, rfl⟩ := q2
   have hlen : l'.length < l.length := by rw [← q1.length_eq]; simp
   have hstep : ∀ p, p.Perm l' → ∃ b, runP stepE stepN s (a :: p) = some b ∧ G b := fun p hp => hl _ ((hp.cons a).trans q1)
   cases hD : stepE s a with
   | none =>
    obtain ⟨b, hb, _⟩ := hstep l' (.refl _)
    simp [runP, hD] at hb
   | some D =>
    refine k1 a l' D hD ?_ ⟨hlen, ?_⟩
    ·rintro b rfl
     obtain ⟨b', hb, hG⟩ := hstep l' (.refl _)
     simp [runP, hD] at hb
     subst hb; exact hG
    ·rintro s' rfl p hp
     obtain ⟨b', hb, hG⟩ := hstep p hp
     simp [runP, hD] at hb
     exact ⟨b', hb, hG⟩
theorem mloopN {s : S} {l l' : List E} {D : Ctl S B} (e : some (Ctl.cont s) = some D) (hc : l'.length < l.length ∧ ∀ s', D = .cont s' → AllP stepE stepN G s' l') (h : Le h0 env H (Es s) (Hp s (l'.map enc))) :
  LoopPostM (fun env H => ∃ n', n' < l.length ∧ AtP Es Hp stepE stepN G enc h0 n' env H) Q .normal env H :=
 ⟨_, hc.1, s, l', rfl, hc.2 _ (Option.some.inj e).symm, h⟩
theorem mloopX {I : Env → Heap → Prop} {id : Nat} (h : Q (.exit id) env H) : LoopPostM I Q (.exit id) env H := h
end
def CutGP {B : Type} (h0 : Nat) (G : B → Prop) (Eb : B → Env) (Hb : B → Heap) (Q : Post) : Post
 | .normal, env, H => ∃ b, G b ∧ Le h0 env H (Eb b) (Hb b)
 | .exit id, env, H => Q (.exit id) env H
 | .ret, env, H => Q .ret env H
theorem TC.cutG {S E B : Type} {stepE : S → E → Option (Ctl S B)} {stepN : S → Option B} {G : B → Prop} {s0 : S} {l0 : List E} (hl : AllP stepE stepN G s0 l0) (Eb : B → Env) (Hb : B → Heap)
  (h : TC P h0 N c env H (CutGP h0 G Eb Hb Q)) (k : ∀ b env H, G b → Le h0 env H (Eb b) (Hb b) → Q .normal env H) : TC P h0 N c env H Q :=
 h.mono fun x env' H' q => by
  cases x with
  | normal => obtain ⟨b, e, q⟩ := q; exact k b _ _ e q
  | exit id => exact q
  | ret => exact q
theorem cutGN {B : Type} {G : B → Prop} {Eb : B → Env} {Hb : B → Heap} {b : B} (hG : G b) (h : Le h0 env H (Eb b) (Hb b)) : CutGP h0 G Eb Hb Q .normal env H := ⟨b, hG, h⟩
theorem Le.forget {i : Nat} {cur : Option (A × A)} {es : List (A × A)} {H' : Heap} (hH : H[i]? = some (.iter cur es)) (hH' : H.set i (.iter none es) = H') : Le h0 env H env H' := by
 subst hH'
 intro fr ro σ N a w r
 refine ⟨ro, σ, ⟨r.sim.weaken (x' := .iter none es) hH rfl ?_, r.env, r.size, r.defers⟩, fun _ q => q, rfl⟩
 intro y h
 cases y with
 | none => exact h
 | some b =>
  rcases h with ⟨h1, h2, h3⟩ | ⟨m, l, clock, seen, left, h1, h2, h3, h4, h5, h6, h7, h8⟩
  ·exact .inl ⟨h1, rfl, h3⟩
  ·exact .inr ⟨m, l, clock, seen, left, h1, h2, h3, h4, h5, h6, h7, fun x hx => by cases hx⟩
end
end Go.Sw
